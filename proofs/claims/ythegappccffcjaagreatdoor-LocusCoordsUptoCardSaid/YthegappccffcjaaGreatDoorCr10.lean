/- Part 11 of a proof. Conditions: each theorem's own. -/
import Derived.Test.YthegappccffcjaaGreatDoorCr09
set_option linter.all false
set_option maxHeartbeats 80000000
set_option maxRecDepth 20000
open Go.Proofs
namespace Go.Abs
open Go.RowKit
section
theorem iT {TT:AH->Prop} {R K S:Nat} (G:Dp TT R K S) {L:List (el AR)} {ns:List (AH×Re)} (Q:∀n∈ns,TT n.1) (hL:L=ns.map nm) (ar:∀n∈ns,El n.1 S n.2) (hlen:ns.length<=1000000) {O:List (el AR)} (hO:O=ns.map (fun n=>nm (Ct ns,n.2))):CF 175 [.one (.sl AR L)] (.BN [(false,[.sl AR O]),(false,[.int .i64 0])]):=by
 have b1:L.length=ns.length:=by rw[hL,List.length_map]
 have J:TT (Ct ns):=G.Ct Q;refine AN Tryz.func175 fun E hE=>?_
 refine Bc [(4,.sl AL,false)] [0,4,5] [] (fun vs bl k=>∃(Ti:List LR) (i':Nat) (i:Int),vs=[.one (.sl AR L),BL Ti,AD i]/\bl=[]/\(Ah i i'/\i'<=L.length)/\Ti=tw (Ct (ns.take i'))/\k=L.length-i') L.length ⟨[],0,0,rfl,rfl,⟨BJ 0,AA⟩,rfl,rfl⟩ ?_;rintro J0 P vs bl b5 ⟨Ti,i',i,rfl,rfl,⟨hi,aK⟩,h,b2⟩;conv=>cbv
 have ei:=hi.eq;have aL:(Ct (ns.take i')).length=List.length (α:=LR) Ti:=by rw[h,Cr]
 rintro b7 ⟨aZ,f17⟩;conv=>cbv
 refine Bt (fun aM=>?_) fun aM=>?_
 ·refine Bc [(9,AR,true)] [0,4,9,10] [9] (fun vs bl k=>∃(T:List LR) (o:List (el AR)) (mm i':Nat) (i:Int),vs=[.one (.sl AR L),BL T,.one (.BK AR 9 0 0 mm),AD i]/\bl=[.arr 0 AR o]/\(Ah i i'/\i'<=L.length/\mm=o.length)/\T=tw (Ct ns)/\o=(ns.take i').map (fun n=>nm (Ct ns,n.2))/\k=L.length-i') L.length ⟨Ti,[],0,0,0,rfl,rfl,⟨BJ 0,Nat.zero_le _,rfl⟩,by rw[h,List.take_of_length_le (AA:ns.length<=i')],rfl,rfl⟩ ?_;rintro J1 aq vs bl b6 ⟨T,o,mm,i',i,rfl,rfl,⟨hi,aK,ad⟩,hT,hinv,b3⟩;conv=>cbv
  have ei:=hi.eq;have b4:o.length<=L.length:=by rw[hinv,List.length_map,List.length_take];omega
  rintro b8 ⟨b0,f69⟩;conv=>cbv
  refine Bt (fun aO=>?_) fun aO=>?_
  ·exact AM ⟨⟨rfl,.inl ⟨_,rfl,AA,congrArg _ (by rw[hO,ad,hinv,List.drop_zero,List.take_length,List.take_of_length_le (AA:ns.length<=i')])⟩,trivial⟩,t2,trivial⟩
  refine .inr ?_;refine BH i' fun a2 H=>?_
  try conv=>cbv
  obtain⟨u,y,d,af,I⟩:=Jb hL H;have M:=List.mem_of_getElem? I;have hu:TT u:=Q _ M;have ag:El u S y:=ar _ M;have av:List.length (α:=LR) a2.1=u.length:=by rw[d,Cr]
  have au:Br u (Ct ns):=Th G.toGam Q _ M;obtain⟨wC,a1⟩:=xR (em (Ct ns) y);obtain⟨aC,a5⟩:=FC (u<:+Ct ns);refine AB hE (PU (G.Bb J) (G.Bb hu) hT d a5) ?_;refine .inr ?_;cases aC <;> conv=>cbv
  ·refine BH i' fun aW aA=>?_
   try conv=>cbv
   have aI:aW=a2:=Option.some.inj (aA.symm.trans H);obtain⟨aR,aw⟩:=xV (tw (Ct ns));obtain⟨aS,a7⟩:=xV (Fs (Ct ns) u);have a6:=UE (G.Bb J).red (G.Bb hu).red au;refine AB (r:= .BN [(false,[BA aR]),(false,[BA aS]),(false,[.int .i64 0])]) hE (SY G J hu hT (by rw[aI];exact d) (by rw[a6];exact aw) a7) ?_;refine BH i' fun aB ae=>?_
   try conv=>cbv
   have ao:aB=a2:=Option.some.inj (ae.symm.trans H);refine AB (r:= .one (AU wC)) hE (jH G.toGam J hu au hT (by rw[a7];have:=Og (G.Bb J).red (G.Bb hu).red;rwa [a6] at this) (by rw[ao];exact af) ag a1) ?_;refine⟨[(T,wC)],DK,.inr ?_⟩;try conv=>cbv
   refine .inl ⟨[(T,wC)],fun _=>⟨rfl,ad,rfl,C2 (o.length+1) 48⟩,?_⟩;intro (f:List (el AR)) p g;have t:f=(o:List (el AR))++([(T,wC)]:List (el AR)):=g.1;have w:p=List.length (α:=(el AR)) f:=g.2;refine AP ?_;intro ah aJ;exact Bz aq ⟨T,f,p,i'+1,ah,rfl,rfl,⟨⟨AA⟩,AA,w⟩,hT,by rw[t,hinv,EI I,List.map_append];simp[nm,hT,a1],rfl⟩
  refine BH i' fun aV az=>?_
  try conv=>cbv
  have aH:aV=a2:=Option.some.inj (az.symm.trans H);refine AB (r:= .one (AU wC)) hE (Sc (G.Bb J) hT (by rw[aH];exact af) ag.mem (a5.1 rfl) a1) ?_;refine⟨[(T,wC)],DK,.inr ?_⟩;try conv=>cbv
  refine .inl ⟨[(T,wC)],fun _=>⟨rfl,ad,rfl,C2 (o.length+1) 48⟩,?_⟩;intro (f:List (el AR)) p g;have t:f=(o:List (el AR))++([(T,wC)]:List (el AR)):=g.1;have w:p=List.length (α:=(el AR)) f:=g.2;refine AP ?_;intro ah aJ;exact Bz aq ⟨T,f,p,i'+1,ah,rfl,rfl,⟨⟨AA⟩,AA,w⟩,hT,by rw[t,hinv,EI I,List.map_append];simp[nm,hT,a1],rfl⟩
 refine .inr ?_;refine BH i' fun D b=>?_
 try conv=>cbv
 obtain⟨u,y,d,af,I⟩:=Jb hL b;have M:=List.mem_of_getElem? I;have hu:TT u:=Q _ M;have ag:El u S y:=ar _ M;have av:List.length (α:=LR) D.1=u.length:=by rw[d,Cr]
 have B:=Zw I;unfold Fk at B
 dsimp only at B
 have U:TT (Ct (ns.take i')):=G.Ct (fun n hn=>Q n (List.mem_of_mem_take hn));rintro aP ⟨aD,f26⟩;conv=>cbv
 have aY:aP=(u.length:Int):=aD.trans (congrArg (fun n:Nat=>(n:Int)) av);rintro aQ ⟨aE,f28⟩;conv=>cbv
 have aX:aQ=((Ct (ns.take i')).length:Int):=aE.trans (congrArg (fun n:Nat=>(n:Int)) aL.symm);refine Fw (fun aN=>?_) fun aN=>?_
 ·refine .inr ?_;refine BH i' fun ak X=>?_
  try conv=>cbv
  have aa:ak=D:=Option.some.inj (X.symm.trans b);obtain⟨a8,a⟩:=FC (u<:+(Ct (ns.take i')));refine AB (r:= .one (.bool a8)) hE (PU (G.Bb U) (G.Bb hu) h (by rw[aa];exact d) a) ?_;intro Eh N;refine .inr ?_;cases Eh <;> conv=>cbv
  ·have j:=HN N;refine AP ?_;intro l Z;exact Bz P ⟨_,i'+1,l,rfl,rfl,⟨⟨AA⟩,AA⟩,by rw[B,if_pos (a.1 j),<-h],rfl⟩
  have j:=HO N;refine BH i' fun al Y=>?_
  try conv=>cbv
  have ab:al=D:=Option.some.inj (Y.symm.trans b);obtain⟨ai,m⟩:=xV (tw (ext (Ct (ns.take i')) u));obtain⟨aj,W⟩:=xV (Fs (Ct (ns.take i')) u);refine AB (r:= .BN [(false,[BA ai]),(false,[BA aj]),(false,[.int .i64 0])]) hE (SY G U hu h (by rw[ab];exact d) m W) ?_;refine AY ?_;intro l Z;exact Bz P ⟨_,i'+1,l,rfl,rfl,⟨⟨AA⟩,AA⟩,by rw[B,if_neg (fun q=>by have:=a.2 q;rw[j] at this;cases this),if_neg (fun z=>by first | (have:=F.2 z;cases this) | exact absurd (show u<:+Ct (List.take i' ns) from by rw[z.eq_of_length_le AA];exact List.suffix_refl _) (fun q=>by have:=a.2 q;rw[j] at this;cases this)),m],rfl⟩
 refine BH i' fun aT ax=>?_
 try conv=>cbv
 have aF:aT=D:=Option.some.inj (ax.symm.trans b);obtain⟨an,F⟩:=FC ((Ct (ns.take i'))<:+u);refine AB (r:= .one (.bool an)) hE (PU (G.Bb hu) (G.Bb U) (by rw[aF];exact d) h F) ?_;refine .inr ?_;cases an <;> conv=>cbv
 ·refine BH i' fun ak X=>?_
  try conv=>cbv
  have aa:ak=D:=Option.some.inj (X.symm.trans b);obtain⟨a8,a⟩:=FC (u<:+(Ct (ns.take i')));refine AB (r:= .one (.bool a8)) hE (PU (G.Bb U) (G.Bb hu) h (by rw[aa];exact d) a) ?_;intro Eh N;refine .inr ?_;cases Eh <;> conv=>cbv
  ·have j:=HN N;refine AP ?_;intro l Z;exact Bz P ⟨_,i'+1,l,rfl,rfl,⟨⟨AA⟩,AA⟩,by rw[B,if_pos (a.1 j),<-h],rfl⟩
  have j:=HO N;refine BH i' fun al Y=>?_
  try conv=>cbv
  have ab:al=D:=Option.some.inj (Y.symm.trans b);obtain⟨ai,m⟩:=xV (tw (ext (Ct (ns.take i')) u));obtain⟨aj,W⟩:=xV (Fs (Ct (ns.take i')) u);refine AB (r:= .BN [(false,[BA ai]),(false,[BA aj]),(false,[.int .i64 0])]) hE (SY G U hu h (by rw[ab];exact d) m W) ?_;refine AY ?_;intro l Z;exact Bz P ⟨_,i'+1,l,rfl,rfl,⟨⟨AA⟩,AA⟩,by rw[B,if_neg (fun q=>by have:=a.2 q;rw[j] at this;cases this),if_neg (fun z=>by first | (have:=F.2 z;cases this) | exact absurd (show u<:+Ct (List.take i' ns) from by rw[z.eq_of_length_le AA];exact List.suffix_refl _) (fun q=>by have:=a.2 q;rw[j] at this;cases this)),m],rfl⟩
 refine BH i' fun aU ay=>?_
 try conv=>cbv
 have aG:aU=D:=Option.some.inj (ay.symm.trans b);refine AP ?_;intro l Z;exact Bz P ⟨_,i'+1,l,rfl,rfl,⟨⟨AA⟩,AA⟩,by rw[B,if_neg (fun z=>by have:=z.length_le;omega),if_pos (F.1 rfl),aG];exact d,rfl⟩
end
section
abbrev Nu:=AH×Re
def C7 (q:Rat):Prop:=q.num.natAbs<18446744073709551616/\q.den<18446744073709551616
theorem Yz:∀{a:List Rat},(∀q∈a,C7 q)->∃D:Nat,0<D/\D<=2^(64*a.length)/\DN D a
 | [],_=>⟨1,AF,AZ,fun q d=>by simp at d⟩
 | q::a,h=>by
  obtain⟨D,f,g,i⟩:=Yz (a:=a) (fun x b=>h x (List.mem_cons_of_mem _ b));have d:=(h q List.mem_cons_self).2;refine⟨q.den*D,Nat.mul_pos q.den_pos f,?_,fun x b=>?_⟩
  ·have:=Nat.mul_le_mul (AA:q.den<=2^64) g;rw[<-Nat.pow_add] at this;rw[List.length_cons,(AA:64*(a.length+1)=64+64*a.length)];exact this
  rcases List.mem_cons.1 b with rfl | b
  ·refine⟨x.num*D,?_⟩;rw[Rat.intCast_mul,<-Mu x,IL];have:((D:Int):Rat)=(D:Rat):=rfl
   grind
  exact i.dvd ⟨q.den,by grind⟩ x b
theorem pD {q:Rat} {B:Nat} (h:q.num.natAbs<=B): -(B:Rat)<=q/\q<=B:=by
 have g:1<=q.den:=q.den_pos;have i:B*1<=B*q.den:=Nat.mul_le_mul_left B g
 have key:q.num<=(B:Int)*q.den/\ -((B:Int)*q.den)<=q.num:=by
  have:((B*q.den:Nat):Int)=(B:Int)*q.den:=Int.natCast_mul _ _;omega
 have e:=Mu q
 have d:(0:Rat)<q.den:=by
  have:((0:Nat):Rat)<(q.den:Rat):=Rat.natCast_lt_natCast.2 q.den_pos;simpa using this
 have k1:(q.num:Rat)<=(B:Rat)*q.den:=by
  have:=Rat.intCast_le_intCast.2 key.1;rw[Rat.intCast_mul] at this;exact this
 have k2: -((B:Rat)*q.den)<=(q.num:Rat):=by
  have:=Rat.intCast_le_intCast.2 key.2;rw[Rat.intCast_neg,Rat.intCast_mul] at this;exact this
 rw[<-e] at k1 k2
 constructor
 ·apply Classical.byContradiction;intro f;have:=Rat.mul_pos (a:= -(B:Rat)-q) (b:=q.den) (by grind) d
  grind
 apply Classical.byContradiction;intro f;have:=Rat.mul_pos (a:=q-(B:Rat)) (b:=q.den) (by grind) d
 grind
theorem Nk {a:List Rat} (h:∀q∈a,C7 q):Bd (64*a.length) a:=by
 obtain⟨D,d,f,g⟩:=Yz h;refine⟨D,d,f,g,fun q b=>?_⟩;have i:1<=a.length:=List.length_pos_of_mem b;exact pD (Nat.le_trans (Nat.le_of_lt (h q b).1) (show 2^64<=2^(64*a.length) from DI))
structure DG (V:List Re) (n:Nu):Prop where
 red:BG n.1
 mem:In n.1 n.2
 BS:∀v∈BS n.1,v∈V
 Jq:∀s∈n.1,∀q∈s,C7 q
 cos:∀q∈co n.1 n.2,C7 q
theorem DG.mono {V a:List Re} {n:Nu} (h:DG V n) (hV:∀v∈V,v∈a):DG a n:=⟨h.red,h.mem,fun v b=>hV v (h.BS v b),h.Jq,h.cos⟩
theorem DG.len {V:List Re} {n:Nu} (h:DG V n):n.1.length<=V.length:=by rw[<-Jy];exact Jk (Hs h.red) h.BS
theorem VU:∀{u:AH} {r:List Rat},BG u->r∈u->2*r.length<=2^u.length
 | [],_,_,h=>by simp at h
 | s::u,r,h,a=>by
  rw[Cg];rcases List.mem_cons.1 a with rfl | a
  ·rw[h.2.1];omega
  have:=VU h.1 a;omega
theorem fU {u w:AH} (h:u<:+w):∀v∈BS u,v∈BS w:=by
 obtain⟨t,rfl⟩:=h
 induction t with
 | nil=>exact fun v a=>a
 | cons r t b=>exact fun v a=>List.mem_cons_of_mem _ (b v a)
def PN (ns:List Nu) (u:AH):Prop:=∃n∈ns,u<:+n.1
section
variable {V:List Re} {ns:List Nu}
theorem bY {k:Nat} (h:k<=3):2^k<=8:=DI h
theorem PN.KL (hV:V.length<=3) (h:∀n∈ns,DG V n):Ci (PN ns) 256:=by
 refine⟨fun {u} ⟨n,a,d⟩=>Vg d (h n a).red,fun {u} ⟨n,a,d⟩=>fun r f=>?_,fun {r u} ⟨n,a,d⟩=>⟨n,a,(List.suffix_cons r u).trans d⟩⟩;have b:=d.subset f;have g:=VU (h n a).red b;have i:=bY (Nat.le_trans (h n a).len hV);exact (Nk ((h n a).Jq r b)).mono AA
theorem PN.BS (h:∀n∈ns,DG V n) {u:AH} (hu:PN ns u):∀v∈BS u,v∈V:=by
 obtain⟨n,a,b⟩:=hu;exact fun v d=>(h n a).BS v (fU b v d)
theorem PN.self {n:Nu} (a:n∈ns):PN ns n.1:=⟨n,a,List.suffix_refl _⟩
end
theorem DG.el {V:List Re} {n:Nu} (h:DG V n) (hV:V.length<=3):El n.1 512 n.2:=by
 refine⟨h.mem,(Nk h.cos).mono ?_⟩;have a:=bY (Nat.le_trans h.len hV);rw[Dg h.mem];omega
abbrev Rm:Nat:=93478
abbrev Cm:Nat:=53200000
abbrev Sm:Nat:=500000000000
theorem rB:RR 256 3<=Rm:=by decide +kernel
theorem kv:CC 3 Rm 3 Rm<=Cm:=by decide +kernel
theorem mR:∀h,h<=3->Fit h Rm (Sm+Cm)
 |0,_|1,_|2,_|3,_=>⟨by decide +kernel,by decide +kernel,by decide +kernel,by decide +kernel⟩
 | _+4,h=>absurd h AA
theorem mN:∀h,h<=3->FQ h Rm (Sm+Cm)
 |0,_|1,_|2,_|3,_=>⟨by decide +kernel,by decide +kernel,by decide +kernel,by decide +kernel⟩
 | _+4,h=>absurd h AA
theorem o6:2*(Sm+Cm)+EE 3 Rm<=60000000000000:=by decide +kernel
theorem ZP {P:AH->Prop} (I:Ci P 256) (hm:∀{u},Tf P u->u.length<=3) {S:Nat} (a:Rm<=S) (d:S<=Sm):Dp (Tf P) Rm Cm S:=
 {Tf.UM I hm rB a kv (fun h b=>(mR h b).mono AA) (Nat.le_trans AA o6) with IT:=fun {u} hu=>(mN _ (hm hu)).mono AA}
open Classical in
noncomputable def BU (x:Re):Re:=if h:x≠0 then Classical.choose (Re.OF h) else 0
theorem Fj {x:Re} (h:x≠0):x*BU x=1:=by
 unfold BU;rw[dif_pos h];exact Classical.choose_spec (Re.OF h)
theorem Qe {u:AH} {x:Re} (hu:BG u) (b:In u x) (a:x≠0):In u (BU x):=by
 obtain⟨y,d,e⟩:=Ey hu b a;have e2:=Fj a
 rw[show BU x=y by
  have:BU x=BU x*(x*y):=by rw[e];grind
  rw[this];have:BU x*(x*y)=(x*BU x)*y:=by grind
  rw[this,e2];grind]
 exact d
open Classical in
noncomputable def ED (x:Re):Re:=if x<0 then -x else x
theorem L4 (x:Re):0<=ED x:=by unfold ED;split <;> grind
theorem Zg {u:AH} {x:Re} (a:In u x):In u (ED x):=by unfold ED;split;exact HE a;exact a
open Classical in
noncomputable def HR (n:Nu):Nu:=if h:BG n.1/\In n.1 n.2 then (Classical.choose (WK h.1 h.2 (Nat.le_refl _)),n.2) else n
theorem WJ {n:Nu} (a:BG n.1) (b:In n.1 n.2):Ig n.1.length (n.1.reverse,co n.1 n.2)=((HR n).1.reverse,co (HR n).1 (HR n).2)/\JJ n.1 n.2 (HR n).1/\(HR n).2=n.2:=by
 unfold HR;rw[dif_pos ⟨a,b⟩];have:=Classical.choose_spec (WK a b (Nat.le_refl _));exact⟨this.1,this.2,rfl⟩
def J7 (n:Nu):Prop:=(∃q∈co n.1 n.2,¬C7 q)\/∃s∈n.1,∃q∈s,¬C7 q
noncomputable def FY (k:Nat) (a b:Nu) (roots:Nat):Nu×Nat:=by
 classical
 exact if k=1 then ((CD a.1 b.1,a.2+b.2),roots)
 else if k=2 then ((CD a.1 b.1,a.2-b.2),roots)
 else if k=3 then ((CD a.1 b.1,a.2*b.2),roots)
 else if k=4 then (if b.2=0 then a else (CD a.1 b.1,a.2*BU b.2),roots)
 else if roots<3 then ((BW a.1 (ED a.2),Re.sqrt (ED a.2)),roots+1) else (a,roots)
def NM:Nu:=([],0)
noncomputable def Ev (l:List Nu) (i:Nat):Nu:=l.getD (i%l.length) NM
def Lr (n:Int):Int:=(n+9223372036854775808)%18446744073709551616-9223372036854775808
theorem WR (n:Int): -9223372036854775808<=Lr n/\Lr n<9223372036854775808:=by unfold Lr;omega
def H6 (o:el DT):Rat:=Rat.divInt (Lr o.2.2.2.1) ((o.2.2.2.2.toNat%8+1:Nat):Int)
noncomputable def Ea (st:List Nu×Nat) (o:el DT):Nu×Nat:=by
 classical
 exact if st.1=[]\/o.1.toNat%6=0 then (([],Re.ofRat (H6 o)),st.2) else FY (o.1.toNat%6) (Ev st.1 o.2.1.toNat) (Ev st.1 o.2.2.1.toNat) st.2
noncomputable def HF (l:List Nu) (x:Nu):Nu:=by
 classical
 exact if l≠[]/\J7 x then l.getLastD NM else x
noncomputable def Jv (st:List Nu×Nat) (o:el DT):List Nu×Nat:=(st.1++[HR (HF st.1 (Ea st o).1)],(Ea st o).2)
noncomputable def runN (xs:List (el DT)):List Nu×Nat:=xs.foldl Jv ([],0)
theorem cY (xs:List (el DT)) (o:el DT):runN (xs++[o])=Jv (runN xs) o:=by rw[runN,List.foldl_append];rfl
def Lw (st:List Nu×Nat):Prop:=st.2<=3/\∃V:List Re,V.length<=st.2/\∀n∈st.1,DG V n
theorem DG.trim {V:List Re} {n:Nu} (h:DG V n):DG V (HR n):=by
 obtain⟨_,t,e⟩:=WJ h.red h.mem;refine⟨t.red,by rw[e];exact t.mem,fun v g=>h.BS v (t.BS v g),fun s f q a=>?_,fun q a=>?_⟩
 ·obtain⟨i,d,b⟩:=t.Jq s f;exact h.Jq i d q (b q a)
 rw[e] at a;exact h.cos q (t.cos q a)
theorem DG.pW {V:List Re} {n:Nu} (d:BG n.1) (f:In n.1 n.2) (h3:∀v∈Go.Abs.BS n.1,v∈V) (h:¬J7 n):DG V n:=
 ⟨d,f,h3,fun s g q b=>Classical.byContradiction fun a=>h (.inr ⟨s,g,q,b,a⟩),fun q b=>Classical.byContradiction fun a=>h (.inl ⟨q,b,a⟩)⟩
theorem QY {l:List Nu} (h:l≠[]) (i:Nat):Ev l i∈l:=by
 have:i%l.length<l.length:=Nat.mod_lt _ (List.length_pos_iff.2 h);unfold Ev;rw[List.getD_eq_getElem?_getD,List.getElem?_eq_getElem this];exact List.getElem_mem this
theorem oR {l:List Nu} (h:l≠[]):l.getLastD NM∈l:=by
 cases l with
 | nil=>exact absurd rfl h
 | cons a l=>rw[List.getLastD_cons];cases l with
  | nil=>exact List.mem_cons_self
  | cons b l=>rw[List.getLastD_eq_getLast?];exact List.mem_cons_of_mem _ (by
   rw[List.getLast?_eq_some_getLast AZ];exact List.getLast_mem _)
section
variable {V:List Re} {ns:List Nu}
theorem Hz (hV:V.length<=3) (h:∀n∈ns,DG V n) {S:Nat} (a:Rm<=S) (b:S<=Sm:=by first|omega|decide):Dp (Tf (PN ns)) Rm Cm S:=
 ZP (PN.KL hV h) (fun {u} hu=>Nat.le_trans (hu.len (PN.KL hV h) (fun d=>PN.BS h d)) hV) a b
theorem F6 (hV:V.length<=3) (h:∀n∈ns,DG V n) {n:Nu} (a:n∈ns):Tf (PN ns) n.1:=Tf.of (PN.KL hV h) (PN.self a)
structure NS (V:List Re) (n:Nu):Prop where
 red:BG n.1
 mem:In n.1 n.2
 BS:∀v∈BS n.1,v∈V
theorem NS.RD (hV:V.length<=3) (h:∀n∈ns,DG V n) {n:Nu} (ht:Tf (PN ns) n.1) (hm:In n.1 n.2):NS V n:=
 ⟨ht.red (PN.KL hV h),hm,ht.BS (PN.KL hV h) (fun a=>PN.BS h a)⟩
theorem DG.cI {n:Nu} (h:DG V n):NS V n:=⟨h.red,h.mem,h.BS⟩
theorem mJ (hV:V.length<=3) (h:∀n∈ns,DG V n) {a b:Nu} (ha:a∈ns) (hb:b∈ns):Tf (PN ns) (CD a.1 b.1)/\In (CD a.1 b.1) a.2/\In (CD a.1 b.1) b.2:=by
 have G:=(Hz hV h (Nat.le_refl Rm)).toGam;obtain⟨d,f,h3⟩:=G.CD (F6 hV h ha) (F6 hV h hb);exact⟨d,f _ (h a ha).mem,h3 _ (h b hb).mem⟩
theorem fT {u:AH} {v:Re} (d:In u v):∀x∈BS (BW u v),x=v\/x∈BS u:=by
 by_cases b:Sq u v
 ·rw[Ec b];exact fun x a=> .inr a
 rw[Dv b];intro x a;rcases List.mem_cons.1 a with rfl | a
 ·exact .inl (FE d)
 exact .inr a
theorem HQ {u:AH} {v:Re} (h:BG u) (a:In u v) (d:0<=v):BG (BW u v):=by
 by_cases b:v=0
 ·subst b;rw[Ec ⟨0,Cs u,by grind⟩];exact h
 exact Vc h a (by grind)
theorem Oc {st:List Nu×Nat} (h:Lw st) (o:el DT):(Ea st o).2<=3/\∃V,V.length<=(Ea st o).2/\(∀n∈st.1,DG V n)/\NS V (Ea st o).1:=by
 obtain⟨h3,V,hV,d⟩:=h;have f:=Nat.le_trans hV h3;unfold Ea
 split
 ·exact⟨h3,V,hV,d,trivial,⟨[H6 o],rfl,rfl⟩,fun v i=>by simp[Go.Abs.BS] at i⟩
 rename_i w
 have j:st.1≠[]:=fun e=>w (.inl e)
 have ha:=QY j o.2.1.toNat;have hb:=QY j o.2.2.1.toNat
 generalize Ev st.1 o.2.1.toNat=a at*
 generalize Ev st.1 o.2.2.1.toNat=b at*
 obtain⟨l,m,p⟩:=mJ f d ha hb;have t:=l.red (PN.KL f d);unfold FY
 split
 ·exact⟨h3,V,hV,d,.RD f d l (EM m p)⟩
 split
 ·exact⟨h3,V,hV,d,.RD f d l (GM m p)⟩
 split
 ·exact⟨h3,V,hV,d,.RD f d l (BO t m p)⟩
 split
 ·refine⟨h3,V,hV,d,?_⟩
  dsimp only
  split
  ·exact (d a ha).cI
  rename_i r
  exact .RD f d l (BO t m (Qe t p r))
 split
 ·rename_i z
  have g:=Zg (d a ha).mem;refine⟨by show st.2+1<=3;omega,ED a.2::V,by show _+1<=st.2+1;omega,fun n hm=>(d n hm).mono fun v i=>List.mem_cons_of_mem _ i,HQ (d a ha).red g (L4 _),Sh g (L4 _),fun v i=>?_⟩;rcases fT g v i with rfl | i
  ·exact List.mem_cons_self
  exact List.mem_cons_of_mem _ ((d a ha).BS v i)
 exact⟨h3,V,hV,d,(d a ha).cI⟩
end
theorem sr {n:Int} {d:Nat} (a:n.natAbs<18446744073709551616) (b:0<d) (GB:d<18446744073709551616):C7 (Rat.divInt n d):=by
 have e:(Rat.divInt n d)=mkRat n d:=Rat.divInt_ofNat n d;rw[e]
 constructor
 ·have:=Rat.num_mkRat n d;rw[this]
  split
  ·simp
  refine Nat.lt_of_le_of_lt ?_ a;exact Int.natAbs_ediv_le_natAbs _ _
 have:=Rat.den_mkRat n d;rw[this]
 split
 ·decide
 exact Nat.lt_of_le_of_lt (Nat.div_le_self _ _) GB
theorem Ua {V:List Re} {l:List Nu} {x:Nu} (f:∀n∈l,DG V n) (a:NS V x) (d:l=[]->¬J7 x):DG V (HF l x):=by
 unfold HF
 split
 ·rename_i h;exact f _ (oR h.1)
 rename_i h
 refine .pW a.red a.mem a.BS fun b=>?_
 by_cases he:l=[]
 ·exact d he b
 exact h ⟨he,b⟩
theorem VZ (o:el DT):¬J7 ([],Re.ofRat (H6 o)):=by
 have f:C7 (H6 o):=sr (by have:=WR o.2.2.2.1;omega) AA AA;rintro (⟨q,d,b⟩ |⟨s,a,_⟩)
 ·rw[Ed] at d;rw[List.mem_singleton.1 d] at b;exact b f
 simp at a
theorem tW {st:List Nu×Nat} (h:Lw st) (o:el DT):Lw (Jv st o):=by
 obtain⟨b,V,d,h3,f⟩:=Oc h o;refine⟨b,V,d,fun n a=>?_⟩;rcases List.mem_append.1 a with a | a
 ·exact h3 n a
 rw[List.mem_singleton.1 a];refine (Ua h3 f fun he=>?_).trim;have:(Ea st o).1=([],Re.ofRat (H6 o)):=by unfold Ea;rw[if_pos (.inl he)]
 rw[this];exact VZ o
theorem ch:∀{xs:List (el DT)} {st:List Nu×Nat},Lw st->Lw (xs.foldl Jv st)
 | [],_,h=>h
 | o::xs,_,h=>ch (xs:=xs) (tW h o)
theorem Vt (xs:List (el DT)):Lw (runN xs):=ch ⟨AF,[],AZ,AZ⟩
end
section
variable {A1 A2 C:LR} {K K2 R S S2:Nat} {T T1 T2:List LR} {TT:AH->Prop} {c:Int} {q:Rat} {u v:AH} {x y:Re}
theorem Xf (G:Dp TT R K S) (hu:TT u) (J:TT v) (l:T1=tw u) (m:T2=tw v) (i:A1=em u x) (j:A2=em v y) (M:El u S x) (N:El v S y) {A B:LR} (I:T=tw (CD u v)) (w:A=em (CD u v) x) (D:B=em (CD u v) y):CF 100 [.agg (AK T1 A1),.agg (AK T2 A2)] (.BN [(true,(AK T A)),(true,(AK T B)),(false,[.int .i64 0])]):=by
 obtain⟨O,h⟩:∃z:List (el AR),z=[(T,A),(T,B)]:=⟨_,rfl⟩
 have H:O.length=2:=by rw[h];rfl
 have p:O[0]? =some (T,A):=by rw[h];rfl
 have t:O[1]? =some (T,B):=by rw[h];rfl
 refine AN Tryz.func100 fun E F=>?_
 refine⟨[(T1,A1),(T2,A2)],fun _=>⟨rfl,AF,rfl,⟨rfl,Ds,⟨rfl,Ds,trivial⟩⟩⟩,.inr ?_⟩;try conv=>cbv
 refine AB (r:= .BN [(false,[.sl AR O]),(false,[.int .i64 0])]) F (iT (ns:=[(u,x),(v,y)]) G (by intro n d;simp at d;rcases d with rfl | rfl;exact hu;exact J) (by rw[l,m,i,j];rfl) (by intro n d;simp at d;rcases d with rfl | rfl;exact M;exact N) (by show 2<=1000000;decide) (by rw[h,I,w,D];rfl)) ?_;refine AY ?_;refine BH 0 fun P f=>?_
 try conv=>cbv
 refine BH 1 fun Q g=>?_
 try conv=>cbv
 refine g2 rfl ?_;have a:=Option.some.inj (f.symm.trans p);have b:=Option.some.inj (g.symm.trans t);exact AM ⟨⟨rfl,congrArg _ (by rw[a]),congrArg _ (by rw[a]),trivial⟩,⟨rfl,congrArg _ (by rw[b]),congrArg _ (by rw[b]),trivial⟩,t2,trivial⟩
theorem SR (G:Dp TT R K S) (hu:TT u) (j:TT v) (f:T1=tw u) (g:T2=tw v) (b:A1=em u x) (d:A2=em v y) (t:El u S x) (w:El v S y) (D:T=tw (CD u v)) (z:C=em (CD u v) (x+y)):CF 45 [.agg (AK T1 A1),.agg (AK T2 A2)] (AS (AK T C) 0):=by
 obtain⟨a,h,i⟩:=G.toGam.CD hu j;have l:=G.Cp hu a h t;have m:=G.Cp j a i w;have hmul:=G.mul a;obtain⟨A,n⟩:=Di (em (CD u v) x);obtain⟨B,p⟩:=Di (em (CD u v) y);refine AN Tryz.func45 fun E r=>?_
 refine AB r (Xf G hu j f g b d t w D n p) ?_;refine AY ?_;refine AB r (K4 (G.Bb a) n p l m AA AA z) ?_;exact AM ⟨t3,t2,trivial⟩
theorem SU (G:Dp TT R K S) (hu:TT u) (j:TT v) (f:T1=tw u) (g:T2=tw v) (b:A1=em u x) (d:A2=em v y) (w:El u S x) (z:El v S y) (t:T=tw (CD u v)) (D:C=em (CD u v) (x*y)):CF 32 [.agg (AK T1 A1),.agg (AK T2 A2)] (AS (AK T C) 0):=by
 obtain⟨a,h,i⟩:=G.toGam.CD hu j;have l:=G.Cp hu a h w;have m:=G.Cp j a i z;have hmul:=G.mul a;obtain⟨A,n⟩:=Di (em (CD u v) x);obtain⟨B,p⟩:=Di (em (CD u v) y);refine AN Tryz.func32 fun E r=>?_
 refine AB r (Xf G hu j f g b d w z t n p) ?_;refine AY ?_;refine AB r (FB (G.Bb a) t n p l m AA D) ?_;exact AM ⟨t3,t2,trivial⟩
theorem PS (G:Dp TT R K S) (hu:TT u) (f:T1=tw u) (a:A1=em u x) (g:El u S x) (b:C=em u (-x)):CF 17 [.agg (AK T1 A1)] (.agg (AK T1 C)):=by
 refine AN Tryz.func17 fun E d=>?_
 refine AB d (L3 (G.Bb hu) a g b) ?_;exact AM ⟨t3,trivial⟩
theorem SW (G:Dp TT R K S) (hu:TT u) (h:TT v) (g:T1=tw u) (a:T2=tw v) (d:A1=em u x) (f:A2=em v y) (n:El u S x) (j:El v S y) (m:T=tw (CD u v)) (l:C=em (CD u v) (x-y)):CF 57 [.agg (AK T1 A1),.agg (AK T2 A2)] (AS (AK T C) 0):=by
 refine AN Tryz.func57 fun E i=>?_
 obtain⟨p,b⟩:=Di (em v (-y));refine AB i (PS G h a f j b) ?_;refine AB i (SR G hu h g a d b n (j.neg (G.Bb h).red) m l) ?_;exact AM ⟨t3,t2,trivial⟩
theorem Lz (G:Dp TT R K S) (hu:TT u) (b:T1=tw u) (a:A1=em u x) (g:El u S x) (f:c=CA x):CF 16 [.agg (AK T1 A1)] (AD c):=by
 refine AN Tryz.func16 fun E d=>?_
 refine AB d (iR (G.Bb hu) b a g ((G.IT hu).mono (Nat.le_add_right _ _)).v0 f) ?_;exact AM ⟨t2,trivial⟩
theorem SV (G:Dp TT R K S) (hu:TT u) (b:T1=tw u) (a:A1=em u x) (i:El u S x) (hw:TT (BW u x)) (d:0<=x) (h:T=tw (BW u x)) (f:C=em (BW u x) (Re.sqrt x)):CF 59 [.agg (AK T1 A1)] (AS (AK T C) 0):=by
 refine AN Tryz.func59 fun E g=>?_
 refine AB g (XC (G.Bb hu) (G.Bb hw) (G.ht hw) b a i ((G.IT hu).mono (Nat.le_add_right _ _)) d h f) ?_;refine AY ?_;exact AM ⟨t3,t2,trivial⟩
theorem XG (G:Dp TT R K S) (hu:TT u) (n:TT v) (h:T1=tw u) (b:T2=tw v) (d:A1=em u x) (f:A2=em v y) (w:El u S x) (z:El v S y) {i:Re} (t:In v i) (l:y*i=1) (j:El v S i) (g:II v.length R S<=60000000000000) (r:T=tw (CD u v)) (p:C=em (CD u v) (x*i)):CF 58 [.agg (AK T1 A1),.agg (AK T2 A2)] (AS (AK T C) 0):=by
 refine AN Tryz.func58 fun E m=>?_
 obtain⟨B,a⟩:=Di (em v i);refine AB m (PV (G.Bb n) b f z t l g a) ?_;refine AY ?_;refine AB m (SU G hu n h b d a w j r p) ?_;exact AM ⟨t3,t2,trivial⟩
theorem iZ (G:Dp TT R K S) (hu:TT u) (i:TT v) (h:T1=tw u) (b:T2=tw v) (f:A1=em u x) (a:A2=em v y) (j:El u S x) (l:El v S y) (d:y=0):CF 58 [.agg (AK T1 A1),.agg (AK T2 A2)] (AS (AK [] []) 6):=by
 refine AN Tryz.func58 fun E g=>?_
 refine AB (r:= .BN [(false,[AU []]),(false,[.int .i64 6])]) g (XW (G.Bb i) b (a.trans (by rw[d]))) ?_;refine Bx ?_;exact AM AQ
theorem iW (G:Dp TT R K S) (hu:TT u) (m:TT v) (h:T1=tw u) (i:T2=tw v) (f:A1=em u x) (g:A2=em v y) (t:El u S x) (w:El v S y) (z:Dp TT R K2 S2) (D:2*(S+K)+1<=S2) (B:c=CA (x-y)):CF 71 [.agg (AK T1 A1),.agg (AK T2 A2)] (.BN [(false,[.int .i64 c]),(false,[.int .i64 0])]):=by
 obtain⟨a,j,l⟩:=G.toGam.CD hu m;have n:=G.Cp hu a j t;have p:=G.Cp m a l w;have hmul:=G.mul a;refine AN Tryz.func71 fun E r=>?_
 obtain⟨H,d⟩:=I7 (tw (CD u v));obtain⟨F,b⟩:=Di (em (CD u v) (x-y));refine AB r (SW G hu m h i f g t w d b) ?_;refine AY ?_;refine AB r (Lz z a d b ((n.sub (G.Bb a).red p).mono AA) B) ?_;exact AM ⟨t2,t2,trivial⟩
theorem XH (G:Dp TT R K S) (hu:TT u) (p:TT v) (g:T1=tw u) (i:T2=tw v) (d:A1=em u x) (f:A2=em v y) (r:El u S x) (t:El v S y) (j:Dp TT R K2 S2) (m:2*(S+K)+1<=S2) {c:Bool} (n:c=true↔x=y):CF 19 [.agg (AK T1 A1),.agg (AK T2 A2)] (.one (.bool c)):=by
 refine AN Tryz.func19 fun E l=>?_
 obtain⟨z,a⟩:=xI (CA (x-y));refine AB l (iW G hu p g i d f r t j m a) ?_;refine Bx ?_;intro w b;exact AO (by rw[Bool.eq_iff_iff,n,b,beq_iff_eq,a,Fu];constructor <;> intro h <;> grind)
theorem Ly {b1 b2:Bool} {l1 l2:List UInt32} (b:Bw q b1 l1 b2 l2) (a:C=em [] (Re.ofRat q)):CF 24 [.agg (CT b1 l1 b2 l2)] (.agg (AK [] C)):=by
 refine AN Tryz.func24 fun E d=>?_
 refine⟨[((b1,l1),(b2,l2))],DK,.inr ?_⟩;try conv=>cbv
 exact AM ⟨⟨rfl,CN,congrArg _ (by rw[a,FD,<-b.rp]),trivial⟩,trivial⟩
theorem Gt {x:Int} (f: -9223372036854775808<=x/\x<9223372036854775808) (d:C=em [] (Re.ofRat x)):CF 6 [AD x] (.agg (AK [] C)):=by
 refine AN Tryz.func6 fun E b=>?_
 obtain⟨i,j,g,h,a⟩:=CZ (x:Rat);refine AB b (FT f rfl a) ?_;refine AB b (Ly a d) ?_;exact AM ⟨t3,trivial⟩
theorem PR {n d:Int} (i: -9223372036854775808<=n/\n<9223372036854775808) (h: -9223372036854775808<=d/\d<9223372036854775808) (f:d≠0) (j:q=Rat.divInt n d) (g:C=em [] (Re.ofRat q)):CF 55 [AD n,AD d] (.agg (AK [] C)):=by
 refine AN Tryz.func55 fun E b=>?_
 obtain⟨p,r,l,m,a⟩:=CZ q;refine AB b (SP i h f j a) ?_;refine AB b (Ly a g) ?_;exact AM ⟨t3,trivial⟩
end
section
variable {A A1 A2 C:LR} {L:List (el AR)} {T T1 T2 o:List LR} {c:Bool} {i' k:Nat} {ns:List Nu} {q:Rat} {s xs:List Rat} {ts:AH}
theorem VB {i:Nat} (h:xs[k]? =some q):Dm i k (xs.drop k)=((Gu k i&&q !=0)||Dm i (k+1) (xs.drop (k+1))):=by
 have a:=Dh h;rw[List.drop_eq_getElem_cons a,Dm];rw[List.getElem?_eq_getElem a] at h;rw[Option.some.inj h]
theorem pS {i:Nat} (h:k<xs.length) (hb:Gu k i=false):Dm i k (xs.drop k)=Dm i (k+1) (xs.drop (k+1)):=by
 obtain⟨q,a⟩:=Cq h;rw[VB a,hb];rfl
theorem fa {i:Nat} (h:xs[k]? =some q):CW i 0 (xs.take (k+1))=CW i 0 (xs.take k)++(if Gu k i=true then [] else [q]):=by
 have a:=Dh h;rw[EI h,R6,Nat.zero_add,List.length_take,Nat.min_eq_left AA,CW,CW]
theorem fX (i:Nat):∀(k:Nat) (l:List Rat),(CW i k l).length<=l.length
 | _,[]=>Nat.le_refl _
 | k,x::l=>by
  rw[CW];have:=fX i (k+1) l
  split
  ·rw[List.length_cons];omega
  rw[List.length_cons,List.length_cons];omega
theorem YD {i:Nat} {b a:Int} (d:b=((k/2^i:Nat):Int)) (f:a=b%2):(Gu k i=true↔a=1)/\(Gu k i=false↔a=0):=by
 unfold Gu
 constructor
 ·rw[beq_iff_eq];omega
 rw[beq_eq_false_iff_ne];omega
theorem Qp {n:Nat}:(BB n).length<=2↔n<18446744073709551616:=by
 constructor
 ·intro h;have a:=DZ (BB n);rw[Bn] at a;exact Nat.lt_of_lt_of_le a (Nat.pow_le_pow_right AF (by omega:32*(BB n).length<=64))
 intro h;exact Gz (k:=2) h
theorem Ju {b1 b2:Bool} {l1 l2:List UInt32} (h:Bw q b1 l1 b2 l2):C7 q↔l1.length<=2/\l2.length<=2:=by
 have a:=h.num.B9;have b:=h.den.B9;rw[a,b,Qp,Qp];unfold C7;rw[Int.natAbs_natCast]
theorem si (h:E1 q=0):q=0:=by
 unfold E1 DM at h
 split at h
 ·omega
 split at h
 ·exact Rat.num_eq_zero.1 (by assumption)
 omega
theorem et {p:Rat->Prop} (h:∀x∈xs.take k,p x) (d:xs[k]? =some q) (b:p q):∀x∈xs.take (k+1),p x:=by
 intro x a;rw[EI d] at a;rcases List.mem_append.1 a with a | a
 ·exact h x a
 rw[List.mem_singleton.1 a];exact b
theorem XZ {i:Int} (I:A=Ba xs) (P:Ah i i') (h6:i'<=60) (J:c=Dm i' 0 xs):CF 137 [AT A,AD i] (.one (.bool c)):=by
 have ei:=P.eq;have N:A.length=xs.length:=by rw[I,List.length_map]
 refine AN Tryz.func137 fun E O=>?_
 refine Bc [] [0,1,5] [] (fun vs M k=>∃(k':Nat) (j:Int),vs=[AT A,AD i,AD j]/\(Ah j k'/\k'<=xs.length)/\Dm i' 0 xs=Dm i' k' (xs.drop k')/\k=xs.length-k') (xs.length-0) ⟨0,0,rfl,⟨BJ 0,AA⟩,by rw[List.drop_zero],rfl⟩ ?_;rintro J0 h vs M Y ⟨k',j,rfl,⟨Q,U⟩,hinv,W⟩;have ej:=Q.eq;refine Ak ?_;rintro n8 ⟨e8,f8⟩;refine Bt (fun X=>?_) fun X=>?_
 ·exact AO (by rw[J,hinv,(AA:k'=xs.length),List.drop_length];rfl)
 refine .inr ?_;refine AP ?_;intro H D;obtain⟨d14,l,z⟩:∃d:Nat,d=k'/2^i'/\H=d:=⟨_,rfl,shr_var (p:=k') (e:=i') D AA AA (by show i'<=64;omega)⟩
 refine AP ?_;intro Z F;have a:=YD (k:=k') (i:=i') (by rw[z,l]) F;refine CU (fun r=>?_) fun r=>?_
 ·intro g B;refine⟨xs.length-(k'+1),?_,?_⟩
  ·omega
  rw[h];refine⟨k'+1,g,rfl,⟨⟨AA⟩,AA⟩,?_,rfl⟩;rw[hinv,pS AA (a.2.2 AA)]
 refine BH k' fun a2 n=>?_
 try conv=>cbv
 obtain⟨w,m,b,_⟩:=LK I n;obtain⟨a1,f⟩:=xI (E1 w);refine AB O (SX m f) ?_;refine E2 (fun t=>?_) fun t=>?_
 ·exact AO (by rw[J,hinv,VB b,a.1.2 r,bne_iff_ne.2 (fun e=>t (by rw[f,e];rfl))];rfl)
 intro g B;refine⟨xs.length-(k'+1),?_,?_⟩
 ·omega
 rw[h];refine⟨k'+1,g,rfl,⟨⟨AA⟩,AA⟩,?_,rfl⟩;have G:w=0:=si AA;rw[hinv,VB b,G];simp
theorem Xg {i:Int} (Y:A=Ba xs) (hi:Ah i i') (h6:i'<=60) (hl:xs.length<=1000000) (hC:C=Ba (CW i' 0 xs)):CF 138 [AT A,AD i] (AT C):=by
 have ei:=hi.eq;have a2:A.length=xs.length:=by rw[Y,List.length_map]
 refine AN Tryz.func138 fun E hE=>?_
 refine Bc [(5,AL,true)] [0,1,5,6] [5] (fun vs X k=>∃(o:LR) (n k':Nat) (j:Int),vs=[AT A,AD i,.one (.BK AL 5 0 0 n),AD j]/\X=[.arr 0 AL o]/\(Ah j k'/\k'<=xs.length/\n=o.length)/\o=Ba (CW i' 0 (xs.take k'))/\k=xs.length-k') (xs.length-0) ⟨[],0,0,0,rfl,rfl,⟨BJ 0,AA,rfl⟩,rfl,rfl⟩ ?_;rintro J0 r vs X a8 ⟨o,n,k',j,rfl,rfl,⟨hj,a5,Z⟩,hinv,a6⟩;conv=>cbv
 have ej:=hj.eq;have a7:o.length<=xs.length:=by rw[hinv,List.length_map];have:=fX i' 0 (xs.take k');rw[List.length_take] at this;omega
 rintro n9 ⟨e9,f9⟩;conv=>cbv
 refine Bt (fun O=>?_) fun O=>?_
 ·exact AM ⟨⟨rfl,.inl ⟨_,rfl,AA,congrArg _ (by rw[hC,Z,List.drop_zero,List.take_length,hinv,(AA:k'=xs.length),List.take_length])⟩,trivial⟩,trivial⟩
 refine .inr ?_;refine AP ?_;intro Q I;obtain⟨d15,t,G⟩:∃d:Nat,d=k'/2^i'/\Q=d:=⟨_,rfl,shr_var (p:=k') (e:=i') I AA AA (by show i'<=64;omega)⟩
 refine AP ?_;intro aa J;have b:=YD (k:=k') (i:=i') (by rw[G,t]) J;intro U m;conv=>cbv
 refine .inr ?_;cases U <;> conv=>cbv
 ·have P:=Bm m;refine AP ?_;intro h H;refine⟨xs.length-(k'+1),?_,?_⟩
  ·omega
  rw[r];obtain⟨qq,M⟩:=Cq (l:=xs) (i:=k') AA;exact⟨o,n,k'+1,h,rfl,rfl,⟨⟨AA⟩,AA,Z⟩,by rw[fa M,if_pos (b.1.2 AA),List.append_nil];exact hinv,rfl⟩
 have P:=Bp m
 obtain⟨F,a1,B,N⟩:∃q,Bw q (rp q).1.1 (rp q).1.2 (rp q).2.1 (rp q).2.2/\xs[k']? =some q/\A[k']? =some (rp q):=by
  obtain⟨q,hq⟩:=Cq (l:=xs) (i:=k') AA;exact⟨q,H2 q,hq,by rw[Y,List.getElem?_map,hq];rfl⟩
 refine BH k' fun a D=>?_
 try conv=>cbv
 refine⟨[((a.1.1,a.1.2),(a.2.1,a.2.2))],DK,.inr ?_⟩;try conv=>cbv
 refine .inl ⟨[((a.1.1,a.1.2),(a.2.1,a.2.2))],fun _=>⟨rfl,by (first | rfl | omega),rfl,C2 (o.length+1) 64⟩,?_⟩;intro (g:LR) W f;have w:g=(o:LR)++([((a.1.1,a.1.2),(a.2.1,a.2.2))]:LR):=f.1;have z:W=List.length (α:=(el AL)) g:=f.2;refine AP ?_;intro h H;refine⟨xs.length-(k'+1),?_,?_⟩
 ·omega
 rw[r];have ex:a=rp F:=by have:=D.symm.trans N;exact Option.some.inj this
 refine⟨g,_,k'+1,h,rfl,rfl,⟨⟨AA⟩,AA,z⟩,?_,rfl⟩;rw[fa B,if_neg (by rw[b.2.2 AA];decide)];rw[w,hinv];show _=List.map rp _;rw[List.map_append];show _=Ba _++[rp F];rw[<-ex]
theorem L2:CF 56 [.agg (AK T1 A1),AD 0,.agg (AK T2 A2)] (.agg (AK T1 A1)):=by
 refine AN Tryz.func56 fun E a=>?_
 refine AY ?_;exact AM ⟨t3,trivial⟩
theorem jT:CF 56 [.agg (AK T1 A1),AD 6,.agg (AK T2 A2)] (.agg (AK T2 A2)):=by
 refine AN Tryz.func56 fun E a=>?_
 refine Bx ?_;exact AM ⟨t3,trivial⟩
theorem te (h:∀x∈ts.take k,∀q∈x,C7 q) (d:ts[k]? =some s) (b:∀q∈s,C7 q):∀x∈ts.take (k+1),∀q∈x,C7 q:=by
 intro x a;rw[EI d] at a;rcases List.mem_append.1 a with a | a
 ·exact h x a
 rw[List.mem_singleton.1 a];exact b
def PF (ts:AH) (xs:List Rat):Prop:=(∃q∈xs,¬C7 q)\/∃s∈ts,∃q∈s,¬C7 q
theorem jS (hT:T=ts.map Ba) (hA:A=Ba xs) (O:c=true↔PF ts xs):CF 60 [.agg (AK T A)] (.one (.bool c)):=by
 have aG:A.length=xs.length:=by rw[hA,List.length_map]
 have aH:T.length=ts.length:=by rw[hT,List.length_map]
 refine AN Tryz.func60 fun E hE=>?_
 refine Bc [] [1,2,3] [1] (fun vs n k=>∃(k':Nat) (j:Int),vs=[.one (.BX 1 0 0),.one (.bool false),AD j]/\n=[.var 0 [BA T,AU A]]/\(Ah j k'/\k'<=xs.length)/\(∀q∈xs.take k',C7 q)/\k=xs.length-k') (xs.length-0) ⟨0,0,rfl,rfl,⟨BJ 0,AA⟩,AZ,rfl⟩ ?_;rintro J0 a2 vs n aP ⟨k',j,rfl,rfl,⟨hj,aI⟩,hinv,aJ⟩;have ej:=hj.eq;refine Ak ?_;rintro aS ⟨aw,f10⟩;refine C6 (fun aa=>?_) fun aa=>?_
 ·refine .inr ?_;refine BH k' fun a w=>?_
  try conv=>cbv
  obtain⟨q1,a7,H,_⟩:=LK hA w;have f:Bw q1 a.1.1 a.1.2 a.2.1 a.2.2:=a7;intro ai B;have ax:=B.eq;have f21:=B.le;conv=>cbv
  have an:ai=((List.length a.1.2:Nat):Int):=B.eq;refine EX (fun ab=>?_) fun ab=>?_
  ·exact AO (O.2 (.inl ⟨q1,List.mem_of_getElem? H,fun h=>by have:=(Ju f).1 h;omega⟩))
  refine BH k' fun X P=>?_
  try conv=>cbv
  have N:=Option.some.inj (P.symm.trans w);have au:List.length X.2.2=List.length a.2.2:=by rw[N]
  intro aj D;have ay:=D.eq;have f31:=D.le;conv=>cbv
  have ao:aj=((List.length X.2.2:Nat):Int):=D.eq;refine EX (fun ad=>?_) fun ad=>?_
  ·exact AO (O.2 (.inl ⟨q1,List.mem_of_getElem? H,fun h=>by have:=(Ju f).1 h;omega⟩))
  intro aT aD;exact Bz a2 ⟨k'+1,_,rfl,rfl,⟨⟨AA⟩,AA⟩,et hinv H ((Ju f).2 ⟨AA,AA⟩),rfl⟩
 refine Bc [] [1,2,4] [1] (fun vs n k=>∃(m':Nat) (m:Int),vs=[.one (.BX 1 0 0),.one (.bool false),AD m]/\n=[.var 0 [BA T,AU A]]/\(Ah m m'/\m'<=ts.length)/\(∀s∈ts.take m',∀q∈s,C7 q)/\k=ts.length-m') (ts.length-0) ⟨0,0,rfl,rfl,⟨BJ 0,AA⟩,AZ,rfl⟩ ?_;rintro J1 a5 vs n aQ ⟨m',m,rfl,rfl,⟨hm,aM⟩,r,aK⟩;have em:=hm.eq;refine Ak ?_;rintro aU ⟨az,f37⟩;refine Bt (fun ae=>?_) fun ae=>?_
 ·exact AO (by rw[Bool.eq_false_iff];intro h;rcases O.1 h with⟨q,hq,hn⟩ |⟨s,hs,q,hq,hn⟩;exact hn (hinv q (by rw[List.take_of_length_le AA];exact hq));exact hn (r s (by rw[List.take_of_length_le AA];exact hs) q hq))
 refine .inr ?_
 obtain⟨s2,t,J⟩:∃s,T[m']? =some (Ba s)/\ts[m']? =some s:=by
  obtain⟨s,hs⟩:=Cq (l:=ts) (i:=m') AA;exact⟨s,by rw[hT,List.getElem?_map,hs];rfl,hs⟩
 refine Bc [] [1,2,4,5] [1] (fun vs n k=>∃(z:Nat) (p:Int),vs=[.one (.BX 1 0 0),.one (.bool false),AD m,AD p]/\n=[.var 0 [BA T,AU A]]/\(Ah p z/\z<=s2.length)/\(∀q∈s2.take z,C7 q)/\k=s2.length-z) (s2.length-0) ⟨0,0,rfl,rfl,⟨BJ 0,AA⟩,AZ,rfl⟩ ?_;rintro J2 a6 vs n aR ⟨z,p,rfl,rfl,⟨hp,aN⟩,d,aL⟩;conv=>cbv
 have ep:=hp.eq;refine BH m' fun Y Q=>?_
 try conv=>cbv
 have a1:Y=Ba s2:=Option.some.inj (Q.symm.trans t);have aO:Y.length=s2.length:=by rw[a1,List.length_map]
 rintro aW ⟨aA,f47⟩;conv=>cbv
 refine Bt (fun af=>?_) fun af=>?_
 ·intro aV aE;exact Bz a5 ⟨m'+1,_,rfl,rfl,⟨⟨AA⟩,AA⟩,te r J (by rw[(AA:z=s2.length),List.take_length] at d;exact d),rfl⟩
 refine .inr ?_;refine BH m' fun Z U=>?_
 try conv=>cbv
 have M:Z=Ba s2:=Option.some.inj (U.symm.trans t);have av:Z.length=s2.length:=by rw[M,List.length_map]
 refine BH z fun b W=>?_
 try conv=>cbv
 obtain⟨q3,a8,I,_⟩:=LK M W;have g:Bw q3 b.1.1 b.1.2 b.2.1 b.2.2:=a8;intro ak F;have aB:=F.eq;have f62:=F.le;conv=>cbv
 have aq:ak=((List.length b.1.2:Nat):Int):=F.eq;refine EX (fun ag=>?_) fun ag=>?_
 ·exact AO (O.2 (.inr ⟨s2,List.mem_of_getElem? J,q3,List.mem_of_getElem? I,fun h=>by have:=(Ju g).1 h;omega⟩))
 intro al G;have aC:=G.eq;have f68:=G.le;have ar:al=((List.length b.2.2:Nat):Int):=G.eq;refine EX (fun ah=>?_) fun ah=>?_
 ·exact AO (O.2 (.inr ⟨s2,List.mem_of_getElem? J,q3,List.mem_of_getElem? I,fun h=>by have:=(Ju g).1 h;omega⟩))
 intro aX aF;exact Bz a6 ⟨z+1,_,rfl,rfl,⟨⟨AA⟩,AA⟩,et d I ((Ju g).2 ⟨AA,AA⟩),rfl⟩
theorem iU (hT:T=ts.map Ba) (hA:A=Ba xs) (h1:∀q∈xs,C7 q) (h2:∀s∈ts,∀q∈s,C7 q):CF 67 [.agg (AK T A)] (.one (.bool true)):=by
 have aL:A.length=xs.length:=by rw[hA,List.length_map]
 have aM:T.length=ts.length:=by rw[hT,List.length_map]
 refine AN Tryz.func67 fun E hE=>?_
 refine Bc [] [1,2,3] [1] (fun vs d k=>∃(k':Nat) (j:Int),vs=[.one (.BX 1 0 0),.one (.bool false),AD j]/\d=[.var 0 [BA T,AU A]]/\(Ah j k'/\k'<=xs.length)/\k=xs.length-k') (xs.length-0) ⟨0,0,rfl,rfl,⟨BJ 0,AA⟩,rfl⟩ ?_;rintro J0 Z vs d aU ⟨k',j,rfl,rfl,⟨hj,aN⟩,aO⟩;have ej:=hj.eq;refine Ak ?_;rintro n9 ⟨e9,f9⟩;refine C6 (fun ab=>?_) fun ab=>?_
 ·refine .inr ?_;refine BH k' fun a h=>?_
  try conv=>cbv
  obtain⟨q1,a7,a5,_⟩:=LK hA h;have M:Bw q1 a.1.1 a.1.2 a.2.1 a.2.2:=a7;have ay:=(Ju M).1 (h1 q1 (List.mem_of_getElem? a5));intro aj z;have aC:=z.eq;have f20:=z.le;conv=>cbv
  have aq:aj=((List.length a.1.2:Nat):Int):=z.eq;refine EX (fun ad=>?_) fun ad=>?_
  ·exfalso;omega
  refine BH k' fun W O=>?_
  try conv=>cbv
  have I:=Option.some.inj (O.symm.trans h);have aw:List.length W.2.2=List.length a.2.2:=by rw[I]
  intro ak B;have aD:=B.eq;have f30:=B.le;conv=>cbv
  have ar:ak=((List.length W.2.2:Nat):Int):=B.eq;refine EX (fun ae=>?_) fun ae=>?_
  ·exfalso;omega
  intro aX aI;exact Bz Z ⟨k'+1,_,rfl,rfl,⟨⟨AA⟩,AA⟩,rfl⟩
 refine Bc [] [1,2,4] [1] (fun vs d k=>∃(m':Nat) (m:Int),vs=[.one (.BX 1 0 0),.one (.bool false),AD m]/\d=[.var 0 [BA T,AU A]]/\(Ah m m'/\m'<=ts.length)/\k=ts.length-m') (ts.length-0) ⟨0,0,rfl,rfl,⟨BJ 0,AA⟩,rfl⟩ ?_;rintro J1 a1 vs d aV ⟨m',m,rfl,rfl,⟨hm,aR⟩,aP⟩;have em:=hm.eq;refine Ak ?_;rintro aY ⟨aE,f36⟩;refine Bt (fun af=>?_) fun af=>?_
 ·exact AM ⟨t2,trivial⟩
 refine .inr ?_
 obtain⟨s2,g,aa⟩:∃s,T[m']? =some (Ba s)/\ts[m']? =some s:=by
  obtain⟨s,hs⟩:=Cq (l:=ts) (i:=m') AA;exact⟨s,by rw[hT,List.getElem?_map,hs];rfl,hs⟩
 refine Bc [] [1,2,4,5] [1] (fun vs d k=>∃(t:Nat) (p:Int),vs=[.one (.BX 1 0 0),.one (.bool false),AD m,AD p]/\d=[.var 0 [BA T,AU A]]/\(Ah p t/\t<=s2.length)/\k=s2.length-t) (s2.length-0) ⟨0,0,rfl,rfl,⟨BJ 0,AA⟩,rfl⟩ ?_;rintro J2 a2 vs d aW ⟨t,p,rfl,rfl,⟨hp,aS⟩,aQ⟩;conv=>cbv
 have ep:=hp.eq;refine BH m' fun X P=>?_
 try conv=>cbv
 have Y:X=Ba s2:=Option.some.inj (P.symm.trans g);have aT:X.length=s2.length:=by rw[Y,List.length_map]
 rintro b0 ⟨aF,f46⟩;conv=>cbv
 refine Bt (fun ag=>?_) fun ag=>?_
 ·intro aZ aJ;exact Bz a1 ⟨m'+1,_,rfl,rfl,⟨⟨AA⟩,AA⟩,rfl⟩
 refine .inr ?_;refine BH m' fun G n=>?_
 try conv=>cbv
 have w:G=Ba s2:=Option.some.inj (n.symm.trans g);have aA:G.length=s2.length:=by rw[w,List.length_map]
 refine BH t fun b r=>?_
 try conv=>cbv
 obtain⟨q3,a8,a6,_⟩:=LK w r;have N:Bw q3 b.1.1 b.1.2 b.2.1 b.2.2:=a8;have az:=(Ju N).1 (h2 s2 (List.mem_of_getElem? aa) q3 (List.mem_of_getElem? a6));intro al D;have aG:=D.eq;have f60:=D.le;conv=>cbv
 have au:al=((List.length b.1.2:Nat):Int):=D.eq;refine EX (fun ah=>?_) fun ah=>?_
 ·exfalso;omega
 refine BH m' fun ao Q=>?_
 try conv=>cbv
 have f:=Option.some.inj (Q.symm.trans n);have aB:ao.length=s2.length:=by rw[f,w,List.length_map]
 refine BH t fun H U=>?_
 try conv=>cbv
 have J:=Option.some.inj ((show G[t]? =some H by rw[<-f];exact U).symm.trans r);have ax:List.length H.2.2=List.length b.2.2:=by rw[J]
 intro an F;have aH:=F.eq;have f73:=F.le;conv=>cbv
 have av:an=((List.length H.2.2:Nat):Int):=F.eq;refine EX (fun ai=>?_) fun ai=>?_
 ·exfalso;omega
 intro b1 aK;exact Bz a2 ⟨t+1,_,rfl,rfl,⟨⟨AA⟩,AA⟩,rfl⟩
theorem iJ (i:L=ns.map nm) (m:∀n∈ns,(∀q∈co n.1 n.2,C7 q)/\∀s∈n.1,∀q∈s,C7 q):CF 14 [.one (.sl AR L)] (.one (.bool true)):=by
 have r:L.length=ns.length:=by rw[i,List.length_map]
 refine AN Tryz.func14 fun E p=>?_
 refine Bc [] [0,3] [] (fun vs l k=>∃(k':Nat) (j:Int),vs=[.one (.sl AR L),AD j]/\(Ah j k'/\k'<=L.length)/\k=L.length-k') (L.length-0) ⟨0,0,rfl,⟨BJ 0,AA⟩,rfl⟩ ?_;rintro H d vs l F ⟨k',j,rfl,⟨t,w⟩,z⟩;have J:=t.eq;refine Ak ?_;rintro N ⟨I,f6⟩;refine Bt (fun D=>?_) fun D=>?_
 ·exact AM ⟨t2,trivial⟩
 refine .inr ?_;refine BH k' fun G b=>?_
 try conv=>cbv
 obtain⟨u,y,g,h,f⟩:=Jb i b;have a:=m _ (List.mem_of_getElem? f);refine AB p (iU (ts:=u.reverse) (xs:=co u y) g h a.1 (fun s B=>a.2 s (List.mem_reverse.1 B))) ?_;refine AY ?_;intro O M;exact Bz d ⟨k'+1,_,rfl,⟨⟨AA⟩,AA⟩,rfl⟩
theorem iK {i:Int} {n:Nu} (z:L=ns.map nm) (h:ns≠[]) (I:Ah i i') (J:n=Ev ns i') (H:T=tw n.1) (G:A=em n.1 n.2):CF 15 [.one (.sl AR L),AD i] (.agg (AK T A)):=by
 have F:=I.eq;have g:L.length=ns.length:=by rw[z,List.length_map]
 have B:0<ns.length:=List.length_pos_iff.2 h;refine AN Tryz.func15 fun E P=>?_
 rintro Q ⟨O,f6⟩;refine BV (fun D=>?_) fun D=>?_
 ·exact absurd D AA
 refine C6 (fun b=>?_) fun b=>?_
 ·exact absurd b AA
 rintro M ⟨d,f16⟩ r f;have w:r=((i'%L.length:Nat):Int):=by rw[f,F,d];exact (Int.natCast_emod _ _).symm
 obtain⟨N,a⟩:=Cq (l:=L) (i:=(i'%L.length)) (by exact Nat.mod_lt _ AA);refine Cj a ?_;obtain⟨u,y,m,p,j⟩:=Jb z a;have t:n=(u,y):=by rw[J];unfold Ev;rw[<-g,List.getD_eq_getElem?_getD,j];rfl
 exact Eg (by rw[H,t];exact m.symm) (by rw[G,t];exact p.symm)
theorem ot {i:Nat} (b:∀m,o[m]? =(ts[m]?).map fun s=>Ba (if i<m/\m<k then CW i 0 s else s)) (a:ts[k]? =some s) (d:i<k) {w:LR} (hw:w=Ba (CW i 0 s)):
  ∀m,(o.set k w)[m]? =(ts[m]?).map fun s=>Ba (if i<m/\m<k+1 then CW i 0 s else s):=by
 intro m
 by_cases e:k=m
 ·subst e;have f:=Dh a
  have g:k<o.length:=by
   have:=b k;rw[a] at this;exact Dh this
  rw[List.getElem?_set_self g,a,Option.map_some,if_pos ⟨d,AA⟩,hw]
 rw[List.getElem?_set_ne e,b m];have:(i<m/\m<k+1)↔(i<m/\m<k):=AA
 simp only[this]
theorem oq {i:Nat} (d:i<ts.length) (b:∀m,o[m]? =(ts[m]?).map fun s=>Ba (if i<m/\m<ts.length then CW i 0 s else s)):o.take i++o.drop (i+1)=(ts.take i++(ts.drop (i+1)).map (CW i 0)).map Ba:=by
 have e:o=(ts.take (i+1)++(ts.drop (i+1)).map (CW i 0)).map Ba:=by
  apply List.ext_getElem?;intro m;rw[b m,List.getElem?_map,List.getElem?_append,List.length_take,Nat.min_eq_left AA]
  by_cases hm:m<i+1
  ·rw[if_pos hm,List.getElem?_take,if_pos hm];cases ts[m]? with
   | none=>rfl
   | some s=>simp only[Option.map_some];rw[if_neg AA]
  rw[if_neg hm,List.getElem?_map,List.getElem?_drop,(AA:i+1+(m-(i+1))=m)]
  by_cases a:m<ts.length
  ·rw[List.getElem?_eq_getElem a];simp only[Option.map_some];rw[if_pos ⟨AA,a⟩]
  rw[List.getElem?_eq_none AA];rfl
 have hlen:(ts.take (i+1)).length=i+1:=by rw[List.length_take];omega
 rw[e,List.map_append,List.map_append,List.take_append_of_le_length (by rw[List.length_map,hlen];omega),List.drop_left' (by rw[List.length_map,hlen]),<-List.map_take,List.take_take,Nat.min_eq_left AA]
theorem Xs {i:Nat} {f:List Rat->Bool} (a:ts[k]? =some s) (b:i<k):((ts.drop (i+1)).take (k+1-(i+1))).any f=(((ts.drop (i+1)).take (k-(i+1))).any f||f s):=by
 rw[(AA:k+1-(i+1)=k-(i+1)+1),EI (l:=ts.drop (i+1)) (i:=k-(i+1)) (x:=s) (by rw[List.getElem?_drop,(AA:i+1+(k-(i+1))=k)];exact a)];simp
theorem XO {u Y:AH} {x:Re} (h:BG u) (hx:In u x) (hl:u.length<=8) (hw:Ig u.length (u.reverse,co u x)=(Y.reverse,co Y x)) (hT:T=tw u) (hA:A=em u x) (aP:T2=tw Y) (hC:C=em Y x):CF 61 [.agg (AK T A)] (.agg (AK T2 C)):=by
 have bC:T.length=u.length:=by rw[hT,Cr]
 refine AN Tryz.func61 fun E hE=>?_
 refine⟨[],fun _=>⟨rfl,AF,rfl,trivial⟩,.inl ?_⟩;try conv=>cbv
 refine .inl ⟨T,fun _=>⟨rfl,by (first | rfl | omega),rfl,C2 (0+T.length) 24⟩,?_⟩;intro (ah:List (el (.sl AL))) b1 W;have N:ah=([]:List (el (.sl AL)))++(T:List (el (.sl AL))):=W.1;have av:b1=List.length (α:=(el (.sl AL))) ah:=W.2;conv=>cbv
 refine g2 rfl ?_;intro bQ aI;have bp:=aI.eq;conv=>cbv
 have aU:List.length ah=List.length T:=by rw[N];rfl
 refine AP ?_;intro b2 bt;refine Bc [] [2,3,4] [2,3,8] (fun vs f k=>∃(w:AH) (O:List LR) (B:LR) (n j:Nat) (i:Int),vs=[.one (.BX 2 0 0),.one (.BX 3 0 0),AD i]/\f=[.var 0 [.nil,.nil],.var 0 [.BK (.sl AL) 8 0 0 n,AU B],.arr 0 (.sl AL) O]/\(Ah (i+1) j/\n=O.length/\O=tw w/\B=em w x)/\(BG w/\In w x/\j<=w.length/\w.length<=8)/\Ig j (w.reverse,co w x)=(Y.reverse,co Y x)/\k=j) u.length ⟨u,_,_,_,u.length,b2,rfl,rfl,⟨⟨AA⟩,av,by rw[N,hT];rfl,hA⟩,⟨h,hx,Nat.le_refl _,hl⟩,hw,rfl⟩ ?_;rintro J0 aN vs f bN ⟨w,O,B,n,j,i,rfl,rfl,⟨hi,hn,hO,hB⟩,⟨af,ag,bF,D⟩,a,bG⟩;conv=>cbv
 have ei:=hi.eq;obtain⟨i',bD⟩:=xN (j-1);refine MF ?_ ?_ <;> intro bK <;> conv=>cbv
 ·exact AM ⟨⟨rfl,.inl ⟨_,rfl,AA,congrArg _ (by rw[aP,hn,List.drop_zero,List.take_length,hO];have:=a;rw[(AA:j=0),Ig] at this;rw[tw,tw,(Prod.mk.inj this).1])⟩,congrArg _ (by rw[hC,hB];have:=a;rw[(AA:j=0),Ig] at this;rw[em,em,(Prod.mk.inj this).2]),trivial⟩,trivial⟩
 obtain⟨K1,a5⟩:∃J:List AV->List BM->Prop,J=fun vs f=>∃(p:AH) (O2:List LR) (B2:LR) (n2:Nat),vs=[.one (.BX 2 0 0),.one (.BX 3 0 0),AD i]/\f=[.var 0 [.nil,.nil],.var 0 [.BK (.sl AL) 8 0 0 n2,AU B2],.arr 0 (.sl AL) O2]/\
  (n2=O2.length/\O2=tw p/\B2=em p x)/\(BG p/\In p x/\i'<=p.length/\p.length<=8)/\Ig i' (p.reverse,co p x)=(Y.reverse,co Y x):=⟨_,rfl⟩
 refine .inl ⟨[2,3,4],[2,3,8],K1,?_,?_⟩
 ·intro vs f hj;rw[a5] at hj;obtain⟨p,O2,B2,n2,rfl,rfl,⟨aV,aO,aM⟩,⟨aA,aB,ar,az⟩,ay⟩:=hj;refine AP ?_;intro b3 bu;exact Bz aN ⟨p,O2,B2,n2,i',b3,rfl,rfl,⟨⟨AA⟩,aV,aO,aM⟩,⟨aA,aB,ar,az⟩,ay,rfl⟩
 try conv=>cbv
 have aS:j=i'+1:=AA
 subst aS;have t:Ah i i':=⟨AA⟩;obtain⟨ts,d⟩:∃z:AH,z=w.reverse:=⟨_,rfl⟩
 have a6:O=ts.map Ba:=by rw[hO,d];rfl
 have bJ:ts.length=w.length:=by rw[d,List.length_reverse]
 have bB:O.length=ts.length:=by rw[a6,List.length_map]
 have aQ:(co w x).length<=1000000:=by rw[Dg ag];exact Nat.le_trans (DI D) AF
 obtain⟨aF,I⟩:=xB (Dm i' 0 (co w x));refine AB hE (XZ (xs:=co w x) hB t AA I) ?_;intro b4 bw;refine Bc [] [2,3,4,5,6] [2,3,8] (fun vs f k=>∃(b:Bool) (k':Nat) (j:Int),vs=[.one (.BX 2 0 0),.one (.BX 3 0 0),AD i,.one (.bool b),AD j]/\f=[.var 0 [.nil,.nil],.var 0 [.BK (.sl AL) 8 0 0 n,AU B],.arr 0 (.sl AL) O]/\(Ah j k'/\i'<k'/\k'<=ts.length)/\b=(Dm i' 0 (co w x)||((ts.drop (i'+1)).take (k'-(i'+1))).any (Dm i' 0))/\k=ts.length-k') (ts.length-(i'+1)) ⟨aF,i'+1,b4,rfl,rfl,⟨⟨AA⟩,AA,AA⟩,by rw[I,Nat.sub_self,List.take_zero];simp,rfl⟩ ?_;rintro J1 an vs f bO ⟨b,k',j,rfl,rfl,⟨hj,ao,bE⟩,hb,bH⟩;conv=>cbv
 have ej:=hj.eq;intro bR aJ;have bq:=aJ.eq;conv=>cbv
 refine QM ?_ ?_ <;> intro bL <;> conv=>cbv
 ·refine .inr ?_;cases b <;> conv=>cbv
  ·refine AP ?_;intro aZ bd;obtain⟨b6,Q⟩:=Cq (l:=O) (i:=aZ) AA;refine⟨b6,fun _=>Q,?_⟩;try conv=>cbv
   obtain⟨s4,aG,ab⟩:=LJ (i:=k') a6 (by rw[<-Q];congr 1;omega);obtain⟨bo,M⟩:=xB (Dm i' 0 s4);refine AB hE (XZ aG t AA M) ?_;intro aj aK;exact Bz an ⟨_,k'+1,aj,rfl,rfl,⟨⟨AA⟩,AA,AA⟩,by rw[Xs ab ao,<-Bool.or_assoc,<-hb,M];simp,rfl⟩
  refine AP ?_;intro aj aK;refine⟨ts.length-(k'+1),?_,?_⟩
  ·omega
  rw[an];obtain⟨s4,ab⟩:=Cq (l:=ts) (i:=k') AA;exact⟨_,k'+1,aj,rfl,rfl,⟨⟨AA⟩,AA,AA⟩,by rw[Xs ab ao,<-Bool.or_assoc,<-hb];simp,rfl⟩
 cases b <;> conv=>cbv
 ·obtain⟨al,H⟩:=xR (Ba (CW i' 0 (co w x)));refine AB hE (Xg (xs:=co w x) hB t AA aQ H) ?_;intro DY bx;refine .inr ?_;obtain⟨J2,a2⟩:=xJ fun vs f k=>∃(o:List LR) (k2:Nat) (j2:Int),vs=[.one (.BX 2 0 0),.one (.BX 3 0 0),AD i,AD j2]/\f=[.var 0 [.nil,.nil],.var 0 [.BK (.sl AL) 8 0 0 n,AU al],.arr 0 (.sl AL) o]/\(Ah j2 k2/\i'<k2/\k2<=ts.length/\o.length=ts.length)/\(∀m,o[m]? =(ts[m]?).map fun s=>Ba (if i'<m/\m<k2 then CW i' 0 s else s))/\k=ts.length-k2
  refine⟨[],[2,3,4,7],[2,3,8],J2,⟨ts.length-(i'+1),by rw[a2];exact⟨O,i'+1,DY,rfl,rfl,⟨⟨AA⟩,AA,AA,AA⟩,fun m=>by
   have aW:¬(i'<m/\m<i'+1):=AA
   simp only[aW,if_false];rw[a6,List.getElem?_map],rfl⟩⟩,?_⟩
  intro vs f bP hj;rw[a2] at hj;obtain⟨o,k2,j2,rfl,rfl,⟨aR,aq,bh,aX⟩,hq,bI⟩:=hj;conv=>cbv
  have bs:=aR.eq;intro bS aL;have br:=aL.eq;conv=>cbv
  refine QM ?_ ?_ <;> intro bM <;> conv=>cbv
  ·refine .inr ?_;refine AP ?_;intro b0 bf;obtain⟨ak,U⟩:=Cq (l:=o) (i:=b0) AA;refine⟨ak,fun _=>U,?_⟩;try conv=>cbv
   obtain⟨s7,ad⟩:=Cq (l:=ts) (i:=k2) AA;have aY:o[k2]? =some ak:=by rw[<-U];congr 1;omega
   have aH:ak=Ba s7:=by have r:=hq k2;rw[ad,aY,Option.map_some,if_neg AA] at r;exact Option.some.inj r
   have ax:s7.length<=1000000:=by have r:=VU af (List.mem_reverse.1 (d ▸ List.mem_of_getElem? ad));have h2:2^w.length<=2^8:=DI D;omega
   obtain⟨aE,P⟩:=xR (Ba (CW i' 0 s7));refine AB hE (Xg aH t AA ax P) ?_;intro aC bg;refine⟨aE,fun _=>⟨by show _<List.length (α:=(el (.sl AL))) o;(first | omega | (simp;omega)),Ds⟩,?_⟩;intro (ai:List (el (.sl AL))) (g:ai=List.set (α:=(el (.sl AL))) o aC aE);have b7:ai.length=o.length:=by rw[g,List.length_set]
   refine AP ?_;intro b5 bz;exact Bz a2 ⟨ai,k2+1,b5,rfl,rfl,⟨⟨AA⟩,AA,AA,by rw[g,List.length_set];exact aX⟩,by rw[g,(AA:aC=k2)];exact ot hq ad aq P,rfl⟩
  refine⟨fun _=>⟨AA,AA,AA⟩,?_⟩;refine AP ?_;rintro bm b9 bU Z ⟨bj,bb⟩ bT bA bl bn ⟨b8,ba⟩ G a1 ⟨bk,bc⟩;refine .inl ⟨((o).drop G).take a1,fun _=>⟨AA,AA,⟨_,rfl,AA,rfl⟩,by show (Z+(((o).drop G).take a1).length)*24<=140737488355328;(try simp only[List.length_take,List.length_drop]);omega⟩,?_⟩;intro (F:List (el (.sl AL))) aD X;have au:F=(List.take Z o:List (el (.sl AL)))++(((o).drop G).take a1:List (el (.sl AL))):=X.1;have aw:aD=List.length (α:=(el (.sl AL))) F:=X.2;conv=>cbv
  refine g2 rfl ?_;rw[a5];have a8:k'=ts.length:=AA
  have a7:¬(Dm i' 0 (co w x)||(ts.drop (i'+1)).any (Dm i' 0))=true:=by
   have r:=hb;rw[a8,List.take_of_length_le (by rw[List.length_drop];omega)] at r;rw[<-r];exact Bool.false_ne_true
  obtain⟨w1,e1,ae,aT⟩:=fF af ag (by omega:i'<w.length);have e2:=e1;unfold M8 at e2;rw[<-d,if_neg a7] at e2;have e3:=Prod.mk.inj e2
  have aa:F=o.take i'++o.drop (i'+1):=by
   rw[au,(AA:Z=i'),(AA:G=i'+1),List.take_of_length_le (l:=o.drop (i'+1)) (by rw[List.length_drop];omega)]
  rw[(AA:k2=ts.length)] at hq;refine⟨w1,F,al,aD,rfl,rfl,⟨aw,?_,?_⟩,⟨ae.red,ae.mem,aT,Nat.le_trans ae.len D⟩,by rw[Ig,e1] at a;exact a⟩
  ·rw[aa,oq AA hq,tw,<-d] at*;rw[e3.1]
  rw[H,em,<-e3.2]
 rw[a5];have a8:k'=ts.length:=AA
 have a7:(Dm i' 0 (co w x)||(ts.drop (i'+1)).any (Dm i' 0))=true:=by
  have r:=hb;rw[a8,List.take_of_length_le (by rw[List.length_drop];omega)] at r;exact r.symm
 have e1:M8 i' (w.reverse,co w x)=(w.reverse,co w x):=by
  unfold M8;rw[<-d,if_pos a7]
 exact⟨w,O,B,n,rfl,rfl,⟨hn,hO,hB⟩,⟨af,ag,AA,D⟩,by rw[Ig,e1] at a;exact a⟩
end
section
theorem bn {o:el DT} {n d:Int} (a:n=Lr o.2.2.2.1) (b:d=((o.2.2.2.2.toNat%8+1:Nat):Int)):H6 o=Rat.divInt n d:=by subst a b;rfl
theorem Od {st:List Nu×Nat} {o:el DT} (h:st.1=[]\/o.1.toNat%6=0):Ea st o=(([],Re.ofRat (H6 o)),st.2):=by unfold Ea;rw[if_pos h]
theorem Kb {st:List Nu×Nat} {o:el DT} (a:st.1≠[]) (b:o.1.toNat%6≠0):Ea st o=FY (o.1.toNat%6) (Ev st.1 o.2.1.toNat) (Ev st.1 o.2.2.1.toNat) st.2:=by
 unfold Ea;rw[if_neg (fun h=>h.elim a b)]
theorem pZ (a b:Nu) (r:Nat):FY 1 a b r=((CD a.1 b.1,a.2+b.2),r):=by unfold FY;rw[if_pos rfl]
theorem pj (a b:Nu) (r:Nat):FY 2 a b r=((CD a.1 b.1,a.2-b.2),r):=by unfold FY;rw[if_neg AF,if_pos rfl]
theorem ph (a b:Nu) (r:Nat):FY 3 a b r=((CD a.1 b.1,a.2*b.2),r):=by unfold FY;rw[if_neg AF,if_neg AF,if_pos rfl]
theorem pg {a b:Nu} (r:Nat) (h:b.2=0):FY 4 a b r=(a,r):=by unfold FY;rw[if_neg AF,if_neg AF,if_neg AF,if_pos rfl,if_pos h]
theorem pf {a b:Nu} (r:Nat) (h:b.2≠0):FY 4 a b r=((CD a.1 b.1,a.2*BU b.2),r):=by unfold FY;rw[if_neg AF,if_neg AF,if_neg AF,if_pos rfl,if_neg h]
theorem bD (a b:Nu) {r:Nat} (h:r<3):FY 5 a b r=((BW a.1 (ED a.2),Re.sqrt (ED a.2)),r+1):=by unfold FY;rw[if_neg AF,if_neg AF,if_neg AF,if_neg AF,if_pos h]
theorem bC (a b:Nu) {r:Nat} (h:¬r<3):FY 5 a b r=(a,r):=by unfold FY;rw[if_neg AF,if_neg AF,if_neg AF,if_neg AF,if_neg h]
theorem get_eq {ns:List Nu} {i j:Nat} {n:Nu} (h:ns[j]? =some n) (a:j=i%ns.length):Ev ns i=n:=by
 unfold Ev;rw[List.getD_eq_getElem?_getD,<-a,h];rfl
theorem nP:∀h,h<=3->II h Rm Rm<=60000000000000
 |0,_|1,_|2,_|3,_=>by decide +kernel
 | _+4,h=>absurd h AA
theorem nQ:∀h,h<=3->II h 256 512<=Rm
 |0,_|1,_|2,_|3,_=>by decide +kernel
 | _+4,h=>absurd h AA
section
variable {V:List Re} {ns:List Nu}
theorem DG.tb {n:Nu} (h:DG V n) (hV:V.length<=3):TB 256 n.1:=(PN.KL (ns:=[n]) hV (fun m hm=>by rw[List.mem_singleton.1 hm];exact h)).tb (PN.self (List.mem_singleton.2 rfl))
theorem DG.inv {n:Nu} (h:DG V n) (hV:V.length<=3) (a:n.2≠0):El n.1 Rm (BU n.2):=by
 have b:=Nat.le_trans h.len hV;have ht:BZ 256 n.1:=⟨h.red,h.tb hV,AF,AA⟩;exact ((h.el hV).inv ht (Qe h.red h.mem a) (Fj a)).mono (nQ _ b)
theorem DG.abs {n:Nu} (h:DG V n):DG V (n.1,ED n.2):=by
 refine⟨h.red,Zg h.mem,h.BS,h.Jq,fun q a=>?_⟩;have a:q∈co n.1 (ED n.2):=a;unfold ED at a
 split at a
 ·rw[MD h.red h.mem] at a;obtain⟨p,b,rfl⟩:=List.mem_map.1 a;have:=h.cos p b;exact⟨by show (-p.num).natAbs<_;rw[Int.natAbs_neg];exact this.1,this.2⟩
 exact h.cos q a
theorem cM {n:Nu} (h:DG V n) (hV:V.length<=2) (g:0<=n.2) {S:Nat} (i:Rm<=S) (j:S<=Sm:=by first|omega|decide):Dp (Tf fun u=>u<:+BW n.1 n.2) Rm Cm S/\Tf (fun u=>u<:+BW n.1 n.2) n.1/\Tf (fun u=>u<:+BW n.1 n.2) (BW n.1 n.2):=by
 have l:=HQ h.red h.mem g;have m:=h.len
 have b:TB 256 (BW n.1 n.2):=by
  by_cases f:Sq n.1 n.2
  ·rw[Ec f];exact h.tb AA
  rw[Dv f];intro r a;rcases List.mem_cons.1 a with rfl | a
  ·refine (Nk h.cos).mono ?_;rw[Dg h.mem];have:2^n.1.length<=2^2:=DI;omega
  exact h.tb AA r a
 have I:Ci (fun u=>u<:+BW n.1 n.2) 256:=⟨fun {u} hu=>Vg hu l,fun {u} hu=>fun r a=>b r (hu.subset a),fun {r u} hu=>(List.suffix_cons r u).trans hu⟩;refine⟨ZP I (fun {u} hu=>?_) i j,Tf.of I (Pf _ _),Tf.of I (List.suffix_refl _)⟩
 have:=hu.len I (V:=n.2::V) (fun {u} hu v d=>by
  rcases fT h.mem v (fU hu v d) with rfl | d
  ·exact List.mem_cons_self
  exact List.mem_cons_of_mem _ (h.BS v d))
 rw[List.length_cons] at this;omega
theorem lv (hV:V.length<=3) (d:∀n∈ns,DG V n) {a b:Nu} (ha:a∈ns) (hb:b∈ns) {r:Nat}:∃(T A i h:_) (e:Int),CF 58 [.agg [BA (tw a.1),AU (em a.1 a.2)],.agg [BA (tw b.1),AU (em b.1 b.2)]] (AS (AK T A) e)/\
  CF 56 [.agg [BA T,AU A],AD e,.agg [BA (tw a.1),AU (em a.1 a.2)]] (.agg [BA i,AU h])/\i=tw (FY 4 a b r).1.1/\h=em (FY 4 a b r).1.1 (FY 4 a b r).1.2/\(FY 4 a b r).2=r:=by
 have G:=Hz hV d (Nat.le_refl Rm);have j:=((d a ha).el hV).mono (by decide:512<=Rm);have l:=((d b hb).el hV).mono (by decide:512<=Rm)
 by_cases f:b.2=0
 ·rw[pg r f];exact⟨_,_,_,_,_,iZ G (F6 hV d ha) (F6 hV d hb) rfl rfl rfl rfl j l f,jT,rfl,rfl,rfl⟩
 rw[pf r f];have g:=Nat.le_trans (d b hb).len hV;exact⟨_,_,_,_,_,XG G (F6 hV d ha) (F6 hV d hb) rfl rfl rfl rfl j l (Qe (d b hb).red (d b hb).mem f) (Fj f) ((d b hb).inv hV f) (nP _ g) rfl rfl,L2,rfl,rfl,rfl⟩
end
theorem oB (x:Nu):HF [] x=x:=by unfold HF;rw[if_neg (fun h=>h.1 rfl)]
theorem oA {l:List Nu} {x:Nu} (h:l≠[]) (a:J7 x):HF l x=l.getLastD NM:=by unfold HF;rw[if_pos ⟨h,a⟩]
theorem oD {l:List Nu} {x:Nu} (a:¬J7 x):HF l x=x:=by unfold HF;rw[if_neg (fun h=>a h.2)]
theorem aH {n:Nu}:PF n.1.reverse (co n.1 n.2)↔J7 n:=by
 unfold PF J7;simp only[List.mem_reverse]
theorem oQ {l:List Nu} {j:Nat} {n:Nu} (h:l[j]? =some n) (a:j+1=l.length):l.getLastD NM=n:=by
 rw[List.getLastD_eq_getLast?,List.getLast?_eq_getElem?,(AA:l.length-1=j),h];rfl
theorem cb:∀(xs:List (el DT)) (st:List Nu×Nat),(xs.foldl Jv st).1.length=st.1.length+xs.length
 | [],_=>rfl
 | o::xs,st=>by
  rw[List.foldl_cons,cb xs (Jv st o),List.length_cons];unfold Jv;rw[List.length_append,List.length_singleton];omega
theorem db {x:Re} (h:CA x<0):x<0:=by rcases Ft x with⟨a,b⟩ |⟨a,b⟩ |⟨a,b⟩ <;> first | exact a | (exfalso;omega)
theorem da {x:Re} (h:¬CA x<0):¬x<0:=by rcases Ft x with⟨a,b⟩ |⟨a,b⟩ |⟨a,b⟩ <;> first | (exfalso;omega) | (rw[a];exact fun h=>by grind) | (intro h;grind)
theorem iM {X:List (el DT)} {L:List (el AR)} (hL:L=(runN (X.take 24)).1.map nm):CF 11 [.one (.sl DT X)] (.one (.sl AR L)):=by
 refine AN Tryz.func11 fun E P=>?_
 refine .inr ?_;obtain⟨J0,aM⟩:=xJ fun vs bl k=>(vs=[.one (.sl DT X),.one .nil,AD 0,AD 0]/\bl=[.dead 0]/\k=24)\/(∃(o:List (el AR)) (n k':Nat) (rr j:Int),vs=[.one (.sl DT X),.one (.BK AR 157 0 0 n),AD rr,AD j]/\bl=[.arr 0 AR o]/\(Ah j k'/\k'<=X.length/\k'<=24/\0<k'/\n=o.length)/\(o=(runN (X.take k')).1.map nm/\Ah rr (runN (X.take k')).2)/\k=24-k')
 refine⟨[],[0,3,4,5],[157],J0,⟨24,by rw[aM];exact .inl ⟨rfl,rfl,rfl⟩⟩,?_⟩;intro vs bl dw hj;rw[aM] at hj;rcases hj with⟨rfl,rfl,aO⟩ |⟨o,n,k',rr,j,rfl,rfl,⟨hj,du,cX,bS,hn⟩,⟨ho,g⟩,aO⟩
 ·conv=>cbv
  obtain⟨k',aO⟩:=xN 0;obtain⟨a6,V,hV,f⟩:=Vt (X.take k');obtain⟨st,I⟩:∃s,s=runN (X.take k'):=⟨_,rfl⟩
  rw[<-I] at a6 hV f;have aj:st.1=[]:=by rw[I,aO];rfl
  have bW:st.2=0:=by rw[I,aO];rfl
  rintro cH ⟨cc,f22⟩;conv=>cbv
  refine Bt (fun bk=>?_) fun bk=>?_
  ·exact AM ⟨⟨rfl,.inr (.inl ⟨_,congrArg _ (by rw[hL,show X.take 24=[] by rw[List.take_eq_nil_iff];right;exact List.eq_nil_of_length_eq_zero AA];rfl)⟩),trivial⟩,trivial⟩
  refine Bx ?_;refine .inr ?_;refine BH 0 fun a ab=>?_
  refine Ak ?_;intro bp ao aF a1 ai H Z B;have b7:=ao.eq;have f33:=ao.lt;have an:=a1.eq;have bB:=a1.lt;have ad:=H.eq;have b8:=H.lt;have O:=B.eq;have aK:=B.lt;have cy:bp=((a.1.toNat:Nat):Int):=b7;have cz:aF=((a.2.1.toNat:Nat):Int):=an;have cA:ai=((a.2.2.1.toNat:Nat):Int):=ad;have cB:Z=((a.2.2.2.2.toNat:Nat):Int):=O;intro bq ae;conv=>cbv
  have ae:=wrap_i64 ae;have aq:bq=Lr a.2.2.2.1:=ae;refine AP ?_;intro cI cf cJ ar;have ar:=wrap_i64 ar;refine AP ?_;intro br cg;obtain⟨aP,a8⟩:=Di (em [] (Re.ofRat (H6 a)));have cC:=WR a.2.2.2.1;refine AB (r:= .agg [.sl (.sl AL) (([]:List LR)),AU aP]) P (PR (q:=H6 a) AA AA AA (bn aq (by show br=((a.2.2.2.2.toNat%8+1:Nat):Int);omega)) a8) ?_;refine AY ?_;refine .inr ?_;refine AY ?_;refine .inr ?_;obtain⟨_,b6,cr,aW,bj⟩:=Oc (st:=st) ⟨a6,V,hV,f⟩ a;have ct:b6.length<=8:=by have:=(Oc (st:=st) ⟨a6,V,hV,f⟩ a).1;omega
  have D:=Ua (l:=[]) (x:=(Ea st a).1) (fun n hn=>by simp at hn) bj (fun he=>by rw[Od (.inl aj)];exact VZ a);obtain⟨kk,ah⟩:∃z:Nu,z=HF [] (Ea st a).1:=⟨_,rfl⟩
  rw[<-ah] at D;have w:=WJ D.red D.mem;have bT:kk=([],Re.ofRat (H6 a)):=by rw[ah,oB,Od (.inl aj)]
  have cq:(([]:List LR):List LR)=tw kk.1:=by rw[bT];rfl
  have cp:aP=em kk.1 kk.2:=by rw[bT];exact a8
  obtain⟨G,M⟩:=I7 (tw (HR kk).1);obtain⟨F,J⟩:=Di (em (HR kk).1 (HR kk).2);refine AB (r:= .agg [BA G,AU F]) P (XO D.red D.mem (by have:=D.len;omega) (by rw[w.1,w.2.2]) cq cp M (by rw[J,w.2.2])) ?_;refine⟨[(G,F)],DK,.inr ?_⟩;try conv=>cbv
  refine .inl ⟨[(G,F)],fun _=>⟨rfl,C2 (1) 48⟩,?_⟩;refine AP ?_;intro b3 bG bo cd;refine⟨24-(k'+1),?_,?_⟩
  ·omega
  rw[aM];have N:X[k']? =some a:=by (first | exact ab | (rw[<-ab];congr 1 <;> omega))
  refine .inr ⟨_,_,k'+1,0,bo,rfl,rfl,⟨⟨AA⟩,by have:=Dh N;omega,AA,AA,bG⟩,?_,rfl⟩;rw[EI (x:=a) N,cY,<-I];refine⟨by rw[Jv,aj,List.nil_append,<-ah,M,J];rfl,?_⟩
  show Ah 0 (Ea st a).2
  rw[Od (.inl aj),bW];exact BJ 0
 conv=>cbv
 have ej:=hj.eq;have aJ:=g.eq;obtain⟨a6,V,hV,f⟩:=Vt (X.take k');obtain⟨st,I⟩:∃s,s=runN (X.take k'):=⟨_,rfl⟩
 rw[<-I] at a6 hV f;rw[<-I] at ho g aJ;have hlen:st.1.length=k':=by rw[I,runN,cb,List.length_nil,List.length_take];omega
 have dv:o.length=k':=by rw[ho,List.length_map,hlen]
 have Y:st.1≠[]:=fun e=>by rw[e] at hlen;simp at hlen;omega
 have h:=Nat.le_trans hV a6;rintro cH ⟨cc,f22⟩;conv=>cbv
 refine Bt (fun bk=>?_) fun bk=>?_
 ·exact AM ⟨⟨rfl,.inl ⟨_,rfl,AA,congrArg _ (by have e:X.take 24=X.take k':=(by first | rw[(AA:k'=24)] | rw[List.take_of_length_le AA,List.take_of_length_le AA]);rw[hL,hn,List.drop_zero,List.take_length,ho,I,e])⟩,trivial⟩,trivial⟩
 refine Bt (fun cD=>?_) fun cD=>?_
 ·exact AM ⟨⟨rfl,.inl ⟨_,rfl,AA,congrArg _ (by have e:X.take 24=X.take k':=(by first | rw[(AA:k'=24)] | rw[List.take_of_length_le AA,List.take_of_length_le AA]);rw[hL,hn,List.drop_zero,List.take_length,ho,I,e])⟩,trivial⟩,trivial⟩
 refine .inr ?_;refine BH k' fun a ab=>?_
 refine Ak ?_;intro bp ao aF a1 ai H Z B;have b7:=ao.eq;have f33:=ao.lt;have an:=a1.eq;have bB:=a1.lt;have ad:=H.eq;have b8:=H.lt;have O:=B.eq;have aK:=B.lt;have cy:bp=((a.1.toNat:Nat):Int):=b7;have cz:aF=((a.2.1.toNat:Nat):Int):=an;have cA:ai=((a.2.2.1.toNat:Nat):Int):=ad;have cB:Z=((a.2.2.2.2.toNat:Nat):Int):=O;intro bq ae;conv=>cbv
 have ae:=wrap_i64 ae;have aq:bq=Lr a.2.2.2.1:=ae;refine AP ?_;intro cI cf cJ ar;have ar:=wrap_i64 ar;refine AP ?_;intro br cg;obtain⟨aP,a8⟩:=Di (em [] (Re.ofRat (H6 a)));have cC:=WR a.2.2.2.1;refine AB (r:= .agg [.sl (.sl AL) (([]:List LR)),AU aP]) P (PR (q:=H6 a) AA AA AA (bn aq (by show br=((a.2.2.2.2.toNat%8+1:Nat):Int);omega)) a8) ?_;intro dx ch;have dk:=ch.eq;conv=>cbv
 refine Fw (fun c5=>?_) fun c5=>?_
 ·exact absurd c5 AA
 intro dy ds cK bH;obtain⟨ca,p⟩:=xK fun vs bl=>∃(T7:List LR) (A7:LR) (r7:Int),vs=[.one (.sl DT X),.one (.BK AR 157 0 0 n),AD r7,AD j,.one (.BX 7 0 0)]/\bl=[.var 0 [BA T7,AU A7],.arr 0 AR o]/\(T7=tw (Ea st a).1.1/\A7=em (Ea st a).1.1 (Ea st a).1.2)/\Ah r7 (Ea st a).2
 refine .inl ⟨[0,3,4,5,7],[7,157],ca,?_,?_⟩
 ·intro vs bl hj;rw[p] at hj;obtain⟨T7,A7,r7,rfl,rfl,⟨bO,bM⟩,bU⟩:=hj;conv=>cbv
  have dr:=bU.eq;intro dd bE;have cU:=bE.eq;conv=>cbv
  refine Fw (fun b2=>?_) fun b2=>?_
  ·exact absurd b2 AA
  obtain⟨bA,ag⟩:=FC (PF (Ea st a).1.1.reverse (co (Ea st a).1.1 (Ea st a).1.2));refine AB P (jS bO bM ag) ?_;obtain⟨bz,af⟩:=xK fun vs bl=>∃(T8:List LR) (A8:LR),vs=[.one (.sl DT X),.one (.BK AR 157 0 0 n),AD r7,AD j,.one (.BX 7 0 0)]/\bl=[.var 0 [BA T8,AU A8],.arr 0 AR o]/\(T8=tw (HF st.1 (Ea st a).1).1/\A8=em (HF st.1 (Ea st a).1).1 (HF st.1 (Ea st a).1).2)
  refine .inl ⟨[0,3,4,5,7],[7,157],bz,?_,?_⟩
  ·intro vs bl hj;rw[af] at hj;obtain⟨T8,A8,rfl,rfl,bP,bN⟩:=hj;conv=>cbv
   obtain⟨_,b6,cr,aW,bj⟩:=Oc (st:=st) ⟨a6,V,hV,f⟩ a;have ct:b6.length<=8:=by have:=(Oc (st:=st) ⟨a6,V,hV,f⟩ a).1;omega
   have D:=Ua (l:=st.1) (x:=(Ea st a).1) aW bj (fun he=>by rw[Od (.inl he)];exact VZ a);obtain⟨kk,ah⟩:∃z:Nu,z=HF st.1 (Ea st a).1:=⟨_,rfl⟩
   rw[<-ah] at D;have w:=WJ D.red D.mem;rw[<-ah] at bP bN;obtain⟨G,M⟩:=I7 (tw (HR kk).1);obtain⟨F,J⟩:=Di (em (HR kk).1 (HR kk).2);refine AB (r:= .agg [BA G,AU F]) P (XO D.red D.mem (by have:=D.len;omega) (by rw[w.1,w.2.2]) bP bN M (by rw[J,w.2.2])) ?_;refine⟨[(G,F)],DK,.inr ?_⟩;try conv=>cbv
   refine .inl ⟨[(G,F)],fun _=>⟨rfl,by (first | rfl | omega),rfl,C2 (o.length+1) 48⟩,?_⟩;intro (aE:List (el AR)) b3 aG;have bd:aE=(o:List (el AR))++([(G,F)]:List (el AR)):=aG.1;have bg:b3=List.length (α:=(el AR)) aE:=aG.2;refine AP ?_;intro bo cd;refine⟨24-(k'+1),?_,?_⟩
   ·omega
   rw[aM];have N:X[k']? =some a:=by (first | exact ab | (rw[<-ab];congr 1 <;> omega))
   refine .inr ⟨aE,_,k'+1,r7,bo,rfl,rfl,⟨⟨AA⟩,by have:=Dh N;omega,AA,AA,bg⟩,?_,rfl⟩;rw[EI (x:=a) N,cY,<-I];exact⟨by rw[bd,ho,Jv,List.map_append,<-ah,M,J];rfl,bU⟩
  cases bA <;> conv=>cbv
  ·rw[af];refine⟨_,_,rfl,rfl,?_⟩ <;> rw[oD (fun hl=>Bool.false_ne_true (ag.2 (aH.2 hl)))]
   exact⟨bO,bM⟩
  intro de bF;have cV:=bF.eq;refine AP ?_;intro df cW bZ cu;obtain⟨c9,aD⟩:=Cq (l:=o) (i:=bZ) AA;refine⟨c9,fun _=>aD,?_⟩;try conv=>cbv
  rw[af];obtain⟨u3,y3,bX,bY,cx⟩:=Jb ho aD;refine⟨_,_,rfl,rfl,?_⟩ <;> rw[oA Y (aH.1 (ag.1 rfl)),oQ cx AA]
  exact⟨bX,bY⟩
 cases cK <;> conv=>cbv
 ·have cE:=HK bH;rw[p];refine⟨_,_,_,rfl,rfl,?_,?_⟩ <;> rw[Od (.inr AA)]
  ·exact⟨rfl,a8⟩
  exact g
 have cE:=HM bH;intro cL bI;conv=>cbv
 have bI:=wrap_i64 bI;intro cN cj;have dm:=cj.eq;refine AP ?_;intro cO ck;obtain⟨d58,bQ,dn,cv⟩:∃d:Nat,d=a.2.1.toNat%k'/\cO=d/\d<k':=⟨_,rfl,by rw[ck,(AA:cL=((a.2.1.toNat:Nat):Int)),(AA:cN=(k':Int))];exact (Int.natCast_emod _ _).symm,Nat.mod_lt _ bS⟩
 refine AP ?_;intro c0 cZ;obtain⟨aI,b0⟩:=Cq (l:=o) (i:=c0) AA;refine⟨aI,fun _=>b0,?_⟩;refine Ak ?_;intro cP bJ;have bJ:=wrap_i64 bJ;intro cQ cl;have dp:=cl.eq;refine AP ?_;intro cR cm;obtain⟨d67,bR,dq,cw⟩:∃d:Nat,d=a.2.2.1.toNat%k'/\cR=d/\d<k':=⟨_,rfl,by rw[cm,(AA:cP=((a.2.2.1.toNat:Nat):Int)),(AA:cQ=(k':Int))];exact (Int.natCast_emod _ _).symm,Nat.mod_lt _ bS⟩
 refine AP ?_;intro c1 dc;obtain⟨bx,b1⟩:=Cq (l:=o) (i:=c1) AA;refine⟨bx,fun _=>b1,?_⟩;try conv=>cbv
 refine g2 rfl ?_;obtain⟨u1,y1,m,t,U⟩:=Jb ho b0;obtain⟨u2,y2,ak,al,W⟩:=Jb ho b1;have Q:=List.mem_of_getElem? U;have ay:=List.mem_of_getElem? W;have a2:c0=a.2.1.toNat%st.1.length:=by rw[hlen,<-bQ];omega
 have a5:c1=a.2.2.1.toNat%st.1.length:=by rw[hlen,<-bR];omega
 have ax:=((f _ Q).el h).mono (by decide:512<=Rm);have ba:=((f _ ay).el h).mono (by decide:512<=Rm);refine AP ?_;intro dz dt;refine .inr ?_;intro cT bL;conv=>cbv
 refine .inr ?_;cases cT <;> conv=>cbv
 ·have cG:=Bm bL;intro c6 aT;conv=>cbv
  refine .inr ?_;cases c6 <;> conv=>cbv
  ·have c2:=Bm aT;intro c7 aU;conv=>cbv
   refine .inr ?_;cases c7 <;> conv=>cbv
   ·have c3:=Bm aU;intro c8 aV;conv=>cbv
    refine .inr ?_;cases c8 <;> conv=>cbv
    ·have c4:=Bm aV;obtain⟨dA,bV⟩:=xI (CA y1);refine AB P (Lz (Hz h f (Nat.le_refl Rm)) (F6 h f Q) m t ax bV) ?_;intro cS bK;refine .inr ?_;cases cS <;> conv=>cbv
     ·have cF:=ES bK;intro bs au;conv=>cbv
      refine .inr ?_;cases bs <;> conv=>cbv
      ·have bm:=ES au;rw[p];have b:=Kb (o:=a) Y (by omega:a.1.toNat%6≠0);rw[get_eq U a2,get_eq W a5] at b;rw[(AA:a.1.toNat%6=5),bC _ _ AA] at b;refine⟨_,_,_,rfl,rfl,?_,?_⟩ <;> rw[b]
       ·exact⟨m,t⟩
       exact g
      have bm:=ET au;refine AP ?_;intro bt cn;have av:=(f _ Q).abs;have aw:ED y1=y1:=by unfold ED;rw[if_neg (da AA)]
      obtain⟨hG,bb,bc⟩:=cM av AA (L4 _) (Nat.le_refl Rm);obtain⟨bw,aa⟩:=I7 (tw (BW u1 (ED y1)));obtain⟨bu,a7⟩:=Di (em (BW u1 (ED y1)) (Re.sqrt (ED y1)));refine AB (r:= .BN [(true,[BA bw,AU bu]),(false,[.int .i64 0])]) P (SV hG bb m (by show _=em u1 (ED y1);rw[aw];exact t) ((av.el h).mono AF) bc (L4 _) aa a7) ?_;refine AB P L2 ?_;rw[p];have b:=Kb (o:=a) Y (by omega:a.1.toNat%6≠0);rw[get_eq U a2,get_eq W a5] at b;rw[(AA:a.1.toNat%6=5),bD _ _ AA] at b;refine⟨_,_,_,rfl,rfl,?_,?_⟩ <;> rw[b]
      ·exact⟨aa,a7⟩
      exact⟨by show bt=((st.2+1:Nat):Int);omega⟩
     have cF:=ET bK;obtain⟨dB,aX⟩:=Di (em u1 (-y1));refine AB P (PS (Hz h f (Nat.le_refl Rm)) (F6 h f Q) m t ax aX) ?_;intro bs au;refine .inr ?_;cases bs <;> conv=>cbv
     ·have bm:=ES au;rw[p];have b:=Kb (o:=a) Y (by omega:a.1.toNat%6≠0);rw[get_eq U a2,get_eq W a5] at b;rw[(AA:a.1.toNat%6=5),bC _ _ AA] at b;refine⟨_,_,_,rfl,rfl,?_,?_⟩ <;> rw[b]
      ·exact⟨m,t⟩
      exact g
     have bm:=ET au;refine AP ?_;intro bt cn;have av:=(f _ Q).abs;have aw:ED y1= -y1:=by unfold ED;rw[if_pos (db AA)]
     obtain⟨hG,bb,bc⟩:=cM av AA (L4 _) (Nat.le_refl Rm);obtain⟨bw,aa⟩:=I7 (tw (BW u1 (ED y1)));obtain⟨bu,a7⟩:=Di (em (BW u1 (ED y1)) (Re.sqrt (ED y1)));refine AB (r:= .BN [(true,[BA bw,AU bu]),(false,[.int .i64 0])]) P (SV hG bb m (by show _=em u1 (ED y1);rw[aw];exact aX) ((av.el h).mono AF) bc (L4 _) aa a7) ?_;refine AB P L2 ?_;rw[p];have b:=Kb (o:=a) Y (by omega:a.1.toNat%6≠0);rw[get_eq U a2,get_eq W a5] at b;rw[(AA:a.1.toNat%6=5),bD _ _ AA] at b;refine⟨_,_,_,rfl,rfl,?_,?_⟩ <;> rw[b]
     ·exact⟨aa,a7⟩
     exact⟨by show bt=((st.2+1:Nat):Int);omega⟩
    have c4:=Bp aV;obtain⟨aR,aQ,b5,b4,aS,b9,bf,aN,aL,bh⟩:=lv h f Q ay (r:=st.2);refine .inl ⟨[.agg [BA aI.1,AU aI.2],.agg [BA bx.1,AU bx.2]],.BN [(true,[BA aR,AU aQ]),(false,[.int .i64 aS])],AQ,fun _=>GX P (by rw[m,t,ak,al];exact b9),?_⟩;try conv=>cbv
    refine .inl ⟨[.agg [BA aR,AU aQ],AD aS,.agg [BA aI.1,AU aI.2]],.agg [BA b5,AU b4],AQ,fun _=>GX P (by rw[m,t];exact bf),?_⟩;try conv=>cbv
    rw[p];have b:=Kb (o:=a) Y (by omega:a.1.toNat%6≠0);rw[get_eq U a2,get_eq W a5] at b;rw[(AA:a.1.toNat%6=4)] at b;refine⟨_,_,_,rfl,rfl,?_,?_⟩ <;> rw[b]
    ·exact⟨aN,aL⟩
    rw[bh];exact g
   have c3:=Bp aU;obtain⟨dj,aC⟩:=I7 (tw (CD u1 u2));obtain⟨dh,aA⟩:=Di (em (CD u1 u2) (y1*y2));refine AB P (SU (Hz h f (Nat.le_refl Rm)) (F6 h f Q) (F6 h f ay) m ak t al ax ba aC aA) ?_;refine AB P L2 ?_;rw[p];have b:=Kb (o:=a) Y (by omega:a.1.toNat%6≠0);rw[get_eq U a2,get_eq W a5] at b;rw[(AA:a.1.toNat%6=3),ph] at b;refine⟨_,_,_,rfl,rfl,?_,?_⟩ <;> rw[b]
   ·exact⟨aC,aA⟩
   exact g
  have c2:=Bp aT;obtain⟨di,aB⟩:=I7 (tw (CD u1 u2));obtain⟨dg,az⟩:=Di (em (CD u1 u2) (y1-y2));refine AB P (SW (Hz h f (Nat.le_refl Rm)) (F6 h f Q) (F6 h f ay) m ak t al ax ba aB az) ?_;refine AB P L2 ?_;rw[p];have b:=Kb (o:=a) Y (by omega:a.1.toNat%6≠0);rw[get_eq U a2,get_eq W a5] at b;rw[(AA:a.1.toNat%6=2),pj] at b;refine⟨_,_,_,rfl,rfl,?_,?_⟩ <;> rw[b]
  ·exact⟨aB,az⟩
  exact g
 have cG:=Bp bL;obtain⟨dD,aZ⟩:=I7 (tw (CD u1 u2));obtain⟨dC,aY⟩:=Di (em (CD u1 u2) (y1+y2));refine AB P (SR (Hz h f (Nat.le_refl Rm)) (F6 h f Q) (F6 h f ay) m ak t al ax ba aZ aY) ?_;refine AB P L2 ?_;rw[p];have b:=Kb (o:=a) Y (by omega:a.1.toNat%6≠0);rw[get_eq U a2,get_eq W a5] at b;rw[(AA:a.1.toNat%6=1),pZ] at b;refine⟨_,_,_,rfl,rfl,?_,?_⟩ <;> rw[b]
 ·exact⟨aZ,aY⟩
 exact g
end
section
def qn (k:Nat):Re:=Re.ofRat ((k:Nat):Rat)
noncomputable def rtN (k:Nat):Nu:=(BW [] (qn k),Re.sqrt (qn k))
noncomputable def vS (k:Nat):Nu:=([],qn k)
theorem nz (u:AH):Fk [] u=u:=by
 unfold Fk
 split
 ·rename_i h;exact (List.suffix_nil.1 h).symm
 rw[if_pos (List.nil_suffix)]
theorem nx (u v:AH):CD u v=Fk u v:=by
 show Fk (Fk [] u) v=_
 rw[nz]
noncomputable def mT:Re:=qn 5+qn 2*Re.sqrt (qn 6)
def PA (u:AH):Prop:=u<:+BW [[6]] mT\/u<:+BW [] (qn 2)\/u<:+BW [] (qn 3)
end
section
theorem vf (X:List (el DT)):∃V:List Re,V.length<=3/\∀n∈(runN X).1,DG V n:=by
 obtain⟨h3,V,hV,a⟩:=Vt X;exact⟨V,Nat.le_trans hV h3,a⟩
instance (q:Rat):Decidable (C7 q):=inferInstanceAs (Decidable (_/\_))
theorem Hk {q:Rat} (h:C7 q):Cw q:=⟨by have:=Qp.2 h.1;omega,by have:=Qp.2 h.2;omega⟩
end
section
def orM (g:Nat->Nat):List Nat->Nat
 | []=>0
 | k::r=>Nat.lor (Nat.lor (Nat.pow 2 k) (g k)) (orM g r)
def G7 (acc:List Nat) (n k:Nat):Nat:=match Nat.ble (k+1) n with | true=>acc.getD (n-1-k) 0 | false=>0
def Nn:List Oper->List Nat->Nat->List Nat
 | [],acc,_=>acc
 | o::r,acc,n=>Nn r (orM (G7 acc n) (GH o)::acc) (n+1)
def VD (ops:List Oper) (tr:Tr):Bool:=X2 ops&&((fun acc=>(List.range ops.length).all fun j=>(List.range j).all fun i=>
 Nat.testBit (G7 acc ops.length j) i||
  (match ops[i]?,ops[j]?,tr[i]?,tr[j]? with
   | some oi,some oj,some ti,some tj=>Ng ops oi oj ti tj
   | _,_,_,_=>false)) (Nn ops [] 0))
theorem bH {g:Nat->Nat} {i:Nat}:∀{l:List Nat},(orM g l).testBit i=true↔∃k∈l,i=k\/(g k).testBit i=true
 | []=>by simp[orM]
 | k::r=>by
  have d:=bH (g:=g) (i:=i) (l:=r)
  show ((2^k ||| g k) ||| orM g r).testBit i=true↔_
  rw[Nat.testBit_or,Nat.testBit_or,Nat.testBit_two_pow,Bool.or_eq_true,Bool.or_eq_true,d];simp only[List.mem_cons,decide_eq_true_eq]
  constructor
  ·rintro ((h | h) |⟨m,b,a⟩)
   ·exact⟨k,.inl rfl,.inl h.symm⟩
   ·exact⟨k,.inl rfl,.inr h⟩
   exact⟨m,.inr b,a⟩
  rintro⟨m,rfl | b,a⟩
  ·exact .inl (a.imp Eq.symm id)
  exact .inr ⟨m,b,a⟩
theorem kH {x:Nat} {acc:List Nat} {n k:Nat} (h:k≠n):G7 (x::acc) (n+1) k=G7 acc n k:=by
 unfold G7
 by_cases d:k<n
 ·rw[Nat.ble_eq_true_of_le (by omega:k+1<=n+1),Nat.ble_eq_true_of_le (by omega:k+1<=n)]
  show (x::acc).getD (n+1-1-k) 0=acc.getD (n-1-k) 0
  rw[(AA:n+1-1-k=(n-1-k)+1)];rfl
 have a:Nat.ble (k+1) (n+1)=false:=by rw[<-Bool.not_eq_true,Nat.ble_eq];omega
 have b:Nat.ble (k+1) n=false:=by rw[<-Bool.not_eq_true,Nat.ble_eq];omega
 rw[a,b]
theorem YA:∀(ops:List Oper) {acc:List (List Nat)} {m:List Nat},(∀j i,(G7 m acc.length j).testBit i=true↔i∈acc.getD j [])->∀j i,(G7 (Nn ops m acc.length) (acc.length+ops.length) j).testBit i=true↔i∈(HY ops acc).getD j []
 | [],_,_,h=>h
 | o::r,acc,m,h=>by
  rw[HY,Nn]
  have:=YA r (acc:=acc++[(GH o).flatMap fun j=>j::acc.getD j []]) (m:=orM (G7 m acc.length) (GH o)::m) (fun j i=>by
   rw[List.length_append,List.length_singleton]
   by_cases e:j=acc.length
   ·subst e
    have e1:G7 (orM (G7 m acc.length) (GH o)::m) (acc.length+1) acc.length=orM (G7 m acc.length) (GH o):=by
     unfold G7;rw[Nat.ble_eq_true_of_le (Nat.le_refl _)]
     show (_::m).getD (acc.length+1-1-acc.length) 0=_
     rw[(AA:acc.length+1-1-acc.length=0)];rfl
    rw[e1,bH];have e2:(acc++[(GH o).flatMap fun j=>j::acc.getD j []]).getD acc.length []=(GH o).flatMap fun j=>j::acc.getD j []:=AZ
    rw[e2,List.mem_flatMap]
    constructor
    ·rintro⟨k,a,h'⟩;exact⟨k,a,List.mem_cons.2 (h'.imp id (h k i).1)⟩
    rintro⟨k,a,h'⟩;exact⟨k,a,(List.mem_cons.1 h').imp id (h k i).2⟩
   rw[kH e,h]
   by_cases b:j<acc.length
   ·simp only[List.getD_eq_getElem?_getD,List.getElem?_append_left b]
   simp only[List.getD_eq_getElem?_getD];rw[List.getElem?_eq_none AA,List.getElem?_eq_none (by simp;omega)])
  rw[List.length_append,List.length_singleton] at this;rw[List.length_cons,(AA:acc.length+(r.length+1)=acc.length+1+r.length)];exact this
theorem pX {ops:List Oper} {tr:Tr} (h:VD ops tr=true):KU ops tr=true:=by
 unfold VD at h;unfold KU;rw[Bool.and_eq_true] at h ⊢;refine⟨h.1,?_⟩;have a:=YA ops (acc:=[]) (m:=[]) (fun j i=>by unfold G7;split <;> simp);rw[List.length_nil,Nat.zero_add] at a
 have e:∀j i,((HY ops []).getD j []).contains i=Nat.testBit (G7 (Nn ops [] 0) ops.length j) i:=fun j i=>by
  rw[Bool.eq_iff_iff,List.contains_iff_mem];exact (a j i).symm
 have b:=h.2;unfold a7;simp only[e];exact b
end
end Go.Abs
