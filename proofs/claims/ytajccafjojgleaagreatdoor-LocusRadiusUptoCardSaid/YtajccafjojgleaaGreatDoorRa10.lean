/- Part 11 of a proof. Conditions: each theorem's own. -/
import Derived.Test.YtajccafjojgleaaGreatDoorRa09
set_option linter.all false
set_option maxHeartbeats 80000000
set_option maxRecDepth 20000
open Go.Proofs
namespace Go.Abs
open Go.RowKit
section
theorem gl {TT:AD->Prop} {R K S:Nat} (G:DW TT R K S) {L:List (el AY)} {ns:List (AD×Re)} (Q:∀n∈ns,TT n.1) (hL:L=ns.map nm) (ar:∀n∈ns,El n.1 S n.2) (hlen:ns.length<=1000000) {O:List (el AY)} (hO:O=ns.map (fun n=>nm (CE ns,n.2))):CF 147 [.one (.sl AY L)] (.Aj [(false,[.sl AY O]),(false,[.int .i64 0])]):=by
 have b1:L.length=ns.length:=by rw[hL,List.length_map]
 have J:TT (CE ns):=G.CE Q;refine AM Tryz.func147 fun E hE=>?_
 refine BI [(4,.sl AG,false)] [0,4,5] [] (fun vs bl k=>∃(Ti:List LR) (i':Nat) (i:Int),vs=[.one (.sl AY L),Ah Ti,AH i]/\bl=[]/\(AR i i'/\i'<=L.length)/\Ti=tw (CE (ns.take i'))/\k=L.length-i') L.length ⟨[],0,0,rfl,rfl,⟨BD 0,AA⟩,rfl,rfl⟩ ?_;rintro J0 P vs bl b5 ⟨Ti,i',i,rfl,rfl,⟨hi,aK⟩,h,b2⟩;conv=>cbv
 have ei:=hi.eq;have aL:(CE (ns.take i')).length=List.length (α:=LR) Ti:=by rw[h,CA]
 rintro b7 ⟨aZ,f17⟩;conv=>cbv
 refine BQ (fun aM=>?_) fun aM=>?_
 ·refine BI [(9,AY,true)] [0,4,9,10] [9] (fun vs bl k=>∃(T:List LR) (o:List (el AY)) (mm i':Nat) (i:Int),vs=[.one (.sl AY L),Ah T,.one (.AU AY 9 0 0 mm),AH i]/\bl=[.arr 0 AY o]/\(AR i i'/\i'<=L.length/\mm=o.length)/\T=tw (CE ns)/\o=(ns.take i').map (fun n=>nm (CE ns,n.2))/\k=L.length-i') L.length ⟨Ti,[],0,0,0,rfl,rfl,⟨BD 0,Nat.zero_le _,rfl⟩,by rw[h,List.take_of_length_le (AA:ns.length<=i')],rfl,rfl⟩ ?_;rintro J1 aq vs bl b6 ⟨T,o,mm,i',i,rfl,rfl,⟨hi,aK,ad⟩,hT,hinv,b3⟩;conv=>cbv
  have ei:=hi.eq;have b4:o.length<=L.length:=by rw[hinv,List.length_map,List.length_take];omega
  rintro b8 ⟨b0,f69⟩;conv=>cbv
  refine BQ (fun aO=>?_) fun aO=>?_
  ·exact AN ⟨⟨rfl,.inl ⟨_,rfl,AA,congrArg _ (by rw[hO,ad,hinv,List.drop_zero,List.take_length,List.take_of_length_le (AA:ns.length<=i')])⟩,trivial⟩,t2,trivial⟩
  refine .inr ?_;refine Ae i' fun a2 H=>?_
  try conv=>cbv
  obtain⟨u,y,d,af,I⟩:=Ip hL H;have M:=List.mem_of_getElem? I;have hu:TT u:=Q _ M;have ag:El u S y:=ar _ M;have av:List.length (α:=LR) a2.1=u.length:=by rw[d,CA]
  have au:BW u (CE ns):=Sn G.toGam Q _ M;obtain⟨wC,a1⟩:=xR (em (CE ns) y);obtain⟨aC,a5⟩:=Ez (u<:+CE ns);refine AB hE (Oq (G.BG J) (G.BG hu) hT d a5) ?_;refine .inr ?_;cases aC <;> conv=>cbv
  ·refine Ae i' fun aW aA=>?_
   try conv=>cbv
   have aI:aW=a2:=Option.some.inj (aA.symm.trans H);obtain⟨aR,aw⟩:=xV (tw (CE ns));obtain⟨aS,a7⟩:=xV (E8 (CE ns) u);have a6:=Sx (G.BG J).red (G.BG hu).red au;refine AB (r:= .Aj [(false,[BP aR]),(false,[BP aS]),(false,[.int .i64 0])]) hE (Rx G J hu hT (by rw[aI];exact d) (by rw[a6];exact aw) a7) ?_;refine Ae i' fun aB ae=>?_
   try conv=>cbv
   have ao:aB=a2:=Option.some.inj (ae.symm.trans H);refine AB (r:= .one (Au wC)) hE (iJ G.toGam J hu au hT (by rw[a7];have:=OE (G.BG J).red (G.BG hu).red;rwa [a6] at this) (by rw[ao];exact af) ag a1) ?_;refine⟨[(T,wC)],Ca,.inr ?_⟩;try conv=>cbv
   refine .inl ⟨[(T,wC)],fun _=>⟨rfl,ad,rfl,B5 (o.length+1) 48⟩,?_⟩;intro (f:List (el AY)) p g;have t:f=(o:List (el AY))++([(T,wC)]:List (el AY)):=g.1;have w:p=List.length (α:=(el AY)) f:=g.2;refine AK ?_;intro ah aJ;exact BT aq ⟨T,f,p,i'+1,ah,rfl,rfl,⟨⟨AA⟩,AA,w⟩,hT,by rw[t,hinv,DU I,List.map_append];simp[nm,hT,a1],rfl⟩
  refine Ae i' fun aV az=>?_
  try conv=>cbv
  have aH:aV=a2:=Option.some.inj (az.symm.trans H);refine AB (r:= .one (Au wC)) hE (Rz (G.BG J) hT (by rw[aH];exact af) ag.mem (a5.1 rfl) a1) ?_;refine⟨[(T,wC)],Ca,.inr ?_⟩;try conv=>cbv
  refine .inl ⟨[(T,wC)],fun _=>⟨rfl,ad,rfl,B5 (o.length+1) 48⟩,?_⟩;intro (f:List (el AY)) p g;have t:f=(o:List (el AY))++([(T,wC)]:List (el AY)):=g.1;have w:p=List.length (α:=(el AY)) f:=g.2;refine AK ?_;intro ah aJ;exact BT aq ⟨T,f,p,i'+1,ah,rfl,rfl,⟨⟨AA⟩,AA,w⟩,hT,by rw[t,hinv,DU I,List.map_append];simp[nm,hT,a1],rfl⟩
 refine .inr ?_;refine Ae i' fun D b=>?_
 try conv=>cbv
 obtain⟨u,y,d,af,I⟩:=Ip hL b;have M:=List.mem_of_getElem? I;have hu:TT u:=Q _ M;have ag:El u S y:=ar _ M;have av:List.length (α:=LR) D.1=u.length:=by rw[d,CA]
 have B:=Za I;unfold E2 at B
 dsimp only at B
 have U:TT (CE (ns.take i')):=G.CE (fun n hn=>Q n (List.mem_of_mem_take hn));rintro aP ⟨aD,f26⟩;conv=>cbv
 have aY:aP=(u.length:Int):=aD.trans (congrArg (fun n:Nat=>(n:Int)) av);rintro aQ ⟨aE,f28⟩;conv=>cbv
 have aX:aQ=((CE (ns.take i')).length:Int):=aE.trans (congrArg (fun n:Nat=>(n:Int)) aL.symm);refine FC (fun aN=>?_) fun aN=>?_
 ·refine .inr ?_;refine Ae i' fun ak X=>?_
  try conv=>cbv
  have aa:ak=D:=Option.some.inj (X.symm.trans b);obtain⟨a8,a⟩:=Ez (u<:+(CE (ns.take i')));refine AB (r:= .one (.bool a8)) hE (Oq (G.BG U) (G.BG hu) h (by rw[aa];exact d) a) ?_;intro Du N;refine .inr ?_;cases Du <;> conv=>cbv
  ·have j:=Gg N;refine AK ?_;intro l Z;exact BT P ⟨_,i'+1,l,rfl,rfl,⟨⟨AA⟩,AA⟩,by rw[B,if_pos (a.1 j),<-h],rfl⟩
  have j:=Gh N;refine Ae i' fun al Y=>?_
  try conv=>cbv
  have ab:al=D:=Option.some.inj (Y.symm.trans b);obtain⟨ai,m⟩:=xV (tw (ext (CE (ns.take i')) u));obtain⟨aj,W⟩:=xV (E8 (CE (ns.take i')) u);refine AB (r:= .Aj [(false,[BP ai]),(false,[BP aj]),(false,[.int .i64 0])]) hE (Rx G U hu h (by rw[ab];exact d) m W) ?_;refine BM ?_;intro l Z;exact BT P ⟨_,i'+1,l,rfl,rfl,⟨⟨AA⟩,AA⟩,by rw[B,if_neg (fun q=>by have:=a.2 q;rw[j] at this;cases this),if_neg (fun z=>by first | (have:=F.2 z;cases this) | exact absurd (show u<:+CE (List.take i' ns) from by rw[z.eq_of_length_le AA];exact List.suffix_refl _) (fun q=>by have:=a.2 q;rw[j] at this;cases this)),m],rfl⟩
 refine Ae i' fun aT ax=>?_
 try conv=>cbv
 have aF:aT=D:=Option.some.inj (ax.symm.trans b);obtain⟨an,F⟩:=Ez ((CE (ns.take i'))<:+u);refine AB (r:= .one (.bool an)) hE (Oq (G.BG hu) (G.BG U) (by rw[aF];exact d) h F) ?_;refine .inr ?_;cases an <;> conv=>cbv
 ·refine Ae i' fun ak X=>?_
  try conv=>cbv
  have aa:ak=D:=Option.some.inj (X.symm.trans b);obtain⟨a8,a⟩:=Ez (u<:+(CE (ns.take i')));refine AB (r:= .one (.bool a8)) hE (Oq (G.BG U) (G.BG hu) h (by rw[aa];exact d) a) ?_;intro Du N;refine .inr ?_;cases Du <;> conv=>cbv
  ·have j:=Gg N;refine AK ?_;intro l Z;exact BT P ⟨_,i'+1,l,rfl,rfl,⟨⟨AA⟩,AA⟩,by rw[B,if_pos (a.1 j),<-h],rfl⟩
  have j:=Gh N;refine Ae i' fun al Y=>?_
  try conv=>cbv
  have ab:al=D:=Option.some.inj (Y.symm.trans b);obtain⟨ai,m⟩:=xV (tw (ext (CE (ns.take i')) u));obtain⟨aj,W⟩:=xV (E8 (CE (ns.take i')) u);refine AB (r:= .Aj [(false,[BP ai]),(false,[BP aj]),(false,[.int .i64 0])]) hE (Rx G U hu h (by rw[ab];exact d) m W) ?_;refine BM ?_;intro l Z;exact BT P ⟨_,i'+1,l,rfl,rfl,⟨⟨AA⟩,AA⟩,by rw[B,if_neg (fun q=>by have:=a.2 q;rw[j] at this;cases this),if_neg (fun z=>by first | (have:=F.2 z;cases this) | exact absurd (show u<:+CE (List.take i' ns) from by rw[z.eq_of_length_le AA];exact List.suffix_refl _) (fun q=>by have:=a.2 q;rw[j] at this;cases this)),m],rfl⟩
 refine Ae i' fun aU ay=>?_
 try conv=>cbv
 have aG:aU=D:=Option.some.inj (ay.symm.trans b);refine AK ?_;intro l Z;exact BT P ⟨_,i'+1,l,rfl,rfl,⟨⟨AA⟩,AA⟩,by rw[B,if_neg (fun z=>by have:=z.length_le;omega),if_pos (F.1 rfl),aG];exact d,rfl⟩
end
section
abbrev Nu:=AD×Re
def Ct (q:Rat):Prop:=q.num.natAbs<18446744073709551616/\q.den<18446744073709551616
theorem YT:∀{a:List Rat},(∀q∈a,Ct q)->∃D:Nat,0<D/\D<=2^(64*a.length)/\DN D a
 | [],_=>⟨1,AE,Ai,fun q d=>by simp at d⟩
 | q::a,h=>by
  obtain⟨D,f,g,i⟩:=YT (a:=a) (fun x b=>h x (List.mem_cons_of_mem _ b));have d:=(h q List.mem_cons_self).2;refine⟨q.den*D,Nat.mul_pos q.den_pos f,?_,fun x b=>?_⟩
  ·have:=Nat.mul_le_mul (AA:q.den<=2^64) g;rw[<-Nat.pow_add] at this;rw[List.length_cons,(AA:64*(a.length+1)=64+64*a.length)];exact this
  rcases List.mem_cons.1 b with rfl | b
  ·refine⟨x.num*D,?_⟩;rw[Rat.intCast_mul,<-MM x,Hb];have:((D:Int):Rat)=(D:Rat):=rfl
   grind
  exact i.dvd ⟨q.den,by grind⟩ x b
theorem oA {q:Rat} {B:Nat} (h:q.num.natAbs<=B): -(B:Rat)<=q/\q<=B:=by
 have g:1<=q.den:=q.den_pos;have i:B*1<=B*q.den:=Nat.mul_le_mul_left B g
 have key:q.num<=(B:Int)*q.den/\ -((B:Int)*q.den)<=q.num:=by
  have:((B*q.den:Nat):Int)=(B:Int)*q.den:=Int.natCast_mul _ _;omega
 have e:=MM q
 have d:(0:Rat)<q.den:=by
  have:((0:Nat):Rat)<(q.den:Rat):=Rat.natCast_lt_natCast.2 q.den_pos;simpa using this
 have k1:(q.num:Rat)<=(B:Rat)*q.den:=by
  have:=Rat.intCast_le_intCast.2 key.1;rw[Rat.intCast_mul] at this;exact this
 have k2: -((B:Rat)*q.den)<=(q.num:Rat):=by
  have:=Rat.intCast_le_intCast.2 key.2;rw[Rat.intCast_neg,Rat.intCast_mul] at this;exact this
 rw[<-e] at k1 k2
 constructor
 ·apply Classical.byContradiction;intro f;have:=Rat.mul_pos (a:= -(B:Rat)-q) (b:=q.den) (by grind) d
  grind
 apply Classical.byContradiction;intro f;have:=Rat.mul_pos (a:=q-(B:Rat)) (b:=q.den) (by grind) d
 grind
theorem NH {a:List Rat} (h:∀q∈a,Ct q):Bd (64*a.length) a:=by
 obtain⟨D,d,f,g⟩:=YT h;refine⟨D,d,f,g,fun q b=>?_⟩;have i:1<=a.length:=List.length_pos_of_mem b;exact oA (Nat.le_trans (Nat.le_of_lt (h q b).1) (show 2^64<=2^(64*a.length) from Cb))
structure CY (V:List Re) (n:Nu):Prop where
 red:Ag n.1
 mem:In n.1 n.2
 BH:∀v∈BH n.1,v∈V
 I0:∀s∈n.1,∀q∈s,Ct q
 cos:∀q∈co n.1 n.2,Ct q
theorem CY.mono {V a:List Re} {n:Nu} (h:CY V n) (hV:∀v∈V,v∈a):CY a n:=⟨h.red,h.mem,fun v b=>hV v (h.BH v b),h.I0,h.cos⟩
theorem CY.len {V:List Re} {n:Nu} (h:CY V n):n.1.length<=V.length:=by rw[<-KA];exact Jl (HP h.red) h.BH
theorem Um:∀{u:AD} {r:List Rat},Ag u->r∈u->2*r.length<=2^u.length
 | [],_,_,h=>by simp at h
 | s::u,r,h,a=>by
  rw[Bz];rcases List.mem_cons.1 a with rfl | a
  ·rw[h.2.1];omega
  have:=Um h.1 a;omega
theorem ee {u w:AD} (h:u<:+w):∀v∈BH u,v∈BH w:=by
 obtain⟨t,rfl⟩:=h
 induction t with
 | nil=>exact fun v a=>a
 | cons r t b=>exact fun v a=>List.mem_cons_of_mem _ (b v a)
def PN (ns:List Nu) (u:AD):Prop:=∃n∈ns,u<:+n.1
section
variable {V:List Re} {ns:List Nu}
theorem bH {k:Nat} (h:k<=3):2^k<=8:=Cb h
theorem PN.Jb (hV:V.length<=3) (h:∀n∈ns,CY V n):Cg (PN ns) 256:=by
 refine⟨fun {u} ⟨n,a,d⟩=>Ux d (h n a).red,fun {u} ⟨n,a,d⟩=>fun r f=>?_,fun {r u} ⟨n,a,d⟩=>⟨n,a,(List.suffix_cons r u).trans d⟩⟩;have b:=d.subset f;have g:=Um (h n a).red b;have i:=bH (Nat.le_trans (h n a).len hV);exact (NH ((h n a).I0 r b)).mono AA
theorem PN.BH (h:∀n∈ns,CY V n) {u:AD} (hu:PN ns u):∀v∈BH u,v∈V:=by
 obtain⟨n,a,b⟩:=hu;exact fun v d=>(h n a).BH v (ee b v d)
theorem PN.self {n:Nu} (a:n∈ns):PN ns n.1:=⟨n,a,List.suffix_refl _⟩
end
theorem CY.el {V:List Re} {n:Nu} (h:CY V n) (hV:V.length<=3):El n.1 512 n.2:=by
 refine⟨h.mem,(NH h.cos).mono ?_⟩;have a:=bH (Nat.le_trans h.len hV);rw[C4 h.mem];omega
abbrev Rm:Nat:=93478
abbrev Cm:Nat:=53200000
abbrev Sm:Nat:=500000000000
theorem pj:RR 256 3<=Rm:=by decide +kernel
theorem jy:CC 3 Rm 3 Rm<=Cm:=by decide +kernel
theorem lP:∀h,h<=3->Fit h Rm (Sm+Cm)
 |0,_|1,_|2,_|3,_=>⟨by decide +kernel,by decide +kernel,by decide +kernel,by decide +kernel⟩
 | _+4,h=>absurd h AA
theorem lM:∀h,h<=3->Ev h Rm (Sm+Cm)
 |0,_|1,_|2,_|3,_=>⟨by decide +kernel,by decide +kernel,by decide +kernel,by decide +kernel⟩
 | _+4,h=>absurd h AA
theorem nu:2*(Sm+Cm)+EE 3 Rm<=60000000000000:=by decide +kernel
theorem Y4 {P:AD->Prop} (I:Cg P 256) (hm:∀{u},Tf P u->u.length<=3) {S:Nat} (a:Rm<=S) (d:S<=Sm):DW (Tf P) Rm Cm S:=
 {Tf.TG I hm pj a jy (fun h b=>(lP h b).mono AA) (Nat.le_trans AA nu) with JY:=fun {u} hu=>(lM _ (hm hu)).mono AA}
open Classical in
noncomputable def Bm (x:Re):Re:=if h:x≠0 then Classical.choose (Re.Ni h) else 0
theorem F0 {x:Re} (h:x≠0):x*Bm x=1:=by
 unfold Bm;rw[dif_pos h];exact Classical.choose_spec (Re.Ni h)
theorem P0 {u:AD} {x:Re} (hu:Ag u) (b:In u x) (a:x≠0):In u (Bm x):=by
 obtain⟨y,d,e⟩:=EU hu b a;have e2:=F0 a
 rw[show Bm x=y by
  have:Bm x=Bm x*(x*y):=by rw[e];grind
  rw[this];have:Bm x*(x*y)=(x*Bm x)*y:=by grind
  rw[this,e2];grind]
 exact d
open Classical in
noncomputable def DS (x:Re):Re:=if x<0 then -x else x
theorem LM (x:Re):0<=DS x:=by unfold DS;split <;> grind
theorem ZI {u:AD} {x:Re} (a:In u x):In u (DS x):=by unfold DS;split;exact GY a;exact a
open Classical in
noncomputable def Gk (n:Nu):Nu:=if h:Ag n.1/\In n.1 n.2 then (Classical.choose (VX h.1 h.2 (Nat.le_refl _)),n.2) else n
theorem VW {n:Nu} (a:Ag n.1) (b:In n.1 n.2):Hq n.1.length (n.1.reverse,co n.1 n.2)=((Gk n).1.reverse,co (Gk n).1 (Gk n).2)/\IY n.1 n.2 (Gk n).1/\(Gk n).2=n.2:=by
 unfold Gk;rw[dif_pos ⟨a,b⟩];have:=Classical.choose_spec (VX a b (Nat.le_refl _));exact⟨this.1,this.2,rfl⟩
def JE (n:Nu):Prop:=(∃q∈co n.1 n.2,¬Ct q)\/∃s∈n.1,∃q∈s,¬Ct q
noncomputable def Ej (k:Nat) (a b:Nu) (roots:Nat):Nu×Nat:=by
 classical
 exact if k=1 then ((Bc a.1 b.1,a.2+b.2),roots)
 else if k=2 then ((Bc a.1 b.1,a.2-b.2),roots)
 else if k=3 then ((Bc a.1 b.1,a.2*b.2),roots)
 else if k=4 then (if b.2=0 then a else (Bc a.1 b.1,a.2*Bm b.2),roots)
 else if roots<3 then ((BK a.1 (DS a.2),Re.sqrt (DS a.2)),roots+1) else (a,roots)
def Mp:Nu:=([],0)
noncomputable def ED (l:List Nu) (i:Nat):Nu:=l.getD (i%l.length) Mp
def LB (n:Int):Int:=(n+9223372036854775808)%18446744073709551616-9223372036854775808
theorem Vi (n:Int): -9223372036854775808<=LB n/\LB n<9223372036854775808:=by unfold LB;omega
def HI (o:el C6):Rat:=Rat.divInt (LB o.2.2.2.1) ((o.2.2.2.2.toNat%8+1:Nat):Int)
noncomputable def Dl (st:List Nu×Nat) (o:el C6):Nu×Nat:=by
 classical
 exact if st.1=[]\/o.1.toNat%6=0 then (([],Re.ofRat (HI o)),st.2) else Ej (o.1.toNat%6) (ED st.1 o.2.1.toNat) (ED st.1 o.2.2.1.toNat) st.2
noncomputable def GZ (l:List Nu) (x:Nu):Nu:=by
 classical
 exact if l≠[]/\JE x then l.getLastD Mp else x
noncomputable def I5 (st:List Nu×Nat) (o:el C6):List Nu×Nat:=(st.1++[Gk (GZ st.1 (Dl st o).1)],(Dl st o).2)
noncomputable def runN (xs:List (el C6)):List Nu×Nat:=xs.foldl I5 ([],0)
theorem cI (xs:List (el C6)) (o:el C6):runN (xs++[o])=I5 (runN xs) o:=by rw[runN,List.foldl_append];rfl
def LH (st:List Nu×Nat):Prop:=st.2<=3/\∃V:List Re,V.length<=st.2/\∀n∈st.1,CY V n
theorem CY.trim {V:List Re} {n:Nu} (h:CY V n):CY V (Gk n):=by
 obtain⟨_,t,e⟩:=VW h.red h.mem;refine⟨t.red,by rw[e];exact t.mem,fun v g=>h.BH v (t.BH v g),fun s f q a=>?_,fun q a=>?_⟩
 ·obtain⟨i,d,b⟩:=t.I0 s f;exact h.I0 i d q (b q a)
 rw[e] at a;exact h.cos q (t.cos q a)
theorem CY.oT {V:List Re} {n:Nu} (d:Ag n.1) (f:In n.1 n.2) (h3:∀v∈Go.Abs.BH n.1,v∈V) (h:¬JE n):CY V n:=
 ⟨d,f,h3,fun s g q b=>Classical.byContradiction fun a=>h (.inr ⟨s,g,q,b,a⟩),fun q b=>Classical.byContradiction fun a=>h (.inl ⟨q,b,a⟩)⟩
theorem Pv {l:List Nu} (h:l≠[]) (i:Nat):ED l i∈l:=by
 have:i%l.length<l.length:=Nat.mod_lt _ (List.length_pos_iff.2 h);unfold ED;rw[List.getD_eq_getElem?_getD,List.getElem?_eq_getElem this];exact List.getElem_mem this
theorem nH {l:List Nu} (h:l≠[]):l.getLastD Mp∈l:=by
 cases l with
 | nil=>exact absurd rfl h
 | cons a l=>rw[List.getLastD_cons];cases l with
  | nil=>exact List.mem_cons_self
  | cons b l=>rw[List.getLastD_eq_getLast?];exact List.mem_cons_of_mem _ (by
   rw[List.getLast?_eq_some_getLast Ai];exact List.getLast_mem _)
section
variable {V:List Re} {ns:List Nu}
theorem HE (hV:V.length<=3) (h:∀n∈ns,CY V n) {S:Nat} (a:Rm<=S) (b:S<=Sm:=by first|omega|decide):DW (Tf (PN ns)) Rm Cm S:=
 Y4 (PN.Jb hV h) (fun {u} hu=>Nat.le_trans (hu.len (PN.Jb hV h) (fun d=>PN.BH h d)) hV) a b
theorem FH (hV:V.length<=3) (h:∀n∈ns,CY V n) {n:Nu} (a:n∈ns):Tf (PN ns) n.1:=Tf.of (PN.Jb hV h) (PN.self a)
structure Mw (V:List Re) (n:Nu):Prop where
 red:Ag n.1
 mem:In n.1 n.2
 BH:∀v∈BH n.1,v∈V
theorem Mw.QZ (hV:V.length<=3) (h:∀n∈ns,CY V n) {n:Nu} (ht:Tf (PN ns) n.1) (hm:In n.1 n.2):Mw V n:=
 ⟨ht.red (PN.Jb hV h),hm,ht.BH (PN.Jb hV h) (fun a=>PN.BH h a)⟩
theorem CY.bj {n:Nu} (h:CY V n):Mw V n:=⟨h.red,h.mem,h.BH⟩
theorem lJ (hV:V.length<=3) (h:∀n∈ns,CY V n) {a b:Nu} (ha:a∈ns) (hb:b∈ns):Tf (PN ns) (Bc a.1 b.1)/\In (Bc a.1 b.1) a.2/\In (Bc a.1 b.1) b.2:=by
 have G:=(HE hV h (Nat.le_refl Rm)).toGam;obtain⟨d,f,h3⟩:=G.Bc (FH hV h ha) (FH hV h hb);exact⟨d,f _ (h a ha).mem,h3 _ (h b hb).mem⟩
theorem eZ {u:AD} {v:Re} (d:In u v):∀x∈BH (BK u v),x=v\/x∈BH u:=by
 by_cases b:Sq u v
 ·rw[EK b];exact fun x a=> .inr a
 rw[Dp b];intro x a;rcases List.mem_cons.1 a with rfl | a
 ·exact .inl (ES d)
 exact .inr a
theorem I1 {u:AD} {v:Re} (h:Ag u) (a:In u v) (d:0<=v):Ag (BK u v):=by
 by_cases b:v=0
 ·subst b;rw[EK ⟨0,CO u,by grind⟩];exact h
 exact Uv h a (by grind)
theorem N9 {st:List Nu×Nat} (h:LH st) (o:el C6):(Dl st o).2<=3/\∃V,V.length<=(Dl st o).2/\(∀n∈st.1,CY V n)/\Mw V (Dl st o).1:=by
 obtain⟨h3,V,hV,d⟩:=h;have f:=Nat.le_trans hV h3;unfold Dl
 split
 ·exact⟨h3,V,hV,d,trivial,⟨[HI o],rfl,rfl⟩,fun v i=>by simp[Go.Abs.BH] at i⟩
 rename_i w
 have j:st.1≠[]:=fun e=>w (.inl e)
 have ha:=Pv j o.2.1.toNat;have hb:=Pv j o.2.2.1.toNat
 generalize ED st.1 o.2.1.toNat=a at*
 generalize ED st.1 o.2.2.1.toNat=b at*
 obtain⟨l,m,p⟩:=lJ f d ha hb;have t:=l.red (PN.Jb f d);unfold Ej
 split
 ·exact⟨h3,V,hV,d,.QZ f d l (DZ m p)⟩
 split
 ·exact⟨h3,V,hV,d,.QZ f d l (FT m p)⟩
 split
 ·exact⟨h3,V,hV,d,.QZ f d l (Ak t m p)⟩
 split
 ·refine⟨h3,V,hV,d,?_⟩
  dsimp only
  split
  ·exact (d a ha).bj
  rename_i r
  exact .QZ f d l (Ak t m (P0 t p r))
 split
 ·rename_i z
  have g:=ZI (d a ha).mem;refine⟨by show st.2+1<=3;omega,DS a.2::V,by show _+1<=st.2+1;omega,fun n hm=>(d n hm).mono fun v i=>List.mem_cons_of_mem _ i,I1 (d a ha).red g (LM _),SA g (LM _),fun v i=>?_⟩;rcases eZ g v i with rfl | i
  ·exact List.mem_cons_self
  exact List.mem_cons_of_mem _ ((d a ha).BH v i)
 exact⟨h3,V,hV,d,(d a ha).bj⟩
end
theorem qc {n:Int} {d:Nat} (b:n.natAbs<18446744073709551616) (f:0<d) (a:d<18446744073709551616):Ct (Rat.divInt n d):=by
 have e:(Rat.divInt n d)=mkRat n d:=Rat.divInt_ofNat n d;rw[e]
 constructor
 ·have:=Rat.num_mkRat n d;rw[this]
  split
  ·simp
  refine Nat.lt_of_le_of_lt ?_ b;exact Int.natAbs_ediv_le_natAbs _ _
 have:=Rat.den_mkRat n d;rw[this]
 split
 ·decide
 exact Nat.lt_of_le_of_lt (Nat.div_le_self _ _) a
theorem TW {V:List Re} {l:List Nu} {x:Nu} (f:∀n∈l,CY V n) (a:Mw V x) (d:l=[]->¬JE x):CY V (GZ l x):=by
 unfold GZ
 split
 ·rename_i h;exact f _ (nH h.1)
 rename_i h
 refine .oT a.red a.mem a.BH fun b=>?_
 by_cases he:l=[]
 ·exact d he b
 exact h ⟨he,b⟩
theorem Ur (o:el C6):¬JE ([],Re.ofRat (HI o)):=by
 have f:Ct (HI o):=qc (by have:=Vi o.2.2.2.1;omega) AA AA;rintro (⟨q,d,b⟩ |⟨s,a,_⟩)
 ·rw[DH] at d;rw[List.mem_singleton.1 d] at b;exact b f
 simp at a
theorem rK {st:List Nu×Nat} (h:LH st) (o:el C6):LH (I5 st o):=by
 obtain⟨b,V,d,h3,f⟩:=N9 h o;refine⟨b,V,d,fun n a=>?_⟩;rcases List.mem_append.1 a with a | a
 ·exact h3 n a
 rw[List.mem_singleton.1 a];refine (TW h3 f fun he=>?_).trim;have:(Dl st o).1=([],Re.ofRat (HI o)):=by unfold Dl;rw[if_pos (.inl he)]
 rw[this];exact Ur o
theorem cQ:∀{xs:List (el C6)} {st:List Nu×Nat},LH st->LH (xs.foldl I5 st)
 | [],_,h=>h
 | o::xs,_,h=>cQ (xs:=xs) (rK h o)
theorem U9 (xs:List (el C6)):LH (runN xs):=cQ ⟨AE,[],Ai,Ai⟩
end
section
variable {A1 A2 C:LR} {K K2 R S S2:Nat} {T T1 T2:List LR} {TT:AD->Prop} {c:Int} {q:Rat} {u v:AD} {x y:Re}
theorem W5 (G:DW TT R K S) (hu:TT u) (J:TT v) (l:T1=tw u) (m:T2=tw v) (i:A1=em u x) (j:A2=em v y) (M:El u S x) (N:El v S y) {A B:LR} (I:T=tw (Bc u v)) (w:A=em (Bc u v) x) (D:B=em (Bc u v) y):CF 89 [.agg (AZ T1 A1),.agg (AZ T2 A2)] (.Aj [(true,(AZ T A)),(true,(AZ T B)),(false,[.int .i64 0])]):=by
 obtain⟨O,h⟩:∃z:List (el AY),z=[(T,A),(T,B)]:=⟨_,rfl⟩
 have H:O.length=2:=by rw[h];rfl
 have p:O[0]? =some (T,A):=by rw[h];rfl
 have t:O[1]? =some (T,B):=by rw[h];rfl
 refine AM Tryz.func89 fun E F=>?_
 refine⟨[(T1,A1),(T2,A2)],fun _=>⟨rfl,AE,rfl,⟨rfl,C5,⟨rfl,C5,trivial⟩⟩⟩,.inr ?_⟩;try conv=>cbv
 refine AB (r:= .Aj [(false,[.sl AY O]),(false,[.int .i64 0])]) F (gl (ns:=[(u,x),(v,y)]) G (by intro n d;simp at d;rcases d with rfl | rfl;exact hu;exact J) (by rw[l,m,i,j];rfl) (by intro n d;simp at d;rcases d with rfl | rfl;exact M;exact N) (by show 2<=1000000;decide) (by rw[h,I,w,D];rfl)) ?_;refine BM ?_;refine Ae 0 fun P f=>?_
 try conv=>cbv
 refine Ae 1 fun Q g=>?_
 try conv=>cbv
 refine g2 rfl ?_;have a:=Option.some.inj (f.symm.trans p);have b:=Option.some.inj (g.symm.trans t);exact AN ⟨⟨rfl,congrArg _ (by rw[a]),congrArg _ (by rw[a]),trivial⟩,⟨rfl,congrArg _ (by rw[b]),congrArg _ (by rw[b]),trivial⟩,t2,trivial⟩
theorem Rs (G:DW TT R K S) (hu:TT u) (j:TT v) (f:T1=tw u) (g:T2=tw v) (b:A1=em u x) (d:A2=em v y) (t:El u S x) (w:El v S y) (D:T=tw (Bc u v)) (z:C=em (Bc u v) (x+y)):CF 32 [.agg (AZ T1 A1),.agg (AZ T2 A2)] (BY (AZ T C) 0):=by
 obtain⟨a,h,i⟩:=G.toGam.Bc hu j;have l:=G.CK hu a h t;have m:=G.CK j a i w;have hmul:=G.mul a;obtain⟨A,n⟩:=DP (em (Bc u v) x);obtain⟨B,p⟩:=DP (em (Bc u v) y);refine AM Tryz.func32 fun E r=>?_
 refine AB r (W5 G hu j f g b d t w D n p) ?_;refine BM ?_;refine AB r (KM (G.BG a) n p l m AA AA z) ?_;exact AN ⟨t3,t2,trivial⟩
theorem Ru (G:DW TT R K S) (hu:TT u) (j:TT v) (f:T1=tw u) (g:T2=tw v) (b:A1=em u x) (d:A2=em v y) (w:El u S x) (z:El v S y) (t:T=tw (Bc u v)) (D:C=em (Bc u v) (x*y)):CF 35 [.agg (AZ T1 A1),.agg (AZ T2 A2)] (BY (AZ T C) 0):=by
 obtain⟨a,h,i⟩:=G.toGam.Bc hu j;have l:=G.CK hu a h w;have m:=G.CK j a i z;have hmul:=G.mul a;obtain⟨A,n⟩:=DP (em (Bc u v) x);obtain⟨B,p⟩:=DP (em (Bc u v) y);refine AM Tryz.func35 fun E r=>?_
 refine AB r (W5 G hu j f g b d w z t n p) ?_;refine BM ?_;refine AB r (ER (G.BG a) t n p l m AA D) ?_;exact AN ⟨t3,t2,trivial⟩
theorem Ol (G:DW TT R K S) (hu:TT u) (f:T1=tw u) (a:A1=em u x) (g:El u S x) (b:C=em u (-x)):CF 14 [.agg (AZ T1 A1)] (.agg (AZ T1 C)):=by
 refine AM Tryz.func14 fun E d=>?_
 refine AB d (LL (G.BG hu) a g b) ?_;exact AN ⟨t3,trivial⟩
theorem Rw (G:DW TT R K S) (hu:TT u) (h:TT v) (g:T1=tw u) (a:T2=tw v) (d:A1=em u x) (f:A2=em v y) (n:El u S x) (j:El v S y) (m:T=tw (Bc u v)) (l:C=em (Bc u v) (x-y)):CF 34 [.agg (AZ T1 A1),.agg (AZ T2 A2)] (BY (AZ T C) 0):=by
 refine AM Tryz.func34 fun E i=>?_
 obtain⟨p,b⟩:=DP (em v (-y));refine AB i (Ol G h a f j b) ?_;refine AB i (Rs G hu h g a d b n (j.neg (G.BG h).red) m l) ?_;exact AN ⟨t3,t2,trivial⟩
theorem LJ (G:DW TT R K S) (hu:TT u) (b:T1=tw u) (a:A1=em u x) (g:El u S x) (f:c=Bg x):CF 7 [.agg (AZ T1 A1)] (AH c):=by
 refine AM Tryz.func7 fun E d=>?_
 refine AB d (gj (G.BG hu) b a g ((G.JY hu).mono (Nat.le_add_right _ _)).v0 f) ?_;exact AN ⟨t2,trivial⟩
theorem Rv (G:DW TT R K S) (hu:TT u) (b:T1=tw u) (a:A1=em u x) (i:El u S x) (hw:TT (BK u x)) (d:0<=x) (h:T=tw (BK u x)) (f:C=em (BK u x) (Re.sqrt x)):CF 37 [.agg (AZ T1 A1)] (BY (AZ T C) 0):=by
 refine AM Tryz.func37 fun E g=>?_
 refine AB g (WU (G.BG hu) (G.BG hw) (G.ht hw) b a i ((G.JY hu).mono (Nat.le_add_right _ _)) d h f) ?_;refine BM ?_;exact AN ⟨t3,t2,trivial⟩
theorem WZ (G:DW TT R K S) (hu:TT u) (n:TT v) (h:T1=tw u) (b:T2=tw v) (d:A1=em u x) (f:A2=em v y) (w:El u S x) (z:El v S y) {i:Re} (t:In v i) (l:y*i=1) (j:El v S i) (g:II v.length R S<=60000000000000) (r:T=tw (Bc u v)) (p:C=em (Bc u v) (x*i)):CF 36 [.agg (AZ T1 A1),.agg (AZ T2 A2)] (BY (AZ T C) 0):=by
 refine AM Tryz.func36 fun E m=>?_
 obtain⟨B,a⟩:=DP (em v i);refine AB m (Ot (G.BG n) b f z t l g a) ?_;refine BM ?_;refine AB m (Ru G hu n h b d a w j r p) ?_;exact AN ⟨t3,t2,trivial⟩
theorem gq (G:DW TT R K S) (hu:TT u) (i:TT v) (h:T1=tw u) (b:T2=tw v) (f:A1=em u x) (a:A2=em v y) (j:El u S x) (l:El v S y) (d:y=0):CF 36 [.agg (AZ T1 A1),.agg (AZ T2 A2)] (BY (AZ [] []) 6):=by
 refine AM Tryz.func36 fun E g=>?_
 refine AB (r:= .Aj [(false,[Au []]),(false,[.int .i64 6])]) g (Wu (G.BG i) b (a.trans (by rw[d]))) ?_;refine DJ ?_;exact AN Ao
theorem gp (G:DW TT R K S) (hu:TT u) (m:TT v) (h:T1=tw u) (i:T2=tw v) (f:A1=em u x) (g:A2=em v y) (t:El u S x) (w:El v S y) (z:DW TT R K2 S2) (D:2*(S+K)+1<=S2) (B:c=Bg (x-y)):CF 51 [.agg (AZ T1 A1),.agg (AZ T2 A2)] (.Aj [(false,[.int .i64 c]),(false,[.int .i64 0])]):=by
 obtain⟨a,j,l⟩:=G.toGam.Bc hu m;have n:=G.CK hu a j t;have p:=G.CK m a l w;have hmul:=G.mul a;refine AM Tryz.func51 fun E r=>?_
 obtain⟨H,d⟩:=IM (tw (Bc u v));obtain⟨F,b⟩:=DP (em (Bc u v) (x-y));refine AB r (Rw G hu m h i f g t w d b) ?_;refine BM ?_;refine AB r (LJ z a d b ((n.sub (G.BG a).red p).mono AA) B) ?_;exact AN ⟨t2,t2,trivial⟩
theorem Wa (G:DW TT R K S) (hu:TT u) (p:TT v) (g:T1=tw u) (i:T2=tw v) (d:A1=em u x) (f:A2=em v y) (r:El u S x) (t:El v S y) (j:DW TT R K2 S2) (m:2*(S+K)+1<=S2) {c:Bool} (n:c=true↔x=y):CF 18 [.agg (AZ T1 A1),.agg (AZ T2 A2)] (.one (.bool c)):=by
 refine AM Tryz.func18 fun E l=>?_
 obtain⟨z,a⟩:=xI (Bg (x-y));refine AB l (gp G hu p g i d f r t j m a) ?_;refine DJ ?_;intro w b;exact AL (by rw[Bool.eq_iff_iff,n,b,beq_iff_eq,a,K4];constructor <;> intro h <;> grind)
theorem Ok {b1 b2:Bool} {l1 l2:List UInt32} (b:BV q b1 l1 b2 l2) (a:C=em [] (Re.ofRat q)):CF 47 [.agg (Br b1 l1 b2 l2)] (.agg (AZ [] C)):=by
 refine AM Tryz.func47 fun E d=>?_
 refine⟨[((b1,l1),(b2,l2))],Ca,.inr ?_⟩;try conv=>cbv
 exact AN ⟨⟨rfl,DO,congrArg _ (by rw[a,Ds,<-b.rp]),trivial⟩,trivial⟩
theorem JI {x:Int} (f: -9223372036854775808<=x/\x<9223372036854775808) (d:C=em [] (Re.ofRat x)):CF 15 [AH x] (.agg (AZ [] C)):=by
 refine AM Tryz.func15 fun E b=>?_
 obtain⟨i,j,g,h,a⟩:=By (x:Rat);refine AB b (Ec f rfl a) ?_;refine AB b (Ok a d) ?_;exact AN ⟨t3,trivial⟩
theorem Wb {n d:Int} (i: -9223372036854775808<=n/\n<9223372036854775808) (h: -9223372036854775808<=d/\d<9223372036854775808) (f:d≠0) (j:q=Rat.divInt n d) (g:C=em [] (Re.ofRat q)):CF 31 [AH n,AH d] (.agg (AZ [] C)):=by
 refine AM Tryz.func31 fun E b=>?_
 obtain⟨p,r,l,m,a⟩:=By q;refine AB b (Rq i h f j a) ?_;refine AB b (Ok a g) ?_;exact AN ⟨t3,trivial⟩
end
section
variable {A A1 A2 C:LR} {L:List (el AY)} {T T1 T2 o:List LR} {c:Bool} {i' k:Nat} {ns:List Nu} {q:Rat} {s xs:List Rat} {ts:AD}
theorem UR {i:Nat} (h:xs[k]? =some q):DB i k (xs.drop k)=((GC k i&&q !=0)||DB i (k+1) (xs.drop (k+1))):=by
 have a:=Dg h;rw[List.drop_eq_getElem_cons a,DB];rw[List.getElem?_eq_getElem a] at h;rw[Option.some.inj h]
theorem oP {i:Nat} (h:k<xs.length) (hb:GC k i=false):DB i k (xs.drop k)=DB i (k+1) (xs.drop (k+1)):=by
 obtain⟨q,a⟩:=Bj h;rw[UR a,hb];rfl
theorem fK {i:Nat} (h:xs[k]? =some q):Bt i 0 (xs.take (k+1))=Bt i 0 (xs.take k)++(if GC k i=true then [] else [q]):=by
 have a:=Dg h;rw[DU h,RM,Nat.zero_add,List.length_take,Nat.min_eq_left AA,Bt,Bt]
theorem fH (i:Nat):∀(k:Nat) (l:List Rat),(Bt i k l).length<=l.length
 | _,[]=>Nat.le_refl _
 | k,x::l=>by
  rw[Bt];have:=fH i (k+1) l
  split
  ·rw[List.length_cons];omega
  rw[List.length_cons,List.length_cons];omega
theorem Xm {i:Nat} {b a:Int} (d:b=((k/2^i:Nat):Int)) (f:a=b%2):(GC k i=true↔a=1)/\(GC k i=false↔a=0):=by
 unfold GC
 constructor
 ·rw[beq_iff_eq];omega
 rw[beq_eq_false_iff_ne];omega
theorem QE {n:Nat}:(AT n).length<=2↔n<18446744073709551616:=by
 constructor
 ·intro h;have a:=C0 (AT n);rw[BU] at a;exact Nat.lt_of_lt_of_le a (Nat.pow_le_pow_right AE (by omega:32*(AT n).length<=64))
 intro h;exact GF (k:=2) h
theorem I4 {b1 b2:Bool} {l1 l2:List UInt32} (h:BV q b1 l1 b2 l2):Ct q↔l1.length<=2/\l2.length<=2:=by
 have a:=h.num.Bb;have b:=h.den.Bb;rw[a,b,QE,QE];unfold Ct;rw[Int.natAbs_natCast]
theorem qW (h:Dm q=0):q=0:=by
 unfold Dm Cd at h
 split at h
 ·omega
 split at h
 ·exact Rat.num_eq_zero.1 (by assumption)
 omega
theorem eD {p:Rat->Prop} (h:∀x∈xs.take k,p x) (d:xs[k]? =some q) (b:p q):∀x∈xs.take (k+1),p x:=by
 intro x a;rw[DU d] at a;rcases List.mem_append.1 a with a | a
 ·exact h x a
 rw[List.mem_singleton.1 a];exact b
theorem Wy {i:Int} (I:A=BF xs) (P:AR i i') (h6:i'<=60) (J:c=DB i' 0 xs):CF 94 [AO A,AH i] (.one (.bool c)):=by
 have ei:=P.eq;have N:A.length=xs.length:=by rw[I,List.length_map]
 refine AM Tryz.func94 fun E O=>?_
 refine BI [] [0,1,5] [] (fun vs M k=>∃(k':Nat) (j:Int),vs=[AO A,AH i,AH j]/\(AR j k'/\k'<=xs.length)/\DB i' 0 xs=DB i' k' (xs.drop k')/\k=xs.length-k') (xs.length-0) ⟨0,0,rfl,⟨BD 0,AA⟩,by rw[List.drop_zero],rfl⟩ ?_;rintro J0 h vs M Y ⟨k',j,rfl,⟨Q,U⟩,hinv,W⟩;have ej:=Q.eq;refine AW ?_;rintro n8 ⟨e8,f8⟩;refine BQ (fun X=>?_) fun X=>?_
 ·exact AL (by rw[J,hinv,(AA:k'=xs.length),List.drop_length];rfl)
 refine .inr ?_;refine AK ?_;intro H D;obtain⟨d14,l,z⟩:∃d:Nat,d=k'/2^i'/\H=d:=⟨_,rfl,shr_var (p:=k') (e:=i') D AA AA (by show i'<=64;omega)⟩
 refine AK ?_;intro Z F;have a:=Xm (k:=k') (i:=i') (by rw[z,l]) F;refine CN (fun r=>?_) fun r=>?_
 ·intro g B;refine⟨xs.length-(k'+1),?_,?_⟩
  ·omega
  rw[h];refine⟨k'+1,g,rfl,⟨⟨AA⟩,AA⟩,?_,rfl⟩;rw[hinv,oP AA (a.2.2 AA)]
 refine Ae k' fun a2 n=>?_
 try conv=>cbv
 obtain⟨w,m,b,_⟩:=Kb I n;obtain⟨a1,f⟩:=xI (Dm w);refine AB O (On m f) ?_;refine Gn (fun t=>?_) fun t=>?_
 ·exact AL (by rw[J,hinv,UR b,a.1.2 r,bne_iff_ne.2 (fun e=>t (by rw[f,e];rfl))];rfl)
 intro g B;refine⟨xs.length-(k'+1),?_,?_⟩
 ·omega
 rw[h];refine⟨k'+1,g,rfl,⟨⟨AA⟩,AA⟩,?_,rfl⟩;have G:w=0:=qW AA;rw[hinv,UR b,G];simp
theorem W6 {i:Int} (Y:A=BF xs) (hi:AR i i') (h6:i'<=60) (hl:xs.length<=1000000) (hC:C=BF (Bt i' 0 xs)):CF 95 [AO A,AH i] (AO C):=by
 have ei:=hi.eq;have a2:A.length=xs.length:=by rw[Y,List.length_map]
 refine AM Tryz.func95 fun E hE=>?_
 refine BI [(5,AG,true)] [0,1,5,6] [5] (fun vs X k=>∃(o:LR) (n k':Nat) (j:Int),vs=[AO A,AH i,.one (.AU AG 5 0 0 n),AH j]/\X=[.arr 0 AG o]/\(AR j k'/\k'<=xs.length/\n=o.length)/\o=BF (Bt i' 0 (xs.take k'))/\k=xs.length-k') (xs.length-0) ⟨[],0,0,0,rfl,rfl,⟨BD 0,AA,rfl⟩,rfl,rfl⟩ ?_;rintro J0 r vs X a8 ⟨o,n,k',j,rfl,rfl,⟨hj,a5,Z⟩,hinv,a6⟩;conv=>cbv
 have ej:=hj.eq;have a7:o.length<=xs.length:=by rw[hinv,List.length_map];have:=fH i' 0 (xs.take k');rw[List.length_take] at this;omega
 rintro n9 ⟨e9,f9⟩;conv=>cbv
 refine BQ (fun O=>?_) fun O=>?_
 ·exact AN ⟨⟨rfl,.inl ⟨_,rfl,AA,congrArg _ (by rw[hC,Z,List.drop_zero,List.take_length,hinv,(AA:k'=xs.length),List.take_length])⟩,trivial⟩,trivial⟩
 refine .inr ?_;refine AK ?_;intro Q I;obtain⟨d15,t,G⟩:∃d:Nat,d=k'/2^i'/\Q=d:=⟨_,rfl,shr_var (p:=k') (e:=i') I AA AA (by show i'<=64;omega)⟩
 refine AK ?_;intro aa J;have b:=Xm (k:=k') (i:=i') (by rw[G,t]) J;intro U m;conv=>cbv
 refine .inr ?_;cases U <;> conv=>cbv
 ·have P:=Bu m;refine AK ?_;intro h H;refine⟨xs.length-(k'+1),?_,?_⟩
  ·omega
  rw[r];obtain⟨qq,M⟩:=Bj (l:=xs) (i:=k') AA;exact⟨o,n,k'+1,h,rfl,rfl,⟨⟨AA⟩,AA,Z⟩,by rw[fK M,if_pos (b.1.2 AA),List.append_nil];exact hinv,rfl⟩
 have P:=Bv m
 obtain⟨F,a1,B,N⟩:∃q,BV q (rp q).1.1 (rp q).1.2 (rp q).2.1 (rp q).2.2/\xs[k']? =some q/\A[k']? =some (rp q):=by
  obtain⟨q,hq⟩:=Bj (l:=xs) (i:=k') AA;exact⟨q,FL q,hq,by rw[Y,List.getElem?_map,hq];rfl⟩
 refine Ae k' fun a D=>?_
 try conv=>cbv
 refine⟨[((a.1.1,a.1.2),(a.2.1,a.2.2))],Ca,.inr ?_⟩;try conv=>cbv
 refine .inl ⟨[((a.1.1,a.1.2),(a.2.1,a.2.2))],fun _=>⟨rfl,by (first | rfl | omega),rfl,B5 (o.length+1) 64⟩,?_⟩;intro (g:LR) W f;have w:g=(o:LR)++([((a.1.1,a.1.2),(a.2.1,a.2.2))]:LR):=f.1;have z:W=List.length (α:=(el AG)) g:=f.2;refine AK ?_;intro h H;refine⟨xs.length-(k'+1),?_,?_⟩
 ·omega
 rw[r];have ex:a=rp F:=by have:=D.symm.trans N;exact Option.some.inj this
 refine⟨g,_,k'+1,h,rfl,rfl,⟨⟨AA⟩,AA,z⟩,?_,rfl⟩;rw[fK B,if_neg (by rw[b.2.2 AA];decide)];rw[w,hinv];show _=List.map rp _;rw[List.map_append];show _=BF _++[rp F];rw[<-ex]
theorem LK:CF 33 [.agg (AZ T1 A1),AH 0,.agg (AZ T2 A2)] (.agg (AZ T1 A1)):=by
 refine AM Tryz.func33 fun E a=>?_
 refine BM ?_;exact AN ⟨t3,trivial⟩
theorem iV:CF 33 [.agg (AZ T1 A1),AH 6,.agg (AZ T2 A2)] (.agg (AZ T2 A2)):=by
 refine AM Tryz.func33 fun E a=>?_
 refine DJ ?_;exact AN ⟨t3,trivial⟩
theorem rR (h:∀x∈ts.take k,∀q∈x,Ct q) (d:ts[k]? =some s) (b:∀q∈s,Ct q):∀x∈ts.take (k+1),∀q∈x,Ct q:=by
 intro x a;rw[DU d] at a;rcases List.mem_append.1 a with a | a
 ·exact h x a
 rw[List.mem_singleton.1 a];exact b
def Ob (ts:AD) (xs:List Rat):Prop:=(∃q∈xs,¬Ct q)\/∃s∈ts,∃q∈s,¬Ct q
theorem iU (hT:T=ts.map BF) (hA:A=BF xs) (O:c=true↔Ob ts xs):CF 38 [.agg (AZ T A)] (.one (.bool c)):=by
 have aG:A.length=xs.length:=by rw[hA,List.length_map]
 have aH:T.length=ts.length:=by rw[hT,List.length_map]
 refine AM Tryz.func38 fun E hE=>?_
 refine BI [] [1,2,3] [1] (fun vs n k=>∃(k':Nat) (j:Int),vs=[.one (.BE 1 0 0),.one (.bool false),AH j]/\n=[.var 0 [BP T,Au A]]/\(AR j k'/\k'<=xs.length)/\(∀q∈xs.take k',Ct q)/\k=xs.length-k') (xs.length-0) ⟨0,0,rfl,rfl,⟨BD 0,AA⟩,Ai,rfl⟩ ?_;rintro J0 a2 vs n aP ⟨k',j,rfl,rfl,⟨hj,aI⟩,hinv,aJ⟩;have ej:=hj.eq;refine AW ?_;rintro aS ⟨aw,f10⟩;refine DF (fun aa=>?_) fun aa=>?_
 ·refine .inr ?_;refine Ae k' fun a w=>?_
  try conv=>cbv
  obtain⟨q1,a7,H,_⟩:=Kb hA w;have f:BV q1 a.1.1 a.1.2 a.2.1 a.2.2:=a7;intro ai B;have ax:=B.eq;have f21:=B.le;conv=>cbv
  have an:ai=((List.length a.1.2:Nat):Int):=B.eq;refine Ft (fun ab=>?_) fun ab=>?_
  ·exact AL (O.2 (.inl ⟨q1,List.mem_of_getElem? H,fun h=>by have:=(I4 f).1 h;omega⟩))
  refine Ae k' fun X P=>?_
  try conv=>cbv
  have N:=Option.some.inj (P.symm.trans w);have au:List.length X.2.2=List.length a.2.2:=by rw[N]
  intro aj D;have ay:=D.eq;have f31:=D.le;conv=>cbv
  have ao:aj=((List.length X.2.2:Nat):Int):=D.eq;refine Ft (fun ad=>?_) fun ad=>?_
  ·exact AL (O.2 (.inl ⟨q1,List.mem_of_getElem? H,fun h=>by have:=(I4 f).1 h;omega⟩))
  intro aT aD;exact BT a2 ⟨k'+1,_,rfl,rfl,⟨⟨AA⟩,AA⟩,eD hinv H ((I4 f).2 ⟨AA,AA⟩),rfl⟩
 refine BI [] [1,2,4] [1] (fun vs n k=>∃(m':Nat) (m:Int),vs=[.one (.BE 1 0 0),.one (.bool false),AH m]/\n=[.var 0 [BP T,Au A]]/\(AR m m'/\m'<=ts.length)/\(∀s∈ts.take m',∀q∈s,Ct q)/\k=ts.length-m') (ts.length-0) ⟨0,0,rfl,rfl,⟨BD 0,AA⟩,Ai,rfl⟩ ?_;rintro J1 a5 vs n aQ ⟨m',m,rfl,rfl,⟨hm,aM⟩,r,aK⟩;have em:=hm.eq;refine AW ?_;rintro aU ⟨az,f37⟩;refine BQ (fun ae=>?_) fun ae=>?_
 ·exact AL (by rw[Bool.eq_false_iff];intro h;rcases O.1 h with⟨q,hq,hn⟩ |⟨s,hs,q,hq,hn⟩;exact hn (hinv q (by rw[List.take_of_length_le AA];exact hq));exact hn (r s (by rw[List.take_of_length_le AA];exact hs) q hq))
 refine .inr ?_
 obtain⟨s2,t,J⟩:∃s,T[m']? =some (BF s)/\ts[m']? =some s:=by
  obtain⟨s,hs⟩:=Bj (l:=ts) (i:=m') AA;exact⟨s,by rw[hT,List.getElem?_map,hs];rfl,hs⟩
 refine BI [] [1,2,4,5] [1] (fun vs n k=>∃(z:Nat) (p:Int),vs=[.one (.BE 1 0 0),.one (.bool false),AH m,AH p]/\n=[.var 0 [BP T,Au A]]/\(AR p z/\z<=s2.length)/\(∀q∈s2.take z,Ct q)/\k=s2.length-z) (s2.length-0) ⟨0,0,rfl,rfl,⟨BD 0,AA⟩,Ai,rfl⟩ ?_;rintro J2 a6 vs n aR ⟨z,p,rfl,rfl,⟨hp,aN⟩,d,aL⟩;conv=>cbv
 have ep:=hp.eq;refine Ae m' fun Y Q=>?_
 try conv=>cbv
 have a1:Y=BF s2:=Option.some.inj (Q.symm.trans t);have aO:Y.length=s2.length:=by rw[a1,List.length_map]
 rintro aW ⟨aA,f47⟩;conv=>cbv
 refine BQ (fun af=>?_) fun af=>?_
 ·intro aV aE;exact BT a5 ⟨m'+1,_,rfl,rfl,⟨⟨AA⟩,AA⟩,rR r J (by rw[(AA:z=s2.length),List.take_length] at d;exact d),rfl⟩
 refine .inr ?_;refine Ae m' fun Z U=>?_
 try conv=>cbv
 have M:Z=BF s2:=Option.some.inj (U.symm.trans t);have av:Z.length=s2.length:=by rw[M,List.length_map]
 refine Ae z fun b W=>?_
 try conv=>cbv
 obtain⟨q3,a8,I,_⟩:=Kb M W;have g:BV q3 b.1.1 b.1.2 b.2.1 b.2.2:=a8;intro ak F;have aB:=F.eq;have f62:=F.le;conv=>cbv
 have aq:ak=((List.length b.1.2:Nat):Int):=F.eq;refine Ft (fun ag=>?_) fun ag=>?_
 ·exact AL (O.2 (.inr ⟨s2,List.mem_of_getElem? J,q3,List.mem_of_getElem? I,fun h=>by have:=(I4 g).1 h;omega⟩))
 intro al G;have aC:=G.eq;have f68:=G.le;have ar:al=((List.length b.2.2:Nat):Int):=G.eq;refine Ft (fun ah=>?_) fun ah=>?_
 ·exact AL (O.2 (.inr ⟨s2,List.mem_of_getElem? J,q3,List.mem_of_getElem? I,fun h=>by have:=(I4 g).1 h;omega⟩))
 intro aX aF;exact BT a6 ⟨z+1,_,rfl,rfl,⟨⟨AA⟩,AA⟩,eD d I ((I4 g).2 ⟨AA,AA⟩),rfl⟩
theorem gm (hT:T=ts.map BF) (hA:A=BF xs) (h1:∀q∈xs,Ct q) (h2:∀s∈ts,∀q∈s,Ct q):CF 45 [.agg (AZ T A)] (.one (.bool true)):=by
 have aL:A.length=xs.length:=by rw[hA,List.length_map]
 have aM:T.length=ts.length:=by rw[hT,List.length_map]
 refine AM Tryz.func45 fun E hE=>?_
 refine BI [] [1,2,3] [1] (fun vs d k=>∃(k':Nat) (j:Int),vs=[.one (.BE 1 0 0),.one (.bool false),AH j]/\d=[.var 0 [BP T,Au A]]/\(AR j k'/\k'<=xs.length)/\k=xs.length-k') (xs.length-0) ⟨0,0,rfl,rfl,⟨BD 0,AA⟩,rfl⟩ ?_;rintro J0 Z vs d aU ⟨k',j,rfl,rfl,⟨hj,aN⟩,aO⟩;have ej:=hj.eq;refine AW ?_;rintro n9 ⟨e9,f9⟩;refine DF (fun ab=>?_) fun ab=>?_
 ·refine .inr ?_;refine Ae k' fun a h=>?_
  try conv=>cbv
  obtain⟨q1,a7,a5,_⟩:=Kb hA h;have M:BV q1 a.1.1 a.1.2 a.2.1 a.2.2:=a7;have ay:=(I4 M).1 (h1 q1 (List.mem_of_getElem? a5));intro aj z;have aC:=z.eq;have f20:=z.le;conv=>cbv
  have aq:aj=((List.length a.1.2:Nat):Int):=z.eq;refine Ft (fun ad=>?_) fun ad=>?_
  ·exfalso;omega
  refine Ae k' fun W O=>?_
  try conv=>cbv
  have I:=Option.some.inj (O.symm.trans h);have aw:List.length W.2.2=List.length a.2.2:=by rw[I]
  intro ak B;have aD:=B.eq;have f30:=B.le;conv=>cbv
  have ar:ak=((List.length W.2.2:Nat):Int):=B.eq;refine Ft (fun ae=>?_) fun ae=>?_
  ·exfalso;omega
  intro aX aI;exact BT Z ⟨k'+1,_,rfl,rfl,⟨⟨AA⟩,AA⟩,rfl⟩
 refine BI [] [1,2,4] [1] (fun vs d k=>∃(m':Nat) (m:Int),vs=[.one (.BE 1 0 0),.one (.bool false),AH m]/\d=[.var 0 [BP T,Au A]]/\(AR m m'/\m'<=ts.length)/\k=ts.length-m') (ts.length-0) ⟨0,0,rfl,rfl,⟨BD 0,AA⟩,rfl⟩ ?_;rintro J1 a1 vs d aV ⟨m',m,rfl,rfl,⟨hm,aR⟩,aP⟩;have em:=hm.eq;refine AW ?_;rintro aY ⟨aE,f36⟩;refine BQ (fun af=>?_) fun af=>?_
 ·exact AN ⟨t2,trivial⟩
 refine .inr ?_
 obtain⟨s2,g,aa⟩:∃s,T[m']? =some (BF s)/\ts[m']? =some s:=by
  obtain⟨s,hs⟩:=Bj (l:=ts) (i:=m') AA;exact⟨s,by rw[hT,List.getElem?_map,hs];rfl,hs⟩
 refine BI [] [1,2,4,5] [1] (fun vs d k=>∃(t:Nat) (p:Int),vs=[.one (.BE 1 0 0),.one (.bool false),AH m,AH p]/\d=[.var 0 [BP T,Au A]]/\(AR p t/\t<=s2.length)/\k=s2.length-t) (s2.length-0) ⟨0,0,rfl,rfl,⟨BD 0,AA⟩,rfl⟩ ?_;rintro J2 a2 vs d aW ⟨t,p,rfl,rfl,⟨hp,aS⟩,aQ⟩;conv=>cbv
 have ep:=hp.eq;refine Ae m' fun X P=>?_
 try conv=>cbv
 have Y:X=BF s2:=Option.some.inj (P.symm.trans g);have aT:X.length=s2.length:=by rw[Y,List.length_map]
 rintro b0 ⟨aF,f46⟩;conv=>cbv
 refine BQ (fun ag=>?_) fun ag=>?_
 ·intro aZ aJ;exact BT a1 ⟨m'+1,_,rfl,rfl,⟨⟨AA⟩,AA⟩,rfl⟩
 refine .inr ?_;refine Ae m' fun G n=>?_
 try conv=>cbv
 have w:G=BF s2:=Option.some.inj (n.symm.trans g);have aA:G.length=s2.length:=by rw[w,List.length_map]
 refine Ae t fun b r=>?_
 try conv=>cbv
 obtain⟨q3,a8,a6,_⟩:=Kb w r;have N:BV q3 b.1.1 b.1.2 b.2.1 b.2.2:=a8;have az:=(I4 N).1 (h2 s2 (List.mem_of_getElem? aa) q3 (List.mem_of_getElem? a6));intro al D;have aG:=D.eq;have f60:=D.le;conv=>cbv
 have au:al=((List.length b.1.2:Nat):Int):=D.eq;refine Ft (fun ah=>?_) fun ah=>?_
 ·exfalso;omega
 refine Ae m' fun ao Q=>?_
 try conv=>cbv
 have f:=Option.some.inj (Q.symm.trans n);have aB:ao.length=s2.length:=by rw[f,w,List.length_map]
 refine Ae t fun H U=>?_
 try conv=>cbv
 have J:=Option.some.inj ((show G[t]? =some H by rw[<-f];exact U).symm.trans r);have ax:List.length H.2.2=List.length b.2.2:=by rw[J]
 intro an F;have aH:=F.eq;have f73:=F.le;conv=>cbv
 have av:an=((List.length H.2.2:Nat):Int):=F.eq;refine Ft (fun ai=>?_) fun ai=>?_
 ·exfalso;omega
 intro b1 aK;exact BT a2 ⟨t+1,_,rfl,rfl,⟨⟨AA⟩,AA⟩,rfl⟩
theorem gX (i:L=ns.map nm) (m:∀n∈ns,(∀q∈co n.1 n.2,Ct q)/\∀s∈n.1,∀q∈s,Ct q):CF 12 [.one (.sl AY L)] (.one (.bool true)):=by
 have r:L.length=ns.length:=by rw[i,List.length_map]
 refine AM Tryz.func12 fun E p=>?_
 refine BI [] [0,3] [] (fun vs l k=>∃(k':Nat) (j:Int),vs=[.one (.sl AY L),AH j]/\(AR j k'/\k'<=L.length)/\k=L.length-k') (L.length-0) ⟨0,0,rfl,⟨BD 0,AA⟩,rfl⟩ ?_;rintro H d vs l F ⟨k',j,rfl,⟨t,w⟩,z⟩;have J:=t.eq;refine AW ?_;rintro N ⟨I,f6⟩;refine BQ (fun D=>?_) fun D=>?_
 ·exact AN ⟨t2,trivial⟩
 refine .inr ?_;refine Ae k' fun G b=>?_
 try conv=>cbv
 obtain⟨u,y,g,h,f⟩:=Ip i b;have a:=m _ (List.mem_of_getElem? f);refine AB p (gm (ts:=u.reverse) (xs:=co u y) g h a.1 (fun s B=>a.2 s (List.mem_reverse.1 B))) ?_;refine BM ?_;intro O M;exact BT d ⟨k'+1,_,rfl,⟨⟨AA⟩,AA⟩,rfl⟩
theorem gY {i:Int} {n:Nu} (z:L=ns.map nm) (h:ns≠[]) (I:AR i i') (J:n=ED ns i') (H:T=tw n.1) (G:A=em n.1 n.2):CF 13 [.one (.sl AY L),AH i] (.agg (AZ T A)):=by
 have F:=I.eq;have g:L.length=ns.length:=by rw[z,List.length_map]
 have B:0<ns.length:=List.length_pos_iff.2 h;refine AM Tryz.func13 fun E P=>?_
 rintro Q ⟨O,f6⟩;refine BS (fun D=>?_) fun D=>?_
 ·exact absurd D AA
 refine DF (fun b=>?_) fun b=>?_
 ·exact absurd b AA
 rintro M ⟨d,f16⟩ r f;have w:r=((i'%L.length:Nat):Int):=by rw[f,F,d];exact (Int.natCast_emod _ _).symm
 obtain⟨N,a⟩:=Bj (l:=L) (i:=(i'%L.length)) (by exact Nat.mod_lt _ AA);refine Cj a ?_;obtain⟨u,y,m,p,j⟩:=Ip z a;have t:n=(u,y):=by rw[J];unfold ED;rw[<-g,List.getD_eq_getElem?_getD,j];rfl
 exact Dk (by rw[H,t];exact m.symm) (by rw[G,t];exact p.symm)
theorem nZ {i:Nat} (b:∀m,o[m]? =(ts[m]?).map fun s=>BF (if i<m/\m<k then Bt i 0 s else s)) (a:ts[k]? =some s) (d:i<k) {w:LR} (hw:w=BF (Bt i 0 s)):
  ∀m,(o.set k w)[m]? =(ts[m]?).map fun s=>BF (if i<m/\m<k+1 then Bt i 0 s else s):=by
 intro m
 by_cases e:k=m
 ·subst e;have f:=Dg a
  have g:k<o.length:=by
   have:=b k;rw[a] at this;exact Dg this
  rw[List.getElem?_set_self g,a,Option.map_some,if_pos ⟨d,AA⟩,hw]
 rw[List.getElem?_set_ne e,b m];have:(i<m/\m<k+1)↔(i<m/\m<k):=AA
 simp only[this]
theorem nY {i:Nat} (d:i<ts.length) (b:∀m,o[m]? =(ts[m]?).map fun s=>BF (if i<m/\m<ts.length then Bt i 0 s else s)):o.take i++o.drop (i+1)=(ts.take i++(ts.drop (i+1)).map (Bt i 0)).map BF:=by
 have e:o=(ts.take (i+1)++(ts.drop (i+1)).map (Bt i 0)).map BF:=by
  apply List.ext_getElem?;intro m;rw[b m,List.getElem?_map,List.getElem?_append,List.length_take,Nat.min_eq_left AA]
  by_cases hm:m<i+1
  ·rw[if_pos hm,List.getElem?_take,if_pos hm];cases ts[m]? with
   | none=>rfl
   | some s=>simp only[Option.map_some];rw[if_neg AA]
  rw[if_neg hm,List.getElem?_map,List.getElem?_drop,(AA:i+1+(m-(i+1))=m)]
  by_cases a:m<ts.length
  ·rw[List.getElem?_eq_getElem a];simp only[Option.map_some];rw[if_pos ⟨AA,a⟩]
  rw[List.getElem?_eq_none AA];rfl
 have hlen:(ts.take (i+1)).length=i+1:=by rw[List.length_take];omega
 rw[e,List.map_append,List.map_append,List.take_append_of_le_length (by rw[List.length_map,hlen];omega),List.drop_left' (by rw[List.length_map,hlen]),<-List.map_take,List.take_take,Nat.min_eq_left AA]
theorem XK {i:Nat} {f:List Rat->Bool} (a:ts[k]? =some s) (b:i<k):((ts.drop (i+1)).take (k+1-(i+1))).any f=(((ts.drop (i+1)).take (k-(i+1))).any f||f s):=by
 rw[(AA:k+1-(i+1)=k-(i+1)+1),DU (l:=ts.drop (i+1)) (i:=k-(i+1)) (x:=s) (by rw[List.getElem?_drop,(AA:i+1+(k-(i+1))=k)];exact a)];simp
theorem Wi {u Y:AD} {x:Re} (h:Ag u) (hx:In u x) (hl:u.length<=8) (hw:Hq u.length (u.reverse,co u x)=(Y.reverse,co Y x)) (hT:T=tw u) (hA:A=em u x) (aP:T2=tw Y) (hC:C=em Y x):CF 39 [.agg (AZ T A)] (.agg (AZ T2 C)):=by
 have bC:T.length=u.length:=by rw[hT,CA]
 refine AM Tryz.func39 fun E hE=>?_
 refine⟨[],fun _=>⟨rfl,AE,rfl,trivial⟩,.inl ?_⟩;try conv=>cbv
 refine .inl ⟨T,fun _=>⟨rfl,by (first | rfl | omega),rfl,B5 (0+T.length) 24⟩,?_⟩;intro (ah:List (el (.sl AG))) b1 W;have N:ah=([]:List (el (.sl AG)))++(T:List (el (.sl AG))):=W.1;have av:b1=List.length (α:=(el (.sl AG))) ah:=W.2;conv=>cbv
 refine g2 rfl ?_;intro bQ aI;have bp:=aI.eq;conv=>cbv
 have aU:List.length ah=List.length T:=by rw[N];rfl
 refine AK ?_;intro b2 bt;refine BI [] [2,3,4] [2,3,8] (fun vs f k=>∃(w:AD) (O:List LR) (B:LR) (n j:Nat) (i:Int),vs=[.one (.BE 2 0 0),.one (.BE 3 0 0),AH i]/\f=[.var 0 [.nil,.nil],.var 0 [.AU (.sl AG) 8 0 0 n,Au B],.arr 0 (.sl AG) O]/\(AR (i+1) j/\n=O.length/\O=tw w/\B=em w x)/\(Ag w/\In w x/\j<=w.length/\w.length<=8)/\Hq j (w.reverse,co w x)=(Y.reverse,co Y x)/\k=j) u.length ⟨u,_,_,_,u.length,b2,rfl,rfl,⟨⟨AA⟩,av,by rw[N,hT];rfl,hA⟩,⟨h,hx,Nat.le_refl _,hl⟩,hw,rfl⟩ ?_;rintro J0 aN vs f bN ⟨w,O,B,n,j,i,rfl,rfl,⟨hi,hn,hO,hB⟩,⟨af,ag,bF,D⟩,a,bG⟩;conv=>cbv
 have ei:=hi.eq;obtain⟨i',bD⟩:=xN (j-1);refine LU ?_ ?_ <;> intro bK <;> conv=>cbv
 ·exact AN ⟨⟨rfl,.inl ⟨_,rfl,AA,congrArg _ (by rw[aP,hn,List.drop_zero,List.take_length,hO];have:=a;rw[(AA:j=0),Hq] at this;rw[tw,tw,(Prod.mk.inj this).1])⟩,congrArg _ (by rw[hC,hB];have:=a;rw[(AA:j=0),Hq] at this;rw[em,em,(Prod.mk.inj this).2]),trivial⟩,trivial⟩
 obtain⟨K1,a5⟩:∃J:List AV->List Af->Prop,J=fun vs f=>∃(p:AD) (O2:List LR) (B2:LR) (n2:Nat),vs=[.one (.BE 2 0 0),.one (.BE 3 0 0),AH i]/\f=[.var 0 [.nil,.nil],.var 0 [.AU (.sl AG) 8 0 0 n2,Au B2],.arr 0 (.sl AG) O2]/\
  (n2=O2.length/\O2=tw p/\B2=em p x)/\(Ag p/\In p x/\i'<=p.length/\p.length<=8)/\Hq i' (p.reverse,co p x)=(Y.reverse,co Y x):=⟨_,rfl⟩
 refine .inl ⟨[2,3,4],[2,3,8],K1,?_,?_⟩
 ·intro vs f hj;rw[a5] at hj;obtain⟨p,O2,B2,n2,rfl,rfl,⟨aV,aO,aM⟩,⟨aA,aB,ar,az⟩,ay⟩:=hj;refine AK ?_;intro b3 bu;exact BT aN ⟨p,O2,B2,n2,i',b3,rfl,rfl,⟨⟨AA⟩,aV,aO,aM⟩,⟨aA,aB,ar,az⟩,ay,rfl⟩
 try conv=>cbv
 have aS:j=i'+1:=AA
 subst aS;have t:AR i i':=⟨AA⟩;obtain⟨ts,d⟩:∃z:AD,z=w.reverse:=⟨_,rfl⟩
 have a6:O=ts.map BF:=by rw[hO,d];rfl
 have bJ:ts.length=w.length:=by rw[d,List.length_reverse]
 have bB:O.length=ts.length:=by rw[a6,List.length_map]
 have aQ:(co w x).length<=1000000:=by rw[C4 ag];exact Nat.le_trans (Cb D) AE
 obtain⟨aF,I⟩:=xB (DB i' 0 (co w x));refine AB hE (Wy (xs:=co w x) hB t AA I) ?_;intro b4 bw;refine BI [] [2,3,4,5,6] [2,3,8] (fun vs f k=>∃(b:Bool) (k':Nat) (j:Int),vs=[.one (.BE 2 0 0),.one (.BE 3 0 0),AH i,.one (.bool b),AH j]/\f=[.var 0 [.nil,.nil],.var 0 [.AU (.sl AG) 8 0 0 n,Au B],.arr 0 (.sl AG) O]/\(AR j k'/\i'<k'/\k'<=ts.length)/\b=(DB i' 0 (co w x)||((ts.drop (i'+1)).take (k'-(i'+1))).any (DB i' 0))/\k=ts.length-k') (ts.length-(i'+1)) ⟨aF,i'+1,b4,rfl,rfl,⟨⟨AA⟩,AA,AA⟩,by rw[I,Nat.sub_self,List.take_zero];simp,rfl⟩ ?_;rintro J1 an vs f bO ⟨b,k',j,rfl,rfl,⟨hj,ao,bE⟩,hb,bH⟩;conv=>cbv
 have ej:=hj.eq;intro bR aJ;have bq:=aJ.eq;conv=>cbv
 refine Ph ?_ ?_ <;> intro bL <;> conv=>cbv
 ·refine .inr ?_;cases b <;> conv=>cbv
  ·refine AK ?_;intro aZ bd;obtain⟨b6,Q⟩:=Bj (l:=O) (i:=aZ) AA;refine⟨b6,fun _=>Q,?_⟩;try conv=>cbv
   obtain⟨s4,aG,ab⟩:=Ka (i:=k') a6 (by rw[<-Q];congr 1;omega);obtain⟨bo,M⟩:=xB (DB i' 0 s4);refine AB hE (Wy aG t AA M) ?_;intro aj aK;exact BT an ⟨_,k'+1,aj,rfl,rfl,⟨⟨AA⟩,AA,AA⟩,by rw[XK ab ao,<-Bool.or_assoc,<-hb,M];simp,rfl⟩
  refine AK ?_;intro aj aK;refine⟨ts.length-(k'+1),?_,?_⟩
  ·omega
  rw[an];obtain⟨s4,ab⟩:=Bj (l:=ts) (i:=k') AA;exact⟨_,k'+1,aj,rfl,rfl,⟨⟨AA⟩,AA,AA⟩,by rw[XK ab ao,<-Bool.or_assoc,<-hb];simp,rfl⟩
 cases b <;> conv=>cbv
 ·obtain⟨al,H⟩:=xR (BF (Bt i' 0 (co w x)));refine AB hE (W6 (xs:=co w x) hB t AA aQ H) ?_;intro Dr bx;refine .inr ?_;obtain⟨J2,a2⟩:=xJ fun vs f k=>∃(o:List LR) (k2:Nat) (j2:Int),vs=[.one (.BE 2 0 0),.one (.BE 3 0 0),AH i,AH j2]/\f=[.var 0 [.nil,.nil],.var 0 [.AU (.sl AG) 8 0 0 n,Au al],.arr 0 (.sl AG) o]/\(AR j2 k2/\i'<k2/\k2<=ts.length/\o.length=ts.length)/\(∀m,o[m]? =(ts[m]?).map fun s=>BF (if i'<m/\m<k2 then Bt i' 0 s else s))/\k=ts.length-k2
  refine⟨[],[2,3,4,7],[2,3,8],J2,⟨ts.length-(i'+1),by rw[a2];exact⟨O,i'+1,Dr,rfl,rfl,⟨⟨AA⟩,AA,AA,AA⟩,fun m=>by
   have aW:¬(i'<m/\m<i'+1):=AA
   simp only[aW,if_false];rw[a6,List.getElem?_map],rfl⟩⟩,?_⟩
  intro vs f bP hj;rw[a2] at hj;obtain⟨o,k2,j2,rfl,rfl,⟨aR,aq,bh,aX⟩,hq,bI⟩:=hj;conv=>cbv
  have bs:=aR.eq;intro bS aL;have br:=aL.eq;conv=>cbv
  refine Ph ?_ ?_ <;> intro bM <;> conv=>cbv
  ·refine .inr ?_;refine AK ?_;intro b0 bf;obtain⟨ak,U⟩:=Bj (l:=o) (i:=b0) AA;refine⟨ak,fun _=>U,?_⟩;try conv=>cbv
   obtain⟨s7,ad⟩:=Bj (l:=ts) (i:=k2) AA;have aY:o[k2]? =some ak:=by rw[<-U];congr 1;omega
   have aH:ak=BF s7:=by have r:=hq k2;rw[ad,aY,Option.map_some,if_neg AA] at r;exact Option.some.inj r
   have ax:s7.length<=1000000:=by have r:=Um af (List.mem_reverse.1 (d ▸ List.mem_of_getElem? ad));have h2:2^w.length<=2^8:=Cb D;omega
   obtain⟨aE,P⟩:=xR (BF (Bt i' 0 s7));refine AB hE (W6 aH t AA ax P) ?_;intro aC bg;refine⟨aE,fun _=>⟨by show _<List.length (α:=(el (.sl AG))) o;(first | omega | (simp;omega)),C5⟩,?_⟩;intro (ai:List (el (.sl AG))) (g:ai=List.set (α:=(el (.sl AG))) o aC aE);have b7:ai.length=o.length:=by rw[g,List.length_set]
   refine AK ?_;intro b5 bz;exact BT a2 ⟨ai,k2+1,b5,rfl,rfl,⟨⟨AA⟩,AA,AA,by rw[g,List.length_set];exact aX⟩,by rw[g,(AA:aC=k2)];exact nZ hq ad aq P,rfl⟩
  refine⟨fun _=>⟨AA,AA,AA⟩,?_⟩;refine AK ?_;rintro bm b9 bU Z ⟨bj,bb⟩ bT bA bl bn ⟨b8,ba⟩ G a1 ⟨bk,bc⟩;refine .inl ⟨((o).drop G).take a1,fun _=>⟨AA,AA,⟨_,rfl,AA,rfl⟩,by show (Z+(((o).drop G).take a1).length)*24<=140737488355328;(try simp only[List.length_take,List.length_drop]);omega⟩,?_⟩;intro (F:List (el (.sl AG))) aD X;have au:F=(List.take Z o:List (el (.sl AG)))++(((o).drop G).take a1:List (el (.sl AG))):=X.1;have aw:aD=List.length (α:=(el (.sl AG))) F:=X.2;conv=>cbv
  refine g2 rfl ?_;rw[a5];have a8:k'=ts.length:=AA
  have a7:¬(DB i' 0 (co w x)||(ts.drop (i'+1)).any (DB i' 0))=true:=by
   have r:=hb;rw[a8,List.take_of_length_le (by rw[List.length_drop];omega)] at r;rw[<-r];exact Bool.false_ne_true
  obtain⟨w1,e1,ae,aT⟩:=eK af ag (by omega:i'<w.length);have e2:=e1;unfold Mb at e2;rw[<-d,if_neg a7] at e2;have e3:=Prod.mk.inj e2
  have aa:F=o.take i'++o.drop (i'+1):=by
   rw[au,(AA:Z=i'),(AA:G=i'+1),List.take_of_length_le (l:=o.drop (i'+1)) (by rw[List.length_drop];omega)]
  rw[(AA:k2=ts.length)] at hq;refine⟨w1,F,al,aD,rfl,rfl,⟨aw,?_,?_⟩,⟨ae.red,ae.mem,aT,Nat.le_trans ae.len D⟩,by rw[Hq,e1] at a;exact a⟩
  ·rw[aa,nY AA hq,tw,<-d] at*;rw[e3.1]
  rw[H,em,<-e3.2]
 rw[a5];have a8:k'=ts.length:=AA
 have a7:(DB i' 0 (co w x)||(ts.drop (i'+1)).any (DB i' 0))=true:=by
  have r:=hb;rw[a8,List.take_of_length_le (by rw[List.length_drop];omega)] at r;exact r.symm
 have e1:Mb i' (w.reverse,co w x)=(w.reverse,co w x):=by
  unfold Mb;rw[<-d,if_pos a7]
 exact⟨w,O,B,n,rfl,rfl,⟨hn,hO,hB⟩,⟨af,ag,AA,D⟩,by rw[Hq,e1] at a;exact a⟩
end
section
theorem bT {o:el C6} {n d:Int} (a:n=LB o.2.2.2.1) (b:d=((o.2.2.2.2.toNat%8+1:Nat):Int)):HI o=Rat.divInt n d:=by subst a b;rfl
theorem OA {st:List Nu×Nat} {o:el C6} (h:st.1=[]\/o.1.toNat%6=0):Dl st o=(([],Re.ofRat (HI o)),st.2):=by unfold Dl;rw[if_pos h]
theorem Jz {st:List Nu×Nat} {o:el C6} (a:st.1≠[]) (b:o.1.toNat%6≠0):Dl st o=Ej (o.1.toNat%6) (ED st.1 o.2.1.toNat) (ED st.1 o.2.2.1.toNat) st.2:=by
 unfold Dl;rw[if_neg (fun h=>h.elim a b)]
theorem oW (a b:Nu) (r:Nat):Ej 1 a b r=((Bc a.1 b.1,a.2+b.2),r):=by unfold Ej;rw[if_pos rfl]
theorem oa (a b:Nu) (r:Nat):Ej 2 a b r=((Bc a.1 b.1,a.2-b.2),r):=by unfold Ej;rw[if_neg AE,if_pos rfl]
theorem oZ (a b:Nu) (r:Nat):Ej 3 a b r=((Bc a.1 b.1,a.2*b.2),r):=by unfold Ej;rw[if_neg AE,if_neg AE,if_pos rfl]
theorem oY {a b:Nu} (r:Nat) (h:b.2=0):Ej 4 a b r=(a,r):=by unfold Ej;rw[if_neg AE,if_neg AE,if_neg AE,if_pos rfl,if_pos h]
theorem oX {a b:Nu} (r:Nat) (h:b.2≠0):Ej 4 a b r=((Bc a.1 b.1,a.2*Bm b.2),r):=by unfold Ej;rw[if_neg AE,if_neg AE,if_neg AE,if_pos rfl,if_neg h]
theorem aZ (a b:Nu) {r:Nat} (h:r<3):Ej 5 a b r=((BK a.1 (DS a.2),Re.sqrt (DS a.2)),r+1):=by unfold Ej;rw[if_neg AE,if_neg AE,if_neg AE,if_neg AE,if_pos h]
theorem aY (a b:Nu) {r:Nat} (h:¬r<3):Ej 5 a b r=(a,r):=by unfold Ej;rw[if_neg AE,if_neg AE,if_neg AE,if_neg AE,if_neg h]
theorem get_eq {ns:List Nu} {i j:Nat} {n:Nu} (h:ns[j]? =some n) (a:j=i%ns.length):ED ns i=n:=by
 unfold ED;rw[List.getD_eq_getElem?_getD,<-a,h];rfl
theorem mH:∀h,h<=3->II h Rm Rm<=60000000000000
 |0,_|1,_|2,_|3,_=>by decide +kernel
 | _+4,h=>absurd h AA
theorem mI:∀h,h<=3->II h 256 512<=Rm
 |0,_|1,_|2,_|3,_=>by decide +kernel
 | _+4,h=>absurd h AA
section
variable {V:List Re} {ns:List Nu}
theorem CY.tb {n:Nu} (h:CY V n) (hV:V.length<=3):TB 256 n.1:=(PN.Jb (ns:=[n]) hV (fun m hm=>by rw[List.mem_singleton.1 hm];exact h)).tb (PN.self (List.mem_singleton.2 rfl))
theorem CY.inv {n:Nu} (h:CY V n) (hV:V.length<=3) (a:n.2≠0):El n.1 Rm (Bm n.2):=by
 have b:=Nat.le_trans h.len hV;have ht:BC 256 n.1:=⟨h.red,h.tb hV,AE,AA⟩;exact ((h.el hV).inv ht (P0 h.red h.mem a) (F0 a)).mono (mI _ b)
theorem CY.abs {n:Nu} (h:CY V n):CY V (n.1,DS n.2):=by
 refine⟨h.red,ZI h.mem,h.BH,h.I0,fun q a=>?_⟩;have a:q∈co n.1 (DS n.2):=a;unfold DS at a
 split at a
 ·rw[LQ h.red h.mem] at a;obtain⟨p,b,rfl⟩:=List.mem_map.1 a;have:=h.cos p b;exact⟨by show (-p.num).natAbs<_;rw[Int.natAbs_neg];exact this.1,this.2⟩
 exact h.cos q a
theorem bu {n:Nu} (h:CY V n) (hV:V.length<=2) (g:0<=n.2) {S:Nat} (i:Rm<=S) (j:S<=Sm:=by first|omega|decide):DW (Tf fun u=>u<:+BK n.1 n.2) Rm Cm S/\Tf (fun u=>u<:+BK n.1 n.2) n.1/\Tf (fun u=>u<:+BK n.1 n.2) (BK n.1 n.2):=by
 have l:=I1 h.red h.mem g;have m:=h.len
 have b:TB 256 (BK n.1 n.2):=by
  by_cases f:Sq n.1 n.2
  ·rw[EK f];exact h.tb AA
  rw[Dp f];intro r a;rcases List.mem_cons.1 a with rfl | a
  ·refine (NH h.cos).mono ?_;rw[C4 h.mem];have:2^n.1.length<=2^2:=Cb;omega
  exact h.tb AA r a
 have I:Cg (fun u=>u<:+BK n.1 n.2) 256:=⟨fun {u} hu=>Ux hu l,fun {u} hu=>fun r a=>b r (hu.subset a),fun {r u} hu=>(List.suffix_cons r u).trans hu⟩;refine⟨Y4 I (fun {u} hu=>?_) i j,Tf.of I (O1 _ _),Tf.of I (List.suffix_refl _)⟩
 have:=hu.len I (V:=n.2::V) (fun {u} hu v d=>by
  rcases eZ h.mem v (ee hu v d) with rfl | d
  ·exact List.mem_cons_self
  exact List.mem_cons_of_mem _ (h.BH v d))
 rw[List.length_cons] at this;omega
theorem kj (hV:V.length<=3) (d:∀n∈ns,CY V n) {a b:Nu} (ha:a∈ns) (hb:b∈ns) {r:Nat}:∃(T A i h:_) (e:Int),CF 36 [.agg [BP (tw a.1),Au (em a.1 a.2)],.agg [BP (tw b.1),Au (em b.1 b.2)]] (BY (AZ T A) e)/\
  CF 33 [.agg [BP T,Au A],AH e,.agg [BP (tw a.1),Au (em a.1 a.2)]] (.agg [BP i,Au h])/\i=tw (Ej 4 a b r).1.1/\h=em (Ej 4 a b r).1.1 (Ej 4 a b r).1.2/\(Ej 4 a b r).2=r:=by
 have G:=HE hV d (Nat.le_refl Rm);have j:=((d a ha).el hV).mono (by decide:512<=Rm);have l:=((d b hb).el hV).mono (by decide:512<=Rm)
 by_cases f:b.2=0
 ·rw[oY r f];exact⟨_,_,_,_,_,gq G (FH hV d ha) (FH hV d hb) rfl rfl rfl rfl j l f,iV,rfl,rfl,rfl⟩
 rw[oX r f];have g:=Nat.le_trans (d b hb).len hV;exact⟨_,_,_,_,_,WZ G (FH hV d ha) (FH hV d hb) rfl rfl rfl rfl j l (P0 (d b hb).red (d b hb).mem f) (F0 f) ((d b hb).inv hV f) (mH _ g) rfl rfl,LK,rfl,rfl,rfl⟩
end
theorem mn (x:Nu):GZ [] x=x:=by unfold GZ;rw[if_neg (fun h=>h.1 rfl)]
theorem ml {l:List Nu} {x:Nu} (h:l≠[]) (a:JE x):GZ l x=l.getLastD Mp:=by unfold GZ;rw[if_pos ⟨h,a⟩]
theorem mr {l:List Nu} {x:Nu} (a:¬JE x):GZ l x=x:=by unfold GZ;rw[if_neg (fun h=>a h.2)]
theorem Zr {n:Nu}:Ob n.1.reverse (co n.1 n.2)↔JE n:=by
 unfold Ob JE;simp only[List.mem_reverse]
theorem nG {l:List Nu} {j:Nat} {n:Nu} (h:l[j]? =some n) (a:j+1=l.length):l.getLastD Mp=n:=by
 rw[List.getLastD_eq_getLast?,List.getLast?_eq_getElem?,(AA:l.length-1=j),h];rfl
theorem cM:∀(xs:List (el C6)) (st:List Nu×Nat),(xs.foldl I5 st).1.length=st.1.length+xs.length
 | [],_=>rfl
 | o::xs,st=>by
  rw[List.foldl_cons,cM xs (I5 st o),List.length_cons];unfold I5;rw[List.length_append,List.length_singleton];omega
theorem dE {x:Re} (h:Bg x<0):x<0:=by rcases FX x with⟨a,b⟩ |⟨a,b⟩ |⟨a,b⟩ <;> first | exact a | (exfalso;omega)
theorem dD {x:Re} (h:¬Bg x<0):¬x<0:=by rcases FX x with⟨a,b⟩ |⟨a,b⟩ |⟨a,b⟩ <;> first | (exfalso;omega) | (rw[a];exact fun h=>by grind) | (intro h;grind)
theorem ga {X:List (el C6)} {L:List (el AY)} (hL:L=(runN (X.take 24)).1.map nm):CF 9 [.one (.sl C6 X)] (.one (.sl AY L)):=by
 refine AM Tryz.func9 fun E P=>?_
 refine .inr ?_;obtain⟨J0,aK⟩:=xJ fun vs bl k=>(vs=[.one (.sl C6 X),.one .nil,AH 0,AH 0]/\bl=[.dead 0]/\k=24)\/(∃(o:List (el AY)) (n k':Nat) (rr j:Int),vs=[.one (.sl C6 X),.one (.AU AY 157 0 0 n),AH rr,AH j]/\bl=[.arr 0 AY o]/\(AR j k'/\k'<=X.length/\k'<=24/\0<k'/\n=o.length)/\(o=(runN (X.take k')).1.map nm/\AR rr (runN (X.take k')).2)/\k=24-k')
 refine⟨[],[0,3,4,5],[157],J0,⟨24,by rw[aK];exact .inl ⟨rfl,rfl,rfl⟩⟩,?_⟩;intro vs bl dt hj;rw[aK] at hj;rcases hj with⟨rfl,rfl,aM⟩ |⟨o,n,k',rr,j,rfl,rfl,⟨hj,dr,cX,bQ,hn⟩,⟨ho,g⟩,aM⟩
 ·conv=>cbv
  obtain⟨k',aM⟩:=xN 0;obtain⟨a6,V,hV,f⟩:=U9 (X.take k');obtain⟨st,I⟩:∃s,s=runN (X.take k'):=⟨_,rfl⟩
  rw[<-I] at a6 hV f;have aj:st.1=[]:=by rw[I,aM];rfl
  have bV:st.2=0:=by rw[I,aM];rfl
  rintro cF ⟨ca,f22⟩;conv=>cbv
  refine BQ (fun bk=>?_) fun bk=>?_
  ·exact AN ⟨⟨rfl,.inr (.inl ⟨_,congrArg _ (by rw[hL,show X.take 24=[] by rw[List.take_eq_nil_iff];right;exact List.eq_nil_of_length_eq_zero AA];rfl)⟩),trivial⟩,trivial⟩
  refine DJ ?_;refine .inr ?_;refine Ae 0 fun a ab=>?_
  refine AW ?_;intro bo ao aF a1 ai H Z B;have b7:=ao.eq;have f33:=ao.lt;have an:=a1.eq;have bB:=a1.lt;have ad:=H.eq;have b8:=H.lt;have O:=B.eq;have aI:=B.lt;have cw:bo=((a.1.toNat:Nat):Int):=b7;have cx:aF=((a.2.1.toNat:Nat):Int):=an;have cy:ai=((a.2.2.1.toNat:Nat):Int):=ad;have cz:Z=((a.2.2.2.2.toNat:Nat):Int):=O;intro bp ae;conv=>cbv
  have ae:=wrap_i64 ae;have aq:bp=LB a.2.2.2.1:=ae;refine AK ?_;intro cG cc cH ar;have ar:=wrap_i64 ar;refine AK ?_;intro bq cd;obtain⟨aN,a8⟩:=DP (em [] (Re.ofRat (HI a)));have cA:=Vi a.2.2.2.1;refine AB (r:= .agg [.sl (.sl AG) (([]:List LR)),Au aN]) P (Wb (q:=HI a) AA AA AA (bT aq (by show bq=((a.2.2.2.2.toNat%8+1:Nat):Int);omega)) a8) ?_;refine BM ?_;refine .inr ?_;refine BM ?_;refine .inr ?_;obtain⟨_,b6,cp,aU,bj⟩:=N9 (st:=st) ⟨a6,V,hV,f⟩ a;have cq:b6.length<=8:=by have:=(N9 (st:=st) ⟨a6,V,hV,f⟩ a).1;omega
  have D:=TW (l:=[]) (x:=(Dl st a).1) (fun n hn=>by simp at hn) bj (fun he=>by rw[OA (.inl aj)];exact Ur a);obtain⟨kk,ah⟩:∃z:Nu,z=GZ [] (Dl st a).1:=⟨_,rfl⟩
  rw[<-ah] at D;have w:=VW D.red D.mem;have bR:kk=([],Re.ofRat (HI a)):=by rw[ah,mn,OA (.inl aj)]
  have cn:(([]:List LR):List LR)=tw kk.1:=by rw[bR];rfl
  have cm:aN=em kk.1 kk.2:=by rw[bR];exact a8
  obtain⟨G,M⟩:=IM (tw (Gk kk).1);obtain⟨F,J⟩:=DP (em (Gk kk).1 (Gk kk).2);refine AB (r:= .agg [BP G,Au F]) P (Wi D.red D.mem (by have:=D.len;omega) (by rw[w.1,w.2.2]) cn cm M (by rw[J,w.2.2])) ?_;refine⟨[(G,F)],Ca,.inr ?_⟩;try conv=>cbv
  refine .inl ⟨[(G,F)],fun _=>⟨rfl,B5 (1) 48⟩,?_⟩;refine AK ?_;intro b3 bE bn cb;refine⟨24-(k'+1),?_,?_⟩
  ·omega
  rw[aK];have N:X[k']? =some a:=by (first | exact ab | (rw[<-ab];congr 1 <;> omega))
  refine .inr ⟨_,_,k'+1,0,bn,rfl,rfl,⟨⟨AA⟩,by have:=Dg N;omega,AA,AA,bE⟩,?_,rfl⟩;rw[DU (x:=a) N,cI,<-I];refine⟨by rw[I5,aj,List.nil_append,<-ah,M,J];rfl,?_⟩
  show AR 0 (Dl st a).2
  rw[OA (.inl aj),bV];exact BD 0
 conv=>cbv
 have ej:=hj.eq;have aH:=g.eq;obtain⟨a6,V,hV,f⟩:=U9 (X.take k');obtain⟨st,I⟩:∃s,s=runN (X.take k'):=⟨_,rfl⟩
 rw[<-I] at a6 hV f;rw[<-I] at ho g aH;have hlen:st.1.length=k':=by rw[I,runN,cM,List.length_nil,List.length_take];omega
 have ds:o.length=k':=by rw[ho,List.length_map,hlen]
 have Y:st.1≠[]:=fun e=>by rw[e] at hlen;simp at hlen;omega
 have h:=Nat.le_trans hV a6;rintro cF ⟨ca,f22⟩;conv=>cbv
 refine BQ (fun bk=>?_) fun bk=>?_
 ·exact AN ⟨⟨rfl,.inl ⟨_,rfl,AA,congrArg _ (by have e:X.take 24=X.take k':=(by first | rw[(AA:k'=24)] | rw[List.take_of_length_le AA,List.take_of_length_le AA]);rw[hL,hn,List.drop_zero,List.take_length,ho,I,e])⟩,trivial⟩,trivial⟩
 refine BQ (fun cB=>?_) fun cB=>?_
 ·exact AN ⟨⟨rfl,.inl ⟨_,rfl,AA,congrArg _ (by have e:X.take 24=X.take k':=(by first | rw[(AA:k'=24)] | rw[List.take_of_length_le AA,List.take_of_length_le AA]);rw[hL,hn,List.drop_zero,List.take_length,ho,I,e])⟩,trivial⟩,trivial⟩
 refine .inr ?_;refine Ae k' fun a ab=>?_
 refine AW ?_;intro bo ao aF a1 ai H Z B;have b7:=ao.eq;have f33:=ao.lt;have an:=a1.eq;have bB:=a1.lt;have ad:=H.eq;have b8:=H.lt;have O:=B.eq;have aI:=B.lt;have cw:bo=((a.1.toNat:Nat):Int):=b7;have cx:aF=((a.2.1.toNat:Nat):Int):=an;have cy:ai=((a.2.2.1.toNat:Nat):Int):=ad;have cz:Z=((a.2.2.2.2.toNat:Nat):Int):=O;intro bp ae;conv=>cbv
 have ae:=wrap_i64 ae;have aq:bp=LB a.2.2.2.1:=ae;refine AK ?_;intro cG cc cH ar;have ar:=wrap_i64 ar;refine AK ?_;intro bq cd;obtain⟨aN,a8⟩:=DP (em [] (Re.ofRat (HI a)));have cA:=Vi a.2.2.2.1;refine AB (r:= .agg [.sl (.sl AG) (([]:List LR)),Au aN]) P (Wb (q:=HI a) AA AA AA (bT aq (by show bq=((a.2.2.2.2.toNat%8+1:Nat):Int);omega)) a8) ?_;intro du cf;have dh:=cf.eq;conv=>cbv
 refine FC (fun c4=>?_) fun c4=>?_
 ·exact absurd c4 AA
 intro dv dp cJ bF;obtain⟨c9,p⟩:=xK fun vs bl=>∃(T7:List LR) (A7:LR) (r7:Int),vs=[.one (.sl C6 X),.one (.AU AY 157 0 0 n),AH r7,AH j,.one (.BE 7 0 0)]/\bl=[.var 0 [BP T7,Au A7],.arr 0 AY o]/\(T7=tw (Dl st a).1.1/\A7=em (Dl st a).1.1 (Dl st a).1.2)/\AR r7 (Dl st a).2
 refine .inl ⟨[0,3,4,5,7],[7,157],c9,?_,?_⟩
 ·intro vs bl hj;rw[p] at hj;obtain⟨T7,A7,r7,rfl,rfl,⟨bM,bK⟩,bS⟩:=hj;conv=>cbv
  have dn:=bS.eq;intro da bC;have cU:=bC.eq;conv=>cbv
  refine FC (fun b2=>?_) fun b2=>?_
  ·exact absurd b2 AA
  obtain⟨bA,ag⟩:=Ez (Ob (Dl st a).1.1.reverse (co (Dl st a).1.1 (Dl st a).1.2));refine AB P (iU bM bK ag) ?_;obtain⟨bz,af⟩:=xK fun vs bl=>∃(T8:List LR) (A8:LR),vs=[.one (.sl C6 X),.one (.AU AY 157 0 0 n),AH r7,AH j,.one (.BE 7 0 0)]/\bl=[.var 0 [BP T8,Au A8],.arr 0 AY o]/\(T8=tw (GZ st.1 (Dl st a).1).1/\A8=em (GZ st.1 (Dl st a).1).1 (GZ st.1 (Dl st a).1).2)
  refine .inl ⟨[0,3,4,5,7],[7,157],bz,?_,?_⟩
  ·intro vs bl hj;rw[af] at hj;obtain⟨T8,A8,rfl,rfl,bN,bL⟩:=hj;conv=>cbv
   obtain⟨_,b6,cp,aU,bj⟩:=N9 (st:=st) ⟨a6,V,hV,f⟩ a;have cq:b6.length<=8:=by have:=(N9 (st:=st) ⟨a6,V,hV,f⟩ a).1;omega
   have D:=TW (l:=st.1) (x:=(Dl st a).1) aU bj (fun he=>by rw[OA (.inl he)];exact Ur a);obtain⟨kk,ah⟩:∃z:Nu,z=GZ st.1 (Dl st a).1:=⟨_,rfl⟩
   rw[<-ah] at D;have w:=VW D.red D.mem;rw[<-ah] at bN bL;obtain⟨G,M⟩:=IM (tw (Gk kk).1);obtain⟨F,J⟩:=DP (em (Gk kk).1 (Gk kk).2);refine AB (r:= .agg [BP G,Au F]) P (Wi D.red D.mem (by have:=D.len;omega) (by rw[w.1,w.2.2]) bN bL M (by rw[J,w.2.2])) ?_;refine⟨[(G,F)],Ca,.inr ?_⟩;try conv=>cbv
   refine .inl ⟨[(G,F)],fun _=>⟨rfl,by (first | rfl | omega),rfl,B5 (o.length+1) 48⟩,?_⟩;intro (aE:List (el AY)) b3 aG;have bd:aE=(o:List (el AY))++([(G,F)]:List (el AY)):=aG.1;have bg:b3=List.length (α:=(el AY)) aE:=aG.2;refine AK ?_;intro bn cb;refine⟨24-(k'+1),?_,?_⟩
   ·omega
   rw[aK];have N:X[k']? =some a:=by (first | exact ab | (rw[<-ab];congr 1 <;> omega))
   refine .inr ⟨aE,_,k'+1,r7,bn,rfl,rfl,⟨⟨AA⟩,by have:=Dg N;omega,AA,AA,bg⟩,?_,rfl⟩;rw[DU (x:=a) N,cI,<-I];exact⟨by rw[bd,ho,I5,List.map_append,<-ah,M,J];rfl,bS⟩
  cases bA <;> conv=>cbv
  ·rw[af];refine⟨_,_,rfl,rfl,?_⟩ <;> rw[mr (fun hl=>Bool.false_ne_true (ag.2 (Zr.2 hl)))]
   exact⟨bM,bK⟩
  intro db bD;have cV:=bD.eq;refine AK ?_;intro dc cW bY cr;obtain⟨c8,aD⟩:=Bj (l:=o) (i:=bY) AA;refine⟨c8,fun _=>aD,?_⟩;try conv=>cbv
  rw[af];obtain⟨u3,y3,bW,bX,cv⟩:=Ip ho aD;refine⟨_,_,rfl,rfl,?_⟩ <;> rw[ml Y (Zr.1 (ag.1 rfl)),nG cv AA]
  exact⟨bW,bX⟩
 cases cJ <;> conv=>cbv
 ·have cC:=Ji bF;rw[p];refine⟨_,_,_,rfl,rfl,?_,?_⟩ <;> rw[OA (.inr AA)]
  ·exact⟨rfl,a8⟩
  exact g
 have cC:=Jj bF;intro cK bG;conv=>cbv
 have bG:=wrap_i64 bG;intro cL cg;have di:=cg.eq;refine AK ?_;intro cN ch;obtain⟨d58,bO,dj,ct⟩:∃d:Nat,d=a.2.1.toNat%k'/\cN=d/\d<k':=⟨_,rfl,by rw[ch,(AA:cK=((a.2.1.toNat:Nat):Int)),(AA:cL=(k':Int))];exact (Int.natCast_emod _ _).symm,Nat.mod_lt _ bQ⟩
 refine AK ?_;intro bZ cY;obtain⟨bx,b0⟩:=Bj (l:=o) (i:=bZ) AA;refine⟨bx,fun _=>b0,?_⟩;refine AW ?_;intro cO bH;have bH:=wrap_i64 bH;intro cP cj;have dk:=cj.eq;refine AK ?_;intro cQ ck;obtain⟨d67,bP,dm,cu⟩:∃d:Nat,d=a.2.2.1.toNat%k'/\cQ=d/\d<k':=⟨_,rfl,by rw[ck,(AA:cO=((a.2.2.1.toNat:Nat):Int)),(AA:cP=(k':Int))];exact (Int.natCast_emod _ _).symm,Nat.mod_lt _ bQ⟩
 refine AK ?_;intro c0 cZ;obtain⟨cT,b1⟩:=Bj (l:=o) (i:=c0) AA;refine⟨cT,fun _=>b1,?_⟩;try conv=>cbv
 refine g2 rfl ?_;obtain⟨u1,y1,m,t,U⟩:=Ip ho b0;obtain⟨u2,y2,ak,al,W⟩:=Ip ho b1;have Q:=List.mem_of_getElem? U;have ay:=List.mem_of_getElem? W;have a2:bZ=a.2.1.toNat%st.1.length:=by rw[hlen,<-bO];omega
 have a5:c0=a.2.2.1.toNat%st.1.length:=by rw[hlen,<-bP];omega
 have ax:=((f _ Q).el h).mono (by decide:512<=Rm);have ba:=((f _ ay).el h).mono (by decide:512<=Rm);refine AK ?_;intro dw dq;refine .inr ?_;intro cS bJ;conv=>cbv
 refine .inr ?_;cases cS <;> conv=>cbv
 ·have cE:=Bu bJ;intro c5 aR;conv=>cbv
  refine .inr ?_;cases c5 <;> conv=>cbv
  ·have c1:=Bu aR;intro c6 aS;conv=>cbv
   refine .inr ?_;cases c6 <;> conv=>cbv
   ·have c2:=Bu aS;intro c7 aT;conv=>cbv
    refine .inr ?_;cases c7 <;> conv=>cbv
    ·have c3:=Bu aT;obtain⟨dx,bU⟩:=xI (Bg y1);refine AB P (LJ (HE h f (Nat.le_refl Rm)) (FH h f Q) m t ax bU) ?_;intro cR bI;refine .inr ?_;cases cR <;> conv=>cbv
     ·have cD:=EG bI;intro br au;conv=>cbv
      refine .inr ?_;cases br <;> conv=>cbv
      ·have bm:=EG au;rw[p];have b:=Jz (o:=a) Y (by omega:a.1.toNat%6≠0);rw[get_eq U a2,get_eq W a5] at b;rw[(AA:a.1.toNat%6=5),aY _ _ AA] at b;refine⟨_,_,_,rfl,rfl,?_,?_⟩ <;> rw[b]
       ·exact⟨m,t⟩
       exact g
      have bm:=EH au;refine AK ?_;intro bs cl;have av:=(f _ Q).abs;have aw:DS y1=y1:=by unfold DS;rw[if_neg (dD AA)]
      obtain⟨hG,bb,bc⟩:=bu av AA (LM _) (Nat.le_refl Rm);obtain⟨bw,aa⟩:=IM (tw (BK u1 (DS y1)));obtain⟨bt,a7⟩:=DP (em (BK u1 (DS y1)) (Re.sqrt (DS y1)));refine AB (r:= .Aj [(true,[BP bw,Au bt]),(false,[.int .i64 0])]) P (Rv hG bb m (by show _=em u1 (DS y1);rw[aw];exact t) ((av.el h).mono AE) bc (LM _) aa a7) ?_;refine AB P LK ?_;rw[p];have b:=Jz (o:=a) Y (by omega:a.1.toNat%6≠0);rw[get_eq U a2,get_eq W a5] at b;rw[(AA:a.1.toNat%6=5),aZ _ _ AA] at b;refine⟨_,_,_,rfl,rfl,?_,?_⟩ <;> rw[b]
      ·exact⟨aa,a7⟩
      exact⟨by show bs=((st.2+1:Nat):Int);omega⟩
     have cD:=EH bI;obtain⟨dy,aV⟩:=DP (em u1 (-y1));refine AB P (Ol (HE h f (Nat.le_refl Rm)) (FH h f Q) m t ax aV) ?_;intro br au;refine .inr ?_;cases br <;> conv=>cbv
     ·have bm:=EG au;rw[p];have b:=Jz (o:=a) Y (by omega:a.1.toNat%6≠0);rw[get_eq U a2,get_eq W a5] at b;rw[(AA:a.1.toNat%6=5),aY _ _ AA] at b;refine⟨_,_,_,rfl,rfl,?_,?_⟩ <;> rw[b]
      ·exact⟨m,t⟩
      exact g
     have bm:=EH au;refine AK ?_;intro bs cl;have av:=(f _ Q).abs;have aw:DS y1= -y1:=by unfold DS;rw[if_pos (dE AA)]
     obtain⟨hG,bb,bc⟩:=bu av AA (LM _) (Nat.le_refl Rm);obtain⟨bw,aa⟩:=IM (tw (BK u1 (DS y1)));obtain⟨bt,a7⟩:=DP (em (BK u1 (DS y1)) (Re.sqrt (DS y1)));refine AB (r:= .Aj [(true,[BP bw,Au bt]),(false,[.int .i64 0])]) P (Rv hG bb m (by show _=em u1 (DS y1);rw[aw];exact aV) ((av.el h).mono AE) bc (LM _) aa a7) ?_;refine AB P LK ?_;rw[p];have b:=Jz (o:=a) Y (by omega:a.1.toNat%6≠0);rw[get_eq U a2,get_eq W a5] at b;rw[(AA:a.1.toNat%6=5),aZ _ _ AA] at b;refine⟨_,_,_,rfl,rfl,?_,?_⟩ <;> rw[b]
     ·exact⟨aa,a7⟩
     exact⟨by show bs=((st.2+1:Nat):Int);omega⟩
    have c3:=Bv aT;obtain⟨aP,aO,b5,b4,aQ,b9,bf,aL,aJ,bh⟩:=kj h f Q ay (r:=st.2);refine AB (r:= .Aj [(true,[BP aP,Au aO]),(false,[.int .i64 aQ])]) P (by have q:=b9;rw[←m,←t,←ak,←al]at q;exact q) ?_;refine .inl ⟨[.agg [BP aP,Au aO],AH aQ,.agg [BP bx.1,Au bx.2]],.agg [BP b5,Au b4],Ao,fun _=>Gl P (by rw[m,t];exact bf),?_⟩;try conv=>cbv
    rw[p];have b:=Jz (o:=a) Y (by omega:a.1.toNat%6≠0);rw[get_eq U a2,get_eq W a5] at b;rw[(AA:a.1.toNat%6=4)] at b;refine⟨_,_,_,rfl,rfl,?_,?_⟩ <;> rw[b]
    ·exact⟨aL,aJ⟩
    rw[bh];exact g
   have c2:=Bv aS;obtain⟨dg,aC⟩:=IM (tw (Bc u1 u2));obtain⟨de,aA⟩:=DP (em (Bc u1 u2) (y1*y2));refine AB P (Ru (HE h f (Nat.le_refl Rm)) (FH h f Q) (FH h f ay) m ak t al ax ba aC aA) ?_;refine AB P LK ?_;rw[p];have b:=Jz (o:=a) Y (by omega:a.1.toNat%6≠0);rw[get_eq U a2,get_eq W a5] at b;rw[(AA:a.1.toNat%6=3),oZ] at b;refine⟨_,_,_,rfl,rfl,?_,?_⟩ <;> rw[b]
   ·exact⟨aC,aA⟩
   exact g
  have c1:=Bv aR;obtain⟨df,aB⟩:=IM (tw (Bc u1 u2));obtain⟨dd,az⟩:=DP (em (Bc u1 u2) (y1-y2));refine AB P (Rw (HE h f (Nat.le_refl Rm)) (FH h f Q) (FH h f ay) m ak t al ax ba aB az) ?_;refine AB P LK ?_;rw[p];have b:=Jz (o:=a) Y (by omega:a.1.toNat%6≠0);rw[get_eq U a2,get_eq W a5] at b;rw[(AA:a.1.toNat%6=2),oa] at b;refine⟨_,_,_,rfl,rfl,?_,?_⟩ <;> rw[b]
  ·exact⟨aB,az⟩
  exact g
 have cE:=Bv bJ;obtain⟨dA,aX⟩:=IM (tw (Bc u1 u2));obtain⟨dz,aW⟩:=DP (em (Bc u1 u2) (y1+y2));refine AB P (Rs (HE h f (Nat.le_refl Rm)) (FH h f Q) (FH h f ay) m ak t al ax ba aX aW) ?_;refine AB P LK ?_;rw[p];have b:=Jz (o:=a) Y (by omega:a.1.toNat%6≠0);rw[get_eq U a2,get_eq W a5] at b;rw[(AA:a.1.toNat%6=1),oW] at b;refine⟨_,_,_,rfl,rfl,?_,?_⟩ <;> rw[b]
 ·exact⟨aX,aW⟩
 exact g
end
section
def qn (k:Nat):Re:=Re.ofRat ((k:Nat):Rat)
noncomputable def rtN (k:Nat):Nu:=(BK [] (qn k),Re.sqrt (qn k))
noncomputable def tH (k:Nat):Nu:=([],qn k)
theorem bc:Ag []:=trivial
theorem mj (u:AD):E2 [] u=u:=by
 unfold E2
 split
 ·rename_i h;exact (List.suffix_nil.1 h).symm
 rw[if_pos (List.nil_suffix)]
theorem mh (u v:AD):Bc u v=E2 u v:=by
 show E2 (E2 [] u) v=_
 rw[mj]
noncomputable def lR:Re:=qn 5+qn 2*Re.sqrt (qn 6)
def PA (u:AD):Prop:=u<:+BK [[6]] lR\/u<:+BK [] (qn 2)\/u<:+BK [] (qn 3)
end
section
theorem tR (X:List (el C6)):∃V:List Re,V.length<=3/\∀n∈(runN X).1,CY V n:=by
 obtain⟨h3,V,hV,a⟩:=U9 X;exact⟨V,Nat.le_trans hV h3,a⟩
instance (q:Rat):Decidable (Ct q):=inferInstanceAs (Decidable (_/\_))
theorem Q0 {q:Rat} (h:Ct q):B8 q:=⟨by have:=QE.2 h.1;omega,by have:=QE.2 h.2;omega⟩
end
section
def orM (g:Nat->Nat):List Nat->Nat
 | []=>0
 | k::r=>Nat.lor (Nat.lor (Nat.pow 2 k) (g k)) (orM g r)
def GP (acc:List Nat) (n k:Nat):Nat:=match Nat.ble (k+1) n with | true=>acc.getD (n-1-k) 0 | false=>0
def NJ:List Oper->List Nat->Nat->List Nat
 | [],acc,_=>acc
 | o::r,acc,n=>NJ r (orM (GP acc n) (FP o)::acc) (n+1)
def UT (ops:List Oper) (tr:Tr):Bool:=XV ops&&((fun acc=>(List.range ops.length).all fun j=>(List.range j).all fun i=>
 Nat.testBit (GP acc ops.length j) i||
  (match ops[i]?,ops[j]?,tr[i]?,tr[j]? with
   | some oi,some oj,some ti,some tj=>NB ops oi oj ti tj
   | _,_,_,_=>false)) (NJ ops [] 0))
theorem ah {g:Nat->Nat} {i:Nat}:∀{l:List Nat},(orM g l).testBit i=true↔∃k∈l,i=k\/(g k).testBit i=true
 | []=>by simp[orM]
 | k::r=>by
  have d:=ah (g:=g) (i:=i) (l:=r)
  show ((2^k ||| g k) ||| orM g r).testBit i=true↔_
  rw[Nat.testBit_or,Nat.testBit_or,Nat.testBit_two_pow,Bool.or_eq_true,Bool.or_eq_true,d];simp only[List.mem_cons,decide_eq_true_eq]
  constructor
  ·rintro ((h | h) |⟨m,b,a⟩)
   ·exact⟨k,.inl rfl,.inl h.symm⟩
   ·exact⟨k,.inl rfl,.inr h⟩
   exact⟨m,.inr b,a⟩
  rintro⟨m,rfl | b,a⟩
  ·exact .inl (a.imp Eq.symm id)
  exact .inr ⟨m,b,a⟩
theorem ja {x:Nat} {acc:List Nat} {n k:Nat} (h:k≠n):GP (x::acc) (n+1) k=GP acc n k:=by
 unfold GP
 by_cases d:k<n
 ·rw[Nat.ble_eq_true_of_le (by omega:k+1<=n+1),Nat.ble_eq_true_of_le (by omega:k+1<=n)]
  show (x::acc).getD (n+1-1-k) 0=acc.getD (n-1-k) 0
  rw[(AA:n+1-1-k=(n-1-k)+1)];rfl
 have a:Nat.ble (k+1) (n+1)=false:=by rw[<-Bool.not_eq_true,Nat.ble_eq];omega
 have b:Nat.ble (k+1) n=false:=by rw[<-Bool.not_eq_true,Nat.ble_eq];omega
 rw[a,b]
theorem Xj:∀(ops:List Oper) {acc:List (List Nat)} {m:List Nat},(∀j i,(GP m acc.length j).testBit i=true↔i∈acc.getD j [])->∀j i,(GP (NJ ops m acc.length) (acc.length+ops.length) j).testBit i=true↔i∈(Gq ops acc).getD j []
 | [],_,_,h=>h
 | o::r,acc,m,h=>by
  rw[Gq,NJ]
  have:=Xj r (acc:=acc++[(FP o).flatMap fun j=>j::acc.getD j []]) (m:=orM (GP m acc.length) (FP o)::m) (fun j i=>by
   rw[List.length_append,List.length_singleton]
   by_cases e:j=acc.length
   ·subst e
    have e1:GP (orM (GP m acc.length) (FP o)::m) (acc.length+1) acc.length=orM (GP m acc.length) (FP o):=by
     unfold GP;rw[Nat.ble_eq_true_of_le (Nat.le_refl _)]
     show (_::m).getD (acc.length+1-1-acc.length) 0=_
     rw[(AA:acc.length+1-1-acc.length=0)];rfl
    rw[e1,ah];have e2:(acc++[(FP o).flatMap fun j=>j::acc.getD j []]).getD acc.length []=(FP o).flatMap fun j=>j::acc.getD j []:=Ai
    rw[e2,List.mem_flatMap]
    constructor
    ·rintro⟨k,a,h'⟩;exact⟨k,a,List.mem_cons.2 (h'.imp id (h k i).1)⟩
    rintro⟨k,a,h'⟩;exact⟨k,a,(List.mem_cons.1 h').imp id (h k i).2⟩
   rw[ja e,h]
   by_cases b:j<acc.length
   ·simp only[List.getD_eq_getElem?_getD,List.getElem?_append_left b]
   simp only[List.getD_eq_getElem?_getD];rw[List.getElem?_eq_none AA,List.getElem?_eq_none (by simp;omega)])
  rw[List.length_append,List.length_singleton] at this;rw[List.length_cons,(AA:acc.length+(r.length+1)=acc.length+1+r.length)];exact this
theorem oU {ops:List Oper} {tr:Tr} (h:UT ops tr=true):Jq ops tr=true:=by
 unfold UT at h;unfold Jq;rw[Bool.and_eq_true] at h ⊢;refine⟨h.1,?_⟩;have a:=Xj ops (acc:=[]) (m:=[]) (fun j i=>by unfold GP;split <;> simp);rw[List.length_nil,Nat.zero_add] at a
 have e:∀j i,((Gq ops []).getD j []).contains i=Nat.testBit (GP (NJ ops [] 0) ops.length j) i:=fun j i=>by
  rw[Bool.eq_iff_iff,List.contains_iff_mem];exact (a j i).symm
 have b:=h.2;unfold aU;simp only[e];exact b
end
end Go.Abs
