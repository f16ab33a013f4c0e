/- Part 11 of a proof. Conditions: each theorem's own. -/
import Derived.Test.YtmifleedghiimaaGreatDoorRb09
set_option linter.all false
set_option maxHeartbeats 80000000
set_option maxRecDepth 20000
open Go.Proofs
namespace Go.Abs
open Go.RowKit
section
def mF {TT:AG->Prop} {R K S:Nat} (G:EA TT R K S) {L:List (el Ae)} {ns:List (AG×Re)} (Q:∀n∈ns,TT n.1) (hL:L=ns.map nm) (ar:∀n∈ns,El n.1 S n.2) (hlen:ns.length<=1000000) {O:List (el Ae)} (hO:O=ns.map (fun n=>nm (Cs ns,n.2))):CF 158 [.one (.sl Ae L)] (.BI [(false,[.sl Ae O]),(false,[.int .i64 0])]):=by
 have b1:L.length=ns.length:=by rw[hL,List.length_map]
 have J:TT (Cs ns):=G.Cs Q;refine AL Tryz.func158 fun E hE=>?_
 refine BX [(4,.sl AJ,false)] [0,4,5] [] (fun vs bl k=>∃(Ti:List LR) (i':Nat) (i:Int),vs=[.one (.sl Ae L),BF Ti,AH i]/\bl=[]/\(AZ i i'/\i'<=L.length)/\Ti=tw (Cs (ns.take i'))/\k=L.length-i') L.length ⟨[],0,0,rfl,rfl,⟨BM 0,AA⟩,rfl,rfl⟩ ?_;rintro J0 P vs bl b5 ⟨Ti,i',i,rfl,rfl,⟨hi,aK⟩,h,b2⟩;conv=>cbv
 have ei:=hi.eq;have aL:(Cs (ns.take i')).length=List.length (α:=LR) Ti:=by rw[h,Cq]
 rintro b7 ⟨aZ,f17⟩;conv=>cbv
 refine Bi (fun aM=>?_) fun aM=>?_
 ·refine BX [(9,Ae,true)] [0,4,9,10] [9] (fun vs bl k=>∃(T:List LR) (o:List (el Ae)) (mm i':Nat) (i:Int),vs=[.one (.sl Ae L),BF T,.one (.Aj Ae 9 0 0 mm),AH i]/\bl=[.arr 0 Ae o]/\(AZ i i'/\i'<=L.length/\mm=o.length)/\T=tw (Cs ns)/\o=(ns.take i').map (fun n=>nm (Cs ns,n.2))/\k=L.length-i') L.length ⟨Ti,[],0,0,0,rfl,rfl,⟨BM 0,Nat.zero_le _,rfl⟩,by rw[h,List.take_of_length_le (AA:ns.length<=i')],rfl,rfl⟩ ?_;rintro J1 aq vs bl b6 ⟨T,o,mm,i',i,rfl,rfl,⟨hi,aK,ad⟩,hT,hinv,b3⟩;conv=>cbv
  have ei:=hi.eq;have b4:o.length<=L.length:=by rw[hinv,List.length_map,List.length_take];omega
  rintro b8 ⟨b0,f69⟩;conv=>cbv
  refine Bi (fun aO=>?_) fun aO=>?_
  ·exact AN ⟨⟨rfl,.inl ⟨_,rfl,AA,congrArg _ (by rw[hO,ad,hinv,List.drop_zero,List.take_length,List.take_of_length_le (AA:ns.length<=i')])⟩,trivial⟩,t2,trivial⟩
  refine .inr ?_;refine BA i' fun a2 H=>?_
  try conv=>cbv
  obtain⟨u,y,d,af,I⟩:=KJ hL H;have M:=List.mem_of_getElem? I;have hu:TT u:=Q _ M;have ag:El u S y:=ar _ M;have av:List.length (α:=LR) a2.1=u.length:=by rw[d,Cq]
  have au:Br u (Cs ns):=VS G.toGam Q _ M;obtain⟨wC,a1⟩:=xR (em (Cs ns) y);obtain⟨aC,a5⟩:=Es (u<:+Cs ns);refine AB hE (QY (G.BW J) (G.BW hu) hT d a5) ?_;refine .inr ?_;cases aC <;> conv=>cbv
  ·refine BA i' fun aW aA=>?_
   try conv=>cbv
   have aI:aW=a2:=Option.some.inj (aA.symm.trans H);obtain⟨aR,aw⟩:=xV (tw (Cs ns));obtain⟨aS,a7⟩:=xV (GD (Cs ns) u);have a6:=Va (G.BW J).red (G.BW hu).red au;refine AB (r:= .BI [(false,[Ao aR]),(false,[Ao aS]),(false,[.int .i64 0])]) hE (UX G J hu hT (by rw[aI];exact d) (by rw[a6];exact aw) a7) ?_;refine BA i' fun aB ae=>?_
   try conv=>cbv
   have ao:aB=a2:=Option.some.inj (ae.symm.trans H);refine AB (r:= .one (AT wC)) hE (ma G.toGam J hu au hT (by rw[a7];have:=Pq (G.BW J).red (G.BW hu).red;rwa [a6] at this) (by rw[ao];exact af) ag a1) ?_;refine⟨[(T,wC)],Cj,.inr ?_⟩;try conv=>cbv
   refine .inl ⟨[(T,wC)],fun _=>⟨rfl,ad,rfl,Ck (o.length+1) 48⟩,?_⟩;intro (f:List (el Ae)) p g;have t:f=(o:List (el Ae))++([(T,wC)]:List (el Ae)):=g.1;have w:p=List.length (α:=(el Ae)) f:=g.2;refine AM ?_;intro ah aJ;exact Bj aq ⟨T,f,p,i'+1,ah,rfl,rfl,⟨⟨AA⟩,AA,w⟩,hT,by rw[t,hinv,EM I,List.map_append];simp[nm,hT,a1],rfl⟩
  refine BA i' fun aV az=>?_
  try conv=>cbv
  have aH:aV=a2:=Option.some.inj (az.symm.trans H);refine AB (r:= .one (AT wC)) hE (UZ (G.BW J) hT (by rw[aH];exact af) ag.mem (a5.1 rfl) a1) ?_;refine⟨[(T,wC)],Cj,.inr ?_⟩;try conv=>cbv
  refine .inl ⟨[(T,wC)],fun _=>⟨rfl,ad,rfl,Ck (o.length+1) 48⟩,?_⟩;intro (f:List (el Ae)) p g;have t:f=(o:List (el Ae))++([(T,wC)]:List (el Ae)):=g.1;have w:p=List.length (α:=(el Ae)) f:=g.2;refine AM ?_;intro ah aJ;exact Bj aq ⟨T,f,p,i'+1,ah,rfl,rfl,⟨⟨AA⟩,AA,w⟩,hT,by rw[t,hinv,EM I,List.map_append];simp[nm,hT,a1],rfl⟩
 refine .inr ?_;refine BA i' fun D b=>?_
 try conv=>cbv
 obtain⟨u,y,d,af,I⟩:=KJ hL b;have M:=List.mem_of_getElem? I;have hu:TT u:=Q _ M;have ag:El u S y:=ar _ M;have av:List.length (α:=LR) D.1=u.length:=by rw[d,Cq]
 have B:=dK I;unfold F7 at B
 dsimp only at B
 have U:TT (Cs (ns.take i')):=G.Cs (fun n hn=>Q n (List.mem_of_mem_take hn));rintro aP ⟨aD,f26⟩;conv=>cbv
 have aY:aP=(u.length:Int):=aD.trans (congrArg (fun n:Nat=>(n:Int)) av);rintro aQ ⟨aE,f28⟩;conv=>cbv
 have aX:aQ=((Cs (ns.take i')).length:Int):=aE.trans (congrArg (fun n:Nat=>(n:Int)) aL.symm);refine Fu (fun aN=>?_) fun aN=>?_
 ·refine .inr ?_;refine BA i' fun ak X=>?_
  try conv=>cbv
  have aa:ak=D:=Option.some.inj (X.symm.trans b);obtain⟨a8,a⟩:=Es (u<:+(Cs (ns.take i')));refine AB (r:= .one (.bool a8)) hE (QY (G.BW U) (G.BW hu) h (by rw[aa];exact d) a) ?_;intro E7 N;refine .inr ?_;cases E7 <;> conv=>cbv
  ·have j:=Hp N;refine AM ?_;intro l Z;exact Bj P ⟨_,i'+1,l,rfl,rfl,⟨⟨AA⟩,AA⟩,by rw[B,if_pos (a.1 j),<-h],rfl⟩
  have j:=Hq N;refine BA i' fun al Y=>?_
  try conv=>cbv
  have ab:al=D:=Option.some.inj (Y.symm.trans b);obtain⟨ai,m⟩:=xV (tw (ext (Cs (ns.take i')) u));obtain⟨aj,W⟩:=xV (GD (Cs (ns.take i')) u);refine AB (r:= .BI [(false,[Ao ai]),(false,[Ao aj]),(false,[.int .i64 0])]) hE (UX G U hu h (by rw[ab];exact d) m W) ?_;refine BG ?_;intro l Z;exact Bj P ⟨_,i'+1,l,rfl,rfl,⟨⟨AA⟩,AA⟩,by rw[B,if_neg (fun q=>by have:=a.2 q;rw[j] at this;cases this),if_neg (fun z=>by first | (have:=F.2 z;cases this) | exact absurd (show u<:+Cs (List.take i' ns) from by rw[z.eq_of_length_le AA];exact List.suffix_refl _) (fun q=>by have:=a.2 q;rw[j] at this;cases this)),m],rfl⟩
 refine BA i' fun aT ax=>?_
 try conv=>cbv
 have aF:aT=D:=Option.some.inj (ax.symm.trans b);obtain⟨an,F⟩:=Es ((Cs (ns.take i'))<:+u);refine AB (r:= .one (.bool an)) hE (QY (G.BW hu) (G.BW U) (by rw[aF];exact d) h F) ?_;refine .inr ?_;cases an <;> conv=>cbv
 ·refine BA i' fun ak X=>?_
  try conv=>cbv
  have aa:ak=D:=Option.some.inj (X.symm.trans b);obtain⟨a8,a⟩:=Es (u<:+(Cs (ns.take i')));refine AB (r:= .one (.bool a8)) hE (QY (G.BW U) (G.BW hu) h (by rw[aa];exact d) a) ?_;intro E7 N;refine .inr ?_;cases E7 <;> conv=>cbv
  ·have j:=Hp N;refine AM ?_;intro l Z;exact Bj P ⟨_,i'+1,l,rfl,rfl,⟨⟨AA⟩,AA⟩,by rw[B,if_pos (a.1 j),<-h],rfl⟩
  have j:=Hq N;refine BA i' fun al Y=>?_
  try conv=>cbv
  have ab:al=D:=Option.some.inj (Y.symm.trans b);obtain⟨ai,m⟩:=xV (tw (ext (Cs (ns.take i')) u));obtain⟨aj,W⟩:=xV (GD (Cs (ns.take i')) u);refine AB (r:= .BI [(false,[Ao ai]),(false,[Ao aj]),(false,[.int .i64 0])]) hE (UX G U hu h (by rw[ab];exact d) m W) ?_;refine BG ?_;intro l Z;exact Bj P ⟨_,i'+1,l,rfl,rfl,⟨⟨AA⟩,AA⟩,by rw[B,if_neg (fun q=>by have:=a.2 q;rw[j] at this;cases this),if_neg (fun z=>by first | (have:=F.2 z;cases this) | exact absurd (show u<:+Cs (List.take i' ns) from by rw[z.eq_of_length_le AA];exact List.suffix_refl _) (fun q=>by have:=a.2 q;rw[j] at this;cases this)),m],rfl⟩
 refine BA i' fun aU ay=>?_
 try conv=>cbv
 have aG:aU=D:=Option.some.inj (ay.symm.trans b);refine AM ?_;intro l Z;exact Bj P ⟨_,i'+1,l,rfl,rfl,⟨⟨AA⟩,AA⟩,by rw[B,if_neg (fun z=>by have:=z.length_le;omega),if_pos (F.1 rfl),aG];exact d,rfl⟩
end
section
abbrev Nu:=AG×Re
def C4 (q:Rat):Prop:=q.num.natAbs<18446744073709551616/\q.den<18446744073709551616
def ay:∀{a:List Rat},(∀q∈a,C4 q)->∃D:Nat,0<D/\D<=2^(64*a.length)/\DN D a
 | [],_=>⟨1,AD,AS,fun q d=>by simp at d⟩
 | q::a,h=>by
  obtain⟨D,f,g,i⟩:=ay (a:=a) (fun x b=>h x (List.mem_cons_of_mem _ b));have d:=(h q List.mem_cons_self).2;refine⟨q.den*D,Nat.mul_pos q.den_pos f,?_,fun x b=>?_⟩
  ·have:=Nat.mul_le_mul (AA:q.den<=2^64) g;rw[<-Nat.pow_add] at this;rw[List.length_cons,(AA:64*(a.length+1)=64+64*a.length)];exact this
  rcases List.mem_cons.1 b with rfl | b
  ·refine⟨x.num*D,?_⟩;rw[Rat.intCast_mul,<-Nw x,Iz];have:((D:Int):Rat)=(D:Rat):=rfl
   grind
  exact i.dvd ⟨q.den,by grind⟩ x b
def tF {q:Rat} {B:Nat} (h:q.num.natAbs<=B): -(B:Rat)<=q/\q<=B:=by
 have g:1<=q.den:=q.den_pos;have i:B*1<=B*q.den:=Nat.mul_le_mul_left B g
 have key:q.num<=(B:Int)*q.den/\ -((B:Int)*q.den)<=q.num:=by
  have:((B*q.den:Nat):Int)=(B:Int)*q.den:=Int.natCast_mul _ _;omega
 have e:=Nw q
 have d:(0:Rat)<q.den:=by
  have:((0:Nat):Rat)<(q.den:Rat):=Rat.natCast_lt_natCast.2 q.den_pos;simpa using this
 have k1:(q.num:Rat)<=(B:Rat)*q.den:=by
  have:=Rat.intCast_le_intCast.2 key.1;rw[Rat.intCast_mul] at this;exact this
 have k2: -((B:Rat)*q.den)<=(q.num:Rat):=by
  have:=Rat.intCast_le_intCast.2 key.2;rw[Rat.intCast_neg,Rat.intCast_mul] at this;exact this
 rw[<-e] at k1 k2
 constructor
 ·apply Classical.byContradiction;intro f;have:=Rat.mul_pos (a:= -(B:Rat)-q) (b:=q.den) (by grind) d
  grind
 apply Classical.byContradiction;intro f;have:=Rat.mul_pos (a:=q-(B:Rat)) (b:=q.den) (by grind) d
 grind
def Oi {a:List Rat} (h:∀q∈a,C4 q):Bd (64*a.length) a:=by
 obtain⟨D,d,f,g⟩:=ay h;refine⟨D,d,f,g,fun q b=>?_⟩;have i:1<=a.length:=List.length_pos_of_mem b;exact tF (Nat.le_trans (Nat.le_of_lt (h q b).1) (show 2^64<=2^(64*a.length) from DF))
structure DA (V:List Re) (n:Nu):Prop where
 red:BE n.1
 mem:In n.1 n.2
 BZ:∀v∈BZ n.1,v∈V
 KV:∀s∈n.1,∀q∈s,C4 q
 cos:∀q∈co n.1 n.2,C4 q
def DA.mono {V a:List Re} {n:Nu} (h:DA V n) (hV:∀v∈V,v∈a):DA a n:=⟨h.red,h.mem,fun v b=>hV v (h.BZ v b),h.KV,h.cos⟩
def DA.len {V:List Re} {n:Nu} (h:DA V n):n.1.length<=V.length:=by rw[<-Ll];exact LM (Js h.red) h.BZ
def XP:∀{u:AG} {r:List Rat},BE u->r∈u->2*r.length<=2^u.length
 | [],_,_,h=>by simp at h
 | s::u,r,h,a=>by
  rw[Cc];rcases List.mem_cons.1 a with rfl | a
  ·rw[h.2.1];omega
  have:=XP h.1 a;omega
def jw {u w:AG} (h:u<:+w):∀v∈BZ u,v∈BZ w:=by
 obtain⟨t,rfl⟩:=h
 induction t with
 | nil=>exact fun v a=>a
 | cons r t b=>exact fun v a=>List.mem_cons_of_mem _ (b v a)
def PN (ns:List Nu) (u:AG):Prop:=∃n∈ns,u<:+n.1
section
variable {V:List Re} {ns:List Nu}
def ff {k:Nat} (h:k<=3):2^k<=8:=DF h
def PN.LD (hV:V.length<=3) (h:∀n∈ns,DA V n):C8 (PN ns) 256:=by
 refine⟨fun {u} ⟨n,a,d⟩=>XY d (h n a).red,fun {u} ⟨n,a,d⟩=>fun r f=>?_,fun {r u} ⟨n,a,d⟩=>⟨n,a,(List.suffix_cons r u).trans d⟩⟩;have b:=d.subset f;have g:=XP (h n a).red b;have i:=ff (Nat.le_trans (h n a).len hV);exact (Oi ((h n a).KV r b)).mono AA
def PN.BZ (h:∀n∈ns,DA V n) {u:AG} (hu:PN ns u):∀v∈BZ u,v∈V:=by
 obtain⟨n,a,b⟩:=hu;exact fun v d=>(h n a).BZ v (jw b v d)
def PN.self {n:Nu} (a:n∈ns):PN ns n.1:=⟨n,a,List.suffix_refl _⟩
end
def DA.el {V:List Re} {n:Nu} (h:DA V n) (hV:V.length<=3):El n.1 512 n.2:=by
 refine⟨h.mem,(Oi h.cos).mono ?_⟩;have a:=ff (Nat.le_trans h.len hV);rw[Dp h.mem];omega
abbrev Rm:Nat:=93478
abbrev Cm:Nat:=53200000
abbrev Sm:Nat:=500000000000
def vM:RR 256 3<=Rm:=by decide +kernel
def oc:CC 3 Rm 3 Rm<=Cm:=by decide +kernel
def qP:∀h,h<=3->Fit h Rm (Sm+Cm)
 |0,_|1,_|2,_|3,_=>⟨by decide +kernel,by decide +kernel,by decide +kernel,by decide +kernel⟩
 | _+4,h=>absurd h AA
def qM:∀h,h<=3->Fv h Rm (Sm+Cm)
 |0,_|1,_|2,_|3,_=>⟨by decide +kernel,by decide +kernel,by decide +kernel,by decide +kernel⟩
 | _+4,h=>absurd h AA
def tA:2*(Sm+Cm)+EE 3 Rm<=60000000000000:=by decide +kernel
def cB {P:AG->Prop} (I:C8 P 256) (hm:∀{u},Tf P u->u.length<=3) {S:Nat} (a:Rm<=S) (d:S<=Sm):EA (Tf P) Rm Cm S:=
 {Tf.Vo I hm vM a oc (fun h b=>(qP h b).mono AA) (Nat.le_trans AA tA) with Jb:=fun {u} hu=>(qM _ (hm hu)).mono AA}
open Classical in
noncomputable def Bl (x:Re):Re:=if h:x≠0 then Classical.choose (Re.PL h) else 0
def HQ {x:Re} (h:x≠0):x*Bl x=1:=by
 unfold Bl;rw[dif_pos h];exact Classical.choose_spec (Re.PL h)
def R6 {u:AG} {x:Re} (hu:BE u) (b:In u x) (a:x≠0):In u (Bl x):=by
 obtain⟨y,d,e⟩:=FV hu b a;have e2:=HQ a
 rw[show Bl x=y by
  have:Bl x=Bl x*(x*y):=by rw[e];grind
  rw[this];have:Bl x*(x*y)=(x*Bl x)*y:=by grind
  rw[this,e2];grind]
 exact d
open Classical in
noncomputable def EG (x:Re):Re:=if x<0 then -x else x
def M1 (x:Re):0<=EG x:=by unfold EG;split <;> grind
def cg {u:AG} {x:Re} (a:In u x):In u (EG x):=by unfold EG;split;exact Hi a;exact a
open Classical in
noncomputable def Hu (n:Nu):Nu:=if h:BE n.1/\In n.1 n.2 then (Classical.choose (X0 h.1 h.2 (Nat.le_refl _)),n.2) else n
def Xz {n:Nu} (a:BE n.1) (b:In n.1 n.2):JJ n.1.length (n.1.reverse,co n.1 n.2)=((Hu n).1.reverse,co (Hu n).1 (Hu n).2)/\J3 n.1 n.2 (Hu n).1/\(Hu n).2=n.2:=by
 unfold Hu;rw[dif_pos ⟨a,b⟩];have:=Classical.choose_spec (X0 a b (Nat.le_refl _));exact⟨this.1,this.2,rfl⟩
def Kj (n:Nu):Prop:=(∃q∈co n.1 n.2,¬C4 q)\/∃s∈n.1,∃q∈s,¬C4 q
noncomputable def Fk (k:Nat) (a b:Nu) (roots:Nat):Nu×Nat:=by
 classical
 exact if k=1 then ((Bz a.1 b.1,a.2+b.2),roots)
 else if k=2 then ((Bz a.1 b.1,a.2-b.2),roots)
 else if k=3 then ((Bz a.1 b.1,a.2*b.2),roots)
 else if k=4 then (if b.2=0 then a else (Bz a.1 b.1,a.2*Bl b.2),roots)
 else if roots<3 then ((Bb a.1 (EG a.2),Re.sqrt (EG a.2)),roots+1) else (a,roots)
def OL:Nu:=([],0)
noncomputable def E6 (l:List Nu) (i:Nat):Nu:=l.getD (i%l.length) OL
def Mq (n:Int):Int:=(n+9223372036854775808)%18446744073709551616-9223372036854775808
def X9 (n:Int): -9223372036854775808<=Mq n/\Mq n<9223372036854775808:=by unfold Mq;omega
def Ig (o:el C2):Rat:=Rat.divInt (Mq o.2.2.2.1) ((o.2.2.2.2.toNat%8+1:Nat):Int)
noncomputable def Ee (st:List Nu×Nat) (o:el C2):Nu×Nat:=by
 classical
 exact if st.1=[]\/o.1.toNat%6=0 then (([],Re.ofRat (Ig o)),st.2) else Fk (o.1.toNat%6) (E6 st.1 o.2.1.toNat) (E6 st.1 o.2.2.1.toNat) st.2
noncomputable def Hj (l:List Nu) (x:Nu):Nu:=by
 classical
 exact if l≠[]/\Kj x then l.getLastD OL else x
noncomputable def Ka (st:List Nu×Nat) (o:el C2):List Nu×Nat:=(st.1++[Hu (Hj st.1 (Ee st o).1)],(Ee st o).2)
noncomputable def runN (xs:List (el C2)):List Nu×Nat:=xs.foldl Ka ([],0)
def gU (xs:List (el C2)) (o:el C2):runN (xs++[o])=Ka (runN xs) o:=by rw[runN,List.foldl_append];rfl
def Mv (st:List Nu×Nat):Prop:=st.2<=3/\∃V:List Re,V.length<=st.2/\∀n∈st.1,DA V n
def DA.trim {V:List Re} {n:Nu} (h:DA V n):DA V (Hu n):=by
 obtain⟨_,t,e⟩:=Xz h.red h.mem;refine⟨t.red,by rw[e];exact t.mem,fun v g=>h.BZ v (t.BZ v g),fun s f q a=>?_,fun q a=>?_⟩
 ·obtain⟨i,d,b⟩:=t.KV s f;exact h.KV i d q (b q a)
 rw[e] at a;exact h.cos q (t.cos q a)
def DA.tZ {V:List Re} {n:Nu} (d:BE n.1) (f:In n.1 n.2) (h3:∀v∈Go.Abs.BZ n.1,v∈V) (h:¬Kj n):DA V n:=
 ⟨d,f,h3,fun s g q b=>Classical.byContradiction fun a=>h (.inr ⟨s,g,q,b,a⟩),fun q b=>Classical.byContradiction fun a=>h (.inl ⟨q,b,a⟩)⟩
def Rx {l:List Nu} (h:l≠[]) (i:Nat):E6 l i∈l:=by
 have:i%l.length<l.length:=Nat.mod_lt _ (List.length_pos_iff.2 h);unfold E6;rw[List.getD_eq_getElem?_getD,List.getElem?_eq_getElem this];exact List.getElem_mem this
def sM {l:List Nu} (h:l≠[]):l.getLastD OL∈l:=by
 cases l with
 | nil=>exact absurd rfl h
 | cons a l=>rw[List.getLastD_cons];cases l with
  | nil=>exact List.mem_cons_self
  | cons b l=>rw[List.getLastD_eq_getLast?];exact List.mem_cons_of_mem _ (by
   rw[List.getLast?_eq_some_getLast AS];exact List.getLast_mem _)
section
variable {V:List Re} {ns:List Nu}
def IV (hV:V.length<=3) (h:∀n∈ns,DA V n) {S:Nat} (a:Rm<=S) (b:S<=Sm:=by first|omega|decide):EA (Tf (PN ns)) Rm Cm S:=
 cB (PN.LD hV h) (fun {u} hu=>Nat.le_trans (hu.len (PN.LD hV h) (fun d=>PN.BZ h d)) hV) a b
def GK (hV:V.length<=3) (h:∀n∈ns,DA V n) {n:Nu} (a:n∈ns):Tf (PN ns) n.1:=Tf.of (PN.LD hV h) (PN.self a)
structure OS (V:List Re) (n:Nu):Prop where
 red:BE n.1
 mem:In n.1 n.2
 BZ:∀v∈BZ n.1,v∈V
def OS.Se (hV:V.length<=3) (h:∀n∈ns,DA V n) {n:Nu} (ht:Tf (PN ns) n.1) (hm:In n.1 n.2):OS V n:=
 ⟨ht.red (PN.LD hV h),hm,ht.BZ (PN.LD hV h) (fun a=>PN.BZ h a)⟩
def DA.gI {n:Nu} (h:DA V n):OS V n:=⟨h.red,h.mem,h.BZ⟩
def qJ (hV:V.length<=3) (h:∀n∈ns,DA V n) {a b:Nu} (ha:a∈ns) (hb:b∈ns):Tf (PN ns) (Bz a.1 b.1)/\In (Bz a.1 b.1) a.2/\In (Bz a.1 b.1) b.2:=by
 have G:=(IV hV h (Nat.le_refl Rm)).toGam;obtain⟨d,f,h3⟩:=G.Bz (GK hV h ha) (GK hV h hb);exact⟨d,f _ (h a ha).mem,h3 _ (h b hb).mem⟩
def jv {u:AG} {v:Re} (d:In u v):∀x∈BZ (Bb u v),x=v\/x∈BZ u:=by
 by_cases b:Sq u v
 ·rw[FF b];exact fun x a=> .inr a
 rw[Ei b];intro x a;rcases List.mem_cons.1 a with rfl | a
 ·exact .inl (FR d)
 exact .inr a
def KW {u:AG} {v:Re} (h:BE u) (a:In u v) (d:0<=v):BE (Bb u v):=by
 by_cases b:v=0
 ·subst b;rw[FF ⟨0,C0 u,by grind⟩];exact h
 exact XW h a (by grind)
def Pk {st:List Nu×Nat} (h:Mv st) (o:el C2):(Ee st o).2<=3/\∃V,V.length<=(Ee st o).2/\(∀n∈st.1,DA V n)/\OS V (Ee st o).1:=by
 obtain⟨h3,V,hV,d⟩:=h;have f:=Nat.le_trans hV h3;unfold Ee
 split
 ·exact⟨h3,V,hV,d,trivial,⟨[Ig o],rfl,rfl⟩,fun v i=>by simp[Go.Abs.BZ] at i⟩
 rename_i w
 have j:st.1≠[]:=fun e=>w (.inl e)
 have ha:=Rx j o.2.1.toNat;have hb:=Rx j o.2.2.1.toNat
 generalize E6 st.1 o.2.1.toNat=a at*
 generalize E6 st.1 o.2.2.1.toNat=b at*
 obtain⟨l,m,p⟩:=qJ f d ha hb;have t:=l.red (PN.LD f d);unfold Fk
 split
 ·exact⟨h3,V,hV,d,.Se f d l (EP m p)⟩
 split
 ·exact⟨h3,V,hV,d,.Se f d l (Ga m p)⟩
 split
 ·exact⟨h3,V,hV,d,.Se f d l (BL t m p)⟩
 split
 ·refine⟨h3,V,hV,d,?_⟩
  dsimp only
  split
  ·exact (d a ha).gI
  rename_i r
  exact .Se f d l (BL t m (R6 t p r))
 split
 ·rename_i z
  have g:=cg (d a ha).mem;refine⟨by show st.2+1<=3;omega,EG a.2::V,by show _+1<=st.2+1;omega,fun n hm=>(d n hm).mono fun v i=>List.mem_cons_of_mem _ i,KW (d a ha).red g (M1 _),Ug g (M1 _),fun v i=>?_⟩;rcases jv g v i with rfl | i
  ·exact List.mem_cons_self
  exact List.mem_cons_of_mem _ ((d a ha).BZ v i)
 exact⟨h3,V,hV,d,(d a ha).gI⟩
end
def wu {n:Int} {d:Nat} (a:n.natAbs<18446744073709551616) (b:0<d) (GO:d<18446744073709551616):C4 (Rat.divInt n d):=by
 have e:(Rat.divInt n d)=mkRat n d:=Rat.divInt_ofNat n d;rw[e]
 constructor
 ·have:=Rat.num_mkRat n d;rw[this]
  split
  ·simp
  refine Nat.lt_of_le_of_lt ?_ a;exact Int.natAbs_ediv_le_natAbs _ _
 have:=Rat.den_mkRat n d;rw[this]
 split
 ·decide
 exact Nat.lt_of_le_of_lt (Nat.div_le_self _ _) GO
def V7 {V:List Re} {l:List Nu} {x:Nu} (f:∀n∈l,DA V n) (a:OS V x) (d:l=[]->¬Kj x):DA V (Hj l x):=by
 unfold Hj
 split
 ·rename_i h;exact f _ (sM h.1)
 rename_i h
 refine .tZ a.red a.mem a.BZ fun b=>?_
 by_cases he:l=[]
 ·exact d he b
 exact h ⟨he,b⟩
def XT (o:el C2):¬Kj ([],Re.ofRat (Ig o)):=by
 have f:C4 (Ig o):=wu (by have:=X9 o.2.2.2.1;omega) AA AA;rintro (⟨q,d,b⟩ |⟨s,a,_⟩)
 ·rw[D5] at d;rw[List.mem_singleton.1 d] at b;exact b f
 simp at a
def xy {st:List Nu×Nat} (h:Mv st) (o:el C2):Mv (Ka st o):=by
 obtain⟨b,V,d,h3,f⟩:=Pk h o;refine⟨b,V,d,fun n a=>?_⟩;rcases List.mem_append.1 a with a | a
 ·exact h3 n a
 rw[List.mem_singleton.1 a];refine (V7 h3 f fun he=>?_).trim;have:(Ee st o).1=([],Re.ofRat (Ig o)):=by unfold Ee;rw[if_pos (.inl he)]
 rw[this];exact XT o
def gZ:∀{xs:List (el C2)} {st:List Nu×Nat},Mv st->Mv (xs.foldl Ka st)
 | [],_,h=>h
 | o::xs,_,h=>gZ (xs:=xs) (xy h o)
def Xg (xs:List (el C2)):Mv (runN xs):=gZ ⟨AD,[],AS,AS⟩
end
section
variable {A1 A2 C:LR} {K K2 R S S2:Nat} {T T1 T2:List LR} {TT:AG->Prop} {c:Int} {q:Rat} {u v:AG} {x y:Re}
def ZF (G:EA TT R K S) (hu:TT u) (J:TT v) (l:T1=tw u) (m:T2=tw v) (i:A1=em u x) (j:A2=em v y) (M:El u S x) (N:El v S y) {A B:LR} (I:T=tw (Bz u v)) (w:A=em (Bz u v) x) (D:B=em (Bz u v) y):CF 88 [.agg (AY T1 A1),.agg (AY T2 A2)] (.BI [(true,(AY T A)),(true,(AY T B)),(false,[.int .i64 0])]):=by
 obtain⟨O,h⟩:∃z:List (el Ae),z=[(T,A),(T,B)]:=⟨_,rfl⟩
 have H:O.length=2:=by rw[h];rfl
 have p:O[0]? =some (T,A):=by rw[h];rfl
 have t:O[1]? =some (T,B):=by rw[h];rfl
 refine AL Tryz.func88 fun E F=>?_
 refine⟨[(T1,A1),(T2,A2)],fun _=>⟨rfl,AD,rfl,⟨rfl,DB,⟨rfl,DB,trivial⟩⟩⟩,.inr ?_⟩;try conv=>cbv
 refine AB (r:= .BI [(false,[.sl Ae O]),(false,[.int .i64 0])]) F (mF (ns:=[(u,x),(v,y)]) G (by intro n d;simp at d;rcases d with rfl | rfl;exact hu;exact J) (by rw[l,m,i,j];rfl) (by intro n d;simp at d;rcases d with rfl | rfl;exact M;exact N) (by show 2<=1000000;decide) (by rw[h,I,w,D];rfl)) ?_;refine BG ?_;refine BA 0 fun P f=>?_
 try conv=>cbv
 refine BA 1 fun Q g=>?_
 try conv=>cbv
 refine g2 rfl ?_;have a:=Option.some.inj (f.symm.trans p);have b:=Option.some.inj (g.symm.trans t);exact AN ⟨⟨rfl,congrArg _ (by rw[a]),congrArg _ (by rw[a]),trivial⟩,⟨rfl,congrArg _ (by rw[b]),congrArg _ (by rw[b]),trivial⟩,t2,trivial⟩
def US (G:EA TT R K S) (hu:TT u) (j:TT v) (f:T1=tw u) (g:T2=tw v) (b:A1=em u x) (d:A2=em v y) (t:El u S x) (w:El v S y) (D:T=tw (Bz u v)) (z:C=em (Bz u v) (x+y)):CF 32 [.agg (AY T1 A1),.agg (AY T2 A2)] (BK (AY T C) 0):=by
 obtain⟨a,h,i⟩:=G.toGam.Bz hu j;have l:=G.Cr hu a h t;have m:=G.Cr j a i w;have hmul:=G.mul a;obtain⟨A,n⟩:=D8 (em (Bz u v) x);obtain⟨B,p⟩:=D8 (em (Bz u v) y);refine AL Tryz.func32 fun E r=>?_
 refine AB r (ZF G hu j f g b d t w D n p) ?_;refine BG ?_;refine AB r (Lz (G.BW a) n p l m AA AA z) ?_;exact AN ⟨t3,t2,trivial⟩
def UT (G:EA TT R K S) (hu:TT u) (j:TT v) (f:T1=tw u) (g:T2=tw v) (b:A1=em u x) (d:A2=em v y) (w:El u S x) (z:El v S y) (t:T=tw (Bz u v)) (D:C=em (Bz u v) (x*y)):CF 42 [.agg (AY T1 A1),.agg (AY T2 A2)] (BK (AY T C) 0):=by
 obtain⟨a,h,i⟩:=G.toGam.Bz hu j;have l:=G.Cr hu a h w;have m:=G.Cr j a i z;have hmul:=G.mul a;obtain⟨A,n⟩:=D8 (em (Bz u v) x);obtain⟨B,p⟩:=D8 (em (Bz u v) y);refine AL Tryz.func42 fun E r=>?_
 refine AB r (ZF G hu j f g b d w z t n p) ?_;refine BG ?_;refine AB r (FP (G.BW a) t n p l m AA D) ?_;exact AN ⟨t3,t2,trivial⟩
def QU (G:EA TT R K S) (hu:TT u) (f:T1=tw u) (a:A1=em u x) (g:El u S x) (b:C=em u (-x)):CF 17 [.agg (AY T1 A1)] (.agg (AY T1 C)):=by
 refine AL Tryz.func17 fun E d=>?_
 refine AB d (Mz (G.BW hu) a g b) ?_;exact AN ⟨t3,trivial⟩
def UW (G:EA TT R K S) (hu:TT u) (h:TT v) (g:T1=tw u) (a:T2=tw v) (d:A1=em u x) (f:A2=em v y) (n:El u S x) (j:El v S y) (m:T=tw (Bz u v)) (l:C=em (Bz u v) (x-y)):CF 41 [.agg (AY T1 A1),.agg (AY T2 A2)] (BK (AY T C) 0):=by
 refine AL Tryz.func41 fun E i=>?_
 obtain⟨p,b⟩:=D8 (em v (-y));refine AB i (QU G h a f j b) ?_;refine AB i (US G hu h g a d b n (j.neg (G.BW h).red) m l) ?_;exact AN ⟨t3,t2,trivial⟩
def Mx (G:EA TT R K S) (hu:TT u) (b:T1=tw u) (a:A1=em u x) (g:El u S x) (f:c=Bv x):CF 16 [.agg (AY T1 A1)] (AH c):=by
 refine AL Tryz.func16 fun E d=>?_
 refine AB d (mD (G.BW hu) b a g ((G.Jb hu).mono (Nat.le_add_right _ _)).v0 f) ?_;exact AN ⟨t2,trivial⟩
def UU (G:EA TT R K S) (hu:TT u) (b:T1=tw u) (a:A1=em u x) (i:El u S x) (hw:TT (Bb u x)) (d:0<=x) (h:T=tw (Bb u x)) (f:C=em (Bb u x) (Re.sqrt x)):CF 43 [.agg (AY T1 A1)] (BK (AY T C) 0):=by
 refine AL Tryz.func43 fun E g=>?_
 refine AB g (Yl (G.BW hu) (G.BW hw) (G.ht hw) b a i ((G.Jb hu).mono (Nat.le_add_right _ _)) d h f) ?_;refine BG ?_;exact AN ⟨t3,t2,trivial⟩
def Yp (G:EA TT R K S) (hu:TT u) (n:TT v) (h:T1=tw u) (b:T2=tw v) (d:A1=em u x) (f:A2=em v y) (w:El u S x) (z:El v S y) {i:Re} (t:In v i) (l:y*i=1) (j:El v S i) (g:II v.length R S<=60000000000000) (r:T=tw (Bz u v)) (p:C=em (Bz u v) (x*i)):CF 31 [.agg (AY T1 A1),.agg (AY T2 A2)] (BK (AY T C) 0):=by
 refine AL Tryz.func31 fun E m=>?_
 obtain⟨B,a⟩:=D8 (em v i);refine AB m (QZ (G.BW n) b f z t l g a) ?_;refine BG ?_;refine AB m (UT G hu n h b d a w j r p) ?_;exact AN ⟨t3,t2,trivial⟩
def mJ (G:EA TT R K S) (hu:TT u) (i:TT v) (h:T1=tw u) (b:T2=tw v) (f:A1=em u x) (a:A2=em v y) (j:El u S x) (l:El v S y) (d:y=0):CF 31 [.agg (AY T1 A1),.agg (AY T2 A2)] (BK (AY [] []) 6):=by
 refine AL Tryz.func31 fun E g=>?_
 refine AB (r:= .BI [(false,[AT []]),(false,[.int .i64 6])]) g (Y6 (G.BW i) b (a.trans (by rw[d]))) ?_;refine CN ?_;exact AN AK
def mI (G:EA TT R K S) (hu:TT u) (m:TT v) (h:T1=tw u) (i:T2=tw v) (f:A1=em u x) (g:A2=em v y) (t:El u S x) (w:El v S y) (z:EA TT R K2 S2) (D:2*(S+K)+1<=S2) (B:c=Bv (x-y)):CF 56 [.agg (AY T1 A1),.agg (AY T2 A2)] (.BI [(false,[.int .i64 c]),(false,[.int .i64 0])]):=by
 obtain⟨a,j,l⟩:=G.toGam.Bz hu m;have n:=G.Cr hu a j t;have p:=G.Cr m a l w;have hmul:=G.mul a;refine AL Tryz.func56 fun E r=>?_
 obtain⟨H,d⟩:=Jo (tw (Bz u v));obtain⟨F,b⟩:=D8 (em (Bz u v) (x-y));refine AB r (UW G hu m h i f g t w d b) ?_;refine BG ?_;refine AB r (Mx z a d b ((n.sub (G.BW a).red p).mono AA) B) ?_;exact AN ⟨t2,t2,trivial⟩
def Yq (G:EA TT R K S) (hu:TT u) (p:TT v) (g:T1=tw u) (i:T2=tw v) (d:A1=em u x) (f:A2=em v y) (r:El u S x) (t:El v S y) (j:EA TT R K2 S2) (m:2*(S+K)+1<=S2) {c:Bool} (n:c=true↔x=y):CF 20 [.agg (AY T1 A1),.agg (AY T2 A2)] (.one (.bool c)):=by
 refine AL Tryz.func20 fun E l=>?_
 obtain⟨z,a⟩:=xI (Bv (x-y));refine AB l (mI G hu p g i d f r t j m a) ?_;refine CN ?_;intro w b;exact AO (by rw[Bool.eq_iff_iff,n,b,beq_iff_eq,a,G0];constructor <;> intro h <;> grind)
def QT {b1 b2:Bool} {l1 l2:List UInt32} (b:Bn q b1 l1 b2 l2) (a:C=em [] (Re.ofRat q)):CF 54 [.agg (CP b1 l1 b2 l2)] (.agg (AY [] C)):=by
 refine AL Tryz.func54 fun E d=>?_
 refine⟨[((b1,l1),(b2,l2))],Cj,.inr ?_⟩;try conv=>cbv
 exact AN ⟨⟨rfl,CG,congrArg _ (by rw[a,E5,<-b.rp]),trivial⟩,trivial⟩
def Ko {x:Int} (d: -9223372036854775808<=x/\x<9223372036854775808) (b:C=em [] (Re.ofRat x)):CF 18 [AH x] (.agg (AY [] C)):=by
 refine AL Tryz.func18 fun E a=>?_
 obtain⟨h,i,f,g,FU⟩:=Ca (x:Rat);refine AB a (Ff d rfl FU) ?_;refine AB a (QT FU b) ?_;exact AN ⟨t3,trivial⟩
def Yr {n d:Int} (h: -9223372036854775808<=n/\n<9223372036854775808) (g: -9223372036854775808<=d/\d<9223372036854775808) (b:d≠0) (i:q=Rat.divInt n d) (f:C=em [] (Re.ofRat q)):CF 39 [AH n,AH d] (.agg (AY [] C)):=by
 refine AL Tryz.func39 fun E a=>?_
 obtain⟨m,p,j,l,EH⟩:=Ca q;refine AB a (UQ h g b i EH) ?_;refine AB a (QT EH f) ?_;exact AN ⟨t3,trivial⟩
end
section
variable {A A1 A2 C:LR} {L:List (el Ae)} {T T1 T2 o:List LR} {c:Bool} {i' k:Nat} {ns:List Nu} {q:Rat} {s xs:List Rat} {ts:AG}
def Wf {i:Nat} (h:xs[k]? =some q):Dv i k (xs.drop k)=((HK k i&&q !=0)||Dv i (k+1) (xs.drop (k+1))):=by
 have a:=EX h;rw[List.drop_eq_getElem_cons a,Dv];rw[List.getElem?_eq_getElem a] at h;rw[Option.some.inj h]
def tT {i:Nat} (h:k<xs.length) (hb:HK k i=false):Dv i k (xs.drop k)=Dv i (k+1) (xs.drop (k+1)):=by
 obtain⟨q,a⟩:=CE h;rw[Wf a,hb];rfl
def kB {i:Nat} (h:xs[k]? =some q):CV i 0 (xs.take (k+1))=CV i 0 (xs.take k)++(if HK k i=true then [] else [q]):=by
 have a:=EX h;rw[EM h,Te,Nat.zero_add,List.length_take,Nat.min_eq_left AA,CV,CV]
def j8 (i:Nat):∀(k:Nat) (l:List Rat),(CV i k l).length<=l.length
 | _,[]=>Nat.le_refl _
 | k,x::l=>by
  rw[CV];have:=j8 i (k+1) l
  split
  ·rw[List.length_cons];omega
  rw[List.length_cons,List.length_cons];omega
def Zz {i:Nat} {b a:Int} (d:b=((k/2^i:Nat):Int)) (f:a=b%2):(HK k i=true↔a=1)/\(HK k i=false↔a=0):=by
 unfold HK
 constructor
 ·rw[beq_iff_eq];omega
 rw[beq_eq_false_iff_ne];omega
def SI {n:Nat}:(Ah n).length<=2↔n<18446744073709551616:=by
 constructor
 ·intro h;have a:=Dj (Ah n);rw[Bk] at a;exact Nat.lt_of_lt_of_le a (Nat.pow_le_pow_right AD (by omega:32*(Ah n).length<=64))
 intro h;exact HS (k:=2) h
def KZ {b1 b2:Bool} {l1 l2:List UInt32} (h:Bn q b1 l1 b2 l2):C4 q↔l1.length<=2/\l2.length<=2:=by
 have a:=h.num.Bx;have b:=h.den.Bx;rw[a,b,SI,SI];unfold C4;rw[Int.natAbs_natCast]
def wh (h:Ef q=0):q=0:=by
 unfold Ef DI at h
 split at h
 ·omega
 split at h
 ·exact Rat.num_eq_zero.1 (by assumption)
 omega
def jX {p:Rat->Prop} (h:∀x∈xs.take k,p x) (d:xs[k]? =some q) (b:p q):∀x∈xs.take (k+1),p x:=by
 intro x a;rw[EM d] at a;rcases List.mem_append.1 a with a | a
 ·exact h x a
 rw[List.mem_singleton.1 a];exact b
def Y9 {i:Int} (I:A=BV xs) (P:AZ i i') (h6:i'<=60) (J:c=Dv i' 0 xs):CF 108 [AQ A,AH i] (.one (.bool c)):=by
 have ei:=P.eq;have N:A.length=xs.length:=by rw[I,List.length_map]
 refine AL Tryz.func108 fun E O=>?_
 refine BX [] [0,1,5] [] (fun vs M k=>∃(k':Nat) (j:Int),vs=[AQ A,AH i,AH j]/\(AZ j k'/\k'<=xs.length)/\Dv i' 0 xs=Dv i' k' (xs.drop k')/\k=xs.length-k') (xs.length-0) ⟨0,0,rfl,⟨BM 0,AA⟩,by rw[List.drop_zero],rfl⟩ ?_;rintro J0 h vs M Y ⟨k',j,rfl,⟨Q,U⟩,hinv,W⟩;have ej:=Q.eq;refine Af ?_;rintro n8 ⟨e8,f8⟩;refine Bi (fun X=>?_) fun X=>?_
 ·exact AO (by rw[J,hinv,(AA:k'=xs.length),List.drop_length];rfl)
 refine .inr ?_;refine AM ?_;intro H D;obtain⟨d14,l,z⟩:∃d:Nat,d=k'/2^i'/\H=d:=⟨_,rfl,shr_var (p:=k') (e:=i') D AA AA (by show i'<=64;omega)⟩
 refine AM ?_;intro Z F;have a:=Zz (k:=k') (i:=i') (by rw[z,l]) F;refine Cw (fun r=>?_) fun r=>?_
 ·intro g B;refine⟨xs.length-(k'+1),?_,?_⟩
  ·omega
  rw[h];refine⟨k'+1,g,rfl,⟨⟨AA⟩,AA⟩,?_,rfl⟩;rw[hinv,tT AA (a.2.2 AA)]
 refine BA k' fun a2 n=>?_
 try conv=>cbv
 obtain⟨w,m,b,_⟩:=MH I n;obtain⟨a1,f⟩:=xI (Ef w);refine AB O (QW m f) ?_;refine HY (fun t=>?_) fun t=>?_
 ·exact AO (by rw[J,hinv,Wf b,a.1.2 r,bne_iff_ne.2 (fun e=>t (by rw[f,e];rfl))];rfl)
 intro g B;refine⟨xs.length-(k'+1),?_,?_⟩
 ·omega
 rw[h];refine⟨k'+1,g,rfl,⟨⟨AA⟩,AA⟩,?_,rfl⟩;have G:w=0:=wh AA;rw[hinv,Wf b,G];simp
def ZH {i:Int} (Y:A=BV xs) (hi:AZ i i') (h6:i'<=60) (hl:xs.length<=1000000) (hC:C=BV (CV i' 0 xs)):CF 109 [AQ A,AH i] (AQ C):=by
 have ei:=hi.eq;have a2:A.length=xs.length:=by rw[Y,List.length_map]
 refine AL Tryz.func109 fun E hE=>?_
 refine BX [(5,AJ,true)] [0,1,5,6] [5] (fun vs X k=>∃(o:LR) (n k':Nat) (j:Int),vs=[AQ A,AH i,.one (.Aj AJ 5 0 0 n),AH j]/\X=[.arr 0 AJ o]/\(AZ j k'/\k'<=xs.length/\n=o.length)/\o=BV (CV i' 0 (xs.take k'))/\k=xs.length-k') (xs.length-0) ⟨[],0,0,0,rfl,rfl,⟨BM 0,AA,rfl⟩,rfl,rfl⟩ ?_;rintro J0 r vs X a8 ⟨o,n,k',j,rfl,rfl,⟨hj,a5,Z⟩,hinv,a6⟩;conv=>cbv
 have ej:=hj.eq;have a7:o.length<=xs.length:=by rw[hinv,List.length_map];have:=j8 i' 0 (xs.take k');rw[List.length_take] at this;omega
 rintro n9 ⟨e9,f9⟩;conv=>cbv
 refine Bi (fun O=>?_) fun O=>?_
 ·exact AN ⟨⟨rfl,.inl ⟨_,rfl,AA,congrArg _ (by rw[hC,Z,List.drop_zero,List.take_length,hinv,(AA:k'=xs.length),List.take_length])⟩,trivial⟩,trivial⟩
 refine .inr ?_;refine AM ?_;intro Q I;obtain⟨d15,t,G⟩:∃d:Nat,d=k'/2^i'/\Q=d:=⟨_,rfl,shr_var (p:=k') (e:=i') I AA AA (by show i'<=64;omega)⟩
 refine AM ?_;intro aa J;have b:=Zz (k:=k') (i:=i') (by rw[G,t]) J;intro U m;conv=>cbv
 refine .inr ?_;cases U <;> conv=>cbv
 ·have P:=CI m;refine AM ?_;intro h H;refine⟨xs.length-(k'+1),?_,?_⟩
  ·omega
  rw[r];obtain⟨qq,M⟩:=CE (l:=xs) (i:=k') AA;exact⟨o,n,k'+1,h,rfl,rfl,⟨⟨AA⟩,AA,Z⟩,by rw[kB M,if_pos (b.1.2 AA),List.append_nil];exact hinv,rfl⟩
 have P:=CL m
 obtain⟨F,a1,B,N⟩:∃q,Bn q (rp q).1.1 (rp q).1.2 (rp q).2.1 (rp q).2.2/\xs[k']? =some q/\A[k']? =some (rp q):=by
  obtain⟨q,hq⟩:=CE (l:=xs) (i:=k') AA;exact⟨q,F6 q,hq,by rw[Y,List.getElem?_map,hq];rfl⟩
 refine BA k' fun a D=>?_
 try conv=>cbv
 refine⟨[((a.1.1,a.1.2),(a.2.1,a.2.2))],Cj,.inr ?_⟩;try conv=>cbv
 refine .inl ⟨[((a.1.1,a.1.2),(a.2.1,a.2.2))],fun _=>⟨rfl,by (first | rfl | omega),rfl,Ck (o.length+1) 64⟩,?_⟩;intro (g:LR) W f;have w:g=(o:LR)++([((a.1.1,a.1.2),(a.2.1,a.2.2))]:LR):=f.1;have z:W=List.length (α:=(el AJ)) g:=f.2;refine AM ?_;intro h H;refine⟨xs.length-(k'+1),?_,?_⟩
 ·omega
 rw[r];have ex:a=rp F:=by have:=D.symm.trans N;exact Option.some.inj this
 refine⟨g,_,k'+1,h,rfl,rfl,⟨⟨AA⟩,AA,z⟩,?_,rfl⟩;rw[kB B,if_neg (by rw[b.2.2 AA];decide)];rw[w,hinv];show _=List.map rp _;rw[List.map_append];show _=BV _++[rp F];rw[<-ex]
def My:CF 40 [.agg (AY T1 A1),AH 0,.agg (AY T2 A2)] (.agg (AY T1 A1)):=by
 refine AL Tryz.func40 fun E a=>?_
 refine BG ?_;exact AN ⟨t3,trivial⟩
def mw:CF 40 [.agg (AY T1 A1),AH 6,.agg (AY T2 A2)] (.agg (AY T2 A2)):=by
 refine AL Tryz.func40 fun E a=>?_
 refine CN ?_;exact AN ⟨t3,trivial⟩
def x9 (h:∀x∈ts.take k,∀q∈x,C4 q) (d:ts[k]? =some s) (b:∀q∈s,C4 q):∀x∈ts.take (k+1),∀q∈x,C4 q:=by
 intro x a;rw[EM d] at a;rcases List.mem_append.1 a with a | a
 ·exact h x a
 rw[List.mem_singleton.1 a];exact b
def QJ (ts:AG) (xs:List Rat):Prop:=(∃q∈xs,¬C4 q)\/∃s∈ts,∃q∈s,¬C4 q
def mu (hT:T=ts.map BV) (hA:A=BV xs) (O:c=true↔QJ ts xs):CF 44 [.agg (AY T A)] (.one (.bool c)):=by
 have aG:A.length=xs.length:=by rw[hA,List.length_map]
 have aH:T.length=ts.length:=by rw[hT,List.length_map]
 refine AL Tryz.func44 fun E hE=>?_
 refine BX [] [1,2,3] [1] (fun vs n k=>∃(k':Nat) (j:Int),vs=[.one (.BU 1 0 0),.one (.bool false),AH j]/\n=[.var 0 [Ao T,AT A]]/\(AZ j k'/\k'<=xs.length)/\(∀q∈xs.take k',C4 q)/\k=xs.length-k') (xs.length-0) ⟨0,0,rfl,rfl,⟨BM 0,AA⟩,AS,rfl⟩ ?_;rintro J0 a2 vs n aP ⟨k',j,rfl,rfl,⟨hj,aI⟩,hinv,aJ⟩;have ej:=hj.eq;refine Af ?_;rintro aS ⟨aw,f10⟩;refine Dk (fun aa=>?_) fun aa=>?_
 ·refine .inr ?_;refine BA k' fun a w=>?_
  try conv=>cbv
  obtain⟨q1,a7,H,_⟩:=MH hA w;have f:Bn q1 a.1.1 a.1.2 a.2.1 a.2.2:=a7;intro ai B;have ax:=B.eq;have f21:=B.le;conv=>cbv
  have an:ai=((List.length a.1.2:Nat):Int):=B.eq;refine Eb (fun ab=>?_) fun ab=>?_
  ·exact AO (O.2 (.inl ⟨q1,List.mem_of_getElem? H,fun h=>by have:=(KZ f).1 h;omega⟩))
  refine BA k' fun X P=>?_
  try conv=>cbv
  have N:=Option.some.inj (P.symm.trans w);have au:List.length X.2.2=List.length a.2.2:=by rw[N]
  intro aj D;have ay:=D.eq;have f31:=D.le;conv=>cbv
  have ao:aj=((List.length X.2.2:Nat):Int):=D.eq;refine Eb (fun ad=>?_) fun ad=>?_
  ·exact AO (O.2 (.inl ⟨q1,List.mem_of_getElem? H,fun h=>by have:=(KZ f).1 h;omega⟩))
  intro aT aD;exact Bj a2 ⟨k'+1,_,rfl,rfl,⟨⟨AA⟩,AA⟩,jX hinv H ((KZ f).2 ⟨AA,AA⟩),rfl⟩
 refine BX [] [1,2,4] [1] (fun vs n k=>∃(m':Nat) (m:Int),vs=[.one (.BU 1 0 0),.one (.bool false),AH m]/\n=[.var 0 [Ao T,AT A]]/\(AZ m m'/\m'<=ts.length)/\(∀s∈ts.take m',∀q∈s,C4 q)/\k=ts.length-m') (ts.length-0) ⟨0,0,rfl,rfl,⟨BM 0,AA⟩,AS,rfl⟩ ?_;rintro J1 a5 vs n aQ ⟨m',m,rfl,rfl,⟨hm,aM⟩,r,aK⟩;have em:=hm.eq;refine Af ?_;rintro aU ⟨az,f37⟩;refine Bi (fun ae=>?_) fun ae=>?_
 ·exact AO (by rw[Bool.eq_false_iff];intro h;rcases O.1 h with⟨q,hq,hn⟩ |⟨s,hs,q,hq,hn⟩;exact hn (hinv q (by rw[List.take_of_length_le AA];exact hq));exact hn (r s (by rw[List.take_of_length_le AA];exact hs) q hq))
 refine .inr ?_
 obtain⟨s2,t,J⟩:∃s,T[m']? =some (BV s)/\ts[m']? =some s:=by
  obtain⟨s,hs⟩:=CE (l:=ts) (i:=m') AA;exact⟨s,by rw[hT,List.getElem?_map,hs];rfl,hs⟩
 refine BX [] [1,2,4,5] [1] (fun vs n k=>∃(z:Nat) (p:Int),vs=[.one (.BU 1 0 0),.one (.bool false),AH m,AH p]/\n=[.var 0 [Ao T,AT A]]/\(AZ p z/\z<=s2.length)/\(∀q∈s2.take z,C4 q)/\k=s2.length-z) (s2.length-0) ⟨0,0,rfl,rfl,⟨BM 0,AA⟩,AS,rfl⟩ ?_;rintro J2 a6 vs n aR ⟨z,p,rfl,rfl,⟨hp,aN⟩,d,aL⟩;conv=>cbv
 have ep:=hp.eq;refine BA m' fun Y Q=>?_
 try conv=>cbv
 have a1:Y=BV s2:=Option.some.inj (Q.symm.trans t);have aO:Y.length=s2.length:=by rw[a1,List.length_map]
 rintro aW ⟨aA,f47⟩;conv=>cbv
 refine Bi (fun af=>?_) fun af=>?_
 ·intro aV aE;exact Bj a5 ⟨m'+1,_,rfl,rfl,⟨⟨AA⟩,AA⟩,x9 r J (by rw[(AA:z=s2.length),List.take_length] at d;exact d),rfl⟩
 refine .inr ?_;refine BA m' fun Z U=>?_
 try conv=>cbv
 have M:Z=BV s2:=Option.some.inj (U.symm.trans t);have av:Z.length=s2.length:=by rw[M,List.length_map]
 refine BA z fun b W=>?_
 try conv=>cbv
 obtain⟨q3,a8,I,_⟩:=MH M W;have g:Bn q3 b.1.1 b.1.2 b.2.1 b.2.2:=a8;intro ak F;have aB:=F.eq;have f62:=F.le;conv=>cbv
 have aq:ak=((List.length b.1.2:Nat):Int):=F.eq;refine Eb (fun ag=>?_) fun ag=>?_
 ·exact AO (O.2 (.inr ⟨s2,List.mem_of_getElem? J,q3,List.mem_of_getElem? I,fun h=>by have:=(KZ g).1 h;omega⟩))
 intro al G;have aC:=G.eq;have f68:=G.le;have ar:al=((List.length b.2.2:Nat):Int):=G.eq;refine Eb (fun ah=>?_) fun ah=>?_
 ·exact AO (O.2 (.inr ⟨s2,List.mem_of_getElem? J,q3,List.mem_of_getElem? I,fun h=>by have:=(KZ g).1 h;omega⟩))
 intro aX aF;exact Bj a6 ⟨z+1,_,rfl,rfl,⟨⟨AA⟩,AA⟩,jX d I ((KZ g).2 ⟨AA,AA⟩),rfl⟩
def mG (hT:T=ts.map BV) (hA:A=BV xs) (h1:∀q∈xs,C4 q) (h2:∀s∈ts,∀q∈s,C4 q):CF 51 [.agg (AY T A)] (.one (.bool true)):=by
 have aL:A.length=xs.length:=by rw[hA,List.length_map]
 have aM:T.length=ts.length:=by rw[hT,List.length_map]
 refine AL Tryz.func51 fun E hE=>?_
 refine BX [] [1,2,3] [1] (fun vs d k=>∃(k':Nat) (j:Int),vs=[.one (.BU 1 0 0),.one (.bool false),AH j]/\d=[.var 0 [Ao T,AT A]]/\(AZ j k'/\k'<=xs.length)/\k=xs.length-k') (xs.length-0) ⟨0,0,rfl,rfl,⟨BM 0,AA⟩,rfl⟩ ?_;rintro J0 Z vs d aU ⟨k',j,rfl,rfl,⟨hj,aN⟩,aO⟩;have ej:=hj.eq;refine Af ?_;rintro n9 ⟨e9,f9⟩;refine Dk (fun ab=>?_) fun ab=>?_
 ·refine .inr ?_;refine BA k' fun a h=>?_
  try conv=>cbv
  obtain⟨q1,a7,a5,_⟩:=MH hA h;have M:Bn q1 a.1.1 a.1.2 a.2.1 a.2.2:=a7;have ay:=(KZ M).1 (h1 q1 (List.mem_of_getElem? a5));intro aj z;have aC:=z.eq;have f20:=z.le;conv=>cbv
  have aq:aj=((List.length a.1.2:Nat):Int):=z.eq;refine Eb (fun ad=>?_) fun ad=>?_
  ·exfalso;omega
  refine BA k' fun W O=>?_
  try conv=>cbv
  have I:=Option.some.inj (O.symm.trans h);have aw:List.length W.2.2=List.length a.2.2:=by rw[I]
  intro ak B;have aD:=B.eq;have f30:=B.le;conv=>cbv
  have ar:ak=((List.length W.2.2:Nat):Int):=B.eq;refine Eb (fun ae=>?_) fun ae=>?_
  ·exfalso;omega
  intro aX aI;exact Bj Z ⟨k'+1,_,rfl,rfl,⟨⟨AA⟩,AA⟩,rfl⟩
 refine BX [] [1,2,4] [1] (fun vs d k=>∃(m':Nat) (m:Int),vs=[.one (.BU 1 0 0),.one (.bool false),AH m]/\d=[.var 0 [Ao T,AT A]]/\(AZ m m'/\m'<=ts.length)/\k=ts.length-m') (ts.length-0) ⟨0,0,rfl,rfl,⟨BM 0,AA⟩,rfl⟩ ?_;rintro J1 a1 vs d aV ⟨m',m,rfl,rfl,⟨hm,aR⟩,aP⟩;have em:=hm.eq;refine Af ?_;rintro aY ⟨aE,f36⟩;refine Bi (fun af=>?_) fun af=>?_
 ·exact AN ⟨t2,trivial⟩
 refine .inr ?_
 obtain⟨s2,g,aa⟩:∃s,T[m']? =some (BV s)/\ts[m']? =some s:=by
  obtain⟨s,hs⟩:=CE (l:=ts) (i:=m') AA;exact⟨s,by rw[hT,List.getElem?_map,hs];rfl,hs⟩
 refine BX [] [1,2,4,5] [1] (fun vs d k=>∃(t:Nat) (p:Int),vs=[.one (.BU 1 0 0),.one (.bool false),AH m,AH p]/\d=[.var 0 [Ao T,AT A]]/\(AZ p t/\t<=s2.length)/\k=s2.length-t) (s2.length-0) ⟨0,0,rfl,rfl,⟨BM 0,AA⟩,rfl⟩ ?_;rintro J2 a2 vs d aW ⟨t,p,rfl,rfl,⟨hp,aS⟩,aQ⟩;conv=>cbv
 have ep:=hp.eq;refine BA m' fun X P=>?_
 try conv=>cbv
 have Y:X=BV s2:=Option.some.inj (P.symm.trans g);have aT:X.length=s2.length:=by rw[Y,List.length_map]
 rintro b0 ⟨aF,f46⟩;conv=>cbv
 refine Bi (fun ag=>?_) fun ag=>?_
 ·intro aZ aJ;exact Bj a1 ⟨m'+1,_,rfl,rfl,⟨⟨AA⟩,AA⟩,rfl⟩
 refine .inr ?_;refine BA m' fun G n=>?_
 try conv=>cbv
 have w:G=BV s2:=Option.some.inj (n.symm.trans g);have aA:G.length=s2.length:=by rw[w,List.length_map]
 refine BA t fun b r=>?_
 try conv=>cbv
 obtain⟨q3,a8,a6,_⟩:=MH w r;have N:Bn q3 b.1.1 b.1.2 b.2.1 b.2.2:=a8;have az:=(KZ N).1 (h2 s2 (List.mem_of_getElem? aa) q3 (List.mem_of_getElem? a6));intro al D;have aG:=D.eq;have f60:=D.le;conv=>cbv
 have au:al=((List.length b.1.2:Nat):Int):=D.eq;refine Eb (fun ah=>?_) fun ah=>?_
 ·exfalso;omega
 refine BA m' fun ao Q=>?_
 try conv=>cbv
 have f:=Option.some.inj (Q.symm.trans n);have aB:ao.length=s2.length:=by rw[f,w,List.length_map]
 refine BA t fun H U=>?_
 try conv=>cbv
 have J:=Option.some.inj ((show G[t]? =some H by rw[<-f];exact U).symm.trans r);have ax:List.length H.2.2=List.length b.2.2:=by rw[J]
 intro an F;have aH:=F.eq;have f73:=F.le;conv=>cbv
 have av:an=((List.length H.2.2:Nat):Int):=F.eq;refine Eb (fun ai=>?_) fun ai=>?_
 ·exfalso;omega
 intro b1 aK;exact Bj a2 ⟨t+1,_,rfl,rfl,⟨⟨AA⟩,AA⟩,rfl⟩
def lk (i:L=ns.map nm) (m:∀n∈ns,(∀q∈co n.1 n.2,C4 q)/\∀s∈n.1,∀q∈s,C4 q):CF 14 [.one (.sl Ae L)] (.one (.bool true)):=by
 have r:L.length=ns.length:=by rw[i,List.length_map]
 refine AL Tryz.func14 fun E p=>?_
 refine BX [] [0,3] [] (fun vs l k=>∃(k':Nat) (j:Int),vs=[.one (.sl Ae L),AH j]/\(AZ j k'/\k'<=L.length)/\k=L.length-k') (L.length-0) ⟨0,0,rfl,⟨BM 0,AA⟩,rfl⟩ ?_;rintro H d vs l F ⟨k',j,rfl,⟨t,w⟩,z⟩;have J:=t.eq;refine Af ?_;rintro N ⟨I,f6⟩;refine Bi (fun D=>?_) fun D=>?_
 ·exact AN ⟨t2,trivial⟩
 refine .inr ?_;refine BA k' fun G b=>?_
 try conv=>cbv
 obtain⟨u,y,g,h,f⟩:=KJ i b;have a:=m _ (List.mem_of_getElem? f);refine AB p (mG (ts:=u.reverse) (xs:=co u y) g h a.1 (fun s B=>a.2 s (List.mem_reverse.1 B))) ?_;refine BG ?_;intro O M;exact Bj d ⟨k'+1,_,rfl,⟨⟨AA⟩,AA⟩,rfl⟩
def ll {i:Int} {n:Nu} (z:L=ns.map nm) (h:ns≠[]) (I:AZ i i') (J:n=E6 ns i') (H:T=tw n.1) (G:A=em n.1 n.2):CF 15 [.one (.sl Ae L),AH i] (.agg (AY T A)):=by
 have F:=I.eq;have g:L.length=ns.length:=by rw[z,List.length_map]
 have B:0<ns.length:=List.length_pos_iff.2 h;refine AL Tryz.func15 fun E P=>?_
 rintro Q ⟨O,f6⟩;refine BY (fun D=>?_) fun D=>?_
 ·exact absurd D AA
 refine Dk (fun b=>?_) fun b=>?_
 ·exact absurd b AA
 rintro M ⟨d,f16⟩ r f;have w:r=((i'%L.length:Nat):Int):=by rw[f,F,d];exact (Int.natCast_emod _ _).symm
 obtain⟨N,a⟩:=CE (l:=L) (i:=(i'%L.length)) (by exact Nat.mod_lt _ AA);refine CJ a ?_;obtain⟨u,y,m,p,j⟩:=KJ z a;have t:n=(u,y):=by rw[J];unfold E6;rw[<-g,List.getD_eq_getElem?_getD,j];rfl
 exact Ed (by rw[H,t];exact m.symm) (by rw[G,t];exact p.symm)
def si {i:Nat} (b:∀m,o[m]? =(ts[m]?).map fun s=>BV (if i<m/\m<k then CV i 0 s else s)) (a:ts[k]? =some s) (d:i<k) {w:LR} (hw:w=BV (CV i 0 s)):
  ∀m,(o.set k w)[m]? =(ts[m]?).map fun s=>BV (if i<m/\m<k+1 then CV i 0 s else s):=by
 intro m
 by_cases e:k=m
 ·subst e;have f:=EX a
  have g:k<o.length:=by
   have:=b k;rw[a] at this;exact EX this
  rw[List.getElem?_set_self g,a,Option.map_some,if_pos ⟨d,AA⟩,hw]
 rw[List.getElem?_set_ne e,b m];have:(i<m/\m<k+1)↔(i<m/\m<k):=AA
 simp only[this]
def sf {i:Nat} (d:i<ts.length) (b:∀m,o[m]? =(ts[m]?).map fun s=>BV (if i<m/\m<ts.length then CV i 0 s else s)):o.take i++o.drop (i+1)=(ts.take i++(ts.drop (i+1)).map (CV i 0)).map BV:=by
 have e:o=(ts.take (i+1)++(ts.drop (i+1)).map (CV i 0)).map BV:=by
  apply List.ext_getElem?;intro m;rw[b m,List.getElem?_map,List.getElem?_append,List.length_take,Nat.min_eq_left AA]
  by_cases hm:m<i+1
  ·rw[if_pos hm,List.getElem?_take,if_pos hm];cases ts[m]? with
   | none=>rfl
   | some s=>simp only[Option.map_some];rw[if_neg AA]
  rw[if_neg hm,List.getElem?_map,List.getElem?_drop,(AA:i+1+(m-(i+1))=m)]
  by_cases a:m<ts.length
  ·rw[List.getElem?_eq_getElem a];simp only[Option.map_some];rw[if_pos ⟨AA,a⟩]
  rw[List.getElem?_eq_none AA];rfl
 have hlen:(ts.take (i+1)).length=i+1:=by rw[List.length_take];omega
 rw[e,List.map_append,List.map_append,List.take_append_of_le_length (by rw[List.length_map,hlen];omega),List.drop_left' (by rw[List.length_map,hlen]),<-List.map_take,List.take_take,Nat.min_eq_left AA]
def ZW {i:Nat} {f:List Rat->Bool} (a:ts[k]? =some s) (b:i<k):((ts.drop (i+1)).take (k+1-(i+1))).any f=(((ts.drop (i+1)).take (k-(i+1))).any f||f s):=by
 rw[(AA:k+1-(i+1)=k-(i+1)+1),EM (l:=ts.drop (i+1)) (i:=k-(i+1)) (x:=s) (by rw[List.getElem?_drop,(AA:i+1+(k-(i+1))=k)];exact a)];simp
def Yy {u Y:AG} {x:Re} (h:BE u) (hx:In u x) (hl:u.length<=8) (hw:JJ u.length (u.reverse,co u x)=(Y.reverse,co Y x)) (hT:T=tw u) (hA:A=em u x) (aP:T2=tw Y) (hC:C=em Y x):CF 45 [.agg (AY T A)] (.agg (AY T2 C)):=by
 have bC:T.length=u.length:=by rw[hT,Cq]
 refine AL Tryz.func45 fun E hE=>?_
 refine⟨[],fun _=>⟨rfl,AD,rfl,trivial⟩,.inl ?_⟩;try conv=>cbv
 refine .inl ⟨T,fun _=>⟨rfl,by (first | rfl | omega),rfl,Ck (0+T.length) 24⟩,?_⟩;intro (ah:List (el (.sl AJ))) b1 W;have N:ah=([]:List (el (.sl AJ)))++(T:List (el (.sl AJ))):=W.1;have av:b1=List.length (α:=(el (.sl AJ))) ah:=W.2;conv=>cbv
 refine g2 rfl ?_;intro bQ aI;have bp:=aI.eq;conv=>cbv
 have aU:List.length ah=List.length T:=by rw[N];rfl
 refine AM ?_;intro b2 bt;refine BX [] [2,3,4] [2,3,8] (fun vs f k=>∃(w:AG) (O:List LR) (B:LR) (n j:Nat) (i:Int),vs=[.one (.BU 2 0 0),.one (.BU 3 0 0),AH i]/\f=[.var 0 [.nil,.nil],.var 0 [.Aj (.sl AJ) 8 0 0 n,AT B],.arr 0 (.sl AJ) O]/\(AZ (i+1) j/\n=O.length/\O=tw w/\B=em w x)/\(BE w/\In w x/\j<=w.length/\w.length<=8)/\JJ j (w.reverse,co w x)=(Y.reverse,co Y x)/\k=j) u.length ⟨u,_,_,_,u.length,b2,rfl,rfl,⟨⟨AA⟩,av,by rw[N,hT];rfl,hA⟩,⟨h,hx,Nat.le_refl _,hl⟩,hw,rfl⟩ ?_;rintro J0 aN vs f bN ⟨w,O,B,n,j,i,rfl,rfl,⟨hi,hn,hO,hB⟩,⟨af,ag,bF,D⟩,a,bG⟩;conv=>cbv
 have ei:=hi.eq;obtain⟨i',bD⟩:=xN (j-1);refine M8 ?_ ?_ <;> intro bK <;> conv=>cbv
 ·exact AN ⟨⟨rfl,.inl ⟨_,rfl,AA,congrArg _ (by rw[aP,hn,List.drop_zero,List.take_length,hO];have:=a;rw[(AA:j=0),JJ] at this;rw[tw,tw,(Prod.mk.inj this).1])⟩,congrArg _ (by rw[hC,hB];have:=a;rw[(AA:j=0),JJ] at this;rw[em,em,(Prod.mk.inj this).2]),trivial⟩,trivial⟩
 obtain⟨K1,a5⟩:∃J:List AV->List BD->Prop,J=fun vs f=>∃(p:AG) (O2:List LR) (B2:LR) (n2:Nat),vs=[.one (.BU 2 0 0),.one (.BU 3 0 0),AH i]/\f=[.var 0 [.nil,.nil],.var 0 [.Aj (.sl AJ) 8 0 0 n2,AT B2],.arr 0 (.sl AJ) O2]/\
  (n2=O2.length/\O2=tw p/\B2=em p x)/\(BE p/\In p x/\i'<=p.length/\p.length<=8)/\JJ i' (p.reverse,co p x)=(Y.reverse,co Y x):=⟨_,rfl⟩
 refine .inl ⟨[2,3,4],[2,3,8],K1,?_,?_⟩
 ·intro vs f hj;rw[a5] at hj;obtain⟨p,O2,B2,n2,rfl,rfl,⟨aV,aO,aM⟩,⟨aA,aB,ar,az⟩,ay⟩:=hj;refine AM ?_;intro b3 bu;exact Bj aN ⟨p,O2,B2,n2,i',b3,rfl,rfl,⟨⟨AA⟩,aV,aO,aM⟩,⟨aA,aB,ar,az⟩,ay,rfl⟩
 try conv=>cbv
 have aS:j=i'+1:=AA
 subst aS;have t:AZ i i':=⟨AA⟩;obtain⟨ts,d⟩:∃z:AG,z=w.reverse:=⟨_,rfl⟩
 have a6:O=ts.map BV:=by rw[hO,d];rfl
 have bJ:ts.length=w.length:=by rw[d,List.length_reverse]
 have bB:O.length=ts.length:=by rw[a6,List.length_map]
 have aQ:(co w x).length<=1000000:=by rw[Dp ag];exact Nat.le_trans (DF D) AD
 obtain⟨aF,I⟩:=xB (Dv i' 0 (co w x));refine AB hE (Y9 (xs:=co w x) hB t AA I) ?_;intro b4 bw;refine BX [] [2,3,4,5,6] [2,3,8] (fun vs f k=>∃(b:Bool) (k':Nat) (j:Int),vs=[.one (.BU 2 0 0),.one (.BU 3 0 0),AH i,.one (.bool b),AH j]/\f=[.var 0 [.nil,.nil],.var 0 [.Aj (.sl AJ) 8 0 0 n,AT B],.arr 0 (.sl AJ) O]/\(AZ j k'/\i'<k'/\k'<=ts.length)/\b=(Dv i' 0 (co w x)||((ts.drop (i'+1)).take (k'-(i'+1))).any (Dv i' 0))/\k=ts.length-k') (ts.length-(i'+1)) ⟨aF,i'+1,b4,rfl,rfl,⟨⟨AA⟩,AA,AA⟩,by rw[I,Nat.sub_self,List.take_zero];simp,rfl⟩ ?_;rintro J1 an vs f bO ⟨b,k',j,rfl,rfl,⟨hj,ao,bE⟩,hb,bH⟩;conv=>cbv
 have ej:=hj.eq;intro bR aJ;have bq:=aJ.eq;conv=>cbv
 refine RQ ?_ ?_ <;> intro bL <;> conv=>cbv
 ·refine .inr ?_;cases b <;> conv=>cbv
  ·refine AM ?_;intro aZ bd;obtain⟨b6,Q⟩:=CE (l:=O) (i:=aZ) AA;refine⟨b6,fun _=>Q,?_⟩;try conv=>cbv
   obtain⟨s4,aG,ab⟩:=MG (i:=k') a6 (by rw[<-Q];congr 1;omega);obtain⟨bo,M⟩:=xB (Dv i' 0 s4);refine AB hE (Y9 aG t AA M) ?_;intro aj aK;exact Bj an ⟨_,k'+1,aj,rfl,rfl,⟨⟨AA⟩,AA,AA⟩,by rw[ZW ab ao,<-Bool.or_assoc,<-hb,M];simp,rfl⟩
  refine AM ?_;intro aj aK;refine⟨ts.length-(k'+1),?_,?_⟩
  ·omega
  rw[an];obtain⟨s4,ab⟩:=CE (l:=ts) (i:=k') AA;exact⟨_,k'+1,aj,rfl,rfl,⟨⟨AA⟩,AA,AA⟩,by rw[ZW ab ao,<-Bool.or_assoc,<-hb];simp,rfl⟩
 cases b <;> conv=>cbv
 ·obtain⟨al,H⟩:=xR (BV (CV i' 0 (co w x)));refine AB hE (ZH (xs:=co w x) hB t AA aQ H) ?_;intro Eu bx;refine .inr ?_;obtain⟨J2,a2⟩:=xJ fun vs f k=>∃(o:List LR) (k2:Nat) (j2:Int),vs=[.one (.BU 2 0 0),.one (.BU 3 0 0),AH i,AH j2]/\f=[.var 0 [.nil,.nil],.var 0 [.Aj (.sl AJ) 8 0 0 n,AT al],.arr 0 (.sl AJ) o]/\(AZ j2 k2/\i'<k2/\k2<=ts.length/\o.length=ts.length)/\(∀m,o[m]? =(ts[m]?).map fun s=>BV (if i'<m/\m<k2 then CV i' 0 s else s))/\k=ts.length-k2
  refine⟨[],[2,3,4,7],[2,3,8],J2,⟨ts.length-(i'+1),by rw[a2];exact⟨O,i'+1,Eu,rfl,rfl,⟨⟨AA⟩,AA,AA,AA⟩,fun m=>by
   have aW:¬(i'<m/\m<i'+1):=AA
   simp only[aW,if_false];rw[a6,List.getElem?_map],rfl⟩⟩,?_⟩
  intro vs f bP hj;rw[a2] at hj;obtain⟨o,k2,j2,rfl,rfl,⟨aR,aq,bh,aX⟩,hq,bI⟩:=hj;conv=>cbv
  have bs:=aR.eq;intro bS aL;have br:=aL.eq;conv=>cbv
  refine RQ ?_ ?_ <;> intro bM <;> conv=>cbv
  ·refine .inr ?_;refine AM ?_;intro b0 bf;obtain⟨ak,U⟩:=CE (l:=o) (i:=b0) AA;refine⟨ak,fun _=>U,?_⟩;try conv=>cbv
   obtain⟨s7,ad⟩:=CE (l:=ts) (i:=k2) AA;have aY:o[k2]? =some ak:=by rw[<-U];congr 1;omega
   have aH:ak=BV s7:=by have r:=hq k2;rw[ad,aY,Option.map_some,if_neg AA] at r;exact Option.some.inj r
   have ax:s7.length<=1000000:=by have r:=XP af (List.mem_reverse.1 (d ▸ List.mem_of_getElem? ad));have h2:2^w.length<=2^8:=DF D;omega
   obtain⟨aE,P⟩:=xR (BV (CV i' 0 s7));refine AB hE (ZH aH t AA ax P) ?_;intro aC bg;refine⟨aE,fun _=>⟨by show _<List.length (α:=(el (.sl AJ))) o;(first | omega | (simp;omega)),DB⟩,?_⟩;intro (ai:List (el (.sl AJ))) (g:ai=List.set (α:=(el (.sl AJ))) o aC aE);have b7:ai.length=o.length:=by rw[g,List.length_set]
   refine AM ?_;intro b5 bz;exact Bj a2 ⟨ai,k2+1,b5,rfl,rfl,⟨⟨AA⟩,AA,AA,by rw[g,List.length_set];exact aX⟩,by rw[g,(AA:aC=k2)];exact si hq ad aq P,rfl⟩
  refine⟨fun _=>⟨AA,AA,AA⟩,?_⟩;refine AM ?_;rintro bm b9 bU Z ⟨bj,bb⟩ bT bA bl bn ⟨b8,ba⟩ G a1 ⟨bk,bc⟩;refine .inl ⟨((o).drop G).take a1,fun _=>⟨AA,AA,⟨_,rfl,AA,rfl⟩,by show (Z+(((o).drop G).take a1).length)*24<=140737488355328;(try simp only[List.length_take,List.length_drop]);omega⟩,?_⟩;intro (F:List (el (.sl AJ))) aD X;have au:F=(List.take Z o:List (el (.sl AJ)))++(((o).drop G).take a1:List (el (.sl AJ))):=X.1;have aw:aD=List.length (α:=(el (.sl AJ))) F:=X.2;conv=>cbv
  refine g2 rfl ?_;rw[a5];have a8:k'=ts.length:=AA
  have a7:¬(Dv i' 0 (co w x)||(ts.drop (i'+1)).any (Dv i' 0))=true:=by
   have r:=hb;rw[a8,List.take_of_length_le (by rw[List.length_drop];omega)] at r;rw[<-r];exact Bool.false_ne_true
  obtain⟨w1,e1,ae,aT⟩:=jf af ag (by omega:i'<w.length);have e2:=e1;unfold N9 at e2;rw[<-d,if_neg a7] at e2;have e3:=Prod.mk.inj e2
  have aa:F=o.take i'++o.drop (i'+1):=by
   rw[au,(AA:Z=i'),(AA:G=i'+1),List.take_of_length_le (l:=o.drop (i'+1)) (by rw[List.length_drop];omega)]
  rw[(AA:k2=ts.length)] at hq;refine⟨w1,F,al,aD,rfl,rfl,⟨aw,?_,?_⟩,⟨ae.red,ae.mem,aT,Nat.le_trans ae.len D⟩,by rw[JJ,e1] at a;exact a⟩
  ·rw[aa,sf AA hq,tw,<-d] at*;rw[e3.1]
  rw[H,em,<-e3.2]
 rw[a5];have a8:k'=ts.length:=AA
 have a7:(Dv i' 0 (co w x)||(ts.drop (i'+1)).any (Dv i' 0))=true:=by
  have r:=hb;rw[a8,List.take_of_length_le (by rw[List.length_drop];omega)] at r;exact r.symm
 have e1:N9 i' (w.reverse,co w x)=(w.reverse,co w x):=by
  unfold N9;rw[<-d,if_pos a7]
 exact⟨w,O,B,n,rfl,rfl,⟨hn,hO,hB⟩,⟨af,ag,AA,D⟩,by rw[JJ,e1] at a;exact a⟩
end
section
def fv {o:el C2} {n d:Int} (a:n=Mq o.2.2.2.1) (b:d=((o.2.2.2.2.toNat%8+1:Nat):Int)):Ig o=Rat.divInt n d:=by subst a b;rfl
def Pm {st:List Nu×Nat} {o:el C2} (h:st.1=[]\/o.1.toNat%6=0):Ee st o=(([],Re.ofRat (Ig o)),st.2):=by unfold Ee;rw[if_pos h]
def La {st:List Nu×Nat} {o:el C2} (a:st.1≠[]) (b:o.1.toNat%6≠0):Ee st o=Fk (o.1.toNat%6) (E6 st.1 o.2.1.toNat) (E6 st.1 o.2.2.1.toNat) st.2:=by
 unfold Ee;rw[if_neg (fun h=>h.elim a b)]
def tu (a b:Nu) (r:Nat):Fk 1 a b r=((Bz a.1 b.1,a.2+b.2),r):=by unfold Fk;rw[if_pos rfl]
def uD (a b:Nu) (r:Nat):Fk 2 a b r=((Bz a.1 b.1,a.2-b.2),r):=by unfold Fk;rw[if_neg AD,if_pos rfl]
def uC (a b:Nu) (r:Nat):Fk 3 a b r=((Bz a.1 b.1,a.2*b.2),r):=by unfold Fk;rw[if_neg AD,if_neg AD,if_pos rfl]
def uA {a b:Nu} (r:Nat) (h:b.2=0):Fk 4 a b r=(a,r):=by unfold Fk;rw[if_neg AD,if_neg AD,if_neg AD,if_pos rfl,if_pos h]
def tz {a b:Nu} (r:Nat) (h:b.2≠0):Fk 4 a b r=((Bz a.1 b.1,a.2*Bl b.2),r):=by unfold Fk;rw[if_neg AD,if_neg AD,if_neg AD,if_pos rfl,if_neg h]
def fF (a b:Nu) {r:Nat} (h:r<3):Fk 5 a b r=((Bb a.1 (EG a.2),Re.sqrt (EG a.2)),r+1):=by unfold Fk;rw[if_neg AD,if_neg AD,if_neg AD,if_neg AD,if_pos h]
def fE (a b:Nu) {r:Nat} (h:¬r<3):Fk 5 a b r=(a,r):=by unfold Fk;rw[if_neg AD,if_neg AD,if_neg AD,if_neg AD,if_neg h]
def get_eq {ns:List Nu} {i j:Nat} {n:Nu} (h:ns[j]? =some n) (a:j=i%ns.length):E6 ns i=n:=by
 unfold E6;rw[List.getD_eq_getElem?_getD,<-a,h];rfl
def q7:∀h,h<=3->II h Rm Rm<=60000000000000
 |0,_|1,_|2,_|3,_=>by decide +kernel
 | _+4,h=>absurd h AA
def q8:∀h,h<=3->II h 256 512<=Rm
 |0,_|1,_|2,_|3,_=>by decide +kernel
 | _+4,h=>absurd h AA
section
variable {V:List Re} {ns:List Nu}
def DA.tb {n:Nu} (h:DA V n) (hV:V.length<=3):TB 256 n.1:=(PN.LD (ns:=[n]) hV (fun m hm=>by rw[List.mem_singleton.1 hm];exact h)).tb (PN.self (List.mem_singleton.2 rfl))
def DA.inv {n:Nu} (h:DA V n) (hV:V.length<=3) (a:n.2≠0):El n.1 Rm (Bl n.2):=by
 have b:=Nat.le_trans h.len hV;have ht:BT 256 n.1:=⟨h.red,h.tb hV,AD,AA⟩;exact ((h.el hV).inv ht (R6 h.red h.mem a) (HQ a)).mono (q8 _ b)
def DA.abs {n:Nu} (h:DA V n):DA V (n.1,EG n.2):=by
 refine⟨h.red,cg h.mem,h.BZ,h.KV,fun q a=>?_⟩;have a:q∈co n.1 (EG n.2):=a;unfold EG at a
 split at a
 ·rw[M6 h.red h.mem] at a;obtain⟨p,b,rfl⟩:=List.mem_map.1 a;have:=h.cos p b;exact⟨by show (-p.num).natAbs<_;rw[Int.natAbs_neg];exact this.1,this.2⟩
 exact h.cos q a
def gL {n:Nu} (h:DA V n) (hV:V.length<=2) (g:0<=n.2) {S:Nat} (i:Rm<=S) (j:S<=Sm:=by first|omega|decide):EA (Tf fun u=>u<:+Bb n.1 n.2) Rm Cm S/\Tf (fun u=>u<:+Bb n.1 n.2) n.1/\Tf (fun u=>u<:+Bb n.1 n.2) (Bb n.1 n.2):=by
 have l:=KW h.red h.mem g;have m:=h.len
 have b:TB 256 (Bb n.1 n.2):=by
  by_cases f:Sq n.1 n.2
  ·rw[FF f];exact h.tb AA
  rw[Ei f];intro r a;rcases List.mem_cons.1 a with rfl | a
  ·refine (Oi h.cos).mono ?_;rw[Dp h.mem];have:2^n.1.length<=2^2:=DF;omega
  exact h.tb AA r a
 have I:C8 (fun u=>u<:+Bb n.1 n.2) 256:=⟨fun {u} hu=>XY hu l,fun {u} hu=>fun r a=>b r (hu.subset a),fun {r u} hu=>(List.suffix_cons r u).trans hu⟩;refine⟨cB I (fun {u} hu=>?_) i j,Tf.of I (Qi _ _),Tf.of I (List.suffix_refl _)⟩
 have:=hu.len I (V:=n.2::V) (fun {u} hu v d=>by
  rcases jv h.mem v (jw hu v d) with rfl | d
  ·exact List.mem_cons_self
  exact List.mem_cons_of_mem _ (h.BZ v d))
 rw[List.length_cons] at this;omega
def pT (hV:V.length<=3) (d:∀n∈ns,DA V n) {a b:Nu} (ha:a∈ns) (hb:b∈ns) {r:Nat}:∃(T A i h:_) (e:Int),CF 31 [.agg [Ao (tw a.1),AT (em a.1 a.2)],.agg [Ao (tw b.1),AT (em b.1 b.2)]] (BK (AY T A) e)/\
  CF 40 [.agg [Ao T,AT A],AH e,.agg [Ao (tw a.1),AT (em a.1 a.2)]] (.agg [Ao i,AT h])/\i=tw (Fk 4 a b r).1.1/\h=em (Fk 4 a b r).1.1 (Fk 4 a b r).1.2/\(Fk 4 a b r).2=r:=by
 have G:=IV hV d (Nat.le_refl Rm);have j:=((d a ha).el hV).mono (by decide:512<=Rm);have l:=((d b hb).el hV).mono (by decide:512<=Rm)
 by_cases f:b.2=0
 ·rw[uA r f];exact⟨_,_,_,_,_,mJ G (GK hV d ha) (GK hV d hb) rfl rfl rfl rfl j l f,mw,rfl,rfl,rfl⟩
 rw[tz r f];have g:=Nat.le_trans (d b hb).len hV;exact⟨_,_,_,_,_,Yp G (GK hV d ha) (GK hV d hb) rfl rfl rfl rfl j l (R6 (d b hb).red (d b hb).mem f) (HQ f) ((d b hb).inv hV f) (q7 _ g) rfl rfl,My,rfl,rfl,rfl⟩
end
def rh (x:Nu):Hj [] x=x:=by unfold Hj;rw[if_neg (fun h=>h.1 rfl)]
def rZ {l:List Nu} {x:Nu} (h:l≠[]) (a:Kj x):Hj l x=l.getLastD OL:=by unfold Hj;rw[if_pos ⟨h,a⟩]
def ri {l:List Nu} {x:Nu} (a:¬Kj x):Hj l x=x:=by unfold Hj;rw[if_neg (fun h=>a h.2)]
def dc {n:Nu}:QJ n.1.reverse (co n.1 n.2)↔Kj n:=by
 unfold QJ Kj;simp only[List.mem_reverse]
def sL {l:List Nu} {j:Nat} {n:Nu} (h:l[j]? =some n) (a:j+1=l.length):l.getLastD OL=n:=by
 rw[List.getLastD_eq_getLast?,List.getLast?_eq_getElem?,(AA:l.length-1=j),h];rfl
def gX:∀(xs:List (el C2)) (st:List Nu×Nat),(xs.foldl Ka st).1.length=st.1.length+xs.length
 | [],_=>rfl
 | o::xs,st=>by
  rw[List.foldl_cons,gX xs (Ka st o),List.length_cons];unfold Ka;rw[List.length_append,List.length_singleton];omega
def iN {x:Re} (h:Bv x<0):x<0:=by rcases Gz x with⟨a,b⟩ |⟨a,b⟩ |⟨a,b⟩ <;> first | exact a | (exfalso;omega)
def iM {x:Re} (h:¬Bv x<0):¬x<0:=by rcases Gz x with⟨a,b⟩ |⟨a,b⟩ |⟨a,b⟩ <;> first | (exfalso;omega) | (rw[a];exact fun h=>by grind) | (intro h;grind)
def lu {X:List (el C2)} {L:List (el Ae)} (hL:L=(runN (X.take 24)).1.map nm):CF 11 [.one (.sl C2 X)] (.one (.sl Ae L)):=by
 refine AL Tryz.func11 fun E P=>?_
 refine .inr ?_;obtain⟨J0,aK⟩:=xJ fun vs bl k=>(vs=[.one (.sl C2 X),.one .nil,AH 0,AH 0]/\bl=[.dead 0]/\k=24)\/(∃(o:List (el Ae)) (n k':Nat) (rr j:Int),vs=[.one (.sl C2 X),.one (.Aj Ae 157 0 0 n),AH rr,AH j]/\bl=[.arr 0 Ae o]/\(AZ j k'/\k'<=X.length/\k'<=24/\0<k'/\n=o.length)/\(o=(runN (X.take k')).1.map nm/\AZ rr (runN (X.take k')).2)/\k=24-k')
 refine⟨[],[0,3,4,5],[157],J0,⟨24,by rw[aK];exact .inl ⟨rfl,rfl,rfl⟩⟩,?_⟩;intro vs bl dn hj;rw[aK] at hj;rcases hj with⟨rfl,rfl,aM⟩ |⟨o,n,k',rr,j,rfl,rfl,⟨hj,dk,cR,bN,hn⟩,⟨ho,g⟩,aM⟩
 ·conv=>cbv
  obtain⟨k',aM⟩:=xN 0;obtain⟨a6,V,hV,f⟩:=Xg (X.take k');obtain⟨st,I⟩:∃s,s=runN (X.take k'):=⟨_,rfl⟩
  rw[<-I] at a6 hV f;have aj:st.1=[]:=by rw[I,aM];rfl
  have bR:st.2=0:=by rw[I,aM];rfl
  rintro cB ⟨c6,f22⟩;conv=>cbv
  refine Bi (fun bh=>?_) fun bh=>?_
  ·exact AN ⟨⟨rfl,.inr (.inl ⟨_,congrArg _ (by rw[hL,show X.take 24=[] by rw[List.take_eq_nil_iff];right;exact List.eq_nil_of_length_eq_zero AA];rfl)⟩),trivial⟩,trivial⟩
  refine CN ?_;refine .inr ?_;refine BA 0 fun a ab=>?_
  refine Af ?_;intro bm ao aF a1 ai H Z B;have b5:=ao.eq;have f33:=ao.lt;have an:=a1.eq;have bx:=a1.lt;have ad:=H.eq;have b6:=H.lt;have O:=B.eq;have aI:=B.lt;have cr:bm=((a.1.toNat:Nat):Int):=b5;have ct:aF=((a.2.1.toNat:Nat):Int):=an;have cu:ai=((a.2.2.1.toNat:Nat):Int):=ad;have cv:Z=((a.2.2.2.2.toNat:Nat):Int):=O;intro bn ae;conv=>cbv
  have ae:=wrap_i64 ae;have aq:bn=Mq a.2.2.2.1:=ae;refine AM ?_;intro cC c8 cD ar;have ar:=wrap_i64 ar;refine AM ?_;intro bo c9;obtain⟨aN,a8⟩:=D8 (em [] (Re.ofRat (Ig a)));have cw:=X9 a.2.2.2.1;refine AB (r:= .agg [.sl (.sl AJ) (([]:List LR)),AT aN]) P (Yr (q:=Ig a) AA AA AA (fv aq (by show bo=((a.2.2.2.2.toNat%8+1:Nat):Int);omega)) a8) ?_;refine BG ?_;refine .inr ?_;refine BG ?_;refine .inr ?_;obtain⟨_,b4,ck,aU,bg⟩:=Pk (st:=st) ⟨a6,V,hV,f⟩ a;have cl:b4.length<=8:=by have:=(Pk (st:=st) ⟨a6,V,hV,f⟩ a).1;omega
  have D:=V7 (l:=[]) (x:=(Ee st a).1) (fun n hn=>by simp at hn) bg (fun he=>by rw[Pm (.inl aj)];exact XT a);obtain⟨kk,ah⟩:∃z:Nu,z=Hj [] (Ee st a).1:=⟨_,rfl⟩
  rw[<-ah] at D;have w:=Xz D.red D.mem;have bO:kk=([],Re.ofRat (Ig a)):=by rw[ah,rh,Pm (.inl aj)]
  have cj:(([]:List LR):List LR)=tw kk.1:=by rw[bO];rfl
  have ch:aN=em kk.1 kk.2:=by rw[bO];exact a8
  obtain⟨G,M⟩:=Jo (tw (Hu kk).1);obtain⟨F,J⟩:=D8 (em (Hu kk).1 (Hu kk).2);refine AB (r:= .agg [Ao G,AT F]) P (Yy D.red D.mem (by have:=D.len;omega) (by rw[w.1,w.2.2]) cj ch M (by rw[J,w.2.2])) ?_;refine⟨[(G,F)],Cj,.inr ?_⟩;try conv=>cbv
  refine .inl ⟨[(G,F)],fun _=>⟨rfl,Ck (1) 48⟩,?_⟩;refine AM ?_;intro b1 bB bk c7;refine⟨24-(k'+1),?_,?_⟩
  ·omega
  rw[aK];have N:X[k']? =some a:=by (first | exact ab | (rw[<-ab];congr 1 <;> omega))
  refine .inr ⟨_,_,k'+1,0,bk,rfl,rfl,⟨⟨AA⟩,by have:=EX N;omega,AA,AA,bB⟩,?_,rfl⟩;rw[EM (x:=a) N,gU,<-I];refine⟨by rw[Ka,aj,List.nil_append,<-ah,M,J];rfl,?_⟩
  show AZ 0 (Ee st a).2
  rw[Pm (.inl aj),bR];exact BM 0
 conv=>cbv
 have ej:=hj.eq;have aH:=g.eq;obtain⟨a6,V,hV,f⟩:=Xg (X.take k');obtain⟨st,I⟩:∃s,s=runN (X.take k'):=⟨_,rfl⟩
 rw[<-I] at a6 hV f;rw[<-I] at ho g aH;have hlen:st.1.length=k':=by rw[I,runN,gX,List.length_nil,List.length_take];omega
 have dm:o.length=k':=by rw[ho,List.length_map,hlen]
 have Y:st.1≠[]:=fun e=>by rw[e] at hlen;simp at hlen;omega
 have h:=Nat.le_trans hV a6;rintro cB ⟨c6,f22⟩;conv=>cbv
 refine Bi (fun bh=>?_) fun bh=>?_
 ·exact AN ⟨⟨rfl,.inl ⟨_,rfl,AA,congrArg _ (by have e:X.take 24=X.take k':=(by first | rw[(AA:k'=24)] | rw[List.take_of_length_le AA,List.take_of_length_le AA]);rw[hL,hn,List.drop_zero,List.take_length,ho,I,e])⟩,trivial⟩,trivial⟩
 refine Bi (fun cx=>?_) fun cx=>?_
 ·exact AN ⟨⟨rfl,.inl ⟨_,rfl,AA,congrArg _ (by have e:X.take 24=X.take k':=(by first | rw[(AA:k'=24)] | rw[List.take_of_length_le AA,List.take_of_length_le AA]);rw[hL,hn,List.drop_zero,List.take_length,ho,I,e])⟩,trivial⟩,trivial⟩
 refine .inr ?_;refine BA k' fun a ab=>?_
 refine Af ?_;intro bm ao aF a1 ai H Z B;have b5:=ao.eq;have f33:=ao.lt;have an:=a1.eq;have bx:=a1.lt;have ad:=H.eq;have b6:=H.lt;have O:=B.eq;have aI:=B.lt;have cr:bm=((a.1.toNat:Nat):Int):=b5;have ct:aF=((a.2.1.toNat:Nat):Int):=an;have cu:ai=((a.2.2.1.toNat:Nat):Int):=ad;have cv:Z=((a.2.2.2.2.toNat:Nat):Int):=O;intro bn ae;conv=>cbv
 have ae:=wrap_i64 ae;have aq:bn=Mq a.2.2.2.1:=ae;refine AM ?_;intro cC c8 cD ar;have ar:=wrap_i64 ar;refine AM ?_;intro bo c9;obtain⟨aN,a8⟩:=D8 (em [] (Re.ofRat (Ig a)));have cw:=X9 a.2.2.2.1;refine AB (r:= .agg [.sl (.sl AJ) (([]:List LR)),AT aN]) P (Yr (q:=Ig a) AA AA AA (fv aq (by show bo=((a.2.2.2.2.toNat%8+1:Nat):Int);omega)) a8) ?_;intro dp ca;have db:=ca.eq;conv=>cbv
 refine Fu (fun c0=>?_) fun c0=>?_
 ·exact absurd c0 AA
 intro dq di cE bC;obtain⟨c5,p⟩:=xK fun vs bl=>∃(T7:List LR) (A7:LR) (r7:Int),vs=[.one (.sl C2 X),.one (.Aj Ae 157 0 0 n),AH r7,AH j,.one (.BU 7 0 0)]/\bl=[.var 0 [Ao T7,AT A7],.arr 0 Ae o]/\(T7=tw (Ee st a).1.1/\A7=em (Ee st a).1.1 (Ee st a).1.2)/\AZ r7 (Ee st a).2
 refine .inl ⟨[0,3,4,5,7],[7,157],c5,?_,?_⟩
 ·intro vs bl hj;rw[p] at hj;obtain⟨T7,A7,r7,rfl,rfl,⟨bJ,bH⟩,bP⟩:=hj;conv=>cbv
  have dh:=bP.eq;intro cU bz;have cO:=bz.eq;conv=>cbv
  refine Fu (fun b0=>?_) fun b0=>?_
  ·exact absurd b0 AA
  obtain⟨bw,ag⟩:=Es (QJ (Ee st a).1.1.reverse (co (Ee st a).1.1 (Ee st a).1.2));refine AB P (mu bJ bH ag) ?_;obtain⟨bu,af⟩:=xK fun vs bl=>∃(T8:List LR) (A8:LR),vs=[.one (.sl C2 X),.one (.Aj Ae 157 0 0 n),AH r7,AH j,.one (.BU 7 0 0)]/\bl=[.var 0 [Ao T8,AT A8],.arr 0 Ae o]/\(T8=tw (Hj st.1 (Ee st a).1).1/\A8=em (Hj st.1 (Ee st a).1).1 (Hj st.1 (Ee st a).1).2)
  refine .inl ⟨[0,3,4,5,7],[7,157],bu,?_,?_⟩
  ·intro vs bl hj;rw[af] at hj;obtain⟨T8,A8,rfl,rfl,bK,bI⟩:=hj;conv=>cbv
   obtain⟨_,b4,ck,aU,bg⟩:=Pk (st:=st) ⟨a6,V,hV,f⟩ a;have cl:b4.length<=8:=by have:=(Pk (st:=st) ⟨a6,V,hV,f⟩ a).1;omega
   have D:=V7 (l:=st.1) (x:=(Ee st a).1) aU bg (fun he=>by rw[Pm (.inl he)];exact XT a);obtain⟨kk,ah⟩:∃z:Nu,z=Hj st.1 (Ee st a).1:=⟨_,rfl⟩
   rw[<-ah] at D;have w:=Xz D.red D.mem;rw[<-ah] at bK bI;obtain⟨G,M⟩:=Jo (tw (Hu kk).1);obtain⟨F,J⟩:=D8 (em (Hu kk).1 (Hu kk).2);refine AB (r:= .agg [Ao G,AT F]) P (Yy D.red D.mem (by have:=D.len;omega) (by rw[w.1,w.2.2]) bK bI M (by rw[J,w.2.2])) ?_;refine⟨[(G,F)],Cj,.inr ?_⟩;try conv=>cbv
   refine .inl ⟨[(G,F)],fun _=>⟨rfl,by (first | rfl | omega),rfl,Ck (o.length+1) 48⟩,?_⟩;intro (aE:List (el Ae)) b1 aG;have bb:aE=(o:List (el Ae))++([(G,F)]:List (el Ae)):=aG.1;have bd:b1=List.length (α:=(el Ae)) aE:=aG.2;refine AM ?_;intro bk c7;refine⟨24-(k'+1),?_,?_⟩
   ·omega
   rw[aK];have N:X[k']? =some a:=by (first | exact ab | (rw[<-ab];congr 1 <;> omega))
   refine .inr ⟨aE,_,k'+1,r7,bk,rfl,rfl,⟨⟨AA⟩,by have:=EX N;omega,AA,AA,bd⟩,?_,rfl⟩;rw[EM (x:=a) N,gU,<-I];exact⟨by rw[bb,ho,Ka,List.map_append,<-ah,M,J];rfl,bP⟩
  cases bw <;> conv=>cbv
  ·rw[af];refine⟨_,_,rfl,rfl,?_⟩ <;> rw[ri (fun hl=>Bool.false_ne_true (ag.2 (dc.2 hl)))]
   exact⟨bJ,bH⟩
  intro cV bA;have cP:=bA.eq;refine AM ?_;intro cW cQ bU cm;obtain⟨c4,aD⟩:=CE (l:=o) (i:=bU) AA;refine⟨c4,fun _=>aD,?_⟩;try conv=>cbv
  rw[af];obtain⟨u3,y3,bS,bT,cq⟩:=KJ ho aD;refine⟨_,_,rfl,rfl,?_⟩ <;> rw[rZ Y (dc.1 (ag.1 rfl)),sL cq AA]
  exact⟨bS,bT⟩
 cases cE <;> conv=>cbv
 ·have cy:=Ib bC;rw[p];refine⟨_,_,_,rfl,rfl,?_,?_⟩ <;> rw[Pm (.inr AA)]
  ·exact⟨rfl,a8⟩
  exact g
 have cy:=Ic bC;intro cF bD;conv=>cbv
 have bD:=wrap_i64 bD;intro cG cb;have dd:=cb.eq;refine AM ?_;intro cH cc;obtain⟨d58,bL,de,cn⟩:∃d:Nat,d=a.2.1.toNat%k'/\cH=d/\d<k':=⟨_,rfl,by rw[cc,(AA:cF=((a.2.1.toNat:Nat):Int)),(AA:cG=(k':Int))];exact (Int.natCast_emod _ _).symm,Nat.mod_lt _ bN⟩
 refine AM ?_;intro bV cS;obtain⟨bt,aY⟩:=CE (l:=o) (i:=bV) AA;refine⟨bt,fun _=>aY,?_⟩;refine Af ?_;intro cI bE;have bE:=wrap_i64 bE;intro cJ cd;have df:=cd.eq;refine AM ?_;intro cK cf;obtain⟨d67,bM,dg,cp⟩:∃d:Nat,d=a.2.2.1.toNat%k'/\cK=d/\d<k':=⟨_,rfl,by rw[cf,(AA:cI=((a.2.2.1.toNat:Nat):Int)),(AA:cJ=(k':Int))];exact (Int.natCast_emod _ _).symm,Nat.mod_lt _ bN⟩
 refine AM ?_;intro bW cT;obtain⟨cN,aZ⟩:=CE (l:=o) (i:=bW) AA;refine⟨cN,fun _=>aZ,?_⟩;try conv=>cbv
 refine g2 rfl ?_;obtain⟨u1,y1,m,t,U⟩:=KJ ho aY;obtain⟨u2,y2,ak,al,W⟩:=KJ ho aZ;have Q:=List.mem_of_getElem? U;have ay:=List.mem_of_getElem? W;have a2:bV=a.2.1.toNat%st.1.length:=by rw[hlen,<-bL];omega
 have a5:bW=a.2.2.1.toNat%st.1.length:=by rw[hlen,<-bM];omega
 have ax:=((f _ Q).el h).mono (by decide:512<=Rm);have b8:=((f _ ay).el h).mono (by decide:512<=Rm);refine AM ?_;intro dr dj;refine .inr ?_;intro cM bG;conv=>cbv
 refine .inr ?_;cases cM <;> conv=>cbv
 ·have cA:=CI bG;intro c1 aR;conv=>cbv
  refine .inr ?_;cases c1 <;> conv=>cbv
  ·have bX:=CI aR;intro c2 aS;conv=>cbv
   refine .inr ?_;cases c2 <;> conv=>cbv
   ·have bY:=CI aS;intro c3 aT;conv=>cbv
    refine .inr ?_;cases c3 <;> conv=>cbv
    ·have bZ:=CI aT;obtain⟨ds,bQ⟩:=xI (Bv y1);refine AB P (Mx (IV h f (Nat.le_refl Rm)) (GK h f Q) m t ax bQ) ?_;intro cL bF;refine .inr ?_;cases cL <;> conv=>cbv
     ·have cz:=EY bF;intro bp au;conv=>cbv
      refine .inr ?_;cases bp <;> conv=>cbv
      ·have bj:=EY au;rw[p];have b:=La (o:=a) Y (by omega:a.1.toNat%6≠0);rw[get_eq U a2,get_eq W a5] at b;rw[(AA:a.1.toNat%6=5),fE _ _ AA] at b;refine⟨_,_,_,rfl,rfl,?_,?_⟩ <;> rw[b]
       ·exact⟨m,t⟩
       exact g
      have bj:=EZ au;refine AM ?_;intro bq cg;have av:=(f _ Q).abs;have aw:EG y1=y1:=by unfold EG;rw[if_neg (iM AA)]
      obtain⟨hG,b9,ba⟩:=gL av AA (M1 _) (Nat.le_refl Rm);obtain⟨bs,aa⟩:=Jo (tw (Bb u1 (EG y1)));obtain⟨br,a7⟩:=D8 (em (Bb u1 (EG y1)) (Re.sqrt (EG y1)));refine AB (r:= .BI [(true,[Ao bs,AT br]),(false,[.int .i64 0])]) P (UU hG b9 m (by show _=em u1 (EG y1);rw[aw];exact t) ((av.el h).mono AD) ba (M1 _) aa a7) ?_;refine AB P My ?_;rw[p];have b:=La (o:=a) Y (by omega:a.1.toNat%6≠0);rw[get_eq U a2,get_eq W a5] at b;rw[(AA:a.1.toNat%6=5),fF _ _ AA] at b;refine⟨_,_,_,rfl,rfl,?_,?_⟩ <;> rw[b]
      ·exact⟨aa,a7⟩
      exact⟨by show bq=((st.2+1:Nat):Int);omega⟩
     have cz:=EZ bF;obtain⟨dt,aV⟩:=D8 (em u1 (-y1));refine AB P (QU (IV h f (Nat.le_refl Rm)) (GK h f Q) m t ax aV) ?_;intro bp au;refine .inr ?_;cases bp <;> conv=>cbv
     ·have bj:=EY au;rw[p];have b:=La (o:=a) Y (by omega:a.1.toNat%6≠0);rw[get_eq U a2,get_eq W a5] at b;rw[(AA:a.1.toNat%6=5),fE _ _ AA] at b;refine⟨_,_,_,rfl,rfl,?_,?_⟩ <;> rw[b]
      ·exact⟨m,t⟩
      exact g
     have bj:=EZ au;refine AM ?_;intro bq cg;have av:=(f _ Q).abs;have aw:EG y1= -y1:=by unfold EG;rw[if_pos (iN AA)]
     obtain⟨hG,b9,ba⟩:=gL av AA (M1 _) (Nat.le_refl Rm);obtain⟨bs,aa⟩:=Jo (tw (Bb u1 (EG y1)));obtain⟨br,a7⟩:=D8 (em (Bb u1 (EG y1)) (Re.sqrt (EG y1)));refine AB (r:= .BI [(true,[Ao bs,AT br]),(false,[.int .i64 0])]) P (UU hG b9 m (by show _=em u1 (EG y1);rw[aw];exact aV) ((av.el h).mono AD) ba (M1 _) aa a7) ?_;refine AB P My ?_;rw[p];have b:=La (o:=a) Y (by omega:a.1.toNat%6≠0);rw[get_eq U a2,get_eq W a5] at b;rw[(AA:a.1.toNat%6=5),fF _ _ AA] at b;refine⟨_,_,_,rfl,rfl,?_,?_⟩ <;> rw[b]
     ·exact⟨aa,a7⟩
     exact⟨by show bq=((st.2+1:Nat):Int);omega⟩
    have bZ:=CL aT;obtain⟨aP,aO,b3,b2,aQ,b7,bc,aL,aJ,bf⟩:=pT h f Q ay (r:=st.2);refine AB (r:= .BI [(true,[Ao aP,AT aO]),(false,[.int .i64 aQ])]) P (by have q:=b7;rw[<-m,<-t,<-ak,<-al]at q;exact q) ?_;refine .inl ⟨[.agg [Ao aP,AT aO],AH aQ,.agg [Ao bt.1,AT bt.2]],.agg [Ao b3,AT b2],AK,fun _=>Im P (by rw[m,t];exact bc),?_⟩;try conv=>cbv
    rw[p];have b:=La (o:=a) Y (by omega:a.1.toNat%6≠0);rw[get_eq U a2,get_eq W a5] at b;rw[(AA:a.1.toNat%6=4)] at b;refine⟨_,_,_,rfl,rfl,?_,?_⟩ <;> rw[b]
    ·exact⟨aL,aJ⟩
    rw[bf];exact g
   have bY:=CL aS;obtain⟨da,aC⟩:=Jo (tw (Bz u1 u2));obtain⟨cY,aA⟩:=D8 (em (Bz u1 u2) (y1*y2));refine AB P (UT (IV h f (Nat.le_refl Rm)) (GK h f Q) (GK h f ay) m ak t al ax b8 aC aA) ?_;refine AB P My ?_;rw[p];have b:=La (o:=a) Y (by omega:a.1.toNat%6≠0);rw[get_eq U a2,get_eq W a5] at b;rw[(AA:a.1.toNat%6=3),uC] at b;refine⟨_,_,_,rfl,rfl,?_,?_⟩ <;> rw[b]
   ·exact⟨aC,aA⟩
   exact g
  have bX:=CL aR;obtain⟨cZ,aB⟩:=Jo (tw (Bz u1 u2));obtain⟨cX,az⟩:=D8 (em (Bz u1 u2) (y1-y2));refine AB P (UW (IV h f (Nat.le_refl Rm)) (GK h f Q) (GK h f ay) m ak t al ax b8 aB az) ?_;refine AB P My ?_;rw[p];have b:=La (o:=a) Y (by omega:a.1.toNat%6≠0);rw[get_eq U a2,get_eq W a5] at b;rw[(AA:a.1.toNat%6=2),uD] at b;refine⟨_,_,_,rfl,rfl,?_,?_⟩ <;> rw[b]
  ·exact⟨aB,az⟩
  exact g
 have cA:=CL bG;obtain⟨dv,aX⟩:=Jo (tw (Bz u1 u2));obtain⟨du,aW⟩:=D8 (em (Bz u1 u2) (y1+y2));refine AB P (US (IV h f (Nat.le_refl Rm)) (GK h f Q) (GK h f ay) m ak t al ax b8 aX aW) ?_;refine AB P My ?_;rw[p];have b:=La (o:=a) Y (by omega:a.1.toNat%6≠0);rw[get_eq U a2,get_eq W a5] at b;rw[(AA:a.1.toNat%6=1),tu] at b;refine⟨_,_,_,rfl,rfl,?_,?_⟩ <;> rw[b]
 ·exact⟨aX,aW⟩
 exact g
end
section
def qn (k:Nat):Re:=Re.ofRat ((k:Nat):Rat)
noncomputable def rtN (k:Nat):Nu:=(Bb [] (qn k),Re.sqrt (qn k))
noncomputable def zm (k:Nat):Nu:=([],qn k)
def gC:BE []:=trivial
def rX (u:AG):F7 [] u=u:=by
 unfold F7
 split
 ·rename_i h;exact (List.suffix_nil.1 h).symm
 rw[if_pos (List.nil_suffix)]
def rV (u v:AG):Bz u v=F7 u v:=by
 show F7 (F7 [] u) v=_
 rw[rX]
noncomputable def qS:Re:=qn 5+qn 2*Re.sqrt (qn 6)
def PA (u:AG):Prop:=u<:+Bb [[6]] qS\/u<:+Bb [] (qn 2)\/u<:+Bb [] (qn 3)
end
section
def zy (X:List (el C2)):∃V:List Re,V.length<=3/\∀n∈(runN X).1,DA V n:=by
 obtain⟨h3,V,hV,a⟩:=Xg X;exact⟨V,Nat.le_trans hV h3,a⟩
instance (q:Rat):Decidable (C4 q):=inferInstanceAs (Decidable (_/\_))
def Ii {q:Rat} (h:C4 q):Ch q:=⟨by have:=SI.2 h.1;omega,by have:=SI.2 h.2;omega⟩
end
section
def orM (g:Nat->Nat):List Nat->Nat
 | []=>0
 | k::r=>Nat.lor (Nat.lor (Nat.pow 2 k) (g k)) (orM g r)
def Hd (acc:List Nat) (n k:Nat):Nat:=match Nat.ble (k+1) n with | true=>acc.getD (n-1-k) 0 | false=>0
def Ok:List Oper->List Nat->Nat->List Nat
 | [],acc,_=>acc
 | o::r,acc,n=>Ok r (orM (Hd acc n) (GX o)::acc) (n+1)
def W6 (ops:List Oper) (tr:Tr):Bool:=Zi ops&&((fun acc=>(List.range ops.length).all fun j=>(List.range j).all fun i=>
 Nat.testBit (Hd acc ops.length j) i||
  (match ops[i]?,ops[j]?,tr[i]?,tr[j]? with
   | some oi,some oj,some ti,some tj=>Of ops oi oj ti tj
   | _,_,_,_=>false)) (Ok ops [] 0))
def fJ {g:Nat->Nat} {i:Nat}:∀{l:List Nat},(orM g l).testBit i=true↔∃k∈l,i=k\/(g k).testBit i=true
 | []=>by simp[orM]
 | k::r=>by
  have d:=fJ (g:=g) (i:=i) (l:=r)
  show ((2^k ||| g k) ||| orM g r).testBit i=true↔_
  rw[Nat.testBit_or,Nat.testBit_or,Nat.testBit_two_pow,Bool.or_eq_true,Bool.or_eq_true,d];simp only[List.mem_cons,decide_eq_true_eq]
  constructor
  ·rintro ((h | h) |⟨m,b,a⟩)
   ·exact⟨k,.inl rfl,.inl h.symm⟩
   ·exact⟨k,.inl rfl,.inr h⟩
   exact⟨m,.inr b,a⟩
  rintro⟨m,rfl | b,a⟩
  ·exact .inl (a.imp Eq.symm id)
  exact .inr ⟨m,b,a⟩
def nz {x:Nat} {acc:List Nat} {n k:Nat} (h:k≠n):Hd (x::acc) (n+1) k=Hd acc n k:=by
 unfold Hd
 by_cases d:k<n
 ·rw[Nat.ble_eq_true_of_le (by omega:k+1<=n+1),Nat.ble_eq_true_of_le (by omega:k+1<=n)]
  show (x::acc).getD (n+1-1-k) 0=acc.getD (n-1-k) 0
  rw[(AA:n+1-1-k=(n-1-k)+1)];rfl
 have a:Nat.ble (k+1) (n+1)=false:=by rw[<-Bool.not_eq_true,Nat.ble_eq];omega
 have b:Nat.ble (k+1) n=false:=by rw[<-Bool.not_eq_true,Nat.ble_eq];omega
 rw[a,b]
def Zw:∀(ops:List Oper) {acc:List (List Nat)} {m:List Nat},(∀j i,(Hd m acc.length j).testBit i=true↔i∈acc.getD j [])->∀j i,(Hd (Ok ops m acc.length) (acc.length+ops.length) j).testBit i=true↔i∈(H2 ops acc).getD j []
 | [],_,_,h=>h
 | o::r,acc,m,h=>by
  rw[H2,Ok]
  have:=Zw r (acc:=acc++[(GX o).flatMap fun j=>j::acc.getD j []]) (m:=orM (Hd m acc.length) (GX o)::m) (fun j i=>by
   rw[List.length_append,List.length_singleton]
   by_cases e:j=acc.length
   ·subst e
    have e1:Hd (orM (Hd m acc.length) (GX o)::m) (acc.length+1) acc.length=orM (Hd m acc.length) (GX o):=by
     unfold Hd;rw[Nat.ble_eq_true_of_le (Nat.le_refl _)]
     show (_::m).getD (acc.length+1-1-acc.length) 0=_
     rw[(AA:acc.length+1-1-acc.length=0)];rfl
    rw[e1,fJ];have e2:(acc++[(GX o).flatMap fun j=>j::acc.getD j []]).getD acc.length []=(GX o).flatMap fun j=>j::acc.getD j []:=AS
    rw[e2,List.mem_flatMap]
    constructor
    ·rintro⟨k,a,h'⟩;exact⟨k,a,List.mem_cons.2 (h'.imp id (h k i).1)⟩
    rintro⟨k,a,h'⟩;exact⟨k,a,(List.mem_cons.1 h').imp id (h k i).2⟩
   rw[nz e,h]
   by_cases b:j<acc.length
   ·simp only[List.getD_eq_getElem?_getD,List.getElem?_append_left b]
   simp only[List.getD_eq_getElem?_getD];rw[List.getElem?_eq_none AA,List.getElem?_eq_none (by simp;omega)])
  rw[List.length_append,List.length_singleton] at this;rw[List.length_cons,(AA:acc.length+(r.length+1)=acc.length+1+r.length)];exact this
def td {ops:List Oper} {tr:Tr} (h:W6 ops tr=true):LQ ops tr=true:=by
 unfold W6 at h;unfold LQ;rw[Bool.and_eq_true] at h ⊢;refine⟨h.1,?_⟩;have a:=Zw ops (acc:=[]) (m:=[]) (fun j i=>by unfold Hd;split <;> simp);rw[List.length_nil,Nat.zero_add] at a
 have e:∀j i,((H2 ops []).getD j []).contains i=Nat.testBit (Hd (Ok ops [] 0) ops.length j) i:=fun j i=>by
  rw[Bool.eq_iff_iff,List.contains_iff_mem];exact (a j i).symm
 have b:=h.2;unfold ef;simp only[e];exact b
end
end Go.Abs
