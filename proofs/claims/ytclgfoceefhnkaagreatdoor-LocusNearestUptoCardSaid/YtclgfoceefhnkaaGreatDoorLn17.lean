/- Part 18 of a proof. Conditions: each theorem's own. -/
import Derived.Test.YtclgfoceefhnkaaGreatDoorLn16
set_option linter.all false
set_option maxHeartbeats 80000000
set_option maxRecDepth 20000
open Go.Proofs
namespace Go.Abs
section
open Go.RowKit
theorem Xh {t:Re} (ht:t=Re.ofRat (1/2)):2*t=1:=by
 have a:(2:Re)=Re.ofRat 2:=rfl;rw[ht,a,<-Re.ofRat_mul,show (2:Rat)*(1/2)=1 by decide +kernel];rfl
theorem UA {u:List (List Rat)} {R:Nat} (h:BF R u):Uz 343 R u:=by
 induction u with
 | nil=>
  intro s x D J;obtain⟨q,rfl⟩:=Ct.1 D.mem
  have a7:CR q:=by
   have:=D.CT (by have:=H6 ([]:List (List Rat)).length R s;omega);rw[Dg] at this;exact this q List.mem_cons_self
  by_cases W:∃r:Rat,0<=r/\r*r=q
  ·obtain⟨r,G,W⟩:=W;refine .inl ⟨Re.ofRat r,HN r _,by rw[<-Re.ofRat_mul,W],?_⟩;intro T A B g f P;exact ox g (f.trans (EB q)) (P.trans (EB r)) a7 G W
  refine .inr ⟨fun J=>W (aw.1 J),[(((false,[]),(false,[])):el AA)],?_,?_⟩
  rotate_left
  ·intro T A g f;exact ow g (f.trans (EB q)) rfl a7 W
  simp
 | cons r u d=>
  have d:Uz 343 R u:=d h.tail;intro s x D J;obtain⟨p,q,a,k,H⟩:=El.parts h.red D;have ax:QQ (r::u).length R s=max (QQ u.length R (3*s+3*EE u.length R+R+GG u.length R+3+II u.length R R)) (s+II u.length R (2*(3*s+3*EE u.length R+R+GG u.length R+3+II u.length R R+GG u.length R)+1)+EE u.length R):=rfl;have hQ:∀s',s'<=3*s+3*EE u.length R+R+GG u.length R+3+II u.length R R->QQ u.length R s'<=60000000000000:=fun s' h'=>Nat.le_trans (Nx u.length R h') (by omega)
  have ak:=El.Cz h;have an:=Cu h.red
  by_cases G:q=0
  ·have S:x=p:=by rw[a,G];clear d;grind
   rcases d k (hQ _ (by omega)) with⟨w,hw,b,U⟩ |⟨z,l,hl,V⟩
   ·refine .inl ⟨w,E6 hw,by rw[S];exact b,?_⟩;intro T A B g f P;exact o7 h g f D a k H J G hw U P
   obtain⟨i,I,C⟩:=Dv h.red.1 (B9 h.red) (by have:=h.red.2.2.1;grind);have af:=ak.inv h.tail I C;rcases d (k.mul h.tail af) (hQ _ (by omega)) with⟨w,hw,b,U⟩ |⟨a5,l2,ag,ai⟩
   ·refine .inl ⟨w*rt u r,Cd.2 ⟨0,w,CN u,hw,by clear d;grind⟩,?_,?_⟩
    ·have:p=p*(AM u r*i):=by rw[C];clear d;grind
     rw[S];clear d;grind
    intro T A B g f P;exact o8 h g f D a k H J G I C V hw U P
   refine .inr ⟨?_,em u 0++l2,?_,?_⟩
   ·rw[S,ar h.red k.mem];rintro (h1 |⟨i',ao,a6,h1⟩)
    ·exact z h1
    have:i'=i:=by
     have:i'=i'*(AM u r*i):=by rw[C];clear d;grind
     have h2:i=i*(AM u r*i'):=by rw[a6];clear d;grind
     clear d;grind
    rw[this] at h1;exact a5 h1
   ·rw[List.length_append,Bn (CN u),B8];omega
   intro T A g f;exact o9 h g f D a k H J G I C V ai ag rfl
  have hN:=El.norm h k.mem H.mem (a ▸ D);rcases d hN (hQ _ (by omega)) with⟨n,V,o,ae⟩ |⟨z,l,hl,aj⟩
  rotate_left
  ·refine .inr ⟨fun hS=>z (ay h.red k.mem H.mem (a ▸ hS)),[],Nat.zero_le _,?_⟩;intro T A g f;exact oz h g f D a k H J G aj rfl
  have Z:=hN.sqrt h.tail V o;obtain⟨t,ht⟩:∃t:Re,t=Re.ofRat (1/2):=⟨_,rfl⟩
  have Q:=Xh ht;obtain⟨y,U⟩:∃y:Nat->Re,y=fun i=>if i=0 then p+n else p-n:=⟨_,rfl⟩
  have K:y 0=p+n:=by rw[U];rfl
  have M:y 1=p-n:=by rw[U];rfl
  have N:∀i,El u (s+(2*s+2*EE u.length R+R+1+GG u.length R)+1) (y i):=fun i=>by
   rw[U]
   show El u _ (if i=0 then p+n else p-n)
   by_cases I:i=0
   ·rw[if_pos I];exact k.add h.red.1 Z
   rw[if_neg I];exact k.sub h.red.1 Z
  have O:∀(k0:Nat) (L:Nat->LR) (w:Re),k0<2->(∀i,i<k0->Hd 343 u (t*y i) (L i))->In u w->w*w=t*y k0->He 343 u (t*y k0) w->
    ∃w,In (r::u) w/\w*w=x/\He 343 (r::u) x w:=by
   intro k0 L w hk z hw b F
   have key:∃m,m*m=p*p-q*q*AM u r/\y k0=p+m:=by
    rcases (show k0=0\/k0=1 by omega) with rfl | rfl
    ·exact⟨n,o,K⟩
    exact⟨-n,by rw[<-o];clear d;grind,by rw[M];clear d;grind⟩
   obtain⟨m,X,ad⟩:=key;have a8:w≠0:=aq h.red G X Q (by rw[b,ad])
   have ab:w+w≠0:=by
    intro e;have e1:2*w=0:=by clear d;grind
    rcases Re.F3 e1 with e | e
    ·exact QF e
    exact a8 e
   obtain⟨j,hj,aa⟩:=Dv h.red.1 (DR hw hw) ab;refine⟨w+q*j*rt u r,Cd.2 ⟨_,_,hw,Ag h.red.1 H.mem hj,rfl⟩,?_,?_⟩
   ·rw[a];exact al X Q an (by rw[b,ad]) aa rfl
   intro T A B g f P;exact o4 h g f D a k H J G V o ht ae K M N (by omega) z hk hw b a8 F hj aa P
  have hb:QQ u.length R (s+(2*s+2*EE u.length R+R+1+GG u.length R)+1+1+EE u.length R)<=60000000000000:=hQ _ (by omega);rcases d ((N 0).half h.tail ht) hb with⟨w,hw,b,F⟩ |⟨a1,l0,au,Y⟩
  ·exact .inl (O 0 (fun _=>[]) w (by omega) (fun i I=>by omega) hw b F)
  rcases d ((N 1).half h.tail ht) hb with⟨w,hw,b,F⟩ |⟨a2,l1,av,ah⟩
  ·exact .inl (O 1 (fun _=>l0) w (by omega) (fun i I=>by rw[show i=0 by omega];exact Y) hw b F)
  refine .inr ⟨fun hS=>?_,[],Nat.zero_le _,?_⟩
  ·rcases az h.red k.mem H.mem (a ▸ hS) o Q with e | e
   ·exact a1 (by rw[K];exact e)
   exact a2 (by rw[M];exact e)
  intro T A g f
  exact o5 h g f D a k H J G V o ht ae K M N (L:=fun i=>if i=0 then l0 else l1) (Nat.le_refl 2) (fun i I=>by
   rcases (show i=0\/i=1 by omega) with rfl | rfl
   ·exact Y
   exact ah) rfl rfl
end
section
open Go.RowKit
variable {A B:LR} {R s:Nat} {T:List LR} {u:List (List Rat)} {v x:Re}
theorem Wj {N:Nat} (Y:∀x∈T,x.length<=1000000) (Z:T.length<=1000) (z:N=T.length):CF 292 [.one (.sl (.sl AA) T)] (.one (.own (.sl AA) T N)):=by
 refine AG Tryz.func292 fun E S=>?_
 rintro n7 ⟨e7,f7⟩;refine⟨fun _=>⟨by omega,by omega,by show _*24<=140737488355328;omega⟩,?_⟩;intro D (F:List (el (.sl AA))) n;have X:=n.1;have w:F=List.replicate D ([]:el (.sl AA)):=n.2;have P:F.length=D:=by rw[w,List.length_replicate]
 refine AS ?_;intro G f;have O:=f.eq;have f10:=f.le;refine BN [] [3,9,10,11] [8] (fun vs I k=>∃(o:List LR) (m i':Nat) (L i:Int),vs=[.one (.AZ (.sl AA) 8 0 0 m),.one (.sl (.sl AA) T),.one (.int .i64 L),.one (.int .i64 i)]/\I=[.arr 0 (.sl AA) o]/\(o.length=T.length/\m=T.length/\DP L T.length/\AO i i'/\i'<=T.length)/\o.take i'=T.take i'/\k=T.length-i') (T.length-0) ⟨F,D,0,G,0,rfl,rfl,⟨by omega,by omega,f,BD 0,by omega⟩,rfl,rfl⟩ ?_;rintro J0 t vs I a1 ⟨o,m,i',L,i,rfl,rfl,⟨ho,hm,K,U,V⟩,hinv,W⟩;conv=>cbv
 have eL:=K.eq;have ei:=U.eq;refine BW (fun C=>?_) fun C=>?_
 ·have a:T=o:=by rw[<-List.take_length (l:=T),<-show i'=T.length by omega,<-hinv,List.take_of_length_le (by omega)]
  exact AE ⟨⟨rfl,.inr (.inl ⟨_,_,by decide,rfl,rfl,by omega,rfl,Dm (a) (by rw[z,<-a])⟩),trivial⟩,trivial⟩
 refine .inr ?_;refine AW i' fun h d=>?_
 try conv=>cbv
 refine AB S (UY (Y h (List.mem_of_getElem? d))) ?_;intro j M;refine⟨h,fun _=>⟨by show _<List.length (α:=(el (.sl AA))) o;(first | omega | (simp;omega)),by first | exact t1 | exact t2 | exact t4 | simp[BR,BV,cells]⟩,?_⟩;intro (g:List (el (.sl AA))) (b:g=List.set (α:=(el (.sl AA))) o j h);have J:g.length=o.length:=by rw[b,List.length_set]
 refine AK ?_;intro H Q;refine⟨T.length-(i'+1),?_,?_⟩
 ·omega
 rw[t];refine⟨g,m,i'+1,L,H,rfl,rfl,⟨by omega,by omega,K,⟨by omega⟩,by omega⟩,?_,rfl⟩;rw[b,show j=i' by omega,P9 (by omega),hinv,<-DO d]
theorem iB (b:∀x∈T,x.length<=1000000) (a:T.length<=1000):CF 292 [.one (.sl (.sl AA) T)] (.one (.sl (.sl AA) T)):=DV (Wj b a rfl)
theorem bR (h:BF R u) (g:T=tw u):∀x∈T,x.length<=1000000:=by
 intro x b;rw[g,tw] at b;obtain⟨y,j,rfl⟩:=List.mem_map.1 b;obtain⟨i,a⟩:=List.mem_iff_getElem?.1 j;have d:=Lf h.red i y a;have f:=C6 a;rw[List.length_reverse] at f;have h3:=h.ht;rw[List.length_map,d];exact Nat.le_trans (DX) (by decide)
theorem JF:Bm x<0↔x<0:=by
 rcases Ew x with⟨a,b⟩ |⟨a,b⟩ |⟨a,b⟩ <;> rw[b]
 ·exact⟨fun _=>a,fun _=>by decide⟩
 ·rw[a];exact⟨fun h=>absurd h (by decide),fun h=>by grind⟩
 exact⟨fun h=>absurd h (by decide),fun h=>by grind⟩
theorem mY (h:BF R u) (o:T=tw u) (D:A=em u x) (G:El u s x) (n:Fit u.length R s) {w:Re} (hw:In u w) (d:w*w=x) (H:He 343 u x w) (j:0<=v) (k:v*v=x) (C:B=em u v):CF 291 [.one (.sl (.sl AA) T),.one (.sl AA A)] (.AI [(false,[.sl AA B]),(false,[.bool true])]):=by
 have l:=G.sqrt h hw d;refine AG Tryz.func291 fun E m=>?_
 obtain⟨J,a⟩:=xR (em u w);refine AB m (H o D a) ?_;refine BH ?_;obtain⟨I,g⟩:=xI (Bm w);refine AB m (L8 h o a l n.v n.vR g) ?_;intro z f;refine .inr ?_;cases z <;> conv=>cbv
 ·have t:=Dw f;exact AE ⟨⟨rfl,congrArg _ (by rw[C,a];congr 1;have:¬w<0:=(fun F=>by have:=JF.2 F;omega);exact Re.Lk j (by grind) (k.trans d.symm)),trivial⟩,t2,trivial⟩
 have t:=Dx f;obtain⟨K,b⟩:=xR (em u (-w));refine AB m (Uo h o a l (Nat.le_trans (Fw u.length R _) n.v) b) ?_;exact AE ⟨⟨rfl,congrArg _ (by rw[C,b];congr 1;have:w<0:=JF.1 (by omega);exact Re.Lk j (by grind) (by rw[k,<-d];grind)),trivial⟩,t2,trivial⟩
theorem mX (h:BF R u) (f:T=tw u) (a:A=em u x) (k:El u s x) (j:Fit u.length R s) {l:LR} (g:Hd 343 u x l) (b:B=[]):CF 291 [.one (.sl (.sl AA) T),.one (.sl AA A)] (.AI [(false,[.sl AA B]),(false,[.bool false])]):=by
 refine AG Tryz.func291 fun E d=>?_
 refine AB d (g f a) ?_;refine CU ?_;exact AE ⟨⟨rfl,.inr (.inl ⟨_,congrArg _ (b)⟩),trivial⟩,t2,trivial⟩
theorem mZ (h:BF R u) (m:T=tw u) (k:A=em u x) (j:El u s x) (g:Fit u.length R s) (n:In u v) (d:0<=v) (a:v*v=x) (l:B=em u v):CF 291 [.one (.sl (.sl AA) T),.one (.sl AA A)] (.AI [(false,[.sl AA B]),(false,[.bool true])]):=by
 rcases UA h j g.q with⟨w,hw,f,o⟩ |⟨b,_⟩
 ·exact mY h m k j g hw f o d a l
 exact absurd ⟨v,n,a⟩ b
theorem mW (h:BF R u) (k:T=tw u) (g:A=em u x) (f:El u s x) (d:Fit u.length R s) (a:¬Sq u x) (j:B=[]):CF 291 [.one (.sl (.sl AA) T),.one (.sl AA A)] (.AI [(false,[.sl AA B]),(false,[.bool false])]):=by
 rcases UA h f d.q with⟨w,hw,b,n⟩ |⟨_,l,_,m⟩
 ·exact absurd ⟨w,hw,b⟩ a
 exact mX h k g f d m j
theorem Uu (h:BF R u) (n:T=tw u) (hv:VV u.length R R<=60000000000000) (hq:QQ u.length R R<=60000000000000):CF 290 [.one (.sl (.sl AA) T)] (.one (.bool true)):=by
 have ab:T.length=u.length:=by rw[n,CG]
 have hR:=h.hR;refine AG Tryz.func290 fun E N=>?_
 intro n8 M;have e8:=M.eq;have f8:=M.le;refine BN [] [0,7,8,9] [] (fun vs bl k=>∃(i':Nat) (L i:Int),vs=[.one (.sl (.sl AA) T),.one (.sl (.sl AA) T),.one (.int .i64 L),.one (.int .i64 i)]/\(DP L T.length/\AO i i'/\i'<=T.length)/\k=T.length-i') (T.length-0) ⟨0,n8,0,rfl,⟨M,BD 0,by omega⟩,rfl⟩ ?_;rintro J0 O vs bl af ⟨i',L,i,rfl,⟨Z,hi,ad⟩,ae⟩;conv=>cbv
 have eL:=Z.eq;have ei:=hi.eq;refine BW (fun S=>?_) fun S=>?_
 ·exact AE ⟨t2,trivial⟩
 refine .inr ?_;refine AW i' fun H F=>?_
 try conv=>cbv
 obtain⟨r,D,C⟩:=KI (u:=u) (i:=i') (by omega);have m:AU (r::pre u i'):=D ▸ (h.pre (i'+1)).red;have P:H=BI r:=by rw[<-n,F] at C;exact Option.some.inj C
 have a:H=em (pre u i') (AM (pre u i') r):=P.trans (Ea m);have b:El (pre u i') R (AM (pre u i') r):=El.Cz (D ▸ h.pre (i'+1));refine AK ?_;intro ag a6 I a1 U o;have f:U=tw (pre u i'):=by rw[o,List.drop_zero,show I=i' by omega,n,Ie]
 refine AB (r:= .one (.bool true)) N (H5 f (h.pre i').Gk a (b.CT hR) (by rw[b.len,List.length_reverse];exact (decide_eq_true rfl).symm)) ?_;refine BH ?_;intro ah a7 J a2 V t;have g:V=tw (pre u i'):=by rw[t,List.drop_zero,show J=i' by omega,n,Ie]
 obtain⟨Y,d⟩:=xI (Bm (AM (pre u i') r));refine AB (r:= .one (.int .i64 Y)) N (L8 (h.pre i') g a b (by rw[JM (by omega)];exact Nat.le_trans (MB (by omega) R R) hv) (by rw[JM (by omega)];exact Nat.le_trans (MB (by omega) R R) hv) d) ?_;refine Fa (fun G=>?_) fun G=>?_
 ·exact absurd G (by rw[d,G1 m.2.2.1];omega)
 intro ai a8 K a5 W z;have j:W=tw (pre u i'):=by rw[z,List.drop_zero,show K=i' by omega,n,Ie]
 obtain⟨l,hl,hn⟩:=((UA (h.pre i') b (by rw[JM (by omega)];exact Nat.le_trans (dU (by omega) R R) hq)).resolve_left (fun⟨w,hw,Q,_⟩=>m.2.2.2 ⟨w,hw,Q⟩)).2;refine AB N (hn j a) ?_;intro X aa;exact Ba O ⟨i'+1,L,X,rfl,⟨Z,⟨by omega⟩,by omega⟩,rfl⟩
theorem gD (h:BF R u) (b:T=tw u) (k:A=em u x) (j:El u s x) (a:Fit u.length R s) (z:In u v) (l:0<=v) (g:v*v=x) (o:B=em u v):CF 227 [.one (.sl (.sl AA) T),.one (.sl AA A)] (.AI [(false,[.sl (.sl AA) T]),(false,[.sl AA B]),(false,[.int .i64 0])]):=by
 have t:T.length=u.length:=by rw[b,CG]
 have w:=h.ht;have m:¬x<0:=by rw[<-g];have:=Re.Ft v;grind
 refine AG Tryz.func227 fun E d=>?_
 refine .inr ?_;refine AB (r:= .one (.bool true)) d (H5 b h.Gk k (j.CT a.s) (by rw[j.len,List.length_reverse];exact (decide_eq_true rfl).symm)) ?_;refine BH ?_;refine AB d (Uu h b a.vR a.qR) ?_;refine BH ?_;obtain⟨C,f⟩:=xI (Bm x);refine AB d (L8 h b k j a.v0 a.vR f) ?_;refine Cw (fun n=>?_) fun n=>?_
 ·exact absurd ((JF (x:=x)).1 (by omega)) m
 refine AB d (mZ h b k j a z l g o) ?_;refine AB d (iB (bR h b) (by omega)) ?_;exact AE ⟨t2,t2,t2,trivial⟩
theorem gE (h:BF R u) (f:T=tw u) (k:A=em u x) (t:El u s x) (j:Fit u.length R s) {R':Nat} {r:List Rat} {T2:List LR} (U:u.length<8) (O:0<=x) (F:¬Sq u x) (N:r=co u x) (h':BF R' (r::u)) (C:T2=tw (r::u)) (L:B=em (r::u) (rt u r)):CF 227 [.one (.sl (.sl AA) T),.one (.sl AA A)] (.AI [(false,[.sl (.sl AA) T2]),(false,[.sl AA B]),(false,[.int .i64 0])]):=by
 have D:T.length=u.length:=by rw[f,CG]
 have M:=h.ht;refine AG Tryz.func227 fun E d=>?_
 refine .inr ?_;refine AB (r:= .one (.bool true)) d (H5 f h.Gk k (t.CT j.s) (by rw[t.len,List.length_reverse];exact (decide_eq_true rfl).symm)) ?_;refine BH ?_;refine AB d (Uu h f j.vR j.qR) ?_;refine BH ?_;obtain⟨S,n⟩:=xI (Bm x);refine AB d (L8 h f k t j.v0 j.vR n) ?_;refine Cw (fun G=>?_) fun G=>?_
 ·exact absurd ((JF (x:=x)).1 (by omega)) (by grind)
 refine AB d (mW h f k t j F rfl) ?_;rintro P ⟨J,f36⟩;refine Nh (fun w=>?_) fun w=>?_
 ·exact absurd w (by omega)
 obtain⟨V,o⟩:=xN T.length;refine AB d (Wj (bR h f) (by omega) o) ?_;have K:A.length=2^u.length:=by rw[k,Bn t.mem]
 have I:=DX h.ht;refine AB d (UY (by omega)) ?_;refine⟨[A],fun _=>⟨rfl,by decide,rfl,⟨rfl,by first | exact t1 | exact t2 | exact t4 | simp[BR,BV,cells],trivial⟩⟩,.inr ?_⟩;try conv=>cbv
 refine .inr (.inl ⟨[A],fun _=>⟨rfl,by rw[o],rfl,by show (T.length+1)*24<=140737488355328;(try simp only[List.length_take,List.length_drop]);omega⟩,?_⟩);intro (g:List (el (.sl AA))) H b;have l:g=(T:List (el (.sl AA)))++([A]:List (el (.sl AA))):=b.1;have m:H=List.length (α:=(el (.sl AA))) g:=b.2;conv=>cbv
 refine⟨fun _=>m,?_⟩;rintro Q ⟨z,f47⟩;conv=>cbv
 have a:g=tw (r::u):=by rw[l,f,Nc,k,em,N]
 refine AB d (di h' a (AO.of (z.trans (congrArg _ D))) L) ?_;exact AE ⟨⟨rfl,congrArg _ (by rw[C,a]),trivial⟩,t2,t2,trivial⟩
end
section
open Go.RowKit
variable {A B:LR} {R s zn:Nat} {T:List LR} {c:Int} {i p q x y:Re} {r:List Rat} {u:List (List Rat)}
theorem VW {C:LR} (h:BF R (r::u)) (X:T=tw (r::u)) (D:A=em (r::u) x) (hx:El (r::u) s x) (d:x=p+q*rt u r) (f:El u s p) (b:El u s q) (hb:2*s+2*EE u.length R+R+1<=60000000000000) (hC:C=em u (p*p-q*q*AM u r)):CF 260 [.one (.sl (.sl AA) T),.one (.sl AA A)] (.one (.sl AA C)):=by
 have ar:T.length=u.length+1:=by rw[X,CG];rfl
 have aq:A.length=2^u.length+2^u.length:=by rw[D,Bn hx.mem,B8]
 have O:=El.Cz h;have hR:=h.hR;refine AG Tryz.func260 fun E P=>?_
 rintro n9 ⟨e9,f9⟩ az al aA ⟨aj,f13⟩ aB an au ae U aa Y H aC ⟨ak,f18⟩ aD ao;refine AW ((T.length-1)) fun a6 m=>?_
 refine AK ?_;intro av af V ab Z I aw ag W ad a1 J;have a:Y=tw u:=by rw[H,List.drop_zero,show U=T.length-1 by omega,X,Dn]
 have n:Z=em u p:=by rw[I,List.drop_zero,show V=A.length/2 by omega,D,Cs h.red f.mem b.mem d]
 have o:a1=em u p:=by rw[J,List.drop_zero,show W=A.length/2 by omega,D,Cs h.red f.mem b.mem d]
 obtain⟨aE,g⟩:=xR (em u (p*p));refine AB P (D9 h.tail a n o f f (by omega) g) ?_;rintro ax M Q ah ⟨a7,F⟩ a2 K ay N S ai ⟨a8,G⟩ a5 L;have t:a2=em u q:=by rw[K,show Q=A.length/2 by omega,F,M,List.take_length,D,Ca h.red f.mem b.mem d]
 have w:a5=em u q:=by rw[L,show S=A.length/2 by omega,G,N,List.take_length,D,Ca h.red f.mem b.mem d]
 obtain⟨aF,j⟩:=xR (em u (q*q));refine AB P (D9 h.tail a t w b b (by omega) j) ?_;have z:a6=em u (AM u r):=by rw[X,FW] at m;exact (Option.some.inj m).symm.trans (Ea h.red)
 obtain⟨aG,k⟩:=xR (em u (q*q*AM u r));refine AB P (D9 h.tail a j z (b.mul h.tail b) O (by omega) k) ?_;obtain⟨aH,l⟩:=xR (em u (p*p-q*q*AM u r));refine AB P (OA h.tail g k (f.mul h.tail f) ((b.mul h.tail b).mul h.tail O) (by omega) (by omega) l) ?_;exact AF (by rw[hC,l])
def Qh (R:Nat) (u:List (List Rat)):Prop:=∀{T:List LR} {A B:LR} {zn s:Nat} {x y:Re},T=tw u->A=em u x->El u s x->In u y->x*y=1->II u.length R s<=60000000000000->B=em u y->zn=B.length->
 CF 185 [.one (.sl (.sl AA) T),.one (.sl AA A)] (.AI [(false,[.own AA B zn]),(false,[.int .i64 0])])
theorem fM {p q:Rat} (K:T=[]) (t:A=[rp p]) (H:B=[rp q]) (b:p≠0) (w:q=1/p) (z:zn=B.length):CF 185 [.one (.sl (.sl AA) T),.one (.sl AA A)] (.AI [(false,[.own AA B zn]),(false,[.int .i64 0])]):=by
 refine AG Tryz.func185 fun E J=>?_
 rintro M ⟨n,f13⟩;refine CH (fun h=>?_) fun h=>?_
 ·exact absurd (by rw[n,K];rfl) h
 have I:A.length=1:=by rw[t];rfl
 refine AW 0 fun F f=>?_
 try conv=>cbv
 have d:=E7 t f;rintro D ⟨o,f20⟩;conv=>cbv
 have G:D=((List.length (α:=UInt32) F.1.2:Nat):Int):=o;refine BO (fun C=>?_) fun C=>?_
 ·exact absurd (Rat.num_eq_zero.1 (d.num.Fp.1 (by omega))) b
 refine AW 0 fun N g=>?_
 try conv=>cbv
 have L:=E7 t g;obtain⟨l,m,j,k,a⟩:=CA q;refine AB J (eW L b w a) ?_;refine⟨[((l,m),(j,k))],fun _=>⟨rfl,by decide,rfl,⟨rfl,by first | exact t1 | exact t2 | exact t4 | simp[BR,BV,cells],trivial⟩⟩,.inl ?_⟩;try conv=>cbv
 exact AE ⟨⟨rfl,.inr (.inl ⟨_,_,by decide,rfl,rfl,rfl,rfl,Dm (by rw[H,a.rp]) (by rw[z,H];rfl)⟩),trivial⟩,t2,trivial⟩
theorem fO {y:Re} (h:BF R (r::u)) (ih:Qh R u) (hT:T=tw (r::u)) (P:A=em (r::u) x) (hx:El (r::u) s x) (J:x=p+q*rt u r) (S:El u s p) (V:El u s q) (h0:q=0) (Q:In u i) (U:p*i=1) (hs:II (r::u).length R s<=60000000000000) (hB:B=em (r::u) i) (W:zn=B.length):CF 185 [.one (.sl (.sl AA) T),.one (.sl AA A)] (.AI [(false,[.own AA B zn]),(false,[.int .i64 0])]):=by
 have aw:T.length=u.length+1:=by rw[hT,CG];rfl
 have au:A.length=2^u.length+2^u.length:=by rw[P,Bn hx.mem,B8]
 have av:II (r::u).length R s=s+EE u.length R+II u.length R (2*s+2*EE u.length R+R+1):=rfl;have ad:=Jd u.length R (s:=s) (t:=2*s+2*EE u.length R+R+1) (by omega);refine AG Tryz.func185 fun E L=>?_
 rintro aA ⟨al,f13⟩;refine BO (fun K=>?_) fun K=>?_
 ·exact absurd K (by omega)
 rintro aB ⟨an,f28⟩ aC aq aD ⟨ao,f32⟩ aE ar ax aa N a5 X C ay H M ak ⟨a2,z⟩ Y D;have n:Y=em u q:=by rw[D,show M=A.length/2 by omega,z,H,List.take_length,P,Ca h.red S.mem V.mem J]
 refine AB L (ID h.tail.red V.mem n h0) ?_;intro az ab O a6 Z F;have a:X=tw u:=by rw[C,List.drop_zero,show N=T.length-1 by omega,hT,Dn]
 have o:Z=em u p:=by rw[F,List.drop_zero,show O=A.length/2 by omega,P,Cs h.red S.mem V.mem J]
 obtain⟨j,b⟩:=xR (em u i);obtain⟨af,d⟩:=xN j.length;refine AB L (ih a o S Q U (by omega) b d) ?_;refine BH ?_;obtain⟨ai,aj,ag,ah,l⟩:=CA (((0:Int):Rat));refine AB L (EN (by omega) rfl l) ?_;obtain⟨g,f⟩:=xR (em u (0));refine AB (r:= .one (.sl AA g)) L (Gp h.tail a l (by rw[show Re.ofRat ((0:Int):Rat)=0 from rfl];exact f)) ?_;have a7:j.length=2^u.length:=by rw[b,Bn Q]
 have a8:g.length=2^u.length:=by rw[f,Bn (CN u)]
 have ae:=DX h.tail.ht;refine .inl ⟨g,fun _=>⟨rfl,d,rfl,by show (j.length+g.length)*64<=140737488355328;(try simp only[List.length_take,List.length_drop]);omega⟩,?_⟩;intro (w:LR) a1 m;have G:w=(j:LR)++(g:LR):=m.1;have I:a1=List.length (α:=(el AA)) w:=m.2;conv=>cbv
 have k:B=w:=by rw[hB,G,b,f];exact FC h.red Q (CN u) (by clear ih;grind)
 exact AE ⟨⟨rfl,.inr (.inl ⟨_,_,by decide,rfl,rfl,I,rfl,Dm (k) (by rw[W,k])⟩),trivial⟩,t2,trivial⟩
theorem fN (h:BF R (r::u)) (ih:Qh R u) (hT:T=tw (r::u)) (J:A=em (r::u) x) (hx:El (r::u) s x) (k:x=p+q*rt u r) (t:El u s p) (l:El u s q) (h0:q≠0) (hi:In u i) (K:(p*p-q*q*AM u r)*i=1) (hy:y=p*i+ -q*i*rt u r) (hs:II (r::u).length R s<=60000000000000) (hB:B=em (r::u) y) (a6:zn=B.length):CF 185 [.one (.sl (.sl AA) T),.one (.sl AA A)] (.AI [(false,[.own AA B zn]),(false,[.int .i64 0])]):=by
 have aC:T.length=u.length+1:=by rw[hT,CG];rfl
 have aA:A.length=2^u.length+2^u.length:=by rw[J,Bn hx.mem,B8]
 have aB:II (r::u).length R s=s+EE u.length R+II u.length R (2*s+2*EE u.length R+R+1):=rfl;have hN:=El.norm h t.mem l.mem (k ▸ hx);have b:=hN.inv h.tail hi K;have an:=Ek u.length R (2*s+2*EE u.length R+R+1);have W:=(l.neg h.red.1).mul h.tail b;refine AG Tryz.func185 fun E I=>?_
 rintro aH ⟨av,f13⟩;refine BO (fun Y=>?_) fun Y=>?_
 ·exact absurd Y (by omega)
 rintro aI ⟨aw,f28⟩ aJ ay aK ⟨ax,f32⟩ aL az aD ak a2 ag a7 N aE U Z ar ⟨ae,L⟩ a8 O;have D:a8=em u q:=by rw[O,show Z=A.length/2 by omega,L,U,List.take_length,J,Ca h.red t.mem l.mem k]
 refine AB I (Ix h.tail.red l.mem D h0) ?_;have a:a7=tw u:=by rw[N,List.drop_zero,show a2=T.length-1 by omega,hT,Dn]
 obtain⟨aM,w⟩:=xR (em u (p*p-q*q*AM u r));refine AB I (VW h hT J hx k t l (by omega) w) ?_;obtain⟨aN,d⟩:=xR (em u i);refine AB I (DV (ih a w hN hi K (by omega) d rfl)) ?_;refine BH ?_;intro aF al a5 ah aa P;have F:aa=em u p:=by rw[P,List.drop_zero,show a5=A.length/2 by omega,J,Cs h.red t.mem l.mem k]
 obtain⟨m,f⟩:=xR (em u (p*i));obtain⟨aq,g⟩:=xN m.length;refine AB I (cQ h.tail a F d t b (by omega) f g) ?_;rintro aG V a1 au ⟨af,M⟩ ab Q;have G:ab=em u q:=by rw[Q,show a1=A.length/2 by omega,M,V,List.take_length,J,Ca h.red t.mem l.mem k]
 obtain⟨aO,z⟩:=xR (em u (-q));refine AB I (Kf h.tail G l z) ?_;obtain⟨n,j⟩:=xR (em u (-q*i));refine AB I (D9 h.tail a z d (l.neg h.red.1) b (by omega) j) ?_;have ai:m.length=2^u.length:=by rw[f,Bn (t.mul h.tail b).mem]
 have aj:n.length=2^u.length:=by rw[j,Bn W.mem]
 have ao:=DX h.tail.ht;refine .inl ⟨n,fun _=>⟨rfl,g,rfl,by show (m.length+n.length)*64<=140737488355328;(try simp only[List.length_take,List.length_drop]);omega⟩,?_⟩;intro (H:LR) ad C;have S:H=(m:LR)++(n:LR):=C.1;have X:ad=List.length (α:=(el AA)) H:=C.2;conv=>cbv
 refine g2 rfl ?_;have o:B=H:=by rw[hB,S,f,j];exact FC h.red (t.mul h.tail b).mem W.mem hy
 exact AE ⟨⟨rfl,.inr (.inl ⟨_,_,by decide,rfl,rfl,X,rfl,Dm (o) (by rw[a6,o])⟩),trivial⟩,t2,trivial⟩
theorem qZ (h:BF R u):Qh R u:=by
 induction u with
 | nil=>
  intro T A B zn s x y t j g H b F k f;obtain⟨p,rfl⟩:=Ct.1 g.mem;obtain⟨q,rfl⟩:=Ct.1 H;rw[EB] at j k;rw[<-Re.ofRat_mul] at b;have e:=Re.Ib.1 b;exact fM t j k (by intro I;subst I;grind) (by grind) f
 | cons r u d=>
  intro T A B zn s x y t j g H b F k f;obtain⟨p,q,a,m,w⟩:=El.parts h.red g;have M:=Cu h.red;have K:(0:Re)<1:=Re.HT.2 (show (0:Rat)<1 by decide)
  by_cases o:q=0
  ·have D:p≠0:=by intro e;rw[e,o] at a;rw[a] at b;clear d;grind
   obtain⟨i,C,n⟩:=Dv h.red.1 m.mem D
   have G:y=i:=by
    have:y=i*(x*y):=by
     have J:x=p:=by rw[a,o];clear d;grind
     rw[J];have:i*(p*y)=y*(p*i):=by clear d;grind
     rw[this,n];clear d;grind
    rw[b] at this;clear d;grind
   exact fO (y:=y) h (d h.tail) t j g a m w o C n F (G ▸ k) f
  have L:=El.norm h m.mem w.mem (a ▸ g);have z:p*p-q*q*AM u r≠0:=Ym h.red m.mem w.mem (by intro e;rw[<-a] at e;rw[e] at b;clear d;grind);obtain⟨i,C,l⟩:=Dv h.red.1 L.mem z;refine fN h (d h.tail) t j g a m w o C l ?_ F k f
  have:y=x*y*((p-q*rt u r)*i):=by
   have:x*y*((p-q*rt u r)*i)=y*((p*p-q*q*AM u r)*i):=by rw[a];clear d;grind
   rw[this,l];clear d;grind
  rw[b] at this
  clear d;grind
theorem N9 (h:BF R u) (f:T=tw u) (b:A=em u x) (j:El u s x) (k:In u y) (a:x*y=1) (g:II u.length R s<=60000000000000) (d:B=em u y):
 CF 185 [.one (.sl (.sl AA) T),.one (.sl AA A)] (.AI [(false,[.sl AA B]),(false,[.int .i64 0])]):=DV (qZ h f b j k a g d rfl)
theorem fK (o:T=[]) (m:A=[rp 0]):CF 185 [.one (.sl (.sl AA) T),.one (.sl AA A)] (.AI [(false,[.sl AA (([]:LR))]),(false,[.int .i64 6])]):=by
 refine AG Tryz.func185 fun E w=>?_
 rintro t ⟨h,f13⟩;refine CH (fun f=>?_) fun f=>?_
 ·exact absurd (by rw[h,o];rfl) f
 have n:A.length=1:=by rw[m];rfl
 refine AW 0 fun l d=>?_
 try conv=>cbv
 have b:=E7 m d;rintro k ⟨j,f20⟩;conv=>cbv
 have a:k=((List.length (α:=UInt32) l.1.2:Nat):Int):=j;refine CH (fun g=>?_) fun g=>?_
 ·exact absurd (by rw[a,b.num.Fp.2 rfl];rfl) g
 exact AE ⟨⟨rfl,AL,trivial⟩,t2,trivial⟩
theorem fL (h:BF R (r::u)) (Y:∀{T A},T=tw u->A=em u 0->CF 185 [.one (.sl (.sl AA) T),.one (.sl AA A)] (.AI [(false,[.sl AA []]),(false,[.int .i64 6])])) (H:T=tw (r::u)) (z:A=em (r::u) 0):CF 185 [.one (.sl (.sl AA) T),.one (.sl AA A)] (.AI [(false,[.sl AA (([]:LR))]),(false,[.int .i64 6])]):=by
 have X:El (r::u) 0 0:=El.rat h.red GO;have f:(0:Re)=0+0*rt u r:=by grind
 have W:T.length=u.length+1:=by rw[H,CG];rfl
 have V:A.length=2^u.length+2^u.length:=by rw[z,Bn X.mem,B8]
 refine AG Tryz.func185 fun E G=>?_
 rintro a5 ⟨O,f13⟩;refine BO (fun n=>?_) fun n=>?_
 ·exact absurd n (by omega)
 rintro a6 ⟨P,f28⟩ a7 S a8 ⟨Q,f32⟩ aa U Z L t J C j a1 m o N ⟨I,g⟩ D k;have b:D=em u 0:=by rw[k,show o=A.length/2 by omega,g,m,List.take_length,z,Ca h.red (CN u) (CN u) f]
 refine AB G (ID h.tail.red (CN u) b rfl) ?_;intro a2 M w K F l;have a:C=tw u:=by rw[j,List.drop_zero,show t=T.length-1 by omega,H,Dn]
 have d:F=em u 0:=by rw[l,List.drop_zero,show w=A.length/2 by omega,z,Cs h.red (CN u) (CN u) f]
 refine AB G (Y a d) ?_;refine CU ?_;exact AE ⟨⟨rfl,AL,trivial⟩,t2,trivial⟩
theorem VT:∀{u:List (List Rat)} {R:Nat},BF R u->∀{T A},T=tw u->A=em u 0->CF 185 [.one (.sl (.sl AA) T),.one (.sl AA A)] (.AI [(false,[.sl AA []]),(false,[.int .i64 6])])
 | [],R,h=>fun b a=>fK b (a.trans (EB 0))
 | r::u,R,h=>fun b a=>fL h (VT h.tail) b a
def VM (R:Nat) (u:List (List Rat)):Prop:=∀{T:List LR} {A:LR} {s:Nat} {x:Re} {c:Int},T=tw u->A=em u x->El u s x->VV u.length R s<=60000000000000->c=Bm x->
 CF 171 [.one (.sl (.sl AA) T),.one (.sl AA A)] (.one (.int .i64 c))
theorem fx {p:Rat} (k:T=[]) (g:A=[rp p]) (l:c=D1 p):CF 171 [.one (.sl (.sl AA) T),.one (.sl AA A)] (.one (.int .i64 c)):=by
 refine AG Tryz.func171 fun E j=>?_
 rintro m ⟨f,f11⟩;refine CH (fun d=>?_) fun d=>?_
 ·exact absurd (by rw[f,k];rfl) d
 have h:A.length=1:=by rw[g];rfl
 refine AW 0 fun o b=>?_
 try conv=>cbv
 obtain⟨n,a⟩:=xI (D1 p);refine AB j (Qm (E7 g b) a) ?_;exact AF (l.trans a.symm)
theorem fy (h:BF R (r::u)) (ih:VM R u) (F:T=tw (r::u)) (Q:A=em (r::u) x) (V:El (r::u) s x) (hs:VV (r::u).length R s<=60000000000000) (U:c=Bm x):CF 171 [.one (.sl (.sl AA) T),.one (.sl AA A)] (.one (.int .i64 c)):=by
 obtain⟨p,q,d,N,O⟩:=El.parts h.red V;have ay:T.length=u.length+1:=by rw[F,CG];rfl
 have ax:A.length=2^u.length+2^u.length:=by rw[Q,Bn V.mem,B8]
 have aA:VV (r::u).length R s=VV u.length R (2*s+2*EE u.length R+R+1):=rfl;have aB:=Fw u.length R (2*s+2*EE u.length R+R+1);have az:=H9 u.length R (s:=s) (t:=2*s+2*EE u.length R+R+1) (by omega);have hN:=El.norm h N.mem O.mem (d ▸ V);have g:=Zx h.red;have a2:=Cu h.red;refine AG Tryz.func171 fun E S=>?_
 rintro aH ⟨an,f11⟩;refine BO (fun P=>?_) fun P=>?_
 ·exact absurd P (by omega)
 rintro aI ⟨ao,f18⟩ aJ au aK ⟨aq,f22⟩ aL av aC ah X ad a5 H aO ⟨ar,f27⟩ aP aw aD M W al ⟨ab,G⟩ a6 I m32 ai Y ae a7 J;have m:a7=tw u:=by rw[J,List.drop_zero,show Y=T.length-1 by omega,F,Dn]
 have k:a5=em u p:=by rw[H,List.drop_zero,show X=A.length/2 by omega,Q,Cs h.red N.mem O.mem d]
 obtain⟨aR,a⟩:=xI (Bm p);refine AB S (ih m k N (by omega) a) ?_;intro aE aj Z af a8 K;have n:a8=tw u:=by rw[K,List.drop_zero,show Z=T.length-1 by omega,F,Dn]
 have l:a6=em u q:=by rw[I,show W=A.length/2 by omega,G,M,List.take_length,Q,Ca h.red N.mem O.mem d]
 obtain⟨aS,b⟩:=xI (Bm q);refine AB S (ih n l O (by omega) b) ?_;refine BO (fun w=>?_) fun w=>?_
 ·exact AF (by rw[U,a,d];exact Px g (.inl (Gh.1 (b ▸ w))))
 refine BO (fun z=>?_) fun z=>?_
 ·exact AF (by rw[U,a,d];exact Px g (.inr (by rw[<-a,<-b];exact z)))
 refine BO (fun C=>?_) fun C=>?_
 ·exact AF (by rw[U,b,d];exact aN g (Gh.1 (a ▸ C)))
 intro aF ak a1 ag aa L;have o:aa=tw u:=by rw[L,List.drop_zero,show a1=T.length-1 by omega,F,Dn]
 obtain⟨aU,j⟩:=xR (em u (p*p-q*q*AM u r));refine AB S (VW h F Q V d N O (by omega) j) ?_;obtain⟨aT,f⟩:=xI (Bm (p*p-q*q*AM u r));refine AB S (ih o j hN (by omega) f) ?_;intro aQ D;refine⟨fun _=>by rw[D,a,f];exact aG _ _,?_⟩;refine g2 rfl ?_;exact AF (by rw[U,D,a,f,d];exact aM g a2 (fun e=>C (by rw[a,e];exact GK)) (fun e=>w (by rw[b,e];exact GK)) (by rw[<-a,<-b];exact z))
theorem UT (h:BF R u):VM R u:=by
 induction u with
 | nil=>
  intro T A s x c b a f g d;obtain⟨p,rfl⟩:=Ct.1 f.mem;rw[EB] at a;exact fx b a (d.trans (aI p))
 | cons r u j=>
  intro T A s x c b a f g d;exact fy h (j h.tail) b a f g d
end
section
open Go.RowKit
variable {A:LR} {R s:Nat} {T:List LR} {c:Int} {u:List (List Rat)} {x:Re}
theorem eI (h:BF R u) (d:T=tw u) (a:A=em u x) (j:El u s x) (g:VV u.length R s<=60000000000000) (f:c=Bm x):CF 75 [.one (.sl (.sl AA) T),.one (.sl AA A)] (.one (.int .i64 c)):=by
 refine AG Tryz.func75 fun E b=>?_
 refine AB b (UT h d a j g f) ?_;exact AE ⟨t2,trivial⟩
theorem ef (h:BF R u) (w:T=tw u) (V:VV u.length R R<=60000000000000):CF 345 [.one (.sl (.sl AA) T)] (.one (.bool true)):=by
 have P:T.length=u.length:=by rw[w,CG]
 refine AG Tryz.func345 fun E K=>?_
 refine AB K (VK h w) ?_;refine BH ?_;refine BN [] [0,3] [] (fun vs N k=>∃(i':Nat) (i:Int),vs=[.one (.sl (.sl AA) T),.one (.int .i64 i)]/\(AO i i'/\i'<=T.length)/\k=T.length-i') (T.length-0) ⟨0,0,rfl,⟨BD 0,by omega⟩,rfl⟩ ?_;rintro Y C vs N W ⟨i',i,rfl,⟨Q,S⟩,U⟩;have ei:=Q.eq;refine AS ?_;rintro n9 ⟨Z,f9⟩;refine BW (fun F=>?_) fun F=>?_
 ·exact AE ⟨t2,trivial⟩
 refine .inr ?_;refine AK ?_;intro X M z L G g;refine AW i' fun t n=>?_
 try conv=>cbv
 obtain⟨r,m,l⟩:=KI (u:=u) (i:=i') (by omega);have j:AU (r::pre u i'):=m ▸ (h.pre (i'+1)).red;have D:t=BI r:=by rw[<-w,n] at l;exact Option.some.inj l
 have d:t=em (pre u i') (AM (pre u i') r):=D.trans (Ea j);have b:G=tw (pre u i'):=by rw[g,List.drop_zero,show z=i' by omega,w,Ie]
 obtain⟨J,a⟩:=xI (Bm (AM (pre u i') r));refine AB (r:= .one (.int .i64 J)) K (UT (h.pre i') b d (El.Cz (m ▸ h.pre (i'+1))) (by rw[JM (by omega)];exact Nat.le_trans (MB (by omega) R R) V) a) ?_;intro I f;cases I <;> conv=>cbv
 ·have o:=Ht f;refine AK ?_;intro H O;exact Ba C ⟨i'+1,H,rfl,⟨⟨by omega⟩,by omega⟩,rfl⟩
 have o:=Hu f;exact absurd (a.trans (G1 j.2.2.1)) o
theorem HB (h:BF R u) (b:T=tw u) (f:A=em u x) (g:El u s x) (k:VV u.length R s<=60000000000000) (d:s<=60000000000000) (hR:VV u.length R R<=60000000000000) (j:c=Bm x):CF 298 [.one (.sl (.sl AA) T),.one (.sl AA A)] (.one (.int .i64 c)):=by
 refine AG Tryz.func298 fun E a=>?_
 refine AB a (MC h b f g d) ?_;refine BH ?_;refine AB a (ef h b hR) ?_;refine BH ?_;refine AB a (UT h b f g k j) ?_;exact AE ⟨t2,trivial⟩
theorem eh {C:LR} {r:List Rat} {k:Int} (h:BF R (r::u)) (O:T=tw (r::u)) (Q:AO k u.length) (N:C=em (r::u) (rt u r)):CF 319 [.one (.sl (.sl AA) T),.one (.int .i64 k)] (.one (.sl AA C)):=by
 have M:=Q.eq;have P:(r::u).length<=16:=h.ht;have S:(r::u).length=u.length+1:=rfl;refine AG Tryz.func319 fun E F=>?_
 obtain⟨Z,a1,X,Y,z⟩:=CA (((0:Int):Rat));refine AB F (EN (by omega) rfl z) ?_;obtain⟨o,l⟩:=xR (em (r::u) (0));obtain⟨H,w⟩:=xN o.length;refine AB (r:= .one (.own AA o H)) F (VA h O z (by rw[show Re.ofRat ((0:Int):Rat)=0 from rfl];exact l) w) ?_;intro W D;have L:=(FA (k:=u.length) D M).eq;obtain⟨g,j,d,f,b⟩:=CA (((1:Int):Rat));refine AB F (EN (by omega) rfl b) ?_;have U:o.length=2^u.length+2^u.length:=by rw[l,Bn (CN _),B8]
 have V:=DI u.length;have K:=DX (n:=u.length);refine AK ?_;intro G J;refine⟨((g,j),(d,f)),fun _=>⟨by show _<List.length (α:=(el AA)) o;(first | omega | (simp;omega)),by first | exact t1 | exact t2 | exact t4 | simp[BR,BV,cells]⟩,?_⟩;intro (m:LR) (a:m=List.set (α:=(el AA)) o G (((g,j),(d,f))));have I:m.length=o.length:=by rw[a,List.length_set]
 conv=>cbv
 refine g2 rfl ?_;have t:C=m:=by rw[N,XI h.red,a,l];congr 1 <;> first | omega | exact b.rp
 exact AE ⟨⟨rfl,.inl ⟨_,rfl,by omega,congrArg _ (by rw[t,List.drop_zero,List.take_of_length_le (by omega)])⟩,trivial⟩,trivial⟩
end
section
def TQ (h R s:Nat):Nat:=3*s+4*EE h R+R+GG h R+3+II h R R
def SS:Nat->Nat->Nat->Nat
 | 0,_,s=>s
 | h+1,R,s=>max (VV (h+1) R s) (max (SS h R (TQ h R s)) (s+II h R (TQ h R s+GG h R)+2*EE h R+2))
theorem U5 (h R:Nat) {s t:Nat} (a:s<=t):TQ h R s<=TQ h R t:=by unfold TQ;omega
theorem Nz:∀(h R:Nat) {s t:Nat},s<=t->SS h R s<=SS h R t
 | 0,_,_,_,a=>a
 | h+1,R,s,t,a=>by
  have b:=H9 (h+1) R a;have d:=Nz h R (U5 h R a);have h3:=Jd h R (Nat.add_le_add_right (U5 h R a) (GG h R))
  show max _ (max _ _)<=max _ (max _ _)
  omega
theorem Iw (h R s:Nat):VV (h+1) R s<=SS (h+1) R s:=by show _<=max _ (max _ _);omega
theorem Uw (h R s:Nat):SS h R (TQ h R s)<=SS (h+1) R s:=by show _<=max _ (max _ _);omega
theorem Jf (h R s:Nat):s+II h R (TQ h R s+GG h R)+2*EE h R+2<=SS (h+1) R s:=by show _<=max _ (max _ _);omega
theorem Ux (h R s:Nat):s<=SS h R s:=by
 cases h with
 | zero=>exact Nat.le_refl _
 | succ h=>exact Nat.le_trans (Fw _ _ _) (Iw h R s)
end
end Go.Abs
