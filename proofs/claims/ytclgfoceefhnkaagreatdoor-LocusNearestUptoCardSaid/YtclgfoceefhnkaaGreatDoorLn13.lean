/- Part 14 of a proof. Conditions: each theorem's own. -/
import Derived.Test.YtclgfoceefhnkaaGreatDoorLn12
set_option linter.all false
set_option maxHeartbeats 80000000
set_option maxRecDepth 20000
open Go.Proofs
namespace Go.Abs
section
open Go.RowKit
variable {c n o:Nat} {l u z:List UInt32}
theorem aC {i k:Nat} {w:UInt32} (h:i+k<z.length):((z.set (i+k) w).drop i).take (k+1)=(z.drop i).take k++[w]:=by
 rw[List.drop_set,if_neg (by omega),Nat.add_sub_cancel_left,FB (by rw[List.length_drop];omega)]
theorem Vc {m:Nat} (P:o+n<=l.length) (hl:l.length<=140737488355328) (hm:m=(CV ((l.drop o).take n)).length):Is Tryz.prog 268 (.AZ .u32 0 0 o n) (.arr 0 .u32 l) [] (.one (.AZ .u32 0 0 o m)) (.arr 0 .u32 l):=by
 refine ML Tryz.func268 (by kernel_rfl) rfl fun E Z=>?_
 conv=>cbv
 refine BN [] [0] [0] (fun vs B k=>∃q:Nat,vs=[.one (.AZ .u32 0 0 o q)]/\B=[.arr 0 .u32 l]/\o+q<=l.length/\m=(CV ((l.drop o).take q)).length/\k=q) n ⟨n,rfl,rfl,P,hm,rfl⟩ ?_;rintro W w vs B R ⟨q,rfl,rfl,hq,j,O⟩;conv=>cbv
 intro n4 M;have X:=M.eq;conv=>cbv
 refine E0 (fun Q=>?_) fun Q=>?_
 ·refine⟨fun _=>⟨⟨⟨rfl,.inr (.inr ⟨rfl,rfl,congrArg (AC.AZ .u32 0 0 o) (by rw[j,show q=0 by omega];rfl)⟩),trivial⟩,trivial⟩,rfl,by simp⟩,fun _=>rfl⟩
 intro n9 N;have Y:=N.eq;refine AK ?_;intro S K r F;obtain⟨f,a⟩:=CM (l:=l) (i:=r) (by omega);refine⟨f,fun _=>a,?_⟩;refine AS ?_;intro T g;have I:=g.eq;have f12:=g.lt;refine CH (fun s=>?_) fun s=>?_
 ·have A:f≠0:=fun h=>by subst h;exact s g.eq
  have p:(l.drop o)[q-1]? =some f:=by rw[List.getElem?_drop,show o+(q-1)=r by omega];exact a
  refine⟨fun _=>⟨⟨⟨rfl,.inr (.inr ⟨rfl,rfl,congrArg (AC.AZ .u32 0 0 o) (by rw[j,show q=q-1+1 by omega,DO p,KT A,List.length_append,List.length_take,List.length_drop];simp;omega)⟩),trivial⟩,trivial⟩,rfl,by simp⟩,fun _=>rfl⟩
 refine .inr ?_;intro U v;have J:=v.eq;refine AK ?_;rintro V L H C t d ⟨G,D⟩;refine⟨d,?_,?_⟩
 ·omega
 rw[w];obtain rfl:t=o:=by omega
 refine⟨d,rfl,rfl,by omega,?_,rfl⟩;obtain rfl:f=0:=UInt32.toNat_inj.1 (by show _=0;omega);rw[j,show q=d+1 by omega,DO (x:=0) (by rw[List.getElem?_drop,show t+d=r by omega];exact a),JW]
theorem fD {y p:List UInt32} {q:Int} {X V n':Nat} (hX:AD ((u.drop o).take c)=X) (b8:o+c<=u.length) (bb:u.length<=17592186044400) (T:y=AP V) (aH:y.length=n'+1) (b6:c=n'+2) (aC:X<4294967296*V) (hq:AO q (X/V)) (hp:p=AP (X/V*V)):Bv Tryz.prog 327 [.one (.AZ .u32 0 0 o c),.one (.sl .u32 y)] (.arr 0 .u32 u) (.AI [(false,[.int .u32 q]),(false,[.sl .u32 p])]):=by
 obtain⟨x,hx⟩:=xU ((u.drop o).take c);have bc:x.length=n'+2:=by rw[hx,List.length_take,List.length_drop];omega
 have ai:∀i,i<c->x[i]? =u[o+i]? :=fun i h=>by rw[hx,List.getElem?_take,if_pos h,List.getElem?_drop]
 rw[<-hx] at hX;refine CK Tryz.func327 fun E hE=>?_
 refine AK ?_;rintro bf ⟨aW,f10⟩ ao aU;obtain⟨w,K⟩:=CM (l:=u) (i:=ao) (by omega);refine⟨w,fun _=>K,?_⟩;refine AS ?_;intro bg W bh Y;have aX:=W.eq;have f14:=W.lt;have Y:=wrap_u64 Y;refine AK ?_;intro aJ Z;have Z:=KP (p:=4294967296) Z rfl;have aT:aJ=((w.toNat*4294967296:Nat):Int):=by omega
 refine AK ?_;intro bj b4 aq aV;obtain⟨B,L⟩:=CM (l:=u) (i:=aq) (by omega);refine⟨B,fun _=>L,?_⟩;refine AS ?_;intro bk a1 bl a2;have aY:=a1.eq;have f21:=a1.lt;have a2:=wrap_u64 a2;intro bm N;conv=>cbv
 have N:=KE (p:=w.toNat) (q:=B.toNat) N (by omega) (by omega) (by omega) (by omega);refine AK ?_;intro bn b5;refine AW n' fun f M=>?_
 refine AS ?_;intro bo a5 aK a6;have aZ:=a5.eq;have f28:=a5.lt;have a6:=wrap_u64 a6;have al:x[n'+1]? =some w:=by rw[ai _ (by omega),show o+(n'+1)=ao by omega];exact K
 have an:x[n']? =some B:=by rw[ai _ (by omega),show o+n'=aq by omega];exact L
 have aG:f.toNat≠0:=MU (by rw[<-T];exact M) (by rw[<-T];omega);obtain⟨top,H⟩:∃t,t=B.toNat+4294967296*w.toNat:=⟨_,rfl⟩
 have aD:X=top*2^(32*n')+AD (x.take n'):=by have C:=Cq al;have h2:=Cq an;rw[List.take_of_length_le (by omega),hX] at C;rw[C,h2,EG,H];grind
 have aB:V=f.toNat*2^(32*n')+AD (y.take n'):=by have C:=Cq M;rw[List.take_of_length_le (by omega),T,BS,<-T] at C;rw[C];grind
 have hg:=pS aD (Lp (l:=x) (n:=n')) aB (by omega);have P:0<V:=by have:=Nat.mul_pos (show 0<f.toNat by omega) (Nat.two_pow_pos (32*n'));omega
 have b9:X/V<4294967296:=(Nat.div_lt_iff_lt_mul P).2 aC;have ba:top<18446744073709551616:=by omega
 refine AK ?_;intro aL O;have O:=wrap_u64 O;have a7:aL=((top/f.toNat:Nat):Int):=by rw[O,N,show aK=(f.toNat:Int) by omega,<-H,<-Int.natCast_ediv];have:=Nat.div_le_self top f.toNat;generalize top/f.toNat=Q at *;omega
 refine AK ?_;intro aM a8;obtain⟨aw,j⟩:=xK fun vs U=>∃(G:Nat) (g:Int),vs=[.one (.AZ .u32 0 0 o c),.one (.sl .u32 y),.one (.int .u64 g)]/\U=[.arr 0 .u32 u]/\AO g G/\X/V<=G/\G<4294967296
 refine .inl ⟨[0,1,7],[0],aw,?_,?_⟩
 ·intro vs U hj;rw[j] at hj;obtain⟨G,g,rfl,rfl,ah,az,ag⟩:=hj;have b0:=ah.eq;refine AS ?_;intro aN aa;have aa:=wrap_u32 aa;obtain⟨aQ,s⟩:=CZ (n:=aN) (by omega);have aR:=s.eq;have aS:=s.lt;refine⟨[aQ],fun _=>⟨rfl,by decide,rfl,⟨rfl,CY s,trivial⟩⟩,.inr ?_⟩;try conv=>cbv
  obtain⟨au,I⟩:=xU (AP (V*G));refine AB (r:= .one (.sl .u32 au)) hE (Vb (a:=V) (b:=G) (by rw[T,BS]) (by simp[AD];omega) I (by omega) (by simp)) ?_;refine BN [] [0,1,7,8] [0] (fun vs U k=>∃(D:Nat) (d:Int) (pp:List UInt32),vs=[.one (.AZ .u32 0 0 o c),.one (.sl .u32 y),.one (.int .u64 d),.one (.sl .u32 pp)]/\U=[.arr 0 .u32 u]/\(AO d D/\D<4294967296/\X/V<=D)/\pp=AP (V*D)/\k=D) G ⟨G,g,au,rfl,rfl,⟨ah,ag,az⟩,I,rfl⟩ ?_;rintro J0 aA vs U bd ⟨D,d,pp,rfl,rfl,⟨hd,ae,ay⟩,A,b7⟩;conv=>cbv
  have ed:=hd.eq;have R:c<=(u.drop o).length:=by rw[List.length_drop];omega
  obtain⟨ar,F⟩:=xN ((CV ((u.drop o).take c)).length);obtain⟨aF,S⟩:=Ei R F;refine .inr (.inr (.inl ⟨[],.one (.AZ .u32 0 0 o ar),.arr 0 .u32 u,fun _=>⟨by first | decide | simp[Ck,Cj],trivial⟩,fun _=>⟨EK hE (Vc (by omega) (by omega) F),rfl,rfl⟩,?_⟩));try conv=>cbv
  obtain⟨aP,m⟩:=xI (Bu X (V*D:Nat));refine .inr (.inl ⟨[.one (.sl .u32 (((u).drop o).take ar)),.one (.sl .u32 pp)],.one (.int .i64 aP),fun _=>⟨⟨_,rfl,by omega,rfl⟩,rfl,trivial⟩,fun _=>FG hE (OC rfl (MG (by rw[S,<-hx,hX]) A m)),?_⟩);try conv=>cbv
  refine BW (fun v=>?_) fun v=>?_
  ·intro bp ad;have ad:=wrap_u32 ad;have aE:V*D<=X:=by rw[m] at v;have:=I3 v;omega
   have af:D=X/V:=Nat.le_antisymm ((Nat.le_div_iff_mul_le P).2 (by rw[Nat.mul_comm];exact aE)) ay;refine fun _=>⟨⟨⟨⟨rfl,congrArg _ (by rw[hq.eq,<-af];omega),trivial⟩,⟨rfl,congrArg _ (by rw[hp,A,<-af,Nat.mul_comm]),trivial⟩,trivial⟩,rfl,by simp⟩,rfl⟩
  have aj:X<V*D:=by rw[m] at v;have:=I4 v;omega
  have ax:1<=D:=by apply Nat.pos_of_ne_zero;intro e;rw[e,Nat.mul_zero] at aj;omega
  have ak:pp.length<=17592186044416:=by rw[A];refine Nat.le_trans (Fq (k:=n'+2) ?_) (by omega);have C:=Cv y;rw[aH,T,BS] at C;have h2:2^(32*(n'+2))=4294967296*2^(32*(n'+1)):=EG (n'+1);rw[h2,Nat.mul_comm];exact Nat.mul_lt_mul_of_lt_of_le ae (Nat.le_of_lt C) (by omega)
  refine .inr ?_;intro aO ab;conv=>cbv
  have ab:=wrap_u64 ab;obtain⟨av,J⟩:=xU (AP (V*D-V));refine AB (r:= .one (.sl .u32 av)) hE (Qr A T J (by have:=Nat.mul_le_mul_left V ax;omega) ak) ?_;exact Ba aA ⟨D-1,aO,av,rfl,rfl,⟨⟨by omega⟩,by omega,by have:=(Nat.div_lt_iff_lt_mul P).2 (show X<D*V by rw[Nat.mul_comm];exact aj);omega⟩,by rw[J,Nat.mul_sub,Nat.mul_one],rfl⟩
 cases aM <;> conv=>cbv
 ·have aI:=GX a8;rw[j];exact⟨_,_,rfl,rfl,⟨a7⟩,hg,by omega⟩
 have aI:=GY a8;rw[j];exact⟨4294967295,_,rfl,rfl,⟨rfl⟩,by omega,by omega⟩
theorem fR {m:List UInt32} {a b:Nat} (ab:l=(u.drop o).take c) (aL:o+c<=u.length) (hl:l=AP a) (hm:m=AP b) (hz:z=AP (a-b)) (ai:b<=a) (sl:u.length<=17592186044416):Bv Tryz.prog 328 [.one (.AZ .u32 0 0 o c),.one (.sl .u32 m)] (.arr 0 .u32 u) (.one (.sl .u32 z)):=by
 have ak:m.length<=l.length:=by rw[hl,hm];exact EF ai
 have aJ:l.length=c:=by rw[ab,List.length_take,List.length_drop];omega
 have a7:∀i,i<c->l[i]? =u[o+i]? :=fun i h=>by rw[ab,List.getElem?_take,if_pos h,List.getElem?_drop]
 refine CK Tryz.func328 fun E hE=>?_
 conv=>cbv
 intro aN af;have aC:=af.eq;conv=>cbv
 refine⟨fun _=>⟨by omega,by omega,by show _*4<=140737488355328;omega⟩,?_⟩;intro S (T:List UInt32) Q;have aB:=Q.1;have I:T=List.replicate S (0:el .u32):=Q.2;have aA:T.length=S:=by rw[I,List.length_replicate]
 conv=>cbv
 refine BN [] [0,1,5,6,7] [0,12] (fun vs bl k=>∃(q:List UInt32) (n N i':Nat) (cc i:Int),vs=[.one (.AZ .u32 0 0 o c),.one (.sl .u32 m),.one (.AZ .u32 12 0 0 n),.one (.int .u64 cc),.one (.int .i64 i)]/\bl=[.arr 0 .u32 u,.arr 0 .u32 q]/\(q.length=l.length/\n=q.length/\AO i i'/\i'<=l.length/\AO cc N/\N<=1)/\AD (q.take i')+AD (m.take i')=AD (l.take i')+2^(32*i')*N/\k=l.length-i') (l.length-0) ⟨T,S,0,0,0,0,rfl,rfl,⟨by rw[I,List.length_replicate];omega,by rw[I,List.length_replicate],BD 0,by omega,BD 0,by omega⟩,by simp[AD],rfl⟩ ?_;rintro J0 a5 vs bl aM ⟨q,n,N,i',cc,i,rfl,rfl,⟨hq,hn,hi,aH,hc,aG⟩,hinv,aI⟩;conv=>cbv
 have ei:=hi.eq;have ec:=hc.eq;intro aO ag;have aD:=ag.eq;conv=>cbv
 refine BW (fun al=>?_) fun al=>?_
 ·have J:n<=(q).length:=by omega
  obtain⟨ao,O⟩:=xN ((CV ((q).take n)).length);obtain⟨aj,R⟩:=Ei J O;refine .inr (.inr (.inl ⟨[],.one (.AZ .u32 0 0 0 ao),.arr 0 .u32 q,fun _=>⟨by first | decide | simp[Ck,Cj],trivial⟩,fun _=>⟨EK hE (Gr J (by omega) O),rfl,rfl⟩,?_⟩));try conv=>cbv
  have hk:i'=l.length:=by omega
  have a6:AD (q.take n)=a-b:=by rw[hk,Dk ak,Dk (Nat.le_refl _),hm,hl,BS,BS,<-hl,<-hq,List.take_length] at hinv;have aK:=Cv q;generalize 2^(32*q.length)=P at *;rw[hn,List.take_length];rcases (by omega:N=0\/N=1) with e | e <;> rw[e] at hinv <;> omega
  refine fun _=>⟨⟨⟨⟨rfl,.inl ⟨_,rfl,by omega,congrArg _ (by rw[List.drop_zero,R,a6,hz])⟩,trivial⟩,trivial⟩,rfl,by simp⟩,rfl⟩
 refine .inr ?_;refine AS ?_;rintro aP ⟨aE,f21⟩ aq Z;refine .inr ?_;cases aq <;> conv=>cbv
 ·have an:=Dw Z;refine AK ?_;intro L a8;obtain⟨t,g⟩:=CM (l:=u) (i:=L) (by omega);refine⟨t,fun _=>g,?_⟩;refine AS ?_;intro ar v au A;have ae:=v.eq;have f31:=v.lt;have A:=wrap_u64 A;intro av B;conv=>cbv
  have B:=wrap_u64 B;intro aw C;conv=>cbv
  have C:=wrap_u64 C;intro ax D;conv=>cbv
  have D:=wrap_u64 D;intro V F;conv=>cbv
  have F:=wrap_u32 F;refine AK ?_;intro M aa;obtain⟨s,f⟩:=CZ (n:=V) (by omega);have W:=f.eq;have X:=f.lt;refine⟨s,fun _=>⟨by show _<List.length (α:=UInt32) q;(first | omega | (simp;omega)),CY f⟩,?_⟩;intro (j:List UInt32) (d:j=List.set (α:=UInt32) q M s);have Y:j.length=q.length:=by rw[d,List.length_set]
  refine AK ?_;intro ay G;have G:=EW (p:=4294967296) G rfl;intro r H;conv=>cbv
  have H:=wrap_u64 H;refine AK ?_;intro U ah;refine⟨l.length-(i'+1),?_,?_⟩
  ·omega
  rw[a5];have K:l[i']? =some t:=by rw[a7 _ (by omega),show o+i'=L by omega];exact g
  refine⟨j,n,r.toNat,i'+1,r,U,rfl,rfl,⟨by rw[d,List.length_set];exact hq,by rw[d,List.length_set];exact hn,⟨by omega⟩,by omega,⟨by omega⟩,by omega⟩,?_,rfl⟩;have hs:=LO (w:=s) (o:=q) (i:=i') (xi:=t.toNat) (yi:=0) (Fy:=N) (F1:=r.toNat) (by omega) hinv (by omega);rw[d,show M=i' by omega,Cq K,<-hs,Dk (l:=m) (i:=i'+1) (by omega),Dk (l:=m) (i:=i') (by omega),Nat.mul_zero]
  rfl
 have an:=Dx Z;refine AW i' fun az ad=>?_
 refine AS ?_;intro aQ a1 aR a2;have aF:=a1.eq;have f26:=a1.lt;have a2:=wrap_u64 a2;refine AK ?_;intro L a8;obtain⟨t,g⟩:=CM (l:=u) (i:=L) (by omega);refine⟨t,fun _=>g,?_⟩;refine AS ?_;intro ar v au A;have ae:=v.eq;have f31:=v.lt;have A:=wrap_u64 A;intro av B;conv=>cbv
 have B:=wrap_u64 B;intro aw C;conv=>cbv
 have C:=wrap_u64 C;intro ax D;conv=>cbv
 have D:=wrap_u64 D;intro V F;conv=>cbv
 have F:=wrap_u32 F;refine AK ?_;intro M aa;obtain⟨s,f⟩:=CZ (n:=V) (by omega);have W:=f.eq;have X:=f.lt;refine⟨s,fun _=>⟨by show _<List.length (α:=UInt32) q;(first | omega | (simp;omega)),CY f⟩,?_⟩;intro (j:List UInt32) (d:j=List.set (α:=UInt32) q M s);have Y:j.length=q.length:=by rw[d,List.length_set]
 refine AK ?_;intro ay G;have G:=EW (p:=4294967296) G rfl;intro r H;conv=>cbv
 have H:=wrap_u64 H;refine AK ?_;intro U ah;refine⟨l.length-(i'+1),?_,?_⟩
 ·omega
 rw[a5];have K:l[i']? =some t:=by rw[a7 _ (by omega),show o+i'=L by omega];exact g
 refine⟨j,n,r.toNat,i'+1,r,U,rfl,rfl,⟨by rw[d,List.length_set];exact hq,by rw[d,List.length_set];exact hn,⟨by omega⟩,by omega,⟨by omega⟩,by omega⟩,?_,rfl⟩;have hs:=LO (w:=s) (o:=q) (i:=i') (xi:=t.toNat) (yi:=az.toNat) (Fy:=N) (F1:=r.toNat) (by omega) hinv (by omega);rw[d,show M=i' by omega,Cq K,<-hs,Cq ad]
theorem fB {s:Int} (aA:c<=u.length) (sl:u.length<=17592186044416) (hs:AO s n) (hn:n<=31) (hz:z=AP (AD (u.take c)/2^n)):Bv Tryz.prog 329 [.one (.AZ .u32 0 0 0 c),.one (.int .i64 s)] (.arr 0 .u32 u) (.one (.sl .u32 z)):=by
 have es:=hs.eq;obtain⟨l,hl⟩:=xU (u.take c);have aD:l.length=c:=by rw[hl,List.length_take];omega
 have J:∀i,i<c->l[i]? =u[i]? :=fun i h=>by rw[hl,List.getElem?_take,if_pos h]
 rw[<-hl] at hz;refine CK Tryz.func329 fun E hE=>?_
 conv=>cbv
 intro n9 h9;have e9:=h9.eq;conv=>cbv
 refine⟨fun _=>⟨by omega,by omega,by show _*4<=140737488355328;omega⟩,?_⟩;intro M (N:List UInt32) I;have aq:=I.1;have t:N=List.replicate M (0:el .u32):=I.2;have al:N.length=M:=by rw[t,List.length_replicate]
 conv=>cbv
 refine BN [] [0,1,5,6] [0,10] (fun vs bl k=>∃(o:List UInt32) (m i':Nat) (i:Int),vs=[.one (.AZ .u32 0 0 0 c),.one (.int .i64 s),.one (.AZ .u32 10 0 0 m),.one (.int .i64 i)]/\bl=[.arr 0 .u32 u,.arr 0 .u32 o]/\(o.length=l.length/\m=o.length/\AO i i'/\i'<=l.length)/\AD (o.take i')=AD l/2^n%2^(32*i')/\k=l.length-i') (l.length-0) ⟨N,M,0,0,rfl,rfl,⟨by rw[t,List.length_replicate];omega,by rw[t,List.length_replicate],BD 0,by omega⟩,by simp[AD,Nat.mod_one],rfl⟩ ?_;rintro J0 a2 vs bl aE ⟨o,m,i',i,rfl,rfl,⟨ho,hm,hi,aB⟩,hinv,aC⟩;conv=>cbv
 have ei:=hi.eq;intro aF a8;have ar:=a8.eq;conv=>cbv
 refine BW (fun af=>?_) fun af=>?_
 ·have w:m<=(o).length:=by omega
  obtain⟨ah,G⟩:=xN ((CV ((o).take m)).length);obtain⟨ae,K⟩:=Ei w G;refine .inr (.inr (.inl ⟨[],.one (.AZ .u32 0 0 0 ah),.arr 0 .u32 o,fun _=>⟨by first | decide | simp[Ck,Cj],trivial⟩,fun _=>⟨EK hE (Gr w (by omega) G),rfl,rfl⟩,?_⟩));try conv=>cbv
  have hk:i'=l.length:=by omega
  have a5:AD o=AD l/2^n:=by rw[hk,<-ho,List.take_length,ho] at hinv;rw[hinv];exact Nat.mod_eq_of_lt (Nat.lt_of_le_of_lt (Nat.div_le_self _ _) (Cv l))
  refine fun _=>⟨⟨⟨⟨rfl,.inl ⟨_,rfl,by omega,congrArg _ (by rw[List.drop_zero,K,hz,hm,List.take_length,a5])⟩,trivial⟩,trivial⟩,rfl,by simp⟩,rfl⟩
 refine .inr ?_;refine AK ?_;intro L an;obtain⟨F,C⟩:=CM (l:=u) (i:=L) (by omega);refine⟨F,fun _=>C,?_⟩;refine AS ?_;intro aG V aH W;have au:=V.eq;have f20:=V.lt;have W:=wrap_u64 W;refine AK ?_;intro aI ay;intro aJ ab;have av:=ab.eq;refine AS ?_;intro ai X;refine .inr ?_;cases ai <;> conv=>cbv
 ·have ag:=Dw X;refine AK ?_;intro P f;obtain⟨v,hv⟩:=xN F.toNat;obtain⟨ak,A,f⟩:∃q:Nat,q=v/2^n/\P=q:=⟨_,rfl,shr_var f (by omega) (by omega) (by show n<=64;omega)⟩
  rw[A] at f;intro Q r;conv=>cbv
  have r:=wrap_u32 r;refine AK ?_;intro D a6;obtain⟨j,d⟩:=CZ (n:=Q) (by omega);have S:=d.eq;have T:=d.lt;refine⟨j,fun _=>⟨by show _<List.length (α:=UInt32) o;(first | omega | (simp;omega)),CY d⟩,?_⟩;intro (g:List UInt32) (a:g=List.set (α:=UInt32) o D j);have U:g.length=o.length:=by rw[a,List.length_set]
  refine AK ?_;intro O aa;refine⟨l.length-(i'+1),?_,?_⟩
  ·omega
  rw[a2];have ew:j.toNat=v/2^n%4294967296:=by omega
  have B:l[i']? =some F:=by rw[J _ (by omega),show i'=L by omega];exact C
  refine⟨g,m,i'+1,O,rfl,rfl,⟨by rw[a,List.length_set];exact ho,by rw[a,List.length_set];exact hm,⟨by omega⟩,by omega⟩,?_,rfl⟩;rw[a,show D=i' by omega,FB (by omega),ET,List.length_take,Nat.min_eq_left (by omega),hinv,QE,ew];rw[Nat.div_div_eq_div_mul,Nat.mul_comm (2^n),<-Nat.div_div_eq_div_mul,Oj (by omega:i'<=l.length),Ds B,List.drop_eq_nil_of_le (by omega:l.length<=i'+1),hv,AD,Nat.mul_zero,Nat.add_zero]
 have ag:=Dx X;refine AK ?_;intro aK az a7 ao;obtain⟨R,H⟩:=CM (l:=u) (i:=a7) (by omega);refine⟨R,fun _=>H,?_⟩;refine AS ?_;intro aL Y aM Z;have aw:=Y.eq;have f32:=Y.lt;have Z:=wrap_u64 Z;refine AK ?_;intro aN a1;have a1:=KP (p:=4294967296) a1 rfl;intro aj ad;conv=>cbv
 obtain⟨v,hv,ax⟩:∃v:Nat,v=F.toNat+4294967296*R.toNat/\aj=v:=⟨_,rfl,mN ad (by omega) (by omega) (by omega) (by omega)⟩
 refine AK ?_;intro P f;obtain⟨ak,A,f⟩:∃q:Nat,q=v/2^n/\P=q:=⟨_,rfl,shr_var f (by omega) (by omega) (by show n<=64;omega)⟩
 rw[A] at f;intro Q r;conv=>cbv
 have r:=wrap_u32 r;refine AK ?_;intro D a6;obtain⟨j,d⟩:=CZ (n:=Q) (by omega);have S:=d.eq;have T:=d.lt;refine⟨j,fun _=>⟨by show _<List.length (α:=UInt32) o;(first | omega | (simp;omega)),CY d⟩,?_⟩;intro (g:List UInt32) (a:g=List.set (α:=UInt32) o D j);have U:g.length=o.length:=by rw[a,List.length_set]
 refine AK ?_;intro O aa;refine⟨l.length-(i'+1),?_,?_⟩
 ·omega
 rw[a2];have ew:j.toNat=v/2^n%4294967296:=by omega
 have B:l[i']? =some F:=by rw[J _ (by omega),show i'=L by omega];exact C
 refine⟨g,m,i'+1,O,rfl,rfl,⟨by rw[a,List.length_set];exact ho,by rw[a,List.length_set];exact hm,⟨by omega⟩,by omega⟩,?_,rfl⟩;rw[a,show D=i' by omega,FB (by omega),ET,List.length_take,Nat.min_eq_left (by omega),hinv,QE,ew];rw[Nat.div_div_eq_div_mul,Nat.mul_comm (2^n),<-Nat.div_div_eq_div_mul,Oj (by omega:i'<=l.length),Ds B,Ds (show l[i'+1]? =some R from (by rw[J _ (by omega),show i'+1=a7 by omega];exact H)),gO,hv]
end
section
open Go.RowKit
theorem VS {l m z1 z2:List UInt32} {a b:Nat} (hl:l=AP a) (hm:m=AP b) (hb:0<b) (hz1:z1=AP (a/b)) (hz2:z2=AP (a%b)) (sl:l.length<=17592186043990):CF 270 [.one (.sl .u32 l),.one (.sl .u32 m)] (.AI [(false,[.sl .u32 z1]),(false,[.sl .u32 z2])]):=by
 refine Gs Tryz.func270 fun E hE=>?_
 conv=>cbv
 obtain⟨r22,hr22⟩:=xI (Bu a b);refine BP hE (MG hl hm hr22) ?_;refine AS ?_;intro n23 h23;cases n23 <;> conv=>cbv
 ·have k23:=Dw h23;have hba:b<=a:=by rw[hr22] at k23;have:=I3 k23;omega
  have hml:m.length<=l.length:=by rw[hl,hm];exact EF hba
  have hm0:m.length≠0:=fun e=>by have e2:=List.eq_nil_of_length_eq_zero e;rw[hm] at e2;have:=Ec.1 e2;omega
  refine AS ?_;intro n26 h26 n27 h27;have e26:=h26.eq;have f26:=h26.le;cases n27 <;> conv=>cbv
  ·have k27:=Mz h27;refine AS ?_;intro n41 h41 n42 h42;have e41:=h41.eq;have f41:=h41.le;cases n42 <;> conv=>cbv
   ·have k42:=Bp h42;refine AS ?_;intro n56 h56 n57 h57;have e56:=h56.eq;have f56:=h56.le;refine DH ?_;obtain⟨r59,hr59⟩:∃n:Int,AO n (DL b):=⟨_,⟨rfl⟩⟩
    have er59:=hr59.eq;refine BP hE (VU hm hr59 (by omega)) ?_;conv=>cbv
    obtain⟨n,hn⟩:∃n,n=m.length:=⟨_,rfl⟩
    have hn2:2<=n:=by omega
    obtain⟨xt,hxt⟩:=CM (l:=m) (i:=n-1) (by omega);have hxtb:=hxt;rw[hm] at hxtb;have hxt1:n-1+1=(AP b).length:=by rw[<-hm];omega
    have hxt0:=MU hxtb hxt1;have hsp:=Pa (x:=xt.toNat) (by omega);have hbw:=RD hxtb hxt1 hsp.1 hsp.2.1 hsp.2.2;have h32:=Yc (x:=xt.toNat) (by have:=xt.toNat_lt;omega);obtain⟨s,hs⟩:∃s,s=32-DL xt.toNat:=⟨_,rfl⟩
    intro n60 h60;conv=>cbv
    refine DH ?_;have e60s:n60=(s:Int):=by omega
    have hs60:AO n60 s:=⟨e60s⟩;obtain⟨z63,hz631,hz632⟩:=KG (N:=AD l*2^s) (k:=l.length+1) (Pz l);obtain⟨zn63,hzn63⟩:∃k,k=z63.length:=⟨_,rfl⟩
    refine BP hE (VZ hs60 (by omega) hz631 hz632 hzn63 (by omega)) ?_;conv=>cbv
    obtain⟨z66,hz661,hz662⟩:=KG (N:=AD m*2^s) (k:=m.length+1) (Pz m);refine BP hE (DV (VZ hs60 (by omega) hz661 hz662 rfl (by omega))) ?_;conv=>cbv
    obtain⟨w67,hw67⟩:=xU (AP (AD m*2^s));refine BP hE (Jj hz662 hw67) ?_;conv=>cbv
    obtain⟨hwl,hwV⟩:=aS (b:=b) (n:=n) (s:=s) (x:=xt) (k:=DL xt.toNat) (by rw[<-hm,hn]) (by omega) hxtb hsp.1 hsp.2.1 hsp.2.2 h32 hs;obtain⟨V,hVw⟩:∃V,V=AD w67:=⟨_,rfl⟩
    have hV:V=b*2^s:=by rw[hVw,hw67,BS,hm,BS]
    have hyV:w67=AP V:=by rw[hV,hw67,hm,BS]
    have hwn:w67.length=n:=by rw[hyV,hV];exact hwl
    rw[<-hV] at hwV;intro n69 h69;have e69:=h69.eq;have f69:=h69.le;conv=>cbv
    refine⟨fun _=>⟨by omega,by omega,by show _*4<=140737488355328;omega⟩,?_⟩;intro k70 (l70:List UInt32) ql70;have hk70:=ql70.1;have hl70:l70=List.replicate k70 (0:el .u32):=ql70.2;have gl70:l70.length=k70:=by rw[hl70,List.length_replicate]
    refine AS ?_;intro n72 h72 n74 h74;have e72:=h72.eq;have f72:=h72.le;have e74:=h74.eq;have f74:=h74.le;obtain⟨A,hA⟩:∃A,A=AD z63:=⟨_,rfl⟩
    have hVpos:0<V:=by rw[hV];exact Nat.mul_pos hb (Nat.two_pow_pos s)
    have hk70:k70=l.length:=by omega
    have hk70n:n<=k70:=by omega
    have hzl:zn63=l.length+1/\z63.length=l.length+1:=by omega
    have hs31:s<=31:=by omega
    have hstart:AD (z63.drop (k70-n+1))<V:=bE hz632 hs31 hz631 (by omega) (by omega) hwV;intro n75 h75;conv=>cbv
    refine DH ?_;refine BN [] [10,11,12,13,14] [63,70] (fun vs bl k=>∃(u q:List UInt32) (j':Nat) (i:Int),vs=[.one (.int .i64 n60),.one (.AZ .u32 63 0 0 zn63),.one (.sl .u32 w67),.one (.AZ .u32 70 0 0 k70),.one (.int .i64 i)]/\bl=[.arr 0 .u32 u,.arr 0 .u32 q]/\(u.length=z63.length/\q.length=k70/\AO (i+1) j'/\j'+n<=k70+1)/\AD (u.drop j')<V/\A=AD u+2^(32*j')*AD (q.drop j')*V/\k=j') (k70-n+1) ⟨z63,l70,k70-n+1,n75,rfl,rfl,⟨rfl,by rw[hl70,List.length_replicate],⟨by omega⟩,by omega⟩,hstart,by rw[hl70,List.drop_replicate,IX];simp[hA],rfl⟩ ?_;rintro J0 hJ0 vs bl kk0 ⟨u,q,j',i,rfl,rfl,⟨hul,hql,hi,hjl⟩,hlt,hinv,hk0⟩;conv=>cbv
    clear hr22 h23 k23 hba hml h26 e26 f26 h27 k27 h41 e41 f41 h42 k42 h56 e56 f56 h57 hr59 er59 hn hxt hxtb hxt1 hxt0 hsp hbw h32 hs h60 hz631 hzn63 hz661 hz662 hwl hwV h69 e69 f69 hl70 gl70 h72 e72 f72 h74 e74 f74 hstart h75
    have ei:=hi.eq;refine Kr ?_ ?_ <;> intro k77 <;> conv=>cbv
    ·have hnl123:k70<=(q).length:=by omega
     obtain⟨m123,hm123⟩:=xN ((CV ((q).take k70)).length);obtain⟨hle123,htk123⟩:=Ei hnl123 hm123;refine .inr (.inr (.inl ⟨[],.one (.AZ .u32 0 0 0 m123),.arr 0 .u32 q,fun _=>⟨by first | decide | simp[Ck,Cj],trivial⟩,fun _=>⟨EK hE (Gr hnl123 (by omega) hm123),rfl,rfl⟩,?_⟩));try conv=>cbv
     have hnl125:zn63<=u.length:=by omega
     obtain⟨m125,hm125⟩:=xN ((CV (u.take zn63)).length);obtain⟨hle125,htk125⟩:=Ei hnl125 hm125;refine .inr (.inr (.inl ⟨[],.one (.AZ .u32 0 0 0 m125),.arr 0 .u32 u,fun _=>⟨by first | decide | simp[Ck,Cj],trivial⟩,fun _=>⟨EK hE (Gr hnl125 (by omega) hm125),rfl,rfl⟩,?_⟩));try conv=>cbv
     obtain⟨w127,hw127⟩:=xU (AP (AD (u.take m125)/2^s));refine .inr (.inr (.inr (.inl ⟨63,.arr 0 .u32 u,[.one (.AZ .u32 0 0 0 m125),.one (.int .i64 n60)],.one (.sl .u32 w127),fun _=>⟨rfl,⟨⟨⟨rfl,rfl⟩,rfl⟩,rfl,trivial⟩⟩,fun _=>CW hE (fB (by omega) (by omega) hs60 (by omega) hw127),?_⟩)));try conv=>cbv
     have hj0:j'=0:=by omega
     rw[hj0,List.drop_zero] at hlt;have hinv2:A=AD u+AD q*V:=by rw[hj0] at hinv;simpa using hinv
     have hA2:A=a*2^s:=by rw[hA,hz632,hl,BS]
     obtain⟨e1,e2⟩:=W9 hA2 hV hinv2 hlt hb;have hum:AD (u.take m125)=AD u:=by rw[htk125,BS,List.take_of_length_le (by omega)]
     exact AE ⟨⟨rfl,.inl ⟨_,rfl,by omega,congrArg _ (by rw[List.drop_zero,htk123,<-hql,List.take_length,e1,hz1])⟩,trivial⟩,⟨rfl,congrArg _ (by rw[hz2,hw127,hum,e2]),trivial⟩,trivial⟩
    refine .inr ?_;obtain⟨i',rfl⟩:∃i',j'=i'+1:=⟨j'-1,by omega⟩
    obtain⟨R,hRd⟩:∃R,R=AD (u.drop i'):=⟨_,rfl⟩
    have hVlt:V<2^(32*n):=by have:=Cv w67;rw[<-hVw,hwn] at this;exact this
    have h0:AD (u.drop (i'+n+1))=0:=by have:=R3 (l:=u.drop (i'+1)) (n:=n) (by omega) (by rw[List.length_drop];omega);rwa [List.drop_drop,show i'+1+n=i'+n+1 by omega] at this
    have hRV:R<4294967296*V:=by obtain⟨xi,hxi⟩:=CM (l:=u) (i:=i') (by omega);rw[hRd,Ds hxi];have:=xi.toNat_lt;omega
    refine AS ?_;rintro n84 ⟨e84,f84⟩ n85 h85;refine DH ?_;intro n86 h86;conv=>cbv
    refine DH ?_;refine⟨fun _=>⟨by omega,by omega,by omega⟩,?_⟩;rintro a87 b87 ⟨ha87,hb87⟩;conv=>cbv
    rintro o87 c87 ⟨ho87,hc87⟩;conv=>cbv
    have ho87b:o87=i':=by omega
    have hc87b:c87=n+1:=by omega
    have hseg:AD ((u.drop o87).take c87)=R:=by rw[ho87b,hc87b,hRd];exact Z9 (by omega) h0
    obtain⟨r92,hr92⟩:∃n:Int,AO n (R/V):=⟨_,⟨rfl⟩⟩
    have er92:=hr92.eq;have hqw:R/V<4294967296:=(Nat.div_lt_iff_lt_mul hVpos).2 hRV;obtain⟨Qd,hQd⟩:∃d,d=R/V:=⟨_,rfl⟩
    rw[<-hQd] at er92 hqw;obtain⟨w93,hw93⟩:=xU (AP (R/V*V));refine .inr (.inr (.inr (.inl ⟨63,.arr 0 .u32 u,[.one (.AZ .u32 0 0 o87 c87),.one (.sl .u32 w67)],.AI [(false,[.int .u32 r92]),(false,[.sl .u32 w93])],fun _=>⟨rfl,⟨⟨⟨rfl,rfl⟩,rfl⟩,rfl,trivial⟩⟩,fun _=>CW hE (fD (n':=n-1) hseg (by omega) (by omega) hyV (by omega) (by omega) hRV hr92 hw93),?_⟩)));try conv=>cbv
    refine Er ?_;intro j97 hj97;conv=>cbv
    obtain⟨w97,hw97⟩:=CZ (n:=r92) (by omega);have ew97:=hw97.eq;have fw97:=hw97.lt;refine⟨w97,fun _=>⟨by show _<List.length (α:=UInt32) q;(first | omega | (simp;omega)),CY hw97⟩,?_⟩;intro (l97:List UInt32) (hl97:l97=List.set (α:=UInt32) q j97 w97);have gl97:l97.length=q.length:=by rw[hl97,List.length_set]
    conv=>cbv
    have hnl99:c87<=(u.drop o87).length:=by rw[List.length_drop];omega
    obtain⟨m99,hm99⟩:=xN ((CV ((u.drop o87).take c87)).length);obtain⟨hle99,htk99⟩:=Ei hnl99 hm99;refine .inr (.inr (.inl ⟨[],.one (.AZ .u32 0 0 o87 m99),.arr 0 .u32 u,fun _=>⟨by first | decide | simp[Ck,Cj],trivial⟩,fun _=>⟨EK hE (Vc (by omega) (by omega) hm99),rfl,rfl⟩,?_⟩));try conv=>cbv
    have hdm:=Nat.div_add_mod R V;have hmlt:=Nat.mod_lt R hVpos;have hsub:R-R/V*V=R%V:=by rw[Nat.mul_comm];omega
    obtain⟨w101,hw101⟩:=xU (AP (R%V));refine .inr (.inr (.inr (.inl ⟨63,.arr 0 .u32 u,[.one (.AZ .u32 0 0 o87 m99),.one (.sl .u32 w93)],.one (.sl .u32 w101),fun _=>⟨rfl,⟨⟨⟨rfl,rfl⟩,rfl⟩,rfl,trivial⟩⟩,fun _=>CW hE (fR (a:=R) (b:=R/V*V) rfl (by omega) (by rw[htk99,hseg]) hw93 (by rw[hw101,hsub]) (by rw[Nat.mul_comm];omega) (by omega)),?_⟩)));try conv=>cbv
    refine BN [] [10,11,12,13,14,15,18,19] [63,70] (fun vs bl k=>∃(z:List UInt32) (k':Nat) (j:Int),vs=[.one (.int .i64 n60),.one (.AZ .u32 63 0 0 zn63),.one (.sl .u32 w67),.one (.AZ .u32 70 0 0 k70),.one (.int .i64 i),.one (.AZ .u32 63 0 o87 c87),.one (.sl .u32 w101),.one (.int .i64 j)]/\bl=[.arr 0 .u32 z,.arr 0 .u32 l97]/\(z.length=u.length/\z.take i'=u.take i'/\z.drop (i'+(n+1))=u.drop (i'+(n+1))/\AO j k'/\k'<=n+1)/\AD ((z.drop i').take k')=AD (w101.take k')/\k=n+1-k') (n+1-0) ⟨u,0,0,rfl,rfl,⟨rfl,rfl,rfl,BD 0,by omega⟩,by simp[AD],rfl⟩ ?_;rintro J1 hJ1 vs bl kk1 ⟨z,k',j,rfl,rfl,⟨hzl1,hzt,hzd,hj,hkl⟩,hzv,hk1⟩;conv=>cbv
    have ej:=hj.eq;intro n104 h104;have e104:=h104.eq;conv=>cbv
    refine Md ?_ ?_ <;> intro k105 <;> conv=>cbv
    ·intro n79 h79;conv=>cbv
     refine DH ?_;refine⟨i',?_,?_⟩
     ·omega
     rw[hJ0];have hk2:k'=n+1:=by omega
     rw[hk2] at hzv;have hwl:w101.length<=n+1:=by rw[hw101];have:=EF (Nat.le_of_lt hmlt);rw[<-hyV] at this;omega
     rw[Dk (l:=w101) hwl,hw101,BS] at hzv;have hwq:w97.toNat=R/V:=by rw[<-hQd];omega
     obtain⟨g1,g2⟩:=Zq (u:=u) (z:=z) (A:=A) (V:=V) (i:=i') (n:=n) (Q:=AD (q.drop (i'+1))) (q:=w97.toNat) hzl1 hzt hzd (by omega) h0 (by rw[hwq,hRd]) (by rw[hzv,hRd]) hinv;refine⟨z,l97,i',n79,rfl,rfl,⟨by omega,by omega,⟨by omega⟩,by omega⟩,?_,?_,rfl⟩
     ·rw[g1];exact Nat.mod_lt _ hVpos
     rw[hl97,show j97=i' by omega,Ds (l:=q.set i' w97) (i:=i') (x:=w97) (by rw[List.getElem?_set_self (by omega)]),List.drop_set_of_lt (by omega)];exact g2
    refine .inr ?_;refine Er ?_;intro j110 hj110;conv=>cbv
    obtain⟨w110,hw110⟩:=CZ (n:=0) (by omega);have ew110:=hw110.eq;have fw110:=hw110.lt;refine⟨w110,fun _=>⟨by show _<List.length (α:=UInt32) z;(first | omega | (simp;omega)),CY hw110⟩,?_⟩;intro (l110:List UInt32) (hl110:l110=List.set (α:=UInt32) z j110 w110);have gl110:l110.length=z.length:=by rw[hl110,List.length_set]
    refine AS ?_;rintro n113 ⟨e113,f113⟩ n114 h114;refine .inr ?_;cases n114 <;> conv=>cbv
    ·have k114:=Dw h114;intro n107 h107;conv=>cbv
     refine DH ?_;refine⟨n+1-(k'+1),?_,?_⟩
     ·omega
     rw[hJ1];refine⟨l110,k'+1,n107,rfl,rfl,⟨by omega,?_,?_,⟨by omega⟩,by omega⟩,?_,rfl⟩
     ·rw[hl110,show j110=i'+k' by omega];rw[H2];exact hzt
     ·rw[hl110,show j110=i'+k' by omega,List.drop_set_of_lt (by omega)];exact hzd
     rw[hl110,show j110=i'+k' by omega,aC (by omega),ET,List.length_take,List.length_drop,Nat.min_eq_left (by omega),hzv,Dk (l:=w101) (i:=k'+1) (by omega),Dk (l:=w101) (i:=k') (by omega),show w110.toNat=0 by omega,Nat.mul_zero,Nat.add_zero]
    have k114:=Dx h114;refine AW k' fun x119 hx119=>?_
    refine AS ?_;intro n120 h120;have e120:=h120.eq;have f120:=h120.lt;refine Er ?_;intro j121 hj121;conv=>cbv
    obtain⟨w121,hw121⟩:=CZ (n:=n120) (by omega);have ew121:=hw121.eq;have fw121:=hw121.lt;refine⟨w121,fun _=>⟨by show _<List.length (α:=UInt32) l110;(first | omega | (simp;omega)),CY hw121⟩,?_⟩;intro (l121:List UInt32) (hl121:l121=List.set (α:=UInt32) l110 j121 w121);have gl121:l121.length=l110.length:=by rw[hl121,List.length_set]
    refine AS ?_;intro n107 h107;refine DH ?_;refine⟨n+1-(k'+1),?_,?_⟩
    ·omega
    rw[hJ1];refine⟨l121,k'+1,n107,rfl,rfl,⟨by omega,?_,?_,⟨by omega⟩,by omega⟩,?_,rfl⟩
    ·rw[hl121,hl110,show j121=j110 by omega,List.set_set,show j110=i'+k' by omega];rw[H2];exact hzt
    ·rw[hl121,hl110,show j121=j110 by omega,List.set_set,show j110=i'+k' by omega,List.drop_set_of_lt (by omega)];exact hzd
    rw[hl121,hl110,show j121=j110 by omega,List.set_set,show j110=i'+k' by omega,aC (by omega),ET,List.length_take,List.length_drop,Nat.min_eq_left (by omega),hzv,Cq hx119,show w121.toNat=x119.toNat by omega]
   have k42:=Br h42;refine AW 0 fun x46 hx46=>?_
   refine AS ?_;intro n47 h47;have e47:=h47.eq;have f47:=h47.lt;have hb46:b=x46.toNat:=by have:=Cq hx46;rw[show 0+1=m.length by omega,List.take_length,hm,BS] at this;simpa [AD] using this
   obtain⟨w48,hw48⟩:=xU (AP (AD l/b));obtain⟨r48,hr48⟩:∃n:Int,AO n (AD l%b):=⟨_,⟨rfl⟩⟩
   have er48:=hr48.eq;have hrb:=Nat.mod_lt (AD l) hb;refine BP hE (VR (d:=n47) (b:=b) (AO.of (by omega)) hb (by omega) hw48 hr48 (by omega)) ?_;refine AS ?_;intro Dj h53;have h53:=wrap_u64 h53;obtain⟨w54,hw54⟩:=xU (AP (AD l%b));refine BP (r:= .one (.sl .u32 w54)) hE (MH (AO.of (k:=AD l%b) (by generalize AD l%b=Q at *;omega)) (by generalize AD l%b=Q at *;omega) hw54) ?_;try conv=>cbv
   exact AE ⟨⟨rfl,congrArg _ (by rw[hz1,hw48,hl,BS]),trivial⟩,⟨rfl,congrArg _ (by rw[hz2,hw54,hl,BS]),trivial⟩,trivial⟩
  have k27:=M0 h27;obtain⟨r29,hr29⟩:∃n:Int,AO n (a):=⟨_,⟨rfl⟩⟩
  have er29:=hr29.eq;refine BP (r:= .one (.int .u64 r29)) hE (Va (by omega) (by rw[hl,BS];exact hr29)) ?_;try conv=>cbv
  obtain⟨r31,hr31⟩:∃n:Int,AO n (b):=⟨_,⟨rfl⟩⟩
  have er31:=hr31.eq;refine BP (r:= .one (.int .u64 r31)) hE (Va (by omega) (by rw[hm,BS];exact hr31)) ?_;try conv=>cbv
  have ha64:a<18446744073709551616:=by have:=Cv l;rw[hl,BS] at this;exact Nat.lt_of_lt_of_le this (Nat.pow_le_pow_right (by decide) (by rw[<-hl];omega:32*(AP a).length<=64))
  intro n34 h34;conv=>cbv
  refine Er ?_;have h34:=wrap_u64 h34;have bq:=Nat.div_le_self a b;have h34:n34=((a/b:Nat):Int):=by rw[h34,er29,er31,<-Int.natCast_ediv];generalize a/b=Q at *;omega
  obtain⟨w35,hw35⟩:=xU (AP (a/b));refine BP (r:= .one (.sl .u32 w35)) hE (MH (AO.of (k:=a/b) h34) (by generalize a/b=Q at *;omega) hw35) ?_;refine AS ?_;intro n38 h38;refine Er ?_;have br:=Nat.mod_lt a hb;have h38:n38=((a%b:Nat):Int):=by rw[h38,er29,er31];exact (Int.natCast_emod _ _).symm
  obtain⟨w39,hw39⟩:=xU (AP (a%b));refine BP (r:= .one (.sl .u32 w39)) hE (MH (AO.of (k:=a%b) h38) (by generalize a%b=Q at *;omega) hw39) ?_;try conv=>cbv
  refine g2 rfl ?_;exact AE ⟨⟨rfl,congrArg _ (by rw[hz1,hw35]),trivial⟩,⟨rfl,congrArg _ (by rw[hz2,hw39]),trivial⟩,trivial⟩
 have k23:=Dx h23;have hlt:a<b:=by rw[hr22] at k23;have:=I4 k23;omega
 exact AE ⟨⟨rfl,.inr (.inl ⟨_,congrArg _ (by rw[hz1,Nat.div_eq_of_lt hlt];rfl)⟩),trivial⟩,⟨rfl,congrArg _ (by rw[hz2,Nat.mod_eq_of_lt hlt,hl]),trivial⟩,trivial⟩
end
section
open Go.RowKit
variable {b b1 b2 b3:Bool} {l l1 l2 l3:List UInt32} {q x y:Int}
theorem oV (a:y≠0) (h:x=q*y):q=if (decide (x<0) !=decide (y<0))=true then -((x.natAbs/y.natAbs:Nat):Int) else ((x.natAbs/y.natAbs:Nat):Int):=by
 have f:x.natAbs/y.natAbs=q.natAbs:=by rw[h,Int.natAbs_mul,Nat.mul_div_cancel _ (by omega)]
 rw[f];rcases Int.lt_trichotomy q 0 with d | d | d
 ·rcases Int.lt_or_gt_of_ne a with a | a
  ·have:=Int.mul_pos_of_neg_of_neg d a;rw[decide_eq_false (by omega:¬x<0),decide_eq_true a];simp;omega
  have:=Int.mul_neg_of_neg_of_pos d a;rw[decide_eq_true (by omega:x<0),decide_eq_false (by omega:¬y<0)];simp;omega
 ·subst d
  split <;> simp
 rcases Int.lt_or_gt_of_ne a with a | a
 ·have:=Int.mul_neg_of_pos_of_neg d a;rw[decide_eq_true (by omega:x<0),decide_eq_true a];simp;omega
 have:=Int.mul_pos d a;rw[decide_eq_false (by omega:¬x<0),decide_eq_false (by omega:¬y<0)];simp;omega
theorem eE (j:BA x b1 l1) (k:BA y b2 l2) (t:y≠0) (i:x=q*y) (G:BA q b3 l3) (s1:l1.length<=17592186043000) (s2:l2.length<=17592186043000):CF 332 [.agg (BX b1 l1),.agg (BX b2 l2)] (.AI [(true,(BX b3 l3)),(true,[.bool false,.sl .u32 []]),(false,[.int .i64 0])]):=by
 refine AG Tryz.func332 fun E g=>?_
 refine AB g (IA j) ?_;refine AB g (IA k) ?_;rintro M ⟨L,f17⟩;refine BO (fun H=>?_) fun H=>?_
 ·exact absurd (k.Fp.1 (by omega)) t
 obtain⟨Q,h⟩:=xU (AP (x.natAbs/y.natAbs));obtain⟨P,s⟩:=xU (AP (x.natAbs%y.natAbs));refine AB g (VS j.Bb k.Bb (by omega) h s (by omega)) ?_;intro N D;refine AB (r:= .agg [.bool b3,.sl .u32 l3]) g (HC (by rw[h,BS,D,j.neg,k.neg];exact oV t i) G) ?_;obtain⟨w,B,f⟩:=Ak (x);refine AB (r:= .agg [.bool w,.sl .u32 B]) g (Dr G k (i ▸ f) (by rw[G.Bb];have:=EF (show q.natAbs<=x.natAbs by rw[i,Int.natAbs_mul];exact Nat.le_mul_of_pos_right _ (by omega));rw[<-j.Bb] at this;omega) (by omega)) ?_;obtain⟨A,C,a⟩:=Ak (0);refine AB (r:= .agg [.bool A,.sl .u32 C]) g (VJ j f (by rw[Int.sub_self];exact a) (by omega) (by rw[f.Bb,<-j.Bb];omega)) ?_;obtain⟨J,d⟩:=xI (Cg (0:Int));refine AB g (Jh a d) ?_;obtain⟨K,p⟩:=xI (Cg y);refine AB g (Jh k p) ?_
 have em:J*K=0:=by rw[d,show Cg (0:Int)=0 from rfl,Int.zero_mul]
 refine AK ?_;intro O F I m;refine .inr ?_;cases I <;> conv=>cbv
 ·have v:=Dw m;refine g2 rfl ?_;exact AE ⟨t3,⟨rfl,congrArg _ ((a.neg.trans rfl).symm),congrArg _ ((a.Bb.trans rfl).symm),trivial⟩,t2,trivial⟩
 have v:=Dx m;exact absurd v (by rw[F,d];show ¬_*_<0;rw[show Cg (0:Int)=0 from rfl,Int.zero_mul];decide)
theorem HA (s:BA x b1 l1) (t:BA y b2 l2) (I:BA ((Nat.gcd x.natAbs y.natAbs:Nat):Int) b3 l3) (s1:l1.length<=17592186043000) (s2:l2.length<=17592186043000):CF 198 [.agg (BX b1 l1),.agg (BX b2 l2)] (.agg (BX b3 l3)):=by
 refine AG Tryz.func198 fun E i=>?_
 refine AB i (Jj s.nat s.Bb) ?_;refine AB i (Jj t.nat t.Bb) ?_;refine BN [] [4,5,6] [4] (fun vs D k=>∃(u v:List UInt32) (A B:Nat),vs=[.one (.AR 4 0 0),.one (.sl .u32 u),.one (.sl .u32 v)]/\D=[.var 0 [.bool false,.nil]]/\(u=AP A/\v=AP B/\Nat.gcd A B=Nat.gcd x.natAbs y.natAbs/\u.length<=17592186043000/\v.length<=17592186043000)/\k=B) y.natAbs ⟨l1,l2,x.natAbs,y.natAbs,rfl,rfl,⟨s.Bb,t.Bb,rfl,s1,s2⟩,rfl⟩ ?_;rintro M j vs D J ⟨u,v,A,B,rfl,rfl,⟨hu,f,F,H,p⟩,m⟩;refine AS ?_;rintro K ⟨G,f16⟩;refine E0 (fun w=>?_) fun w=>?_
 ·have g:B=0:=Ec.1 (by rw[<-f];exact List.eq_nil_of_length_eq_zero (by omega));refine AB (r:= .agg [.bool b3,.sl .u32 l3]) i (HC (n:=false) (by rw[hu,BS,<-F,g,Nat.gcd_zero_right];rfl) I) ?_;exact AE ⟨t3,trivial⟩
 refine .inr ?_;have d:0<B:=by apply Nat.pos_of_ne_zero;intro e;rw[e,F8] at f;rw[f] at *;simp at *;omega
 obtain⟨L,h⟩:=xU (AP (A/B));obtain⟨C,a⟩:=xU (AP (A%B));refine AB i (VS hu f d h a (by omega)) ?_;refine⟨A%B,?_,?_⟩
 ·rw[m];exact Nat.mod_lt _ d
 rw[j];exact⟨v,C,B,A%B,rfl,rfl,⟨f,a,by rw[<-F,Nat.gcd_comm B,<-Nat.gcd_rec,Nat.gcd_comm],p,by have:=EF (Nat.le_of_lt (Nat.mod_lt A d));rw[<-a,<-f] at this;omega⟩,rfl⟩
theorem eB {c:Int} (a:BA x b l) (f:AO c (DL x.natAbs)) (sl:l.length<=17592186043000):CF 396 [.agg (BX b l)] (.one (.int .i64 c)):=by
 refine AG Tryz.func396 fun E d=>?_
 refine AB d (Jj a.nat a.Bb) ?_;refine AB d (VU a.Bb f (by omega)) ?_;exact AE ⟨t2,trivial⟩
theorem VO (d:BA x b l):CF 195 [.agg (BX b l)] (.one (.bool true)):=by
 refine AG Tryz.func195 fun E m=>?_
 refine AB m (Jj d.nat d.Bb) ?_;rintro A ⟨t,f6⟩ B ⟨v,f9⟩;refine CH (fun g=>?_) fun g=>?_
 ·exfalso;omega
 intro i a;cases i <;> conv=>cbv
 ·have h:=GD a;refine AK ?_;rintro r ⟨k,f18⟩ s f;exact AF (by have hb:b=true:=(by cases b with | false=>cases a | true=>rfl);have j:=d.neg;rw[hb] at j;have p:x<0:=of_decide_eq_true j.symm;have w:l.length≠0:=(fun e=>by have:=d.Fp.1 e;omega);rw[f,decide_eq_true (by omega)])
 have h:=GF a;refine g2 rfl ?_;exact AE ⟨t2,trivial⟩
end
end Go.Abs
