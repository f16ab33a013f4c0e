/- Part 25 of a proof. Conditions: each theorem's own. -/
import Derived.Test.YtfilemenbchajaaGreatPk23
set_option linter.all false
set_option maxHeartbeats 8000000
set_option maxRecDepth 20000
open Go.Proofs
namespace Go.Abs
open Go.RowKit
theorem Qz {l m z1 z2:List UInt32} {a b:Nat} (hl:l=AR a) (hm:m=AR b) (hb:0<b) (hz1:z1=AR (a/b)) (hz2:z2=AR (a%b)) (sl:l.length<=17592186043990):CF 311 [.one (.sl .u32 l),.one (.sl .u32 m)] (.AE [(false,[.sl .u32 z1]),(false,[.sl .u32 z2])]):=by
 refine AH Tryz.func311 (by kernel_rfl) rfl fun E hE=>?_
 conv=>cbv
 obtain⟨r22,hr22⟩:=xI (BT a b);refine cL hE (LA hl hm hr22) t2 ?_;try conv=>cbv
 intro n23 h23;conv=>cbv
 cases n23 <;> conv=>cbv
 ·have k23:=Ad h23;have hba:b<=a:=by rw[hr22] at k23;have:=G8 k23;omega
  have hml:m.length<=l.length:=by rw[hl,hm];exact DW hba
  have hm0:m.length≠0:=fun e=>by have e2:=List.eq_nil_of_length_eq_zero e;rw[hm] at e2;have:=EL.1 e2;omega
  intro n26 h26;have e26:=h26.eq;have f26:=h26.le;conv=>cbv
  intro n27 h27;conv=>cbv
  cases n27 <;> conv=>cbv
  ·have k27:=I1 h27;intro n41 h41;have e41:=h41.eq;have f41:=h41.le;conv=>cbv
   intro n42 h42;conv=>cbv
   cases n42 <;> conv=>cbv
   ·have k42:=Au h42;intro n56 h56;have e56:=h56.eq;have f56:=h56.le;conv=>cbv
    intro n57 h57;conv=>cbv
    refine g1 (by omega) ?_;obtain⟨r59,hr59⟩:∃n:Int,AS n (CW b):=⟨_,⟨rfl⟩⟩
    have er59:=hr59.eq;refine cL hE (Q1 hm hr59 (by omega)) t1 ?_;try conv=>cbv
    obtain⟨n,hn⟩:∃n,n=m.length:=⟨_,rfl⟩
    have hn2:2<=n:=by omega
    obtain⟨xt,hxt⟩:=AG (l:=m) (i:=n-1) (by omega);have hxtb:=hxt;rw[hm] at hxtb;have hxt1:n-1+1=(AR b).length:=by rw[<-hm];omega
    have hxt0:=Jp hxtb hxt1;have hsp:=MM (x:=xt.toNat) (by omega);have hbw:=Np hxtb hxt1 hsp.1 hsp.2.1 hsp.2.2;have h32:=Tu (x:=xt.toNat) (by have:=xt.toNat_lt;omega);obtain⟨s,hs⟩:∃s,s=32-CW xt.toNat:=⟨_,rfl⟩
    intro n60 h60;conv=>cbv
    refine g1 (by omega) ?_;have e60s:n60=(s:Int):=by omega
    have hs60:AS n60 s:=⟨e60s⟩;obtain⟨z63,hz631,hz632⟩:=H9 (N:=AB l*2^s) (k:=l.length+1) (Mq l (by omega));obtain⟨zn63,hzn63⟩:∃k,k=z63.length:=⟨_,rfl⟩
    refine cL hE (Q5 hs60 (by omega) hz631 hz632 hzn63 (by omega)) t2 ?_;try conv=>cbv
    obtain⟨z66,hz661,hz662⟩:=H9 (N:=AB m*2^s) (k:=m.length+1) (Mq m (by omega));refine cL hE (Cl (Q5 hs60 (by omega) hz661 hz662 rfl (by omega))) t2 ?_;try conv=>cbv
    obtain⟨w67,hw67⟩:=xU (AR (AB m*2^s));refine cL hE (IW hz662 hw67) t1 ?_;try conv=>cbv
    obtain⟨hwl,hwV⟩:=Vk (b:=b) (n:=n) (s:=s) (x:=xt) (k:=CW xt.toNat) (by rw[<-hm,hn]) (by omega) hxtb hsp.1 hsp.2.1 hsp.2.2 h32 hs;obtain⟨V,hVw⟩:∃V,V=AB w67:=⟨_,rfl⟩
    have hV:V=b*2^s:=by rw[hVw,hw67,BB,hm,BB]
    have hyV:w67=AR V:=by rw[hV,hw67,hm,BB]
    have hwn:w67.length=n:=by rw[hyV,hV];exact hwl
    rw[<-hV] at hwV;intro n69 h69;have e69:=h69.eq;have f69:=h69.le;conv=>cbv
    refine⟨fun _=>⟨by omega,by omega,by show _*4<=140737488355328;omega⟩,?_⟩;intro k70 (l70:List UInt32) ql70;have hk70:=ql70.1;have hl70:l70=List.replicate k70 (0:el .u32):=ql70.2;have gl70:l70.length=k70:=by rw[hl70,List.length_replicate]
    conv=>cbv
    intro n72 h72;have e72:=h72.eq;have f72:=h72.le;conv=>cbv
    intro n74 h74;have e74:=h74.eq;have f74:=h74.le;conv=>cbv
    obtain⟨A,hA⟩:∃A,A=AB z63:=⟨_,rfl⟩
    have hVpos:0<V:=by rw[hV];exact Nat.mul_pos hb (Nat.two_pow_pos s)
    have hk70:k70=l.length:=by omega
    have hk70n:n<=k70:=by omega
    have hzl:zn63=l.length+1/\z63.length=l.length+1:=by omega
    have hs31:s<=31:=by omega
    have hstart:AB (z63.drop (k70-n+1))<V:=WC hz632 hs31 hz631 (by omega) (by omega) hwV;intro n75 h75;conv=>cbv
    refine g1 (by omega) ?_;refine .inr ?_
    obtain⟨J0,hJ0⟩:∃J:List AV->List AM->Nat->Prop,J=fun vs bl k=>∃(u q:List UInt32) (j':Nat) (i:Int),vs=[.one (.int .i64 n60),.one (.AT .u32 63 0 0 zn63),.one (.sl .u32 w67),.one (.AT .u32 70 0 0 k70),.one (.int .i64 i)]/\
     bl=[.arr 0 .u32 u,.arr 0 .u32 q]/\(u.length=z63.length/\q.length=k70/\AS (i+1) j'/\j'+n<=k70+1)/\AB (u.drop j')<V/\A=AB u+2^(32*j')*AB (q.drop j')*V/\k=j':=⟨_,rfl⟩
    refine⟨[10,11,12,13,14],[63,70],J0,⟨k70-n+1,by rw[hJ0];exact⟨z63,l70,k70-n+1,n75,rfl,rfl,⟨rfl,by rw[hl70,List.length_replicate],⟨by omega⟩,by omega⟩,hstart,by rw[hl70,List.drop_replicate,Gh];simp[hA],rfl⟩⟩,?_⟩;intro vs bl kk0 hj;rw[hJ0] at hj;obtain⟨u,q,j',i,rfl,rfl,⟨hul,hql,hi,hjl⟩,hlt,hinv,hk0⟩:=hj;conv=>cbv
    clear hr22 h23 k23 hba hml h26 e26 f26 h27 k27 h41 e41 f41 h42 k42 h56 e56 f56 h57 hr59 er59 hn hxt hxtb hxt1 hxt0 hsp hbw h32 hs h60 hz631 hzn63 hz661 hz662 hwl hwV h69 e69 f69 hl70 gl70 h72 e72 f72 h74 e74 f74 hstart h75
    have ei:=hi.eq;intro n77 h77;conv=>cbv
    cases n77 <;> conv=>cbv
    ·have k77:=EC h77;have hnl123:k70<=(q).length:=by omega
     obtain⟨m123,hm123⟩:=xN ((Bk ((q).take k70)).length);obtain⟨hle123,htk123⟩:=Dl hnl123 hm123;refine .inr (.inr (.inl ⟨[],.one (.AT .u32 0 0 0 m123),.arr 0 .u32 q,fun _=>⟨by first | decide | simp[Bw,B4],trivial⟩,fun _=>⟨DS hE (FE hnl123 (by omega) hm123),rfl,rfl⟩,?_⟩));try conv=>cbv
     have hnl125:zn63<=u.length:=by omega
     obtain⟨m125,hm125⟩:=xN ((Bk (u.take zn63)).length);obtain⟨hle125,htk125⟩:=Dl hnl125 hm125;refine .inr (.inr (.inl ⟨[],.one (.AT .u32 0 0 0 m125),.arr 0 .u32 u,fun _=>⟨by first | decide | simp[Bw,B4],trivial⟩,fun _=>⟨DS hE (FE hnl125 (by omega) hm125),rfl,rfl⟩,?_⟩));try conv=>cbv
     obtain⟨w127,hw127⟩:=xU (AR (AB (u.take m125)/2^s));refine .inr (.inr (.inr (.inl ⟨63,.arr 0 .u32 u,[.one (.AT .u32 0 0 0 m125),.one (.int .i64 n60)],.one (.sl .u32 w127),fun _=>⟨rfl,⟨⟨⟨rfl,rfl⟩,rfl⟩,rfl,trivial⟩⟩,fun _=>AP hE (Xr (by omega) (by omega) hs60 (by omega) hw127),?_⟩)));try conv=>cbv
     have hj0:j'=0:=by omega
     rw[hj0,List.drop_zero] at hlt;have hinv2:A=AB u+AB q*V:=by rw[hj0] at hinv;simpa using hinv
     have hA2:A=a*2^s:=by rw[hA,hz632,hl,BB]
     obtain⟨e1,e2⟩:=SZ hA2 hV hinv2 hlt hb;have hum:AB (u.take m125)=AB u:=by rw[htk125,BB,List.take_of_length_le (by omega)]
     exact fA ⟨⟨rfl,.inl ⟨_,rfl,by omega,congrArg _ (by rw[List.drop_zero,htk123,<-hql,List.take_length,e1,hz1])⟩,trivial⟩,⟨rfl,congrArg _ (by rw[hz2,hw127,hum,e2]),trivial⟩,trivial⟩ rfl (by simp)
    have k77:=ED h77;refine .inr ?_;obtain⟨i',rfl⟩:∃i',j'=i'+1:=⟨j'-1,by omega⟩
    obtain⟨R,hRd⟩:∃R,R=AB (u.drop i'):=⟨_,rfl⟩
    have hVlt:V<2^(32*n):=by have:=CL w67;rw[<-hVw,hwn] at this;exact this
    have h0:AB (u.drop (i'+n+1))=0:=by have:=ON (l:=u.drop (i'+1)) (n:=n) (by omega) (by rw[List.length_drop];omega);rwa [List.drop_drop,show i'+1+n=i'+n+1 by omega] at this
    have hRV:R<4294967296*V:=by obtain⟨xi,hxi⟩:=AG (l:=u) (i:=i') (by omega);rw[hRd,DE hxi];have:=xi.toNat_lt;omega
    rintro n84 ⟨e84,f84⟩;conv=>cbv
    intro n85 h85;conv=>cbv
    refine g1 (by omega) ?_;intro n86 h86;conv=>cbv
    refine g1 (by omega) ?_;refine⟨fun _=>⟨by omega,by omega,by omega⟩,?_⟩;rintro a87 b87 ⟨ha87,hb87⟩;conv=>cbv
    rintro o87 c87 ⟨ho87,hc87⟩;conv=>cbv
    have ho87b:o87=i':=by omega
    have hc87b:c87=n+1:=by omega
    have hseg:AB ((u.drop o87).take c87)=R:=by rw[ho87b,hc87b,hRd];exact VW (by omega) h0
    obtain⟨r92,hr92⟩:∃n:Int,AS n (R/V):=⟨_,⟨rfl⟩⟩
    have er92:=hr92.eq;have hqw:R/V<4294967296:=(Nat.div_lt_iff_lt_mul hVpos).2 hRV;obtain⟨Qd,hQd⟩:∃d,d=R/V:=⟨_,rfl⟩
    rw[<-hQd] at er92 hqw;obtain⟨w93,hw93⟩:=xU (AR (R/V*V));refine .inr (.inr (.inr (.inl ⟨63,.arr 0 .u32 u,[.one (.AT .u32 0 0 o87 c87),.one (.sl .u32 w67)],.AE [(false,[.int .u32 r92]),(false,[.sl .u32 w93])],fun _=>⟨rfl,⟨⟨⟨rfl,rfl⟩,rfl⟩,rfl,trivial⟩⟩,fun _=>AP hE (Xu (n':=n-1) hseg (by omega) (by omega) hyV (by omega) (by omega) hRV hr92 hw93),?_⟩)));try conv=>cbv
    refine g2 (by omega) ?_;intro j97 hj97;conv=>cbv
    obtain⟨w97,hw97⟩:=Bm (n:=r92) (by omega);have ew97:=hw97.eq;have fw97:=hw97.lt;refine⟨w97,fun _=>⟨by show _<List.length (α:=UInt32) q;(first | omega | (simp;omega)),Bl hw97⟩,?_⟩;intro (l97:List UInt32) (hl97:l97=List.set (α:=UInt32) q j97 w97);have gl97:l97.length=q.length:=by rw[hl97,List.length_set]
    conv=>cbv
    have hnl99:c87<=(u.drop o87).length:=by rw[List.length_drop];omega
    obtain⟨m99,hm99⟩:=xN ((Bk ((u.drop o87).take c87)).length);obtain⟨hle99,htk99⟩:=Dl hnl99 hm99;refine .inr (.inr (.inl ⟨[],.one (.AT .u32 0 0 o87 m99),.arr 0 .u32 u,fun _=>⟨by first | decide | simp[Bw,B4],trivial⟩,fun _=>⟨DS hE (Q8 (by omega) (by omega) hm99),rfl,rfl⟩,?_⟩));try conv=>cbv
    have hdm:=Nat.div_add_mod R V;have hmlt:=Nat.mod_lt R hVpos;have hsub:R-R/V*V=R%V:=by rw[Nat.mul_comm];omega
    obtain⟨w101,hw101⟩:=xU (AR (R%V));refine .inr (.inr (.inr (.inl ⟨63,.arr 0 .u32 u,[.one (.AT .u32 0 0 o87 m99),.one (.sl .u32 w93)],.one (.sl .u32 w101),fun _=>⟨rfl,⟨⟨⟨rfl,rfl⟩,rfl⟩,rfl,trivial⟩⟩,fun _=>AP hE (YB (a:=R) (b:=R/V*V) rfl (by omega) (by rw[htk99,hseg]) hw93 (by rw[hw101,hsub]) (by rw[Nat.mul_comm];omega) (by omega)),?_⟩)));try conv=>cbv
    refine .inr ?_
    obtain⟨J1,hJ1⟩:∃J:List AV->List AM->Nat->Prop,J=fun vs bl k=>∃(z:List UInt32) (k':Nat) (j:Int),vs=[.one (.int .i64 n60),.one (.AT .u32 63 0 0 zn63),.one (.sl .u32 w67),.one (.AT .u32 70 0 0 k70),.one (.int .i64 i),.one (.AT .u32 63 0 o87 c87),.one (.sl .u32 w101),.one (.int .i64 j)]/\
     bl=[.arr 0 .u32 z,.arr 0 .u32 l97]/\(z.length=u.length/\z.take i'=u.take i'/\z.drop (i'+(n+1))=u.drop (i'+(n+1))/\AS j k'/\k'<=n+1)/\AB ((z.drop i').take k')=AB (w101.take k')/\k=n+1-k':=⟨_,rfl⟩
    refine⟨[10,11,12,13,14,15,18,19],[63,70],J1,⟨n+1-0,by rw[hJ1];exact⟨u,0,0,rfl,rfl,⟨rfl,rfl,rfl,BC 0,by omega⟩,by simp[AB],rfl⟩⟩,?_⟩;intro vs bl kk1 hj;rw[hJ1] at hj;obtain⟨z,k',j,rfl,rfl,⟨hzl1,hzt,hzd,hj,hkl⟩,hzv,hk1⟩:=hj;conv=>cbv
    have ej:=hj.eq;intro n104 h104;have e104:=h104.eq;conv=>cbv
    intro n105 h105;conv=>cbv
    cases n105 <;> conv=>cbv
    ·have k105:=Ad h105;intro n79 h79;conv=>cbv
     refine g1 (by omega) ?_;refine⟨i',?_,?_⟩
     ·omega
     rw[hJ0];have hk2:k'=n+1:=by omega
     rw[hk2] at hzv;have hwl:w101.length<=n+1:=by rw[hw101];have:=DW (Nat.le_of_lt hmlt);rw[<-hyV] at this;omega
     rw[C5 (l:=w101) hwl,hw101,BB] at hzv;have hwq:w97.toNat=R/V:=by rw[<-hQd];omega
     obtain⟨g1,g2⟩:=VF (u:=u) (z:=z) (A:=A) (V:=V) (i:=i') (n:=n) (Q:=AB (q.drop (i'+1))) (q:=w97.toNat) hzl1 hzt hzd (by omega) h0 (by rw[hwq,hRd]) (by rw[hzv,hRd]) hinv;refine⟨z,l97,i',n79,rfl,rfl,⟨by omega,by omega,⟨by omega⟩,by omega⟩,?_,?_,rfl⟩
     ·rw[g1];exact Nat.mod_lt _ hVpos
     rw[hl97,show j97=i' by omega,DE (l:=q.set i' w97) (i:=i') (x:=w97) (by rw[List.getElem?_set_self (by omega)]),List.drop_set_of_lt (by omega)];exact g2
    have k105:=Ae h105;refine .inr ?_;refine g2 (by omega) ?_;intro j110 hj110;conv=>cbv
    obtain⟨w110,hw110⟩:=Bm (n:=0) (by omega);have ew110:=hw110.eq;have fw110:=hw110.lt;refine⟨w110,fun _=>⟨by show _<List.length (α:=UInt32) z;(first | omega | (simp;omega)),Bl hw110⟩,?_⟩;intro (l110:List UInt32) (hl110:l110=List.set (α:=UInt32) z j110 w110);have gl110:l110.length=z.length:=by rw[hl110,List.length_set]
    conv=>cbv
    rintro n113 ⟨e113,f113⟩;conv=>cbv
    intro n114 h114;conv=>cbv
    refine .inr ?_;cases n114 <;> conv=>cbv
    ·have k114:=Ad h114;intro n107 h107;conv=>cbv
     refine g1 (by omega) ?_;refine⟨n+1-(k'+1),?_,?_⟩
     ·omega
     rw[hJ1];refine⟨l110,k'+1,n107,rfl,rfl,⟨by omega,?_,?_,⟨by omega⟩,by omega⟩,?_,rfl⟩
     ·rw[hl110,show j110=i'+k' by omega];rw[GO (by omega)];exact hzt
     ·rw[hl110,show j110=i'+k' by omega,List.drop_set_of_lt (by omega)];exact hzd
     rw[hl110,show j110=i'+k' by omega,VX (by omega),DX,List.length_take,List.length_drop,Nat.min_eq_left (by omega),hzv,C5 (l:=w101) (i:=k'+1) (by omega),C5 (l:=w101) (i:=k') (by omega),show w110.toNat=0 by omega,Nat.mul_zero,Nat.add_zero]
    have k114:=Ae h114;obtain⟨x119,hx119⟩:=AG (l:=w101) (i:=k') (by omega);refine⟨x119,fun _=>⟨by omega,by rw[show (j).toNat=k' by omega];exact hx119⟩,?_⟩;try conv=>cbv
    intro n120 h120;have e120:=h120.eq;have f120:=h120.lt;conv=>cbv
    refine g2 (by omega) ?_;intro j121 hj121;conv=>cbv
    obtain⟨w121,hw121⟩:=Bm (n:=n120) (by omega);have ew121:=hw121.eq;have fw121:=hw121.lt;refine⟨w121,fun _=>⟨by show _<List.length (α:=UInt32) l110;(first | omega | (simp;omega)),Bl hw121⟩,?_⟩;intro (l121:List UInt32) (hl121:l121=List.set (α:=UInt32) l110 j121 w121);have gl121:l121.length=l110.length:=by rw[hl121,List.length_set]
    conv=>cbv
    intro n107 h107;conv=>cbv
    refine g1 (by omega) ?_;refine⟨n+1-(k'+1),?_,?_⟩
    ·omega
    rw[hJ1];refine⟨l121,k'+1,n107,rfl,rfl,⟨by omega,?_,?_,⟨by omega⟩,by omega⟩,?_,rfl⟩
    ·rw[hl121,hl110,show j121=j110 by omega,List.set_set,show j110=i'+k' by omega];rw[GO (by omega)];exact hzt
    ·rw[hl121,hl110,show j121=j110 by omega,List.set_set,show j110=i'+k' by omega,List.drop_set_of_lt (by omega)];exact hzd
    rw[hl121,hl110,show j121=j110 by omega,List.set_set,show j110=i'+k' by omega,VX (by omega),DX,List.length_take,List.length_drop,Nat.min_eq_left (by omega),hzv,B6 hx119,show w121.toNat=x119.toNat by omega]
   have k42:=Av h42;obtain⟨x46,hx46⟩:=AG (l:=m) (i:=0) (by omega);refine⟨x46,fun _=>⟨by omega,hx46⟩,?_⟩;try conv=>cbv
   intro n47 h47;have e47:=h47.eq;have f47:=h47.lt;conv=>cbv
   have hb46:b=x46.toNat:=by have:=B6 hx46;rw[show 0+1=m.length by omega,List.take_length,hm,BB] at this;simpa [AB] using this
   obtain⟨w48,hw48⟩:=xU (AR (AB l/b));obtain⟨r48,hr48⟩:∃n:Int,AS n (AB l%b):=⟨_,⟨rfl⟩⟩
   have er48:=hr48.eq;have hrb:=Nat.mod_lt (AB l) hb;refine cL hE (Xt (d:=n47) (b:=b) (AS.of (by omega)) hb (by omega) hw48 hr48 (by omega)) t2 ?_;try conv=>cbv
   intro Cg h53;conv=>cbv
   have h53:=wrap_u64 h53;obtain⟨w54,hw54⟩:=xU (AR (AB l%b));refine cL (r:= .one (.sl .u32 w54)) hE (Jf (AS.of (k:=AB l%b) (by generalize AB l%b=Q at *;omega)) (by generalize AB l%b=Q at *;omega) hw54) t1 ?_;try conv=>cbv
   exact fA ⟨⟨rfl,congrArg _ (by rw[hz1,hw48,hl,BB]),trivial⟩,⟨rfl,congrArg _ (by rw[hz2,hw54,hl,BB]),trivial⟩,trivial⟩ rfl (by simp)
  have k27:=I2 h27;obtain⟨r29,hr29⟩:∃n:Int,AS n (a):=⟨_,⟨rfl⟩⟩
  have er29:=hr29.eq;refine cL (r:= .one (.int .u64 r29)) hE (Q6 (by omega) (by rw[hl,BB];exact hr29)) t1 ?_;try conv=>cbv
  obtain⟨r31,hr31⟩:∃n:Int,AS n (b):=⟨_,⟨rfl⟩⟩
  have er31:=hr31.eq;refine cL (r:= .one (.int .u64 r31)) hE (Q6 (by omega) (by rw[hm,BB];exact hr31)) t1 ?_;try conv=>cbv
  have ha64:a<18446744073709551616:=by have:=CL l;rw[hl,BB] at this;exact Nat.lt_of_lt_of_le this (Nat.pow_le_pow_right (by decide) (by rw[<-hl];omega:32*(AR a).length<=64))
  intro n34 h34;conv=>cbv
  refine g2 (by omega) ?_;have h34:=wrap_u64 h34;have bq:=Nat.div_le_self a b;have h34:n34=((a/b:Nat):Int):=by rw[h34,er29,er31,<-Int.natCast_ediv];generalize a/b=Q at *;omega
  obtain⟨w35,hw35⟩:=xU (AR (a/b));refine cL (r:= .one (.sl .u32 w35)) hE (Jf (AS.of (k:=a/b) h34) (by generalize a/b=Q at *;omega) hw35) t1 ?_;try conv=>cbv
  intro n38 h38;conv=>cbv
  refine g2 (by omega) ?_;have br:=Nat.mod_lt a hb;have h38:n38=((a%b:Nat):Int):=by rw[h38,er29,er31];exact (Int.natCast_emod _ _).symm
  obtain⟨w39,hw39⟩:=xU (AR (a%b));refine cL (r:= .one (.sl .u32 w39)) hE (Jf (AS.of (k:=a%b) h38) (by generalize a%b=Q at *;omega) hw39) t1 ?_;try conv=>cbv
  refine g2 rfl ?_;exact fA ⟨⟨rfl,congrArg _ (by rw[hz1,hw35]),trivial⟩,⟨rfl,congrArg _ (by rw[hz2,hw39]),trivial⟩,trivial⟩ rfl (by simp)
 have k23:=Ae h23;have hlt:a<b:=by rw[hr22] at k23;have:=G9 k23;omega
 exact fA ⟨⟨rfl,.inr (.inl ⟨_,congrArg _ (by rw[hz1,Nat.div_eq_of_lt hlt];rfl)⟩),trivial⟩,⟨rfl,congrArg _ (by rw[hz2,Nat.mod_eq_of_lt hlt,hl]),trivial⟩,trivial⟩ rfl (by simp)
end Go.Abs
namespace Go.Abs
open Go.RowKit
variable {b b1 b2 b3:Bool} {l l1 l2 l3:List UInt32} {q x y:Int}
theorem fB (a:y≠0) (h:x=q*y):q=if (decide (x<0) !=decide (y<0))=true then -((x.natAbs/y.natAbs:Nat):Int) else ((x.natAbs/y.natAbs:Nat):Int):=by
 have d:x.natAbs/y.natAbs=q.natAbs:=by rw[h,Int.natAbs_mul,Nat.mul_div_cancel _ (by omega)]
 rw[d];rcases Int.lt_trichotomy q 0 with c | c | c
 ·rcases Int.lt_or_gt_of_ne a with a | a
  ·have:=Int.mul_pos_of_neg_of_neg c a;rw[decide_eq_false (by omega:¬x<0),decide_eq_true a];simp;omega
  have:=Int.mul_neg_of_neg_of_pos c a;rw[decide_eq_true (by omega:x<0),decide_eq_false (by omega:¬y<0)];simp;omega
 ·subst c
  split <;> simp
 rcases Int.lt_or_gt_of_ne a with a | a
 ·have:=Int.mul_neg_of_pos_of_neg c a;rw[decide_eq_true (by omega:x<0),decide_eq_true a];simp;omega
 have:=Int.mul_pos c a;rw[decide_eq_false (by omega:¬x<0),decide_eq_false (by omega:¬y<0)];simp;omega
theorem XV (i:Ag x b1 l1) (j:Ag y b2 l2) (p:y≠0) (h:x=q*y) (B:Ag q b3 l3) (s1:l1.length<=17592186043000) (s2:l2.length<=17592186043000):CF 312 [.agg [.bool b1,.sl .u32 l1],.agg [.bool b2,.sl .u32 l2]] (.AE [(true,[.bool b3,.sl .u32 l3]),(true,[.bool false,.sl .u32 []]),(false,[.int .i64 0])]):=by
 refine AH Tryz.func312 (by kernel_rfl) rfl fun E f=>?_
 conv=>cbv
 refine cL f (Gz i) ⟨t2,trivial⟩ ?_;try conv=>cbv
 refine cL f (Gz j) ⟨t2,trivial⟩ ?_;try conv=>cbv
 refine g2 rfl ?_;rintro J ⟨I,f17⟩;conv=>cbv
 intro D k;conv=>cbv
 cases D <;> conv=>cbv
 ·have C:=Au k;obtain⟨N,g⟩:=xU (AR (x.natAbs/y.natAbs));obtain⟨M,o⟩:=xU (AR (x.natAbs%y.natAbs));refine cL f (Qz i.BI j.BI (by omega) g o (by omega)) t2 ?_;try conv=>cbv
  intro K z;conv=>cbv
  refine cL (r:= .agg [.bool b3,.sl .u32 l3]) f (FR (by rw[g,BB,z,i.neg,j.neg];exact fB p h) B) t2 ?_;try conv=>cbv
  obtain⟨t,v,d⟩:=Ac (x);refine cL (r:= .agg [.bool t,.sl .u32 v]) f (DC B j (h ▸ d) (by rw[B.BI];have:=DW (show q.natAbs<=x.natAbs by rw[h,Int.natAbs_mul];exact Nat.le_mul_of_pos_right _ (by omega));rw[<-i.BI] at this;omega) (by omega)) ⟨t2,t2,trivial⟩ ?_;try conv=>cbv
  obtain⟨u,w,a⟩:=Ac (0);refine cL (r:= .agg [.bool u,.sl .u32 w]) f (Qs i d (by rw[Int.sub_self];exact a) (by omega) (by rw[d.BI,<-i.BI];omega)) ⟨t2,t2,trivial⟩ ?_;try conv=>cbv
  refine g2 rfl ?_;obtain⟨G,c⟩:=xI (Bu (0:Int));refine cL f (IT a c) ⟨t2,trivial⟩ ?_;try conv=>cbv
  obtain⟨H,n⟩:=xI (Bu y);refine cL f (IT j n) ⟨t2,trivial⟩ ?_;try conv=>cbv
  have em:G*H=0:=by rw[c,show Bu (0:Int)=0 from rfl,Int.zero_mul]
  intro L A;conv=>cbv
  refine g1 (by omega) ?_;intro F m;conv=>cbv
  refine g2 rfl ?_;refine .inr ?_;cases F <;> conv=>cbv
  ·have s:=Ad m;refine g2 rfl ?_;exact fA ⟨t3,⟨rfl,congrArg _ ((a.neg.trans rfl).symm),congrArg _ ((a.BI.trans rfl).symm),trivial⟩,t2,trivial⟩ rfl (by simp)
  have s:=Ae m;exact absurd s (by rw[A,c];show ¬_*_<0;rw[show Bu (0:Int)=0 from rfl,Int.zero_mul];decide)
 have C:=Av k;exact absurd (j.Eb.1 (by omega)) p
theorem F4 (p:Ag x b1 l1) (s:Ag y b2 l2) (J:Ag ((Nat.gcd x.natAbs y.natAbs:Nat):Int) b3 l3) (s1:l1.length<=17592186043000) (s2:l2.length<=17592186043000):CF 270 [.agg [.bool b1,.sl .u32 l1],.agg [.bool b2,.sl .u32 l2]] (.agg [.bool b3,.sl .u32 l3]):=by
 refine AH Tryz.func270 (by kernel_rfl) rfl fun E j=>?_
 conv=>cbv
 refine cL j (IW p.nat p.BI) t1 ?_;try conv=>cbv
 refine cL j (IW s.nat s.BI) t1 ?_;try conv=>cbv
 refine g2 rfl ?_;refine .inr ?_;obtain⟨G,d⟩:=xJ fun vs C k=>∃(u v:List UInt32) (A B:Nat),vs=[.one (.AD 4 0 0),.one (.sl .u32 u),.one (.sl .u32 v)]/\C=[.var 0 [.bool false,.nil]]/\(u=AR A/\v=AR B/\Nat.gcd A B=Nat.gcd x.natAbs y.natAbs/\u.length<=17592186043000/\v.length<=17592186043000)/\k=B
 refine⟨[4,5,6],[4],G,⟨y.natAbs,by rw[d];exact⟨l1,l2,x.natAbs,y.natAbs,rfl,rfl,⟨p.BI,s.BI,rfl,s1,s2⟩,rfl⟩⟩,?_⟩;intro vs C K F;rw[d] at F;obtain⟨u,v,A,B,rfl,rfl,⟨hu,f,D,I,o⟩,m⟩:=F;conv=>cbv
 rintro L ⟨H,f16⟩;conv=>cbv
 intro w g;conv=>cbv
 cases w <;> conv=>cbv
 ·have t:=CA g;have h:B=0:=EL.1 (by rw[<-f];exact List.eq_nil_of_length_eq_zero (by omega));refine cL (r:= .agg [.bool b3,.sl .u32 l3]) j (FR (n:=false) (by rw[hu,BB,<-D,h,Nat.gcd_zero_right];rfl) J) t2 ?_;try conv=>cbv
  exact fA ⟨t3,trivial⟩ rfl (by simp)
 have t:=CB g;refine .inr ?_;have c:0<B:=by apply Nat.pos_of_ne_zero;intro e;rw[e,E3] at f;rw[f] at *;simp at *;omega
 obtain⟨M,i⟩:=xU (AR (A/B));obtain⟨z,a⟩:=xU (AR (A%B));refine cL j (Qz hu f c i a (by omega)) t2 ?_;try conv=>cbv
 refine⟨A%B,?_,?_⟩
 ·rw[m];exact Nat.mod_lt _ c
 rw[d];exact⟨v,z,B,A%B,rfl,rfl,⟨f,a,by rw[<-D,Nat.gcd_comm B,<-Nat.gcd_rec,Nat.gcd_comm],o,by have:=DW (Nat.le_of_lt (Nat.mod_lt A c));rw[<-a,<-f] at this;omega⟩,rfl⟩
theorem XT {c:Int} (a:Ag x b l) (f:AS c (CW x.natAbs)) (sl:l.length<=17592186043000):CF 361 [.agg [.bool b,.sl .u32 l]] (.one (.int .i64 c)):=by
 refine AH Tryz.func361 (by kernel_rfl) rfl fun E d=>?_
 conv=>cbv
 refine cL d (IW a.nat a.BI) t1 ?_;try conv=>cbv
 refine cL d (Q1 a.BI f (by omega)) t1 ?_;try conv=>cbv
 exact fA ⟨t2,trivial⟩ rfl (by simp)
theorem Qw (d:Ag x b l):CF 348 [.agg [.bool b,.sl .u32 l]] (.one (.bool true)):=by
 refine AH Tryz.func348 (by kernel_rfl) rfl fun E n=>?_
 conv=>cbv
 refine cL n (IW d.nat d.BI) t1 ?_;try conv=>cbv
 rintro v ⟨s,f6⟩;conv=>cbv
 rintro w ⟨t,f9⟩;conv=>cbv
 intro i c;conv=>cbv
 cases i <;> conv=>cbv
 ·have g:=Au c;refine g2 rfl ?_
  exfalso;omega
 have g:=Av c;intro j a;conv=>cbv
 cases j <;> conv=>cbv
 ·have h:=CJ a;rintro p ⟨m,f18⟩;conv=>cbv
  intro r f;conv=>cbv
  refine g2 rfl ?_;exact fA ⟨⟨rfl,congrArg _ (by have hb:b=true:=(by cases b with | false=>cases a | true=>rfl);have k:=d.neg;rw[hb] at k;have o:x<0:=of_decide_eq_true k.symm;have u:l.length≠0:=(fun e=>by have:=d.Eb.1 e;omega);rw[f,decide_eq_true (by omega)]),trivial⟩,trivial⟩ rfl (by simp)
 have h:=CK a;refine g2 rfl ?_;exact fA ⟨t2,trivial⟩ rfl (by simp)
end Go.Abs
