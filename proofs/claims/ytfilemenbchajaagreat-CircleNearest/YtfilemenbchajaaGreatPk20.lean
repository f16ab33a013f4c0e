/- Part 21 of a proof. Conditions: each theorem's own. -/
import Derived.Test.YtfilemenbchajaaGreatPk19
set_option linter.all false
set_option maxHeartbeats 8000000
set_option maxRecDepth 20000
open Go.Proofs
namespace Go.Abs
open Go.RowKit
theorem Wy {x c:Int} {k:Nat} (i:AS x k) (b:k≠0) (d:k<4294967296) (h:AS c (32-Lib.bitLen k)):CF 364 [.one (.int .u32 x)] (.one (.int .i64 c)):=by
 refine AH Tryz.func364 (by kernel_rfl) rfl fun E g=>?_
 conv=>cbv
 obtain⟨o,a⟩:∃n:Int,AS n (Lib.bitLen k):=⟨_,⟨rfl⟩⟩
 have f:=a.eq;refine cL g (QO i d a) t1 ?_;try conv=>cbv
 have hb:=bitLen_spec d b;intro m j;conv=>cbv
 refine g1 (by omega) ?_;exact fA ⟨⟨rfl,congrArg _ (by rw[h.eq];omega),trivial⟩,trivial⟩ rfl (by simp)
theorem Ld {l m z1 z2:List UInt32} {a b:Nat} (hl:l=AR a) (hm:m=AR b) (hb:0<b) (hz1:z1=AR (a/b)) (hz2:z2=AR (a%b)) (sl:l.length<=17592186044000):CF 354 [.one (.sl .u32 l),.one (.sl .u32 m)] (.AE [(false,[.sl .u32 z1]),(false,[.sl .u32 z2])]):=by
 refine AH Tryz.func354 (by kernel_rfl) rfl fun E hE=>?_
 conv=>cbv
 refine .inr ?_;obtain⟨r22,hr22⟩:=xI (BT a b);refine cL hE (LY hl hm hr22) t2 ?_;try conv=>cbv
 intro n23 h23;conv=>cbv
 cases n23 <;> conv=>cbv
 ·have k23:=Ad h23;have hba:b<=a:=by rw[hr22] at k23;have:=G8 k23;omega
  have hml:m.length<=l.length:=by rw[hl,hm];exact DW hba
  intro n28 h28;have e28:=h28.eq;have f28:=h28.le;conv=>cbv
  intro n29 h29;conv=>cbv
  cases n29 <;> conv=>cbv
  ·have k29:=I1 h29;intro n44 h44;have e44:=h44.eq;have f44:=h44.le;conv=>cbv
   intro n45 h45;conv=>cbv
   cases n45 <;> conv=>cbv
   ·have k45:=Au h45;have hm0:m.length≠0:=fun e=>by have e2:=List.eq_nil_of_length_eq_zero e;rw[hm] at e2;have:=EL.1 e2;omega
    obtain⟨n,hn⟩:∃n,n=m.length:=⟨_,rfl⟩
    have hn2:2<=n:=by omega
    intro n55 h55;have e55:=h55.eq;have f55:=h55.le;conv=>cbv
    intro n56 h56;conv=>cbv
    refine g1 (by omega) ?_;obtain⟨x57,hx57⟩:=AG (l:=m) (i:=(n-1)) (by omega);refine⟨x57,fun _=>⟨by omega,by rw[show (n56).toNat=(n-1) by omega];exact hx57⟩,?_⟩;try conv=>cbv
    have hx57b:=hx57;rw[hm] at hx57b;have hx570:x57.toNat≠0:=Jp hx57b (by rw[<-hm];omega);intro n58 h58;have e58:=h58.eq;have f58:=h58.lt;conv=>cbv
    obtain⟨s,hs⟩:∃s,s=32-Lib.bitLen x57.toNat:=⟨_,rfl⟩
    have hbl:=bitLen_spec (x:=x57.toNat) (by omega) hx570;obtain⟨r59,hr59⟩:∃n:Int,AS n s:=⟨_,⟨rfl⟩⟩
    have er59:=hr59.eq;refine cL hE (Wy (k:=x57.toNat) (AS.of (by omega)) hx570 (by omega) (hs ▸ hr59)) t1 ?_;try conv=>cbv
    obtain⟨z62,hz621,hz622⟩:=H9 (N:=AB l*2^s) (k:=l.length+1) (Mq l (by omega));obtain⟨zn62,hzn62⟩:∃k,k=z62.length:=⟨_,rfl⟩
    refine cL hE (Vi hr59 (by omega) hz621 hz622 hzn62 (by omega)) t2 ?_;try conv=>cbv
    obtain⟨z65,hz651,hz652⟩:=H9 (N:=AB m*2^s) (k:=m.length+1) (Mq m (by omega));refine cL hE (Cl (Vi hr59 (by omega) hz651 hz652 rfl (by omega))) t2 ?_;try conv=>cbv
    obtain⟨w66,hw66⟩:=xU (AR (AB m*2^s));refine cL hE (Dx hz652 hw66) t1 ?_;try conv=>cbv
    obtain⟨hwl,hwV⟩:=Vk (b:=b) (n:=n) (s:=s) (x:=x57) (k:=Lib.bitLen x57.toNat) (by rw[<-hm,hn]) (by omega) hx57b hbl.1 hbl.2.1 hbl.2.2.1 hbl.2.2.2 hs;have hV:AB w66=b*2^s:=by rw[hw66,BB,hm,BB]
    have hwn:w66.length=n:=by rw[hw66,hm,BB];exact hwl
    rw[<-hV] at hwV;intro n68 h68;have e68:=h68.eq;have f68:=h68.le;conv=>cbv
    intro n70 h70;have e70:=h70.eq;conv=>cbv
    intro n72 h72;conv=>cbv
    refine g1 (by omega) ?_;refine⟨fun _=>⟨by omega,by omega,by show _*4<=140737488355328;omega⟩,?_⟩;intro k73 (l73:List UInt32) ql73;have hk73:=ql73.1;have hl73:l73=List.replicate k73 (0:el .u32):=ql73.2;have gl73:l73.length=k73:=by rw[hl73,List.length_replicate]
    conv=>cbv
    intro n76 h76;conv=>cbv
    refine g1 (by omega) ?_;obtain⟨x77,hx77⟩:=AG (l:=w66) (i:=(n-1)) (by omega);refine⟨x77,fun _=>⟨by omega,by rw[show (n76).toNat=(n-1) by omega];exact hx77⟩,?_⟩;try conv=>cbv
    intro n78 h78;have e78:=h78.eq;have f78:=h78.lt;conv=>cbv
    intro n79 h79;conv=>cbv
    have h79:=wrap_u64 h79;intro n82 h82;conv=>cbv
    refine g1 (by omega) ?_;obtain⟨x83,hx83⟩:=AG (l:=w66) (i:=(n-2)) (by omega);refine⟨x83,fun _=>⟨by omega,by rw[show (n82).toNat=(n-2) by omega];exact hx83⟩,?_⟩;try conv=>cbv
    intro n84 h84;have e84:=h84.eq;have f84:=h84.lt;conv=>cbv
    intro n85 h85;conv=>cbv
    have h85:=wrap_u64 h85;refine g2 rfl ?_;obtain⟨A,hA⟩:∃A,A=AB z62:=⟨_,rfl⟩
    obtain⟨high,hhigh⟩:∃k,k=x77.toNat:=⟨_,rfl⟩
    obtain⟨next,hnext⟩:∃k,k=x83.toNat:=⟨_,rfl⟩
    obtain⟨hVf,hVf2⟩:=gQ hwn hx77 hx83 hn2;rw[<-hhigh,<-hnext] at hVf;rw[<-hhigh] at hVf2;have hV0:=JK (l:=w66) (n:=n-2);have hV1:=JK (l:=w66) (n:=n-1);have hhi:=aF hwV hVf2 hV1;have hstart:AB (z62.drop k73)<AB w66:=WC hz622 (by omega) hz621 (by omega) (by omega) hwV;have hwlt:=CL w66;rw[hwn] at hwlt;have hVpos:0<AB w66:=by omega
    have hk73n:k73+n=l.length+1:=by omega
    have hzl:zn62=l.length+1/\z62.length=l.length+1:=by omega
    have hs31:s<=31:=by omega
    have e79:n79=(high:Int):=by omega
    have e85:n85=(next:Int):=by omega
    have hhl:high<4294967296:=by omega
    have hnl:next<4294967296:=by omega
    have hn68:n68=(n:Int):=by omega
    have hVpos:0<AB w66:=by omega
    have hk73n:k73+n=l.length+1:=by omega
    have hzl:zn62=l.length+1/\z62.length=l.length+1:=by omega
    have hs31:s<=31:=by omega
    have e79:n79=(high:Int):=by omega
    have e85:n85=(next:Int):=by omega
    have hhl:high<4294967296:=by omega
    have hnl:next<4294967296:=by omega
    have hn68:n68=(n:Int):=by omega
    have hVM:AB w66<=2^(32*(n+1)):=by rw[DR];omega
    intro n87 h87;have e87:=h87.eq;conv=>cbv
    intro n88 h88;conv=>cbv
    refine g1 (by omega) ?_;refine .inr ?_
    obtain⟨J0,hJ0⟩:∃J:List AV->List AM->Nat->Prop,J=fun vs bl k=>∃(u q:List UInt32) (j':Nat) (i:Int),vs=[.one (.int .i64 r59),.one (.AT .u32 62 0 0 zn62),.one (.sl .u32 w66),.one (.int .i64 n68),.one (.AT .u32 73 0 0 k73),.one (.int .u64 n79),.one (.int .u64 n85),.one (.int .i64 i)]/\
     bl=[.arr 0 .u32 u,.arr 0 .u32 q]/\(u.length=z62.length/\q.length=k73/\AS (i+1) j'/\j'<=k73)/\AB (u.drop j')<AB w66/\A=AB u+2^(32*j')*AB (q.drop j')*AB w66/\k=j':=⟨_,rfl⟩
    refine⟨[8,9,10,11,12,13,14,15],[62,73],J0,⟨k73,by rw[hJ0];exact⟨z62,l73,k73,n88,rfl,rfl,⟨rfl,by rw[hl73,List.length_replicate],⟨by omega⟩,by omega⟩,hstart,by rw[List.drop_eq_nil_of_le (by rw[hl73,List.length_replicate];omega)];simp[AB,hA],rfl⟩⟩,?_⟩;intro vs bl kk0 hj;rw[hJ0] at hj;obtain⟨u,q,j',i,rfl,rfl,⟨hul,hql,hi,hjl⟩,hlt,hinv,hk0⟩:=hj;conv=>cbv
    clear hr22 h23 k23 hba hml h28 e28 f28 h29 k29 h44 e44 f44 h45 k45 hm0 hn h55 e55 f55 h56 hx57 hx57b hx570 h58 e58 f58 hs hbl hz621 hzn62 hz651 hz652 hw66 hwl h68 e68 f68 h70 e70 h72 hk73 hl73 gl73 h76 hx77 h78 e78 f78 h79 h82 hx83 h84 e84 f84 h85 hhigh hnext hstart h87 e87 h88
    have ei:=hi.eq;intro n90 h90;conv=>cbv
    cases n90 <;> conv=>cbv
    ·have k90:=EC h90;have hnl169:k73<=(q).length:=by omega
     obtain⟨m169,hm169⟩:=xN ((Bk ((q).take k73)).length);obtain⟨hle169,htk169⟩:=Dl hnl169 hm169;refine .inr (.inr (.inl ⟨[],.one (.AT .u32 0 0 0 m169),.arr 0 .u32 q,fun _=>⟨by first | decide | simp[Bw,B4],trivial⟩,fun _=>⟨DS hE (JO hnl169 (by omega) hm169),rfl,rfl⟩,?_⟩));try conv=>cbv
     refine g2 (by omega) ?_;intro b172 hb172;conv=>cbv
     rintro o172 c172 ⟨ho172,hc172⟩;conv=>cbv
     have ho172:o172=0:=by omega
     subst ho172;have hnl173:c172<=u.length:=by omega
     obtain⟨m173,hm173⟩:=xN ((Bk (u.take c172)).length);obtain⟨hle173,htk173⟩:=Dl hnl173 hm173;refine .inr (.inr (.inl ⟨[],.one (.AT .u32 0 0 0 m173),.arr 0 .u32 u,fun _=>⟨by first | decide | simp[Bw,B4],trivial⟩,fun _=>⟨DS hE (JO hnl173 (by omega) hm173),rfl,rfl⟩,?_⟩));try conv=>cbv
     have hl175:(u.take m173).length<=u.length:=by rw[List.length_take];omega
     obtain⟨z175,hz1751,hz1752⟩:=H9 (N:=AB (u.take m173)/2^s) (k:=(u.take m173).length) (Nat.lt_of_le_of_lt (Nat.div_le_self _ _) (CL _));refine .inr (.inl ⟨[.one (.sl .u32 ((u).take m173)),.one (.int .i64 r59)],.one (.sl .u32 z175),fun _=>⟨⟨_,rfl,by simp <;> omega,by simp⟩,rfl,trivial⟩,fun _=>Fu hE (Cl (NX rfl (Vj hr59 (by omega) hz1751 hz1752 rfl (by omega)))),?_⟩);try conv=>cbv
     obtain⟨w176,hw176⟩:=xU (AR (AB (u.take m173)/2^s));refine cL hE (Dx hz1752 hw176) t1 ?_;try conv=>cbv
     refine g2 rfl ?_;have hj0:j'=0:=by omega
     rw[hj0,List.drop_zero] at hlt;have hinv2:A=AB u+AB q*AB w66:=by rw[hj0] at hinv;simpa using hinv
     have hA2:A=a*2^s:=by rw[hA,hz622,hl,BB]
     obtain⟨e1,e2⟩:=SZ hA2 hV hinv2 hlt hb;have hcn:c172=n:=by omega
     have hun:AB (u.take c172)=AB u:=by rw[hcn];have h1:=Es u n (by omega);rw[ON (by omega) (by omega)] at h1;omega
     have hum:AB (u.take m173)=AB u:=by rw[htk173,BB,hun]
     exact fA ⟨⟨rfl,.inl ⟨_,rfl,by omega,congrArg _ (by rw[List.drop_zero,htk169,<-hql,List.take_length,e1,hz1])⟩,trivial⟩,⟨rfl,congrArg _ (by rw[hz2,hw176,hum,e2]),trivial⟩,trivial⟩ rfl (by simp)
    have k90:=ED h90;refine .inr ?_;obtain⟨i',rfl⟩:∃i',j'=i'+1:=⟨j'-1,by omega⟩
    intro n96 h96;conv=>cbv
    refine g1 (by omega) ?_;refine g2 (by omega) ?_;intro j97 hj97;conv=>cbv
    obtain⟨x98,hx98⟩:=AG (l:=u) (i:=j97) (by omega);refine⟨x98,fun _=>hx98,?_⟩;try conv=>cbv
    intro n98 h98;have e98:=h98.eq;have f98:=h98.lt;conv=>cbv
    intro n99 h99;conv=>cbv
    have h99:=wrap_u64 h99;intro n100 h100;conv=>cbv
    refine g2 (by omega) ?_;have h100:=ID (p:=4294967296) h100 rfl;intro n104 h104;conv=>cbv
    refine g1 (by omega) ?_;intro n105 h105;conv=>cbv
    refine g1 (by omega) ?_;refine g2 (by omega) ?_;intro j106 hj106;conv=>cbv
    obtain⟨x107,hx107⟩:=AG (l:=u) (i:=j106) (by omega);refine⟨x107,fun _=>hx107,?_⟩;try conv=>cbv
    intro n107 h107;have e107:=h107.eq;have f107:=h107.lt;conv=>cbv
    intro n108 h108;conv=>cbv
    have h108:=wrap_u64 h108;intro n109 h109;conv=>cbv
    have h109:=H8 (p:=x98.toNat) (q:=x107.toNat) h109 (by omega) (by omega) (by omega) (by omega);refine g2 rfl ?_;obtain⟨x130y,hy130⟩:=AG (l:=u) (i:=i'+n-2) (by omega);obtain⟨u3,hu3⟩:∃k,k=x130y.toNat:=⟨_,rfl⟩
    obtain⟨R,hRd⟩:∃R,R=AB (u.drop i'):=⟨_,rfl⟩
    obtain⟨top,htop⟩:∃t,t=x107.toNat+4294967296*x98.toNat:=⟨_,rfl⟩
    have h0:AB (u.drop (i'+n+1))=0:=by have:=ON (l:=u.drop (i'+1)) (n:=n) (by omega) (by rw[List.length_drop];omega);rwa [List.drop_drop,show i'+1+n=i'+n+1 by omega] at this
    have hx97:u[i'+n]? =some x98:=by rw[<-hx98];congr 1;omega
    have hx106:u[i'+n-1]? =some x107:=by rw[<-hx107];congr 1;omega
    have hRf:=gR hx97 hx106 hy130 hn2 h0;have hRf2:=gS hx97 hx106 (by omega) h0;rw[<-htop,<-hu3,<-hRd] at hRf;rw[<-htop,<-hRd] at hRf2;have hR0:=JK (l:=u.drop i') (n:=n-2);have hR1:=JK (l:=u.drop i') (n:=n-1);have hRV:R<4294967296*AB w66:=by obtain⟨xi,hxi⟩:=AG (l:=u) (i:=i') (by omega);rw[hRd,DE hxi];have:=xi.toNat_lt;omega
    have hRM:R<2^(32*(n+1)):=by rw[DR];omega
    have htl:=gP hRf2 hVf2 hV1 hRV;have hg0:=aC hRf2 hR1 hVf2 hhi (by omega) htl;have hqw:R/AB w66<4294967296:=(Nat.div_lt_iff_lt_mul hVpos).2 hRV;have hbig:top<18446744073709551616:=by have:=x107.toNat_lt;have:=x98.toNat_lt;omega
    intro n112 h112;conv=>cbv
    refine g2 (by omega) ?_;have h112:=wrap_u64 h112;have e112:n112=((top/high:Nat):Int):=by rw[h112,h109,e79,<-htop,<-Int.natCast_ediv];have:=Nat.div_le_self top high;generalize top/high=Q at *;omega
    intro n115 h115;conv=>cbv
    refine g2 (by omega) ?_;have e115:n115=((top%high:Nat):Int):=by rw[h115,h109,e79,<-htop];exact (Int.natCast_emod _ _).symm
    refine g2 rfl ?_;obtain⟨K3,hK3⟩:=xK fun vs bl=>∃(Dd:Nat) (d:Int),vs=[.one (.int .i64 r59),.one (.AT .u32 62 0 0 zn62),.one (.sl .u32 w66),.one (.int .i64 n68),.one (.AT .u32 73 0 0 k73),.one (.int .u64 n79),.one (.int .u64 n85),.one (.int .i64 i),.one (.int .u64 d)]/\bl=[.arr 0 .u32 u,.arr 0 .u32 q]/\AS d Dd/\JW R (AB w66) Dd
    refine .inl ⟨[8,9,10,11,12,13,14,15,17],[62,73],K3,?_,?_⟩
    ·intro vs bl hj;rw[hK3] at hj;obtain⟨Dd,d,rfl,rfl,hDd,hnear⟩:=hj;conv=>cbv
     clear k90 h96 hj97 hx98 h98 e98 f98 h99 h100 h104 h105 hj106 hx107 h107 e107 f107 h108 h109 hy130 hu3 htop hx97 hx106 hRf hRf2 hR0 hR1 hRV htl hg0 hbig h112 e112 h115 e115
     have eDd:=hDd.eq;intro n146 h146;conv=>cbv
     refine g1 (by omega) ?_;intro n147 h147;conv=>cbv
     refine g1 (by omega) ?_;refine⟨fun _=>⟨by omega,by omega,by omega⟩,?_⟩;rintro a148 b148 ⟨ha148,hb148⟩;conv=>cbv
     rintro o148 c148 ⟨ho148,hc148⟩;conv=>cbv
     have hDw:=hnear.word;have hseg:AB ((u.drop i').take (n+1))=R:=by rw[hRd];exact VW (by omega) h0
     obtain⟨b151,S151,hS151,hSl151⟩:=gB (M:=2^(32*(n+1))) hnear hVpos hRM hVM;have ho148:i'=o148:=by omega
     have hc148:n+1=c148:=by omega
     subst ho148 hc148;obtain⟨z151,hz1511,hz1512,hz1513,hz1514⟩:=VU (u:=u) (off:=i') (len:=n+1) hSl151 (by omega);refine .inr (.inr (.inl ⟨[.one (.sl .u32 w66),.one (.int .u64 d)],.one (.bool b151),.arr 0 .u32 z151,fun _=>⟨by first | decide | simp[Bw,B4],t2⟩,fun _=>⟨DS hE (gD (d:=Dd) (by omega) (by omega) hDd hnear.word (by omega) hz1511 hz1512 hz1513 (by rw[hz1514,hseg];exact hS151)),rfl,rfl⟩,?_⟩));try conv=>cbv
     obtain⟨J151,hJ151⟩:=xK fun vs bl=>∃(z:List UInt32) (q0:Nat) (d:Int),vs=[.one (.int .i64 r59),.one (.AT .u32 62 0 0 zn62),.one (.sl .u32 w66),.one (.int .i64 n68),.one (.AT .u32 73 0 0 k73),.one (.int .u64 n79),.one (.int .u64 n85),.one (.int .i64 i),.one (.int .u64 d)]/\bl=[.arr 0 .u32 z,.arr 0 .u32 q]/\AS d q0/\(q0=R/AB w66/\q0<4294967296)/\(z.length=u.length/\z.take i'=u.take i'/\z.drop (i'+(n+1))=u.drop (i'+(n+1)))/\AB ((z.drop i').take (n+1))=R%AB w66
     refine .inl ⟨[8,9,10,11,12,13,14,15,17],[62,73],J151,?_,?_⟩
     ·intro vs bl hj;rw[hJ151] at hj;obtain⟨z,q0,d,rfl,rfl,hq0,⟨hqR,hqlt⟩,⟨hzl1,hzt,hzd⟩,hzv⟩:=hj;conv=>cbv
      have eq0:=hq0.eq;intro n166 h166;conv=>cbv
      have h166:=wrap_u32 h166;refine g2 (by omega) ?_;intro j167 hj167;conv=>cbv
      obtain⟨w167,hw167⟩:=Bm (n:=n166) (by omega);have ew167:=hw167.eq;have fw167:=hw167.lt;refine⟨w167,fun _=>⟨by show _<List.length (α:=UInt32) q;(first | omega | (simp;omega)),Bl hw167⟩,?_⟩;intro (l167:List UInt32) (hl167:l167=List.set (α:=UInt32) q j167 w167);have gl167:l167.length=q.length:=by rw[hl167,List.length_set]
      conv=>cbv
      intro n92 h92;conv=>cbv
      refine g1 (by omega) ?_;refine⟨i',?_,?_⟩
      ·omega
      rw[hJ0];have hwq:w167.toNat=R/AB w66:=by rw[<-hqR];omega
      obtain⟨g1,g2⟩:=VF (u:=u) (z:=z) (A:=A) (V:=AB w66) (i:=i') (n:=n) (Q:=AB (q.drop (i'+1))) (q:=w167.toNat) hzl1 hzt hzd (by omega) h0 (by rw[hwq,hRd]) (by rw[hzv,hRd]) hinv;refine⟨z,l167,i',n92,rfl,rfl,⟨by omega,by omega,⟨by omega⟩,by omega⟩,?_,?_,rfl⟩
      ·rw[g1];exact Nat.mod_lt _ hVpos
      rw[hl167,show j167=i' by omega,DE (l:=q.set i' w167) (i:=i') (x:=w167) (by rw[List.getElem?_set_self (by omega)]),List.drop_set_of_lt (by omega)];exact g2
     cases b151 <;> conv=>cbv
     ·rw[hJ151];obtain⟨e1,e2⟩:=(Tv hnear hVpos hS151 hSl151).1 rfl;exact⟨z151,Dd,_,rfl,rfl,hDd,⟨e1,hDw⟩,⟨hz1511,hz1512,hz1513⟩,by rw[hz1514,e2]⟩
     intro n153 h153;conv=>cbv
     have h153:=wrap_u64 h153;intro n158 h158;conv=>cbv
     refine g1 (by omega) ?_;intro n159 h159;conv=>cbv
     refine g1 (by omega) ?_;refine⟨fun _=>⟨by omega,by omega,by omega⟩,?_⟩;rintro a160 b160 ⟨ha160,hb160⟩;conv=>cbv
     rintro o160 c160 ⟨ho160,hc160⟩;conv=>cbv
     have ho160:i'=o160:=by omega
     have hc160:n+1=c160:=by omega
     subst ho160 hc160;obtain⟨z162,hz1621,hz1622,hz1623,hz1624⟩:=VU (u:=z151) (off:=i') (len:=n+1) (S:=(S151+AB w66)%2^(32*(n+1))) (Nat.mod_lt _ (Nat.two_pow_pos _)) (by omega);refine .inr (.inr (.inl ⟨[.one (.sl .u32 w66)],.AE [],.arr 0 .u32 z162,fun _=>⟨by first | decide | simp[Bw,B4],t1⟩,fun _=>⟨DS hE (eE (by omega) (by omega) (by omega) hz1621 hz1622 hz1623 (by rw[hz1624,hz1514])),rfl,rfl⟩,?_⟩));try conv=>cbv
     rw[hJ151];obtain⟨e1,e2,e3⟩:=(Tv hnear hVpos hS151 hSl151).2 rfl;exact⟨z162,Dd-1,_,rfl,rfl,⟨by omega⟩,⟨e1,by omega⟩,⟨hz1621.trans hz1511,hz1622.trans hz1512,hz1623.trans hz1513⟩,by rw[hz1624,e3 (Nat.lt_of_le_of_lt (Nat.mod_le _ _) hRM)]⟩
    obtain⟨J1,hJ1⟩:∃J:List AV->List AM->Nat->Prop,J=fun vs bl k=>∃(D r':Nat) (d r:Int),vs=[.one (.int .i64 r59),.one (.AT .u32 62 0 0 zn62),.one (.sl .u32 w66),.one (.int .i64 n68),.one (.AT .u32 73 0 0 k73),.one (.int .u64 n79),.one (.int .u64 n85),.one (.int .i64 i),.one (.int .u64 d),.one (.int .u64 r)]/\
     bl=[.arr 0 .u32 u,.arr 0 .u32 q]/\(AS d D/\AS r r')/\Gu R (AB w66) top high D r'/\k=D:=⟨_,rfl⟩
    refine⟨[8,9,10,11,12,13,14,15,17,18],[62,73],J1,⟨top/high,by rw[hJ1];exact⟨top/high,top%high,n112,n115,rfl,rfl,⟨⟨e112⟩,⟨e115⟩⟩,hg0,rfl⟩⟩,?_⟩;intro vs bl kk1 hj;rw[hJ1] at hj;obtain⟨D,r',d,r,rfl,rfl,⟨hd,hr⟩,hg,hk1⟩:=hj;conv=>cbv
    clear k90 h96 hj97 hx98 h98 e98 f98 h99 h100 h104 h105 hj106 hx107 h107 e107 f107 h108 h109 h112 e112 h115 e115
    have ed:=hd.eq;have er:=hr.eq;intro n117 h117;conv=>cbv
    cases n117 <;> conv=>cbv
    ·have k117:=EC h117;intro n121 h121;conv=>cbv
     have h121:=wrap_u64 h121;obtain⟨p121,hp121,h121⟩:∃p:Nat,p=D*next/\n121=p:=⟨_,rfl,by rw[h121,ed,e85,<-Int.natCast_mul];have:=Nat.mul_le_mul (by omega:D<=4294967295) (by omega:next<=4294967295);omega⟩
     intro n123 h123;conv=>cbv
     refine g2 (by omega) ?_;have h123:=ID (p:=4294967296) h123 rfl;intro n127 h127;conv=>cbv
     refine g1 (by omega) ?_;intro n128 h128;conv=>cbv
     refine g1 (by omega) ?_;refine g2 (by omega) ?_;intro j129 hj129;conv=>cbv
     obtain⟨x130,hx130⟩:=AG (l:=u) (i:=j129) (by omega);refine⟨x130,fun _=>hx130,?_⟩;try conv=>cbv
     intro n130 h130;have e130:=h130.eq;have f130:=h130.lt;conv=>cbv
     intro n131 h131;conv=>cbv
     have h131:=wrap_u64 h131;intro n132 h132;conv=>cbv
     have x130e:x130=x130y:=by rw[show j129=i'+n-2 by omega,hy130] at hx130;exact (Option.some.inj hx130).symm
     have hrr:=hg.rest;have h132:=H8 (p:=r') (q:=x130.toNat) h132 (by omega) (by omega) hrr (by omega);rw[x130e,<-hu3] at h132;intro n133 h133;conv=>cbv
     cases n133 <;> conv=>cbv
     ·have k133:=CA h133;rw[hK3]
      first
       | exact⟨D-1,_,rfl,rfl,⟨e136⟩,Ok hg hq1 hDp hRf hVf hV0 hhi (by omega) htl (by omega)⟩
       | exact⟨D,_,rfl,rfl,hd,Ol hg hRf hVf hV0 hhi (by omega) (by omega)⟩
     have k133:=CB h133;refine .inr ?_;have hgm:=hg.MH;have hgr:=hg.rest;have hq1:R/AB w66<=D-1:=by first | exact S4 hg hqw (by omega) | exact S5 hg hRf hR0 hVf (by omega)
     have hDp:0<D:=by first | omega | (apply Nat.pos_of_ne_zero;intro e;rw[e,Nat.zero_mul] at hp121;omega)
     intro n136 h136;conv=>cbv
     have h136:=wrap_u64 h136;have e136:n136=((D-1:Nat):Int):=by omega
     intro n139 h139;conv=>cbv
     have h139:=wrap_u64 h139;have e139:n139=((r'+high:Nat):Int):=by omega
     intro n141 h141;conv=>cbv
     cases n141 <;> conv=>cbv
     ·have k141:=EC h141;refine⟨D-1,?_,?_⟩
      ·omega
      rw[hJ1];exact⟨D-1,r'+high,n136,n139,rfl,rfl,⟨⟨e136⟩,⟨e139⟩⟩,S6 hg hq1 hDp (by omega),rfl⟩
     have k141:=ED h141;rw[hK3]
     first
      | exact⟨D-1,_,rfl,rfl,⟨e136⟩,Ok hg hq1 hDp hRf hVf hV0 hhi (by omega) htl (by omega)⟩
      | exact⟨D,_,rfl,rfl,hd,Ol hg hRf hVf hV0 hhi (by omega) (by omega)⟩
    have k117:=ED h117;refine .inr ?_;have hgm:=hg.MH;have hgr:=hg.rest;have hq1:R/AB w66<=D-1:=by first | exact S4 hg hqw (by omega) | exact S5 hg hRf hR0 hVf (by omega)
    have hDp:0<D:=by first | omega | (apply Nat.pos_of_ne_zero;intro e;rw[e,Nat.zero_mul] at hp121;omega)
    intro n136 h136;conv=>cbv
    have h136:=wrap_u64 h136;have e136:n136=((D-1:Nat):Int):=by omega
    intro n139 h139;conv=>cbv
    have h139:=wrap_u64 h139;have e139:n139=((r'+high:Nat):Int):=by omega
    intro n141 h141;conv=>cbv
    cases n141 <;> conv=>cbv
    ·have k141:=EC h141;refine⟨D-1,?_,?_⟩
     ·omega
     rw[hJ1];exact⟨D-1,r'+high,n136,n139,rfl,rfl,⟨⟨e136⟩,⟨e139⟩⟩,S6 hg hq1 hDp (by omega),rfl⟩
    have k141:=ED h141;rw[hK3]
    first
     | exact⟨D-1,_,rfl,rfl,⟨e136⟩,Ok hg hq1 hDp hRf hVf hV0 hhi (by omega) htl (by omega)⟩
     | exact⟨D,_,rfl,rfl,hd,Ol hg hRf hVf hV0 hhi (by omega) (by omega)⟩
   have k45:=Av h45;obtain⟨x48,hx48⟩:=AG (l:=m) (i:=0) (by omega);refine⟨x48,fun _=>⟨by omega,hx48⟩,?_⟩;try conv=>cbv
   intro n49 h49;have e49:=h49.eq;have f49:=h49.lt;conv=>cbv
   have hb48:b=x48.toNat:=by have:=B6 hx48;rw[show 0+1=m.length by omega,List.take_length,hm,BB] at this;simpa [AB] using this
   obtain⟨w50,hw50⟩:=xU (AR (AB l/b));obtain⟨v50,hv50⟩:=xU (AR (AB l%b));refine cL hE (Zl (d:=n49) (b:=b) (AS.of (by omega)) hb (by omega) hw50 hv50 (by omega)) t2 ?_;try conv=>cbv
   exact fA ⟨⟨rfl,congrArg _ (by rw[hz1,hw50,hl,BB]),trivial⟩,⟨rfl,congrArg _ (by rw[hz2,hv50,hl,BB]),trivial⟩,trivial⟩ rfl (by simp)
  have k29:=I2 h29;obtain⟨r31,hr31⟩:∃n:Int,AS n (a):=⟨_,⟨rfl⟩⟩
  have er31:=hr31.eq;refine cL (r:= .one (.int .u64 r31)) hE (Mu (by rw[hl,BB]) (by omega) hr31) t1 ?_;try conv=>cbv
  obtain⟨r33,hr33⟩:∃n:Int,AS n (b):=⟨_,⟨rfl⟩⟩
  have er33:=hr33.eq;refine cL (r:= .one (.int .u64 r33)) hE (Mu (by rw[hm,BB]) (by omega) hr33) t1 ?_;try conv=>cbv
  have ha64:a<18446744073709551616:=by have:=CL l;rw[hl,BB] at this;exact Nat.lt_of_lt_of_le this (Nat.pow_le_pow_right (by decide) (by rw[<-hl];omega:32*(AR a).length<=64))
  intro n36 h36;conv=>cbv
  refine g2 (by omega) ?_;have h36:=wrap_u64 h36;have bq:=Nat.div_le_self a b;have h36:n36=((a/b:Nat):Int):=by rw[h36,er31,er33,<-Int.natCast_ediv];generalize a/b=Q at *;omega
  obtain⟨w37,hw37⟩:=xU (AR (a/b));refine cL (r:= .one (.sl .u32 w37)) hE (Is (AS.of (k:=a/b) h36) (by generalize a/b=Q at *;omega) hw37) t1 ?_;try conv=>cbv
  intro n40 h40;conv=>cbv
  refine g2 (by omega) ?_;have br:=Nat.mod_lt a hb;have h40:n40=((a%b:Nat):Int):=by rw[h40,er31,er33];exact (Int.natCast_emod _ _).symm
  obtain⟨w41,hw41⟩:=xU (AR (a%b));refine cL (r:= .one (.sl .u32 w41)) hE (Is (AS.of (k:=a%b) h40) (by generalize a%b=Q at *;omega) hw41) t1 ?_;try conv=>cbv
  refine g2 rfl ?_;exact fA ⟨⟨rfl,congrArg _ (by rw[hz1,hw37]),trivial⟩,⟨rfl,congrArg _ (by rw[hz2,hw41]),trivial⟩,trivial⟩ rfl (by simp)
 have k23:=Ae h23;obtain⟨w25,hw25⟩:=xU l;refine cL hE (IP hw25 (by omega)) t1 ?_;try conv=>cbv
 have hlt:a<b:=by rw[hr22] at k23;have:=G9 k23;omega
 exact fA ⟨⟨rfl,.inr (.inl ⟨_,congrArg _ (by rw[hz1,Nat.div_eq_of_lt hlt];rfl)⟩),trivial⟩,⟨rfl,congrArg _ (by rw[hz2,Nat.mod_eq_of_lt hlt,hw25,hl]),trivial⟩,trivial⟩ rfl (by simp)
end Go.Abs
namespace Go.Abs
open Go.RowKit
variable {c:Int} {k n:Nat} {l z:List UInt32}
theorem aD {a:Nat} (h:l=AR a) (i:z=AR (a/2)) (sl:l.length<=17592186044416):CF 375 [.one (.sl .u32 l)] (.one (.sl .u32 z)):=by
 refine AH Tryz.func375 (by kernel_rfl) rfl fun E g=>?_
 conv=>cbv
 obtain⟨z4,f,b⟩:=H9 (N:=AB l/2^1) (k:=l.length) (Nat.lt_of_le_of_lt (Nat.div_le_self _ _) (CL _));refine cL g (Cl (Vj (n:=1) ⟨rfl⟩ (by omega) f b rfl sl)) t2 ?_;try conv=>cbv
 obtain⟨j,d⟩:=xU (AR (AB l/2^1));refine cL g (Dx b d) t1 ?_;try conv=>cbv
 exact fA ⟨⟨rfl,congrArg _ (by rw[i,d,h,BB]),trivial⟩,trivial⟩ rfl (by simp)
def CW (n:Nat):Nat:=if n=0 then 0 else Nat.log2 n+1
theorem cH (f:2^k<=n) (g:n<2^(k+1)):CW n=k+1:=by
 have d:n≠0:=by have:=Nat.two_pow_pos k;omega
 unfold CW;rw[if_neg d];have a:k<=Nat.log2 n:=(Nat.le_log2 d).2 f;have b:Nat.log2 n<k+1:=(Nat.log2_lt d).2 g;omega
theorem Np {i:Nat} {x:UInt32} (h:(AR n)[i]? =some x) (g:i+1=(AR n).length) (a:2^(k-1)<=x.toNat) (f:x.toNat<2^k) (o:1<=k):CW n=32*i+k:=by
 have h3:=B6 h;rw[g,List.take_length,BB] at h3;have m:=JK (l:=AR n) (n:=i);obtain⟨j,rfl⟩:∃j,k=j+1:=⟨k-1,by omega⟩
 simp only[Nat.add_sub_cancel] at a;have b:2^(32*i+j)=2^(32*i)*2^j:=Nat.pow_add _ _ _;have d:2^(32*i+j+1)=2^(32*i)*2^(j+1):=by rw[<-Nat.pow_add,Nat.add_assoc]
 refine cH (k:=32*i+j) ?_ ?_
 ·rw[b,h3];have:=Nat.mul_le_mul_left (2^(32*i)) a;omega
 rw[d,h3];have:=Nat.mul_le_mul_left (2^(32*i)) (show x.toNat+1<=2^(j+1) from f);rw[Nat.mul_add] at this;omega
theorem Wn {x:Int} {b:Bool} (o:Ag x b l) (y:AS c (CW x.natAbs)) (sl:l.length<=17592186044416):CF 373 [.agg [.bool b,.sl .u32 l]] (.one (.int .i64 c)):=by
 refine AH Tryz.func373 (by kernel_rfl) rfl fun E w=>?_
 conv=>cbv
 obtain⟨q,m⟩:=xU (AR (AB l));refine cL w (Dx rfl m) t1 ?_;try conv=>cbv
 have t6:q=l:=by rw[m];exact o.trim
 have R:q.length=l.length:=by rw[t6]
 rintro T ⟨S,f8⟩;conv=>cbv
 intro P v;conv=>cbv
 cases P <;> conv=>cbv
 ·have I:=Au v;rintro J ⟨A,f11⟩;conv=>cbv
  intro K D;conv=>cbv
  refine g1 (by omega) ?_;intro L F;conv=>cbv
  refine g1 (by omega) ?_;rintro M ⟨B,f16⟩;conv=>cbv
  intro t G;conv=>cbv
  refine g1 (by omega) ?_;obtain⟨h,f⟩:=AG (l:=q) (i:=(q.length-1)) (by omega);refine⟨h,fun _=>⟨by omega,by rw[show (t).toNat=(q.length-1) by omega];exact f⟩,?_⟩;try conv=>cbv
  have a:=f;rw[t6,o.BI] at a;have p:(AR x.natAbs).length-1+1=(AR x.natAbs).length:=by rw[<-o.BI,<-t6];omega
  have g:=Jp a p;intro N j;have r:=j.eq;have f19:=j.lt;conv=>cbv
  obtain⟨Q,d⟩:∃n:Int,AS n (Lib.bitLen h.toNat):=⟨_,⟨rfl⟩⟩
  have u:=d.eq;refine cL w (QO ⟨r⟩ f19 d) t1 ?_;try conv=>cbv
  have hb:=bitLen_spec (x:=h.toNat) f19 g;have s:=Np a p hb.1 hb.2.1 hb.2.2.1;intro O H;conv=>cbv
  refine g1 (by omega) ?_;exact fA ⟨⟨rfl,congrArg _ (by rw[y.eq,s,<-o.BI,<-t6];omega),trivial⟩,trivial⟩ rfl (by simp)
 have I:=Av v;exact fA ⟨⟨rfl,congrArg _ (by rw[y.eq];have C:x=0:=o.Eb.1 (by rw[<-t6];omega);rw[C];rfl),trivial⟩,trivial⟩ rfl (by simp)
theorem fC (I:AS c n) (S:n<=1125899906000000) (L:z=AR (2^n)):CF 374 [.one (.int .i64 c)] (.one (.sl .u32 z)):=by
 have O:=I.eq;refine AH Tryz.func374 (by kernel_rfl) rfl fun E R=>?_
 conv=>cbv
 intro T P;conv=>cbv
 refine g2 ⟨by omega,by omega,i64 (by omega)⟩ ?_;intro U Q;conv=>cbv
 refine g1 (by omega) ?_;refine⟨fun _=>⟨by omega,by omega,by show _*4<=140737488355328;omega⟩,?_⟩;intro u (i:List UInt32) t;have K:=t.1;have d:i=List.replicate u (0:el .u32):=t.2;have D:i.length=u:=by rw[d,List.length_replicate]
 conv=>cbv
 intro M G;conv=>cbv
 refine g2 ⟨by omega,by omega,i64 (by omega)⟩ ?_;intro N H;conv=>cbv
 refine g2 (by omega) ?_;intro r j;conv=>cbv
 refine g2 (by omega) ?_;obtain⟨s,h,j⟩:∃q:Nat,q=2^(n%32)/\r=q:=⟨_,rfl,by have:=Pj (p:=1) (e:=n%32) j rfl (by omega) (by omega);rw[this,Nat.one_mul];congr 1;exact Nat.mod_eq_of_lt (Nat.lt_of_le_of_lt (Nat.pow_le_pow_right (by decide) (by omega:n%32<=31)) (by decide))⟩
 have A:s<4294967296:=by rw[h];exact Nat.lt_of_le_of_lt (Nat.pow_le_pow_right (by decide) (by omega:n%32<=31)) (by decide)
 refine g2 (by omega) ?_;intro o B;conv=>cbv
 obtain⟨g,f⟩:=Bm (n:=r) (by omega);have v:=f.eq;have x:=f.lt;refine⟨g,fun _=>⟨by show _<List.length (α:=UInt32) i;(first | omega | (simp;omega)),Bl f⟩,?_⟩;intro (a:List UInt32) (b:a=List.set (α:=UInt32) i o g);have y:a.length=i.length:=by rw[b,List.length_set]
 conv=>cbv
 have J:u=n/32+1:=by omega
 have C:AB a=2^n:=by
  have F:i[n/32]? =some 0:=by rw[d,List.getElem?_replicate,if_pos (by omega)]
  have:=Oj (w:=g) F;rw[b,show o=n/32 by omega];rw[d,Gh] at this;rw[d];have e:2^n=2^(32*(n/32))*2^(n%32):=by rw[<-Nat.pow_add];congr 1;omega
  rw[e,<-h,show s=g.toNat by omega];simpa using this
 have hlen:a.length=n/32+1:=by rw[b,List.length_set,d,List.length_replicate,J]
 have m:AR (AB a)=a:=Ob (.inr (by rw[C,hlen];exact Nat.pow_le_pow_right (by decide) (by omega)));exact fA ⟨⟨rfl,.inl ⟨_,rfl,by omega,congrArg _ (by rw[L,<-C,m,List.drop_zero,List.take_of_length_le (by omega)])⟩,trivial⟩,trivial⟩ rfl (by simp)
end Go.Abs
