/- Part 12 of a proof. Conditions: each theorem's own. -/
import Derived.Test.YtclgfoceefhnkaaGreatDoorLn10
set_option linter.all false
set_option maxHeartbeats 80000000
set_option maxRecDepth 20000
open Go.Proofs
namespace Go.Abs
section
open Go.RowKit
theorem dJ {x c:Int} {k:Nat} (j:AO x k) (d:k≠0) (f:k<4294967296) (i:AO c (32-Lib.bitLen k)):CF 406 [.one (.int .u32 x)] (.one (.int .i64 c)):=by
 refine AG Tryz.func406 fun E h=>?_
 obtain⟨p,a⟩:∃n:Int,AO n (Lib.bitLen k):=⟨_,⟨rfl⟩⟩
 have g:=a.eq;refine AB h (Uj j f a) ?_;have hb:=bitLen_spec f d;refine AK ?_;intro o m;exact AF (by rw[i.eq];omega)
theorem Ok {l m z1 z2:List UInt32} {a b:Nat} (hl:l=AP a) (hm:m=AP b) (hb:0<b) (hz1:z1=AP (a/b)) (hz2:z2=AP (a%b)) (sl:l.length<=17592186044000):CF 397 [.one (.sl .u32 l),.one (.sl .u32 m)] (.AI [(false,[.sl .u32 z1]),(false,[.sl .u32 z2])]):=by
 refine Gs Tryz.func397 fun E hE=>?_
 conv=>cbv
 refine .inr ?_;obtain⟨r22,hr22⟩:=xI (Bu a b);refine BP hE (Od hl hm hr22) ?_;refine AS ?_;intro n23 h23;cases n23 <;> conv=>cbv
 ·have k23:=Dw h23;have hba:b<=a:=by rw[hr22] at k23;have:=I3 k23;omega
  have hml:m.length<=l.length:=by rw[hl,hm];exact EF hba
  refine AS ?_;intro n28 h28 n29 h29;have e28:=h28.eq;have f28:=h28.le;cases n29 <;> conv=>cbv
  ·have k29:=Mz h29;refine AS ?_;intro n44 h44 n45 h45;have e44:=h44.eq;have f44:=h44.le;cases n45 <;> conv=>cbv
   ·have k45:=Bp h45;have hm0:m.length≠0:=fun e=>by have e2:=List.eq_nil_of_length_eq_zero e;rw[hm] at e2;have:=Ec.1 e2;omega
    obtain⟨n,hn⟩:∃n,n=m.length:=⟨_,rfl⟩
    have hn2:2<=n:=by omega
    refine AS ?_;intro n55 h55 n56 h56;have e55:=h55.eq;have f55:=h55.le;refine DH ?_;refine AW ((n-1)) fun x57 hx57=>?_
    try conv=>cbv
    have hx57b:=hx57;rw[hm] at hx57b;have hx570:x57.toNat≠0:=MU hx57b (by rw[<-hm];omega);intro n58 h58;have e58:=h58.eq;have f58:=h58.lt;conv=>cbv
    obtain⟨s,hs⟩:∃s,s=32-Lib.bitLen x57.toNat:=⟨_,rfl⟩
    have hbl:=bitLen_spec (x:=x57.toNat) (by omega) hx570;obtain⟨r59,hr59⟩:∃n:Int,AO n s:=⟨_,⟨rfl⟩⟩
    have er59:=hr59.eq;refine BP hE (dJ (k:=x57.toNat) (AO.of (by omega)) hx570 (by omega) (hs ▸ hr59)) ?_;conv=>cbv
    obtain⟨z62,hz621,hz622⟩:=KG (N:=AD l*2^s) (k:=l.length+1) (Pz l);obtain⟨zn62,hzn62⟩:∃k,k=z62.length:=⟨_,rfl⟩
    refine BP hE (aQ hr59 (by omega) hz621 hz622 hzn62 (by omega)) ?_;conv=>cbv
    obtain⟨z65,hz651,hz652⟩:=KG (N:=AD m*2^s) (k:=m.length+1) (Pz m);refine BP hE (DV (aQ hr59 (by omega) hz651 hz652 rfl (by omega))) ?_;conv=>cbv
    obtain⟨w66,hw66⟩:=xU (AP (AD m*2^s));refine BP hE (Ey hz652 hw66) ?_;conv=>cbv
    obtain⟨hwl,hwV⟩:=aS (b:=b) (n:=n) (s:=s) (x:=x57) (k:=Lib.bitLen x57.toNat) (by rw[<-hm,hn]) (by omega) hx57b hbl.1 hbl.2.1 hbl.2.2.1 hbl.2.2.2 hs;have hV:AD w66=b*2^s:=by rw[hw66,BS,hm,BS]
    have hwn:w66.length=n:=by rw[hw66,hm,BS];exact hwl
    rw[<-hV] at hwV;intro n68 h68;have e68:=h68.eq;have f68:=h68.le;conv=>cbv
    intro n70 h70;have e70:=h70.eq;refine AS ?_;intro n72 h72;refine DH ?_;refine⟨fun _=>⟨by omega,by omega,by show _*4<=140737488355328;omega⟩,?_⟩;intro k73 (l73:List UInt32) ql73;have hk73:=ql73.1;have hl73:l73=List.replicate k73 (0:el .u32):=ql73.2;have gl73:l73.length=k73:=by rw[hl73,List.length_replicate]
    refine AS ?_;intro n76 h76;refine DH ?_;refine AW ((n-1)) fun x77 hx77=>?_
    refine AS ?_;intro n78 h78 n79 h79;have e78:=h78.eq;have f78:=h78.lt;have h79:=wrap_u64 h79;intro n82 h82;conv=>cbv
    refine DH ?_;refine AW ((n-2)) fun x83 hx83=>?_
    refine AS ?_;intro n84 h84 n85 h85;have e84:=h84.eq;have f84:=h84.lt;have h85:=wrap_u64 h85;refine g2 rfl ?_;obtain⟨A,hA⟩:∃A,A=AD z62:=⟨_,rfl⟩
    obtain⟨high,hhigh⟩:∃k,k=x77.toNat:=⟨_,rfl⟩
    obtain⟨next,hnext⟩:∃k,k=x83.toNat:=⟨_,rfl⟩
    obtain⟨hVf,hVf2⟩:=pU hwn hx77 hx83 hn2;rw[<-hhigh,<-hnext] at hVf;rw[<-hhigh] at hVf2;have hV0:=Lp (l:=w66) (n:=n-2);have hV1:=Lp (l:=w66) (n:=n-1);have hhi:=jw hwV hVf2 hV1;have hstart:AD (z62.drop k73)<AD w66:=bE hz622 (by omega) hz621 (by omega) (by omega) hwV;have hwlt:=Cv w66;rw[hwn] at hwlt;have hVpos:0<AD w66:=by omega
    have hk73n:k73+n=l.length+1:=by omega
    have hzl:zn62=l.length+1/\z62.length=l.length+1:=by omega
    have hs31:s<=31:=by omega
    have e79:n79=(high:Int):=by omega
    have e85:n85=(next:Int):=by omega
    have hhl:high<4294967296:=by omega
    have hnl:next<4294967296:=by omega
    have hn68:n68=(n:Int):=by omega
    have hVpos:0<AD w66:=by omega
    have hk73n:k73+n=l.length+1:=by omega
    have hzl:zn62=l.length+1/\z62.length=l.length+1:=by omega
    have hs31:s<=31:=by omega
    have e79:n79=(high:Int):=by omega
    have e85:n85=(next:Int):=by omega
    have hhl:high<4294967296:=by omega
    have hnl:next<4294967296:=by omega
    have hn68:n68=(n:Int):=by omega
    have hVM:AD w66<=2^(32*(n+1)):=by rw[EG];omega
    intro n87 h87;have e87:=h87.eq;refine AS ?_;intro n88 h88;refine DH ?_;refine BN [] [8,9,10,11,12,13,14,15] [62,73] (fun vs bl k=>∃(u q:List UInt32) (j':Nat) (i:Int),vs=[.one (.int .i64 r59),.one (.AZ .u32 62 0 0 zn62),.one (.sl .u32 w66),.one (.int .i64 n68),.one (.AZ .u32 73 0 0 k73),.one (.int .u64 n79),.one (.int .u64 n85),.one (.int .i64 i)]/\bl=[.arr 0 .u32 u,.arr 0 .u32 q]/\(u.length=z62.length/\q.length=k73/\AO (i+1) j'/\j'<=k73)/\AD (u.drop j')<AD w66/\A=AD u+2^(32*j')*AD (q.drop j')*AD w66/\k=j') k73 ⟨z62,l73,k73,n88,rfl,rfl,⟨rfl,by rw[hl73,List.length_replicate],⟨by omega⟩,by omega⟩,hstart,by rw[List.drop_eq_nil_of_le (by rw[hl73,List.length_replicate];omega)];simp[AD,hA],rfl⟩ ?_;rintro J0 hJ0 vs bl kk0 ⟨u,q,j',i,rfl,rfl,⟨hul,hql,hi,hjl⟩,hlt,hinv,hk0⟩;conv=>cbv
    clear hr22 h23 k23 hba hml h28 e28 f28 h29 k29 h44 e44 f44 h45 k45 hm0 hn h55 e55 f55 h56 hx57 hx57b hx570 h58 e58 f58 hs hbl hz621 hzn62 hz651 hz652 hw66 hwl h68 e68 f68 h70 e70 h72 hk73 hl73 gl73 h76 hx77 h78 e78 f78 h79 h82 hx83 h84 e84 f84 h85 hhigh hnext hstart h87 e87 h88
    have ei:=hi.eq;refine Kr ?_ ?_ <;> intro k90 <;> conv=>cbv
    ·have hnl169:k73<=(q).length:=by omega
     obtain⟨m169,hm169⟩:=xN ((CV ((q).take k73)).length);obtain⟨hle169,htk169⟩:=Ei hnl169 hm169;refine .inr (.inr (.inl ⟨[],.one (.AZ .u32 0 0 0 m169),.arr 0 .u32 q,fun _=>⟨by first | decide | simp[Ck,Cj],trivial⟩,fun _=>⟨EK hE (Ls hnl169 (by omega) hm169),rfl,rfl⟩,?_⟩));try conv=>cbv
     refine Er ?_;intro b172 hb172;conv=>cbv
     rintro o172 c172 ⟨ho172,hc172⟩;conv=>cbv
     have ho172:o172=0:=by omega
     subst ho172;have hnl173:c172<=u.length:=by omega
     obtain⟨m173,hm173⟩:=xN ((CV (u.take c172)).length);obtain⟨hle173,htk173⟩:=Ei hnl173 hm173;refine .inr (.inr (.inl ⟨[],.one (.AZ .u32 0 0 0 m173),.arr 0 .u32 u,fun _=>⟨by first | decide | simp[Ck,Cj],trivial⟩,fun _=>⟨EK hE (Ls hnl173 (by omega) hm173),rfl,rfl⟩,?_⟩));try conv=>cbv
     have hl175:(u.take m173).length<=u.length:=by rw[List.length_take];omega
     obtain⟨z175,hz1751,hz1752⟩:=KG (N:=AD (u.take m173)/2^s) (k:=(u.take m173).length) (Nat.lt_of_le_of_lt (Nat.div_le_self _ _) (Cv _));refine .inr (.inl ⟨[.one (.sl .u32 ((u).take m173)),.one (.int .i64 r59)],.one (.sl .u32 z175),fun _=>⟨⟨_,rfl,by simp <;> omega,by simp⟩,rfl,trivial⟩,fun _=>FG hE (DV (OC rfl (aR hr59 (by omega) hz1751 hz1752 rfl (by omega)))),?_⟩);try conv=>cbv
     obtain⟨w176,hw176⟩:=xU (AP (AD (u.take m173)/2^s));refine BP hE (Ey hz1752 hw176) ?_;conv=>cbv
     refine g2 rfl ?_;have hj0:j'=0:=by omega
     rw[hj0,List.drop_zero] at hlt;have hinv2:A=AD u+AD q*AD w66:=by rw[hj0] at hinv;simpa using hinv
     have hA2:A=a*2^s:=by rw[hA,hz622,hl,BS]
     obtain⟨e1,e2⟩:=W9 hA2 hV hinv2 hlt hb;have hcn:c172=n:=by omega
     have hun:AD (u.take c172)=AD u:=by rw[hcn];have h1:=GB u n (by omega);rw[R3 (by omega) (by omega)] at h1;omega
     have hum:AD (u.take m173)=AD u:=by rw[htk173,BS,hun]
     exact AE ⟨⟨rfl,.inl ⟨_,rfl,by omega,congrArg _ (by rw[List.drop_zero,htk169,<-hql,List.take_length,e1,hz1])⟩,trivial⟩,⟨rfl,congrArg _ (by rw[hz2,hw176,hum,e2]),trivial⟩,trivial⟩
    refine .inr ?_;obtain⟨i',rfl⟩:∃i',j'=i'+1:=⟨j'-1,by omega⟩
    intro n96 h96;conv=>cbv
    refine DH ?_;refine Er ?_;intro j97 hj97;conv=>cbv
    obtain⟨x98,hx98⟩:=CM (l:=u) (i:=j97) (by omega);refine⟨x98,fun _=>hx98,?_⟩;refine AS ?_;intro n98 h98 n99 h99;have e98:=h98.eq;have f98:=h98.lt;have h99:=wrap_u64 h99;intro n100 h100;conv=>cbv
    refine Er ?_;have h100:=KP (p:=4294967296) h100 rfl;intro n104 h104;conv=>cbv
    refine DH ?_;intro n105 h105;conv=>cbv
    refine DH ?_;refine Er ?_;intro j106 hj106;conv=>cbv
    obtain⟨x107,hx107⟩:=CM (l:=u) (i:=j106) (by omega);refine⟨x107,fun _=>hx107,?_⟩;refine AS ?_;intro n107 h107 n108 h108;have e107:=h107.eq;have f107:=h107.lt;have h108:=wrap_u64 h108;intro n109 h109;conv=>cbv
    have h109:=KE (p:=x98.toNat) (q:=x107.toNat) h109 (by omega) (by omega) (by omega) (by omega);refine g2 rfl ?_;obtain⟨x130y,hy130⟩:=CM (l:=u) (i:=i'+n-2) (by omega);obtain⟨u3,hu3⟩:∃k,k=x130y.toNat:=⟨_,rfl⟩
    obtain⟨R,hRd⟩:∃R,R=AD (u.drop i'):=⟨_,rfl⟩
    obtain⟨top,htop⟩:∃t,t=x107.toNat+4294967296*x98.toNat:=⟨_,rfl⟩
    have h0:AD (u.drop (i'+n+1))=0:=by have:=R3 (l:=u.drop (i'+1)) (n:=n) (by omega) (by rw[List.length_drop];omega);rwa [List.drop_drop,show i'+1+n=i'+n+1 by omega] at this
    have hx97:u[i'+n]? =some x98:=by rw[<-hx98];congr 1;omega
    have hx106:u[i'+n-1]? =some x107:=by rw[<-hx107];congr 1;omega
    have hRf:=pV hx97 hx106 hy130 hn2 h0;have hRf2:=pW hx97 hx106 (by omega) h0;rw[<-htop,<-hu3,<-hRd] at hRf;rw[<-htop,<-hRd] at hRf2;have hR0:=Lp (l:=u.drop i') (n:=n-2);have hR1:=Lp (l:=u.drop i') (n:=n-1);have hRV:R<4294967296*AD w66:=by obtain⟨xi,hxi⟩:=CM (l:=u) (i:=i') (by omega);rw[hRd,Ds hxi];have:=xi.toNat_lt;omega
    have hRM:R<2^(32*(n+1)):=by rw[EG];omega
    have htl:=pT hRf2 hVf2 hV1 hRV;have hg0:=jt hRf2 hR1 hVf2 hhi (by omega) htl;have hqw:R/AD w66<4294967296:=(Nat.div_lt_iff_lt_mul hVpos).2 hRV;have hbig:top<18446744073709551616:=by have:=x107.toNat_lt;have:=x98.toNat_lt;omega
    intro n112 h112;conv=>cbv
    refine Er ?_;have h112:=wrap_u64 h112;have e112:n112=((top/high:Nat):Int):=by rw[h112,h109,e79,<-htop,<-Int.natCast_ediv];have:=Nat.div_le_self top high;generalize top/high=Q at *;omega
    intro n115 h115;conv=>cbv
    refine Er ?_;have e115:n115=((top%high:Nat):Int):=by rw[h115,h109,e79,<-htop];exact (Int.natCast_emod _ _).symm
    refine g2 rfl ?_;obtain⟨K3,hK3⟩:=xK fun vs bl=>∃(Dd:Nat) (d:Int),vs=[.one (.int .i64 r59),.one (.AZ .u32 62 0 0 zn62),.one (.sl .u32 w66),.one (.int .i64 n68),.one (.AZ .u32 73 0 0 k73),.one (.int .u64 n79),.one (.int .u64 n85),.one (.int .i64 i),.one (.int .u64 d)]/\bl=[.arr 0 .u32 u,.arr 0 .u32 q]/\AO d Dd/\L5 R (AD w66) Dd
    refine .inl ⟨[8,9,10,11,12,13,14,15,17],[62,73],K3,?_,?_⟩
    ·intro vs bl hj;rw[hK3] at hj;obtain⟨Dd,d,rfl,rfl,hDd,hnear⟩:=hj;conv=>cbv
     clear k90 h96 hj97 hx98 h98 e98 f98 h99 h100 h104 h105 hj106 hx107 h107 e107 f107 h108 h109 hy130 hu3 htop hx97 hx106 hRf hRf2 hR0 hR1 hRV htl hg0 hbig h112 e112 h115 e115
     have eDd:=hDd.eq;intro n146 h146;conv=>cbv
     refine DH ?_;intro n147 h147;conv=>cbv
     refine DH ?_;refine⟨fun _=>⟨by omega,by omega,by omega⟩,?_⟩;rintro a148 b148 ⟨ha148,hb148⟩;conv=>cbv
     rintro o148 c148 ⟨ho148,hc148⟩;conv=>cbv
     have hDw:=hnear.word;have hseg:AD ((u.drop i').take (n+1))=R:=by rw[hRd];exact Z9 (by omega) h0
     obtain⟨b151,S151,hS151,hSl151⟩:=pI (M:=2^(32*(n+1))) hnear hVpos hRM hVM;have ho148:i'=o148:=by omega
     have hc148:n+1=c148:=by omega
     subst ho148 hc148;obtain⟨z151,hz1511,hz1512,hz1513,hz1514⟩:=Z8 (u:=u) (off:=i') (len:=n+1) hSl151 (by omega);refine .inr (.inr (.inl ⟨[.one (.sl .u32 w66),.one (.int .u64 d)],.one (.bool b151),.arr 0 .u32 z151,fun _=>⟨by first | decide | simp[Ck,Cj],t2⟩,fun _=>⟨EK hE (pK (d:=Dd) (by omega) (by omega) hDd hnear.word (by omega) hz1511 hz1512 hz1513 (by rw[hz1514,hseg];exact hS151)),rfl,rfl⟩,?_⟩));try conv=>cbv
     obtain⟨J151,hJ151⟩:=xK fun vs bl=>∃(z:List UInt32) (q0:Nat) (d:Int),vs=[.one (.int .i64 r59),.one (.AZ .u32 62 0 0 zn62),.one (.sl .u32 w66),.one (.int .i64 n68),.one (.AZ .u32 73 0 0 k73),.one (.int .u64 n79),.one (.int .u64 n85),.one (.int .i64 i),.one (.int .u64 d)]/\bl=[.arr 0 .u32 z,.arr 0 .u32 q]/\AO d q0/\(q0=R/AD w66/\q0<4294967296)/\(z.length=u.length/\z.take i'=u.take i'/\z.drop (i'+(n+1))=u.drop (i'+(n+1)))/\AD ((z.drop i').take (n+1))=R%AD w66
     refine .inl ⟨[8,9,10,11,12,13,14,15,17],[62,73],J151,?_,?_⟩
     ·intro vs bl hj;rw[hJ151] at hj;obtain⟨z,q0,d,rfl,rfl,hq0,⟨hqR,hqlt⟩,⟨hzl1,hzt,hzd⟩,hzv⟩:=hj;conv=>cbv
      have eq0:=hq0.eq;intro n166 h166;conv=>cbv
      have h166:=wrap_u32 h166;refine Er ?_;intro j167 hj167;conv=>cbv
      obtain⟨w167,hw167⟩:=CZ (n:=n166) (by omega);have ew167:=hw167.eq;have fw167:=hw167.lt;refine⟨w167,fun _=>⟨by show _<List.length (α:=UInt32) q;(first | omega | (simp;omega)),CY hw167⟩,?_⟩;intro (l167:List UInt32) (hl167:l167=List.set (α:=UInt32) q j167 w167);have gl167:l167.length=q.length:=by rw[hl167,List.length_set]
      refine AS ?_;intro n92 h92;refine DH ?_;refine⟨i',?_,?_⟩
      ·omega
      rw[hJ0];have hwq:w167.toNat=R/AD w66:=by rw[<-hqR];omega
      obtain⟨g1,g2⟩:=Zq (u:=u) (z:=z) (A:=A) (V:=AD w66) (i:=i') (n:=n) (Q:=AD (q.drop (i'+1))) (q:=w167.toNat) hzl1 hzt hzd (by omega) h0 (by rw[hwq,hRd]) (by rw[hzv,hRd]) hinv;refine⟨z,l167,i',n92,rfl,rfl,⟨by omega,by omega,⟨by omega⟩,by omega⟩,?_,?_,rfl⟩
      ·rw[g1];exact Nat.mod_lt _ hVpos
      rw[hl167,show j167=i' by omega,Ds (l:=q.set i' w167) (i:=i') (x:=w167) (by rw[List.getElem?_set_self (by omega)]),List.drop_set_of_lt (by omega)];exact g2
     cases b151 <;> conv=>cbv
     ·rw[hJ151];obtain⟨e1,e2⟩:=(Yd hnear hVpos hS151 hSl151).1 rfl;exact⟨z151,Dd,_,rfl,rfl,hDd,⟨e1,hDw⟩,⟨hz1511,hz1512,hz1513⟩,by rw[hz1514,e2]⟩
     intro n153 h153;conv=>cbv
     have h153:=wrap_u64 h153;intro n158 h158;conv=>cbv
     refine DH ?_;intro n159 h159;conv=>cbv
     refine DH ?_;refine⟨fun _=>⟨by omega,by omega,by omega⟩,?_⟩;rintro a160 b160 ⟨ha160,hb160⟩;conv=>cbv
     rintro o160 c160 ⟨ho160,hc160⟩;conv=>cbv
     have ho160:i'=o160:=by omega
     have hc160:n+1=c160:=by omega
     subst ho160 hc160;obtain⟨z162,hz1621,hz1622,hz1623,hz1624⟩:=Z8 (u:=z151) (off:=i') (len:=n+1) (S:=(S151+AD w66)%2^(32*(n+1))) (Nat.mod_lt _ (Nat.two_pow_pos _)) (by omega);refine .inr (.inr (.inl ⟨[.one (.sl .u32 w66)],.AI [],.arr 0 .u32 z162,fun _=>⟨by first | decide | simp[Ck,Cj],t1⟩,fun _=>⟨EK hE (nY (by omega) (by omega) (by omega) hz1621 hz1622 hz1623 (by rw[hz1624,hz1514])),rfl,rfl⟩,?_⟩));try conv=>cbv
     rw[hJ151];obtain⟨e1,e2,e3⟩:=(Yd hnear hVpos hS151 hSl151).2 rfl;exact⟨z162,Dd-1,_,rfl,rfl,⟨by omega⟩,⟨e1,by omega⟩,⟨hz1621.trans hz1511,hz1622.trans hz1512,hz1623.trans hz1513⟩,by rw[hz1624,e3 (Nat.lt_of_le_of_lt (Nat.mod_le _ _) hRM)]⟩
    obtain⟨J1,hJ1⟩:=xJ fun vs bl k=>∃(D r':Nat) (d r:Int),vs=[.one (.int .i64 r59),.one (.AZ .u32 62 0 0 zn62),.one (.sl .u32 w66),.one (.int .i64 n68),.one (.AZ .u32 73 0 0 k73),.one (.int .u64 n79),.one (.int .u64 n85),.one (.int .i64 i),.one (.int .u64 d),.one (.int .u64 r)]/\bl=[.arr 0 .u32 u,.arr 0 .u32 q]/\(AO d D/\AO r r')/\Iu R (AD w66) top high D r'/\k=D
    refine⟨[],[8,9,10,11,12,13,14,15,17,18],[62,73],J1,⟨top/high,by rw[hJ1];exact⟨top/high,top%high,n112,n115,rfl,rfl,⟨⟨e112⟩,⟨e115⟩⟩,hg0,rfl⟩⟩,?_⟩;intro vs bl kk1 hj;rw[hJ1] at hj;obtain⟨D,r',d,r,rfl,rfl,⟨hd,hr⟩,hg,hk1⟩:=hj;conv=>cbv
    clear k90 h96 hj97 hx98 h98 e98 f98 h99 h100 h104 h105 hj106 hx107 h107 e107 f107 h108 h109 h112 e112 h115 e115
    have ed:=hd.eq;have er:=hr.eq;refine jB ?_ ?_ <;> intro k117 <;> conv=>cbv
    ·refine .inr ?_;have hgm:=hg.PV;have hgr:=hg.rest;have hq1:R/AD w66<=D-1:=by first | exact Xe hg hqw | exact Xf hg hRf hR0 hVf (by omega)
     have hDp:0<D:=by first | omega | (apply Nat.pos_of_ne_zero;intro e;rw[e,Nat.zero_mul] at hp121;omega)
     intro n136 h136;conv=>cbv
     have h136:=wrap_u64 h136;have e136:n136=((D-1:Nat):Int):=by omega
     intro n139 h139;conv=>cbv
     have h139:=wrap_u64 h139;have e139:n139=((r'+high:Nat):Int):=by omega
     refine Kr ?_ ?_ <;> intro k141 <;> conv=>cbv
     ·exact Ba hJ1 ⟨D-1,r'+high,n136,n139,rfl,rfl,⟨⟨e136⟩,⟨e139⟩⟩,Xg hg hq1 hDp (by omega),rfl⟩
     rw[hK3]
     first
      | exact⟨D-1,_,rfl,rfl,⟨e136⟩,Sd hg hq1 hDp hRf hVf hV0 hhi (by omega) htl⟩
      | exact⟨D,_,rfl,rfl,hd,Se hg hRf hVf hV0 hhi (by omega)⟩
    intro n121 h121;conv=>cbv
    have h121:=wrap_u64 h121;obtain⟨p121,hp121,h121⟩:∃p:Nat,p=D*next/\n121=p:=⟨_,rfl,by rw[h121,ed,e85,<-Int.natCast_mul];have:=Nat.mul_le_mul (by omega:D<=4294967295) (by omega:next<=4294967295);omega⟩
    intro n123 h123;conv=>cbv
    refine Er ?_;have h123:=KP (p:=4294967296) h123 rfl;intro n127 h127;conv=>cbv
    refine DH ?_;intro n128 h128;conv=>cbv
    refine DH ?_;refine Er ?_;intro j129 hj129;conv=>cbv
    obtain⟨x130,hx130⟩:=CM (l:=u) (i:=j129) (by omega);refine⟨x130,fun _=>hx130,?_⟩;refine AS ?_;intro n130 h130 n131 h131;have e130:=h130.eq;have f130:=h130.lt;have h131:=wrap_u64 h131;intro n132 h132;conv=>cbv
    have x130e:x130=x130y:=by rw[show j129=i'+n-2 by omega,hy130] at hx130;exact (Option.some.inj hx130).symm
    have hrr:=hg.rest;have h132:=KE (p:=r') (q:=x130.toNat) h132 (by omega) (by omega) hrr (by omega);rw[x130e,<-hu3] at h132;refine Of ?_ ?_ <;> intro k133 <;> conv=>cbv
    ·rw[hK3]
     first
      | exact⟨D-1,_,rfl,rfl,⟨e136⟩,Sd hg hq1 hDp hRf hVf hV0 hhi (by omega) htl⟩
      | exact⟨D,_,rfl,rfl,hd,Se hg hRf hVf hV0 hhi (by omega)⟩
    refine .inr ?_;have hgm:=hg.PV;have hgr:=hg.rest;have hq1:R/AD w66<=D-1:=by first | exact Xe hg hqw | exact Xf hg hRf hR0 hVf (by omega)
    have hDp:0<D:=by first | omega | (apply Nat.pos_of_ne_zero;intro e;rw[e,Nat.zero_mul] at hp121;omega)
    intro n136 h136;conv=>cbv
    have h136:=wrap_u64 h136;have e136:n136=((D-1:Nat):Int):=by omega
    intro n139 h139;conv=>cbv
    have h139:=wrap_u64 h139;have e139:n139=((r'+high:Nat):Int):=by omega
    refine Kr ?_ ?_ <;> intro k141 <;> conv=>cbv
    ·exact Ba hJ1 ⟨D-1,r'+high,n136,n139,rfl,rfl,⟨⟨e136⟩,⟨e139⟩⟩,Xg hg hq1 hDp (by omega),rfl⟩
    rw[hK3]
    first
     | exact⟨D-1,_,rfl,rfl,⟨e136⟩,Sd hg hq1 hDp hRf hVf hV0 hhi (by omega) htl⟩
     | exact⟨D,_,rfl,rfl,hd,Se hg hRf hVf hV0 hhi (by omega)⟩
   have k45:=Br h45;refine AW 0 fun x48 hx48=>?_
   refine AS ?_;intro n49 h49;have e49:=h49.eq;have f49:=h49.lt;have hb48:b=x48.toNat:=by have:=Cq hx48;rw[show 0+1=m.length by omega,List.take_length,hm,BS] at this;simpa [AD] using this
   obtain⟨w50,hw50⟩:=xU (AP (AD l/b));obtain⟨v50,hv50⟩:=xU (AP (AD l%b));refine BP hE (iz (d:=n49) (b:=b) (AO.of (by omega)) hb (by omega) hw50 hv50 (by omega)) ?_;conv=>cbv
   exact AE ⟨⟨rfl,congrArg _ (by rw[hz1,hw50,hl,BS]),trivial⟩,⟨rfl,congrArg _ (by rw[hz2,hv50,hl,BS]),trivial⟩,trivial⟩
  have k29:=M0 h29;obtain⟨r31,hr31⟩:∃n:Int,AO n (a):=⟨_,⟨rfl⟩⟩
  have er31:=hr31.eq;refine BP (r:= .one (.int .u64 r31)) hE (QC (by rw[hl,BS]) (by omega) hr31) ?_;conv=>cbv
  obtain⟨r33,hr33⟩:∃n:Int,AO n (b):=⟨_,⟨rfl⟩⟩
  have er33:=hr33.eq;refine BP (r:= .one (.int .u64 r33)) hE (QC (by rw[hm,BS]) (by omega) hr33) ?_;conv=>cbv
  have ha64:a<18446744073709551616:=by have:=Cv l;rw[hl,BS] at this;exact Nat.lt_of_lt_of_le this (Nat.pow_le_pow_right (by decide) (by rw[<-hl];omega:32*(AP a).length<=64))
  intro n36 h36;conv=>cbv
  refine Er ?_;have h36:=wrap_u64 h36;have bq:=Nat.div_le_self a b;have h36:n36=((a/b:Nat):Int):=by rw[h36,er31,er33,<-Int.natCast_ediv];generalize a/b=Q at *;omega
  obtain⟨w37,hw37⟩:=xU (AP (a/b));refine BP (r:= .one (.sl .u32 w37)) hE (K7 (AO.of (k:=a/b) h36) (by generalize a/b=Q at *;omega) hw37) ?_;refine AS ?_;intro n40 h40;refine Er ?_;have br:=Nat.mod_lt a hb;have h40:n40=((a%b:Nat):Int):=by rw[h40,er31,er33];exact (Int.natCast_emod _ _).symm
  obtain⟨w41,hw41⟩:=xU (AP (a%b));refine BP (r:= .one (.sl .u32 w41)) hE (K7 (AO.of (k:=a%b) h40) (by generalize a%b=Q at *;omega) hw41) ?_;try conv=>cbv
  refine g2 rfl ?_;exact AE ⟨⟨rfl,congrArg _ (by rw[hz1,hw37]),trivial⟩,⟨rfl,congrArg _ (by rw[hz2,hw41]),trivial⟩,trivial⟩
 have k23:=Dx h23;obtain⟨w25,hw25⟩:=xU l;refine BP hE (KZ hw25 (by omega)) ?_;conv=>cbv
 have hlt:a<b:=by rw[hr22] at k23;have:=I4 k23;omega
 exact AE ⟨⟨rfl,.inr (.inl ⟨_,congrArg _ (by rw[hz1,Nat.div_eq_of_lt hlt];rfl)⟩),trivial⟩,⟨rfl,congrArg _ (by rw[hz2,Nat.mod_eq_of_lt hlt,hw25,hl]),trivial⟩,trivial⟩
end
section
open Go.RowKit
variable {c:Int} {k n:Nat} {l z:List UInt32}
theorem ju {a:Nat} (i:l=AP a) (j:z=AP (a/2)) (sl:l.length<=17592186044416):CF 415 [.one (.sl .u32 l)] (.one (.sl .u32 z)):=by
 refine AG Tryz.func415 fun E h=>?_
 obtain⟨z4,g,d⟩:=KG (N:=AD l/2^1) (k:=l.length) (Nat.lt_of_le_of_lt (Nat.div_le_self _ _) (Cv _));refine AB h (DV (aR (n:=1) ⟨rfl⟩ (by omega) g d rfl sl)) ?_;obtain⟨m,f⟩:=xU (AP (AD l/2^1));refine AB h (Ey d f) ?_;exact AF (by rw[j,f,i,BS])
def DL (n:Nat):Nat:=if n=0 then 0 else Nat.log2 n+1
theorem lg (f:2^k<=n) (g:n<2^(k+1)):DL n=k+1:=by
 have d:n≠0:=by have:=Nat.two_pow_pos k;omega
 unfold DL;rw[if_neg d];have a:k<=Nat.log2 n:=(Nat.le_log2 d).2 f;have b:Nat.log2 n<k+1:=(Nat.log2_lt d).2 g;omega
theorem RD {i:Nat} {x:UInt32} (h:(AP n)[i]? =some x) (g:i+1=(AP n).length) (a:2^(k-1)<=x.toNat) (f:x.toNat<2^k) (o:1<=k):DL n=32*i+k:=by
 have h3:=Cq h;rw[g,List.take_length,BS] at h3;have m:=Lp (l:=AP n) (n:=i);obtain⟨j,rfl⟩:∃j,k=j+1:=⟨k-1,by omega⟩
 simp only[Nat.add_sub_cancel] at a;have e1:2^(32*i+j)=2^(32*i)*2^j:=Nat.pow_add _ _ _;have d:2^(32*i+j+1)=2^(32*i)*2^(j+1):=by rw[<-Nat.pow_add,Nat.add_assoc]
 refine lg (k:=32*i+j) ?_ ?_
 ·rw[e1,h3];have:=Nat.mul_le_mul_left (2^(32*i)) a;omega
 rw[d,h3];have:=Nat.mul_le_mul_left (2^(32*i)) (show x.toNat+1<=2^(j+1) from f);rw[Nat.mul_add] at this;omega
theorem cY {x:Int} {b:Bool} (i:BA x b l) (u:AO c (DL x.natAbs)) (sl:l.length<=17592186044416):CF 413 [.agg (BX b l)] (.one (.int .i64 c)):=by
 refine AG Tryz.func413 fun E t=>?_
 obtain⟨r,h⟩:=xU (AP (AD l));refine AB t (Ey rfl h) ?_;have t6:r=l:=by rw[h];exact i.trim
 have P:r.length=l.length:=by rw[t6]
 rintro R ⟨Q,f8⟩;conv=>cbv
 refine BO (fun G=>?_) fun G=>?_
 ·exact AF (by rw[u.eq];have A:x=0:=i.Fp.1 (by rw[<-t6];omega);rw[A];rfl)
 rintro H ⟨v,f11⟩ I B J C K ⟨w,f16⟩ L D;refine AW ((r.length-1)) fun o j=>?_
 try conv=>cbv
 have a:=j;rw[t6,i.Bb] at a;have m:(AP x.natAbs).length-1+1=(AP x.natAbs).length:=by rw[<-i.Bb,<-t6];omega
 have f:=MU a m;intro M g;have p:=g.eq;have f19:=g.lt;conv=>cbv
 obtain⟨O,d⟩:∃n:Int,AO n (Lib.bitLen o.toNat):=⟨_,⟨rfl⟩⟩
 have s:=d.eq;refine AB t (Uj ⟨p⟩ f19 d) ?_;have hb:=bitLen_spec (x:=o.toNat) f19 f;have q:=RD a m hb.1 hb.2.1 hb.2.2.1;refine AK ?_;intro N F;exact AF (by rw[u.eq,q,<-i.Bb,<-t6];omega)
theorem oX (L:AO c n) (V:n<=1125899906000000) (O:z=AP (2^n)):CF 414 [.one (.int .i64 c)] (.one (.sl .u32 z)):=by
 have R:=L.eq;refine AG Tryz.func414 fun E U=>?_
 intro W S X T;refine⟨fun _=>⟨by omega,by omega,by show _*4<=140737488355328;omega⟩,?_⟩;intro v (j:List UInt32) u;have N:=u.1;have f:j=List.replicate v (0:el .u32):=u.2;have H:j.length=v:=by rw[f,List.length_replicate]
 refine AK ?_;intro P J Q K s m;obtain⟨t,i,m⟩:∃q:Nat,q=2^(n%32)/\s=q:=⟨_,rfl,by have:=TV (p:=1) (e:=n%32) m rfl (by omega);rw[this,Nat.one_mul];congr 1;exact Nat.mod_eq_of_lt (Nat.lt_of_le_of_lt (Nat.pow_le_pow_right (by decide) (by omega:n%32<=31)) (by decide))⟩
 have D:t<4294967296:=by rw[i];exact Nat.lt_of_le_of_lt (Nat.pow_le_pow_right (by decide) (by omega:n%32<=31)) (by decide)
 refine AK ?_;intro r F;obtain⟨h,g⟩:=CZ (n:=s) (by omega);have A:=g.eq;have B:=g.lt;refine⟨h,fun _=>⟨by show _<List.length (α:=UInt32) j;(first | omega | (simp;omega)),CY g⟩,?_⟩;intro (a:List UInt32) (d:a=List.set (α:=UInt32) j r h);have C:a.length=j.length:=by rw[d,List.length_set]
 conv=>cbv
 have M:v=n/32+1:=by omega
 have G:AD a=2^n:=by
  have I:j[n/32]? =some 0:=by rw[f,List.getElem?_replicate,if_pos (by omega)]
  have:=Sc (w:=h) I;rw[d,show r=n/32 by omega];rw[f,IX] at this;rw[f];have e:2^n=2^(32*(n/32))*2^(n%32):=by rw[<-Nat.pow_add];congr 1;omega
  rw[e,<-i,show t=h.toNat by omega];simpa using this
 have hlen:a.length=n/32+1:=by rw[d,List.length_set,f,List.length_replicate,M]
 have o:AP (AD a)=a:=SM (.inr (by rw[G,hlen];exact Nat.pow_le_pow_right (by decide) (by omega)));exact AE ⟨⟨rfl,.inl ⟨_,rfl,by omega,congrArg _ (by rw[O,<-G,o,List.drop_zero,List.take_of_length_le (by omega)])⟩,trivial⟩,trivial⟩
end
section
open Go.RowKit
variable {b b1 b2 b3:Bool} {l l1 l2 l3:List UInt32} {x y:Int}
theorem dA {Y:Bool} {Z:List UInt32} (N:BA x b1 l1) (L:BA y b2 l2) (s:y≠0) (H:BA (Ch x y) b3 l3) (I:BA (HP x y) Y Z) (s1:l1.length<=17592186043000) (s2:l2.length<=17592186043000):CF 399 [.agg (BX b1 l1),.agg (BX b2 l2)] (.AI [(true,(BX b3 l3)),(true,(BX Y Z)),(false,[.int .i64 0])]):=by
 refine AG Tryz.func399 fun E v=>?_
 obtain⟨U,B⟩:=xU (AP (AD l2));refine AB v (Ey rfl B) ?_;have t12:U=l2:=by rw[B];exact L.trim
 rintro a6 ⟨a1,f14⟩;conv=>cbv
 refine BO (fun P=>?_) fun P=>?_
 ·exfalso;exact s (L.Fp.1 (by rw[<-t12];omega))
 obtain⟨V,C⟩:=xU (AP (AD l1));refine AB v (Ey rfl C) ?_;have t21:V=l1:=by rw[C];exact N.trim
 obtain⟨M,i⟩:=xU (AP (x.natAbs/y.natAbs));obtain⟨T,f⟩:=xU (AP (x.natAbs%y.natAbs));refine AB (r:= .AI [(false,[.sl .u32 M]),(false,[.sl .u32 T])]) v (Ok (t21.trans N.Bb) (t12.trans L.Bb) (by omega) i f (by rw[t21];omega)) ?_;have O:0<y.natAbs:=by omega
 have a2:=Nat.div_add_mod x.natAbs y.natAbs;have a5:=Nat.mod_lt x.natAbs O;have t:=N.neg;have h:=L.neg;intro R J;conv=>cbv
 cases R <;> conv=>cbv
 ·have g:=Kk J;refine .inr ?_;intro A u;conv=>cbv
  obtain⟨j,o,a⟩:=Ak (Ch x y);refine AB (r:= .agg [.bool j,.sl .u32 o]) v (FF (by rw[i,BS,u,g,W5 s (by rw[<-t,<-h];exact g)];simp) a) ?_;obtain⟨m,p,d⟩:=Ak (HP x y);refine AB (r:= .agg [.bool m,.sl .u32 p]) v (FF (by rw[f,BS];exact lN h s (by rw[<-t,<-h];exact g)) d) ?_;exact AE ⟨⟨rfl,congrArg _ ((a.uniq H rfl).1.symm),congrArg _ ((a.uniq H rfl).2.symm),trivial⟩,⟨rfl,congrArg _ ((d.uniq I rfl).1.symm),congrArg _ ((d.uniq I rfl).2.symm),trivial⟩,t2,trivial⟩
 have g:=Km J;refine AS ?_;rintro a7 ⟨w,f33⟩ S K;refine .inr ?_;cases S <;> conv=>cbv
 ·have Q:=GX K;intro A u;conv=>cbv
  obtain⟨j,o,a⟩:=Ak (Ch x y);refine AB (r:= .agg [.bool j,.sl .u32 o]) v (FF (by have q:decide (x<0)≠decide (y<0):=(by rw[<-t,<-h];exact g);have G:A=true:=(by rw[u];simpa using g);rw[i,BS,G,if_pos rfl];exact W1 s q (Ec.1 (by rw[<-f];exact List.eq_nil_of_length_eq_zero (by omega)))) a) ?_;obtain⟨m,p,d⟩:=Ak (HP x y);refine AB (r:= .agg [.bool m,.sl .u32 p]) v (FF (by have q:decide (x<0)≠decide (y<0):=(by rw[<-t,<-h];exact g);rw[f,BS];exact lL s q (Ec.1 (by rw[<-f];exact List.eq_nil_of_length_eq_zero (by omega)))) d) ?_;exact AE ⟨⟨rfl,congrArg _ ((a.uniq H rfl).1.symm),congrArg _ ((a.uniq H rfl).2.symm),trivial⟩,⟨rfl,congrArg _ ((d.uniq I rfl).1.symm),congrArg _ ((d.uniq I rfl).2.symm),trivial⟩,t2,trivial⟩
 have Q:=GY K;refine⟨[(1:UInt32)],fun _=>⟨rfl,by decide,rfl,⟨rfl,t1,trivial⟩⟩,.inl ?_⟩;try conv=>cbv
 obtain⟨W,D⟩:=xU (AP (x.natAbs/y.natAbs+1));refine .inr (.inl ⟨[.one (.sl .u32 M),.one (.sl .u32 [(1:UInt32)])],.one (.sl .u32 W),fun _=>⟨rfl,⟨_,rfl,by simp <;> omega,by simp⟩,trivial⟩,fun _=>FG v (DV (OC rfl (ZJ i (rfl:[(1:UInt32)]=AP 1) D rfl (by rw[i];have h1:=EF (Nat.div_le_self x.natAbs y.natAbs);rw[<-N.Bb] at h1;omega) (by decide)))),?_⟩);try conv=>cbv
 obtain⟨X,F⟩:=xU (AP (y.natAbs-x.natAbs%y.natAbs));refine AB (r:= .one (.sl .u32 X)) v (SQ (t12.trans L.Bb) f F (Nat.le_of_lt (Nat.mod_lt _ (by omega))) (by rw[t12];omega)) ?_;intro A u;obtain⟨j,o,a⟩:=Ak (Ch x y);refine AB (r:= .agg [.bool j,.sl .u32 o]) v (FF (by have q:decide (x<0)≠decide (y<0):=(by rw[<-t,<-h];exact g);have G:A=true:=(by rw[u];simpa using g);rw[D,BS,G,if_pos rfl];exact W2 s q (fun e=>by rw[e,F8] at f;rw[f] at w;simp at w;omega)) a) ?_;obtain⟨m,p,d⟩:=Ak (HP x y);refine AB (r:= .agg [.bool m,.sl .u32 p]) v (FF (by have q:decide (x<0)≠decide (y<0):=(by rw[<-t,<-h];exact g);rw[F,BS];exact lM h s q (fun e=>by rw[e,F8] at f;rw[f] at w;simp at w;omega)) d) ?_;exact AE ⟨⟨rfl,congrArg _ ((a.uniq H rfl).1.symm),congrArg _ ((a.uniq H rfl).2.symm),trivial⟩,⟨rfl,congrArg _ ((d.uniq I rfl).1.symm),congrArg _ ((d.uniq I rfl).2.symm),trivial⟩,t2,trivial⟩
theorem Ug (hx:BA x b1 l1) (hy:BA y b2 l2) (hz:BA ((Nat.gcd x.natAbs y.natAbs:Nat):Int) b3 l3) (s1:l1.length<=17592186043000) (s2:l2.length<=17592186043000):CF 381 [.agg (BX b1 l1),.agg (BX b2 l2)] (.agg (BX b3 l3)):=by
 refine Gs Tryz.func381 fun E s=>?_
 conv=>cbv
 obtain⟨X,B⟩:=xU (AP (AD l1));refine BP s (Ey rfl B) ?_;conv=>cbv
 have t13:X=l1:=by rw[B];exact hx.trim
 obtain⟨Y,C⟩:=xU (AP (AD l2));refine BP s (Ey rfl C) ?_;conv=>cbv
 have t16:Y=l2:=by rw[C];exact hy.trim
 refine g2 rfl ?_;obtain⟨K0,H⟩:=xK fun vs A=>∃(u v:List UInt32) (P Q:Nat),vs=[.one (.AR 4 0 0),.one (.sl .u32 u),.one (.sl .u32 v)]/\A=[.var 0 [.bool false,.nil]]/\(u=AP P/\v=AP Q/\Nat.gcd P Q=Nat.gcd x.natAbs y.natAbs/\u.length<=17592186043000)/\v.length<=2/\(2<u.length->v.length=0)
 refine .inl ⟨[4,5,6],[4],K0,?_,?_⟩
 ·intro vs A N;rw[H] at N;obtain⟨u,v,P,Q,rfl,rfl,⟨hu,d,G,I⟩,ao,an⟩:=N;refine AS ?_;rintro aC ⟨al,f39⟩;refine Kx ?_ ?_ <;> intro av <;> conv=>cbv
  ·have L:Q=0:=Ec.1 (by rw[<-d];exact List.eq_nil_of_length_eq_zero (by omega));obtain⟨aD,D⟩:=xU u;refine BP s (KZ D (by omega)) ?_;conv=>cbv
   obtain⟨Z,a2,m⟩:=Ak (((Nat.gcd x.natAbs y.natAbs:Nat):Int));refine BP (r:= .agg [.bool Z,.sl .u32 a2]) s (FF (by rw[D,hu,BS,<-G,L,Nat.gcd_zero_right];rfl) m) ?_;try conv=>cbv
   exact Di ((m.uniq hz rfl).1.symm) ((m.uniq hz rfl).2.symm)
  have ag:u.length<=2:=by omega
  have ah:v.length<=2:=by omega
  have K:P<18446744073709551616:=by have:=Cv u;rw[hu,BS] at this;exact Nat.lt_of_lt_of_le this (Nat.pow_le_pow_right (by decide) (by rw[<-hu];omega:32*(AP P).length<=64))
  have M:Q<18446744073709551616:=by have:=Cv v;rw[d,BS] at this;exact Nat.lt_of_lt_of_le this (Nat.pow_le_pow_right (by decide) (by rw[<-d];omega:32*(AP Q).length<=64))
  obtain⟨V,h⟩:∃n:Int,AO n (P):=⟨_,⟨rfl⟩⟩
  have ad:=h.eq;refine BP (r:= .one (.int .u64 V)) s (QC (by rw[hu,BS]) (by omega) h) ?_;conv=>cbv
  obtain⟨W,i⟩:∃n:Int,AO n (Q):=⟨_,⟨rfl⟩⟩
  have ae:=i.eq;refine BP (r:= .one (.int .u64 W)) s (QC (by rw[d,BS]) (by omega) i) ?_;conv=>cbv
  refine BN [] [4,9,10] [4] (fun vs A k=>∃(w g:Nat) (p q:Int),vs=[.one (.AR 4 0 0),.one (.int .u64 p),.one (.int .u64 q)]/\A=[.var 0 [.bool false,.nil]]/\(AO p w/\AO q g/\w<18446744073709551616/\g<18446744073709551616)/\Nat.gcd w g=Nat.gcd P Q/\k=g) Q ⟨P,Q,V,W,rfl,rfl,⟨h,i,K,M⟩,rfl,rfl⟩ ?_;rintro J1 a8 vs A ay ⟨w,g,p,q,rfl,rfl,⟨hp,hq,af,T⟩,R,aa⟩;conv=>cbv
  have ep:=hp.eq;have eq:=hq.eq;refine C5 ?_ ?_ <;> intro aw <;> conv=>cbv
  ·obtain⟨aE,F⟩:=xU (AP w);refine BP s (K7 hp (by omega) F) ?_;conv=>cbv
   obtain⟨a1,a5,o⟩:=Ak (((Nat.gcd x.natAbs y.natAbs:Nat):Int));refine BP (r:= .agg [.bool a1,.sl .u32 a5]) s (FF (by rw[F,BS,<-G,<-R,show g=0 by omega,Nat.gcd_zero_right];rfl) o) ?_;try conv=>cbv
   exact Di ((o.uniq hz rfl).1.symm) ((o.uniq hz rfl).2.symm)
  refine .inr ?_;have S:0<g:=by omega
  intro Dj a7;conv=>cbv
  refine Er ?_;have a6:Dj=((w%g:Nat):Int):=by rw[a7,ep,eq];exact (Int.natCast_emod _ _).symm
  refine g2 rfl ?_;refine⟨w%g,?_,?_⟩
  ·rw[aa];exact Nat.mod_lt _ S
  rw[a8];exact⟨g,w%g,_,_,rfl,rfl,⟨hq,⟨a6⟩,T,by have:=Nat.mod_lt w S;omega⟩,by rw[<-R,Nat.gcd_comm g,<-Nat.gcd_rec,Nat.gcd_comm],rfl⟩
 obtain⟨J0,t⟩:=xJ fun vs A k=>∃(u v:List UInt32) (P Q:Nat),vs=[.one (.AR 4 0 0),.one (.sl .u32 u),.one (.sl .u32 v)]/\A=[.var 0 [.bool false,.nil]]/\(u=AP P/\v=AP Q/\Nat.gcd P Q=Nat.gcd x.natAbs y.natAbs/\u.length<=17592186043000/\v.length<=17592186043000)/\k=Q
 refine⟨[],[4,5,6],[4],J0,⟨y.natAbs,by rw[t];exact⟨X,Y,x.natAbs,y.natAbs,rfl,rfl,⟨t13.trans hx.Bb,t16.trans hy.Bb,rfl,by rw[t13];exact s1,by rw[t16];exact s2⟩,rfl⟩⟩,?_⟩;intro vs A ax N;rw[t] at N;obtain⟨u,v,P,Q,rfl,rfl,⟨hu,d,G,I,U⟩,O⟩:=N;refine AS ?_;rintro az ⟨ai,f18⟩;refine jC ?_ ?_ <;> intro aq <;> conv=>cbv
 ·refine .inr ?_;have f:0<Q:=by apply Nat.pos_of_ne_zero;intro e;rw[e,F8] at d;rw[d] at *;simp at *;omega
  obtain⟨ab,j⟩:=xU (AP (P/Q));obtain⟨J,a⟩:=xU (AP (P%Q));refine BP s (Ok hu d f j a (by omega)) ?_;conv=>cbv
  refine⟨P%Q,?_,?_⟩
  ·rw[O];exact Nat.mod_lt _ f
  rw[t];exact⟨v,J,Q,P%Q,rfl,rfl,⟨d,a,by rw[<-G,Nat.gcd_comm Q,<-Nat.gcd_rec,Nat.gcd_comm],U,by have:=EF (Nat.le_of_lt (Nat.mod_lt P f));rw[<-a,<-d] at this;omega⟩,rfl⟩
 rintro aA ⟨aj,f22⟩;conv=>cbv
 refine Of ?_ ?_ <;> intro ar <;> conv=>cbv
 ·rw[H];exact⟨u,v,P,Q,rfl,rfl,⟨hu,d,G,I⟩,by omega,by omega⟩
 rintro aB ⟨ak,f26⟩;conv=>cbv
 refine Of ?_ ?_ <;> intro au <;> conv=>cbv
 ·rw[H];exact⟨u,v,P,Q,rfl,rfl,⟨hu,d,G,I⟩,by omega,by omega⟩
 refine .inr ?_;have f:0<Q:=by apply Nat.pos_of_ne_zero;intro e;rw[e,F8] at d;rw[d] at *;simp at *;omega
 obtain⟨ab,j⟩:=xU (AP (P/Q));obtain⟨J,a⟩:=xU (AP (P%Q));refine BP s (Ok hu d f j a (by omega)) ?_;conv=>cbv
 refine⟨P%Q,?_,?_⟩
 ·rw[O];exact Nat.mod_lt _ f
 rw[t];exact⟨v,J,Q,P%Q,rfl,rfl,⟨d,a,by rw[<-G,Nat.gcd_comm Q,<-Nat.gcd_rec,Nat.gcd_comm],U,by have:=EF (Nat.le_of_lt (Nat.mod_lt P f));rw[<-a,<-d] at this;omega⟩,rfl⟩
theorem mS {u:List UInt32} {X:Nat} (hu:u=AP X) (f:u.length<=l.length+1) (g:BA x b l) (s1:l.length<=17592186042000):(AP (X+x.natAbs/X)).length<=17592186044416:=by
 refine Nat.le_trans (Fq (k:=l.length+2) ?_) (by omega);have a:=Cv u;rw[hu,BS] at a;have d:=Cv l;rw[g.nat] at d;have h3:=Nat.div_le_self x.natAbs X;have h:2^(32*(AP X).length)<=2^(32*(l.length+1)):=Nat.pow_le_pow_right (by decide) (by rw[<-hu];omega);have i:2^(32*l.length)<=2^(32*(l.length+1)):=Nat.pow_le_pow_right (by decide) (by omega);have j:2^(32*(l.length+2))=4294967296*2^(32*(l.length+1)):=EG (l.length+1);omega
theorem lf (f:BA x b l) (a:x.natAbs≠0):DL x.natAbs<=32*l.length/\DL x.natAbs=Nat.log2 x.natAbs+1:=by
 have d:=Cv l;rw[f.nat] at d;have g:=(Nat.log2_lt a).2 d;unfold DL;rw[if_neg a];exact⟨by omega,rfl⟩
theorem du {e:Int} (A:BA x b1 l1) (v:BA ((Bt x.toNat:Nat):Int) b3 l3) (he:e=if x<0 then 7 else 0) (s1:l1.length<=17592186042000):CF 404 [.agg (BX b1 l1)] (.AI [(true,(BX b3 l3)),(false,[.int .i64 e])]):=by
 refine AG Tryz.func404 fun E o=>?_
 obtain⟨aa,F⟩:=xI (Cg x);refine AB o (L7 A F) ?_;refine .inr ?_;refine BO (fun Q=>?_) fun Q=>?_
 ·have B:x<0:=by rcases Fs x with⟨m,q⟩ |⟨m,q⟩ |⟨m,q⟩ <;> omega
  have K:((Bt x.toNat:Nat):Int)=0:=by rw[show x.toNat=0 by omega];rfl
  rw[K] at v;exact AE ⟨⟨rfl,congrArg _ (v.neg.trans rfl),.inr (.inl ⟨_,congrArg _ (v.Bb.trans rfl)⟩),trivial⟩,⟨rfl,congrArg _ (by rw[he,if_pos B]),trivial⟩,trivial⟩
 refine BO (fun R=>?_) fun R=>?_
 ·have B:x=0:=by rcases Fs x with⟨m,q⟩ |⟨m,q⟩ |⟨m,q⟩ <;> omega
  have K:((Bt x.toNat:Nat):Int)=0:=by rw[show x.toNat=0 by omega];rfl
  rw[K] at v;exact AE ⟨⟨rfl,congrArg _ (v.neg.trans rfl),.inr (.inl ⟨_,congrArg _ (v.Bb.trans rfl)⟩),trivial⟩,⟨rfl,congrArg _ (by rw[he,if_neg (by omega)]),trivial⟩,trivial⟩
 have B:0<x:=by rcases Fs x with⟨m,q⟩ |⟨m,q⟩ |⟨m,q⟩ <;> omega
 have C:x.natAbs≠0:=by omega
 have O:=lf A C;have a5:0<Bt x.natAbs:=by apply Nat.pos_of_ne_zero;intro e;have:=PR x.natAbs;rw[e] at this;omega
 obtain⟨ab,s⟩:∃n:Int,AO n (DL x.natAbs):=⟨_,⟨rfl⟩⟩
 have Z:=s.eq;refine AB o (cY A s (by omega)) ?_;intro a7 a1 a8 a2;obtain⟨T,f⟩:=xU (AP (2^(DL x.natAbs/2+1)));refine AB o (oX (n:=DL x.natAbs/2+1) ⟨by omega⟩ (by omega) f) ?_;refine BN [] [1,2,5] [1,2] (fun vs Y k=>∃(u:List UInt32) (X:Nat),vs=[.one (.AR 1 0 0),.one (.AR 2 0 0),.one (.sl .u32 u)]/\Y=[.var 0 [.bool b1,.sl .u32 l1],.var 0 [.bool false,.nil]]/\(u=AP X/\Bt x.natAbs<=X/\0<X/\u.length<=l1.length+1)/\k=X) (2^(DL x.natAbs/2+1)) ⟨T,_,rfl,rfl,⟨f,by rw[O.2];exact pE C,Nat.two_pow_pos _,by rw[f];exact Fq (Nat.pow_lt_pow_right (by decide) (by omega))⟩,rfl⟩ ?_;rintro J0 L vs Y a6 ⟨u,X,rfl,rfl,⟨hu,w,p,P⟩,N⟩;conv=>cbv
 refine .inr ?_;obtain⟨U,t⟩:=xU (AP (AD l1));refine AB o (Ey rfl t) ?_;have t26:U=l1:=by rw[t];exact A.trim
 obtain⟨V,g⟩:=xU (AP (x.natAbs/X));obtain⟨S,G⟩:=xU (AP (x.natAbs%X));refine AB (r:= .AI [(false,[.sl .u32 V]),(false,[.sl .u32 S])]) o (Ok (t26.trans A.Bb) hu p g G (by rw[t26];omega)) ?_;obtain⟨W,h⟩:=xU (AP (X+x.natAbs/X));refine AB (r:= .one (.sl .u32 W)) o (ZI hu g h (by omega) (by rw[g];have m:=EF (Nat.div_le_self x.natAbs X);rw[<-A.Bb] at m;omega)) ?_;obtain⟨H,a⟩:=xU (AP ((X+x.natAbs/X)/2));refine AB (r:= .one (.sl .u32 H)) o (ju h a (by rw[h];exact mS hu P A s1)) ?_;obtain⟨ad,d⟩:=xI (Bu ((X+x.natAbs/X)/2:Nat) X);refine AB o (Od a hu d) ?_;refine Ir (fun j=>?_) fun j=>?_
 ·have D:(X+x.natAbs/X)/2<X:=by rw[d] at j;have:=I4 j;omega
  refine⟨(X+x.natAbs/X)/2,?_,?_⟩
  ·rw[N];exact D
  rw[L];exact⟨H,_,rfl,rfl,⟨a,bD w p,by have:=bD w p;omega,by rw[a];have:=EF (Nat.le_of_lt D);rw[<-hu] at this;omega⟩,rfl⟩
 obtain⟨I,J,i⟩:=Ak (((X:Nat):Int));refine AB (r:= .agg [.bool I,.sl .u32 J]) o (FF (by rw[hu,BS];rfl) i) ?_;have M:X<=(X+x.natAbs/X)/2:=by rw[d] at j;have:=I3 j;omega
 have hX:=pD w p M;exact AE ⟨⟨rfl,congrArg _ ((i.uniq v (by rw[<-hX];congr 2;omega)).1.symm),congrArg _ ((i.uniq v (by rw[<-hX];congr 2;omega)).2.symm),trivial⟩,⟨rfl,congrArg _ (by rw[he,if_neg (by omega)]),trivial⟩,trivial⟩
end
end Go.Abs
