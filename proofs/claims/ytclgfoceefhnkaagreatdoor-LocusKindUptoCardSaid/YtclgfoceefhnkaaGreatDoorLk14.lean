/- Part 15 of a proof. Conditions: each theorem's own. -/
import Derived.Test.YtclgfoceefhnkaaGreatDoorLk13
set_option linter.all false
set_option maxHeartbeats 80000000
set_option maxRecDepth 20000
open Go.Proofs
namespace Go.Abs
open Go.RowKit
theorem Xn {x c:Int} {k:Nat} (j:AR x k) (d:k≠0) (f:k<4294967296) (i:AR c (32-Lib.bitLen k)):CF 406 [.one (.int .u32 x)] (.one (.int .i64 c)):=by
 refine AM Tryz.func406 fun E h=>?_
 conv=>cbv
 obtain⟨q,a⟩:∃n:Int,AR n (Lib.bitLen k):=⟨_,⟨rfl⟩⟩
 have g:=a.eq;refine AB h (QX j f a) ?_;conv=>cbv
 have o:=bitLen_spec f d;intro p m;conv=>cbv
 refine AI ?_;exact AD ⟨⟨rfl,congrArg _ (by rw[i.eq];omega),trivial⟩,trivial⟩
theorem Ls {l m z1 z2:List UInt32} {a b:Nat} (hl:l=AS a) (hm:m=AS b) (hb:0<b) (hz1:z1=AS (a/b)) (hz2:z2=AS (a%b)) (sl:l.length<=17592186044000):CF 397 [.one (.sl .u32 l),.one (.sl .u32 m)] (.AJ [(false,[.sl .u32 z1]),(false,[.sl .u32 z2])]):=by
 refine AM Tryz.func397 fun E hE=>?_
 conv=>cbv
 refine .inr ?_;obtain⟨r22,hr22⟩:=xI (BQ a b);refine AB hE (Li hl hm hr22) ?_;conv=>cbv
 intro n23 h23;conv=>cbv
 cases n23 <;> conv=>cbv
 ·have k23:=AY h23;have hba:b<=a:=by rw[hr22] at k23;have:=HT k23;omega
  have hml:m.length<=l.length:=by rw[hl,hm];exact Df hba
  intro n28 h28;have e28:=h28.eq;have f28:=h28.le;conv=>cbv
  intro n29 h29;conv=>cbv
  cases n29 <;> conv=>cbv
  ·have k29:=F4 h29;intro n44 h44;have e44:=h44.eq;have f44:=h44.le;conv=>cbv
   intro n45 h45;conv=>cbv
   cases n45 <;> conv=>cbv
   ·have k45:=AN h45;have hm0:m.length≠0:=fun e=>by have e2:=List.eq_nil_of_length_eq_zero e;rw[hm] at e2;have:=Dx.1 e2;omega
    obtain⟨n,hn⟩:∃n,n=m.length:=⟨_,rfl⟩
    have hn2:2<=n:=by omega
    intro n55 h55;have e55:=h55.eq;have f55:=h55.le;conv=>cbv
    intro n56 h56;conv=>cbv
    refine AI ?_;obtain⟨x57,hx57⟩:=AL (l:=m) (i:=(n-1)) (by omega);refine⟨x57,fun _=>⟨by omega,by rw[show (n56).toNat=(n-1) by omega];exact hx57⟩,?_⟩;try conv=>cbv
    have hx57b:=hx57;rw[hm] at hx57b;have hx570:x57.toNat≠0:=KC hx57b (by rw[<-hm];omega);intro n58 h58;have e58:=h58.eq;have f58:=h58.lt;conv=>cbv
    obtain⟨s,hs⟩:∃s,s=32-Lib.bitLen x57.toNat:=⟨_,rfl⟩
    have hbl:=bitLen_spec (x:=x57.toNat) (by omega) hx570;obtain⟨r59,hr59⟩:∃n:Int,AR n s:=⟨_,⟨rfl⟩⟩
    have er59:=hr59.eq;refine AB hE (Xn (k:=x57.toNat) (AR.of (by omega)) hx570 (by omega) (hs ▸ hr59)) ?_;conv=>cbv
    obtain⟨z62,hz621,hz622⟩:=IF (N:=AE l*2^s) (k:=l.length+1) (Mx l);obtain⟨zn62,hzn62⟩:∃k,k=z62.length:=⟨_,rfl⟩
    refine AB hE (WR hr59 (by omega) hz621 hz622 hzn62 (by omega)) ?_;conv=>cbv
    obtain⟨z65,hz651,hz652⟩:=IF (N:=AE m*2^s) (k:=m.length+1) (Mx m);refine AB hE (Ct (WR hr59 (by omega) hz651 hz652 rfl (by omega))) ?_;conv=>cbv
    obtain⟨w66,hw66⟩:=xU (AS (AE m*2^s));refine AB hE (D5 hz652 hw66) ?_;conv=>cbv
    obtain⟨hwl,hwV⟩:=WT (b:=b) (n:=n) (s:=s) (x:=x57) (k:=Lib.bitLen x57.toNat) (by rw[<-hm,hn]) (by omega) hx57b hbl.1 hbl.2.1 hbl.2.2.1 hbl.2.2.2 hs;have hV:AE w66=b*2^s:=by rw[hw66,Aw,hm,Aw]
    have hwn:w66.length=n:=by rw[hw66,hm,Aw];exact hwl
    rw[<-hV] at hwV;intro n68 h68;have e68:=h68.eq;have f68:=h68.le;conv=>cbv
    intro n70 h70;have e70:=h70.eq;conv=>cbv
    intro n72 h72;conv=>cbv
    refine AI ?_;refine⟨fun _=>⟨by omega,by omega,by show _*4<=140737488355328;omega⟩,?_⟩;intro k73 (l73:List UInt32) ql73;have hk73:=ql73.1;have hl73:l73=List.replicate k73 (0:el .u32):=ql73.2;have gl73:l73.length=k73:=by rw[hl73,List.length_replicate]
    conv=>cbv
    intro n76 h76;conv=>cbv
    refine AI ?_;obtain⟨x77,hx77⟩:=AL (l:=w66) (i:=(n-1)) (by omega);refine⟨x77,fun _=>⟨by omega,by rw[show (n76).toNat=(n-1) by omega];exact hx77⟩,?_⟩;try conv=>cbv
    intro n78 h78;have e78:=h78.eq;have f78:=h78.lt;conv=>cbv
    intro n79 h79;conv=>cbv
    have h79:=wrap_u64 h79;intro n82 h82;conv=>cbv
    refine AI ?_;obtain⟨x83,hx83⟩:=AL (l:=w66) (i:=(n-2)) (by omega);refine⟨x83,fun _=>⟨by omega,by rw[show (n82).toNat=(n-2) by omega];exact hx83⟩,?_⟩;try conv=>cbv
    intro n84 h84;have e84:=h84.eq;have f84:=h84.lt;conv=>cbv
    intro n85 h85;conv=>cbv
    have h85:=wrap_u64 h85;refine g2 rfl ?_;obtain⟨A,hA⟩:∃A,A=AE z62:=⟨_,rfl⟩
    obtain⟨high,hhigh⟩:∃k,k=x77.toNat:=⟨_,rfl⟩
    obtain⟨next,hnext⟩:∃k,k=x83.toNat:=⟨_,rfl⟩
    obtain⟨hVf,hVf2⟩:=ga hwn hx77 hx83 hn2;rw[<-hhigh,<-hnext] at hVf;rw[<-hhigh] at hVf2;have hV0:=JX (l:=w66) (n:=n-2);have hV1:=JX (l:=w66) (n:=n-1);have hhi:=bR hwV hVf2 hV1;have hstart:AE (z62.drop k73)<AE w66:=Wt hz622 (by omega) hz621 (by omega) (by omega) hwV;have hwlt:=CI w66;rw[hwn] at hwlt;have hVpos:0<AE w66:=by omega
    have hk73n:k73+n=l.length+1:=by omega
    have hzl:zn62=l.length+1/\z62.length=l.length+1:=by omega
    have hs31:s<=31:=by omega
    have e79:n79=(high:Int):=by omega
    have e85:n85=(next:Int):=by omega
    have hhl:high<4294967296:=by omega
    have hnl:next<4294967296:=by omega
    have hn68:n68=(n:Int):=by omega
    have hVpos:0<AE w66:=by omega
    have hk73n:k73+n=l.length+1:=by omega
    have hzl:zn62=l.length+1/\z62.length=l.length+1:=by omega
    have hs31:s<=31:=by omega
    have e79:n79=(high:Int):=by omega
    have e85:n85=(next:Int):=by omega
    have hhl:high<4294967296:=by omega
    have hnl:next<4294967296:=by omega
    have hn68:n68=(n:Int):=by omega
    have hVM:AE w66<=2^(32*(n+1)):=by rw[Dg];omega
    intro n87 h87;have e87:=h87.eq;conv=>cbv
    intro n88 h88;conv=>cbv
    refine AI ?_;refine .inr ?_
    obtain⟨J0,hJ0⟩:∃J:List AV->List AG->Nat->Prop,J=fun vs bl k=>∃(u q:List UInt32) (j':Nat) (i:Int),vs=[.one (.int .i64 r59),.one (.AQ .u32 62 0 0 zn62),.one (.sl .u32 w66),.one (.int .i64 n68),.one (.AQ .u32 73 0 0 k73),.one (.int .u64 n79),.one (.int .u64 n85),.one (.int .i64 i)]/\
     bl=[.arr 0 .u32 u,.arr 0 .u32 q]/\(u.length=z62.length/\q.length=k73/\AR (i+1) j'/\j'<=k73)/\AE (u.drop j')<AE w66/\A=AE u+2^(32*j')*AE (q.drop j')*AE w66/\k=j':=⟨_,rfl⟩
    refine⟨[],[8,9,10,11,12,13,14,15],[62,73],J0,⟨k73,by rw[hJ0];exact⟨z62,l73,k73,n88,rfl,rfl,⟨rfl,by rw[hl73,List.length_replicate],⟨by omega⟩,by omega⟩,hstart,by rw[List.drop_eq_nil_of_le (by rw[hl73,List.length_replicate];omega)];simp[AE,hA],rfl⟩⟩,?_⟩;intro vs bl kk0 hj;rw[hJ0] at hj;obtain⟨u,q,j',i,rfl,rfl,⟨hul,hql,hi,hjl⟩,hlt,hinv,hk0⟩:=hj;conv=>cbv
    clear hr22 h23 k23 hba hml h28 e28 f28 h29 k29 h44 e44 f44 h45 k45 hm0 hn h55 e55 f55 h56 hx57 hx57b hx570 h58 e58 f58 hs hbl hz621 hzn62 hz651 hz652 hw66 hwl h68 e68 f68 h70 e70 h72 hk73 hl73 gl73 h76 hx77 h78 e78 f78 h79 h82 hx83 h84 e84 f84 h85 hhigh hnext hstart h87 e87 h88
    have ei:=hi.eq;intro n90 h90;conv=>cbv
    cases n90 <;> conv=>cbv
    ·have k90:=DI h90;have hnl169:k73<=(q).length:=by omega
     obtain⟨m169,hm169⟩:=xN ((B1 ((q).take k73)).length);obtain⟨hle169,htk169⟩:=D1 hnl169 hm169;refine .inr (.inr (.inl ⟨[],.one (.AQ .u32 0 0 0 m169),.arr 0 .u32 q,fun _=>⟨by first | decide | simp[Be,Bk],trivial⟩,fun _=>⟨Di hE (Jb hnl169 (by omega) hm169),rfl,rfl⟩,?_⟩));try conv=>cbv
     refine AH ?_;intro b172 hb172;conv=>cbv
     rintro o172 c172 ⟨ho172,hc172⟩;conv=>cbv
     have ho172:o172=0:=by omega
     subst ho172;have hnl173:c172<=u.length:=by omega
     obtain⟨m173,hm173⟩:=xN ((B1 (u.take c172)).length);obtain⟨hle173,htk173⟩:=D1 hnl173 hm173;refine .inr (.inr (.inl ⟨[],.one (.AQ .u32 0 0 0 m173),.arr 0 .u32 u,fun _=>⟨by first | decide | simp[Be,Bk],trivial⟩,fun _=>⟨Di hE (Jb hnl173 (by omega) hm173),rfl,rfl⟩,?_⟩));try conv=>cbv
     have hl175:(u.take m173).length<=u.length:=by rw[List.length_take];omega
     obtain⟨z175,hz1751,hz1752⟩:=IF (N:=AE (u.take m173)/2^s) (k:=(u.take m173).length) (Nat.lt_of_le_of_lt (Nat.div_le_self _ _) (CI _));refine .inr (.inl ⟨[.one (.sl .u32 ((u).take m173)),.one (.int .i64 r59)],.one (.sl .u32 z175),fun _=>⟨⟨_,rfl,by simp <;> omega,by simp⟩,rfl,trivial⟩,fun _=>ES hE (Ct (LP rfl (WS hr59 (by omega) hz1751 hz1752 rfl (by omega)))),?_⟩);try conv=>cbv
     obtain⟨w176,hw176⟩:=xU (AS (AE (u.take m173)/2^s));refine AB hE (D5 hz1752 hw176) ?_;conv=>cbv
     refine g2 rfl ?_;have hj0:j'=0:=by omega
     rw[hj0,List.drop_zero] at hlt;have hinv2:A=AE u+AE q*AE w66:=by rw[hj0] at hinv;simpa using hinv
     have hA2:A=a*2^s:=by rw[hA,hz622,hl,Aw]
     obtain⟨e1,e2⟩:=S5 hA2 hV hinv2 hlt hb;have hcn:c172=n:=by omega
     have hun:AE (u.take c172)=AE u:=by rw[hcn];have h1:=E8 u n (by omega);rw[OX (by omega) (by omega)] at h1;omega
     have hum:AE (u.take m173)=AE u:=by rw[htk173,Aw,hun]
     exact AD ⟨⟨rfl,.inl ⟨_,rfl,by omega,congrArg _ (by rw[List.drop_zero,htk169,<-hql,List.take_length,e1,hz1])⟩,trivial⟩,⟨rfl,congrArg _ (by rw[hz2,hw176,hum,e2]),trivial⟩,trivial⟩
    have k90:=DJ h90;refine .inr ?_;obtain⟨i',rfl⟩:∃i',j'=i'+1:=⟨j'-1,by omega⟩
    intro n96 h96;conv=>cbv
    refine AI ?_;refine AH ?_;intro j97 hj97;conv=>cbv
    obtain⟨x98,hx98⟩:=AL (l:=u) (i:=j97) (by omega);refine⟨x98,fun _=>hx98,?_⟩;try conv=>cbv
    intro n98 h98;have e98:=h98.eq;have f98:=h98.lt;conv=>cbv
    intro n99 h99;conv=>cbv
    have h99:=wrap_u64 h99;intro n100 h100;conv=>cbv
    refine AH ?_;have h100:=IM (p:=4294967296) h100 rfl;intro n104 h104;conv=>cbv
    refine AI ?_;intro n105 h105;conv=>cbv
    refine AI ?_;refine AH ?_;intro j106 hj106;conv=>cbv
    obtain⟨x107,hx107⟩:=AL (l:=u) (i:=j106) (by omega);refine⟨x107,fun _=>hx107,?_⟩;try conv=>cbv
    intro n107 h107;have e107:=h107.eq;have f107:=h107.lt;conv=>cbv
    intro n108 h108;conv=>cbv
    have h108:=wrap_u64 h108;intro n109 h109;conv=>cbv
    have h109:=IE (p:=x98.toNat) (q:=x107.toNat) h109 (by omega) (by omega) (by omega) (by omega);refine g2 rfl ?_;obtain⟨x130y,hy130⟩:=AL (l:=u) (i:=i'+n-2) (by omega);obtain⟨u3,hu3⟩:∃k,k=x130y.toNat:=⟨_,rfl⟩
    obtain⟨R,hRd⟩:∃R,R=AE (u.drop i'):=⟨_,rfl⟩
    obtain⟨top,htop⟩:∃t,t=x107.toNat+4294967296*x98.toNat:=⟨_,rfl⟩
    have h0:AE (u.drop (i'+n+1))=0:=by have:=OX (l:=u.drop (i'+1)) (n:=n) (by omega) (by rw[List.length_drop];omega);rwa [List.drop_drop,show i'+1+n=i'+n+1 by omega] at this
    have hx97:u[i'+n]? =some x98:=by rw[<-hx98];congr 1;omega
    have hx106:u[i'+n-1]? =some x107:=by rw[<-hx107];congr 1;omega
    have hRf:=gb hx97 hx106 hy130 hn2 h0;have hRf2:=gd hx97 hx106 (by omega) h0;rw[<-htop,<-hu3,<-hRd] at hRf;rw[<-htop,<-hRd] at hRf2;have hR0:=JX (l:=u.drop i') (n:=n-2);have hR1:=JX (l:=u.drop i') (n:=n-1);have hRV:R<4294967296*AE w66:=by obtain⟨xi,hxi⟩:=AL (l:=u) (i:=i') (by omega);rw[hRd,DH hxi];have:=xi.toNat_lt;omega
    have hRM:R<2^(32*(n+1)):=by rw[Dg];omega
    have htl:=gZ hRf2 hVf2 hV1 hRV;have hg0:=bO hRf2 hR1 hVf2 hhi (by omega) htl;have hqw:R/AE w66<4294967296:=(Nat.div_lt_iff_lt_mul hVpos).2 hRV;have hbig:top<18446744073709551616:=by have:=x107.toNat_lt;have:=x98.toNat_lt;omega
    intro n112 h112;conv=>cbv
    refine AH ?_;have h112:=wrap_u64 h112;have e112:n112=((top/high:Nat):Int):=by rw[h112,h109,e79,<-htop,<-Int.natCast_ediv];have:=Nat.div_le_self top high;generalize top/high=Q at *;omega
    intro n115 h115;conv=>cbv
    refine AH ?_;have e115:n115=((top%high:Nat):Int):=by rw[h115,h109,e79,<-htop];exact (Int.natCast_emod _ _).symm
    refine g2 rfl ?_;obtain⟨K3,hK3⟩:=xK fun vs bl=>∃(Dd:Nat) (d:Int),vs=[.one (.int .i64 r59),.one (.AQ .u32 62 0 0 zn62),.one (.sl .u32 w66),.one (.int .i64 n68),.one (.AQ .u32 73 0 0 k73),.one (.int .u64 n79),.one (.int .u64 n85),.one (.int .i64 i),.one (.int .u64 d)]/\bl=[.arr 0 .u32 u,.arr 0 .u32 q]/\AR d Dd/\Jk R (AE w66) Dd
    refine .inl ⟨[8,9,10,11,12,13,14,15,17],[62,73],K3,?_,?_⟩
    ·intro vs bl hj;rw[hK3] at hj;obtain⟨Dd,d,rfl,rfl,hDd,hnear⟩:=hj;conv=>cbv
     clear k90 h96 hj97 hx98 h98 e98 f98 h99 h100 h104 h105 hj106 hx107 h107 e107 f107 h108 h109 hy130 hu3 htop hx97 hx106 hRf hRf2 hR0 hR1 hRV htl hg0 hbig h112 e112 h115 e115
     have eDd:=hDd.eq;intro n146 h146;conv=>cbv
     refine AI ?_;intro n147 h147;conv=>cbv
     refine AI ?_;refine⟨fun _=>⟨by omega,by omega,by omega⟩,?_⟩;rintro a148 b148 ⟨ha148,hb148⟩;conv=>cbv
     rintro o148 c148 ⟨ho148,hc148⟩;conv=>cbv
     have hDw:=hnear.word;have hseg:AE ((u.drop i').take (n+1))=R:=by rw[hRd];exact WC (by omega) h0
     obtain⟨b151,S151,hS151,hSl151⟩:=gO (M:=2^(32*(n+1))) hnear hVpos hRM hVM;have ho148:i'=o148:=by omega
     have hc148:n+1=c148:=by omega
     subst ho148 hc148;obtain⟨z151,hz1511,hz1512,hz1513,hz1514⟩:=WB (u:=u) (off:=i') (len:=n+1) hSl151 (by omega);refine .inr (.inr (.inl ⟨[.one (.sl .u32 w66),.one (.int .u64 d)],.one (.bool b151),.arr 0 .u32 z151,fun _=>⟨by first | decide | simp[Be,Bk],t2⟩,fun _=>⟨Di hE (gQ (d:=Dd) (by omega) (by omega) hDd hnear.word (by omega) hz1511 hz1512 hz1513 (by rw[hz1514,hseg];exact hS151)),rfl,rfl⟩,?_⟩));try conv=>cbv
     obtain⟨J151,hJ151⟩:=xK fun vs bl=>∃(z:List UInt32) (q0:Nat) (d:Int),vs=[.one (.int .i64 r59),.one (.AQ .u32 62 0 0 zn62),.one (.sl .u32 w66),.one (.int .i64 n68),.one (.AQ .u32 73 0 0 k73),.one (.int .u64 n79),.one (.int .u64 n85),.one (.int .i64 i),.one (.int .u64 d)]/\bl=[.arr 0 .u32 z,.arr 0 .u32 q]/\AR d q0/\(q0=R/AE w66/\q0<4294967296)/\(z.length=u.length/\z.take i'=u.take i'/\z.drop (i'+(n+1))=u.drop (i'+(n+1)))/\AE ((z.drop i').take (n+1))=R%AE w66
     refine .inl ⟨[8,9,10,11,12,13,14,15,17],[62,73],J151,?_,?_⟩
     ·intro vs bl hj;rw[hJ151] at hj;obtain⟨z,q0,d,rfl,rfl,hq0,⟨hqR,hqlt⟩,⟨hzl1,hzt,hzd⟩,hzv⟩:=hj;conv=>cbv
      have eq0:=hq0.eq;intro n166 h166;conv=>cbv
      have h166:=wrap_u32 h166;refine AH ?_;intro j167 hj167;conv=>cbv
      obtain⟨w167,hw167⟩:=B4 (n:=n166) (by omega);have ew167:=hw167.eq;have fw167:=hw167.lt;refine⟨w167,fun _=>⟨by show _<List.length (α:=UInt32) q;(first | omega | (simp;omega)),B3 hw167⟩,?_⟩;intro (l167:List UInt32) (hl167:l167=List.set (α:=UInt32) q j167 w167);have gl167:l167.length=q.length:=by rw[hl167,List.length_set]
      conv=>cbv
      intro n92 h92;conv=>cbv
      refine AI ?_;refine⟨i',?_,?_⟩
      ·omega
      rw[hJ0];have hwq:w167.toNat=R/AE w66:=by rw[<-hqR];omega
      obtain⟨g1,g2⟩:=Vt (u:=u) (z:=z) (A:=A) (V:=AE w66) (i:=i') (n:=n) (Q:=AE (q.drop (i'+1))) (q:=w167.toNat) hzl1 hzt hzd (by omega) h0 (by rw[hwq,hRd]) (by rw[hzv,hRd]) hinv;refine⟨z,l167,i',n92,rfl,rfl,⟨by omega,by omega,⟨by omega⟩,by omega⟩,?_,?_,rfl⟩
      ·rw[g1];exact Nat.mod_lt _ hVpos
      rw[hl167,show j167=i' by omega,DH (l:=q.set i' w167) (i:=i') (x:=w167) (by rw[List.getElem?_set_self (by omega)]),List.drop_set_of_lt (by omega)];exact g2
     cases b151 <;> conv=>cbv
     ·rw[hJ151];obtain⟨e1,e2⟩:=(Un hnear hVpos hS151 hSl151).1 rfl;exact⟨z151,Dd,_,rfl,rfl,hDd,⟨e1,hDw⟩,⟨hz1511,hz1512,hz1513⟩,by rw[hz1514,e2]⟩
     intro n153 h153;conv=>cbv
     have h153:=wrap_u64 h153;intro n158 h158;conv=>cbv
     refine AI ?_;intro n159 h159;conv=>cbv
     refine AI ?_;refine⟨fun _=>⟨by omega,by omega,by omega⟩,?_⟩;rintro a160 b160 ⟨ha160,hb160⟩;conv=>cbv
     rintro o160 c160 ⟨ho160,hc160⟩;conv=>cbv
     have ho160:i'=o160:=by omega
     have hc160:n+1=c160:=by omega
     subst ho160 hc160;obtain⟨z162,hz1621,hz1622,hz1623,hz1624⟩:=WB (u:=z151) (off:=i') (len:=n+1) (S:=(S151+AE w66)%2^(32*(n+1))) (Nat.mod_lt _ (Nat.two_pow_pos _)) (by omega);refine .inr (.inr (.inl ⟨[.one (.sl .u32 w66)],.AJ [],.arr 0 .u32 z162,fun _=>⟨by first | decide | simp[Be,Bk],t1⟩,fun _=>⟨Di hE (eH (by omega) (by omega) (by omega) hz1621 hz1622 hz1623 (by rw[hz1624,hz1514])),rfl,rfl⟩,?_⟩));try conv=>cbv
     rw[hJ151];obtain⟨e1,e2,e3⟩:=(Un hnear hVpos hS151 hSl151).2 rfl;exact⟨z162,Dd-1,_,rfl,rfl,⟨by omega⟩,⟨e1,by omega⟩,⟨hz1621.trans hz1511,hz1622.trans hz1512,hz1623.trans hz1513⟩,by rw[hz1624,e3 (Nat.lt_of_le_of_lt (Nat.mod_le _ _) hRM)]⟩
    obtain⟨J1,hJ1⟩:∃J:List AV->List AG->Nat->Prop,J=fun vs bl k=>∃(D r':Nat) (d r:Int),vs=[.one (.int .i64 r59),.one (.AQ .u32 62 0 0 zn62),.one (.sl .u32 w66),.one (.int .i64 n68),.one (.AQ .u32 73 0 0 k73),.one (.int .u64 n79),.one (.int .u64 n85),.one (.int .i64 i),.one (.int .u64 d),.one (.int .u64 r)]/\
     bl=[.arr 0 .u32 u,.arr 0 .u32 q]/\(AR d D/\AR r r')/\HJ R (AE w66) top high D r'/\k=D:=⟨_,rfl⟩
    refine⟨[],[8,9,10,11,12,13,14,15,17,18],[62,73],J1,⟨top/high,by rw[hJ1];exact⟨top/high,top%high,n112,n115,rfl,rfl,⟨⟨e112⟩,⟨e115⟩⟩,hg0,rfl⟩⟩,?_⟩;intro vs bl kk1 hj;rw[hJ1] at hj;obtain⟨D,r',d,r,rfl,rfl,⟨hd,hr⟩,hg,hk1⟩:=hj;conv=>cbv
    clear k90 h96 hj97 hx98 h98 e98 f98 h99 h100 h104 h105 hj106 hx107 h107 e107 f107 h108 h109 h112 e112 h115 e115
    have ed:=hd.eq;have er:=hr.eq;intro n117 h117;conv=>cbv
    cases n117 <;> conv=>cbv
    ·have k117:=DI h117;intro n121 h121;conv=>cbv
     have h121:=wrap_u64 h121;obtain⟨p121,hp121,h121⟩:∃p:Nat,p=D*next/\n121=p:=⟨_,rfl,by rw[h121,ed,e85,<-Int.natCast_mul];have:=Nat.mul_le_mul (by omega:D<=4294967295) (by omega:next<=4294967295);omega⟩
     intro n123 h123;conv=>cbv
     refine AH ?_;have h123:=IM (p:=4294967296) h123 rfl;intro n127 h127;conv=>cbv
     refine AI ?_;intro n128 h128;conv=>cbv
     refine AI ?_;refine AH ?_;intro j129 hj129;conv=>cbv
     obtain⟨x130,hx130⟩:=AL (l:=u) (i:=j129) (by omega);refine⟨x130,fun _=>hx130,?_⟩;try conv=>cbv
     intro n130 h130;have e130:=h130.eq;have f130:=h130.lt;conv=>cbv
     intro n131 h131;conv=>cbv
     have h131:=wrap_u64 h131;intro n132 h132;conv=>cbv
     have x130e:x130=x130y:=by rw[show j129=i'+n-2 by omega,hy130] at hx130;exact (Option.some.inj hx130).symm
     have hrr:=hg.rest;have h132:=IE (p:=r') (q:=x130.toNat) h132 (by omega) (by omega) hrr (by omega);rw[x130e,<-hu3] at h132;intro n133 h133;conv=>cbv
     cases n133 <;> conv=>cbv
     ·have k133:=Bf h133;rw[hK3]
      first
       | exact⟨D-1,_,rfl,rfl,⟨e136⟩,Ox hg hq1 hDp hRf hVf hV0 hhi (by omega) htl⟩
       | exact⟨D,_,rfl,rfl,hd,Oy hg hRf hVf hV0 hhi (by omega)⟩
     have k133:=Bg h133;refine .inr ?_;have hgm:=hg.MS;have hgr:=hg.rest;have hq1:R/AE w66<=D-1:=by first | exact Th hg hqw | exact Tj hg hRf hR0 hVf (by omega)
     have hDp:0<D:=by first | omega | (apply Nat.pos_of_ne_zero;intro e;rw[e,Nat.zero_mul] at hp121;omega)
     intro n136 h136;conv=>cbv
     have h136:=wrap_u64 h136;have e136:n136=((D-1:Nat):Int):=by omega
     intro n139 h139;conv=>cbv
     have h139:=wrap_u64 h139;have e139:n139=((r'+high:Nat):Int):=by omega
     intro n141 h141;conv=>cbv
     cases n141 <;> conv=>cbv
     ·have k141:=DI h141;refine⟨D-1,?_,?_⟩
      ·omega
      rw[hJ1];exact⟨D-1,r'+high,n136,n139,rfl,rfl,⟨⟨e136⟩,⟨e139⟩⟩,Tk hg hq1 hDp (by omega),rfl⟩
     have k141:=DJ h141;rw[hK3]
     first
      | exact⟨D-1,_,rfl,rfl,⟨e136⟩,Ox hg hq1 hDp hRf hVf hV0 hhi (by omega) htl⟩
      | exact⟨D,_,rfl,rfl,hd,Oy hg hRf hVf hV0 hhi (by omega)⟩
    have k117:=DJ h117;refine .inr ?_;have hgm:=hg.MS;have hgr:=hg.rest;have hq1:R/AE w66<=D-1:=by first | exact Th hg hqw | exact Tj hg hRf hR0 hVf (by omega)
    have hDp:0<D:=by first | omega | (apply Nat.pos_of_ne_zero;intro e;rw[e,Nat.zero_mul] at hp121;omega)
    intro n136 h136;conv=>cbv
    have h136:=wrap_u64 h136;have e136:n136=((D-1:Nat):Int):=by omega
    intro n139 h139;conv=>cbv
    have h139:=wrap_u64 h139;have e139:n139=((r'+high:Nat):Int):=by omega
    intro n141 h141;conv=>cbv
    cases n141 <;> conv=>cbv
    ·have k141:=DI h141;refine⟨D-1,?_,?_⟩
     ·omega
     rw[hJ1];exact⟨D-1,r'+high,n136,n139,rfl,rfl,⟨⟨e136⟩,⟨e139⟩⟩,Tk hg hq1 hDp (by omega),rfl⟩
    have k141:=DJ h141;rw[hK3]
    first
     | exact⟨D-1,_,rfl,rfl,⟨e136⟩,Ox hg hq1 hDp hRf hVf hV0 hhi (by omega) htl⟩
     | exact⟨D,_,rfl,rfl,hd,Oy hg hRf hVf hV0 hhi (by omega)⟩
   have k45:=AO h45;obtain⟨x48,hx48⟩:=AL (l:=m) (i:=0) (by omega);refine⟨x48,fun _=>⟨by omega,hx48⟩,?_⟩;try conv=>cbv
   intro n49 h49;have e49:=h49.eq;have f49:=h49.lt;conv=>cbv
   have hb48:b=x48.toNat:=by have:=CB hx48;rw[show 0+1=m.length by omega,List.take_length,hm,Aw] at this;simpa [AE] using this
   obtain⟨w50,hw50⟩:=xU (AS (AE l/b));obtain⟨v50,hv50⟩:=xU (AS (AE l%b));refine AB hE (al (d:=n49) (b:=b) (AR.of (by omega)) hb (by omega) hw50 hv50 (by omega)) ?_;conv=>cbv
   exact AD ⟨⟨rfl,congrArg _ (by rw[hz1,hw50,hl,Aw]),trivial⟩,⟨rfl,congrArg _ (by rw[hz2,hv50,hl,Aw]),trivial⟩,trivial⟩
  have k29:=F5 h29;obtain⟨r31,hr31⟩:∃n:Int,AR n (a):=⟨_,⟨rfl⟩⟩
  have er31:=hr31.eq;refine AB (r:= .one (.int .u64 r31)) hE (M7 (by rw[hl,Aw]) (by omega) hr31) ?_;conv=>cbv
  obtain⟨r33,hr33⟩:∃n:Int,AR n (b):=⟨_,⟨rfl⟩⟩
  have er33:=hr33.eq;refine AB (r:= .one (.int .u64 r33)) hE (M7 (by rw[hm,Aw]) (by omega) hr33) ?_;conv=>cbv
  have ha64:a<18446744073709551616:=by have:=CI l;rw[hl,Aw] at this;exact Nat.lt_of_lt_of_le this (Nat.pow_le_pow_right (by decide) (by rw[<-hl];omega:32*(AS a).length<=64))
  intro n36 h36;conv=>cbv
  refine AH ?_;have h36:=wrap_u64 h36;have bq:=Nat.div_le_self a b;have h36:n36=((a/b:Nat):Int):=by rw[h36,er31,er33,<-Int.natCast_ediv];generalize a/b=Q at *;omega
  obtain⟨w37,hw37⟩:=xU (AS (a/b));refine AB (r:= .one (.sl .u32 w37)) hE (Iv (AR.of (k:=a/b) h36) (by generalize a/b=Q at *;omega) hw37) ?_;try conv=>cbv
  intro n40 h40;conv=>cbv
  refine AH ?_;have br:=Nat.mod_lt a hb;have h40:n40=((a%b:Nat):Int):=by rw[h40,er31,er33];exact (Int.natCast_emod _ _).symm
  obtain⟨w41,hw41⟩:=xU (AS (a%b));refine AB (r:= .one (.sl .u32 w41)) hE (Iv (AR.of (k:=a%b) h40) (by generalize a%b=Q at *;omega) hw41) ?_;try conv=>cbv
  refine g2 rfl ?_;exact AD ⟨⟨rfl,congrArg _ (by rw[hz1,hw37]),trivial⟩,⟨rfl,congrArg _ (by rw[hz2,hw41]),trivial⟩,trivial⟩
 have k23:=AZ h23;obtain⟨w25,hw25⟩:=xU l;refine AB hE (IW hw25 (by omega)) ?_;conv=>cbv
 have hlt:a<b:=by rw[hr22] at k23;have:=HU k23;omega
 exact AD ⟨⟨rfl,.inr (.inl ⟨_,congrArg _ (by rw[hz1,Nat.div_eq_of_lt hlt];rfl)⟩),trivial⟩,⟨rfl,congrArg _ (by rw[hz2,Nat.mod_eq_of_lt hlt,hw25,hl]),trivial⟩,trivial⟩
end Go.Abs
namespace Go.Abs
open Go.RowKit
variable {c:Int} {k n:Nat} {l z:List UInt32}
theorem bP {a:Nat} (i:l=AS a) (j:z=AS (a/2)) (sl:l.length<=17592186044416):CF 415 [.one (.sl .u32 l)] (.one (.sl .u32 z)):=by
 refine AM Tryz.func415 fun E h=>?_
 conv=>cbv
 obtain⟨z4,g,d⟩:=IF (N:=AE l/2^1) (k:=l.length) (Nat.lt_of_le_of_lt (Nat.div_le_self _ _) (CI _));refine AB h (Ct (WS (n:=1) ⟨rfl⟩ (by omega) g d rfl sl)) ?_;conv=>cbv
 obtain⟨m,f⟩:=xU (AS (AE l/2^1));refine AB h (D5 d f) ?_;conv=>cbv
 exact AD ⟨⟨rfl,congrArg _ (by rw[j,f,i,Aw]),trivial⟩,trivial⟩
def Ce (n:Nat):Nat:=if n=0 then 0 else Nat.log2 n+1
theorem dB (f:2^k<=n) (g:n<2^(k+1)):Ce n=k+1:=by
 have d:n≠0:=by have:=Nat.two_pow_pos k;omega
 unfold Ce;rw[if_neg d];have a:k<=Nat.log2 n:=(Nat.le_log2 d).2 f;have b:Nat.log2 n<k+1:=(Nat.log2_lt d).2 g;omega
theorem Nx {i:Nat} {x:UInt32} (m:(AS n)[i]? =some x) (h:i+1=(AS n).length) (d:2^(k-1)<=x.toNat) (g:x.toNat<2^k) (p:1<=k):Ce n=32*i+k:=by
 have a:=CB m;rw[h,List.take_length,Aw] at a;have o:=JX (l:=AS n) (n:=i);obtain⟨j,rfl⟩:∃j,k=j+1:=⟨k-1,by omega⟩
 simp only[Nat.add_sub_cancel] at d;have e1:2^(32*i+j)=2^(32*i)*2^j:=Nat.pow_add _ _ _;have f:2^(32*i+j+1)=2^(32*i)*2^(j+1):=by rw[<-Nat.pow_add,Nat.add_assoc]
 refine dB (k:=32*i+j) ?_ ?_
 ·rw[e1,a];have:=Nat.mul_le_mul_left (2^(32*i)) d;omega
 rw[f,a];have:=Nat.mul_le_mul_left (2^(32*i)) (show x.toNat+1<=2^(j+1) from g);rw[Nat.mul_add] at this;omega
theorem XR {x:Int} {b:Bool} (o:Af x b l) (B:AR c (Ce x.natAbs)) (sl:l.length<=17592186044416):CF 413 [.agg (BC b l)] (.one (.int .i64 c)):=by
 refine AM Tryz.func413 fun E A=>?_
 conv=>cbv
 obtain⟨q,m⟩:=xU (AS (AE l));refine AB A (D5 rfl m) ?_;conv=>cbv
 have t6:q=l:=by rw[m];exact o.trim
 have T:q.length=l.length:=by rw[t6]
 rintro V ⟨U,f8⟩;conv=>cbv
 intro R w;conv=>cbv
 cases R <;> conv=>cbv
 ·have K:=AN w;rintro L ⟨C,f11⟩;conv=>cbv
  intro M G;conv=>cbv
  refine AI ?_;intro N H;conv=>cbv
  refine AI ?_;rintro O ⟨D,f16⟩;conv=>cbv
  intro u I;conv=>cbv
  refine AI ?_;obtain⟨h,f⟩:=AL (l:=q) (i:=(q.length-1)) (by omega);refine⟨h,fun _=>⟨by omega,by rw[show (u).toNat=(q.length-1) by omega];exact f⟩,?_⟩;try conv=>cbv
  have a:=f;rw[t6,o.BD] at a;have p:(AS x.natAbs).length-1+1=(AS x.natAbs).length:=by rw[<-o.BD,<-t6];omega
  have g:=KC a p;intro P j;have r:=j.eq;have f19:=j.lt;conv=>cbv
  obtain⟨S,d⟩:∃n:Int,AR n (Lib.bitLen h.toNat):=⟨_,⟨rfl⟩⟩
  have v:=d.eq;refine AB A (QX ⟨r⟩ f19 d) ?_;conv=>cbv
  have s:=bitLen_spec (x:=h.toNat) f19 g;have t:=Nx a p s.1 s.2.1 s.2.2.1;intro Q J;conv=>cbv
  refine AI ?_;exact AD ⟨⟨rfl,congrArg _ (by rw[B.eq,t,<-o.BD,<-t6];omega),trivial⟩,trivial⟩
 have K:=AO w;exact AD ⟨⟨rfl,congrArg _ (by rw[B.eq];have F:x=0:=o.Eo.1 (by rw[<-t6];omega);rw[F];rfl),trivial⟩,trivial⟩
theorem fK (L:AR c n) (V:n<=1125899906000000) (O:z=AS (2^n)):CF 414 [.one (.int .i64 c)] (.one (.sl .u32 z)):=by
 have R:=L.eq;refine AM Tryz.func414 fun E U=>?_
 conv=>cbv
 intro W S;conv=>cbv
 refine g2 ⟨by omega,by omega,i64 (by omega)⟩ ?_;intro X T;conv=>cbv
 refine AI ?_;refine⟨fun _=>⟨by omega,by omega,by show _*4<=140737488355328;omega⟩,?_⟩;intro v (j:List UInt32) u;have N:=u.1;have f:j=List.replicate v (0:el .u32):=u.2;have H:j.length=v:=by rw[f,List.length_replicate]
 conv=>cbv
 intro P J;conv=>cbv
 refine g2 ⟨by omega,by omega,i64 (by omega)⟩ ?_;intro Q K;conv=>cbv
 refine AH ?_;intro s m;conv=>cbv
 refine AH ?_;obtain⟨t,i,m⟩:∃q:Nat,q=2^(n%32)/\s=q:=⟨_,rfl,by have:=Po (p:=1) (e:=n%32) m rfl (by omega);rw[this,Nat.one_mul];congr 1;exact Nat.mod_eq_of_lt (Nat.lt_of_le_of_lt (Nat.pow_le_pow_right (by decide) (by omega:n%32<=31)) (by decide))⟩
 have D:t<4294967296:=by rw[i];exact Nat.lt_of_le_of_lt (Nat.pow_le_pow_right (by decide) (by omega:n%32<=31)) (by decide)
 refine AH ?_;intro r F;conv=>cbv
 obtain⟨h,g⟩:=B4 (n:=s) (by omega);have A:=g.eq;have B:=g.lt;refine⟨h,fun _=>⟨by show _<List.length (α:=UInt32) j;(first | omega | (simp;omega)),B3 g⟩,?_⟩;intro (a:List UInt32) (d:a=List.set (α:=UInt32) j r h);have C:a.length=j.length:=by rw[d,List.length_set]
 conv=>cbv
 have M:v=n/32+1:=by omega
 have G:AE a=2^n:=by
  have I:j[n/32]? =some 0:=by rw[f,List.getElem?_replicate,if_pos (by omega)]
  have:=Ow (w:=h) I;rw[d,show r=n/32 by omega];rw[f,HC] at this;rw[f];have e:2^n=2^(32*(n/32))*2^(n%32):=by rw[<-Nat.pow_add];congr 1;omega
  rw[e,<-i,show t=h.toNat by omega];simpa using this
 have hlen:a.length=n/32+1:=by rw[d,List.length_set,f,List.length_replicate,M]
 have o:AS (AE a)=a:=Oo (.inr (by rw[G,hlen];exact Nat.pow_le_pow_right (by decide) (by omega)));exact AD ⟨⟨rfl,.inl ⟨_,rfl,by omega,congrArg _ (by rw[O,<-G,o,List.drop_zero,List.take_of_length_le (by omega)])⟩,trivial⟩,trivial⟩
end Go.Abs
namespace Go.Abs
open Go.RowKit
variable {b b1 b2 b3:Bool} {l l1 l2 l3:List UInt32} {x y:Int}
theorem Xc {b4:Bool} {l4:List UInt32} (O:Af x b1 l1) (M:Af y b2 l2) (s:y≠0) (H:Af (B9 x y) b3 l3) (I:Af (F6 x y) b4 l4) (s1:l1.length<=17592186043000) (s2:l2.length<=17592186043000):CF 399 [.agg (BC b1 l1),.agg (BC b2 l2)] (.AJ [(true,(BC b3 l3)),(true,(BC b4 l4)),(false,[.int .i64 0])]):=by
 refine AM Tryz.func399 fun E v=>?_
 conv=>cbv
 obtain⟨W,B⟩:=xU (AS (AE l2));refine AB v (D5 rfl B) ?_;conv=>cbv
 have t12:W=l2:=by rw[B];exact M.trim
 rintro a6 ⟨a1,f14⟩;conv=>cbv
 intro S J;conv=>cbv
 cases S <;> conv=>cbv
 ·have Q:=AN J;obtain⟨X,C⟩:=xU (AS (AE l1));refine AB v (D5 rfl C) ?_;conv=>cbv
  have t21:X=l1:=by rw[C];exact O.trim
  obtain⟨N,i⟩:=xU (AS (x.natAbs/y.natAbs));obtain⟨V,f⟩:=xU (AS (x.natAbs%y.natAbs));refine AB (r:= .AJ [(false,[.sl .u32 N]),(false,[.sl .u32 V])]) v (Ls (t21.trans O.BD) (t12.trans M.BD) (by omega) i f (by rw[t21];omega)) ?_;try conv=>cbv
  have P:0<y.natAbs:=by omega
  have a2:=Nat.div_add_mod x.natAbs y.natAbs;have a5:=Nat.mod_lt x.natAbs P;have t:=O.neg;have h:=M.neg;intro T K;conv=>cbv
  cases T <;> conv=>cbv
  ·have g:=Ig K;refine .inr ?_;intro A u;conv=>cbv
   obtain⟨j,o,a⟩:=AW (B9 x y);refine AB (r:= .agg [.bool j,.sl .u32 o]) v (ER (by rw[i,Aw,u,g,Sy s (by rw[<-t,<-h];exact g)];simp) a) ?_;try conv=>cbv
   obtain⟨m,p,d⟩:=AW (F6 x y);refine AB (r:= .agg [.bool m,.sl .u32 p]) v (ER (by rw[f,Aw];exact ch h s (by rw[<-t,<-h];exact g)) d) ?_;try conv=>cbv
   refine g2 rfl ?_;exact AD ⟨⟨rfl,congrArg _ ((a.uniq H rfl).1.symm),congrArg _ ((a.uniq H rfl).2.symm),trivial⟩,⟨rfl,congrArg _ ((d.uniq I rfl).1.symm),congrArg _ ((d.uniq I rfl).2.symm),trivial⟩,t2,trivial⟩
  have g:=Ih K;rintro a7 ⟨w,f33⟩;conv=>cbv
  intro U L;conv=>cbv
  refine .inr ?_;cases U <;> conv=>cbv
  ·have R:=Bf L;intro A u;conv=>cbv
   obtain⟨j,o,a⟩:=AW (B9 x y);refine AB (r:= .agg [.bool j,.sl .u32 o]) v (ER (by have q:decide (x<0)≠decide (y<0):=(by rw[<-t,<-h];exact g);have G:A=true:=(by rw[u];simpa using g);rw[i,Aw,G,if_pos rfl];exact Sv s q (Dx.1 (by rw[<-f];exact List.eq_nil_of_length_eq_zero (by omega)))) a) ?_;try conv=>cbv
   obtain⟨m,p,d⟩:=AW (F6 x y);refine AB (r:= .agg [.bool m,.sl .u32 p]) v (ER (by have q:decide (x<0)≠decide (y<0):=(by rw[<-t,<-h];exact g);rw[f,Aw];exact cd s q (Dx.1 (by rw[<-f];exact List.eq_nil_of_length_eq_zero (by omega)))) d) ?_;try conv=>cbv
   refine g2 rfl ?_;exact AD ⟨⟨rfl,congrArg _ ((a.uniq H rfl).1.symm),congrArg _ ((a.uniq H rfl).2.symm),trivial⟩,⟨rfl,congrArg _ ((d.uniq I rfl).1.symm),congrArg _ ((d.uniq I rfl).2.symm),trivial⟩,t2,trivial⟩
  have R:=Bg L;refine⟨[(1:UInt32)],fun _=>⟨rfl,by decide,rfl,⟨rfl,t1,trivial⟩⟩,.inl ?_⟩;try conv=>cbv
  obtain⟨Y,D⟩:=xU (AS (x.natAbs/y.natAbs+1));refine .inr (.inl ⟨[.one (.sl .u32 N),.one (.sl .u32 [(1:UInt32)])],.one (.sl .u32 Y),fun _=>⟨rfl,⟨_,rfl,by simp <;> omega,by simp⟩,trivial⟩,fun _=>ES v (Ct (LP rfl (VO i (rfl:[(1:UInt32)]=AS 1) D rfl (by rw[i];have h1:=Df (Nat.div_le_self x.natAbs y.natAbs);rw[<-O.BD] at h1;omega) (by decide)))),?_⟩);try conv=>cbv
  obtain⟨Z,F⟩:=xU (AS (y.natAbs-x.natAbs%y.natAbs));refine AB (r:= .one (.sl .u32 Z)) v (Oq (t12.trans M.BD) f F (Nat.le_of_lt (Nat.mod_lt _ (by omega))) (by rw[t12];omega)) ?_;try conv=>cbv
  intro A u;conv=>cbv
  obtain⟨j,o,a⟩:=AW (B9 x y);refine AB (r:= .agg [.bool j,.sl .u32 o]) v (ER (by have q:decide (x<0)≠decide (y<0):=(by rw[<-t,<-h];exact g);have G:A=true:=(by rw[u];simpa using g);rw[D,Aw,G,if_pos rfl];exact Sw s q (fun e=>by rw[e,E5] at f;rw[f] at w;simp at w;omega)) a) ?_;try conv=>cbv
  obtain⟨m,p,d⟩:=AW (F6 x y);refine AB (r:= .agg [.bool m,.sl .u32 p]) v (ER (by have q:decide (x<0)≠decide (y<0):=(by rw[<-t,<-h];exact g);rw[F,Aw];exact cg h s q (fun e=>by rw[e,E5] at f;rw[f] at w;simp at w;omega)) d) ?_;try conv=>cbv
  refine g2 rfl ?_;exact AD ⟨⟨rfl,congrArg _ ((a.uniq H rfl).1.symm),congrArg _ ((a.uniq H rfl).2.symm),trivial⟩,⟨rfl,congrArg _ ((d.uniq I rfl).1.symm),congrArg _ ((d.uniq I rfl).2.symm),trivial⟩,t2,trivial⟩
 have Q:=AO J
 exfalso;exact s (M.Eo.1 (by rw[<-t12];omega))
theorem QS (hx:Af x b1 l1) (hy:Af y b2 l2) (hz:Af ((Nat.gcd x.natAbs y.natAbs:Nat):Int) b3 l3) (s1:l1.length<=17592186043000) (s2:l2.length<=17592186043000):CF 381 [.agg (BC b1 l1),.agg (BC b2 l2)] (.agg (BC b3 l3)):=by
 refine AM Tryz.func381 fun E s=>?_
 conv=>cbv
 obtain⟨a6,C⟩:=xU (AS (AE l1));refine AB s (D5 rfl C) ?_;conv=>cbv
 have t13:a6=l1:=by rw[C];exact hx.trim
 obtain⟨a7,D⟩:=xU (AS (AE l2));refine AB s (D5 rfl D) ?_;conv=>cbv
 have t16:a7=l2:=by rw[D];exact hy.trim
 refine g2 rfl ?_;obtain⟨K0,J⟩:=xK fun vs A=>∃(u v:List UInt32) (P Q:Nat),vs=[.one (.Ae 4 0 0),.one (.sl .u32 u),.one (.sl .u32 v)]/\A=[.var 0 [.bool false,.nil]]/\(u=AS P/\v=AS Q/\Nat.gcd P Q=Nat.gcd x.natAbs y.natAbs/\u.length<=17592186043000)/\v.length<=2/\(2<u.length->v.length=0)
 refine .inl ⟨[4,5,6],[4],K0,?_,?_⟩
 ·intro vs A B;rw[J] at B;obtain⟨u,v,P,Q,rfl,rfl,⟨hu,d,H,K⟩,aG,aF⟩:=B;conv=>cbv
  rintro aM ⟨aE,f39⟩;conv=>cbv
  intro ar R;conv=>cbv
  cases ar <;> conv=>cbv
  ·have ak:=AN R;have az:u.length<=2:=by omega
   have aA:v.length<=2:=by omega
   have T:P<18446744073709551616:=by have:=CI u;rw[hu,Aw] at this;exact Nat.lt_of_lt_of_le this (Nat.pow_le_pow_right (by decide) (by rw[<-hu];omega:32*(AS P).length<=64))
   have V:Q<18446744073709551616:=by have:=CI v;rw[d,Aw] at this;exact Nat.lt_of_lt_of_le this (Nat.pow_le_pow_right (by decide) (by rw[<-d];omega:32*(AS Q).length<=64))
   obtain⟨a2,h⟩:∃n:Int,AR n (P):=⟨_,⟨rfl⟩⟩
   have aw:=h.eq;refine AB (r:= .one (.int .u64 a2)) s (M7 (by rw[hu,Aw]) (by omega) h) ?_;conv=>cbv
   obtain⟨a5,i⟩:∃n:Int,AR n (Q):=⟨_,⟨rfl⟩⟩
   have ax:=i.eq;refine AB (r:= .one (.int .u64 a5)) s (M7 (by rw[d,Aw]) (by omega) i) ?_;conv=>cbv
   refine .inr ?_;obtain⟨J1,I⟩:=xJ fun vs A k=>∃(w g:Nat) (p q:Int),vs=[.one (.Ae 4 0 0),.one (.int .u64 p),.one (.int .u64 q)]/\A=[.var 0 [.bool false,.nil]]/\(AR p w/\AR q g/\w<18446744073709551616/\g<18446744073709551616)/\Nat.gcd w g=Nat.gcd P Q/\k=g
   refine⟨[],[4,9,10],[4],J1,⟨Q,by rw[I];exact⟨P,Q,a2,a5,rfl,rfl,⟨h,i,T,V⟩,rfl,rfl⟩⟩,?_⟩;intro vs A aI B;rw[I] at B;obtain⟨w,g,p,q,rfl,rfl,⟨hp,hq,ay,Z⟩,X,ag⟩:=B;conv=>cbv
   have ep:=hp.eq;have eq:=hq.eq;intro au S;conv=>cbv
   cases au <;> conv=>cbv
   ·have al:=BY S;obtain⟨aO,G⟩:=xU (AS w);refine AB s (Iv hp (by omega) G) ?_;conv=>cbv
    obtain⟨aa,ad,o⟩:=AW (((Nat.gcd x.natAbs y.natAbs:Nat):Int));refine AB (r:= .agg [.bool aa,.sl .u32 ad]) s (ER (by rw[G,Aw,<-H,<-X,show g=0 by omega,Nat.gcd_zero_right];rfl) o) ?_;try conv=>cbv
    exact AD ⟨⟨rfl,congrArg _ ((o.uniq hz rfl).1.symm),congrArg _ ((o.uniq hz rfl).2.symm),trivial⟩,trivial⟩
   have al:=BZ S;refine .inr ?_;have Y:0<g:=by omega
   intro C3 af;conv=>cbv
   refine AH ?_;have ae:C3=((w%g:Nat):Int):=by rw[af,ep,eq];exact (Int.natCast_emod _ _).symm
   refine g2 rfl ?_;refine⟨w%g,?_,?_⟩
   ·rw[ag];exact Nat.mod_lt _ Y
   rw[I];exact⟨g,w%g,_,_,rfl,rfl,⟨hq,⟨ae⟩,Z,by have:=Nat.mod_lt w Y;omega⟩,by rw[<-X,Nat.gcd_comm g,<-Nat.gcd_rec,Nat.gcd_comm],rfl⟩
  have ak:=AO R;have U:Q=0:=Dx.1 (by rw[<-d];exact List.eq_nil_of_length_eq_zero (by omega));obtain⟨aN,F⟩:=xU u;refine AB s (IW F (by omega)) ?_;conv=>cbv
  obtain⟨a8,ab,m⟩:=AW (((Nat.gcd x.natAbs y.natAbs:Nat):Int));refine AB (r:= .agg [.bool a8,.sl .u32 ab]) s (ER (by rw[F,hu,Aw,<-H,U,Nat.gcd_zero_right];rfl) m) ?_;try conv=>cbv
  exact AD ⟨⟨rfl,congrArg _ ((m.uniq hz rfl).1.symm),congrArg _ ((m.uniq hz rfl).2.symm),trivial⟩,trivial⟩
 obtain⟨J0,t⟩:=xJ fun vs A k=>∃(u v:List UInt32) (P Q:Nat),vs=[.one (.Ae 4 0 0),.one (.sl .u32 u),.one (.sl .u32 v)]/\A=[.var 0 [.bool false,.nil]]/\(u=AS P/\v=AS Q/\Nat.gcd P Q=Nat.gcd x.natAbs y.natAbs/\u.length<=17592186043000/\v.length<=17592186043000)/\k=Q
 refine⟨[],[4,5,6],[4],J0,⟨y.natAbs,by rw[t];exact⟨a6,a7,x.natAbs,y.natAbs,rfl,rfl,⟨t13.trans hx.BD,t16.trans hy.BD,rfl,by rw[t13];exact s1,by rw[t16];exact s2⟩,rfl⟩⟩,?_⟩;intro vs A aH B;rw[t] at B;obtain⟨u,v,P,Q,rfl,rfl,⟨hu,d,H,K,a1⟩,W⟩:=B;conv=>cbv
 rintro aJ ⟨aB,f18⟩;conv=>cbv
 intro an M;conv=>cbv
 cases an <;> conv=>cbv
 ·have ah:=Bf M;rintro aK ⟨aC,f22⟩;conv=>cbv
  intro ao N;conv=>cbv
  cases ao <;> conv=>cbv
  ·have ai:=Bf N;rw[J];exact⟨u,v,P,Q,rfl,rfl,⟨hu,d,H,K⟩,by omega,by omega⟩
  have ai:=Bg N;rintro aL ⟨aD,f26⟩;conv=>cbv
  intro aq O;conv=>cbv
  cases aq <;> conv=>cbv
  ·have aj:=Bf O;rw[J];exact⟨u,v,P,Q,rfl,rfl,⟨hu,d,H,K⟩,by omega,by omega⟩
  have aj:=Bg O;refine .inr ?_;have f:0<Q:=by apply Nat.pos_of_ne_zero;intro e;rw[e,E5] at d;rw[d] at *;simp at *;omega
  obtain⟨av,j⟩:=xU (AS (P/Q));obtain⟨L,a⟩:=xU (AS (P%Q));refine AB s (Ls hu d f j a (by omega)) ?_;conv=>cbv
  refine⟨P%Q,?_,?_⟩
  ·rw[W];exact Nat.mod_lt _ f
  rw[t];exact⟨v,L,Q,P%Q,rfl,rfl,⟨d,a,by rw[<-H,Nat.gcd_comm Q,<-Nat.gcd_rec,Nat.gcd_comm],a1,by have:=Df (Nat.le_of_lt (Nat.mod_lt P f));rw[<-a,<-d] at this;omega⟩,rfl⟩
 have ah:=Bg M;refine .inr ?_;have f:0<Q:=by apply Nat.pos_of_ne_zero;intro e;rw[e,E5] at d;rw[d] at *;simp at *;omega
 obtain⟨av,j⟩:=xU (AS (P/Q));obtain⟨L,a⟩:=xU (AS (P%Q));refine AB s (Ls hu d f j a (by omega)) ?_;conv=>cbv
 refine⟨P%Q,?_,?_⟩
 ·rw[W];exact Nat.mod_lt _ f
 rw[t];exact⟨v,L,Q,P%Q,rfl,rfl,⟨d,a,by rw[<-H,Nat.gcd_comm Q,<-Nat.gcd_rec,Nat.gcd_comm],a1,by have:=Df (Nat.le_of_lt (Nat.mod_lt P f));rw[<-a,<-d] at this;omega⟩,rfl⟩
theorem dc {u:List UInt32} {X:Nat} (hu:u=AS X) (f:u.length<=l.length+1) (g:Af x b l) (s1:l.length<=17592186042000):(AS (X+x.natAbs/X)).length<=17592186044416:=by
 refine Nat.le_trans (Ep (k:=l.length+2) ?_) (by omega);have a:=CI u;rw[hu,Aw] at a;have d:=CI l;rw[g.nat] at d;have h:=Nat.div_le_self x.natAbs X;have i:2^(32*(AS X).length)<=2^(32*(l.length+1)):=Nat.pow_le_pow_right (by decide) (by rw[<-hu];omega);have j:2^(32*l.length)<=2^(32*(l.length+1)):=Nat.pow_le_pow_right (by decide) (by omega);have m:2^(32*(l.length+2))=4294967296*2^(32*(l.length+1)):=Dg (l.length+1);omega
theorem dA (f:Af x b l) (a:x.natAbs≠0):Ce x.natAbs<=32*l.length/\Ce x.natAbs=Nat.log2 x.natAbs+1:=by
 have d:=CI l;rw[f.nat] at d;have g:=(Nat.log2_lt a).2 d;unfold Ce;rw[if_neg a];exact⟨by omega,rfl⟩
theorem X9 {e:Int} (B:Af x b1 l1) (v:Af ((BL x.toNat:Nat):Int) b3 l3) (he:e=if x<0 then 7 else 0) (s1:l1.length<=17592186042000):CF 404 [.agg (BC b1 l1)] (.AJ [(true,(BC b3 l3)),(false,[.int .i64 e])]):=by
 refine AM Tryz.func404 fun E o=>?_
 conv=>cbv
 obtain⟨ag,J⟩:=xI (B7 x);refine AB o (Jn B J) ?_;conv=>cbv
 refine .inr ?_;intro V D;conv=>cbv
 cases V <;> conv=>cbv
 ·have T:=AN D;intro W F;conv=>cbv
  cases W <;> conv=>cbv
  ·have U:=AN F;have C:0<x:=by rcases Es x with⟨m,q⟩ |⟨m,q⟩ |⟨m,q⟩ <;> omega
   have H:x.natAbs≠0:=by omega
   have R:=dA B H;have ab:0<BL x.natAbs:=by apply Nat.pos_of_ne_zero;intro e;have:=MQ x.natAbs;rw[e] at this;omega
   obtain⟨ah,s⟩:∃n:Int,AR n (Ce x.natAbs):=⟨_,⟨rfl⟩⟩
   have a7:=s.eq;refine AB o (XR B s (by omega)) ?_;conv=>cbv
   intro ae a8;conv=>cbv
   refine g2 ⟨by omega,by omega,i64 (by omega)⟩ ?_;intro af aa;conv=>cbv
   refine AI ?_;obtain⟨a1,f⟩:=xU (AS (2^(Ce x.natAbs/2+1)));refine AB o (fK (n:=Ce x.natAbs/2+1) ⟨by omega⟩ (by omega) f) ?_;conv=>cbv
   refine .inr ?_;obtain⟨J0,w⟩:=xJ fun vs bl k=>∃(u:List UInt32) (X:Nat),vs=[.one (.Ae 1 0 0),.one (.Ae 2 0 0),.one (.sl .u32 u)]/\bl=[.var 0 [.bool b1,.sl .u32 l1],.var 0 [.bool false,.nil]]/\(u=AS X/\BL x.natAbs<=X/\0<X/\u.length<=l1.length+1)/\k=X
   refine⟨[],[1,2,5],[1,2],J0,⟨2^(Ce x.natAbs/2+1),by rw[w];exact⟨a1,_,rfl,rfl,⟨f,by rw[R.2];exact gL H,Nat.two_pow_pos _,by rw[f];exact Ep (Nat.pow_lt_pow_right (by decide) (by omega))⟩,rfl⟩⟩,?_⟩;intro vs bl ad hj;rw[w] at hj;obtain⟨u,X,rfl,rfl,⟨hu,A,p,S⟩,Q⟩:=hj;conv=>cbv
   refine .inr ?_;obtain⟨a2,t⟩:=xU (AS (AE l1));refine AB o (D5 rfl t) ?_;conv=>cbv
   have t26:a2=l1:=by rw[t];exact B.trim
   obtain⟨a5,g⟩:=xU (AS (x.natAbs/X));obtain⟨Z,K⟩:=xU (AS (x.natAbs%X));refine AB (r:= .AJ [(false,[.sl .u32 a5]),(false,[.sl .u32 Z])]) o (Ls (t26.trans B.BD) hu p g K (by rw[t26];omega)) ?_;try conv=>cbv
   obtain⟨a6,h⟩:=xU (AS (X+x.natAbs/X));refine AB (r:= .one (.sl .u32 a6)) o (VN hu g h (by omega) (by rw[g];have m:=Df (Nat.div_le_self x.natAbs X);rw[<-B.BD] at m;omega)) ?_;try conv=>cbv
   obtain⟨L,a⟩:=xU (AS ((X+x.natAbs/X)/2));refine AB (r:= .one (.sl .u32 L)) o (bP h a (by rw[h];exact dc hu S B s1)) ?_;try conv=>cbv
   obtain⟨ai,d⟩:=xI (BQ ((X+x.natAbs/X)/2:Nat) X);refine AB o (Li a hu d) ?_;conv=>cbv
   intro Y G;conv=>cbv
   cases Y <;> conv=>cbv
   ·have j:=DI G;have I:(X+x.natAbs/X)/2<X:=by rw[d] at j;have:=HU j;omega
    refine⟨(X+x.natAbs/X)/2,?_,?_⟩
    ·rw[Q];exact I
    rw[w];exact⟨L,_,rfl,rfl,⟨a,Ws A p,by have:=Ws A p;omega,by rw[a];have:=Df (Nat.le_of_lt I);rw[<-hu] at this;omega⟩,rfl⟩
   have j:=DJ G;obtain⟨M,N,i⟩:=AW (((X:Nat):Int));refine AB (r:= .agg [.bool M,.sl .u32 N]) o (ER (by rw[hu,Aw];rfl) i) ?_;try conv=>cbv
   have P:X<=(X+x.natAbs/X)/2:=by rw[d] at j;have:=HT j;omega
   have hX:=gK A p P;exact AD ⟨⟨rfl,congrArg _ ((i.uniq v (by rw[<-hX];congr 2;omega)).1.symm),congrArg _ ((i.uniq v (by rw[<-hX];congr 2;omega)).2.symm),trivial⟩,⟨rfl,congrArg _ (by rw[he,if_neg (by omega)]),trivial⟩,trivial⟩
  have U:=AO F;have C:x=0:=by rcases Es x with⟨m,q⟩ |⟨m,q⟩ |⟨m,q⟩ <;> omega
  have O:((BL x.toNat:Nat):Int)=0:=by rw[show x.toNat=0 by omega];rfl
  rw[O] at v;exact AD ⟨⟨rfl,congrArg _ (v.neg.trans rfl),.inr (.inl ⟨_,congrArg _ (v.BD.trans rfl)⟩),trivial⟩,⟨rfl,congrArg _ (by rw[he,if_neg (by omega)]),trivial⟩,trivial⟩
 have T:=AO D;have C:x<0:=by rcases Es x with⟨m,q⟩ |⟨m,q⟩ |⟨m,q⟩ <;> omega
 have O:((BL x.toNat:Nat):Int)=0:=by rw[show x.toNat=0 by omega];rfl
 rw[O] at v;exact AD ⟨⟨rfl,congrArg _ (v.neg.trans rfl),.inr (.inl ⟨_,congrArg _ (v.BD.trans rfl)⟩),trivial⟩,⟨rfl,congrArg _ (by rw[he,if_pos C]),trivial⟩,trivial⟩
end Go.Abs
