/- Part 14 of a proof. Conditions: each theorem's own. -/
import Derived.Test.YtmhbikooakmagaaGreatRk12
set_option linter.all false
set_option maxHeartbeats 8000000
set_option maxRecDepth 20000
open Go.Proofs
namespace Go.Abs
open Go.RowKit
theorem bR {x c:Int} {k:Nat} (j:AO x k) (d:k≠0) (f:k<4294967296) (i:AO c (32-Lib.bitLen k)):CF 398 [.one (.int .u32 x)] (.one (.int .i64 c)):=by
 refine AJ Tryz.func398 fun E h=>?_
 conv=>cbv
 obtain⟨p,a⟩:∃n:Int,AO n (Lib.bitLen k):=⟨_,⟨rfl⟩⟩
 have g:=a.eq;refine AB h (TF j f a) ?_;conv=>cbv
 have hb:=bitLen_spec f d;intro o m;conv=>cbv
 refine AI ?_;exact AD ⟨⟨rfl,congrArg _ (by rw[i.eq];omega),trivial⟩,trivial⟩
theorem Np {l m z1 z2:List UInt32} {a b:Nat} (hl:l=AP a) (hm:m=AP b) (hb:0<b) (hz1:z1=AP (a/b)) (hz2:z2=AP (a%b)) (sl:l.length<=17592186044000):CF 387 [.one (.sl .u32 l),.one (.sl .u32 m)] (.AG [(false,[.sl .u32 z1]),(false,[.sl .u32 z2])]):=by
 refine AJ Tryz.func387 fun E hE=>?_
 conv=>cbv
 refine .inr ?_;obtain⟨r22,hr22⟩:=xI (BV a b);refine AB hE (Ni hl hm hr22) ?_;conv=>cbv
 intro n23 h23;conv=>cbv
 cases n23 <;> conv=>cbv
 ·have k23:=AW h23;have hba:b<=a:=by rw[hr22] at k23;have:=IE k23;omega
  have hml:m.length<=l.length:=by rw[hl,hm];exact D1 hba
  intro n28 h28;have e28:=h28.eq;have f28:=h28.le;conv=>cbv
  intro n29 h29;conv=>cbv
  cases n29 <;> conv=>cbv
  ·have k29:=HH h29;intro n44 h44;have e44:=h44.eq;have f44:=h44.le;conv=>cbv
   intro n45 h45;conv=>cbv
   cases n45 <;> conv=>cbv
   ·have k45:=Ah h45;have hm0:m.length≠0:=fun e=>by have e2:=List.eq_nil_of_length_eq_zero e;rw[hm] at e2;have:=Er.1 e2;omega
    obtain⟨n,hn⟩:∃n,n=m.length:=⟨_,rfl⟩
    have hn2:2<=n:=by omega
    intro n55 h55;have e55:=h55.eq;have f55:=h55.le;conv=>cbv
    intro n56 h56;conv=>cbv
    refine AI ?_;obtain⟨x57,hx57⟩:=AK (l:=m) (i:=(n-1)) (by omega);refine⟨x57,fun _=>⟨by omega,by rw[show (n56).toNat=(n-1) by omega];exact hx57⟩,?_⟩;try conv=>cbv
    have hx57b:=hx57;rw[hm] at hx57b;have hx570:x57.toNat≠0:=Lb hx57b (by rw[<-hm];omega);intro n58 h58;have e58:=h58.eq;have f58:=h58.lt;conv=>cbv
    obtain⟨s,hs⟩:∃s,s=32-Lib.bitLen x57.toNat:=⟨_,rfl⟩
    have hbl:=bitLen_spec (x:=x57.toNat) (by omega) hx570;obtain⟨r59,hr59⟩:∃n:Int,AO n s:=⟨_,⟨rfl⟩⟩
    have er59:=hr59.eq;refine AB hE (bR (k:=x57.toNat) (AO.of (by omega)) hx570 (by omega) (hs ▸ hr59)) ?_;conv=>cbv
    obtain⟨z62,hz621,hz622⟩:=JL (N:=AE l*2^s) (k:=l.length+1) (Ox l);obtain⟨zn62,hzn62⟩:∃k,k=z62.length:=⟨_,rfl⟩
    refine AB hE (Zg hr59 (by omega) hz621 hz622 hzn62 (by omega)) ?_;conv=>cbv
    obtain⟨z65,hz651,hz652⟩:=JL (N:=AE m*2^s) (k:=m.length+1) (Ox m);refine AB hE (C8 (Zg hr59 (by omega) hz651 hz652 rfl (by omega))) ?_;conv=>cbv
    obtain⟨w66,hw66⟩:=xU (AP (AE m*2^s));refine AB hE (Ea hz652 hw66) ?_;conv=>cbv
    obtain⟨hwl,hwV⟩:=Zi (b:=b) (n:=n) (s:=s) (x:=x57) (k:=Lib.bitLen x57.toNat) (by rw[<-hm,hn]) (by omega) hx57b hbl.1 hbl.2.1 hbl.2.2.1 hbl.2.2.2 hs;have hV:AE w66=b*2^s:=by rw[hw66,Az,hm,Az]
    have hwn:w66.length=n:=by rw[hw66,hm,Az];exact hwl
    rw[<-hV] at hwV;intro n68 h68;have e68:=h68.eq;have f68:=h68.le;conv=>cbv
    intro n70 h70;have e70:=h70.eq;conv=>cbv
    intro n72 h72;conv=>cbv
    refine AI ?_;refine⟨fun _=>⟨by omega,by omega,by show _*4<=140737488355328;omega⟩,?_⟩;intro k73 (l73:List UInt32) ql73;have hk73:=ql73.1;have hl73:l73=List.replicate k73 (0:el .u32):=ql73.2;have gl73:l73.length=k73:=by rw[hl73,List.length_replicate]
    conv=>cbv
    intro n76 h76;conv=>cbv
    refine AI ?_;obtain⟨x77,hx77⟩:=AK (l:=w66) (i:=(n-1)) (by omega);refine⟨x77,fun _=>⟨by omega,by rw[show (n76).toNat=(n-1) by omega];exact hx77⟩,?_⟩;try conv=>cbv
    intro n78 h78;have e78:=h78.eq;have f78:=h78.lt;conv=>cbv
    intro n79 h79;conv=>cbv
    have h79:=wrap_u64 h79;intro n82 h82;conv=>cbv
    refine AI ?_;obtain⟨x83,hx83⟩:=AK (l:=w66) (i:=(n-2)) (by omega);refine⟨x83,fun _=>⟨by omega,by rw[show (n82).toNat=(n-2) by omega];exact hx83⟩,?_⟩;try conv=>cbv
    intro n84 h84;have e84:=h84.eq;have f84:=h84.lt;conv=>cbv
    intro n85 h85;conv=>cbv
    have h85:=wrap_u64 h85;refine g2 rfl ?_;obtain⟨A,hA⟩:∃A,A=AE z62:=⟨_,rfl⟩
    obtain⟨high,hhigh⟩:∃k,k=x77.toNat:=⟨_,rfl⟩
    obtain⟨next,hnext⟩:∃k,k=x83.toNat:=⟨_,rfl⟩
    obtain⟨hVf,hVf2⟩:=ny hwn hx77 hx83 hn2;rw[<-hhigh,<-hnext] at hVf;rw[<-hhigh] at hVf2;have hV0:=Kv (l:=w66) (n:=n-2);have hV1:=Kv (l:=w66) (n:=n-1);have hhi:=iF hwV hVf2 hV1;have hstart:AE (z62.drop k73)<AE w66:=aA hz622 (by omega) hz621 (by omega) (by omega) hwV;have hwlt:=CR w66;rw[hwn] at hwlt;have hVpos:0<AE w66:=by omega
    have hk73n:k73+n=l.length+1:=by omega
    have hzl:zn62=l.length+1/\z62.length=l.length+1:=by omega
    have hs31:s<=31:=by omega
    have e79:n79=(high:Int):=by omega
    have e85:n85=(next:Int):=by omega
    have hhl:high<4294967296:=by omega
    have hnl:next<4294967296:=by omega
    have hn68:n68=(n:Int):=by omega
    have hVpos:0<AE w66:=by omega
    have hk73n:k73+n=l.length+1:=by omega
    have hzl:zn62=l.length+1/\z62.length=l.length+1:=by omega
    have hs31:s<=31:=by omega
    have e79:n79=(high:Int):=by omega
    have e85:n85=(next:Int):=by omega
    have hhl:high<4294967296:=by omega
    have hnl:next<4294967296:=by omega
    have hn68:n68=(n:Int):=by omega
    have hVM:AE w66<=2^(32*(n+1)):=by rw[Ds];omega
    intro n87 h87;have e87:=h87.eq;conv=>cbv
    intro n88 h88;conv=>cbv
    refine AI ?_;refine .inr ?_
    obtain⟨J0,hJ0⟩:∃J:List AV->List AL->Nat->Prop,J=fun vs bl k=>∃(u q:List UInt32) (j':Nat) (i:Int),vs=[.one (.int .i64 r59),.one (.AN .u32 62 0 0 zn62),.one (.sl .u32 w66),.one (.int .i64 n68),.one (.AN .u32 73 0 0 k73),.one (.int .u64 n79),.one (.int .u64 n85),.one (.int .i64 i)]/\
     bl=[.arr 0 .u32 u,.arr 0 .u32 q]/\(u.length=z62.length/\q.length=k73/\AO (i+1) j'/\j'<=k73)/\AE (u.drop j')<AE w66/\A=AE u+2^(32*j')*AE (q.drop j')*AE w66/\k=j':=⟨_,rfl⟩
    refine⟨[],[8,9,10,11,12,13,14,15],[62,73],J0,⟨k73,by rw[hJ0];exact⟨z62,l73,k73,n88,rfl,rfl,⟨rfl,by rw[hl73,List.length_replicate],⟨by omega⟩,by omega⟩,hstart,by rw[List.drop_eq_nil_of_le (by rw[hl73,List.length_replicate];omega)];simp[AE,hA],rfl⟩⟩,?_⟩;intro vs bl kk0 hj;rw[hJ0] at hj;obtain⟨u,q,j',i,rfl,rfl,⟨hul,hql,hi,hjl⟩,hlt,hinv,hk0⟩:=hj;conv=>cbv
    clear hr22 h23 k23 hba hml h28 e28 f28 h29 k29 h44 e44 f44 h45 k45 hm0 hn h55 e55 f55 h56 hx57 hx57b hx570 h58 e58 f58 hs hbl hz621 hzn62 hz651 hz652 hw66 hwl h68 e68 f68 h70 e70 h72 hk73 hl73 gl73 h76 hx77 h78 e78 f78 h79 h82 hx83 h84 e84 f84 h85 hhigh hnext hstart h87 e87 h88
    have ei:=hi.eq;intro n90 h90;conv=>cbv
    cases n90 <;> conv=>cbv
    ·have k90:=EI h90;have hnl169:k73<=(q).length:=by omega
     obtain⟨m169,hm169⟩:=xN ((B4 ((q).take k73)).length);obtain⟨hle169,htk169⟩:=ER hnl169 hm169;refine .inr (.inr (.inl ⟨[],.one (.AN .u32 0 0 0 m169),.arr 0 .u32 q,fun _=>⟨by first | decide | simp[Bt,B3],trivial⟩,fun _=>⟨Dm hE (Kz hnl169 (by omega) hm169),rfl,rfl⟩,?_⟩));try conv=>cbv
     refine AH ?_;intro b172 hb172;conv=>cbv
     rintro o172 c172 ⟨ho172,hc172⟩;conv=>cbv
     have ho172:o172=0:=by omega
     subst ho172;have hnl173:c172<=u.length:=by omega
     obtain⟨m173,hm173⟩:=xN ((B4 (u.take c172)).length);obtain⟨hle173,htk173⟩:=ER hnl173 hm173;refine .inr (.inr (.inl ⟨[],.one (.AN .u32 0 0 0 m173),.arr 0 .u32 u,fun _=>⟨by first | decide | simp[Bt,B3],trivial⟩,fun _=>⟨Dm hE (Kz hnl173 (by omega) hm173),rfl,rfl⟩,?_⟩));try conv=>cbv
     have hl175:(u.take m173).length<=u.length:=by rw[List.length_take];omega
     obtain⟨z175,hz1751,hz1752⟩:=JL (N:=AE (u.take m173)/2^s) (k:=(u.take m173).length) (Nat.lt_of_le_of_lt (Nat.div_le_self _ _) (CR _));refine .inr (.inl ⟨[.one (.sl .u32 ((u).take m173)),.one (.int .i64 r59)],.one (.sl .u32 z175),fun _=>⟨⟨_,rfl,by simp <;> omega,by simp⟩,rfl,trivial⟩,fun _=>E6 hE (C8 (I7 rfl (Zh hr59 (by omega) hz1751 hz1752 rfl (by omega)))),?_⟩);try conv=>cbv
     obtain⟨w176,hw176⟩:=xU (AP (AE (u.take m173)/2^s));refine AB hE (Ea hz1752 hw176) ?_;conv=>cbv
     refine g2 rfl ?_;have hj0:j'=0:=by omega
     rw[hj0,List.drop_zero] at hlt;have hinv2:A=AE u+AE q*AE w66:=by rw[hj0] at hinv;simpa using hinv
     have hA2:A=a*2^s:=by rw[hA,hz622,hl,Az]
     obtain⟨e1,e2⟩:=Vp hA2 hV hinv2 hlt hb;have hcn:c172=n:=by omega
     have hun:AE (u.take c172)=AE u:=by rw[hcn];have h1:=Fc u n (by omega);rw[Qu (by omega) (by omega)] at h1;omega
     have hum:AE (u.take m173)=AE u:=by rw[htk173,Az,hun]
     exact AD ⟨⟨rfl,.inl ⟨_,rfl,by omega,congrArg _ (by rw[List.drop_zero,htk169,<-hql,List.take_length,e1,hz1])⟩,trivial⟩,⟨rfl,congrArg _ (by rw[hz2,hw176,hum,e2]),trivial⟩,trivial⟩
    have k90:=EJ h90;refine .inr ?_;obtain⟨i',rfl⟩:∃i',j'=i'+1:=⟨j'-1,by omega⟩
    intro n96 h96;conv=>cbv
    refine AI ?_;refine AH ?_;intro j97 hj97;conv=>cbv
    obtain⟨x98,hx98⟩:=AK (l:=u) (i:=j97) (by omega);refine⟨x98,fun _=>hx98,?_⟩;try conv=>cbv
    intro n98 h98;have e98:=h98.eq;have f98:=h98.lt;conv=>cbv
    intro n99 h99;conv=>cbv
    have h99:=wrap_u64 h99;intro n100 h100;conv=>cbv
    refine AH ?_;have h100:=JT (p:=4294967296) h100 rfl;intro n104 h104;conv=>cbv
    refine AI ?_;intro n105 h105;conv=>cbv
    refine AI ?_;refine AH ?_;intro j106 hj106;conv=>cbv
    obtain⟨x107,hx107⟩:=AK (l:=u) (i:=j106) (by omega);refine⟨x107,fun _=>hx107,?_⟩;try conv=>cbv
    intro n107 h107;have e107:=h107.eq;have f107:=h107.lt;conv=>cbv
    intro n108 h108;conv=>cbv
    have h108:=wrap_u64 h108;intro n109 h109;conv=>cbv
    have h109:=JK (p:=x98.toNat) (q:=x107.toNat) h109 (by omega) (by omega) (by omega) (by omega);refine g2 rfl ?_;obtain⟨x130y,hy130⟩:=AK (l:=u) (i:=i'+n-2) (by omega);obtain⟨u3,hu3⟩:∃k,k=x130y.toNat:=⟨_,rfl⟩
    obtain⟨R,hRd⟩:∃R,R=AE (u.drop i'):=⟨_,rfl⟩
    obtain⟨top,htop⟩:∃t,t=x107.toNat+4294967296*x98.toNat:=⟨_,rfl⟩
    have h0:AE (u.drop (i'+n+1))=0:=by have:=Qu (l:=u.drop (i'+1)) (n:=n) (by omega) (by rw[List.length_drop];omega);rwa [List.drop_drop,show i'+1+n=i'+n+1 by omega] at this
    have hx97:u[i'+n]? =some x98:=by rw[<-hx98];congr 1;omega
    have hx106:u[i'+n-1]? =some x107:=by rw[<-hx107];congr 1;omega
    have hRf:=nz hx97 hx106 hy130 hn2 h0;have hRf2:=oA hx97 hx106 (by omega) h0;rw[<-htop,<-hu3,<-hRd] at hRf;rw[<-htop,<-hRd] at hRf2;have hR0:=Kv (l:=u.drop i') (n:=n-2);have hR1:=Kv (l:=u.drop i') (n:=n-1);have hRV:R<4294967296*AE w66:=by obtain⟨xi,hxi⟩:=AK (l:=u) (i:=i') (by omega);rw[hRd,DZ hxi];have:=xi.toNat_lt;omega
    have hRM:R<2^(32*(n+1)):=by rw[Ds];omega
    have htl:=nx hRf2 hVf2 hV1 hRV;have hg0:=iA hRf2 hR1 hVf2 hhi (by omega) htl;have hqw:R/AE w66<4294967296:=(Nat.div_lt_iff_lt_mul hVpos).2 hRV;have hbig:top<18446744073709551616:=by have:=x107.toNat_lt;have:=x98.toNat_lt;omega
    intro n112 h112;conv=>cbv
    refine AH ?_;have h112:=wrap_u64 h112;have e112:n112=((top/high:Nat):Int):=by rw[h112,h109,e79,<-htop,<-Int.natCast_ediv];have:=Nat.div_le_self top high;generalize top/high=Q at *;omega
    intro n115 h115;conv=>cbv
    refine AH ?_;have e115:n115=((top%high:Nat):Int):=by rw[h115,h109,e79,<-htop];exact (Int.natCast_emod _ _).symm
    refine g2 rfl ?_;obtain⟨K3,hK3⟩:=xK fun vs bl=>∃(Dd:Nat) (d:Int),vs=[.one (.int .i64 r59),.one (.AN .u32 62 0 0 zn62),.one (.sl .u32 w66),.one (.int .i64 n68),.one (.AN .u32 73 0 0 k73),.one (.int .u64 n79),.one (.int .u64 n85),.one (.int .i64 i),.one (.int .u64 d)]/\bl=[.arr 0 .u32 u,.arr 0 .u32 q]/\AO d Dd/\K7 R (AE w66) Dd
    refine .inl ⟨[8,9,10,11,12,13,14,15,17],[62,73],K3,?_,?_⟩
    ·intro vs bl hj;rw[hK3] at hj;obtain⟨Dd,d,rfl,rfl,hDd,hnear⟩:=hj;conv=>cbv
     clear k90 h96 hj97 hx98 h98 e98 f98 h99 h100 h104 h105 hj106 hx107 h107 e107 f107 h108 h109 hy130 hu3 htop hx97 hx106 hRf hRf2 hR0 hR1 hRV htl hg0 hbig h112 e112 h115 e115
     have eDd:=hDd.eq;intro n146 h146;conv=>cbv
     refine AI ?_;intro n147 h147;conv=>cbv
     refine AI ?_;refine⟨fun _=>⟨by omega,by omega,by omega⟩,?_⟩;rintro a148 b148 ⟨ha148,hb148⟩;conv=>cbv
     rintro o148 c148 ⟨ho148,hc148⟩;conv=>cbv
     have hDw:=hnear.word;have hseg:AE ((u.drop i').take (n+1))=R:=by rw[hRd];exact ZW (by omega) h0
     obtain⟨b151,S151,hS151,hSl151⟩:=nc (M:=2^(32*(n+1))) hnear hVpos hRM hVM;have ho148:i'=o148:=by omega
     have hc148:n+1=c148:=by omega
     subst ho148 hc148;obtain⟨z151,hz1511,hz1512,hz1513,hz1514⟩:=ZV (u:=u) (off:=i') (len:=n+1) hSl151 (by omega);refine .inr (.inr (.inl ⟨[.one (.sl .u32 w66),.one (.int .u64 d)],.one (.bool b151),.arr 0 .u32 z151,fun _=>⟨by first | decide | simp[Bt,B3],t2⟩,fun _=>⟨Dm hE (nh (d:=Dd) (by omega) (by omega) hDd hnear.word (by omega) hz1511 hz1512 hz1513 (by rw[hz1514,hseg];exact hS151)),rfl,rfl⟩,?_⟩));try conv=>cbv
     obtain⟨J151,hJ151⟩:=xK fun vs bl=>∃(z:List UInt32) (q0:Nat) (d:Int),vs=[.one (.int .i64 r59),.one (.AN .u32 62 0 0 zn62),.one (.sl .u32 w66),.one (.int .i64 n68),.one (.AN .u32 73 0 0 k73),.one (.int .u64 n79),.one (.int .u64 n85),.one (.int .i64 i),.one (.int .u64 d)]/\bl=[.arr 0 .u32 z,.arr 0 .u32 q]/\AO d q0/\(q0=R/AE w66/\q0<4294967296)/\(z.length=u.length/\z.take i'=u.take i'/\z.drop (i'+(n+1))=u.drop (i'+(n+1)))/\AE ((z.drop i').take (n+1))=R%AE w66
     refine .inl ⟨[8,9,10,11,12,13,14,15,17],[62,73],J151,?_,?_⟩
     ·intro vs bl hj;rw[hJ151] at hj;obtain⟨z,q0,d,rfl,rfl,hq0,⟨hqR,hqlt⟩,⟨hzl1,hzt,hzd⟩,hzv⟩:=hj;conv=>cbv
      have eq0:=hq0.eq;intro n166 h166;conv=>cbv
      have h166:=wrap_u32 h166;refine AH ?_;intro j167 hj167;conv=>cbv
      obtain⟨w167,hw167⟩:=B7 (n:=n166) (by omega);have ew167:=hw167.eq;have fw167:=hw167.lt;refine⟨w167,fun _=>⟨by show _<List.length (α:=UInt32) q;(first | omega | (simp;omega)),B5 hw167⟩,?_⟩;intro (l167:List UInt32) (hl167:l167=List.set (α:=UInt32) q j167 w167);have gl167:l167.length=q.length:=by rw[hl167,List.length_set]
      conv=>cbv
      intro n92 h92;conv=>cbv
      refine AI ?_;refine⟨i',?_,?_⟩
      ·omega
      rw[hJ0];have hwq:w167.toNat=R/AE w66:=by rw[<-hqR];omega
      obtain⟨g1,g2⟩:=ZE (u:=u) (z:=z) (A:=A) (V:=AE w66) (i:=i') (n:=n) (Q:=AE (q.drop (i'+1))) (q:=w167.toNat) hzl1 hzt hzd (by omega) h0 (by rw[hwq,hRd]) (by rw[hzv,hRd]) hinv;refine⟨z,l167,i',n92,rfl,rfl,⟨by omega,by omega,⟨by omega⟩,by omega⟩,?_,?_,rfl⟩
      ·rw[g1];exact Nat.mod_lt _ hVpos
      rw[hl167,show j167=i' by omega,DZ (l:=q.set i' w167) (i:=i') (x:=w167) (by rw[List.getElem?_set_self (by omega)]),List.drop_set_of_lt (by omega)];exact g2
     cases b151 <;> conv=>cbv
     ·rw[hJ151];obtain⟨e1,e2⟩:=(Xj hnear hVpos hS151 hSl151).1 rfl;exact⟨z151,Dd,_,rfl,rfl,hDd,⟨e1,hDw⟩,⟨hz1511,hz1512,hz1513⟩,by rw[hz1514,e2]⟩
     intro n153 h153;conv=>cbv
     have h153:=wrap_u64 h153;intro n158 h158;conv=>cbv
     refine AI ?_;intro n159 h159;conv=>cbv
     refine AI ?_;refine⟨fun _=>⟨by omega,by omega,by omega⟩,?_⟩;rintro a160 b160 ⟨ha160,hb160⟩;conv=>cbv
     rintro o160 c160 ⟨ho160,hc160⟩;conv=>cbv
     have ho160:i'=o160:=by omega
     have hc160:n+1=c160:=by omega
     subst ho160 hc160;obtain⟨z162,hz1621,hz1622,hz1623,hz1624⟩:=ZV (u:=z151) (off:=i') (len:=n+1) (S:=(S151+AE w66)%2^(32*(n+1))) (Nat.mod_lt _ (Nat.two_pow_pos _)) (by omega);refine .inr (.inr (.inl ⟨[.one (.sl .u32 w66)],.AG [],.arr 0 .u32 z162,fun _=>⟨by first | decide | simp[Bt,B3],t1⟩,fun _=>⟨Dm hE (la (by omega) (by omega) (by omega) hz1621 hz1622 hz1623 (by rw[hz1624,hz1514])),rfl,rfl⟩,?_⟩));try conv=>cbv
     rw[hJ151];obtain⟨e1,e2,e3⟩:=(Xj hnear hVpos hS151 hSl151).2 rfl;exact⟨z162,Dd-1,_,rfl,rfl,⟨by omega⟩,⟨e1,by omega⟩,⟨hz1621.trans hz1511,hz1622.trans hz1512,hz1623.trans hz1513⟩,by rw[hz1624,e3 (Nat.lt_of_le_of_lt (Nat.mod_le _ _) hRM)]⟩
    obtain⟨J1,hJ1⟩:∃J:List AV->List AL->Nat->Prop,J=fun vs bl k=>∃(D r':Nat) (d r:Int),vs=[.one (.int .i64 r59),.one (.AN .u32 62 0 0 zn62),.one (.sl .u32 w66),.one (.int .i64 n68),.one (.AN .u32 73 0 0 k73),.one (.int .u64 n79),.one (.int .u64 n85),.one (.int .i64 i),.one (.int .u64 d),.one (.int .u64 r)]/\
     bl=[.arr 0 .u32 u,.arr 0 .u32 q]/\(AO d D/\AO r r')/\H2 R (AE w66) top high D r'/\k=D:=⟨_,rfl⟩
    refine⟨[],[8,9,10,11,12,13,14,15,17,18],[62,73],J1,⟨top/high,by rw[hJ1];exact⟨top/high,top%high,n112,n115,rfl,rfl,⟨⟨e112⟩,⟨e115⟩⟩,hg0,rfl⟩⟩,?_⟩;intro vs bl kk1 hj;rw[hJ1] at hj;obtain⟨D,r',d,r,rfl,rfl,⟨hd,hr⟩,hg,hk1⟩:=hj;conv=>cbv
    clear k90 h96 hj97 hx98 h98 e98 f98 h99 h100 h104 h105 hj106 hx107 h107 e107 f107 h108 h109 h112 e112 h115 e115
    have ed:=hd.eq;have er:=hr.eq;intro n117 h117;conv=>cbv
    cases n117 <;> conv=>cbv
    ·have k117:=EI h117;intro n121 h121;conv=>cbv
     have h121:=wrap_u64 h121;obtain⟨p121,hp121,h121⟩:∃p:Nat,p=D*next/\n121=p:=⟨_,rfl,by rw[h121,ed,e85,<-Int.natCast_mul];have:=Nat.mul_le_mul (by omega:D<=4294967295) (by omega:next<=4294967295);omega⟩
     intro n123 h123;conv=>cbv
     refine AH ?_;have h123:=JT (p:=4294967296) h123 rfl;intro n127 h127;conv=>cbv
     refine AI ?_;intro n128 h128;conv=>cbv
     refine AI ?_;refine AH ?_;intro j129 hj129;conv=>cbv
     obtain⟨x130,hx130⟩:=AK (l:=u) (i:=j129) (by omega);refine⟨x130,fun _=>hx130,?_⟩;try conv=>cbv
     intro n130 h130;have e130:=h130.eq;have f130:=h130.lt;conv=>cbv
     intro n131 h131;conv=>cbv
     have h131:=wrap_u64 h131;intro n132 h132;conv=>cbv
     have x130e:x130=x130y:=by rw[show j129=i'+n-2 by omega,hy130] at hx130;exact (Option.some.inj hx130).symm
     have hrr:=hg.rest;have h132:=JK (p:=r') (q:=x130.toNat) h132 (by omega) (by omega) hrr (by omega);rw[x130e,<-hu3] at h132;intro n133 h133;conv=>cbv
     cases n133 <;> conv=>cbv
     ·have k133:=Bq h133;rw[hK3]
      first
       | exact⟨D-1,_,rfl,rfl,⟨e136⟩,RT hg hq1 hDp hRf hVf hV0 hhi (by omega) htl⟩
       | exact⟨D,_,rfl,rfl,hd,RU hg hRf hVf hV0 hhi (by omega)⟩
     have k133:=Br h133;refine .inr ?_;have hgm:=hg.OR;have hgr:=hg.rest;have hq1:R/AE w66<=D-1:=by first | exact WW hg hqw | exact WY hg hRf hR0 hVf (by omega)
     have hDp:0<D:=by first | omega | (apply Nat.pos_of_ne_zero;intro e;rw[e,Nat.zero_mul] at hp121;omega)
     intro n136 h136;conv=>cbv
     have h136:=wrap_u64 h136;have e136:n136=((D-1:Nat):Int):=by omega
     intro n139 h139;conv=>cbv
     have h139:=wrap_u64 h139;have e139:n139=((r'+high:Nat):Int):=by omega
     intro n141 h141;conv=>cbv
     cases n141 <;> conv=>cbv
     ·have k141:=EI h141;refine⟨D-1,?_,?_⟩
      ·omega
      rw[hJ1];exact⟨D-1,r'+high,n136,n139,rfl,rfl,⟨⟨e136⟩,⟨e139⟩⟩,WZ hg hq1 hDp (by omega),rfl⟩
     have k141:=EJ h141;rw[hK3]
     first
      | exact⟨D-1,_,rfl,rfl,⟨e136⟩,RT hg hq1 hDp hRf hVf hV0 hhi (by omega) htl⟩
      | exact⟨D,_,rfl,rfl,hd,RU hg hRf hVf hV0 hhi (by omega)⟩
    have k117:=EJ h117;refine .inr ?_;have hgm:=hg.OR;have hgr:=hg.rest;have hq1:R/AE w66<=D-1:=by first | exact WW hg hqw | exact WY hg hRf hR0 hVf (by omega)
    have hDp:0<D:=by first | omega | (apply Nat.pos_of_ne_zero;intro e;rw[e,Nat.zero_mul] at hp121;omega)
    intro n136 h136;conv=>cbv
    have h136:=wrap_u64 h136;have e136:n136=((D-1:Nat):Int):=by omega
    intro n139 h139;conv=>cbv
    have h139:=wrap_u64 h139;have e139:n139=((r'+high:Nat):Int):=by omega
    intro n141 h141;conv=>cbv
    cases n141 <;> conv=>cbv
    ·have k141:=EI h141;refine⟨D-1,?_,?_⟩
     ·omega
     rw[hJ1];exact⟨D-1,r'+high,n136,n139,rfl,rfl,⟨⟨e136⟩,⟨e139⟩⟩,WZ hg hq1 hDp (by omega),rfl⟩
    have k141:=EJ h141;rw[hK3]
    first
     | exact⟨D-1,_,rfl,rfl,⟨e136⟩,RT hg hq1 hDp hRf hVf hV0 hhi (by omega) htl⟩
     | exact⟨D,_,rfl,rfl,hd,RU hg hRf hVf hV0 hhi (by omega)⟩
   have k45:=Aj h45;obtain⟨x48,hx48⟩:=AK (l:=m) (i:=0) (by omega);refine⟨x48,fun _=>⟨by omega,hx48⟩,?_⟩;try conv=>cbv
   intro n49 h49;have e49:=h49.eq;have f49:=h49.lt;conv=>cbv
   have hb48:b=x48.toNat:=by have:=CK hx48;rw[show 0+1=m.length by omega,List.take_length,hm,Az] at this;simpa [AE] using this
   obtain⟨w50,hw50⟩:=xU (AP (AE l/b));obtain⟨v50,hv50⟩:=xU (AP (AE l%b));refine AB hE (gL (d:=n49) (b:=b) (AO.of (by omega)) hb (by omega) hw50 hv50 (by omega)) ?_;conv=>cbv
   exact AD ⟨⟨rfl,congrArg _ (by rw[hz1,hw50,hl,Az]),trivial⟩,⟨rfl,congrArg _ (by rw[hz2,hv50,hl,Az]),trivial⟩,trivial⟩
  have k29:=HI h29;obtain⟨r31,hr31⟩:∃n:Int,AO n (a):=⟨_,⟨rfl⟩⟩
  have er31:=hr31.eq;refine AB (r:= .one (.int .u64 r31)) hE (O7 (by rw[hl,Az]) (by omega) hr31) ?_;conv=>cbv
  obtain⟨r33,hr33⟩:∃n:Int,AO n (b):=⟨_,⟨rfl⟩⟩
  have er33:=hr33.eq;refine AB (r:= .one (.int .u64 r33)) hE (O7 (by rw[hm,Az]) (by omega) hr33) ?_;conv=>cbv
  have ha64:a<18446744073709551616:=by have:=CR l;rw[hl,Az] at this;exact Nat.lt_of_lt_of_le this (Nat.pow_le_pow_right (by decide) (by rw[<-hl];omega:32*(AP a).length<=64))
  intro n36 h36;conv=>cbv
  refine AH ?_;have h36:=wrap_u64 h36;have bq:=Nat.div_le_self a b;have h36:n36=((a/b:Nat):Int):=by rw[h36,er31,er33,<-Int.natCast_ediv];generalize a/b=Q at *;omega
  obtain⟨w37,hw37⟩:=xU (AP (a/b));refine AB (r:= .one (.sl .u32 w37)) hE (KJ (AO.of (k:=a/b) h36) (by generalize a/b=Q at *;omega) hw37) ?_;try conv=>cbv
  intro n40 h40;conv=>cbv
  refine AH ?_;have br:=Nat.mod_lt a hb;have h40:n40=((a%b:Nat):Int):=by rw[h40,er31,er33];exact (Int.natCast_emod _ _).symm
  obtain⟨w41,hw41⟩:=xU (AP (a%b));refine AB (r:= .one (.sl .u32 w41)) hE (KJ (AO.of (k:=a%b) h40) (by generalize a%b=Q at *;omega) hw41) ?_;try conv=>cbv
  refine g2 rfl ?_;exact AD ⟨⟨rfl,congrArg _ (by rw[hz1,hw37]),trivial⟩,⟨rfl,congrArg _ (by rw[hz2,hw41]),trivial⟩,trivial⟩
 have k23:=AY h23;obtain⟨w25,hw25⟩:=xU l;refine AB hE (Hz hw25 (by omega)) ?_;conv=>cbv
 have hlt:a<b:=by rw[hr22] at k23;have:=IF k23;omega
 exact AD ⟨⟨rfl,.inr (.inl ⟨_,congrArg _ (by rw[hz1,Nat.div_eq_of_lt hlt];rfl)⟩),trivial⟩,⟨rfl,congrArg _ (by rw[hz2,Nat.mod_eq_of_lt hlt,hw25,hl]),trivial⟩,trivial⟩
end Go.Abs
namespace Go.Abs
open Go.RowKit
variable {c:Int} {k n:Nat} {l z:List UInt32}
theorem iD {a:Nat} (i:l=AP a) (j:z=AP (a/2)) (sl:l.length<=17592186044416):CF 406 [.one (.sl .u32 l)] (.one (.sl .u32 z)):=by
 refine AJ Tryz.func406 fun E h=>?_
 conv=>cbv
 obtain⟨z4,g,d⟩:=JL (N:=AE l/2^1) (k:=l.length) (Nat.lt_of_le_of_lt (Nat.div_le_self _ _) (CR _));refine AB h (C8 (Zh (n:=1) ⟨rfl⟩ (by omega) g d rfl sl)) ?_;conv=>cbv
 obtain⟨m,f⟩:=xU (AP (AE l/2^1));refine AB h (Ea d f) ?_;conv=>cbv
 exact AD ⟨⟨rfl,congrArg _ (by rw[j,f,i,Az]),trivial⟩,trivial⟩
def Cl (n:Nat):Nat:=if n=0 then 0 else Nat.log2 n+1
theorem jk (f:2^k<=n) (g:n<2^(k+1)):Cl n=k+1:=by
 have d:n≠0:=by have:=Nat.two_pow_pos k;omega
 unfold Cl;rw[if_neg d];have a:k<=Nat.log2 n:=(Nat.le_log2 d).2 f;have b:Nat.log2 n<k+1:=(Nat.log2_lt d).2 g;omega
theorem QF {i:Nat} {x:UInt32} (h:(AP n)[i]? =some x) (hi:i+1=(AP n).length) (a:2^(k-1)<=x.toNat) (g:x.toNat<2^k) (o:1<=k):Cl n=32*i+k:=by
 have h3:=CK h;rw[hi,List.take_length,Az] at h3;have m:=Kv (l:=AP n) (n:=i);obtain⟨j,rfl⟩:∃j,k=j+1:=⟨k-1,by omega⟩
 simp only[Nat.add_sub_cancel] at a;have d:2^(32*i+j)=2^(32*i)*2^j:=Nat.pow_add _ _ _;have f:2^(32*i+j+1)=2^(32*i)*2^(j+1):=by rw[<-Nat.pow_add,Nat.add_assoc]
 refine jk (k:=32*i+j) ?_ ?_
 ·rw[d,h3];have:=Nat.mul_le_mul_left (2^(32*i)) a;omega
 rw[f,h3];have:=Nat.mul_le_mul_left (2^(32*i)) (show x.toNat+1<=2^(j+1) from g);rw[Nat.mul_add] at this;omega
theorem bA {x:Int} {b:Bool} (o:Ad x b l) (w:AO c (Cl x.natAbs)) (sl:l.length<=17592186044416):CF 404 [.agg (BD b l)] (.one (.int .i64 c)):=by
 refine AJ Tryz.func404 fun E v=>?_
 conv=>cbv
 obtain⟨q,m⟩:=xU (AP (AE l));refine AB v (Ea rfl m) ?_;conv=>cbv
 have t6:q=l:=by rw[m];exact o.trim
 have O:q.length=l.length:=by rw[t6]
 rintro Q ⟨P,f8⟩;conv=>cbv
 intro M u;conv=>cbv
 cases M <;> conv=>cbv
 ·have I:=Ah u;rintro J ⟨A,f11⟩;conv=>cbv
  intro K D;conv=>cbv
  refine AI ?_;intro L F;conv=>cbv
  refine AI ?_;rintro n16 ⟨B,f16⟩;conv=>cbv
  intro n17 G;conv=>cbv
  refine AI ?_;obtain⟨h,f⟩:=AK (l:=q) (i:=(q.length-1)) (by omega);refine⟨h,fun _=>⟨by omega,by rw[show (n17).toNat=(q.length-1) by omega];exact f⟩,?_⟩;try conv=>cbv
  have a:=f;rw[t6,o.BC] at a;have p:(AP x.natAbs).length-1+1=(AP x.natAbs).length:=by rw[<-o.BC,<-t6];omega
  have g:=Lb a p;intro n19 j;have r:=j.eq;have f19:=j.lt;conv=>cbv
  obtain⟨N,d⟩:∃n:Int,AO n (Lib.bitLen h.toNat):=⟨_,⟨rfl⟩⟩
  have t:=d.eq;refine AB v (TF ⟨r⟩ f19 d) ?_;conv=>cbv
  have hb:=bitLen_spec (x:=h.toNat) f19 g;have s:=QF a p hb.1 hb.2.1 hb.2.2.1;intro n21 H;conv=>cbv
  refine AI ?_;exact AD ⟨⟨rfl,congrArg _ (by rw[w.eq,s,<-o.BC,<-t6];omega),trivial⟩,trivial⟩
 have I:=Aj u;exact AD ⟨⟨rfl,congrArg _ (by rw[w.eq];have C:x=0:=o.FF.1 (by rw[<-t6];omega);rw[C];rfl),trivial⟩,trivial⟩
theorem mQ (L:AO c n) (V:n<=1125899906000000) (O:z=AP (2^n)):CF 405 [.one (.int .i64 c)] (.one (.sl .u32 z)):=by
 have R:=L.eq;refine AJ Tryz.func405 fun E U=>?_
 conv=>cbv
 intro W S;conv=>cbv
 refine g2 ⟨by omega,by omega,i64 (by omega)⟩ ?_;intro X T;conv=>cbv
 refine AI ?_;refine⟨fun _=>⟨by omega,by omega,by show _*4<=140737488355328;omega⟩,?_⟩;intro v (j:List UInt32) u;have N:=u.1;have f:j=List.replicate v (0:el .u32):=u.2;have H:j.length=v:=by rw[f,List.length_replicate]
 conv=>cbv
 intro P J;conv=>cbv
 refine g2 ⟨by omega,by omega,i64 (by omega)⟩ ?_;intro Q K;conv=>cbv
 refine AH ?_;intro s m;conv=>cbv
 refine AH ?_;obtain⟨t,i,m⟩:∃q:Nat,q=2^(n%32)/\s=q:=⟨_,rfl,by have:=SU (p:=1) (e:=n%32) m rfl (by omega);rw[this,Nat.one_mul];congr 1;exact Nat.mod_eq_of_lt (Nat.lt_of_le_of_lt (Nat.pow_le_pow_right (by decide) (by omega:n%32<=31)) (by decide))⟩
 have D:t<4294967296:=by rw[i];exact Nat.lt_of_le_of_lt (Nat.pow_le_pow_right (by decide) (by omega:n%32<=31)) (by decide)
 refine AH ?_;intro r F;conv=>cbv
 obtain⟨h,g⟩:=B7 (n:=s) (by omega);have A:=g.eq;have B:=g.lt;refine⟨h,fun _=>⟨by show _<List.length (α:=UInt32) j;(first | omega | (simp;omega)),B5 g⟩,?_⟩;intro (a:List UInt32) (d:a=List.set (α:=UInt32) j r h);have C:a.length=j.length:=by rw[d,List.length_set]
 conv=>cbv
 have M:v=n/32+1:=by omega
 have G:AE a=2^n:=by
  have I:j[n/32]? =some 0:=by rw[f,List.getElem?_replicate,if_pos (by omega)]
  have:=RQ (w:=h) I;rw[d,show r=n/32 by omega];rw[f,Hp] at this;rw[f];have e:2^n=2^(32*(n/32))*2^(n%32):=by rw[<-Nat.pow_add];congr 1;omega
  rw[e,<-i,show t=h.toNat by omega];simpa using this
 have hlen:a.length=n/32+1:=by rw[d,List.length_set,f,List.length_replicate,M]
 have o:AP (AE a)=a:=RG (.inr (by rw[G,hlen];exact Nat.pow_le_pow_right (by decide) (by omega)));exact AD ⟨⟨rfl,.inl ⟨_,rfl,by omega,congrArg _ (by rw[O,<-G,o,List.drop_zero,List.take_of_length_le (by omega)])⟩,trivial⟩,trivial⟩
end Go.Abs
namespace Go.Abs
open Go.RowKit
variable {b b1 b2 b3:Bool} {l l1 l2 l3:List UInt32} {x y:Int}
theorem bH {V:Bool} {W:List UInt32} (N:Ad x b1 l1) (L:Ad y b2 l2) (s:y≠0) (G:Ad (CI x y) b3 l3) (H:Ad (Gl x y) V W) (s1:l1.length<=17592186043000) (s2:l2.length<=17592186043000):CF 407 [.agg (BD b1 l1),.agg (BD b2 l2)] (.AG [(true,(BD b3 l3)),(true,(BD V W)),(false,[.int .i64 0])]):=by
 refine AJ Tryz.func407 fun E v=>?_
 conv=>cbv
 obtain⟨R,A⟩:=xU (AP (AE l2));refine AB v (Ea rfl A) ?_;conv=>cbv
 have t12:R=l2:=by rw[A];exact L.trim
 rintro a2 ⟨X,f14⟩;conv=>cbv
 intro n15 I;conv=>cbv
 cases n15 <;> conv=>cbv
 ·have P:=Ah I;obtain⟨S,B⟩:=xU (AP (AE l1));refine AB v (Ea rfl B) ?_;conv=>cbv
  have t21:S=l1:=by rw[B];exact N.trim
  obtain⟨M,i⟩:=xU (AP (x.natAbs/y.natAbs));obtain⟨v23,f⟩:=xU (AP (x.natAbs%y.natAbs));refine AB (r:= .AG [(false,[.sl .u32 M]),(false,[.sl .u32 v23])]) v (Np (t21.trans N.BC) (t12.trans L.BC) (by omega) i f (by rw[t21];omega)) ?_;try conv=>cbv
  have O:0<y.natAbs:=by omega
  have Z:=Nat.div_add_mod x.natAbs y.natAbs;have a1:=Nat.mod_lt x.natAbs O;have t:=N.neg;have h:=L.neg;intro n30 J;conv=>cbv
  cases n30 <;> conv=>cbv
  ·have g:=Ut J;refine .inr ?_;intro n46 u;conv=>cbv
   obtain⟨j,o,a⟩:=Ac (CI x y);refine AB (r:= .agg [.bool j,.sl .u32 o]) v (Et (by rw[i,Az,u,g,Vk s (by rw[<-t,<-h];exact g)];simp) a) ?_;try conv=>cbv
   obtain⟨m,p,d⟩:=Ac (Gl x y);refine AB (r:= .agg [.bool m,.sl .u32 p]) v (Et (by rw[f,Az];exact jX h s (by rw[<-t,<-h];exact g)) d) ?_;try conv=>cbv
   refine g2 rfl ?_;exact AD ⟨⟨rfl,congrArg _ ((a.uniq G rfl).1.symm),congrArg _ ((a.uniq G rfl).2.symm),trivial⟩,⟨rfl,congrArg _ ((d.uniq H rfl).1.symm),congrArg _ ((d.uniq H rfl).2.symm),trivial⟩,t2,trivial⟩
  have g:=Uu J;rintro n33 ⟨w,f33⟩;conv=>cbv
  intro n34 K;conv=>cbv
  refine .inr ?_;cases n34 <;> conv=>cbv
  ·have Q:=Bq K;intro n46 u;conv=>cbv
   obtain⟨j,o,a⟩:=Ac (CI x y);refine AB (r:= .agg [.bool j,.sl .u32 o]) v (Et (by have q:decide (x<0)≠decide (y<0):=(by rw[<-t,<-h];exact g);have F:n46=true:=(by rw[u];simpa using g);rw[i,Az,F,if_pos rfl];exact Vh s q (Er.1 (by rw[<-f];exact List.eq_nil_of_length_eq_zero (by omega)))) a) ?_;try conv=>cbv
   obtain⟨m,p,d⟩:=Ac (Gl x y);refine AB (r:= .agg [.bool m,.sl .u32 p]) v (Et (by have q:decide (x<0)≠decide (y<0):=(by rw[<-t,<-h];exact g);rw[f,Az];exact jV s q (Er.1 (by rw[<-f];exact List.eq_nil_of_length_eq_zero (by omega)))) d) ?_;try conv=>cbv
   refine g2 rfl ?_;exact AD ⟨⟨rfl,congrArg _ ((a.uniq G rfl).1.symm),congrArg _ ((a.uniq G rfl).2.symm),trivial⟩,⟨rfl,congrArg _ ((d.uniq H rfl).1.symm),congrArg _ ((d.uniq H rfl).2.symm),trivial⟩,t2,trivial⟩
  have Q:=Br K;refine⟨[(1:UInt32)],fun _=>⟨rfl,by decide,rfl,⟨rfl,t1,trivial⟩⟩,.inl ?_⟩;try conv=>cbv
  obtain⟨T,C⟩:=xU (AP (x.natAbs/y.natAbs+1));refine .inr (.inl ⟨[.one (.sl .u32 M),.one (.sl .u32 [(1:UInt32)])],.one (.sl .u32 T),fun _=>⟨rfl,⟨_,rfl,by simp <;> omega,by simp⟩,trivial⟩,fun _=>E6 v (C8 (I7 rfl (YW i (rfl:[(1:UInt32)]=AP 1) C rfl (by rw[i];have Y:=D1 (Nat.div_le_self x.natAbs y.natAbs);rw[<-N.BC] at Y;omega) (by decide)))),?_⟩);try conv=>cbv
  obtain⟨U,D⟩:=xU (AP (y.natAbs-x.natAbs%y.natAbs));refine AB (r:= .one (.sl .u32 U)) v (RK (t12.trans L.BC) f D (Nat.le_of_lt (Nat.mod_lt _ (by omega))) (by rw[t12];omega)) ?_;try conv=>cbv
  intro n46 u;conv=>cbv
  obtain⟨j,o,a⟩:=Ac (CI x y);refine AB (r:= .agg [.bool j,.sl .u32 o]) v (Et (by have q:decide (x<0)≠decide (y<0):=(by rw[<-t,<-h];exact g);have F:n46=true:=(by rw[u];simpa using g);rw[C,Az,F,if_pos rfl];exact Vi s q (fun e=>by rw[e,Fv] at f;rw[f] at w;simp at w;omega)) a) ?_;try conv=>cbv
  obtain⟨m,p,d⟩:=Ac (Gl x y);refine AB (r:= .agg [.bool m,.sl .u32 p]) v (Et (by have q:decide (x<0)≠decide (y<0):=(by rw[<-t,<-h];exact g);rw[D,Az];exact jW h s q (fun e=>by rw[e,Fv] at f;rw[f] at w;simp at w;omega)) d) ?_;try conv=>cbv
  refine g2 rfl ?_;exact AD ⟨⟨rfl,congrArg _ ((a.uniq G rfl).1.symm),congrArg _ ((a.uniq G rfl).2.symm),trivial⟩,⟨rfl,congrArg _ ((d.uniq H rfl).1.symm),congrArg _ ((d.uniq H rfl).2.symm),trivial⟩,t2,trivial⟩
 have P:=Aj I
 exfalso;exact s (L.FF.1 (by rw[<-t12];omega))
theorem TD (hx:Ad x b1 l1) (hy:Ad y b2 l2) (hz:Ad ((Nat.gcd x.natAbs y.natAbs:Nat):Int) b3 l3) (s1:l1.length<=17592186043000) (s2:l2.length<=17592186043000):CF 368 [.agg (BD b1 l1),.agg (BD b2 l2)] (.agg (BD b3 l3)):=by
 refine AJ Tryz.func368 fun E s=>?_
 conv=>cbv
 obtain⟨a6,C⟩:=xU (AP (AE l1));refine AB s (Ea rfl C) ?_;conv=>cbv
 have t13:a6=l1:=by rw[C];exact hx.trim
 obtain⟨a7,D⟩:=xU (AP (AE l2));refine AB s (Ea rfl D) ?_;conv=>cbv
 have t16:a7=l2:=by rw[D];exact hy.trim
 refine g2 rfl ?_;obtain⟨K0,J⟩:=xK fun vs A=>∃(u v:List UInt32) (P Q:Nat),vs=[.one (.Ab 4 0 0),.one (.sl .u32 u),.one (.sl .u32 v)]/\A=[.var 0 [.bool false,.nil]]/\(u=AP P/\v=AP Q/\Nat.gcd P Q=Nat.gcd x.natAbs y.natAbs/\u.length<=17592186043000)/\v.length<=2/\(2<u.length->v.length=0)
 refine .inl ⟨[4,5,6],[4],K0,?_,?_⟩
 ·intro vs A B;rw[J] at B;obtain⟨u,v,P,Q,rfl,rfl,⟨hu,d,H,K⟩,aB,aA⟩:=B;conv=>cbv
  rintro n39 ⟨az,f39⟩;conv=>cbv
  intro n40 R;conv=>cbv
  cases n40 <;> conv=>cbv
  ·have ak:=Ah R;have au:u.length<=2:=by omega
   have av:v.length<=2:=by omega
   have T:P<18446744073709551616:=by have:=CR u;rw[hu,Az] at this;exact Nat.lt_of_lt_of_le this (Nat.pow_le_pow_right (by decide) (by rw[<-hu];omega:32*(AP P).length<=64))
   have V:Q<18446744073709551616:=by have:=CR v;rw[d,Az] at this;exact Nat.lt_of_lt_of_le this (Nat.pow_le_pow_right (by decide) (by rw[<-d];omega:32*(AP Q).length<=64))
   obtain⟨a2,h⟩:∃n:Int,AO n (P):=⟨_,⟨rfl⟩⟩
   have ao:=h.eq;refine AB (r:= .one (.int .u64 a2)) s (O7 (by rw[hu,Az]) (by omega) h) ?_;conv=>cbv
   obtain⟨a5,i⟩:∃n:Int,AO n (Q):=⟨_,⟨rfl⟩⟩
   have aq:=i.eq;refine AB (r:= .one (.int .u64 a5)) s (O7 (by rw[d,Az]) (by omega) i) ?_;conv=>cbv
   refine .inr ?_;obtain⟨J1,I⟩:=xJ fun vs A k=>∃(w g:Nat) (p q:Int),vs=[.one (.Ab 4 0 0),.one (.int .u64 p),.one (.int .u64 q)]/\A=[.var 0 [.bool false,.nil]]/\(AO p w/\AO q g/\w<18446744073709551616/\g<18446744073709551616)/\Nat.gcd w g=Nat.gcd P Q/\k=g
   refine⟨[],[4,9,10],[4],J1,⟨Q,by rw[I];exact⟨P,Q,a2,a5,rfl,rfl,⟨h,i,T,V⟩,rfl,rfl⟩⟩,?_⟩;intro vs A aD B;rw[I] at B;obtain⟨w,g,p,q,rfl,rfl,⟨hp,hq,ar,Z⟩,X,ag⟩:=B;conv=>cbv
   have ep:=hp.eq;have eq:=hq.eq;intro n49 S;conv=>cbv
   cases n49 <;> conv=>cbv
   ·have al:=Co S;obtain⟨aF,G⟩:=xU (AP w);refine AB s (KJ hp (by omega) G) ?_;conv=>cbv
    obtain⟨aa,ad,o⟩:=Ac (((Nat.gcd x.natAbs y.natAbs:Nat):Int));refine AB (r:= .agg [.bool aa,.sl .u32 ad]) s (Et (by rw[G,Az,<-H,<-X,show g=0 by omega,Nat.gcd_zero_right];rfl) o) ?_;try conv=>cbv
    exact AD ⟨⟨rfl,congrArg _ ((o.uniq hz rfl).1.symm),congrArg _ ((o.uniq hz rfl).2.symm),trivial⟩,trivial⟩
   have al:=Cp S;refine .inr ?_;have Y:0<g:=by omega
   intro C1 af;conv=>cbv
   refine AH ?_;have ae:C1=((w%g:Nat):Int):=by rw[af,ep,eq];exact (Int.natCast_emod _ _).symm
   refine g2 rfl ?_;refine⟨w%g,?_,?_⟩
   ·rw[ag];exact Nat.mod_lt _ Y
   rw[I];exact⟨g,w%g,_,_,rfl,rfl,⟨hq,⟨ae⟩,Z,by have:=Nat.mod_lt w Y;omega⟩,by rw[<-X,Nat.gcd_comm g,<-Nat.gcd_rec,Nat.gcd_comm],rfl⟩
  have ak:=Aj R;have U:Q=0:=Er.1 (by rw[<-d];exact List.eq_nil_of_length_eq_zero (by omega));obtain⟨aE,F⟩:=xU u;refine AB s (Hz F (by omega)) ?_;conv=>cbv
  obtain⟨a8,ab,m⟩:=Ac (((Nat.gcd x.natAbs y.natAbs:Nat):Int));refine AB (r:= .agg [.bool a8,.sl .u32 ab]) s (Et (by rw[F,hu,Az,<-H,U,Nat.gcd_zero_right];rfl) m) ?_;try conv=>cbv
  exact AD ⟨⟨rfl,congrArg _ ((m.uniq hz rfl).1.symm),congrArg _ ((m.uniq hz rfl).2.symm),trivial⟩,trivial⟩
 obtain⟨J0,t⟩:=xJ fun vs A k=>∃(u v:List UInt32) (P Q:Nat),vs=[.one (.Ab 4 0 0),.one (.sl .u32 u),.one (.sl .u32 v)]/\A=[.var 0 [.bool false,.nil]]/\(u=AP P/\v=AP Q/\Nat.gcd P Q=Nat.gcd x.natAbs y.natAbs/\u.length<=17592186043000/\v.length<=17592186043000)/\k=Q
 refine⟨[],[4,5,6],[4],J0,⟨y.natAbs,by rw[t];exact⟨a6,a7,x.natAbs,y.natAbs,rfl,rfl,⟨t13.trans hx.BC,t16.trans hy.BC,rfl,by rw[t13];exact s1,by rw[t16];exact s2⟩,rfl⟩⟩,?_⟩;intro vs A aC B;rw[t] at B;obtain⟨u,v,P,Q,rfl,rfl,⟨hu,d,H,K,a1⟩,W⟩:=B;conv=>cbv
 rintro n18 ⟨aw,f18⟩;conv=>cbv
 intro n19 M;conv=>cbv
 cases n19 <;> conv=>cbv
 ·have ah:=Bq M;rintro n22 ⟨ax,f22⟩;conv=>cbv
  intro n23 N;conv=>cbv
  cases n23 <;> conv=>cbv
  ·have ai:=Bq N;rw[J];exact⟨u,v,P,Q,rfl,rfl,⟨hu,d,H,K⟩,by omega,by omega⟩
  have ai:=Br N;rintro n26 ⟨ay,f26⟩;conv=>cbv
  intro n27 O;conv=>cbv
  cases n27 <;> conv=>cbv
  ·have aj:=Bq O;rw[J];exact⟨u,v,P,Q,rfl,rfl,⟨hu,d,H,K⟩,by omega,by omega⟩
  have aj:=Br O;refine .inr ?_;have f:0<Q:=by apply Nat.pos_of_ne_zero;intro e;rw[e,Fv] at d;rw[d] at *;simp at *;omega
  obtain⟨an,j⟩:=xU (AP (P/Q));obtain⟨L,a⟩:=xU (AP (P%Q));refine AB s (Np hu d f j a (by omega)) ?_;conv=>cbv
  refine⟨P%Q,?_,?_⟩
  ·rw[W];exact Nat.mod_lt _ f
  rw[t];exact⟨v,L,Q,P%Q,rfl,rfl,⟨d,a,by rw[<-H,Nat.gcd_comm Q,<-Nat.gcd_rec,Nat.gcd_comm],a1,by have:=D1 (Nat.le_of_lt (Nat.mod_lt P f));rw[<-a,<-d] at this;omega⟩,rfl⟩
 have ah:=Br M;refine .inr ?_;have f:0<Q:=by apply Nat.pos_of_ne_zero;intro e;rw[e,Fv] at d;rw[d] at *;simp at *;omega
 obtain⟨an,j⟩:=xU (AP (P/Q));obtain⟨L,a⟩:=xU (AP (P%Q));refine AB s (Np hu d f j a (by omega)) ?_;conv=>cbv
 refine⟨P%Q,?_,?_⟩
 ·rw[W];exact Nat.mod_lt _ f
 rw[t];exact⟨v,L,Q,P%Q,rfl,rfl,⟨d,a,by rw[<-H,Nat.gcd_comm Q,<-Nat.gcd_rec,Nat.gcd_comm],a1,by have:=D1 (Nat.le_of_lt (Nat.mod_lt P f));rw[<-a,<-d] at this;omega⟩,rfl⟩
theorem kV {u:List UInt32} {X:Nat} (hu:u=AP X) (f:u.length<=l.length+1) (g:Ad x b l) (s1:l.length<=17592186042000):(AP (X+x.natAbs/X)).length<=17592186044416:=by
 refine Nat.le_trans (Fu (k:=l.length+2) ?_) (by omega);have a:=CR u;rw[hu,Az] at a;have d:=CR l;rw[g.nat] at d;have h3:=Nat.div_le_self x.natAbs X;have h:2^(32*(AP X).length)<=2^(32*(l.length+1)):=Nat.pow_le_pow_right (by decide) (by rw[<-hu];omega);have i:2^(32*l.length)<=2^(32*(l.length+1)):=Nat.pow_le_pow_right (by decide) (by omega);have j:2^(32*(l.length+2))=4294967296*2^(32*(l.length+1)):=Ds (l.length+1);omega
theorem ji (f:Ad x b l) (a:x.natAbs≠0):Cl x.natAbs<=32*l.length/\Cl x.natAbs=Nat.log2 x.natAbs+1:=by
 have d:=CR l;rw[f.nat] at d;have g:=(Nat.log2_lt a).2 d;unfold Cl;rw[if_neg a];exact⟨by omega,rfl⟩
theorem cB {e:Int} (B:Ad x b1 l1) (v:Ad ((BM x.toNat:Nat):Int) b3 l3) (he:e=if x<0 then 7 else 0) (s1:l1.length<=17592186042000):CF 389 [.agg (BD b1 l1)] (.AG [(true,(BD b3 l3)),(false,[.int .i64 e])]):=by
 refine AJ Tryz.func389 fun E o=>?_
 conv=>cbv
 obtain⟨ab,J⟩:=xI (CE x);refine AB o (LB B J) ?_;conv=>cbv
 refine .inr ?_;intro V D;conv=>cbv
 cases V <;> conv=>cbv
 ·have T:=Ah D;intro n15 F;conv=>cbv
  cases n15 <;> conv=>cbv
  ·have U:=Ah F;have C:0<x:=by rcases FM x with⟨m,q⟩ |⟨m,q⟩ |⟨m,q⟩ <;> omega
   have H:x.natAbs≠0:=by omega
   have R:=ji B H;have a8:0<BM x.natAbs:=by apply Nat.pos_of_ne_zero;intro e;have:=OP x.natAbs;rw[e] at this;omega
   obtain⟨ad,s⟩:∃n:Int,AO n (Cl x.natAbs):=⟨_,⟨rfl⟩⟩
   have a5:=s.eq;refine AB o (bA B s (by omega)) ?_;conv=>cbv
   intro n19 a6;conv=>cbv
   refine g2 ⟨by omega,by omega,i64 (by omega)⟩ ?_;intro n20 a7;conv=>cbv
   refine AI ?_;obtain⟨Y,f⟩:=xU (AP (2^(Cl x.natAbs/2+1)));refine AB o (mQ (n:=Cl x.natAbs/2+1) ⟨by omega⟩ (by omega) f) ?_;conv=>cbv
   refine .inr ?_;obtain⟨J0,w⟩:=xJ fun vs bl k=>∃(u:List UInt32) (X:Nat),vs=[.one (.Ab 1 0 0),.one (.Ab 2 0 0),.one (.sl .u32 u)]/\bl=[.var 0 [.bool b1,.sl .u32 l1],.var 0 [.bool false,.nil]]/\(u=AP X/\BM x.natAbs<=X/\0<X/\u.length<=l1.length+1)/\k=X
   refine⟨[],[1,2,5],[1,2],J0,⟨2^(Cl x.natAbs/2+1),by rw[w];exact⟨Y,_,rfl,rfl,⟨f,by rw[R.2];exact nT H,Nat.two_pow_pos _,by rw[f];exact Fu (Nat.pow_lt_pow_right (by decide) (by omega))⟩,rfl⟩⟩,?_⟩;intro vs bl aa hj;rw[w] at hj;obtain⟨u,X,rfl,rfl,⟨hu,A,p,S⟩,Q⟩:=hj;conv=>cbv
   refine .inr ?_;obtain⟨Z,t⟩:=xU (AP (AE l1));refine AB o (Ea rfl t) ?_;conv=>cbv
   have t26:Z=l1:=by rw[t];exact B.trim
   obtain⟨a1,g⟩:=xU (AP (x.natAbs/X));obtain⟨W,K⟩:=xU (AP (x.natAbs%X));refine AB (r:= .AG [(false,[.sl .u32 a1]),(false,[.sl .u32 W])]) o (Np (t26.trans B.BC) hu p g K (by rw[t26];omega)) ?_;try conv=>cbv
   obtain⟨a2,h⟩:=xU (AP (X+x.natAbs/X));refine AB (r:= .one (.sl .u32 a2)) o (YV hu g h (by omega) (by rw[g];have m:=D1 (Nat.div_le_self x.natAbs X);rw[<-B.BC] at m;omega)) ?_;try conv=>cbv
   obtain⟨L,a⟩:=xU (AP ((X+x.natAbs/X)/2));refine AB (r:= .one (.sl .u32 L)) o (iD h a (by rw[h];exact kV hu S B s1)) ?_;try conv=>cbv
   obtain⟨ae,d⟩:=xI (BV ((X+x.natAbs/X)/2:Nat) X);refine AB o (Ni a hu d) ?_;conv=>cbv
   intro n38 G;conv=>cbv
   cases n38 <;> conv=>cbv
   ·have j:=EI G;have I:(X+x.natAbs/X)/2<X:=by rw[d] at j;have:=IF j;omega
    refine⟨(X+x.natAbs/X)/2,?_,?_⟩
    ·rw[Q];exact I
    rw[w];exact⟨L,_,rfl,rfl,⟨a,Z8 A p,by have:=Z8 A p;omega,by rw[a];have:=D1 (Nat.le_of_lt I);rw[<-hu] at this;omega⟩,rfl⟩
   have j:=EJ G;obtain⟨M,N,i⟩:=Ac (((X:Nat):Int));refine AB (r:= .agg [.bool M,.sl .u32 N]) o (Et (by rw[hu,Az];rfl) i) ?_;try conv=>cbv
   have P:X<=(X+x.natAbs/X)/2:=by rw[d] at j;have:=IE j;omega
   have hX:=nQ A p P;exact AD ⟨⟨rfl,congrArg _ ((i.uniq v (by rw[<-hX];congr 2;omega)).1.symm),congrArg _ ((i.uniq v (by rw[<-hX];congr 2;omega)).2.symm),trivial⟩,⟨rfl,congrArg _ (by rw[he,if_neg (by omega)]),trivial⟩,trivial⟩
  have U:=Aj F;have C:x=0:=by rcases FM x with⟨m,q⟩ |⟨m,q⟩ |⟨m,q⟩ <;> omega
  have O:((BM x.toNat:Nat):Int)=0:=by rw[show x.toNat=0 by omega];rfl
  rw[O] at v;exact AD ⟨⟨rfl,congrArg _ (v.neg.trans rfl),.inr (.inl ⟨_,congrArg _ (v.BC.trans rfl)⟩),trivial⟩,⟨rfl,congrArg _ (by rw[he,if_neg (by omega)]),trivial⟩,trivial⟩
 have T:=Aj D;have C:x<0:=by rcases FM x with⟨m,q⟩ |⟨m,q⟩ |⟨m,q⟩ <;> omega
 have O:((BM x.toNat:Nat):Int)=0:=by rw[show x.toNat=0 by omega];rfl
 rw[O] at v;exact AD ⟨⟨rfl,congrArg _ (v.neg.trans rfl),.inr (.inl ⟨_,congrArg _ (v.BC.trans rfl)⟩),trivial⟩,⟨rfl,congrArg _ (by rw[he,if_pos C]),trivial⟩,trivial⟩
end Go.Abs
