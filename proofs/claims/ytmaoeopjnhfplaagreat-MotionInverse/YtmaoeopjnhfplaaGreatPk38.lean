/- Part 39 of a proof. Conditions: each theorem's own. -/
import Derived.Test.YtmaoeopjnhfplaaGreatPk37
set_option linter.all false
set_option maxHeartbeats 8000000
set_option maxRecDepth 20000
namespace Go.Abs
open Go.RowKit
abbrev F5 (TT:List (List Rat)->Prop) (w:List (List Rat)):Prop:=Fm TT w R5 5900000 76 1240 95 55
section
variable {P:List (List Rat)->Prop} {V:List Re} {w:List (List Rat)} {n1 n2:Re}
theorem Pl.f5 (L:Pl P V w) (b:El w R4 n1) (j:0<n1) (a:El w R4 n2) (k:0<n2):F5 (Tf (P5 P n1 n2)) (Aj (Aj w n1) n2):=by
 have J:=Zq L.I L.hV L.h3 L.hw L.ha b j a k;obtain⟨E,K2,F,_,G,M,C⟩:=Qm L.I L.hV L.h3 L.hw L.ha b j a k;have D:(0:Re)<=n1:=by grind
 have r:(0:Re)<=n2:=by grind
 have z:=L.hw.red L.I;have h:BF (Aj w n1):=Ec z b.mem D;have i:BF (Aj (Aj w n1) n2):=Ec h (El.Aj z h a).mem r
 have f:∀{x:Re},In w x->In (Aj w n1) x:=fun {x} c=>by
  by_cases q:Sq w n1
  ·rw[ED q];exact c
  rw[C8 q];exact Fh c
 have d:Tf (P5 P n1 n2) (Aj w n1):=(L.hw.Nv L.I b.mem).imp .inl
 have o:Tf (P5 P n1 n2) (Aj (Aj w n1) n2):=by
  by_cases A:Sq (Aj w n1) n2
  ·rw[ED A];exact d
  have n:¬Sq w n2:=fun q=>A ((I7 r).2 (f ((I7 r).1 q)))
  have:=Tf.Aj d (show P5 P n1 n2 (co w n2::w) from .inr (.inr ⟨w,L.hw,a.mem,by rw[C8 n];exact List.suffix_refl _⟩)) (fun x c=>f c);rwa [FR a.mem] at this
 refine⟨fun {S} l m=>mA L.I L.hV L.h3 L.hw L.ha b j a k l (Nat.le_trans m (by decide)),o,fun {u} hu=>Hu i (hu.red J) (fun v p=>(Tf.all J (fun B=>C B) hu v p).root),by decide,by decide,fun {x y s t} c g=>⟨BN i c.mem g.mem,(M.bd c.mem g.mem c.bd g.bd).mono (by omega)⟩,fun c g e=>(mh L.I L.hV L.h3 L.hw b j a k c g e).mono (by omega),fun {u} hu=>?_⟩;exact Nat.le_trans (GI (hu.Z7 L.I L.hV L.h3 J) (Nat.le_refl _) (Nat.le_refl _)) mS
theorem el5 (L:Pl P V w) (d:El w R4 n1) (l:0<n1) (b:El w R4 n2) (j:0<n2) {x:Re} {s:Nat} (g:El (Aj w n2) s x):El (Aj (Aj w n1) n2) (2*s+54200000) x:=by
 obtain⟨E,K2,y,_,z,M,_⟩:=Qm L.I L.hV L.h3 L.hw L.ha d l b j;obtain⟨g1,g2⟩:=fN L.I L.hV L.h3 L.hw d l b j;have u:(0:Re)<=n1:=by grind
 have v:(0:Re)<=n2:=by grind
 have h:=L.hw.red L.I;have c:BF (Aj w n1):=Ec h d.mem u;have f:BF (Aj (Aj w n1) n2):=Ec c (El.Aj h c b).mem v;have up:∀{s x},El w s x->El (Aj (Aj w n1) n2) s x:=fun g=>El.Aj c f (El.Aj h c g)
 have a:El (Aj (Aj w n1) n2) 48300000 (Re.sqrt n2):=by
  by_cases q:Sq (Aj w n1) n2
  ·exact⟨(g1 q).root,(g1 q).rb⟩
  exact⟨(g2 q).root,(g2 q).rb⟩
 by_cases k:Sq w n2
 ·rw[ED k] at g;exact (up g).mono (by omega)
 have t:=H4 h b.mem j k;rw[C8 k] at g;obtain⟨hm,hb⟩:=g;obtain⟨p,r,m,n,e⟩:=Cq.1 hm;rw[EJ t m n e] at hb;obtain⟨D,d0,d1,d2,d3⟩:=hb;rw[DN.app] at d2;rw[MX.app] at d3;have o:El w s p:=⟨m,D,d0,d1,d2.1,d3.1⟩;have i:El w s r:=⟨n,D,d0,d1,d2.2,d3.2⟩;rw[HA b.mem] at e;rw[e];have hmul:El (Aj (Aj w n1) n2) (s+48300000+E) (r*Re.sqrt n2):=⟨BN f (up i).mem a.mem,M.bd (up i).mem a.mem (up i).bd a.bd⟩;exact ((up o).add f hmul).mono (by omega)
theorem Pl.aE (L:Pl P V w) (c:El w R4 n1) (o:0<n1) (d:El w R4 n2) (p:0<n2) {b k b' k':Nat} {T:List LR} {A:LR} {x:Re} (h:Nm (Tf P) w b k T A x) (m:k*b<=k'*b'):Nm (Tf (P5 P n1 n2)) (Aj (Aj w n1) n2) b' k' T A x:=by
 obtain⟨u,i,j,a3,a4,l⟩:=h;have f:=L.hw.red L.I;have a:BF (Aj w n1):=Ec f c.mem (by grind);have g:BF (Aj (Aj w n1) n2):=Ec a (El.Aj f a d).mem (by grind);exact⟨u,(i.Rd L.I (n:=n1)).imp .inl,j,a3,a4,(El.Aj a g (El.Aj f a l)).mono m⟩
theorem Pl.Kv (L:Pl P V w) (c:El w R4 n1) (n:0<n1) (d:El w R4 n2) (o:0<n2) {b k b' k':Nat} {T:List LR} {A:LR} {x:Re} (h:Nm (Tf (P4 P n1)) (Aj w n1) b k T A x) (m:k*b<=k'*b'):Nm (Tf (P5 P n1 n2)) (Aj (Aj w n1) n2) b' k' T A x:=by
 obtain⟨u,i,j,a3,a4,l⟩:=h;have g:=L.hw.red L.I;have a:BF (Aj w n1):=Ec g c.mem (by grind);have f:BF (Aj (Aj w n1) n2):=Ec a (El.Aj g a d).mem (by grind);exact⟨u,i.imp .inl,j,a3,a4,(El.Aj a f l).mono m⟩
theorem Pl.Kw (L:Pl P V w) (a:El w R4 n1) (i:0<n1) (c:El w R4 n2) (j:0<n2) {b k b' k':Nat} {T:List LR} {A:LR} {x:Re} (h:Nm (Tf (P4 P n2)) (Aj w n2) b k T A x) (l:2*(k*b)+54200000<=k'*b'):Nm (Tf (P5 P n1 n2)) (Aj (Aj w n1) n2) b' k' T A x:=by
 obtain⟨u,d,f,a3,a4,g⟩:=h;exact⟨u,d.imp .inr,f,a3,a4,(el5 L a i c j g).mono l⟩
end
end Go.Abs
