/-
  Part 4 of 8 of the proof of InterfereOrder: what it leans on. No conditions.
-/
import Derived.Test.YtlegngbbcckmnaaGreatDoorZInterfereOrder3
import Derived.Maps.RangeRun
import Derived.WideKeyArr
import Derived.Laws.StructEq
set_option maxRecDepth 100000
set_option maxHeartbeats 4000000
namespace Go.Proofs.YtlegngbbcckmnaaGreatDoor
end Go.Proofs.YtlegngbbcckmnaaGreatDoor
namespace Go.Fw
open Go.Proofs.YtlegngbbcckmnaaGreatDoor Go.Proofs Go.RowKit Go.Maps Go.Sort Go.Shelf Go.Lib Tryz
theorem i8b:∀(e:E) (M:List Nat) (w0:World) (cs:List Value) (r0:Int),RdE M w0 e cs→e.good r0=true→(∀g∈M,g<w0.heap.size) →
 E0a prog 105 #[.agg cs.toArray] w0 fun v w'=>(∃cs:List Value,v=.agg cs.toArray∧RdE M w' e cs)∧Below w0.heap.size w0 w':=by
 intro e
 induction e using E.induct with
 | _ e ih =>
 intro M w0 cs r0 hR hg hM;obtain⟨A,n,c,rfl,o1,o2,o3,hn,hc,hm,hbig,F0⟩:=hR.open_;obtain⟨G0,E0⟩:=B2a hg;have Q0:=(P3a G0).2.2.1;have D0:=S1a e.op;have h3:e.kids.length≤3:=by omega
 have hK:RdS M w0 4 (RX M w0) (.slice A n c) e.kids:=(RdL.made hn hc hm hbig F0).rdS;have S:=(St.refl w0).nilEnt 37;refine a0a func105 Z ntmps105 Z ?_;refine wO0 Z U (p0a S Z ?_);intro g1 w1 S1 X1 G1;refine h0a S1 R1a Z Z ?_;intro g2 w2 S2 X2 G2;refine lOn 4 S2.k [] Z U (C0a Z ?_);refine lC S2.k [.o 1] Z ⟨Z,U⟩ (wL (fun μk D ε w=>D=[]∧∃k:Nat,∃G:Option Nat,∃m0:List Value,∃v:Value,(k+μk=(e.kids.length))∧(k1b (g2::M) w G m0 v (e.kids.take k))∧St [] w0 w [(some g2,37,[.int .i64 0,.int .i64 0,.int .i64 0,.slice none 0 0]),(some g1,37,[.int .i64 e.op,.int .i64 e.w,.int .i64 e.n,.slice A n c]),(G,37,m0)]∧Sl ε [(1,.pointer (some ⟨g1,0,none⟩)),(2,.pointer (some ⟨g2,0,none⟩)),(3,v),(7,.slice A n c),(8,.int .i64 n),(9,.int .i64 k)]) (μ:=(e.kids.length)) ⟨Z,0,none,[],.slice none 0 0,by omega,k1b.nil,S2,Z⟩ ?_);rintro μk D ε w ⟨rfl,k,G,m0,v,_,d0,S,eZ⟩;refine wK eZ ?_;have KQ:=u0a.refl (G.toList++g2::M) w;refine wB0 Z U (fun C0=>?_) fun C0=>?_
 ·obtain⟨y,A0,H0,_,q0,n0,_,p0,o0,e0⟩:=RdS.get (hK) (k) (by omega);obtain⟨_,_,_,rfl,_⟩:=RdE.cells e0;refine lO (S.k.a o0) [.x A0 H0,.v 0] Z ⟨⟨Z,p0⟩,⟨n0,by omega⟩,U⟩ (h0a S R1a Z Z ?_);intro g5 w5 S5 X5 G5;have g0:=Nat.le_trans KQ.size G5;replace KQ:=KQ.trans (X5.of_nil);refine c0a (kk:=0) (vs:=[_,_,_,_]) S5 i1a Z Z Z Z Z Z Z ?_;intro I0 a0 i0;dsimp only[f0a,List.set] at a0;replace KQ:=KQ.fresh2 i0 (by exact .inl g0);refine lOn 3 a0.k [] Z U (I0a Z ?_);refine lO a0.k [.w 0] Z ⟨⟨Z,by rfl⟩,U⟩ ?_;have v0:=j7a (M:=M) a0 hM;refine j0a a0 j2c Z Z (ih y (d0a q0) _ _ _ (r0-1) (RdE.keep (a0.keep0 _) _ _ (RdE.more (e4a a0) _ _ e0)) (E0 _ (d0a q0)) v0) ?_;rintro R0 T0 ⟨_,rfl,f0⟩ x0 z0;replace KQ:=KQ.trans (z0.of_nil);obtain⟨_,_,_,rfl,-⟩:=f0.open_;refine k0a x0 O0a (vs:=[.agg _]) (cs:=[_,_,_,_]) Z Z Z Z Z Z ?_;intro P0 U0 s0 t0 L0;replace f0:=RdE.keep (t0.of_nil) _ _ f0;replace KQ:=KQ.trans (t0.of_nil);have b0:=d0.keep KQ;refine u1a j3a (k:=4) (M2:=g2::M) (e1:=y) s0 O0a Z b0 Z Z (s0.cells 0 Z) (RdE.less (fun x hx=>by cases G<;>simp[g3b] at hx ⊢<;>grind) _ _ f0) (by rw[List.length_take];omega) Z ?_;intro S0 N0 B0 V0 y0 b0 O0 K0;refine C0a Z ?_;refine lP0 Z ⟨by omega,U⟩ ⟨μk-1,by omega,Z,(k+1),(_),(_),(_),(by omega),?_,y0.tail.tail,Z⟩;rw[F0a q0];exact b0
 refine lCn 7 S.k [] Z U ?_;obtain⟨Av,cv,rfl⟩:=Q1a.form d0;have u0:RdL (g2::M) w (.slice Av (e.kids.take k).length cv) (e.kids.take k):=d0.rdL S (k:=2) Z (fun g hg=>by
  subst hg;intro hh;rcases List.mem_cons.1 hh with hh|hh
  ·exact S.ne 0 2 Z Z (by omega) hh.symm
  ·exact J5a S (k:=2) Z hM hh) (by rw[List.length_take];omega)
 rw[show e.kids.take k=e.kids from List.take_of_length_le (by omega)] at u0 ⊢;refine wOn 7 S.k [.o 1,.o 1,.o 1] Z ⟨Z,Z,Z,U⟩ (I0a Z ?_);refine H0a W1a (vs:=[(0,.int .i64 _),(1,.int .i64 _),(2,.int .i64 _),(3,.slice _ _ _)]) (cs:=[_,_,_,_]) Z Z Z Z ?_;refine c0a (kk:=0) (vs:=[_,_,_,_]) S i1a Z Z Z Z Z Z Z ?_;intro J0 c0 j0;dsimp only[f0a,List.set] at c0;refine lR0 Z U (w0a Z G0a Z (c0.cells 0 Z) Z ⟨⟨_,Z,?_⟩,c0.fin⟩);have he:(⟨e.op,e.w,e.n,e.kids⟩:E)=e:=by cases e;rfl
 have hq:=RdE.less (M':=M) (fun g hg=>List.mem_cons_of_mem _ hg) _ _ (RdE.keep (j0.mono (by simp)) _ _ (u0.node o1 o2 o3));rw[he] at hq;exact hq
theorem J8a(p:o0a)(c:Int)(h0:0≤c)(hc:c<p.cells.length)(M:List Nat)(w0:World)(cs:List Value)(hR:R0a M w0 p cs)(hM:∀g∈M,g<w0.heap.size)(hw:i64 c):
 E0a prog 61 #[.agg cs.toArray,.int .i64 c] w0 fun v w'=>(∃cs:List Value,v=.agg cs.toArray∧RdE M w' (F3a p c) cs)∧Below w0.heap.size w0 w':=by
 obtain⟨_,_,_,_,_,_,_,_,cl,_,_,_,rfl,hC,_⟩:=hR.open_;have S:=St.refl w0;refine a0a func61 Z ntmps61 Z ?_;refine wO0 Z U (p0a S Z ?_);intro g2 w2 S2 X2 G2;refine h0a S2 R1a Z Z ?_;intro g4 w4 S4 X4 G4;obtain⟨cl,b9,p9,_,b0,f0,_,_,g0,i0⟩:=RdS.get (hC) (c.toNat) (by omega);obtain⟨rfl,c0,_⟩:=r2a.open_ i0;refine lO (S4.k.a g0) [.o 1,.x b9 p9,.f 0 1] Z ⟨Z,⟨f0,by omega⟩,Z,U⟩ (H0a W1a (vs:=[(0,.int .i64 _),(1,.int .i64 _),(2,.int .i64 _)]) (cs:=[_,_,_,_]) Z Z Z Z ?_);refine lO0 Z U (H0a W1a (vs:=[(0,.int .i64 _),(1,.int .i64 _),(2,.int .i64 _)]) (cs:=[_,_,_,_]) Z Z Z Z ?_);refine k0a S4 O0a (vs:=[.agg _,.agg _]) (cs:=[_,_,_,_,_,_,_,_]) Z Z Z Z Z Z ?_;intro g18 o0 d0 n0 m0;refine H0a W1a (vs:=[(0,.int .i64 _),(1,.int .i64 _),(3,.slice _ _ _)]) (cs:=[_,_,_,_]) Z Z Z Z ?_;refine c0a (kk:=1) (vs:=[_,_,_,_]) d0 i1a Z Z Z Z Z Z Z ?_;intro j0 a0 e0;dsimp only[f0a,List.set] at a0;refine lR0 Z U (w0a Z G0a Z (a0.cells 1 Z) Z ⟨⟨_,Z,?_⟩,a0.fin⟩);unfold F3a;rw[W4a (h0:=h0) b0];exact t2b (by unfold i64;omega) (by unfold i64;omega) (J5a a0 (k:=0) Z hM) (a0.cells 0 Z) (f1a (by unfold i64;omega) c0 hw) (f1a (by unfold i64;omega) c0 hw)
theorem h1b(p:o0a)(t:Int)(M:List Nat)(w0:World)(cs:List Value)(hR:R0a M w0 p cs)(hl:p.cells.length≤32):
 E0a prog 110 #[.agg cs.toArray,.int .i64 t] w0 fun v w'=>x4a 3 w0 w' v (ofL p t)∧Below w0.heap.size w0 w':=by
 obtain⟨Ac,nc,cc,Am,nm,cm,Al,nl,cl,At,nt,ct,rfl,hC,_⟩:=hR.open_;have S:=(St.refl w0).nilEnt 3;refine a0a func110 Z ntmps110 Z ?_;refine wO0 Z U (p0a S Z ?_);intro g2 w2 S2 X2 G2;refine lOn 5 S2.k [] Z U (C0a Z ?_);refine lC S2.k [.o 0] Z ⟨Z,U⟩ (wL (fun μk D ε w=>D=[]∧∃k:Nat,∃G:Option Nat,∃e0:List Value,∃v:Value,(k+μk=(p.cells.length))∧(Q1a R7c 1 [] w0 G e0 v (m3b p t k))∧St [] w0 w [(some g2,27,[.slice Ac nc cc,.slice Am nm cm,.slice Al nl cl,.slice At nt ct]),(G,3,e0)]∧Sl ε [(1,.int .i64 t),(5,v),(9,.slice Ac nc cc),(10,.int .i64 nc),(11,.int .i64 k)]) (μ:=(p.cells.length)) ⟨Z,0,none,[],.slice none 0 0,by omega,Q1a.nil,S2,Z⟩ ?_);rintro μk D ε w ⟨rfl,k,G,e0,v,_,b0,S,eZ⟩;refine wK eZ (wB0 Z U (fun s0=>?_) fun s0=>?_)
 ·obtain⟨cl,q0,t0,_,d0,g0,_,j0,i0,m0⟩:=RdS.get (hC) (k) (by omega);obtain⟨rfl,_⟩:=r2a.open_ m0;refine lO (S.k.a i0) [.x q0 t0,.v 0] Z ⟨⟨Z,j0⟩,⟨g0,by omega⟩,U⟩ (h0a S G7c Z Z ?_);intro g7 w7 S7 X7 G7;refine lO0 Z U (c0a (kk:=0) (vs:=[_,_,_,_,_,_]) S7 E7c Z Z Z Z Z Z Z ?_);intro u0 a0 p0;dsimp only[f0a,List.set] at a0;refine lB a0.k [.o 0] Z ⟨Z,U⟩ (fun f0=>?_) fun f0=>?_
  ·refine lOn 4 a0.k [] Z U (I0a Z ?_);refine lO0 Z U (k0a a0 Y0a (vs:=[.int .i64 _]) (cs:=[_]) Z Z Z Z Z Z ?_);intro B0 D0 n0 z0 x0;refine u1a b5a (k:=3) (M2:=[]) (e1:=(k:Int)) n0 Y0a Z b0 Z Z (n0.cells 0 Z) ⟨Z,by unfold i64;omega⟩ (by have:=Z2a p t k;omega) Z ?_;intro C0 y0 r0 E0 o0 c0 A0 v0;refine C0a Z ?_;refine lP0 Z ⟨by omega,U⟩ ⟨μk-1,by omega,Z,(k+1),(_),(_),(_),(by omega),?_,o0.tail.tail,Z⟩;rw[q4a d0];rw[if_pos f0];exact c0
  refine lP0 Z ⟨by omega,U⟩ ⟨μk-1,by omega,Z,(k+1),(_),(_),(_),(by omega),?_,a0.tail,Z⟩;rw[q4a d0];rw[if_neg f0];exact b0
 refine lOn 8 S.k [] Z U (I0a Z ?_);refine C0a Z ?_;refine lR0 Z U (s0a Z ?_);obtain rfl:k=p.cells.length:=by omega
 exact⟨b0.newRow S (k:=1) Z,S.fin⟩
theorem u5b(p:o0a)(M:List Nat)(w0:World)(cs:List Value)(hR:R0a M w0 p cs)(hl:p.cells.length≤32):
 E0a prog 106 #[.agg cs.toArray] w0 fun v w'=>x4a 3 w0 w' v (ofL p (-1))∧Below w0.heap.size w0 w':=by
 obtain⟨_,_,_,_,_,_,_,_,_,_,_,_,rfl,-⟩:=id hR.open_;have S:=St.refl w0;refine a0a func106 Z ntmps106 Z ?_;refine wO0 Z U (p0a S Z ?_);intro g1 w1 S1 X1 G1;refine lO S1.k [.w 0] Z ⟨⟨Z,Z⟩,U⟩ (j0a S1 F2c Z Z (h1b p (-1) M _ _ (hR.keep (S1.keep0 M)) hl) ?_);rintro v4 w4 ⟨G4,c0,b0,a0⟩ S4 X4;obtain⟨_,_,_,rfl⟩:=b0.form;refine lR0 Z U (s0a Z ?_);exact⟨⟨G4,c0,b0,fun g hg=>⟨Nat.le_trans S1.size (a0 g hg).1,(a0 g hg).2⟩⟩,S4.nil.fin⟩
theorem U5b(p:o0a)(t:Nat)(M:List Nat)(w0:World)(cs:List Value)(hR:R0a M w0 p cs)(hl:p.cells.length≤32)(ht:t<1000):
 E0a prog 60 #[.agg cs.toArray,.int .i64 t] w0 fun v w'=>x4a 3 w0 w' v (ofL p t)∧Below w0.heap.size w0 w':=by
 obtain⟨_,_,_,_,_,_,_,_,_,_,_,_,rfl,-⟩:=id hR.open_;have S:=St.refl w0;refine a0a func60 Z ntmps60 Z ?_;refine wO0 Z U (p0a S Z ?_);intro g2 w2 S2 X2 G2;refine lB0 Z U (fun h6=>by exfalso;omega) fun h6=>?_;refine lO S2.k [.w 0] Z ⟨⟨Z,Z⟩,U⟩ (j0a S2 F2c Z Z (h1b p t M _ _ (hR.keep (S2.keep0 M)) hl) ?_);rintro v9 w9 ⟨G9,c0,b0,a0⟩ S9 X9;obtain⟨_,_,_,rfl⟩:=b0.form;refine lR0 Z U (s0a Z ?_);exact⟨⟨G9,c0,b0,fun g hg=>⟨Nat.le_trans S2.size (a0 g hg).1,(a0 g hg).2⟩⟩,S9.nil.fin⟩
theorem L4b(p:o0a)(m:Nat)(md:j1a)(d0:p.modules[m]?=some md)(M:List Nat)(w0:World)(cs:List Value)(hI:InP p M w0 cs):
 E0a prog 55 #[.agg cs.toArray,.int .i64 m] w0 fun v w'=>(∃cs:List Value,v=.agg cs.toArray∧RdE M w' (b3a p m) cs)∧Below w0.heap.size w0 w':=by
 obtain⟨Ac,nc,cc,Am,nm,cm,Al,nl,cl,At,nt,ct,rfl,_,t1,_⟩:=hI.rd.open_;have S:=St.refl w0;have hM:=hI.lt;have hp:=hI.ok;have n1:=hp.ncells;have u1:=hp.modules md (d0a d0);have F1:=q0b d0;have n3:=hp.nmodules;have H1:(ofL p (-1)).length≤32:=Nat.le_trans (Z2a p (-1) _) n1;refine a0a func55 Z ntmps55 Z ?_;refine wO0 Z U (p0a S Z ?_);intro g2 w2 S2 X2 G2;refine h0a S2 R1a Z Z ?_;intro g4 w4 S4 X4 G4;obtain⟨_,o1,v1,_,L0,z0,_,H0,F0,I0⟩:=RdS.get (t1) (m) (by omega);obtain rfl:=Option.some.inj (d0.symm.trans L0);obtain⟨r0,R0,x0,q0,Q0,v0,p0,P0,u0,rfl,_,C0,B0,_⟩:=M0a.open_ I0;refine lO (S4.k.a F0) [.o 1,.x o1 v1,.v 0] Z ⟨⟨Z,H0⟩,⟨z0,by omega⟩,Z,U⟩ (h0a S4 t9c Z Z ?_);intro g5 w5 S5 X5 G5;refine c0a (kk:=0) (vs:=[_,_,_,_,_,_,_,_,_,_,_]) S5 a9c Z Z Z Z Z Z Z ?_;intro x1 c0 i1;dsimp only[f0a,List.set] at c0;refine lO c0.k [.o 0] Z ⟨Z,U⟩ (j0a c0 j2c Z Z (i8b md.guar (g4::M) _ _ 40 (RdE.keep (c0.keep0 _) _ _ (RdE.more (E3a c0 (k:=1) Z) _ _ C0)) (k5a (x1a u1.guar.1).1) (m7a c0 1 Z hM)) ?_);rintro I1 O1 ⟨_,rfl,W0⟩ Z0 C1;obtain⟨_,_,_,rfl,-⟩:=W0.open_;refine k0a Z0 O0a (vs:=[.agg _]) (cs:=[_,_,_,_]) Z Z Z Z Z Z ?_;intro g17 P1 m0 f1 Y0;refine C0a Z ?_;refine lO m0.k [.w 3] Z ⟨⟨Z,Z⟩,U⟩ ?_;have a0:=f9a (W0.addNew f1 Y0);refine j0a m0 B8c Z Z (Q6b (M:=g17::g4::M) (u5b p M _ _ (hI.rd.keep (m0.keep0 M)) n1) (fun x hx=>j7a m0 hM x (n3b (G:=some g17) 0 Z (k3b 2 Z) x hx)) (fun x hx=>by have:=i4a.1 hx;unfold i64;omega)) ?_;rintro J1 S0 K0 a1 g1;obtain⟨As,ns,q1,rfl⟩:=K0.form;have G1:=K0.len.1;have KS:=u0a.refl [g17] S0;replace a0:=k1b.keep a0 g1.of_nil;refine lC0 Z U (wL (fun μk D ε w=>D=[]∧∃k:Nat,∃G:Option Nat,∃cs2:List Value,∃v:Value,(k+μk=((ofL p (-1)).length))∧(k1b (g4::M) w G cs2 v (md.guar::(h9b md.frame ((ofL p (-1)).take k)).map (F3a p)))∧(∀g∈G.toList,S0.heap.size≤g∨g∈[g17])∧(u0a [g17] S0 w)∧St [] w0 w [(G,37,cs2),(some g5,81,[.string md.name,.string md.owner,.int .i64 md.rely.op,.int .i64 md.rely.w,.int .i64 md.rely.n,.slice r0 R0 x0,.int .i64 md.guar.op,.int .i64 md.guar.w,.int .i64 md.guar.n,.slice q0 Q0 v0,.slice p0 P0 u0]),(some g4,37,[.int .i64 0,.int .i64 0,.int .i64 0,.slice none 0 0]),(some g2,27,[.slice Ac nc cc,.slice Am nm cm,.slice Al nl cl,.slice At nt ct])]∧Sl ε [(2,.pointer (some ⟨g2,0,none⟩)),(4,.pointer (some ⟨g4,0,none⟩)),(5,.pointer (some ⟨g5,0,none⟩)),(6,v),(19,.slice As ns q1),(20,.int .i64 ns),(21,.int .i64 k)]) (μ:=((ofL p (-1)).length)) ⟨Z,0,some g17,_,_,by omega,a0,by simp,KS,a1,Z⟩ ?_);rintro μk D ε w ⟨rfl,k,G,cs2,v,_,i0,G0,KS,S,eZ⟩;refine wK eZ ?_;have KQ:=u0a.refl (G.toList++g4::M) w;refine wB0 Z U (fun s1=>?_) fun s1=>?_
 ·obtain⟨c,p1,w1,_,N0,A0,E0,_,g0,J0⟩:=RdS.get (K0.keep (KS.mono (by simp))) (k) (by omega);obtain⟨rfl,O0⟩:=id J0;have V0:=i4a.1 (d0a N0);refine lO (S.k.b g0) [.x p1 w1,.f 0 0,.o 1] Z ⟨Z,Z,⟨A0,by omega⟩,U⟩ (v0a S H9b Z Z (v8a M _ _ md.frame c (B0.keep (S.keep0 M))) (fun y0 y1 e0 j0=>?_) (fun y0 y1 e0 j0=>?_))
  ·replace g0:=g0.keep (j0.of_nil) E0;replace KS:=KS.trans (j0.of_nil);replace KQ:=KQ.trans (j0.of_nil);refine lP0 Z ⟨by omega,U⟩ ⟨μk-1,by omega,Z,(k+1),(_),(_),(_),(by omega),?_,?_,(KS),e0,Z⟩
   ·rw[t4b N0];rw[if_pos (of_decide_eq_true y0)];exact i0.keep KQ
   ·exact G0
  replace KS:=KS.trans (j0.of_nil);replace KQ:=KQ.trans (j0.of_nil);refine lOn 5 e0.k [] Z U (I0a Z ?_);refine lO e0.k [.w 3] Z ⟨⟨Z,Z⟩,U⟩ (j0a e0 x5c Z Z (J8a p c V0.1 V0.2.1 (G.toList++g4::M) _ _ ((hI.rd.more (fun x hx=>e4a e0 x (n3b 0 Z (k3b 2 Z) x hx))).keep (e0.keep0 _)) (fun x hx=>j7a e0 hM x (n3b 0 Z (k3b 2 Z) x hx)) O0) ?_);rintro K1 Q1 ⟨_,rfl,n0⟩ b1 U0;replace KS:=KS.trans (U0.of_nil);replace KQ:=KQ.trans (U0.of_nil);obtain⟨_,_,_,rfl,-⟩:=n0.open_;refine k0a b1 O0a (vs:=[.agg _]) (cs:=[_,_,_,_]) Z Z Z Z Z Z ?_;intro E1 R1 T0 s0 A1;replace n0:=RdE.keep (s0.of_nil) _ _ n0;replace KS:=KS.trans (s0.of_nil);replace KQ:=KQ.trans (s0.of_nil);have b0:=i0.keep KQ;refine u1a j3a (k:=1) (M2:=g4::M) (e1:=F3a p c) T0 O0a Z b0 Z Z (T0.cells 0 Z) n0 (by have:=o7a md.frame ((ofL p (-1)).take k);rw[List.length_take] at this;simp;omega) Z ?_;intro M1 B1 r1 T1 c1 b0 j1 X0;have m1:=KS.size;replace KS:=KS.freshL j1 G0;refine C0a Z ?_;refine lP0 Z ⟨by omega,U⟩ ⟨μk-1,by omega,Z,(k+1),(_),(_),(_),(by omega),?_,?_,(KS),c1.tail,Z⟩
  ·rw[t4b N0];rw[if_neg (of_decide_eq_false y0),List.map_append];exact b0
  ·intro g hg;rcases X0 g hg with h|h;exact G0 g h;exact .inl (Nat.le_trans m1 h)
 refine lOn 8 S.k [] Z U (I0a Z ?_);have D0:RdL (g4::M) w v (C2b p md):=by
  have hr:=i0;rw[List.take_of_length_le (by omega)] at hr;exact hr.rdL S (k:=0) Z (fun g hg hh=>by
   subst hg;rcases List.mem_cons.1 hh with hh|hh
   ·exact S.ne 0 2 Z Z (by omega) hh
   ·exact J5a S (k:=0) Z hM hh) (by have:=o7a md.frame (ofL p (-1));simp;omega)
 refine j0a S B5c Z Z (M9b (C2b p md) (g4::M) _ _ D0 (m7a S 2 Z hM) ((hI.msk.more (E3a S (k:=2) Z)).keep (S.keep0 _))) ?_;rintro N1 U1 ⟨_,rfl,o0⟩ d1 D1;obtain⟨_,_,_,rfl,-⟩:=o0.open_;refine c0a (kk:=2) (vs:=[_,_,_,_]) d1 i1a Z Z Z Z Z Z Z ?_;intro z1 f0 t0;dsimp only[f0a,List.set] at f0;replace o0:=RdE.keep (t0.mono (by simp)) _ _ o0;refine lR0 Z U (w0a Z G0a Z (f0.cells 2 Z) Z ⟨⟨_,Z,?_⟩,f0.fin⟩);unfold b3a J3c;rw[show((m:Int).toNat)=m by simp,getD_some d0];exact RdE.less (fun x hx=>List.mem_cons_of_mem _ hx) _ _ o0
section
variable {P:Program} {r:Option Nat} {N:Nat} {D:List Deferred} {e:Env} {w w0:World} {ops:Array Oper} {rest:List Oper} {K:List Deferred→Env→World→Prop} {L:List Ent} {M:List Nat}
variable {d:Nat} {t:TypeId} {p:String} {af:Array Edge} {x y z:Operand} {α:Type} {enc:α→Value}
def H0b(enc:α→Value)(w:World)(b:Nat)(l:List α):Prop :=
 ∃es clock,w.heap[b]?=some (.map es clock)∧es.toList.map (fun x=>(x.key,x.val))=l.map (fun a=>(enc a,Value.bool true))∧(∀x∈es.toList,x.born<clock)∧(es.toList.map (·.born)).Nodup
theorem H0b.keep{b:Nat}{l:List α}{w':World}(h:H0b enc w b l)(hk:u0a M w w')(hb:b∉M):H0b enc w' b l:=by
 obtain⟨es,a0,h1,h2⟩:=h;exact⟨es,a0,by rw[hk.same b (Array.getElem?_eq_some_iff.1 h1).1 hb];exact h1,h2⟩
theorem H0b.lt{b:Nat}{l:List α}(h:H0b enc w b l):b<w.heap.size:=by
 obtain⟨_,_,h1,_⟩:=h;exact(Array.getElem?_eq_some_iff.1 h1).1
theorem H0b.ne{b g tb:Nat}{cs:List Value}{l:List α}(h:H0b enc w b l)(hg:m0a w (g,tb,cs)):b≠g:=by
 obtain⟨_,_,h1,_⟩:=h;rintro rfl;unfold m0a at hg;rw[h1] at hg;cases hg
theorem H0b.mk_{b:Nat}{k:TypeId}{w1:World}(h:m3a P k w1 b []):H0b enc w1 b []:=by
 obtain⟨es,a0,h1,h2,_⟩:=h;have h0:es.toList=[]:=List.map_eq_nil_iff.1 h2;exact⟨es,a0,h1,by simp[h0],by simp[h0],by simp[h0]⟩
open Classical in
noncomputable def insL(l:List α)(a:α):List α:=if a∈l then l else l++[a]
theorem b9a{l:List α}{a x:α}:x∈insL l a↔x∈l∨x=a:=by
 unfold insL;split
 ·rename_i h;exact⟨.inl,fun h'=>h'.elim id (fun hh=>hh▸h)⟩
 ·simp
theorem e1b{l:List α}{a:α}(h:l.Nodup):(insL l a).Nodup:=by
 unfold insL;split
 ·exact h
 ·rename_i hn;rw[List.nodup_append];exact⟨h,by simp,fun x hx y hy=>by rw[List.mem_singleton.1 hy];exact fun hh=>hn (hh▸hx)⟩
theorem M6b{l:List α}{a:α}:(insL l a).length≤l.length+1:=by
 unfold insL;split<;>simp
theorem b0c{k el:TypeId}{ty b:Nat}{l:List α}{a:α}(S:St M w0 w L)(Kd:Keyed P k)(ht:P.underlying ty=some (.map k el))(d0:∀a b,enc a=enc b→a=b)(f0:∀a∈l,∃q,keyOf P k (enc a)=some q)(q0:∃q,keyOf P k (enc a)=some q)(h:H0b enc w b l)
 (hx:ev e x=.map (some b)) (hy:ev e y=enc a) (hz:ev e z=.bool true) (hb:w0.heap.size≤b∨b∈M)
 (hk:∀w1,St M w0 w1 L→u0a [b] w w1→H0b enc w1 b (insL l a)→WL P r N ops rest K D e w1) :
 WL P r N ops (⟨none,.mapUpdate ty x y z,t,p,af,none⟩::rest) K D e w:=by
 have c0:=h;obtain⟨es,a0,h1,h2,h3,h4⟩:=h;obtain⟨q,hq⟩:=q0;have s0:b<w.heap.size:=(Array.getElem?_eq_some_iff.1 h1).1;have m0:∀x∈es.toList,∃a∈l,x.key=enc a∧x.val=.bool true:=fun x hx=>by
  have:(x.key,x.val)∈es.toList.map (fun x=>(x.key,x.val)):=List.mem_map.2 ⟨x,hx,Z⟩;rw[h2] at this;obtain⟨a,ha,he⟩:=List.mem_map.1 this;simp only[Prod.mk.injEq] at he;exact⟨a,ha,he.1.symm,he.2.symm⟩
 have r0:∀a∈l,∃x∈es.toList,x.key=enc a:=fun a ha=>by
  have:(enc a,Value.bool true)∈l.map (fun a=>(enc a,Value.bool true)):=List.mem_map.2 ⟨a,ha,Z⟩;rw[←h2] at this;obtain⟨x,hx,he⟩:=List.mem_map.1 this;simp only[Prod.mk.injEq] at he;exact⟨x,hx,he.1⟩
 rcases Kd.find w hq es.toList (fun x hx=>by obtain⟨a,ha,he,_⟩:=m0 x hx;rw[he];exact f0 a ha) with⟨h5,h6⟩|⟨j,e0,h5,h6,h7⟩
 ·have t0:a∉l:=fun ha=>by obtain⟨x,hx,he⟩:=r0 a ha;exact h6 x hx he
  have b0:∀g,g≠b→(w.heap.setIfInBounds b (.map (es.push ⟨enc a,.bool true,a0⟩) (a0+1)))[g]?=w.heap[g]?:=fun g hg=>Array.getElem?_setIfInBounds_ne (fun e=>hg e.symm);refine m0b (w':={ w with heap:=w.heap.setIfInBounds b (.map (es.push ⟨enc a,.bool true,a0⟩) (a0+1)) }) Z Z ?_ (hk _ ?_ ?_ ?_)
  ·simp[execOp,hx,hy,hz,Instr.mapUpdate,run_underlying ht,MapKept.run_getObj_map h1,Kd.check w false hq,h5,MapKept.run_setObj_map _ h1,Result.andThen]
  ·refine S.keeps ⟨S.below.os,S.below.tape,S.below.output,by simpa using S.below.size,fun g hg hm=>?_⟩ (fun x' u0 g hg=>b0 g (fun hh=>by subst hh;exact c0.ne (S.own x' u0 g hg).2 Z));refine(b0 g (fun hh=>?_)).trans (S.below.block g hg hm);subst hh;rcases hb with hb|hb
   ·omega
   ·exact hm hb
  ·exact⟨by simp,fun g _ hm=>b0 g (fun hh=>hm (by simp[hh]))⟩
  ·refine⟨es.push ⟨enc a,.bool true,a0⟩,a0+1,by simp[s0],by simp[insL,t0,h2],fun x hx=>?_,?_⟩
   ·simp only[Array.toList_push,List.mem_append,List.mem_singleton] at hx;rcases hx with hx|rfl
    ·have:=h3 x hx;omega
    ·exact Nat.lt_succ_self _
   ·simp only[Array.toList_push,List.map_append,List.map_cons,List.map_nil];rw[List.nodup_append];exact⟨h4,by simp,fun i hi j hj=>by
     rw[List.mem_singleton.1 hj];obtain⟨x,hx,rfl⟩:=List.mem_map.1 hi;have:=h3 x hx;omega⟩
 ·have g0:=List.mem_of_getElem? h6;obtain⟨a',n0,p0,_⟩:=m0 e0 g0;have o0:a'=a:=d0 _ _ (by rw[←p0,h7]);subst o0;have i0:es.modify j (fun x=>{ x with key:=enc a',val:=.bool true })=es:=by
   apply Array.ext';rw[Array.toList_modify];apply List.ext_getElem?;intro i;rw[List.getElem?_modify];by_cases j0:j=i
   ·subst j0;rw[h6];simp;cases e0;simp_all
   ·simp[j0]
  refine m0b (w':=w) Z Z ?_ (hk w S (u0a.refl _ _) (by rw[insL,if_pos n0];exact c0));have hw:({ w with heap:=w.heap.setIfInBounds b (.map es a0) }:World)=w:=by
   have:w.heap.setIfInBounds b (.map es a0)=w.heap:=by
    apply Array.ext_getElem?;intro i;rw[Array.getElem?_setIfInBounds]
    split
    ·rename_i h;subst h;rw[h1]
    ·rfl
   rw[this]
  have hj:es[j]?=some e0:=by rw[←Array.getElem?_toList];exact h6
  simp only[execOp,hx,hy,hz,Instr.mapUpdate,Sem.run_bind,run_underlying ht,Result.andThen_ok,MapKept.run_getObj_map h1,Kd.check w false hq,h5,hj,Option.map_some,Option.getD_some,h7,Kd.stays w hq,i0,MapKept.run_setObj_map _ h1,hw,Sem.run_pure]
def Q6a(enc:α→Value)(w:World)(b r:Nat)(left:List α)(cur:Option α):Prop :=
 ∃es clock since seen c0,w.heap[b]?=some (.map es clock)∧w.heap[r]?=some (.mapIter (some b) since seen c0)∧(∀x∈es.toList,x.born<since)∧since≤c0∧since≤clock∧(es.toList.map (·.born)).Nodup ∧
  ((leftOf es seen).toList.map (·.key)).Perm (left.map enc)∧∀a,cur=some a→c0=clock∧∃x∈es.toList,x.key=enc a∧∃seen':Array Nat,seen=seen'.push x.born
theorem Q6a.keep{b q:Nat}{b0:List α}{f0:Option α}{w':World}(h:Q6a enc w b q b0 f0)(hk:u0a M w w')(hb:b∉M)(hq:q∉M):Q6a enc w' b q b0 f0:=by
 obtain⟨es,a0,d0,e0,c0,h1,h2,h3⟩:=h;exact⟨es,a0,d0,e0,c0,by rw[hk.same b (Array.getElem?_eq_some_iff.1 h1).1 hb];exact h1,by rw[hk.same q (Array.getElem?_eq_some_iff.1 h2).1 hq];exact h2,h3⟩
theorem Q6a.ne{b q g tb:Nat}{cs:List Value}{a0:List α}{b0:Option α}(h:Q6a enc w b q a0 b0)(hg:m0a w (g,tb,cs)):b≠g∧q≠g:=by
 obtain⟨_,_,_,_,_,h1,h2,_⟩:=h;unfold m0a at hg;exact⟨fun hh=>by subst hh;rw[h1] at hg;(cases hg),fun hh=>by subst hh;rw[h2] at hg;(cases hg)⟩
theorem Q6a.keepC{b q:Nat}{a0:List α}{b0:Option α}{w':World}{Gs:List Nat}(h:Q6a enc w b q a0 b0)(hk:u0a Gs w w')(hG:∀g∈Gs,∃tb cs,m0a w (g,tb,cs)):Q6a enc w' b q a0 b0:=h.keep hk
 (fun hb=>by obtain⟨tb,cs,hh⟩:=hG b hb;exact(h.ne hh).1 Z) (fun hb=>by obtain⟨tb,cs,hh⟩:=hG q hb;exact(h.ne hh).2 Z)
theorem St.optBlk(S:St M w0 w L)(k:Nat){G:Option Nat}{t:TypeId}{cs:List Value}(hk:L[k]?=some (G,t,cs)):∀g∈G.toList,∃tb cs,m0a w (g,tb,cs):=fun g hg=>by
 have hG:G=some g:=by cases G with
  | none=>simp at hg
  | some x=>simp at hg;rw[hg]
 subst hG;exact⟨t,cs,S.blk k hk⟩
theorem L7b{k el:TypeId}{ty b:Nat}{l:List α}(S:St M w0 w L)(ht:P.underlying ty=some (.map k el))(h:H0b enc w b l)(hx:ev e x=.map (some b))(hd:Nat.ble (d+1) N=true)
 (hk:∀q w1,St M w0 w1 L→u0a [] w w1→w.heap.size≤q→Q6a enc w1 b q l none→WL P r N ops rest K D (upd e d (.pointer (some ⟨q,0,none⟩))) w1) :
 WL P r N ops (⟨some d,.range ty x,t,p,af,none⟩::rest) K D e w:=by
 obtain⟨es,a0,h1,h2,h3,h4⟩:=h;refine P0a (v:=.pointer (some ⟨w.heap.size,0,none⟩)) (w':=w.alloc (.mapIter (some b) a0 #[] a0)) Z Z hd ?_ (hk _ _ (S.keeps (S.below.alloc _) fun b hb g hg=>Below.heap_alloc w _ g ((S.own b hb g hg).2.lt)) (B1a _ _ _) (Nat.le_refl _) ⟨es,a0,a0,#[],a0,?_,?_,h3,Nat.le_refl _,Nat.le_refl _,h4,?_,fun a ha=>by cases ha⟩)
 ·simp[execOp,hx,run_range_map w ty k el b es a0 ht h1]
 ·rw[Below.heap_alloc w _ b (Array.getElem?_eq_some_iff.1 h1).1];exact h1
 ·exact Go.heap_alloc_new w _
 ·have e1:(leftOf es #[]).toList=es.toList:=by simp[leftOf]
  have e2:es.toList.map (·.key)=l.map enc:=by
   have:=congrArg (List.map Prod.fst) h2;simpa[List.map_map,Function.comp_def] using this
  rw[e1,e2]
theorem e0b{β γ:Type}[BEq γ][LawfulBEq γ](f:β→γ):∀(l:List β),(l.map f).Nodup→∀a∈l,l.Perm (a::l.filter (fun x=>f x != f a))
 | [],_,a,h=>by cases h
 | x::l,hn,a,h=>by
   rw[List.map_cons,List.nodup_cons] at hn;rcases List.mem_cons.1 h with rfl|h
   ·have:l.filter (fun x=>f x != f a)=l:=List.filter_eq_self.2 fun y hy=>by
     simp only[bne_iff_ne];exact fun hh=>hn.1 (by rw[←hh];exact List.mem_map.2 ⟨y,hy,Z⟩)
    rw[List.filter_cons_of_neg (by simp),this]
   ·have hx:f x≠f a:=fun hh=>hn.1 (by rw[hh];exact List.mem_map.2 ⟨a,h,Z⟩);rw[List.filter_cons_of_pos (by simpa using hx)];exact((e0b f l hn.2 a h).cons x).trans (List.Perm.swap _ _ _)
theorem R9b{b q:Nat}{g0:List α}{p0:Option α}(S:St M w0 w L)(h:Q6a enc w b q g0 p0)(hq:w0.heap.size≤q∨q∈M)(hx:ev e x=.pointer (some ⟨q,0,none⟩))(hd:Nat.ble (d+1) N=true)
 (h1:g0=[]→WL P r N ops rest K D (upd e d (.tuple #[.bool false])) w)
 (h2:∀a i0 v w1,g0.Perm (a::i0)→St M w0 w1 L→u0a [q] w w1→Q6a enc w1 b q i0 (some a)→WL P r N ops rest K D (upd e d (.tuple #[.bool true,enc a,v])) w1) :
 WL P r N ops (⟨some d,.next x false,t,p,af,none⟩::rest) K D e w:=by
 have hm:=h;obtain⟨es,b0,f0,a0,c0,k1,k2,k3,k4,k8,k5,k6,_⟩:=h;rcases run_next_at (P:=P) w t q b f0 c0 a0 es b0 k2 k1 k3 k4 with⟨q1,q2⟩|⟨e0,q1,w1,q2,q3⟩
 ·refine P0a (v:=.tuple #[.bool false]) (w':=w) Z Z hd (by simp[execOp,hx,q2]) (h1 ?_);have h0:(leftOf es a0).toList=[]:=by
   have:(leftOf es a0).toList.length=0:=by simpa using q1
   exact List.length_eq_zero_iff.1 this
  rw[h0] at k6;have h9:=k6.length_eq;exact List.length_eq_zero_iff.1 (by simpa using h9.symm)
 ·have s0:e0.key∈g0.map enc:=k6.subset (List.mem_map.2 ⟨e0,q1,Z⟩);obtain⟨a,ha,o0⟩:=List.mem_map.1 s0;obtain⟨s,u,rfl⟩:=List.append_of_mem ha;have t0:q<w.heap.size:=(Array.getElem?_eq_some_iff.1 k2).1;have n0:w1.heap=w.heap:=by rcases q2 with rfl|rfl<;>rfl
  have d0:∀g,g≠q→(ChangeMaps.setBlock w1 q (.mapIter (some b) f0 (a0.push e0.born) b0)).heap[g]?=w.heap[g]?:=fun g hg=>by
   show(w1.heap.setIfInBounds q _)[g]?=_
   rw[Array.getElem?_setIfInBounds_ne (fun e=>hg e.symm),n0]
  have r0:b≠q:=by rintro rfl;rw[k1] at k2;cases k2
  refine P0a (v:=.tuple #[.bool true,e0.key,e0.val]) Z Z hd (by simp only[execOp,hx,Sem.run_bind];rw[q3];rfl) (?_:WL P r N ops rest K D (upd e d (.tuple #[.bool true,e0.key,e0.val])) _);rw[←o0];have j0:=mem_left q1;refine h2 a (s++u) _ _ List.perm_middle ?_ ?_ ?_
  ·refine S.keeps ⟨?_,?_,?_,?_,fun g hg m0=>?_⟩ (fun x' u0 g hg=>d0 g (fun hh=>by subst hh;exact(hm.ne (S.own x' u0 g hg).2).2 Z))
   ·rcases q2 with rfl|rfl<;>exact S.below.os
   ·rcases q2 with rfl|rfl<;>exact S.below.tape
   ·rcases q2 with rfl|rfl<;>exact S.below.output
   ·show _≤(w1.heap.setIfInBounds q _).size
    rw[Array.size_setIfInBounds,n0];exact S.below.size
   ·refine(d0 g (fun hh=>?_)).trans (S.below.block g hg m0);subst hh;rcases hq with hq|hq
    ·omega
    ·exact m0 hq
  ·exact⟨by show _≤(w1.heap.setIfInBounds q _).size;rw[Array.size_setIfInBounds,n0];exact Nat.le_refl _,fun g _ m0=>d0 g (fun hh=>m0 (by simp[hh]))⟩
  ·refine⟨es,b0,f0,a0.push e0.born,b0,by rw[d0 b r0];exact k1,?_,k3,k8,k8,k5,?_,fun a' q0=>?_⟩
   ·show(w1.heap.setIfInBounds q _)[q]?=_
    rw[Array.getElem?_setIfInBounds_self_of_lt];rw[n0];exact t0
   ·have hp:=e0b (fun(x:MapEntry)=>x.born) (leftOf es a0).toList (by
     have:(leftOf es a0).toList=es.toList.filter (fun e=>!a0.contains e.born):=by simp[leftOf]
     rw[this];exact k5.sublist (List.Sublist.map _ List.filter_sublist)) e0 q1
    have hf:(leftOf es a0).toList.filter (fun x=>x.born != e0.born)=(leftOf es (a0.push e0.born)).toList:=by
     simp only[leftOf,Array.toList_filter,List.filter_filter];apply List.filter_congr;intro x _;rw[contains_push];cases a0.contains x.born<;>simp[bne]
    rw[hf] at hp;have h8:=(hp.map (·.key)).symm.trans k6;rw[List.map_cons,←o0] at h8;have h9:((s++a::u).map enc).Perm (enc a::(s++u).map enc):=by
     rw[←List.map_cons];exact List.perm_middle.map enc
    exact(h8.trans h9).cons_inv
   ·cases q0;exact⟨Z,e0,j0.1,o0.symm,a0,Z⟩
theorem h7b{b q:Nat}{c0:List α}{a:α}(h:Q6a enc w b q c0 (some a))(hx:ev e x=.pointer (some ⟨q,0,none⟩))(hd:Nat.ble (d+1) N=true)
 (h1:∀v,WL P r N ops rest K D (upd e d (.tuple #[enc a,v])) w):WL P r N ops (⟨some d,.entry x,t,p,af,none⟩::rest) K D e w:=by
 obtain⟨es,_,b0,_,_,k1,k2,_,_,_,k5,_,k7⟩:=h;obtain⟨rfl,x0,d0,hk,a0,rfl⟩:=k7 a Z;have hr:=run_entry_at (P:=P) w q b b0 a0 es _ x0 k2 k1 d0 k5;have h2:=h1 x0.val;rw[←hk] at h2;refine P0a Z Z hd ?_ h2;simp only[execOp,hx,Sem.run_bind];rw[hr];rfl
end
structure p5b where
 id:ByteArray
 kind:Int
 module_:Int
 thread:Int
 item:Int
 other:Int
 hyp:E
 goal:E
def L0b(M:List Nat)(w:World)(c:p5b)(cs:List Value):Prop :=
 ∃ch cg,cs=[.string c.id,.int .i64 c.kind,.int .i64 c.module_,.int .i64 c.thread,.int .i64 c.item,.int .i64 c.other]++ch++cg∧RdE M w c.hyp ch∧RdE M w c.goal cg
theorem L0b.keep{M:List Nat}{w w':World}{c:p5b}{cs:List Value}(h:L0b M w c cs)(hk:u0a M w w'):L0b M w' c cs:=by
 obtain⟨ch,cg,h1,h2,h3⟩:=h;exact⟨ch,cg,h1,RdE.keep hk _ _ h2,RdE.keep hk _ _ h3⟩
theorem L0b.more{M M':List Nat}{w:World}{c:p5b}{cs:List Value}(h:L0b M w c cs)(hM:∀g∈M',g∈M∨w.heap.size≤g):L0b M' w c cs:=by
 obtain⟨ch,cg,h1,h2,h3⟩:=h;exact⟨ch,cg,h1,RdE.more hM _ _ h2,RdE.more hM _ _ h3⟩
def p5b.sup(op:Int)(c:p5b):List Int:=r0d (c.hyp.sup op) (c.goal.sup op)
def p5b.formed(cells:List a1a)(c:p5b):Bool:=c.hyp.valid cells true&&(c.goal.valid cells true&&(decide (c.hyp.w=1)&&decide (c.goal.w=1)))
theorem v9c(k:Nat)(hk:k≤1000000)(w0:World):E0a prog 122 #[.slice none 0 0,.int .i64 (k:Int)] w0 fun v w'=>x4a 3 w0 w' v []∧Below w0.heap.size w0 w':=by
 have S:=St.refl w0;refine a0a func122 Z ntmps122 Z ?_;refine wB0 Z U (fun h6=>by exfalso;omega) fun h6=>?_;refine lB0 Z ⟨by omega,by omega,U⟩ (fun e0=>?_) fun e0=>?_
 ·refine lO0 Z U (n8b Y0a.slT Z Z Z ?_);refine lO0 Z U ?_;refine F1c (k:=k) S Y0a Z Tryz.underlying3 Z (by show Value.int .i64 _=_;exact congrArg _ (by omega)) (by omega) (by omega) (by omega) Z ?_;intro c0 a0 j0 b0 i0 f0 g0 d0;refine lO0 Z U (a7c (k:=0) Y0a.slT Z Z (by omega) (by omega) Z ?_);refine lR0 Z U (s0a Z ?_);exact⟨⟨some c0,List.replicate a0 (.int .i64 0),⟨Z,.inr ⟨c0,a0,Z,Z,Nat.zero_le _,f0,by simp,by simp⟩⟩,fun g hg=>by cases hg;exact⟨d0,b0.blk 0 Z⟩⟩,b0.nil.fin⟩
 refine lR0 Z U (s0a Z ?_);exact⟨⟨none,[],t4a.nil 1,fun g hg=>by cases hg⟩,S.fin⟩
theorem B6b(ls:List (List Int))(k:Nat)(h:k<ls.length):(ls.take (k+1)).flatten=(ls.take k).flatten++ls[k]:=by
 induction ls generalizing k with
 | nil=>simp at h
 | cons x xs ih =>
   cases k with
   | zero=>simp
   | succ k=>simp only[List.take_succ_cons,List.flatten_cons,List.getElem_cons_succ];rw[ih k (by simpa using h),List.append_assoc]
theorem A9c(ls:List (List Int))(hl:∀l∈ls,l.length≤1000)(k:Nat):k≤ls.length→(ls.take k).flatten.length≤1000*k:=by
 induction k with
 | zero=>intro _;simp
 | succ k ih =>
   intro h;rw[B6b ls k (by omega),List.length_append];have:=ih (by omega);have:=hl ls[k] (List.getElem_mem (by omega));omega
theorem T4b(M:List Nat)(w0:World)(g:Nat)(ls:List (List Int))(hl:∀l∈ls,l.length≤1000)(H0:ls.length≤100)
 (s0:∀(k:Nat) (h:k<ls.length),∃A n c,w0.cell? ⟨g,0+k*1,none⟩=some (.slice A n c)∧RdI M w0 (.slice A n c) ls[k]) :
 E0a prog 67 #[.slice (some ⟨g,0,none⟩) ls.length ls.length] w0 fun v w'=>x4a 3 w0 w' v ls.flatten∧Below w0.heap.size w0 w':=by
 have S:=St.refl w0;refine a0a func67 Z ntmps67 Z ?_;refine wC0 Z U (wL (fun μ D ε w=>D=[]∧∃k:Nat,(k+μ=ls.length)∧St [] w0 w []∧ε 0=.slice (some ⟨g,0,none⟩) ls.length ls.length∧ε 3=.int .i64 ((ls.take k).flatten.length:Nat)∧ε 9=.slice (some ⟨g,0,none⟩) ls.length ls.length∧ε 10=.int .i64 (ls.length:Nat)∧ε 11=.int .i64 (k:Nat)) (μ:=ls.length) ⟨Z,0,by omega,S,Z,Z,Z,Z,Z⟩ ?_);rintro μ D ε w ⟨rfl,k,_,S,e0,e3,e9,n0,o0⟩;refine q0a 0 e0 (q0a 3 e3 (q0a 9 e9 (q0a 10 n0 (q0a 11 o0 ?_))));clear e0 e3 e9 n0 o0;refine wB0 Z U (fun y0=>?_) fun y0=>?_
 ·have f0:k<ls.length:=by omega
  obtain⟨A,n,c,a0,hR⟩:=s0 k f0;obtain⟨hn,_⟩:=hR.at;have g0:=B6b ls k f0;have t0:=A9c ls hl (k+1) (by omega);have B0:(ls.take (k+1)).flatten.length=(ls.take k).flatten.length+n:=by rw[g0,List.length_append,hn]
  refine lO S.k [.i] Z ⟨by omega,U⟩ (B0a w5a Z (by first|exact S.old a0) Z ?_);refine lB0 Z ⟨by omega,U⟩ (fun z0=>by exfalso;omega) fun z0=>?_;refine lP0 Z ⟨by omega,U⟩ ⟨μ-1,by omega,Z,k+1,by omega,S,Z,?_,Z,Z,Z⟩;rw[B0];rfl
 refine lO0 Z U ?_;refine j0a S k7c Z Z (v9c _ (by have:=A9c ls hl k (by omega);omega) _) ?_;rintro D0 I0 C0 i0 F0;obtain⟨u0,j0,c0,i0⟩:=C0.open_ i0 S;refine C0a Z ?_;refine lC0 Z U (wL (fun μ D ε w=>D=[]∧∃k2:Nat,∃G:Option Nat,∃cs:List Value,∃v:Value,(k2+μ=ls.length)∧(t4a G 1 (ls.take k2).flatten.length cs v ((ls.take k2).flatten.map (Value.int .i64)))∧St [] w0 w [(G,3,cs)]∧ε 6=v∧ε 25=.slice (some ⟨g,0,none⟩) ls.length ls.length∧ε 26=.int .i64 (ls.length:Nat)∧ε 27=.int .i64 (k2:Nat)) (μ:=ls.length) ⟨Z,0,u0,j0,D0,by omega,by simpa using c0,i0,Z,Z,Z,Z⟩ ?_);rintro μ D ε w ⟨rfl,k2,G,cs,v,_,b0,S,e6,p0,q0,r0⟩;refine q0a 6 e6 (q0a 25 p0 (q0a 26 q0 (q0a 27 r0 ?_)));clear e6 p0 q0 r0;refine wB0 Z U (fun A0=>?_) fun A0=>?_
 ·have f0:k2<ls.length:=by omega
  obtain⟨A,n,c,a0,hR⟩:=s0 k2 f0;have g0:=B6b ls k2 f0;have t0:=A9c ls hl (k2+1) (by omega);rw[g0,List.length_append] at t0;refine lO S.k [.i] Z ⟨by omega,U⟩ (B0a w5a Z (by exact S.old a0) Z ?_);refine lOn 4 S.k [] Z U (I0a Z ?_);refine lO0 Z U (P4a (k:=0) S Y0a Z b0 Z Z (hR.keep (S.keep0 M)) (by omega) Z ?_);intro E0 v0 m0 J0 x0 d0 G0;refine C0a Z ?_;refine lP0 Z ⟨by omega,U⟩ ⟨μ-1,by omega,Z,k2+1,v0,m0,E0,by omega,?_,x0,Z,Z,Z,Z⟩;rw[g0];exact d0
 refine lOn 8 S.k [] Z U (I0a Z ?_);refine C0a Z ?_;refine lR0 Z U (s0a Z ?_);obtain rfl:k2=ls.length:=by omega
 rw[List.take_length] at b0;exact⟨⟨G,cs,b0,fun g hg=>by subst hg;exact⟨by have:=S.new 0 Z;simpa using this,S.blk 0 Z⟩⟩,S.nil.fin⟩
theorem j1b{w:World}{g el:Nat}{cs:List Value}{d:List Int}(hb:m0a w (g,el,cs))(hd:d.length≤cs.length:=by omega):
 m0a (putRow (Value.int .i64) w g 0 d.toArray) (g,el,d.map (Value.int .i64)++cs.drop d.length):=by
 have a0:w.heap[g]?=some (.cells cs.toArray el (0,0)):=hb;unfold m0a putRow mapBlock;simp only[Array.getElem?_modify,if_true,a0,Option.map_some,onCells]
 congr 2
 apply Array.ext
 ·simp[putCells];omega
 ·intro i h1 h2;simp only[putCells,Array.size_mapIdx,List.size_toArray] at h1;simp only[putCells,Array.getElem_mapIdx,List.getElem_toArray,Nat.zero_le,true_and,Nat.zero_add,List.size_toArray,Nat.sub_zero];by_cases hi:i<d.length
  ·rw[if_pos hi,List.getElem_append_left (by simpa using hi)];simp[hi]
  ·rw[if_neg hi,List.getElem_append_right (by simpa using hi)];simp
   congr 1
   omega
theorem x8a{w:World}{g q:Nat}{d:List Int}(os:Array Obj):D0a [g] w (grow (putRow (Value.int .i64) (Sort.ahead w q) g 0 d.toArray) os):=by
 refine⟨Z,Z,Z,?_,fun i hi hm=>?_⟩
 ·simp[grow,putRow,mapBlock,Sort.ahead]
 ·have a0:¬g=i:=fun h=>hm (by simp[h]);simp only[grow,putRow,mapBlock,Sort.ahead];rw[Array.getElem?_append_left (by simpa using hi),Array.getElem?_modify,if_neg a0]
theorem T3b{w:World}{g el:Nat}{cs:List Value}{zs:List Int}(hb:m0a w (g,el,cs))(hc:cs.take zs.length=zs.map (Value.int .i64)):Holds (Value.int .i64) w g 0 zs.toArray:=by
 intro j hj;have a0:j<zs.length:=by simpa using hj
 refine⟨?_,hb.frozen _⟩;rw[Nat.zero_add];refine hb.cell ?_;have h1:(cs.take zs.length)[j]?=some (.int .i64 zs[j]):=by rw[hc];simp[a0]
 rw[List.getElem?_take,if_pos a0] at h1;rw[h1];simp[a0]
def r3a(zs:List Int):List Int:=zs.mergeSort fun x y=>decide (x≤y)
theorem X9b(w:World)(g el b0:Nat)(cs:List Value)(zs:List Int)(hb:m0a w (g,el,cs))(hc:cs.take zs.length=zs.map (Value.int .i64))(hz:zs.length≤1000000)(hl:zs.length≤cs.length:=by omega):
 E0a prog 68 #[.slice (some ⟨g,0,none⟩) zs.length b0] w fun _ w'=>D0a [g] w w'∧m0a w' (g,el,(r3a zs).map (Value.int .i64)++cs.drop zs.length):=by
 refine Calls.mono (Tryz.slices_Sort_int g 0 b0 zs w (T3b hb hc) hb.lt (by omega)) ?_;rintro e w' ⟨rfl,n,os,rfl⟩;have a0:(r3a zs).length=zs.length:=by simp[r3a]
 refine⟨_,Z,x8a os,?_⟩;have c0:m0a (Sort.ahead w n) (g,el,cs):=hb;have:=j1b (d:=r3a zs) c0;rw[a0] at this;unfold m0a at this ⊢;rw[heap_grow_old _ os (by simpa[putRow,mapBlock,Sort.ahead] using hb.lt)];exact this
theorem v8b(w:World)(g el b0:Nat)(cs:List Value)(zs:List Int)(hb:m0a w (g,el,cs))(hc:cs.take zs.length=zs.map (Value.int .i64))(hl:zs.length≤cs.length)(hz:zs.length≤1000000)(c0:zs.length≤b0):
 E0a prog 70 #[.slice (some ⟨g,0,none⟩) zs.length b0] w fun v w'=>v=.slice (some ⟨g,0,none⟩) (Lib.compact zs).length b0∧D0a [g] w w' ∧
  m0a w' (g,el,(Lib.compact zs++List.replicate (zs.length-(Lib.compact zs).length) 0).map (Value.int .i64)++cs.drop zs.length):=by
 refine Calls.mono (Tryz.slices_Compact_int g 0 b0 zs w (T3b hb hc) (by omega) c0) ?_;rintro e w' ⟨rfl,n,rfl⟩;have g0:=Lib.compact_length_le zs;have d0:(Lib.compact zs++List.replicate (zs.length-(Lib.compact zs).length) 0).length=zs.length:=by simp;omega
 have e0:m0a (Sort.ahead w n) (g,el,cs):=hb;have:=j1b (d:=Lib.compact zs++List.replicate (zs.length-(Lib.compact zs).length) 0) e0;rw[d0] at this;have a0:=x8a (w:=w) (g:=g) (q:=n) (d:=Lib.compact zs++List.replicate (zs.length-(Lib.compact zs).length) 0) #[];have f0:∀W:World,grow W #[]=W:=fun W=>by simp[grow]
 rw[f0] at a0;exact⟨_,Z,Z,a0,this⟩
theorem X2c(w:World)(A:Option Addr)(a0 g el:Nat)(cs:List Value)(hb:m0a w (g,el,cs)):E0a prog 68 #[.slice A 0 a0] w fun _ w'=>D0a [g] w w'∧m0a w' (g,el,cs):=by
 refine Calls.mono (Tryz.slices_Sort_int_none A a0 w) ?_;rintro e w' ⟨rfl,rfl⟩;exact⟨_,Z,D0a.refl _ _,hb⟩
theorem U4a:∀(a b:List Int),a.Pairwise (·<·)→b.Pairwise (·<·)→(∀x,x∈a↔x∈b)→a=b
 | [],[],_,_,_=>rfl
 | [],y::b,_,_,h=>absurd ((h y).2 (by simp)) (by simp)
 | x::a,[],_,_,h=>absurd ((h x).1 (by simp)) (by simp)
 | x::a,y::b,ha,hb,h=>by
   rw[List.pairwise_cons] at ha hb;have a0:x=y:=by
    have h1:=(h x).1 (by simp);have h2:=(h y).2 (by simp);rcases List.mem_cons.1 h1 with h1|h1
    ·exact h1
    ·rcases List.mem_cons.1 h2 with h2|h2
     ·exact h2.symm
     ·have:=ha.1 y h2;have:=hb.1 x h1;omega
   subst a0;rw[U4a a b ha.2 hb.2 fun z=>?_];constructor
   ·intro hz;rcases List.mem_cons.1 ((h z).1 (by simp[hz])) with h3|h3
    ·have:=ha.1 z hz;omega
    ·exact h3
   ·intro hz;rcases List.mem_cons.1 ((h z).2 (by simp[hz])) with h3|h3
    ·have:=hb.1 z hz;omega
    ·exact h3
theorem Q1a.toV{M:List Nat}{w1:World}{G:Option Nat}{cs:List Value}{v:Value}{l:List Int}(h:Q1a (fun _ _=>M2c) 1 M w1 G cs v l):t4a G 1 l.length cs v (l.map (Value.int .i64)):=by
 obtain⟨css,h1,_,h3,h4⟩:=h;have e1:css.flatten=l.map (Value.int .i64):=by
  have key:∀(css:List (List Value)) (l:List Int),css.length=l.length→(∀(i:Nat) (x:Int),l[i]?=some x→∃c,css[i]?=some c∧M2c c x)→css.flatten=l.map (Value.int .i64):=by
   intro css
   induction css with
   | nil=>intro l hl _;cases l with
     | nil=>rfl
     | cons=>simp at hl
   | cons c css ih =>
     intro l hl hx;cases l with
     | nil=>simp at hl
     | cons x l =>
       obtain⟨_,hc,hr⟩:=hx 0 x Z;simp at hc;subst hc;rw[List.flatten_cons,hr.1,ih l (by simpa using hl) (fun i y hy=>by simpa using hx (i+1) y (by simpa using hy))];rfl
  exact key css l h1 h4
 rwa [e1] at h3
def z7a(p:o0a)(t k j:Nat)(x:Int):Prop:=(∃u th s,u<k∧u≠t∧p.threads[u]?=some th∧s∈th.steps∧s.module_=x)∨∃th s,p.threads[k]?=some th∧s∈th.steps.take j∧s.module_=x
theorem z7a.zero{p:o0a}{t:Nat}{x:Int}:¬z7a p t 0 0 x:=by
 rintro(⟨u,th,s,h,_⟩|⟨th,s,_,h,_⟩)
 ·omega
 ·simp at h
theorem z7a.step{p:o0a}{t k j:Nat}{th:k1a}{s:y2a}{x:Int}(h:p.threads[k]?=some th)(hs:th.steps[j]?=some s):z7a p t k (j+1) x↔z7a p t k j x∨x=s.module_:=by
 unfold z7a;rw[or_assoc];refine or_congr Iff.rfl ?_;constructor
 ·rintro⟨a0,s',h1,h2,h3⟩;rw[h] at h1;cases h1;rw[F0a hs] at h2;rcases List.mem_append.1 h2 with h2|h2
  ·exact .inl ⟨th,s',h,h2,h3⟩
  ·rw[List.mem_singleton.1 h2] at h3;exact .inr h3.symm
 ·rintro(⟨a0,s',h1,h2,h3⟩|h1)
  ·rw[h] at h1;cases h1;exact⟨th,s',h,by rw[F0a hs];exact List.mem_append_left _ h2,h3⟩
  ·exact⟨th,s,h,by rw[F0a hs];simp,h1.symm⟩
theorem z7a.next{p:o0a}{t k:Nat}{th:k1a}{x:Int}(h:p.threads[k]?=some th)(hk:k≠t):z7a p t (k+1) 0 x↔z7a p t k th.steps.length x:=by
 unfold z7a;constructor
 ·rintro(⟨u,a0,s,h1,h2,h3,h4⟩|⟨a0,s,_,h2,_⟩)
  ·by_cases hu:u=k
   ·subst hu;rw[h] at h3;cases h3;exact .inr ⟨th,s,h,by rw[List.take_length];exact h4⟩
   ·exact .inl ⟨u,a0,s,by omega,h2,h3,h4⟩
  ·simp at h2
 ·rintro(⟨u,a0,s,h1,h2⟩|⟨a0,s,h1,h2⟩)
  ·exact .inl ⟨u,a0,s,by omega,h2⟩
  ·rw[h] at h1;cases h1;rw[List.take_length] at h2;exact .inl ⟨k,th,s,by omega,hk,h,h2⟩
theorem z7a.skip{p:o0a}{t k:Nat}{x:Int}(hk:k=t):z7a p t (k+1) 0 x↔z7a p t k 0 x:=by
 unfold z7a;constructor
 ·rintro(⟨u,a0,s,h1,h2,h3⟩|⟨a0,s,_,h2,_⟩)
  ·exact .inl ⟨u,a0,s,by omega,h2,h3⟩
  ·simp at h2
 ·rintro(⟨u,a0,s,h1,h2⟩|⟨a0,s,h1,h2,_⟩)
  ·exact .inl ⟨u,a0,s,by omega,h2⟩
  ·simp at h2
def F2d(p:o0a)(t m:Nat):Bool:=(List.range p.threads.length).any fun u=>decide (u≠t)&&(q1b p u).any fun s=>decide (s.module_=m)
def s1a(p:o0a)(t:Nat):List Int:=((List.range p.modules.length).filter (F2d p t)).map Int.ofNat
theorem V9a{p:o0a}(hp:o1a p){t:Nat}{x:Int}:x∈s1a p t↔z7a p t p.threads.length 0 x:=by
 unfold s1a z7a;simp only[List.mem_map,List.mem_filter,List.mem_range];constructor
 ·rintro⟨_,⟨h1,h2⟩,rfl⟩;unfold F2d at h2;obtain⟨u,hu,h3⟩:=List.any_eq_true.1 h2;simp only[Bool.and_eq_true,decide_eq_true_eq] at h3;obtain⟨s,hs,h4⟩:=List.any_eq_true.1 h3.2;have b0:=List.mem_range.1 hu;have a0:p.threads[u]?=some p.threads[u]:=List.getElem?_eq_getElem b0;rw[Q9a a0] at hs;exact .inl ⟨u,_,s,b0,h3.1,a0,hs,by simpa using h4⟩
 ·rintro(⟨u,th,s,h1,h2,h3,h4,rfl⟩|⟨th,s,_,h2,_⟩)
  ·have hm:=((hp.thread h3).steps s h4).mod;unfold A2a at hm;refine⟨s.module_.toNat,⟨by omega,?_⟩,by simp;omega⟩;unfold F2d;refine List.any_eq_true.2 ⟨u,List.mem_range.2 h1,?_⟩;simp only[Bool.and_eq_true,decide_eq_true_eq];refine⟨h2,List.any_eq_true.2 ⟨s,by rw[Q9a h3];exact h4,?_⟩⟩;simp;omega
  ·simp at h2
theorem p8b(p:o0a)(t:Nat):(s1a p t).Pairwise (·<·):=by
 unfold s1a;rw[List.pairwise_map];exact(List.pairwise_lt_range.sublist List.filter_sublist).imp fun h=>Int.ofNat_lt.2 h
theorem I3b{p:o0a}(hp:o1a p){t:Nat}{l acc:List Int}(hl:∀x,x∈l↔z7a p t p.threads.length 0 x)(hn:l.Nodup)(a0:acc.Perm l):r3a acc=s1a p t:=by
 have hs:(r3a acc).Perm acc:=List.mergeSort_perm acc _;refine U4a _ _ ?_ (p8b p t) fun x=>?_
 ·have h1:(r3a acc).Pairwise fun x y=>decide (x≤y)=true:=List.pairwise_mergeSort (fun a b c h1 h2=>by simp at *;omega) (fun a b=>by simp;omega) acc;have h2:(r3a acc).Nodup:=(hs.trans a0).nodup_iff.2 hn;exact(h1.and h2).imp fun⟨h3,h4⟩=>by simp at h3;omega
 ·rw[V9a hp,←hl];exact(hs.trans a0).mem_iff
theorem W5a(p:o0a)(M:List Nat)(w0:World)(cs:List Value)(hI:InP p M w0 cs):
 E0a prog 52 #[.agg cs.toArray] w0 fun v w'=>v=.bool true∧Below w0.heap.size w0 w':=by
 obtain⟨_,_,_,_,_,_,_,_,_,_,_,_,rfl,_⟩:=hI.rd.open_;have S:=St.refl w0;refine a0a func52 Z ntmps52 Z ?_;refine wO0 Z U (p0a S Z ?_);intro g1 w1 S1 X1 G1;refine lO S1.k [.w 0] Z ⟨⟨Z,by rfl⟩,U⟩ (g0a S1 E9c Z Z (u0c p M _ _ (hI.keep (S1.keep0 M)).rd hI.ok (hI.keep (S1.keep0 M)).msk (hI.keep (S1.keep0 M)).lt) ?_);intro w8 S8 X8;refine lB0 Z U (fun a0=>?_) (fun a0=>by exfalso;omega);exact lT Z U Z ⟨Z,S8.fin⟩
theorem o1d(a b:Int)(h:Value.int .i64 a=.int .i64 b):a=b:=by injection h
theorem D9b(p:o0a)(t:Nat)(ht:t<1000)(M:List Nat)(w0:World)(cs:List Value)(hI:InP p M w0 cs):
 E0a prog 58 #[.agg cs.toArray,.int .i64 t] w0 fun v w'=>x4a 3 w0 w' v (s1a p t)∧Below w0.heap.size w0 w':=by
 obtain⟨Ac,nc,cc,Am,nm,cm,Al,nl,cl,At,nt,ct,rfl,_,_,_,D1,_⟩:=hI.rd.open_;have S:=(St.refl w0).nilEnt 3;have hM:=hI.lt;have hp:=hI.ok;have n2:=hp.nthreads;refine a0a func58 Z ntmps58 Z ?_;refine wO0 Z U (p0a S Z ?_);intro g2 w2 S2 X2 G2;refine lO0 Z U (X3a (k:=3) S2 Z ?_);intro n0 m2 f1 Z1 W1 C0;have P0:w0.heap.size≤n0:=by have:=S2.size;omega
 have Ms:=H0b.mk_ (enc:=Value.int .i64) C0;refine lC f1.k [.o 0] Z ⟨Z,U⟩ (wL (fun μk D ε w=>D=[]∧∃k:Nat,∃l:List Int,(k+μk=(p.threads.length))∧(H0b (Value.int .i64) w n0 l)∧(∀x,x∈l↔z7a p t k 0 x)∧(l.Nodup)∧(∀x∈l,i64 x)∧(l.length≤k*64)∧St [] w0 w [(some g2,27,[.slice Ac nc cc,.slice Am nm cm,.slice Al nl cl,.slice At nt ct]),(none,3,[])]∧Sl ε [(1,.int .i64 t),(5,.map (some n0)),(14,.slice At nt ct),(15,.int .i64 nt),(16,.int .i64 k)]) (μ:=(p.threads.length)) ⟨Z,0,[],by omega,Ms,fun x=>⟨fun h=>(by cases h),fun h=>absurd h z7a.zero⟩,List.nodup_nil,(by simp),by simp,f1,Z⟩ ?_);rintro μk D ε w ⟨rfl,k,l,_,Ms,hl,hn,T0,G1,S,eZ⟩;refine wK eZ (wB0 Z U (fun A1=>?_) fun A1=>?_)
 ·obtain⟨th,x1,M1,_,b0,K0,_,Q0,N0,W0⟩:=RdS.get (D1) (k) (by omega);obtain⟨y0,a1,H0,A0,c1,J0,p0,m0,t0,z0,b1,I0,rfl,_,_,_,u0,_⟩:=T0a.open_ W0;have f2:=(hp.thread b0).nsteps;refine lO (S.k.a N0) [.x x1 M1,.v 0] Z ⟨⟨Z,Q0⟩,⟨K0,by omega⟩,U⟩ (h0a S B0b Z Z ?_);intro g7 w7 S7 X7 G7;replace Ms:=Ms.keep X7 (List.not_mem_nil);refine lO0 Z U (c0a (kk:=0) (vs:=[_,_,_,_,_,_,_]) S7 x0b Z Z Z Z Z Z Z ?_);intro R1 a0 F0;dsimp only[f0a,List.set] at a0;replace Ms:=Ms.keep F0 (fun hh=>by rw[List.mem_singleton] at hh;exact Ms.ne (S7.blk 0 Z) hh);refine lB0 Z U (fun B1=>?_) fun B1=>?_
  ·refine lP0 Z ⟨by omega,U⟩ ⟨μk-1,by omega,Z,(k+1),?_,(by omega),?_,?_,?_,?_,?_,a0.tail,Z⟩;exact l
   ·exact Ms
   ·intro x;rw[hl,z7a.skip (by omega)]
   ·exact hn
   ·exact T0
   ·omega
  refine lC a0.k [.o 0] Z ⟨Z,U⟩ (wL (fun μj D ε w=>D=[]∧∃j:Nat,∃l2:List Int,(j+μj=(th.steps.length))∧(H0b (Value.int .i64) w n0 l2)∧(∀x,x∈l2↔z7a p t k j x)∧(l2.Nodup)∧(∀x∈l2,i64 x)∧(l2.length≤k*64+j)∧St [] w0 w [(some g7,64,[.string th.name,.int .i64 th.points,.slice y0 a1 H0,.slice A0 c1 J0,.slice p0 m0 t0,.slice z0 b1 I0,.bool th.asleep]),(some g2,27,[.slice Ac nc cc,.slice Am nm cm,.slice Al nl cl,.slice At nt ct]),(none,3,[])]∧Sl ε [(1,.int .i64 t),(5,.map (some n0)),(14,.slice At nt ct),(15,.int .i64 nt),(16,.int .i64 k),(25,.slice p0 m0 t0),(26,.int .i64 m0),(27,.int .i64 j)]) (μ:=(th.steps.length)) ⟨Z,0,l,by omega,Ms,hl,hn,T0,G1,a0,Z⟩ ?_);rintro μj D ε w ⟨rfl,j,l2,_,d0,j1,m1,i0,_,S,eZ⟩;refine wK eZ (wB0 Z U (fun C1=>?_) fun C1=>?_)
  ·obtain⟨s,y1,N1,_,Y0,L0,_,R0,O0,X0⟩:=RdS.get (u0) (j) (by omega);obtain⟨_,_,_,_,_,_,rfl,⟨_,_,_,_,Z0⟩,_⟩:=Y1a.open_ X0;have I1:=((hp.thread b0).steps s (d0a Y0)).mod;have h2:s∈th.steps:=d0a Y0;have o1:=Z0;refine lO (S.k.a O0) [.x y1 N1,.v 0] Z ⟨⟨Z,R0⟩,⟨L0,by omega⟩,U⟩ (h0a S Z8c Z Z ?_);intro g9 w9 S9 X9 G9;replace d0:=d0.keep X9 (List.not_mem_nil);refine c0a (kk:=0) (vs:=[_,_,_,_,_,_,_,_,_,_,_]) S9 V6c Z Z Z Z Z Z Z ?_;intro T1 f0 G0;dsimp only[f0a,List.set] at f0;replace d0:=d0.keep G0 (fun hh=>by rw[List.mem_singleton] at hh;exact d0.ne (S9.blk 0 Z) hh);refine lO f0.k [.o 0] Z ⟨Z,U⟩ (b0c (k:=3) f0 (Go.Maps.int_keyed Tryz.underlying3) Tryz.underlying163 o1d (fun a ha=>⟨_,g7b (i0 a ha)⟩) ⟨_,g7b o1⟩ d0 Z Z Z (.inl P0) ?_);intro U1 E0 w1 r1;refine lP0 Z ⟨by omega,U⟩ ⟨μj-1,by omega,Z,(j+1),(_),(by omega),(r1),?_,(e1b m1),?_,?_,E0.tail,Z⟩
   ·intro x;rw[b9a,j1,z7a.step b0 Y0]
   ·intro x hx;rcases b9a.1 hx with h|h;exact i0 x h;subst h;exact o1
   ·exact Nat.le_trans M6b (by omega)
  refine lP0 Z ⟨by omega,U⟩ ⟨μk-1,by omega,Z,(k+1),?_,(by omega),?_,?_,?_,?_,?_,S.tail,Z⟩;exact l2
  ·exact d0
  ·intro x;rw[j1,z7a.next b0 (by omega),show j=th.steps.length by omega]
  ·exact m1
  ·exact i0
  ·omega
 refine lOn 8 S.k [] Z U (C0a Z ?_);refine lO0 Z U (L7b S Tryz.underlying163 Ms Z Z ?_);intro d1 o2 s1 a2 p1 It;have V0:w0.heap.size≤d1:=Nat.le_trans S.size p1;refine lC0 Z U (wL (fun μ D ε w=>D=[]∧∃G:Option Nat,∃s0:List Value,∃v:Value,∃acc:List Int,∃c0:List Int,∃i1:Option Int,(c0.length=μ)∧(Q6a (Value.int .i64) w n0 d1 c0 i1)∧((acc++c0).Perm l)∧(Q1a R7c 1 [] w0 G s0 v acc)∧St [] w0 w [(some g2,27,[.slice Ac nc cc,.slice Am nm cm,.slice Al nl cl,.slice At nt ct]),(G,3,s0)]∧Sl ε [(10,v),(37,.pointer (some ⟨d1,0,none⟩))]) (μ:=l.length) ⟨Z,none,[],.slice none 0 0,[],l,none,Z,It,List.Perm.refl _,Q1a.nil,s1,Z⟩ ?_);rintro μ D ε w ⟨rfl,G,s0,v,acc,c0,i1,_,It,o0,v0,S,eZ⟩;refine wK eZ (wO0 Z U ?_);refine R9b S It (.inl V0) Z Z (fun hz=>?_) (fun a x0 i2 P1 U0 D0 b2 q0=>?_)
 ·have hs:=I3b hp (t:=t) (l:=l) (acc:=acc) (fun x=>by rw[hl];rw[show k=p.threads.length by omega]) hn (by rw[hz,List.append_nil] at o0;exact o0);have K1:=v0.toV;have J1:=o0.length_eq;rw[List.length_append] at J1;have n1:(r3a acc).length=acc.length:=by simp[r3a]
  refine lOn 9 S.k [] Z U ?_;rcases K1 with⟨e2,⟨rfl,rfl,S0⟩|⟨g9,r0,rfl,rfl,q1,q2,q3,q4⟩⟩;all_goals refine I0a Z ?_
  ·refine J1a S0c Z Z (X2c _ none 0 g2 _ _ (S.blk 0 Z)) ?_;rintro O1 Q1 ⟨B0,g0⟩;have e0:=S.changed1 0 Z B0 g0;refine lOn 4 e0.k [] Z U (I0a Z ?_);refine C0a Z ?_;refine lR0 Z U (s0a Z ?_);have ha:acc=[]:=List.length_eq_zero_iff.1 S0;rw[←hs,ha];exact⟨⟨none,[],by simpa[r3a] using t4a.nil 1,fun g hg=>by cases hg⟩,e0.fin⟩
  refine J1a S0c Z Z (X9b _ g9 _ r0 s0 acc (S.blk 1 Z) (by simpa using q4) (by omega)) ?_;rintro O1 Q1 ⟨B0,g0⟩;have e0:=S.changed1 1 Z B0 g0;refine lOn 4 e0.k [] Z U (I0a Z ?_);refine C0a Z ?_;refine lR0 Z U (s0a Z ?_);rw[←hs];refine⟨⟨some g9,(r3a acc).map (Value.int .i64)++s0.drop acc.length,⟨by simp,.inr ⟨g9,r0,Z,by rw[n1],by omega,q2,?_,?_⟩⟩,fun g hg=>?_⟩,e0.fin⟩
  ·rw[List.length_append,List.length_map,List.length_drop,n1];omega
  ·rw[Nat.mul_one];exact List.take_left' (by simp)
  ·cases hg;exact⟨by simpa using e0.new 1 Z,e0.blk 1 Z⟩
 refine lO0 Z U ?_;have H1:=o0.length_eq;rw[List.length_append] at H1;have E1:=U0.length_eq;rw[List.length_cons] at E1;have F1:i64 a:=T0 a (o0.subset (List.mem_append_right _ (U0.symm.subset (by simp))));refine h7b q0 Z Z (fun j2=>?_);have KI:=u0a.refl G.toList P1;refine lOn 5 D0.k [] Z U (I0a Z ?_);refine lO0 Z U (k0a D0 Y0a (vs:=[.int .i64 _]) (cs:=[_]) Z Z Z Z Z Z ?_);intro d2 p2 g1 u1 X1;replace KI:=KI.trans (u1.of_nil);refine u1a b5a (k:=2) (M2:=[]) (e1:=a) g1 Y0a Z v0 Z Z (g1.cells 0 Z) ⟨Z,F1⟩ (by omega) Z ?_;intro v45 Y1 z1 r2 t1 j0 v1 V1;refine C0a Z ?_;refine lP0 Z U ⟨μ-1,by omega,Z,(_),(_),(_),(acc++[a]),(x0),(some a),?_,?_,?_,?_,t1.tail,Z⟩
 ·omega
 ·exact q0.keepC (KI.trans v1) (D0.optBlk 1 Z)
 ·rw[List.append_assoc];exact(U0.symm.append_left acc).trans o0
 ·exact j0
theorem E6c{op unit:Int}{l:List E}(h:∀e∈l,e.w=1):(g3a op unit l).w=1:=by
 cases l with
 | nil=>rfl
 | cons e es =>
   have key:∀(es:List E) (acc:E),acc.w=1→(es.foldl (jnE op) acc).w=1:=by
    intro es
    induction es with
    | nil=>intro acc h;exact h
    | cons x xs ih=>intro acc _;exact ih _ Z
   exact key es e (h e (by simp))
theorem h5a{op unit:Int}(hu:unit=0∨unit=1)(l:List E):F2a op unit l=zE∨((F2a op unit l).wf=true∧(F2a op unit l).w=1):=by
 unfold F2a
 split
 ·rename_i h
  split
  ·right;rcases hu with rfl|rfl
   ·exact⟨by decide,Z⟩
   ·exact⟨by decide,Z⟩
  ·split
   ·rename_i hw;exact .inr ⟨hw,E6c fun e he=>(u6a (List.all_eq_true.1 h e (List.mem_filter.1 he).1)).1⟩
   ·exact .inl Z
 ·exact .inl Z
theorem Z0d{e:E}(h:e.wf=true):1≤e.op∧e.op≤14:=by
 have:=P3a (B2a (k5a h)).1;omega
theorem Z7b{op unit:Int}(hu:unit=0∨unit=1){l:List E}(h:(F2a op unit l).op=0):F2a op unit l=zE:=by
 rcases h5a (op:=op) hu l with h1|⟨h1,_⟩
 ·exact h1
 ·have:=Z0d h1;omega
theorem G2c:B3a zE=false:=by decide
theorem q4c{p:o0a}{m:Int}(h:(b3a p m).op=0):b3a p m=zE:=Z7b (.inr Z) h
def h6a(p:o0a)(t:Nat):E:=F2a 6 0 ((s1a p t).map (b3a p))
def onE(p:o0a)(t:Nat):E:=F2a 5 1 (h6a p t::(ofL p t).map (F3a p))
theorem N1b{p:o0a}{t:Nat}(h:h6a p t=zE):onE p t=zE:=M4a (e:=zE) (by rw[h];simp) G2c
theorem A3b{p:o0a}{t:Nat}{m:Int}(hm:m∈s1a p t)(h:b3a p m=zE):h6a p t=zE:=M4a (e:=zE) (List.mem_map.2 ⟨m,hm,h⟩) G2c
theorem G6a(p:o0a)(t:Nat):(s1a p t).length≤p.modules.length:=by
 unfold s1a;rw[List.length_map];exact Nat.le_trans (List.length_filter_le _ _) (by simp)
theorem V7a{p:o0a}{t:Nat}{x:Int}(h:x∈s1a p t):0≤x∧x<p.modules.length:=by
 unfold s1a at h;obtain⟨m,hm,rfl⟩:=List.mem_map.1 h;have:=List.mem_range.1 (List.mem_filter.1 hm).1;exact⟨Int.natCast_nonneg m,Int.ofNat_lt.2 this⟩
theorem d6a(p:o0a)(m:Nat)(md:j1a)(b0:p.modules[m]?=some md)(M:List Nat)(w0:World)(cs:List Value)(hI:InP p M w0 cs):
 E0a prog 16 #[.agg cs.toArray,.int .i64 m] w0 fun v w'=>(∃cs:List Value,v=.agg cs.toArray∧RdE M w' (b3a p m) cs)∧Below w0.heap.size w0 w':=by
 obtain⟨_,_,_,_,_,_,_,_,_,_,_,_,rfl,_⟩:=hI.rd.open_;have S:=St.refl w0;have hM:=hI.lt;have n0:=q0b b0;refine a0a func16 Z ntmps16 Z ?_;refine wO0 Z U (p0a S Z ?_);intro g2 w2 S2 X2 G2;refine h0a S2 R1a Z Z ?_;intro g4 w4 S4 X4 G4;refine lB0 Z U (fun h6=>by exfalso;omega) fun h6=>?_;refine lB S4.k [.o 1] Z ⟨Z,U⟩ (fun g0=>by exfalso;omega) fun g0=>?_;refine lO S4.k [.w 1] Z ⟨⟨Z,Z⟩,U⟩ (g0a S4 Y7b Z Z (W5a p M _ _ (hI.keep (S4.keep0 M))) ?_);intro o0 d0 j0;refine lO d0.k [.w 1] Z ⟨⟨Z,Z⟩,U⟩ (j0a d0 D5c Z Z (L4b p m md b0 (g4::M) _ _ (hI.add d0 (k:=0) Z)) ?_);rintro v22 p0 ⟨_,rfl,c0⟩ f0 m0;obtain⟨_,_,_,rfl,-⟩:=c0.open_;refine c0a (kk:=0) (vs:=[_,_,_,_]) f0 i1a Z Z Z Z Z Z Z ?_;intro i0 a0 e0;dsimp only[f0a,List.set] at a0;replace c0:=RdE.keep (e0.mono (by simp)) _ _ c0;exact lR0 Z U (w0a Z G0a Z (a0.cells 0 Z) Z ⟨⟨_,Z,RdE.less (fun x hx=>List.mem_cons_of_mem _ hx) _ _ c0⟩,a0.fin⟩)
theorem D6c(p:o0a)(t:Nat)(M:List Nat)(w0:World)(cs:List Value)(hI:InP p M w0 cs)(ht:t<p.threads.length:=by decide):
 E0a prog 18 #[.agg cs.toArray,.int .i64 t] w0 fun v w'=>(∃cs:List Value,v=.agg cs.toArray∧RdE M w' (onE p t) cs)∧Below w0.heap.size w0 w':=by
 obtain⟨Ac,nc,cc,Am,nm,cm,Al,nl,cl,At,nt,ct,rfl,_⟩:=hI.rd.open_;have S:=(St.refl w0).nilEnt 37;have hM:=hI.lt;have hp:=hI.ok;have n1:=hp.ncells;have n2:=hp.nthreads;have n3:=hp.nmodules;have z2:=G6a p t;have t2:(ofL p t).length≤32:=Nat.le_trans (Z2a p t _) n1;refine a0a func18 Z ntmps18 Z ?_;refine wO0 Z U (p0a S Z ?_);intro g2 w2 S2 X2 G2;refine h0a S2 R1a Z Z ?_;intro g4 w4 S4 X4 G4;refine lB0 Z U (fun T1=>by exfalso;omega) fun T1=>?_;refine lB S4.k [.o 1] Z ⟨Z,U⟩ (fun U1=>by exfalso;omega) fun U1=>?_;refine lO S4.k [.w 1] Z ⟨⟨Z,Z⟩,U⟩ (g0a S4 Y7b Z Z (W5a p M _ _ (hI.keep (S4.keep0 M))) ?_);intro H2 t0 o2;refine lOn 9 t0.k [] Z U (C0a Z ?_);refine lO t0.k [.w 1] Z ⟨⟨Z,Z⟩,U⟩ ?_;refine j0a t0 a2d Z Z (Q6b (M:=g4::M) (D9b p t (by omega) M _ _ (hI.keep (t0.keep0 M))) (m7a t0 0 Z hM) (fun x hx=>by have:=V7a hx;unfold i64;omega)) ?_;rintro A2 W0 P0 Y0 p2;obtain⟨Ao,no,co,rfl⟩:=P0.form;have x2:=P0.len.1;have KS:=u0a.refl [] W0;have ZS:=Y0.size;refine lC0 Z U (wL (fun μk D ε w=>D=[]∧∃k:Nat,∃G:Option Nat,∃cs2:List Value,∃v:Value,(k+μk=((s1a p t).length))∧(k1b (g4::M) w G cs2 v (((s1a p t).take k).map (b3a p)))∧(∀g∈G.toList,W0.heap.size≤g∨g∈([]:List Nat))∧(u0a [] W0 w)∧St [] w0 w [(some g4,37,[.int .i64 0,.int .i64 0,.int .i64 0,.slice none 0 0]),(some g2,27,[.slice Ac nc cc,.slice Am nm cm,.slice Al nl cl,.slice At nt ct]),(G,37,cs2)]∧Sl ε [(1,.int .i64 t),(2,.pointer (some ⟨g2,0,none⟩)),(4,.pointer (some ⟨g4,0,none⟩)),(5,v),(30,.slice Ao no co),(31,.int .i64 no),(32,.int .i64 k)]) (μ:=((s1a p t).length)) ⟨Z,0,none,[],.slice none 0 0,by omega,k1b.nil,by simp,KS,Y0,Z⟩ ?_);rintro μk D ε w ⟨rfl,k,G,cs2,v,_,x0,m1,KS,S,eZ⟩;refine wK eZ ?_;have KQ:=u0a.refl (G.toList++g4::M) w;refine wB0 Z U (fun V1=>?_) fun V1=>?_
 ·obtain⟨m,N1,Y1,_,T0,I0,_,_,N0,Q0⟩:=RdS.get (P0.keep KS.of_nil) (k) (by omega);obtain⟨rfl,_⟩:=id Q0;have u2:=V7a (d0a T0);obtain⟨md,U0⟩:∃md,p.modules[m.toNat]?=some md:=⟨_,List.getElem?_eq_getElem (by omega)⟩;refine lO (S.k.b N0) [.x N1 Y1,.f 0 0,.w 1] Z ⟨⟨Z,Z⟩,Z,⟨I0,by omega⟩,U⟩ (j0a S D5c Z Z ((show((m.toNat:Nat):Int)=m by omega)▸L4b p m.toNat md U0 (G.toList++g4::M) _ _ ⟨(hI.rd.more (fun x hx=>e4a S x (n3b 2 Z (k3b 0 Z) x hx))).keep (S.keep0 _),hp,(hI.msk.more (fun x hx=>e4a S x (n3b 2 Z (k3b 0 Z) x hx))).keep (S.keep0 _),fun x hx=>j7a S hM x (n3b 2 Z (k3b 0 Z) x hx)⟩) ?_);rintro B2 b2 ⟨_,rfl,p1⟩ y1 c1;replace KS:=KS.trans (c1.of_nil);replace KQ:=KQ.trans (c1.of_nil);obtain⟨_,_,_,rfl,-⟩:=p1.open_;have KR:=u0a.refl (G.toList++g4::M) b2;refine h0a y1 R1a Z Z ?_;intro g8 w8 S8 X8 G8;have D0:=Nat.le_trans KS.size G8;have B0:=Nat.le_trans KQ.size G8;have C0:=Nat.le_trans KR.size G8;replace KS:=KS.trans (X8.of_nil);replace KQ:=KQ.trans (X8.of_nil);replace KR:=KR.trans (X8.of_nil);refine c0a (kk:=0) (vs:=[_,_,_,_]) S8 i1a Z Z Z Z Z Z Z ?_;intro e2 e0 p0;dsimp only[f0a,List.set] at e0;replace KS:=KS.fresh2 p0 (by exact .inl D0);replace KQ:=KQ.fresh2 p0 (by exact .inl B0);replace KR:=KR.fresh2 p0 (by exact .inl C0);refine lB e0.k [.o 0] Z ⟨Z,U⟩ (fun g1=>?_) fun g1=>?_
  ·refine lO0 Z U (H0a W1a (vs:=[]) (cs:=[_,_,_,_]) Z Z Z Z ?_);refine c0a (kk:=1) (vs:=[_,_,_,_]) e0 i1a Z Z Z Z Z Z Z ?_;intro f2 o0 J1;dsimp only[f0a,List.set] at o0;refine lR0 Z U ?_;exact w0a Z G0a Z (o0.cells 1 Z) Z ⟨⟨_,Z,by rw[N1b (A3b (d0a T0) (q4c g1))];exact f1a (by unfold i64;omega) (by unfold i64;omega) (by unfold i64;omega)⟩,o0.fin⟩
  refine lOn 6 e0.k [] Z U (I0a Z ?_);refine lO e0.k [.w 0] Z ⟨⟨Z,by rfl⟩,U⟩ (k0a e0 O0a (vs:=[.agg _]) (cs:=[_,_,_,_]) Z Z Z Z Z Z ?_);intro r2 I2 Z0 F0 h2;replace KS:=KS.trans (F0.of_nil);replace KQ:=KQ.trans (F0.of_nil);replace KR:=KR.trans (F0.of_nil);have b0:=x0.keep KQ;refine u1a j3a (k:=4) (M2:=g4::M) (e1:=b3a p m) Z0 O0a Z b0 Z Z (Z0.cells 0 Z) (RdE.keep KR _ _ p1) (by simp;omega) Z ?_;intro v46 i2 Q1 J2 z1 b0 F1 v1;have K1:=KS.size;replace KS:=KS.freshL F1 m1;refine C0a Z ?_;refine lP0 Z ⟨by omega,U⟩ ⟨μk-1,by omega,Z,(k+1),(_),(_),(_),(by omega),?_,?_,(KS),z1.tail.tail,Z⟩
  ·rw[F0a T0,List.map_append];exact b0
  ·intro g hg;rcases v1 g hg with h|h;exact m1 g h;exact .inl (Nat.le_trans K1 h)
 refine lOn 8 S.k [] Z U (I0a Z ?_);have K0:RdL (g4::M) w v ((s1a p t).map (b3a p)):=by
  have hr:=x0;rw[List.take_of_length_le (by omega)] at hr;exact hr.rdL S (k:=2) Z (fun g hg hh=>by
   subst hg;rcases List.mem_cons.1 hh with hh|hh
   ·exact S.ne 0 2 Z Z (by omega) hh.symm
   ·exact J5a S (k:=2) Z hM hh) (by simp;omega)
 refine j0a S b1d Z Z (t1d ((s1a p t).map (b3a p)) (g4::M) _ _ K0 (m7a S 0 Z hM) ((hI.msk.more (E3a S (k:=0) Z)).keep (S.keep0 _))) ?_;rintro C2 d2 ⟨_,rfl,q1⟩ A1 G1;replace KS:=KS.trans (G1.of_nil);obtain⟨u1,X1,a2,rfl,-⟩:=q1.open_;have i0:=u0a.refl (g4::M) d2;refine h0a A1 R1a Z Z ?_;intro g9 w9 S9 X9 G9;have E0:=Nat.le_trans KS.size G9;have r0:=Nat.le_trans i0.size G9;replace KS:=KS.trans (X9.of_nil);replace i0:=i0.trans (X9.of_nil);refine c0a (kk:=0) (vs:=[_,_,_,_]) S9 i1a Z Z Z Z Z Z Z ?_;intro r1 a0 j0;dsimp only[f0a,List.set] at a0;replace KS:=KS.fresh2 j0 (by exact .inl E0);replace i0:=i0.fresh2 j0 (by exact .inl r0);refine lB a0.k [.o 0] Z ⟨Z,U⟩ (fun i1=>?_) fun i1=>?_
 ·refine lO0 Z U (H0a W1a (vs:=[]) (cs:=[_,_,_,_]) Z Z Z Z ?_);refine c0a (kk:=1) (vs:=[_,_,_,_]) a0 i1a Z Z Z Z Z Z Z ?_;intro s1 f0 b1;dsimp only[f0a,List.set] at f0;refine lR0 Z U ?_;exact w0a Z G0a Z (f0.cells 1 Z) Z ⟨⟨_,Z,by rw[N1b (Z7b (.inl rfl) i1)];exact f1a (by unfold i64;omega) (by unfold i64;omega) (by unfold i64;omega)⟩,f0.fin⟩
 refine lO a0.k [.w 0] Z ⟨⟨Z,Z⟩,U⟩ (k0a a0 O0a (vs:=[.agg _]) (cs:=[_,_,_,_]) Z Z Z Z Z Z ?_);intro q0 K2 y0 d1 x1;have n0:=Nat.le_trans i0.size x1;replace KS:=KS.trans (d1.of_nil);replace i0:=i0.trans (d1.of_nil);refine C0a Z ?_;have c0:=f9a (q1.addKeep i0 n0);refine lO y0.k [.w 3] Z ⟨⟨Z,Z⟩,U⟩ ?_;refine j0a y0 Y1d Z Z (Q6b (M:=q0::g4::M) (U5b p t M _ _ (hI.rd.keep (y0.keep0 M)) n1 (by omega)) (fun x hx=>j7a y0 hM x (n3b (G:=some q0) 0 Z (k3b 2 Z) x hx)) (fun x hx=>by have:=i4a.1 hx;unfold i64;omega)) ?_;rintro D2 X0 S0 B1 H1;obtain⟨As,ns,P1,rfl⟩:=S0.form;have y2:=S0.len.1;have KS:=u0a.refl [q0] X0;replace c0:=k1b.keep c0 H1.of_nil;refine lC0 Z U (wL (fun μj D ε w=>D=[]∧∃j:Nat,∃G2:Option Nat,∃H0:List Value,∃v2:Value,(j+μj=((ofL p t).length))∧(k1b (g4::M) w G2 H0 v2 (h6a p t::((ofL p t).take j).map (F3a p)))∧(∀g∈G2.toList,X0.heap.size≤g∨g∈[q0])∧(u0a [q0] X0 w)∧St [] w0 w [(G2,37,H0),(some g9,37,[.int .i64 (h6a p t).op,.int .i64 (h6a p t).w,.int .i64 (h6a p t).n,.slice u1 X1 a2]),(some g4,37,[.int .i64 0,.int .i64 0,.int .i64 0,.slice none 0 0]),(some g2,27,[.slice Ac nc cc,.slice Am nm cm,.slice Al nl cl,.slice At nt ct]),(G,37,cs2)]∧Sl ε [(2,.pointer (some ⟨g2,0,none⟩)),(4,.pointer (some ⟨g4,0,none⟩)),(10,v2),(58,.slice As ns P1),(59,.int .i64 ns),(60,.int .i64 j)]) (μ:=((ofL p t).length)) ⟨Z,0,some q0,_,_,by omega,c0,by simp,KS,B1,Z⟩ ?_);rintro μj D ε w ⟨rfl,j,G2,H0,v2,_,m0,v0,KS,S,eZ⟩;refine wK eZ ?_;have s0:=u0a.refl (G2.toList++g4::M) w;refine wB0 Z U (fun W1=>?_) fun W1=>?_
 ·obtain⟨c,O1,Z1,_,o1,J0,_,_,O0,R0⟩:=RdS.get (S0.keep (KS.mono (by simp))) (j) (by omega);obtain⟨rfl,V0⟩:=id R0;have j1:=i4a.1 (d0a o1);refine lOn 16 (S.k.b O0) [.x O1 Z1,.f 0 0] Z ⟨Z,⟨J0,by omega⟩,U⟩ (I0a Z ?_);refine lO S.k [.w 3] Z ⟨⟨Z,Z⟩,U⟩ (j0a S x5c Z Z (J8a p c j1.1 j1.2.1 (G2.toList++g4::M) _ _ ((hI.rd.more (fun x hx=>e4a S x (n3b 0 Z (k3b 2 Z) x hx))).keep (S.keep0 _)) (fun x hx=>j7a S hM x (n3b 0 Z (k3b 2 Z) x hx)) V0) ?_);rintro E2 L2 ⟨_,rfl,z0⟩ C1 f1;replace KS:=KS.trans (f1.of_nil);replace s0:=s0.trans (f1.of_nil);obtain⟨_,_,_,rfl,-⟩:=z0.open_;refine k0a C1 O0a (vs:=[.agg _]) (cs:=[_,_,_,_]) Z Z Z Z Z Z ?_;intro s2 N2 a1 G0 j2;replace z0:=RdE.keep (G0.of_nil) _ _ z0;replace KS:=KS.trans (G0.of_nil);replace s0:=s0.trans (G0.of_nil);have d0:=m0.keep s0;refine u1a j3a (k:=1) (M2:=g4::M) (e1:=F3a p c) a1 O0a Z d0 Z Z (a1.cells 0 Z) z0 (by simp;omega) Z ?_;intro F2 m2 R1 O2 D1 d0 I1 w1;have M1:=KS.size;replace KS:=KS.freshL I1 v0;refine C0a Z ?_;refine lP0 Z ⟨by omega,U⟩ ⟨μj-1,by omega,Z,(j+1),(_),(_),(_),(by omega),?_,?_,(KS),D1.tail,Z⟩
  ·rw[F0a o1,List.map_append];exact d0
  ·intro g hg;rcases w1 g hg with h|h;exact v0 g h;exact .inl (Nat.le_trans M1 h)
 refine lOn 8 S.k [] Z U (I0a Z ?_);have L0:RdL (g4::M) w v2 (h6a p t::(ofL p t).map (F3a p)):=by
  have hr:=m0;rw[List.take_of_length_le (by omega)] at hr;exact hr.rdL S (k:=0) Z (fun g hg hh=>by
   subst hg;rcases List.mem_cons.1 hh with hh|hh
   ·exact S.ne 0 2 Z Z (by omega) hh
   ·exact J5a S (k:=0) Z hM hh) (by simp;omega)
 refine j0a S B5c Z Z (M9b (h6a p t::(ofL p t).map (F3a p)) (g4::M) _ _ L0 (m7a S 2 Z hM) ((hI.msk.more (E3a S (k:=2) Z)).keep (S.keep0 _))) ?_;rintro v72 P2 ⟨_,rfl,A0⟩ E1 q2;obtain⟨_,_,_,rfl,-⟩:=A0.open_;refine c0a (kk:=2) (vs:=[_,_,_,_]) E1 i1a Z Z Z Z Z Z Z ?_;intro t1 g0 u0;dsimp only[f0a,List.set] at g0;replace A0:=RdE.keep (u0.mono (by simp)) _ _ A0;exact lR0 Z U (w0a Z G0a Z (g0.cells 2 Z) Z ⟨⟨_,Z,RdE.less (fun x hx=>List.mem_cons_of_mem _ hx) _ _ A0⟩,g0.fin⟩)
theorem q6c{w w':World}(h:Below w.heap.size w w')(hd:w.drawn≤w'.drawn):∃q os,w'=grow (w.drewN q) os:=by
 refine⟨w'.drawn-w.drawn,w'.heap.extract w.heap.size w'.heap.size,?_⟩;obtain⟨h1,h2,h3,_,h5⟩:=h;cases w;cases w';simp only[grow,World.drewN] at *;subst h1 h2 h3
 congr 1
 ·apply Array.ext_getElem?;intro i;rw[Array.getElem?_append]
  split
  ·rename_i h;exact h5 i h
  ·rename_i h;rw[Array.getElem?_extract]
   split
   ·congr 1;omega
   ·rw[Array.getElem?_eq_none (by omega)]
 ·omega
section
variable {P:Program} {r:Option Nat} {N:Nat} {D:List Deferred} {e:Env} {w w0:World} {ops:Array Oper} {rest:List Oper} {K:List Deferred→Env→World→Prop} {L:List Ent} {M:List Nat}
variable {d:Nat} {t:TypeId} {p:String} {af:Array Edge} {x y:Operand}
theorem O5c{el:TypeId}{x:Operand}{cs:List Value}(S:St M w0 w L)(hd:Nat.ble (d+1) N=true)
 (h:∀g w1,St M w0 w1 ((some g,el,cs)::L)→u0a [] w w1→w1.drawn=w.drawn→WL P r N ops rest K D (upd e d (.pointer (some ⟨g,0,none⟩))) w1) (hv:ev e x=.agg cs.toArray:=by conv=>lhs;whnf) :
 WL P r N ops (⟨some d,.box el x,t,p,af,none⟩::rest) K D e w:=by
 refine P0a (v:=.pointer (some ⟨w.heap.size,0,none⟩)) (w':=w.alloc (.cells cs.toArray el)) Z Z hd ?_ (h _ _ (S.alloc el cs) (B1a _ _ _) Z);simp[execOp,Instr.box,newVar,newRow,hv,Value.cells]
theorem o2b{ty el size b0 n:Nat}{z:Value}{a0:Array (Nat×Operand)}{vs:List Value}{cs:List Value}(S:St M w0 w L)(hS:SlZ P ty el size z b0)
 (e0:a0.toList.map (fun q=>(q.1,ev e q.2))=(vs.zipIdx 0).map fun q=>(q.2,q.1)) (hn:vs.length=n) (h0:Nat.ble 1 n=true) (hbig:Nat.ble (n*size) 16777216=true) (hv:vs.map (·.cells.size)=List.replicate n size)
 (d0:vs.flatMap (·.cells.toList)=cs) (hd:Nat.ble (d+1) N=true)
 (h:∀g w1,St M w0 w1 ((some g,el,cs)::L)→u0a [] w w1→w1.drawn=w.drawn→WL P r N ops rest K D (upd e d (.slice (some ⟨g,0,none⟩) n n)) w1) :
 WL P r N ops (⟨some d,.buildSlice ty n a0,t,p,af,none⟩::rest) K D e w:=by
 have hp:(a0.map fun(i,x)=>(i,ev e x))=((vs.zipIdx 0).map fun q=>(q.2,q.1)).toArray:=by rw[←e0];apply Array.ext';simp
 have hv':∀v∈vs,v.cells.size=size:=fun v hm=>by
  have:v.cells.size∈vs.map (·.cells.size):=List.mem_map.2 ⟨v,hm,Z⟩;rw[hv] at this;exact(List.mem_replicate.1 this).2
 have c0:=F4a hS hn (Nat.le_of_ble_eq_true h0) (Nat.le_of_ble_eq_true hbig) hv' w;subst d0;refine P0a (v:=.slice (some ⟨w.heap.size,0,none⟩) n n) (w':=w.alloc (.cells (vs.flatMap (·.cells.toList)).toArray el)) Z Z hd ?_ (h _ _ (S.alloc el _) (B1a _ _ _) Z);simp only[execOp,hp,Sem.run_bind,c0,Result.andThen_ok,Sem.run_pure]
end
def j5c(a b:Int×Int):Int:=if Lib.compareInt a.1 b.1=0 then Lib.compareInt a.2 b.2 else Lib.compareInt a.1 b.1
def pc(a:Int×Int):List Value:=[.int .i64 a.1,.int .i64 a.2]
def pcs(l:List (Int×Int)):List Value:=(l.map pc).flatten
theorem x6a(l:List (Int×Int)):(pcs l).length=l.length*2:=by
 unfold pcs;rw[j4a (size:=2) _ (fun x hx=>by obtain⟨a,_,rfl⟩:=List.mem_map.1 hx;rfl)];simp
theorem V9b{l:List (Int×Int)}{i:Nat}{a:Int×Int}(h:l[i]?=some a)(j:Nat)(u:Value)(hj:(pc a)[j]?=some u):(pcs l)[i*2+j]?=some u :=
 G8b (size:=2) (l.map pc) i (pc a) (fun x hx=>by obtain⟨a,_,rfl⟩:=List.mem_map.1 hx;rfl) (by simp[h]) j u hj
theorem O7b(l:List (Int×Int)):flatK pc 2 l.toArray=(pcs l).toArray:=by
 apply Array.ext
 ·simp[x6a]
 ·intro t h1 h2;simp only[size_flatK,List.size_toArray] at h1;have hi:t / 2<l.length:=by omega
  have hp:=V9b (l:=l) (i:=t / 2) (List.getElem?_eq_getElem hi) (t % 2) ((pc l[t / 2])[t % 2]'(by simp[pc];omega)) (List.getElem?_eq_getElem _);rw[show t / 2*2+t % 2=t by omega] at hp;have hq:=(List.getElem?_eq_some_iff.1 hp).2;simp only[List.getElem_toArray];rw[hq];simp[flatK,hi,pc];rw[List.getElem?_eq_getElem (by simp;omega)];rfl
theorem h7a(a b:Int):Lib.compareInt a b=if a<b then -1 else if b<a then 1 else 0:=by unfold Lib.compareInt;rfl
theorem o8c(a b:Int×Int):j5c a b<0↔a.1<b.1∨a.1=b.1∧a.2<b.2:=by
 unfold j5c;rw[h7a,h7a]
 split<;>split<;>omega
def lt2(a b:Int×Int):Prop:=a.1<b.1∨a.1=b.1∧a.2<b.2
instance (a b:Int×Int):Decidable (lt2 a b):=by unfold lt2;infer_instance
def E5a(l:List (Int×Int)):List (Int×Int):=l.mergeSort fun a b=>!decide (lt2 b a)
theorem t5a(a b:Int×Int):Go.Proofs.ltOf j5c a b=decide (lt2 a b):=by
 unfold Go.Proofs.ltOf;exact decide_eq_decide.2 (o8c a b)
theorem N3d:Go.Sort.SWO (Go.Proofs.ltOf j5c) where
 irrefl a:=by rw[t5a];simp[lt2]
 trans a b c h1 h2:=by
  rw[t5a] at *;have h3:=of_decide_eq_true h1;have h4:=of_decide_eq_true h2;unfold lt2 at h3 h4;exact decide_eq_true (by unfold lt2;omega)
 ntrans a b c h1 h2:=by
  rw[t5a] at *;have h3:=of_decide_eq_false h1;have h4:=of_decide_eq_false h2;unfold lt2 at h3 h4;exact decide_eq_false (by unfold lt2;omega)
theorem D3b{a b:Int×Int}(h1:¬lt2 a b)(h2:¬lt2 b a):a=b:=by
 unfold lt2 at h1 h2;exact Prod.ext (by omega) (by omega)
theorem r3c(g:Nat)(a b:Int)(w0:World)(ha:w0.cell? ⟨g,0,none⟩=some (.int .i64 a))(hb:w0.cell? ⟨g,1,none⟩=some (.int .i64 b)):
 E0a prog 157 #[.slice (some ⟨g,0,none⟩) 2 2] w0 fun v w'=>v=.int .i64 (if a=0 then b else a)∧w'=w0:=by
 have S:=St.refl w0;have c0:∀k:Nat,k<2→w0.cell? ⟨g,0+k*1,none⟩=some (.int .i64 (if k=0 then a else b)):=fun k hk=>by
  rcases(show k=0∨k=1 by omega) with rfl|rfl
  ·exact ha
  ·exact hb
 refine a0a func157 Z ntmps157 Z ?_;refine wC0 Z U (wL (fun μk D ε w=>D=[]∧∃k:Nat,(k+μk=(2))∧(w=w0)∧(0<k→a=0)∧(1<k→b=0)∧St [] w0 w []∧Sl ε [(3,.int .i64 0),(6,.slice (some ⟨g,0,none⟩) 2 2),(7,.int .i64 2),(8,.int .i64 k)]) (μ:=(2)) ⟨Z,0,by omega,Z,(fun h=>absurd h (by omega)),(fun h=>absurd h (by omega)),S,Z⟩ ?_);rintro μk D ε w ⟨rfl,k,hk,hw,hz,d0,S,eZ⟩;refine wK eZ (wB0 Z U (fun h9=>?_) fun h9=>?_)
 ·have a0:=c0 k (by omega);rw[←hw] at a0;refine lO S.k [.i] Z ⟨by omega,U⟩ (B0a x0a Z (by exact a0) Z ?_);refine lB0 Z U (fun b0=>?_) fun b0=>?_
  ·refine lT Z U Z ⟨congrArg (Value.int .i64) ?_,hw⟩;by_cases h0:k=0
   ·rw[if_pos h0] at b0 ⊢;rw[if_neg b0];done
   ·rw[if_neg h0];rw[if_pos (hz (by omega))];done
  refine lP0 Z ⟨by omega,U⟩ ⟨μk-1,by omega,Z,(k+1),(by omega),(hw),?_,?_,S,Z⟩
  ·intro _;by_cases h0:k=0
   ·rw[if_pos h0] at b0;exact b0
   ·exact hz (by omega)
  ·intro h1;rw[if_neg (show ¬k=0 by omega)] at b0;exact b0
 refine lT Z U Z ⟨congrArg (Value.int .i64) ?_,hw⟩;by_cases h0:k=0
 ·exfalso;omega
 ·rw[if_pos (hz (by omega)),d0 (by omega)];done
theorem c9b(x y:Int×Int)(w0:World):
 E0a prog 102 #[.agg (pc x).toArray,.agg (pc y).toArray] w0 fun v w'=>v=.int .i64 (j5c x y)∧Below w0.heap.size w0 w'∧w0.drawn≤w'.drawn:=by
 have S:=St.refl w0;refine a0a func102 Z ntmps102 Z ?_;refine wO0 Z U (O5c S Z ?_);intro g2 w2 S2 X2 D2;refine O5c S2 Z ?_;intro g3 w3 S3 X3 D3;refine lC0 Z U ?_;have b0:∀(a b:Int) (w:World),(Cl [] w0 w3 [(some g3,72,pc y),(some g2,72,pc x)] w∧w0.drawn≤w.drawn)→E0a prog 158 #[.int .i64 a,.int .i64 b] w fun v' w'=>v'=.int .i64 (Lib.compareInt a b)∧(Cl [] w0 w3 [(some g3,72,pc y),(some g2,72,pc x)] w'∧w0.drawn≤w'.drawn)∧u0a [] w w':=fun a b w hw =>
  Calls.mono (Tryz.cmp_Compare_int a b w) fun e w' ⟨h1,h2⟩=>⟨_,h1,Z,by rw[h2];exact hw,by rw[h2];exact u0a.refl _ _⟩
 refine y0a b0a [0,1,2,3,4,5,6,7,8,9] [] [10,11,12] Z (fun w=>Cl [] w0 w3 [(some g3,72,pc y),(some g2,72,pc x)] w∧w0.drawn≤w.drawn) ⟨Cl.start S3,by show w0.drawn≤w3.drawn+1;omega⟩ ?_;refine r0a H1a Z Z Z ?_;refine i0a x0a Z (fun w1 hw=>hw.1.1.cell 1 Z Z) Z ?_;refine r0a H1a Z Z Z ?_;refine i0a x0a Z (fun w1 hw=>hw.1.1.cell 0 Z Z) Z ?_;refine g1c u9b Z Z (b0 _ _) ?_;refine r0a H1a Z Z Z ?_;refine i0a x0a Z (fun w1 hw=>hw.1.1.cell 1 Z Z) Z ?_;refine r0a H1a Z Z Z ?_;refine i0a x0a Z (fun w1 hw=>hw.1.1.cell 0 Z Z) Z ?_;refine g1c u9b Z Z (b0 _ _) ?_;refine qN0 Z U (G5a ?_);refine v2a ?_;rintro w4 ⟨⟨S4,_⟩,_⟩;refine o2b S4 Y0a (vs:=[.int .i64 _,.int .i64 _]) (cs:=[_,_]) (by rfl) Z Z Z Z Z Z ?_;intro c0 d0 a0 f0 e0;refine J1a Y6c Z Z (r3c c0 _ _ d0 (a0.cell 0 Z Z) (a0.cell 0 Z Z)) ?_;rintro g0 i0 ⟨rfl,rfl⟩;refine lR0 Z U (s0a (hv:=(Z:_=Value.int .i64 (j5c x y))) Z ⟨Z,a0.fin,by omega⟩)
open Go.Sort in
theorem H2c{w:World}{g el:Nat}{cs d:List Value}(hb:m0a w (g,el,cs))(hd:d.length≤cs.length):
 m0a (putRow id w g 0 d.toArray) (g,el,d++cs.drop d.length):=by
 have hb':w.heap[g]?=some (.cells cs.toArray el (0,0)):=hb;unfold m0a putRow mapBlock;simp only[Array.getElem?_modify,if_true,hb',Option.map_some,onCells]
 congr 2
 apply Array.ext
 ·simp[putCells];omega
 ·intro i h1 h2;simp only[putCells,Array.size_mapIdx,List.size_toArray] at h1;simp only[putCells,Array.getElem_mapIdx,List.getElem_toArray,Nat.zero_le,true_and,Nat.zero_add,List.size_toArray,Nat.sub_zero];by_cases hi:i<d.length
  ·rw[if_pos hi,List.getElem_append_left (by simpa using hi)];simp[hi]
  ·rw[if_neg hi,List.getElem_append_right (by simpa using hi)];simp
   congr 1
   omega
open Go.Sort in
theorem z0b{w:World}{g q:Nat}{d:List Value}(os:Array Obj):D0a [g] w (grow (putRow id (Sort.ahead w q) g 0 d.toArray) os):=by
 refine⟨Z,Z,Z,?_,fun i hi hm=>?_⟩
 ·simp[grow,putRow,mapBlock,Sort.ahead]
 ·have hne:¬g=i:=fun h=>hm (by simp[h]);simp only[grow,putRow,mapBlock,Sort.ahead];rw[Array.getElem?_append_left (by simpa using hi),Array.getElem?_modify,if_neg hne]
open Go.Sort in
theorem h3c(w:World)(g el cap:Nat)(cs:List Value)(l:List (Int×Int))(hb:m0a w (g,el,cs))(hc:cs.take (l.length*2)=pcs l)(hl:l.length*2≤cs.length)(hz:l.length≤1000000):
 E0a prog 101 #[.slice (some ⟨g,0,none⟩) l.length cap,.func (.func 102) #[] #[]] w fun _ w'=>D0a [g] w w'∧m0a w' (g,el,pcs (E5a l)++cs.drop (l.length*2)):=by
 have hH:HoldsK pc 2 w g 0 l.toArray:=by
  unfold HoldsK;rw[O7b];intro j hj;have hj':j<(pcs l).length:=by simpa using hj
  refine⟨?_,hb.frozen _⟩;rw[Nat.zero_add];refine hb.cell ?_;have h1:(cs.take (l.length*2))[j]?=some (pcs l)[j]:=by rw[hc];simp[hj']
  rw[x6a] at hj';rw[List.getElem?_take,if_pos hj'] at h1;rw[h1];simp[x6a,hj']
 have h:=Tryz.slices_SortFunc_total 2 Tryz.isAgg72 Tryz.sizeOf72 pc (fun _=>rfl) (fun x v hv=>by simp[pc] at hv;rcases hv with rfl|rfl<;>rfl) j5c N3d 102 #[] g 0 cap l.toArray w (fun args w=>Y7c args w)
  (fun m os dk _ x y=>Calls.mono (c9b x y _) fun e w' ⟨v,he,hv,h1,h2⟩=>⟨by rw[he,hv],q6c h1 h2⟩) hH hb.lt (by simp;omega)
  (fun x y h1 h2=>by rw[t5a] at h1 h2;exact D3b (of_decide_eq_false h1) (of_decide_eq_false h2))
 refine Calls.mono h ?_;rintro e w' ⟨rfl,n,os,rfl⟩;have hs:(l.toArray.toList.mergeSort fun x y=>!(Go.Proofs.ltOf j5c) y x)=E5a l:=by
  unfold E5a;simp only[t5a]
 have hlen:(pcs (E5a l)).length=l.length*2:=by rw[x6a];simp[E5a]
 rw[hs];unfold sortWorldK putRowK;rw[O7b];refine⟨_,Z,z0b os,?_⟩;have hb2:m0a (Sort.ahead w n) (g,el,cs):=hb;have:=H2c (d:=pcs (E5a l)) hb2 (by omega);rw[hlen] at this;unfold m0a at this ⊢;rw[heap_grow_old _ os (by simpa[putRow,mapBlock,Sort.ahead] using hb.lt)];exact this
theorem T1c(w:World)(A:Option Addr)(a0:Nat):E0a prog 101 #[.slice A 0 a0,.func (.func 102) #[] #[]] w fun _ w'=>w'=w:=by
 refine Calls.mono (Tryz.slices_SortFunc_none (α:=Int×Int) A a0 _ w) ?_;rintro e w' ⟨rfl,rfl⟩;exact⟨_,Z,Z⟩
section
variable {P:Program} {r:Option Nat} {N:Nat} {D:List Deferred} {e:Env} {w w0:World} {ops:Array Oper} {rest:List Oper} {K:List Deferred→Env→World→Prop} {L:List Ent} {M:List Nat}
variable {d:Nat} {t:TypeId} {p:String} {af:Array Edge} {x y:Operand} {xt yt:TypeId}
def Eq2(P:Program)(ty:TypeId):Prop:=P.eqGuardType P.depth ty=false∧∀(w:World) (a b a' b':Int),
 (binOp .eql ty (.agg #[.int .i64 a,.int .i64 b]) (.agg #[.int .i64 a',.int .i64 b'])).run P w=.ok (.bool (decide (a=a'∧b=b'))) w
theorem i0d{ty:TypeId}{a b:Int×Int}(hE:Eq2 P ty)(hx:ev e x=.agg (pc a).toArray)(hy:ev e y=.agg (pc b).toArray)(hd:Nat.ble (d+1) N=true)(h:WL P r N ops rest K D (upd e d (.bool (decide (a=b)))) w):
 WL P r N ops (⟨some d,.binOp .eql ty x y yt,t,p,af,none⟩::rest) K D e w:=by
 have a0:ev e x=.agg #[.int .i64 a.1,.int .i64 a.2]:=hx;have b0:ev e y=.agg #[.int .i64 b.1,.int .i64 b.2]:=hy;refine P0a Z Z hd ?_ h;simp only[execOp,a0,b0,Sem.run_bind,run_eqGuard_agg w _ _ _ _ _ _ hE.1,Result.andThen_ok,hE.2,Sem.run_pure]
 congr 3
 exact decide_eq_decide.2 (Prod.ext_iff.symm)
theorem O8a(zc:Array Value)(n:Nat)(h0:0<zc.size):(Builtin.zeroCells zc n).size=n*zc.size∧∀v∈(Builtin.zeroCells zc n).toList,v∈zc.toList:=by
 unfold Builtin.zeroCells;refine⟨by simp,fun v hv=>?_⟩;simp only[Array.toList_map,Array.toList_range,List.mem_map,List.mem_range] at hv;obtain⟨i,_,rfl⟩:=hv;have hi:i % zc.size<zc.size:=Nat.mod_lt _ h0;rw[getElem!_pos zc _ hi];exact Array.getElem_mem_toList hi
theorem v3c{ty el size a0 g o c tb kk n:Nat}{z:Value}{cs:List Value}(S:St M w0 w L)(hS:SlZ P ty el size z a0)(hx:ev e x=.slice (some ⟨g,o,none⟩) n c)(hk:L[kk]?=some (some g,tb,cs))(c0:z.cells.size=size)(h0:0<size)(hn:0<n)(ho:o+n*size≤cs.length)(h1:∀v∈z.cells.toList,f7c v=true)
 (h:∀w1 us,us.length=n*size→St M w0 w1 (L.set kk (some g,tb,f0a cs o us))→u0a [g] w w1→WL P r N ops rest K D e w1) :
 WL P r N ops (⟨none,.call { callee:=.builtin .clear,args:=#[x],argTypes:=#[ty] },t,p,af,none⟩::rest) K D e w:=by
 obtain⟨_,hi,hz,_⟩:=hS.parts;obtain⟨z1,z2⟩:=O8a z.cells n (by omega);have b0:(Builtin.zeroCells z.cells n).toList.length=n*size:=by rw[Array.length_toList,z1,c0]
 obtain⟨w1,h2,h3,h4⟩:=St.setN (P:=P) (o:=o) (Builtin.zeroCells z.cells n).toList 0 cs w L hk S (by simp only[Nat.add_zero];omega) (fun v hv=>h1 v (z2 v hv));have d0:∀w,(zeroValue el).run P w=.ok z w:=fun w=>by simp[zeroValue,typeInfo,hi,hz]
 refine y7c (v:=.tuple #[]) Z Z (by simp) ?_ (h w1 _ b0 h3 h4);obtain⟨m,rfl⟩:∃m,n=m+1:=⟨n-1,by omega⟩;simp[execOp,resolve,invoke,builtin,Builtin.clear_,hx,run_underlying hS.und,d0,h2]
end
section
variable {α:Type} [DecidableEq α]
def L5a(l:List α)(k:Nat):List α:=((List.range k).filter fun j=>decide (j=0∨l[j]?≠l[j-1]?)).filterMap (l[·]?)
theorem N5a{l:List α}{k:Nat}{a:α}(h:l[k]?=some a):L5a l (k+1)=if k=0∨l[k]?≠l[k-1]? then L5a l k++[a] else L5a l k:=by
 unfold L5a;rw[List.range_succ,List.filter_append,List.filterMap_append];by_cases hc:k=0∨l[k]?≠l[k-1]?
 ·rw[if_pos hc,List.filter_cons_of_pos (by simpa using hc)];simp[h]
 ·rw[if_neg hc,List.filter_cons_of_neg (by simpa using hc)];simp
theorem j7b(l:List α)(k:Nat):(L5a l k).length≤k:=by
 unfold L5a;refine Nat.le_trans (List.length_filterMap_le _ _) (Nat.le_trans (List.length_filter_le _ _) (by simp))
theorem Y8a{l:List α}:∀{k:Nat},k≤l.length→(∀j,0<j→j<k→l[j]?≠l[j-1]?)→L5a l k=l.take k
 | 0,_,_=>by simp[L5a]
 | k+1,hk,h=>by
   have hx:l[k]?=some l[k]:=List.getElem?_eq_getElem (by omega);rw[N5a hx,if_pos,Y8a (by omega) (fun j h0 h1=>h j h0 (by omega)),F0a hx];rcases Nat.eq_zero_or_pos k with h0|h0
   ·exact .inl h0
   ·exact .inr (h k h0 (by omega))
end
theorem Q7c(w:World)(a b a' b':Int):(binOp .eql 72 (.agg #[.int .i64 a,.int .i64 b]) (.agg #[.int .i64 a',.int .i64 b'])).run prog w=.ok (.bool (decide (a=a'∧b=b'))) w:=by
 have a0:∀w,(isAgg 3).run prog w=.ok false w:=fun w=>by simp[isAgg,run_underlying Tryz.underlying3]
 rw[run_eql_struct];unfold Op.equalIn;simp[run_underlying Tryz.underlying72,Tryz.sizeOf3];rw[show List.range' 0 2=[0,1] from rfl];by_cases h1:a=a'<;>by_cases h2:b=b'<;>simp[List.forIn_cons,part,a0,run_equalIn_int _ 9998 _ .i64 .i64 _ _ Tryz.underlying3,h1,h2]
theorem S1b:Eq2 prog 72:=⟨by kernel_rfl,Q7c⟩
theorem T7b(a b:Int×Int)(w0:World):
 E0a prog 104 #[.agg (pc a).toArray,.agg (pc b).toArray] w0 fun v w'=>v=.bool (decide (a=b))∧Below w0.heap.size w0 w':=by
 have S:=St.refl w0;refine a0a func104 Z ntmps104 Z ?_;refine wO0 Z U (p0a S Z ?_);intro g2 w2 S2 X2 G2;refine p0a S2 Z ?_;intro g3 w3 S3 X3 G3;refine lOn 7 S3.k [.w 1,.w 0] Z ⟨⟨Z,by rfl⟩,⟨Z,by rfl⟩,U⟩ (i0d (a:=a) (b:=b) S1b Z Z Z ?_);exact lT Z U Z ⟨Z,S3.fin⟩
theorem b6a{w:World}{g el:Nat}{cs:List Value}{a0:List (Int×Int)}(hb:m0a w (g,el,cs))(hc:cs.take (a0.length*2)=pcs a0){i:Nat}{a:Int×Int}(h:a0[i]?=some a):Cells w g (0+i*2) (pc a):=fun j u hj=>by
 have h1:=V9b h j u hj;have h2:=(List.getElem?_eq_some_iff.1 h1).1;rw[x6a] at h2;rw[←hc,List.getElem?_take,if_pos h2] at h1;exact hb.cell (by rw[Nat.zero_add];exact h1)
theorem M8c{a0:List (Int×Int)}{cs:List Value}{i:Nat}{a x:Int×Int}(hc:cs.take (a0.length*2)=pcs a0)(hx:a0[i]?=some x):(f0a cs (i*2) (pc a)).take (a0.length*2)=pcs (a0.set i a):=by
 rw[x5a,hc];unfold pcs;have h2:∀c∈a0.map pc,c.length=2:=fun c hc=>by obtain⟨a,_,rfl⟩:=List.mem_map.1 hc;rfl
 have:=L6a (size:=2) (pc a) (a0.map pc) i 0 (pc x) h2 (by simp[hx]) (by simp[pc]);rw[Nat.add_zero] at this;rw[this,List.map_set];rfl
theorem u4c{a0:List (Int×Int)}{cs:List Value}{n m:Nat}(hc:cs.take (n*2)=pcs a0)(h:m≤n):cs.take (m*2)=pcs (a0.take m):=by
 have h2:∀c∈a0.map pc,c.length=2:=fun c hc=>by obtain⟨a,_,rfl⟩:=List.mem_map.1 hc;rfl
 have h3:cs.take (m*2)=(cs.take (n*2)).take (m*2):=by rw[List.take_take];congr 1;omega
 rw[h3,hc];unfold pcs;rw[C4b (size:=2) _ m h2,List.map_take]
theorem s6b(g b0:Nat)(l:List (Int×Int))(cs:List Value)(w0:World)(hB:m0a w0 (g,72,cs))(hc:cs.take (l.length*2)=pcs l)(y0:cs.length=b0*2)(d0:l.length≤b0)(hz:l.length≤1000000):
 E0a prog 103 #[.slice (some ⟨g,0,none⟩) l.length b0,.func (.func 104) #[] #[]] w0 fun v w'=>v=.slice (some ⟨g,0,none⟩) (L5a l l.length).length b0∧D0a [g] w0 w' ∧
  ∃u0,u0.length=b0*2∧m0a w' (g,72,u0)∧u0.take ((L5a l l.length).length*2)=pcs (L5a l l.length):=by
 have S:=St.borrow1 hB;refine a0a func103 Z ntmps103 Z ?_;refine wB0 Z U (fun L0=>?_) fun L0=>?_
 ·refine lR0 Z U (s0a Z ?_);have hd:L5a l l.length=l:=by rw[Y8a (Nat.le_refl _) (fun j h1 h2=>by exfalso;omega),List.take_length]
  rw[hd];exact⟨Z,S.below,cs,y0,S.blk 0 Z,hc⟩
 refine lC0 Z U (wL (fun μi D ε w=>D=[]∧∃i:Nat,(i+μi=max (l.length) 1)∧(1≤i)∧(∀j,0<j→j<i→l[j]?≠l[j-1]?)∧St [g] w0 w [(some g,72,cs)]∧Sl ε [(0,.slice (some ⟨g,0,none⟩) l.length b0),(1,.func (.func 104) #[] #[]),(5,.int .i64 i)]) (μ:=(max (l.length) 1-1)) ⟨Z,1,by omega,by omega,(fun j h1 h2=>absurd h1 (by omega)),S,Z⟩ ?_);rintro μi D ε w ⟨rfl,i,hi,_,D0,S,eZ⟩;refine wK eZ (wB0 Z U (fun N0=>?_) fun N0=>?_)
 ·refine lCn 8 S.k [] Z U ?_;obtain⟨a,r0⟩:∃a,l[i]?=some a:=⟨_,List.getElem?_eq_getElem (by omega)⟩;obtain⟨b,E0⟩:∃b,l[i-1]?=some b:=⟨_,List.getElem?_eq_getElem (by omega)⟩;have p0:∀w',m0a w' (g,72,cs)→Cells w' g (0+(i:Int).toNat*2) (pc a):=fun w' hb=>b6a hb hc r0;have x0:∀w',m0a w' (g,72,cs)→Cells w' g (0+((i:Int)-1).toNat*2) (pc b):=fun w' hb=>by
   rw[show((i:Int)-1).toNat=i-1 by omega];exact b6a hb hc E0
  refine y0a b0a [0,1,2,3,4,5,6,7,8,9] [] [10] Z (Cl _ _ _ _) (Cl.start S) ?_;refine qO S.q [.i] Z ⟨by omega,U⟩ (M2a R7a Z (fun w1 hw=>p0 _ (hw.1.blk 0 Z)) (by rfl) Z ?_);refine qO S.q [.i] Z ⟨by omega,by omega,U⟩ (M2a R7a Z (fun w1 hw=>x0 _ (hw.1.blk 0 Z)) (by rfl) Z ?_);refine qD Z U ?_;rintro d1 ⟨K0,_⟩;refine c7a K0 s9b Z Z Z (T7b a b _) ?_;rintro v28 b1 rfl s0 U0;cases n0:decide (a=b)
  ·refine lP0 Z ⟨by omega,U⟩ ⟨μi-1,by omega,Z,(i+1),(by omega),(by omega),?_,s0,Z⟩;intro j h1 h2;rcases Nat.lt_or_ge j i with h3|h3
   ·exact D0 j h1 h3
   ·obtain rfl:j=i:=by omega
    rw[r0,E0];exact fun hh=>of_decide_eq_false n0 (Option.some.inj hh)
  refine lO0 Z U (z6a (lo:=i) (hi:=l.length) u3a.slT Z (.inr Z) (.inl ⟨Z,Z⟩) d0 d0 Z ?_);rw[if_neg (show ¬b0=i by omega)];refine lCn 5 s0.k [] Z U ?_;have B0:l[i]?=l[i-1]?:=by rw[r0,E0,of_decide_eq_true n0]
  have z0:L5a l (i+1)=l.take i:=by
   rw[N5a r0,if_neg (fun h=>h.elim (fun z=>by omega) (fun z=>z B0)),Y8a (by omega) D0]
  refine wC0 Z U ?_;refine wL (fun μk D ε w=>D=[]∧∃k:Nat,∃c0:List (Int×Int),∃cs2:List Value,∃i2:Int,(k+μk=max ((l.length-i)) 1)∧(1≤k)∧(c0.length=l.length)∧(cs2.take (l.length*2)=pcs c0)∧(cs2.length=b0*2)∧(i2=(L5a l (i+k)).length)∧(c0.take (L5a l (i+k)).length=L5a l (i+k))∧((L5a l (i+k)).length≤i+k-1)∧(∀j,i+k-1≤j→c0[j]?=l[j]?)∧St [g] w0 w [(some g,72,cs2)]∧Sl ε [(0,.slice (some ⟨g,0,none⟩) l.length b0),(1,.func (.func 104) #[] #[]),(5,.int .i64 i2),(6,.slice (some ⟨g,0+i*2,none⟩) (l.length-i) (b0-i)),(7,.int .i64 k)]) (μ:=(max ((l.length-i)) 1-1)) ⟨Z,1,l,cs,i,by omega,by omega,Z,hc,y0,(by rw[z0,List.length_take];omega),(by rw[z0,List.length_take,Nat.min_eq_left (by omega)]),(by rw[z0,List.length_take];omega),(fun _ _=>rfl),s0,Z⟩ ?_;rintro μk D ε w ⟨rfl,k,c0,cs2,i2,_,_,f0,i0,e0,q0,j0,_,g0,S,eZ⟩;refine wK eZ ?_;have W0:=j7b l (i+k);refine wB0 Z U (fun O0=>?_) fun O0=>?_
  ·refine lCn 8 S.k [] Z U ?_;obtain⟨a2,o0⟩:∃a,l[i+k]?=some a:=⟨_,List.getElem?_eq_getElem (by omega)⟩;obtain⟨b2,G0⟩:∃b,l[i+k-1]?=some b:=⟨_,List.getElem?_eq_getElem (by omega)⟩;have F0:c0[i+k]?=some a2:=(g0 (i+k) (by omega)).trans o0;have H0:c0[i+k-1]?=some b2:=(g0 (i+k-1) (by omega)).trans G0;have v0:cs2.take (c0.length*2)=pcs c0:=by rw[f0];exact i0
   have p0:∀w',m0a w' (g,72,cs2)→Cells w' g (0+i*2+(k:Int).toNat*2) (pc a2):=fun w' hb=>by
    have:=b6a hb v0 F0;rw[show 0+i*2+(k:Int).toNat*2=0+(i+k)*2 by rw[Int.toNat_natCast,Nat.add_mul];omega];exact this
   have x0:∀w',m0a w' (g,72,cs2)→Cells w' g (0+i*2+((k:Int)-1).toNat*2) (pc b2):=fun w' hb=>by
    have:=b6a hb v0 H0;rw[show 0+i*2+((k:Int)-1).toNat*2=0+(i+k-1)*2 by rw[show((k:Int)-1).toNat=k-1 by omega];omega];exact this
   have A0:a2=b2→L5a l (i+(k+1))=L5a l (i+k):=fun hh=>by
    rw[←Nat.add_assoc,N5a o0,if_neg (fun h=>h.elim (fun z=>by omega) (fun z=>z (by rw[o0,G0,hh])))]
   have C0:¬a2=b2→L5a l (i+(k+1))=L5a l (i+k)++[a2]:=fun hh=>by
    rw[←Nat.add_assoc,N5a o0,if_pos (.inr (fun z=>hh (Option.some.inj (o0.symm.trans (z.trans G0)))))]
   obtain⟨xi,Q0⟩:∃x,c0[(L5a l (i+k)).length]?=some x:=⟨_,List.getElem?_eq_getElem (by omega)⟩;refine y0a b0a [0,1,2,3,4,5,6,7,8,9] [] [10,11] Z (Cl _ _ _ _) (Cl.start S) ?_;refine qO S.q [.i] Z ⟨by omega,U⟩ (M2a R7a Z (fun w1 hw=>p0 _ (hw.1.blk 0 Z)) (by rfl) Z ?_);refine qO S.q [.i] Z ⟨by omega,by omega,U⟩ (M2a R7a Z (fun w1 hw=>x0 _ (hw.1.blk 0 Z)) (by rfl) Z ?_);refine qD Z U ?_;rintro R0 ⟨t0,_⟩;refine c7a t0 s9b Z Z Z (T7b a2 b2 _) ?_;rintro Y0 c1 rfl m0 V0;cases a0:decide (a2=b2)
   ·refine lO m0.k [.i] Z ⟨by omega,U⟩ (q2a R7a Z (p0 _ (m0.blk 0 Z)) (by rfl) Z ?_);refine lO m0.k [.i] Z ⟨by omega,U⟩ ?_;refine c0a (kk:=0) (vs:=pc a2) m0 y5b Z Z Z Z Z Z (by rw[Nat.ble_eq,e0];simp;omega) ?_;intro Z0 J0 S0;refine lP0 Z ⟨by omega,by omega,U⟩ ⟨μk-1,by omega,Z,(k+1),?_,(_),(_),(by omega),(by omega),?_,?_,?_,?_,?_,?_,?_,J0,Z⟩;exact c0.set (L5a l (i+k)).length a2
    ·simp[f0]
    ·have:=M8c (a:=a2) v0 Q0;rw[f0] at this;rw[show 0+i2.toNat*2=(L5a l (i+k)).length*2 by rw[q0];simp];exact this
    ·rw[V3a];exact e0
    ·rw[C0 (of_decide_eq_false a0),List.length_append];simp;omega
    ·rw[C0 (of_decide_eq_false a0),List.length_append,List.length_singleton,F0a (by rw[List.getElem?_set_self (by omega)]),List.take_set_of_le (Nat.le_refl _),j0]
    ·rw[C0 (of_decide_eq_false a0),List.length_append];simp;omega
    ·intro j hj;rw[List.getElem?_set_ne (by omega)];exact g0 j (by omega)
   refine lP0 Z ⟨by omega,U⟩ ⟨μk-1,by omega,Z,(k+1),?_,(_),(_),(by omega),(by omega),?_,?_,?_,?_,?_,?_,?_,m0,Z⟩;exact c0
   ·exact f0
   ·exact i0
   ·exact e0
   ·rw[A0 (of_decide_eq_true a0)];exact q0
   ·rw[A0 (of_decide_eq_true a0)];exact j0
   ·rw[A0 (of_decide_eq_true a0)];omega
   ·exact fun j hj=>g0 j (by omega)
  refine lO0 Z U ?_;refine z6a (lo:=(L5a l (i+k)).length) (hi:=l.length) u3a.slT Z (.inr (by rw[←q0];rfl)) (.inl ⟨Z,Z⟩) d0 d0 Z ?_;rw[if_neg (show ¬b0=(L5a l (i+k)).length by omega)];refine v3c (kk:=0) S u3a Z Z Z (by omega) (by omega) (by rw[e0];omega) (by simp[Value.cells,f7c]) ?_;intro a1 us X0 I0 T0;refine lO0 Z U ?_;refine z6a (lo:=0) (hi:=(L5a l (i+k)).length) u3a.slT Z (.inl ⟨Z,Z⟩) (.inr (by rw[←q0];rfl)) (by omega) d0 Z ?_;rw[if_neg (show ¬b0=0 by omega),Nat.zero_mul,Nat.add_zero,Nat.sub_zero,Nat.sub_zero];refine lR0 Z U (s0a Z ?_);have P0:i+k=l.length:=by omega
  rw[←P0];refine⟨Z,I0.below,_,by rw[V3a];exact e0,I0.blk 0 Z,?_⟩;rw[R9a _ _ _ _ (by omega)];have ht:=u4c (m:=(L5a l (i+k)).length) i0 (by omega);rw[ht,j0]
 refine lR0 Z U (s0a Z ?_);have hd:L5a l l.length=l:=by rw[Y8a (Nat.le_refl _) (fun j h1 h2=>D0 j h1 (by omega)),List.take_length]
 rw[hd];exact⟨Z,S.below,cs,y0,S.blk 0 Z,hc⟩
def b9c(cs:List Value)(a:Int×Int):Prop:=cs=pc a∧i64 a.1∧i64 a.2
theorem W8a:N6a (fun(_:List Nat) (_:World)=>b9c) 2 where
 len h:=by rw[h.1];rfl
 one h u hu:=by rw[h.1] at hu;simp[pc] at hu;rcases hu with rfl|rfl<;>rfl
 keep _ h:=h
 more _ h:=h
abbrev A8a:List Nat→World→List Value→Int×Int→Prop:=fun _ _=>b9c
abbrev j9a(M:List Nat)(w:World)(v:Value)(l:List (Int×Int)):Prop:=RdS M w 2 b9c v l
def X5b(a:Int×Int):Value:=.agg (pc a).toArray
theorem K3c(a b:Int×Int)(h:X5b a=X5b b):a=b:=by
 simp[X5b,pc] at h;exact Prod.ext h.1 h.2
theorem Q1a.toVP{M:List Nat}{w1:World}{G:Option Nat}{cs:List Value}{v:Value}{l:List (Int×Int)}(h:Q1a A8a 2 M w1 G cs v l):t4a G 2 l.length cs v (pcs l):=by
 obtain⟨css,_,_,h3,h4⟩:=h;have e1:css=l.map pc:=by
  apply List.ext_getElem?;intro i;by_cases hi:i<l.length
  ·obtain⟨_,h5,h6⟩:=h4 i l[i] (List.getElem?_eq_getElem hi);rw[h5,List.getElem?_map,List.getElem?_eq_getElem hi,h6.1];rfl
  ·rw[List.getElem?_eq_none (by omega),List.getElem?_eq_none (by simp;omega)]
 subst e1;exact h3
def ddP(l:List (Int×Int)):List (Int×Int):=L5a (E5a l) (E5a l).length
theorem Q3b(l:List (Int×Int)):(E5a l).length=l.length:=by simp[E5a]
theorem W9b{l:List (Int×Int)}{x:Int×Int}:x∈E5a l↔x∈l:=(List.mergeSort_perm l _).mem_iff
theorem f7b(l:List (Int×Int)):(E5a l).Pairwise fun a b=>¬lt2 b a:=by
 have h:=List.pairwise_mergeSort (le:=fun a b:Int×Int=>!decide (lt2 b a)) (fun a b c h1 h2=>by
  simp only[Bool.not_eq_true',decide_eq_false_iff_not] at *;unfold lt2 at *;omega) (fun a b=>by
  simp only[Bool.or_eq_true,Bool.not_eq_true',decide_eq_false_iff_not];unfold lt2;omega) l
 exact h.imp fun hh=>by simpa using hh
theorem q9a{l:List (Int×Int)}(h:l.Pairwise fun a b=>¬lt2 b a):∀k,k≤l.length→(L5a l k).Pairwise lt2∧(∀x,x∈L5a l k↔x∈l.take k)∧∀a,0<k→l[k-1]?=some a→(L5a l k).getLast?=some a
 | 0,_=>by simp[L5a]
 | k+1,hk=>by
   obtain⟨h1,h2,h3⟩:=q9a h k (by omega);have hx:l[k]?=some l[k]:=List.getElem?_eq_getElem (by omega);rw[N5a hx];by_cases hc:k=0∨l[k]?≠l[k-1]?
   ·rw[if_pos hc];refine⟨?_,fun x=>?_,fun a _ ha=>?_⟩
    ·rw[List.pairwise_append];refine⟨h1,by simp,fun a ha b hb=>?_⟩;rw[List.mem_singleton.1 hb];have e0:=(h2 a).1 ha;obtain⟨j,hj,rfl⟩:=List.getElem_of_mem e0;rw[List.length_take] at hj;rw[List.getElem_take];have f0:j<k:=by omega
     have c0:j<l.length:=by omega
     have hn:=List.pairwise_iff_getElem.1 h j k c0 (by omega) f0;have hp:k-1<l.length:=by omega
     have d0:l[k]≠l[k-1]:=fun hh=>by
      rcases hc with hc|hc
      ·omega
      ·exact hc (by rw[hx,List.getElem?_eq_getElem hp,hh])
     rcases Nat.lt_or_ge j (k-1) with b0|b0
     ·have ha:=List.pairwise_iff_getElem.1 h j (k-1) c0 hp b0;have hb:=List.pairwise_iff_getElem.1 h (k-1) k hp (by omega) (by omega);by_cases a0:lt2 l[j] l[k]
      ·exact a0
      ·exfalso;apply d0;unfold lt2 at *;exact Prod.ext (by omega) (by omega)
     ·obtain rfl:j=k-1:=by omega
      by_cases a0:lt2 l[k-1] l[k]
      ·exact a0
      ·exact absurd (D3b hn a0) d0
    ·rw[List.mem_append,h2,F0a hx,List.mem_append]
    ·rw[List.getLast?_append];rw[show k+1-1=k by omega,hx] at ha;simpa using ha
   ·rw[if_neg hc];have g0:0<k:=by omega
    have he:l[k]?=l[k-1]?:=by
     by_cases hh:l[k]?=l[k-1]?
     ·exact hh
     ·exact absurd (.inr hh) hc
    refine⟨h1,fun x=>?_,fun a _ ha=>?_⟩
    ·rw[h2,F0a hx,List.mem_append,List.mem_singleton];refine⟨.inl,fun hh=>hh.elim id fun hh=>?_⟩;subst hh;rw[hx] at he;refine List.mem_of_getElem? (i:=k-1) ?_;rw[List.getElem?_take,if_pos (by omega)];exact he.symm
    ·rw[show k+1-1=k by omega] at ha;exact h3 a g0 (by rw[←he];exact ha)
theorem y0c(l:List (Int×Int)):(ddP l).Pairwise lt2:=(q9a (f7b l) _ (Nat.le_refl _)).1
theorem L9a{l:List (Int×Int)}{x:Int×Int}:x∈ddP l↔x∈l:=by
 unfold ddP;rw[(q9a (f7b l) _ (Nat.le_refl _)).2.1,List.take_length,W9b]
theorem O0c(l:List (Int×Int)):(ddP l).length≤l.length:=by
 have:=j7b (E5a l) (E5a l).length;exact Nat.le_trans this (by rw[Q3b];exact Nat.le_refl _)
theorem M3b:Go.WideMaps.ArrKey prog 72 3 2:=⟨Tryz.underlying72,by kernel_rfl,by kernel_rfl,by kernel_rfl⟩
theorem f2c:Go.Maps.Keyed prog 72:=Go.Maps.Keyed.of_law M3b.law
theorem w1c{a:Int×Int}(h1:i64 a.1)(h2:i64 a.2):∃q,keyOf prog 72 (X5b a)=some q:=by
 obtain⟨m,hm⟩:∃m,prog.types.size=m+1:=⟨prog.types.size-1,by
  have:Nat.ble 1 prog.types.size=true:=by kernel_rfl
  have:=Nat.le_of_ble_eq_true this;omega⟩
 have hk:=M3b.keyType ⟨m,hm⟩;have w1:(Lit.int .i64 a.1).wf=true:=by unfold i64 at h1;simp[Lit.wf,IntKind.min,IntKind.max,IntKind.signed,IntKind.bits];omega
 have w2:(Lit.int .i64 a.2).wf=true:=by unfold i64 at h2;simp[Lit.wf,IntKind.min,IntKind.max,IntKind.signed,IntKind.bits];omega
 unfold keyOf;rw[Tryz.underlying72];have hf:(X5b a).formed prog 72=true:=by simp[X5b,pc,Value.formed,Tryz.underlying72,M3b.size]
 simp only[hk,hf,Bool.and_self,if_true];have hl:prog.keyLits (prog.types.size+1) 72 (X5b a).cells.toList=some [.int .i64 a.1,.int .i64 a.2]:=by
  rw[hm];have h3:∀n,prog.keyLits (m+1) 3 [.int .i64 n]=if(Lit.int .i64 n).wf=true then some [.int .i64 n] else none:=fun n=>by
   unfold Program.keyLits;rw[Tryz.underlying3];simp
  unfold Program.keyLits;rw[Tryz.underlying72];simp[X5b,pc,Value.cells,M3b.size,M3b.one,List.range_succ,h3,w1,w2]
 rw[hl];exact⟨_,Z⟩
theorem R4b(A:Option Addr)(a0:Nat)(w0:World):
 E0a prog 103 #[.slice A 0 a0,.func (.func 104) #[] #[]] w0 fun v w'=>v=.slice A 0 a0∧Below w0.heap.size w0 w':=by
 have S:=St.refl w0;refine a0a func103 Z ntmps103 Z ?_;refine wB0 Z U (fun b0=>?_) (fun b0=>by exfalso;omega);exact lT Z U Z ⟨Z,S.fin⟩
theorem E8a(w0:World)(a0:Nat)(A:Option Addr):E0a prog 53 #[.slice A 0 a0] w0 fun v w'=>v=.slice A 0 a0∧Below w0.heap.size w0 w':=by
 have S:=St.refl w0;refine a0a func53 Z ntmps53 Z ?_;refine wO0 Z U (J1a s2c Z Z (T1c _ A a0) ?_);rintro v4 _ rfl;refine lO0 Z U (j0a S m2c Z Z (R4b A a0 _) ?_);rintro v6 w6 rfl S6 X6;exact lT Z U Z ⟨Z,S6.fin⟩
theorem F8a(g a0:Nat)(l:List (Int×Int))(cs:List Value)(w0:World)(hB:m0a w0 (g,72,cs))(hc:cs.take (l.length*2)=pcs l)(i0:cs.length=a0*2)(hz:l.length≤1000000)(g0:l.length≤a0:=by omega):
 E0a prog 53 #[.slice (some ⟨g,0,none⟩) l.length a0] w0 fun v w'=>v=.slice (some ⟨g,0,none⟩) (ddP l).length a0∧D0a [g] w0 w' ∧
  ∃b0,b0.length=a0*2∧m0a w' (g,72,b0)∧b0.take ((ddP l).length*2)=pcs (ddP l):=by
 have S:=St.borrow1 hB;have d0:=Q3b l;refine a0a func53 Z ntmps53 Z ?_;refine wO0 Z U (J1a s2c Z Z (h3c _ g _ a0 cs l (S.blk 0 Z) hc (by omega) hz) ?_);rintro v4 w4 ⟨B4,f0⟩;have S4:=S.changed1 0 Z B4 f0;refine lO0 Z U ?_;have c0:=s6b g a0 (E5a l) (pcs (E5a l)++cs.drop (l.length*2)) w4 (S4.blk 0 Z) (List.take_left' (x6a _)) (by rw[List.length_append,x6a,List.length_drop];omega) (by omega) (by omega);rw[d0] at c0;refine J1a m2c Z Z c0 ?_;rintro v6 w6 ⟨rfl,B6,e0,q1,q2,q3⟩;have S6:=S4.changed1 0 Z B6 q2;refine lR0 Z U (s0a Z ?_);have hd:L5a (E5a l) l.length=ddP l:=by unfold ddP;rw[d0]
 rw[hd] at q3 ⊢;exact⟨Z,S6.below,e0,q1,S6.blk 0 Z,q3⟩
theorem M4b{f g:Nat→Option (Nat×Nat)}(h:∀i q,f i=some q→g i=some q):∀(a0:List (Nat×Value)) (z cs:Array Value),Instr.fill f z a0=some cs→Instr.fill g z a0=some cs
 | [],_,_,e=>e
 | (i,v)::rest,z,cs,e=>by
   unfold Instr.fill at e ⊢;cases hf:f i with
   | none=>rw[hf] at e;cases e
   | some q =>
     rw[hf] at e;rw[h i q hf];obtain⟨_,_⟩:=q;dsimp only at e ⊢
     split at e
     ·cases e
     ·rename_i hc;rw[if_neg hc];exact M4b h rest _ _ e
theorem W0c{P:Program}{ty n el size:Nat}{z:List Value}(hu:P.underlying ty=some (.array n el))(hz:∀w,(zeroValue ty).run P w=.ok (.agg z.toArray) w)(hs:∀w,(sizeOf el).run P w=.ok size w)(pl:List (Nat×Nat))(hp:pl=(List.range n).map fun i=>(i*size,size)):Bld P ty z pl:=by
 intro w a0 cs hf;simp only[Instr.build,Sem.run_bind,hz,Result.andThen_ok,run_underlying hu,Value.cells,hs];rw[M4b (g:=fun i=>some (i*size,size)) (fun i q h=>by
  subst hp;rw[List.getElem?_map] at h;cases hr:(List.range n)[i]? with
  | none=>rw[hr] at h;cases h
  | some j =>
    rw[hr] at h;have:j=i:=by
     have:=List.getElem?_eq_some_iff.1 hr;obtain⟨_,h2⟩:=this;simpa using h2.symm
    subst this;simpa using h) _ _ _ hf]
 rfl
theorem d2b(M:List Nat)(w0:World)(v:Value)(l:List Int)(hR:RdI M w0 v l)(hr:T1a l):E0a prog 257 #[v] w0 fun v w'=>v=.bool true∧Below w0.heap.size w0 w':=by
 obtain⟨A,n,c,rfl⟩:=hR.form;obtain⟨_,_⟩:=hR.len;have S:=St.refl w0;refine a0a func257 Z ntmps257 Z ?_;refine wC0 Z U (wL (fun μk D ε w=>D=[]∧∃k:Nat,(k+μk=max (l.length) 1)∧(1≤k)∧St [] w0 w []∧Sl ε [(0,.slice A n c),(3,.int .i64 k)]) (μ:=(max (l.length) 1-1)) ⟨Z,1,by omega,by omega,S,Z⟩ ?_);rintro μk D ε w ⟨rfl,k,_,_,S,eZ⟩;refine wK eZ (wB0 Z U (fun h7=>?_) fun h7=>?_)
 ·refine lC0 Z U (y0a b0a [0,1,2,3,4,5,6,7,8,9] [] [] Z (Cl _ _ _ _) (Cl.start S) ?_);obtain⟨_,i0,r0,_,p0,b0,_,_,d0,e0⟩:=RdS.get (hR) (k) (by omega);obtain⟨rfl,_⟩:=id e0;obtain⟨x,j0,s0,_,o0,c0,_,_,a0,f0⟩:=RdS.get (hR) (k-1) (by omega);obtain⟨rfl,_⟩:=id f0;have m0:((k:Int)-1).toNat=k-1:=by omega
  rw[←m0] at a0;have q0:=i7a hr o0 p0;refine qB ((S.q.a a0).a d0) [.x i0 r0,.f 0 0,.x j0 s0,.f 1 0] Z ⟨Z,⟨c0,by omega⟩,by omega,Z,⟨b0,by omega⟩,U⟩ (fun n0=>by exfalso;omega) fun n0=>?_;refine qD Z U ?_;rintro t0 ⟨g0,_⟩;refine lP0 Z ⟨by omega,U⟩ ⟨μk-1,by omega,Z,(k+1),(by omega),(by omega),g0,Z⟩
 exact lT Z U Z ⟨Z,S.fin⟩
theorem B1b(M:List Nat)(w0:World)(v:Value)(l:List Int)(hR:RdI M w0 v l)(hw:∀x∈l,1≤x∧x≤8)(hl:l.length≤32:=by omega):E0a prog 228 #[v] w0 fun v w'=>v=.int .i64 (b2a l)∧Below w0.heap.size w0 w':=by
 obtain⟨A,n,c,rfl⟩:=hR.form;obtain⟨_,_⟩:=hR.len;have j0:=k3a hw;have S:=St.refl w0;refine a0a func228 Z ntmps228 Z ?_;refine wC0 Z U (wL (fun μk D ε w=>D=[]∧∃k:Nat,∃s:Int,(k+μk=(l.length))∧(s=b2a (l.take k))∧St [] w0 w []∧Sl ε [(3,.int .i64 s),(6,.slice A n c),(7,.int .i64 n),(8,.int .i64 k)]) (μ:=(l.length)) ⟨Z,0,0,by omega,Z,S,Z⟩ ?_);rintro μk D ε w ⟨rfl,k,s,_,hs,S,eZ⟩;refine wK eZ (wB0 Z U (fun h9=>?_) fun h9=>?_)
 ·obtain⟨x,d0,i0,_,g0,a0,_,_,b0,c0⟩:=RdS.get (hR) (k) (by omega);obtain⟨rfl,_⟩:=id c0;have f0:=L4a g0;have m0:=m2a hw k;have e0:=m2a hw (k+1);refine lP (S.k.a b0) [.x d0 i0,.f 0 0] Z ⟨by omega,by omega,Z,⟨a0,by omega⟩,U⟩ ?_;refine⟨μk-1,by omega,Z,(k+1),(s+x),(by omega),(by rw[f0,hs]),S,Z⟩
 refine lR0 Z U (s0a Z ?_);exact⟨by rw[hs,List.take_of_length_le (by omega)],S.fin⟩
theorem U0b(M:List Nat)(w0:World)(v u:Value)(C W:List Int)(hC:RdI M w0 v C)(hW:RdI M w0 u W)(h:P9a C W):E0a prog 238 #[v,u] w0 fun v w'=>v=.bool true∧Below w0.heap.size w0 w':=by
 obtain⟨A,n,c,rfl⟩:=hC.form;obtain⟨_,_⟩:=hC.len;obtain⟨A',n',c',rfl⟩:=hW.form;obtain⟨_,_⟩:=hW.len;have z0:=h.len;have S:=St.refl w0;refine a0a func238 Z ntmps238 Z ?_;refine wB0 Z U (fun s0=>by exfalso;omega) fun s0=>?_;refine lO0 Z U (g0a S r6b Z Z (d2b M _ _ C (hC.keep (S.keep0 M)) h.inc) ?_);intro H0 o0 E0;refine lC0 Z U (wL (fun μk D ε w=>D=[]∧∃k:Nat,(k+μk=(C.length))∧St [] w0 w []∧Sl ε [(1,.slice A' n' c'),(17,.slice A n c),(18,.int .i64 n),(19,.int .i64 k)]) (μ:=(C.length)) ⟨Z,0,by omega,o0,Z⟩ ?_);rintro μk D ε w ⟨rfl,k,_,S,eZ⟩;refine wK eZ (wB0 Z U (fun t0=>?_) fun t0=>?_)
 ·obtain⟨x,p0,B0,_,A0,a0,_,_,d0,g0⟩:=RdS.get (hC) (k) (by omega);obtain⟨rfl,_⟩:=id g0;have F0:=h.cell x (d0a A0);refine lB (S.k.a d0) [.x p0 B0,.f 0 0] Z ⟨Z,⟨a0,by omega⟩,U⟩ (fun u0=>by exfalso;omega) fun u0=>?_;refine lB0 Z U (fun v0=>by exfalso;omega) fun v0=>?_;obtain⟨y,q0,C0,_,n0,b0,_,_,e0,i0⟩:=RdS.get (hW) (k) (by omega);obtain⟨rfl,_⟩:=id i0;have G0:=h.wid y (d0a n0);refine lB (S.k.a e0) [.x q0 C0,.f 0 0] Z ⟨Z,⟨b0,by omega⟩,U⟩ (fun x0=>by exfalso;omega) fun x0=>?_;obtain⟨_,r0,D0,_,m0,c0,_,_,f0,j0⟩:=RdS.get (hW) (k) (by omega);obtain rfl:=Option.some.inj (n0.symm.trans m0);obtain⟨rfl,_⟩:=id j0;refine lB (S.k.a f0) [.x r0 D0,.f 0 0] Z ⟨Z,⟨c0,by omega⟩,U⟩ (fun y0=>by exfalso;omega) fun y0=>?_;refine lP0 Z ⟨by omega,U⟩ ⟨μk-1,by omega,Z,(k+1),(by omega),S,Z⟩
 exact lT Z U Z ⟨Z,S.fin⟩
theorem N7a(M:List Nat)(w0:World)(v u i:Value)(C W:List Int)(hC:RdI M w0 v C)(hW:RdI M w0 u W)(h:P9a C W)(hs:b2a W≤12):E0a prog 190 #[.agg #[v,u,i]] w0 fun v w'=>v=.bool true∧Below w0.heap.size w0 w':=by
 obtain⟨_,_,_,rfl⟩:=hC.form;obtain⟨_,_,_,rfl⟩:=hW.form;have e0:=h.clen;have c0:=h.len;have S:=St.refl w0;refine a0a func190 Z ntmps190 Z ?_;refine wO0 Z U (p0a S Z ?_);intro g1 w1 S1 X1 G1;refine lO S1.k [.o 0,.o 0] Z ⟨Z,Z,U⟩ (g0a S1 z0c Z Z (U0b M _ _ _ C W (hC.keep (S1.keep0 M)) (hW.keep (S1.keep0 M)) h) ?_);intro w7 S7 X7;refine lO S7.k [.o 0] Z ⟨Z,U⟩ (g0a S7 q5b Z Z (B1b M _ _ W (hW.keep (S7.keep0 M)) h.wid) ?_);intro f0 a0 d0;refine lB0 Z U (fun b0=>?_) (fun b0=>by exfalso;omega);exact lT Z U Z ⟨Z,a0.fin⟩
theorem W0b(M:List Nat)(w0:World)(v u:Value)(Ai:Option Addr)(ci:Nat)(C W:List Int)(hC:RdI M w0 v C)(hW:RdI M w0 u W)(hI:RdI M w0 (.slice Ai 0 ci) [])(h:P9a C W)(hs:b2a W≤12):E0a prog 260 #[.agg #[v,u,.slice Ai 0 ci]] w0 fun v w'=>v=.bool true∧Below w0.heap.size w0 w':=by
 obtain⟨_,_,_,rfl⟩:=hC.form;obtain⟨_,_,_,rfl⟩:=hW.form;have S:=St.refl w0;refine a0a func260 Z ntmps260 Z ?_;refine wO0 Z U (p0a S Z ?_);intro g1 w1 S1 X1 G1;refine lO S1.k [.w 0] Z ⟨⟨Z,Z⟩,U⟩ (g0a S1 i6b Z Z (N7a M _ _ _ _ C W (hC.keep (S1.keep0 M)) (hW.keep (S1.keep0 M)) h hs) ?_);intro w5 S5 X5;refine lO S5.k [.o 0] Z ⟨Z,U⟩ (g0a S5 r6b Z Z (d2b M _ _ [] (hI.keep (S5.keep0 M)) List.Pairwise.nil) ?_);intro f0 c0 e0;refine lC c0.k [.o 0] Z ⟨Z,U⟩ (Q2d b0a (fun i=>[0,1,2,3,4,5,6,7,8,9,10,11,12,13,14,15,16,18,19,20,21,22].contains i) [0,1,2,3,4,5,6,7,8,9,10,11,12,13,14,15,16,17,18,19,20,21,22] (by kernel_rfl) (by kernel_rfl) (Cl _ _ _ _) (Cl.start c0) ?_);rintro g0 ⟨a0,b0⟩;refine s4a ⟨a0,b0⟩ Z Z Z ?_;refine m1a (hv:=Z) (v:=.int .i64 _) Z ?_;refine n0a ?_;refine s4a ⟨a0,b0⟩ Z Z Z ?_;refine k1c Z Z Z (fun d0=>?_) fun d0=>?_
 ·refine n0a ?_;refine s4a ⟨a0,b0⟩ Z Z Z ?_;refine m1a (hv:=Z) (v:=.bool _) Z ?_;refine n0a ?_;refine s4a ⟨a0,b0⟩ Z Z Z ?_;refine s3a Z Z Z ?_;refine n0a ?_;refine s4a ⟨a0,b0⟩ Z Z Z ?_;refine s3a Z Z Z ?_;refine n0a ?_;refine s4a ⟨a0,b0⟩ Z Z Z ?_;refine s3a Z Z Z ?_;refine n0a ?_;refine s4a ⟨a0,b0⟩ Z Z Z ?_;refine s3a Z Z Z ?_;refine n0a ?_;refine s4a ⟨a0,b0⟩ Z Z Z ?_;refine s3a Z Z Z ?_;refine n0a ?_;refine s4a ⟨a0,b0⟩ Z Z Z ?_;refine s3a Z Z Z ?_;refine n0a ?_;refine s4a ⟨a0,b0⟩ Z Z Z ?_;refine s3a Z Z Z ?_;refine n0a ?_;refine s4a ⟨a0,b0⟩ Z Z Z ?_;refine s3a Z Z Z ?_;refine n0a ?_;refine s4a ⟨a0,b0⟩ Z Z Z ?_;refine s3a Z Z Z ?_;refine n0a ?_;refine s4a ⟨a0,b0⟩ Z Z Z ?_;refine s3a Z Z Z ?_;refine n0a ?_;refine s4a ⟨a0,b0⟩ Z Z Z ?_;refine s3a Z Z Z ?_;refine n0a ?_;refine s4a ⟨a0,b0⟩ Z Z Z ?_;refine s3a Z Z Z ?_;refine n0a ?_;refine s4a ⟨a0,b0⟩ Z Z Z ?_;refine s3a Z Z Z ?_;refine n0a ?_;refine s4a ⟨a0,b0⟩ Z Z Z ?_;refine s3a Z Z Z ?_;refine n0a ?_;refine A2d ⟨a0,b0⟩ Z Z Z Z ?_;refine E1d Z Z Z Z ?_;refine X0a ⟨Z,?_⟩;refine s4a ⟨a0,b0⟩ Z Z Z ?_;refine s3a Z Z Z ?_;refine n0a ?_;refine s4a ⟨a0,b0⟩ Z Z Z ?_;refine s3a Z Z Z ?_;refine n0a ?_;refine s4a ⟨a0,b0⟩ Z Z Z ?_;refine s3a Z Z Z ?_;refine n0a ?_;refine s4a ⟨a0,b0⟩ Z Z Z ?_;refine S4a Z (v:=.bool _) Z Z ?_;refine n0a ?_;refine s4a ⟨a0,b0⟩ Z Z Z ?_;refine u4a (v:=.bool _) Z Z ?_;refine n0a ?_;refine f1c ⟨a0,b0⟩ ?_;refine fR0 Z U (s0a Z ?_);exact⟨Z,a0.fin⟩
 exfalso;omega
theorem u6b(p:List a1a)(C:List Int)(M:List Nat)(w0:World)(vc vl:Value)(hP:Z8b M w0 vc p)(hC:RdI M w0 vl C)(hr:T1a C)(hc:∀c∈C,0≤c∧c<p.length)(hp:p.length≤32)(hw:∀c∈p,1≤c.w∧c.w≤8):
 E0a prog 227 #[vc,vl] w0 fun v w'=>(∃u,v=.tuple #[u,.bool true]∧r5a w0 w' u (wdL p C))∧Below w0.heap.size w0 w':=by
 obtain⟨Ap,np,cp,rfl⟩:=hP.form;obtain⟨_,-,_⟩:=hP.len;obtain⟨A,n,c,rfl⟩:=hC.form;obtain⟨_,-,_⟩:=hC.len;have ho:=r6a hr hc hp hw;have P0:=ho.clen;have B0:∀x∈wdL p C,i64 x:=fun x hx=>by have:=ho.wid x hx;unfold i64;omega
 have S:=(St.refl w0).nilEnt 3;refine a0a func227 Z ntmps227 Z ?_;refine wO0 Z U (g0a S r6b Z Z (d2b M _ _ C (hC.keep (S.keep0 M)) hr) ?_);intro R0 q0 K0;refine lC0 Z U (wL (fun μk D ε w=>D=[]∧∃k:Nat,∃G:Option Nat,∃c0:List Value,∃v:Value,(k+μk=(C.length))∧(Q1a (fun _ _=>M2c) 1 [] w0 G c0 v (wdL p (C.take k)))∧St [] w0 w [(G,3,c0)]∧Sl ε [(0,.slice Ap np cp),(1,.slice A n c),(6,v),(12,.slice A n c),(13,.int .i64 n),(14,.int .i64 k)]) (μ:=(C.length)) ⟨Z,0,none,[],.slice none 0 0,by omega,Q1a.nil,q0,Z⟩ ?_);rintro μk D ε w ⟨rfl,k,G,c0,v,_,a0,S,eZ⟩;refine wK eZ (wB0 Z U (fun y0=>?_) fun y0=>?_)
 ·obtain⟨x,u0,F0,_,p0,d0,_,_,f0,i0⟩:=RdS.get (hC) (k) (by omega);obtain⟨rfl,_⟩:=id i0;have D0:=hc x (d0a p0);refine lB (S.k.a f0) [.x u0 F0,.f 0 0] Z ⟨Z,⟨d0,by omega⟩,U⟩ (fun z0=>by exfalso;omega) fun z0=>?_;refine lB0 Z U (fun A0=>by exfalso;omega) fun A0=>?_;refine lOn 7 S.k [] Z U (I0a Z ?_);obtain⟨_,v0,G0,_,E0,e0,_,_,g0,j0⟩:=RdS.get (hP) (x.toNat) (by omega);obtain⟨rfl,m0,_⟩:=r2a.open_ j0;have C0:=W4a (h0:=D0.1) E0;refine lO (S.k.a g0) [.x v0 G0,.f 0 1] Z ⟨Z,⟨e0,by omega⟩,U⟩ (k0a S Y0a (vs:=[.int .i64 _]) (cs:=[_]) Z Z Z Z Z Z ?_);intro O0 S0 n0 L0 I0;refine u1a b5a (k:=1) (M2:=[]) (e1:=wAt p x) n0 Y0a Z a0 Z Z (n0.cells 0 Z) (by rw[C0];exact⟨Z,m0⟩) (by rw[List.length_map,List.length_take];omega) Z ?_;intro Q0 J0 x0 T0 r0 b0 N0 H0;refine C0a Z ?_;refine lP0 Z ⟨by omega,U⟩ ?_;refine⟨μk-1,by omega,Z,(k+1),(_),(_),(_),(by omega),((by rw[F0a p0,wdL,List.map_append];exact b0)),r0.tail,Z⟩
 have a0:=(show C.take k=C by rw[List.take_of_length_le (by omega)])▸a0;have o0:r5a w0 w v (wdL p C):=fun M hM=>(Q1a.newRow (k:=0) a0 S Z).rd hM B0 S.fin (by simp;omega);refine lOn 8 S.k [] Z U (I0a Z ?_);refine lOn 1 S.k [] Z U (I0a Z ?_);refine g0a S z0c Z Z (U0b [] _ _ _ C _ ((hC.keep (S.keep0 M)).less (by simp)) (o0 [] (by simp)) ho) ?_;intro U0 s0 t0;refine C0a Z ?_;exact lT2 Z U Z ⟨⟨_,Z,o0.keep t0⟩,s0.fin⟩
theorem v7b(C W:List Int)(M:List Nat)(w0:World)(vc vw:Value)(Ai:Option Addr)(ni ci:Nat)(hC:RdI M w0 vc C)(hW:RdI M w0 vw W)(hc:∀x∈C,i64 x)(hw:∀x∈W,i64 x)(hlc:C.length≤1000:=by omega)(hlw:W.length≤1000:=by omega):
 E0a prog 229 #[vc,vw,.slice Ai ni ci] w0 fun v w'=>(∃a b,v=.agg #[a,b,.slice Ai ni ci]∧r5a w0 w' a C∧r5a w0 w' b W)∧Below w0.heap.size w0 w':=by
 have S:=St.refl w0;refine a0a func229 Z ntmps229 Z ?_;refine wO0 Z U (h0a S S8a Z Z ?_);intro g6 w6 S6 X6 G6;refine lOn 4 S6.k [] Z U (I0a Z ?_);refine j0a S6 v9a Z Z (D5a M _ _ C (hC.keep (S6.keep0 M))) ?_;rintro v8 w8 e0 S8 X8;obtain⟨_,_,f0,d0⟩:=e0.open_ S8 S6;obtain⟨_,_,_,rfl⟩:=f0.form;refine I0a Z ?_;refine j0a d0 v9a Z Z (D5a M _ _ W (hW.keep (d0.keep0 M))) ?_;rintro o0 p0 b0 i0 n0;obtain⟨_,_,g0,c0⟩:=b0.open_ i0 d0;obtain⟨_,_,_,rfl⟩:=g0.form;refine lO0 Z U (H0a k7b (vs:=[(0,.slice _ _ _),(1,.slice _ _ _),(2,.slice _ _ _)]) (cs:=[_,_,_]) Z Z Z Z ?_);refine c0a (kk:=2) (vs:=[_,_,_]) c0 R8a Z Z Z Z Z Z Z ?_;intro m0 a0 j0;dsimp only[f0a,List.set] at a0;exact lR0 Z U (w0a (n:=3) Z A5a Z (a0.cells 2 Z) Z ⟨⟨_,_,Z,fun M hM=>f0.rdI a0 (k:=1) Z hM hc (by omega),fun M hM=>g0.rdI a0 (k:=0) Z hM hw (by omega)⟩,a0.fin⟩)
def uV(n:Nat):Value:=.int .u64 (n:Int)
theorem C4c{n:Nat}(h:n<2 ^ 64):IntKind.u64.wrap (n:Int)=(n:Int):=by
 have h3:((2 ^ 64:Nat):Int)=2 ^ 64:=by simp
 have h2:(n:Int) % (2 ^ 64)=n:=Int.emod_eq_of_lt (by omega) (by rw[←h3];exact Int.ofNat_lt.2 h);simp only[IntKind.wrap,IntKind.signed,IntKind.bits,Bool.false_and,Bool.false_eq_true,if_false];exact h2
theorem s1b(n:Nat):BitVec.ofInt 64 (n:Int)=BitVec.ofNat 64 n:=by
 apply BitVec.eq_of_toNat_eq;simp
theorem Z5b{a b:Nat}(ha:a<2 ^ 64)(hb:b<2 ^ 64):Op.intBits .or .u64 (a:Int) (b:Int)=pure (.int .u64 ((a ||| b:Nat):Int)):=by
 have h:=Nat.or_lt_two_pow ha hb;show pure (Value.int .u64 (IntKind.u64.wrap ((BitVec.ofInt 64 (a:Int) ||| BitVec.ofInt 64 (b:Int)).toNat:Int)))=_;rw[s1b,s1b,BitVec.toNat_or,BitVec.toNat_ofNat,BitVec.toNat_ofNat,Nat.mod_eq_of_lt ha,Nat.mod_eq_of_lt hb,C4c h]
theorem o3b{a b:Nat}(ha:a<2 ^ 64)(hb:b<2 ^ 64):Op.intBits .and .u64 (a:Int) (b:Int)=pure (.int .u64 ((a &&& b:Nat):Int)):=by
 have h:a &&& b<2 ^ 64:=Nat.and_lt_two_pow _ hb;show pure (Value.int .u64 (IntKind.u64.wrap ((BitVec.ofInt 64 (a:Int) &&& BitVec.ofInt 64 (b:Int)).toNat:Int)))=_;rw[s1b,s1b,BitVec.toNat_and,BitVec.toNat_ofNat,BitVec.toNat_ofNat,Nat.mod_eq_of_lt ha,Nat.mod_eq_of_lt hb,C4c h]
theorem S3d{n:Nat}(hn:n≤63):Op.shift .shl .u64 1 .i64 (n:Int)=pure (.int .u64 ((2 ^ n:Nat):Int)):=by
 have h2:(2:Nat) ^ n<2 ^ 64:=Nat.pow_lt_pow_right (by omega) (by omega);have h3:min n IntKind.u64.bits=n:=by simp[IntKind.bits];omega
 have h4:((1:Int)*2 ^ n)=((2 ^ n:Nat):Int):=by simp
 have h6:¬((n:Int)<0):=by omega
 simp only[Op.shift,h6,if_false,Int.toNat_natCast,h3,h4,C4c h2]
theorem R3d{a n:Nat}(hn:n≤63):Op.shift .shr .u64 (a:Int) .i64 (n:Int)=pure (.int .u64 ((a >>> n:Nat):Int)):=by
 have h3:min n IntKind.u64.bits=n:=by simp[IntKind.bits];omega
 have h6:¬((n:Int)<0):=by omega
 have h7:(a:Int).fdiv (2 ^ n)=((a >>> n:Nat):Int):=by
  rw[Int.fdiv_eq_ediv_of_nonneg _ (Int.le_of_lt (Int.pow_pos (by omega))),Nat.shiftRight_eq_div_pow];simp
 simp only[Op.shift,h6,if_false,Int.toNat_natCast,h3,h7]
section
variable {P:Program} {r:Option Nat} {N:Nat} {D:List Deferred} {e:Env} {w:World} {ops:Array Oper} {rest:List Oper} {K:List Deferred→Env→World→Prop} {Kq:Env→Prop} {C:World→Prop}
variable {d:Nat} {t:TypeId} {p:String} {af:Array Edge} {x y:Operand} {xt yt:TypeId} {n m:Nat}
theorem U4c(hx:ev e x=uV n)(hy:ev e y=uV m)(hn:n<2 ^ 64)(hm:m<2 ^ 64)(hd:Nat.ble (d+1) N=true)(h:QL P N ops C rest Kq (upd e d (uV (n ||| m)))):
 QL P N ops C (⟨some d,.binOp .or xt x y yt,t,p,af,none⟩::rest) Kq e :=
 D2a Z Z hd (fun w _=>by simp[execOp,hx,hy,eqGuard_or,binOp_or,uV,Z5b hn hm]) h
theorem J2c(hx:ev e x=uV n)(hy:ev e y=uV m)(hn:n<2 ^ 64)(hd:Nat.ble (d+1) N=true)(h:WL P r N ops rest K D (upd e d (uV (n &&& m))) w)(hm:m<2 ^ 64:=by omega):
 WL P r N ops (⟨some d,.binOp .and xt x y yt,t,p,af,none⟩::rest) K D e w :=
 P0a Z Z hd (by simp[execOp,hx,hy,eqGuard_and,binOp_and,uV,o3b hn hm]) h
theorem F7b(hx:ev e x=uV 1)(hd:Nat.ble (d+1) N=true)(h:QL P N ops C rest Kq (upd e d (uV (2 ^ n))))(hy:ev e y=.int .i64 (n:Int):=by rfl)(hn:n≤63:=by omega):
 QL P N ops C (⟨some d,.binOp .shl xt x y yt,t,p,af,none⟩::rest) Kq e :=
 D2a Z Z hd (fun w _=>by
  have a0:ev e x=.int .u64 1:=hx;simp only[execOp,a0,hy,eqGuard_shl,binOp_shl,S3d hn,uV,Sem.run_bind,Sem.run_pure,Result.andThen_ok]) h
theorem k5c(hx:ev e x=uV m)(hd:Nat.ble (d+1) N=true)(h:WL P r N ops rest K D (upd e d (uV (m >>> n))) w)(hy:ev e y=.int .i64 (n:Int):=by rfl)(hn:n≤63:=by omega):
 WL P r N ops (⟨some d,.binOp .shr xt x y yt,t,p,af,none⟩::rest) K D e w :=
 P0a Z Z hd (by simp only[execOp,hx,hy,uV,eqGuard_shr,binOp_shr,R3d hn,Sem.run_bind,Sem.run_pure,Result.andThen_ok]) h
end
theorem C7a(a n:Nat):((a >>> n &&& 1:Nat):Int)=1↔a.testBit n=true:=by
 rw[Nat.testBit,Nat.and_comm];simp only[bne_iff_ne];rw[Nat.and_comm,Nat.and_one_is_mod];omega
theorem M3d{a:Int}{n:Nat}(hn:n≤62)(ha:0≤a∧a*((2 ^ n:Nat):Int)<9223372036854775808):Op.shift .shl .i64 a .i64 (n:Int)=pure (.int .i64 (a*((2 ^ n:Nat):Int))):=by
 have h3:min n IntKind.i64.bits=n:=by simp[IntKind.bits];omega
 have h4:(a*2 ^ n:Int)=a*((2 ^ n:Nat):Int):=by simp
 have h6:¬((n:Int)<0):=by omega
 have h7:0≤a*((2 ^ n:Nat):Int):=Int.mul_nonneg ha.1 (Int.natCast_nonneg _);simp only[Op.shift,h6,if_false,Int.toNat_natCast,h3,h4,B7a (h1:=ha.2) _ h7]
section
variable {P:Program} {r:Option Nat} {N:Nat} {D:List Deferred} {e:Env} {w:World} {ops:Array Oper} {rest:List Oper} {K:List Deferred→Env→World→Prop} {Kq:Env→Prop} {C:World→Prop}
variable {d:Nat} {t:TypeId} {p:String} {af:Array Edge} {x y:Operand} {xt yt:TypeId} {n:Nat} {a:Int}
theorem k1d(hx:ev e x=.int .i64 a)(hy:ev e y=.int .i64 (n:Int))(hn:n≤62)(ha:0≤a∧a*((2 ^ n:Nat):Int)<9223372036854775808)(hd:Nat.ble (d+1) N=true)(h:QL P N ops C rest Kq (upd e d (.int .i64 (a*((2 ^ n:Nat):Int))))):
 QL P N ops C (⟨some d,.binOp .shl xt x y yt,t,p,af,none⟩::rest) Kq e :=
 D2a Z Z hd (fun w _=>by simp only[execOp,hx,hy,eqGuard_shl,binOp_shl,M3d hn ha,Sem.run_bind,Sem.run_pure,Result.andThen_ok]) h
end
theorem a8b(n k:Nat)(hk:k≤62):n9a (n:Int) (((2 ^ k:Nat):Int)-1)=((n % 2 ^ k:Nat):Int):=by
 rw[←p9a,q3a _ _ hk,p9a];simp
theorem B0c(v:Int)(k:Nat)(h0:0≤v)(hk:k≤62:=by omega):n9a v (((2 ^ k:Nat):Int)-1)=((v.toNat % 2 ^ k:Nat):Int):=by
 have:=a8b v.toNat k hk
 rwa [Int.toNat_of_nonneg h0] at this
theorem E8c(a b l:Nat)(ha:a<2 ^ l)(a0:a+b*2 ^ l<2 ^ 62):bor (a:Int) ((b*2 ^ l:Nat):Int)=((a+b*2 ^ l:Nat):Int):=by
 have h1:a ||| b*2 ^ l=a+b*2 ^ l:=by
  have:=Nat.two_pow_add_eq_or_of_lt ha b;rw[Nat.or_comm,Nat.mul_comm,←this,Nat.add_comm]
 have h2:bor (a:Int) ((b*2 ^ l:Nat):Int)=IntKind.i64.wrap ((BitVec.ofInt 64 (a:Int) ||| BitVec.ofInt 64 ((b*2 ^ l:Nat):Int)).toNat:Int):=Z;rw[h2,s1b,s1b,BitVec.toNat_or,BitVec.toNat_ofNat,BitVec.toNat_ofNat,Nat.mod_eq_of_lt (by omega),Nat.mod_eq_of_lt (by omega),h1];exact B7a _ (by omega)
theorem G2b{y:Nat}(h:1≤(y:Int)∧(y:Int)≤8):2≤2 ^ y∧2 ^ y≤256 :=
 ⟨Nat.pow_le_pow_right (n:=2) (i:=1) (by omega) (by omega),Nat.pow_le_pow_right (n:=2) (j:=8) (by omega) (by omega)⟩
theorem e1d{z:Int}{y lo:Nat}(h:1≤(y:Int)∧(y:Int)≤8)(hz:0≤z)(hl:lo≤12):0≤n9a z (((2 ^ y:Nat):Int)-1)∧n9a z (((2 ^ y:Nat):Int)-1)*((2 ^ lo:Nat):Int)<9223372036854775808:=by
 rw[B0c z y hz];have h1:=G2b h;have h2:2 ^ lo≤4096:=Nat.pow_le_pow_right (n:=2) (j:=12) (by omega) (by omega);have h3:z.toNat % 2 ^ y<2 ^ y:=Nat.mod_lt _ (by omega);have h4:z.toNat % 2 ^ y*2 ^ lo≤256*4096:=Nat.mul_le_mul (by omega) h2;refine⟨Int.natCast_nonneg _,?_⟩;rw[←Int.natCast_mul];omega
theorem u3c{z:Int}{y lo a n t:Nat}(h:1≤(y:Int)∧(y:Int)≤8)(hz:0≤z)(hl:lo+y≤12)(ha:a<2 ^ lo)(ht:a+2 ^ lo*(z.toNat % 2 ^ y+2 ^ y*n)=t):
 ∃b:Nat,bor (a:Int) (n9a z (((2 ^ y:Nat):Int)-1)*((2 ^ lo:Nat):Int))=(b:Int)∧b<2 ^ (lo+y)∧b+2 ^ (lo+y)*n=t:=by
 have h1:=G2b h;have h2:2 ^ lo≤4096:=Nat.pow_le_pow_right (n:=2) (j:=12) (by omega) (by omega);have h3:z.toNat % 2 ^ y<2 ^ y:=Nat.mod_lt _ (by omega);have h4:z.toNat % 2 ^ y*2 ^ lo≤256*4096:=Nat.mul_le_mul (by omega) h2;have h5:(z.toNat % 2 ^ y+1)*2 ^ lo≤2 ^ y*2 ^ lo:=Nat.mul_le_mul_right _ h3;rw[Nat.add_mul,Nat.one_mul] at h5;refine⟨a+z.toNat % 2 ^ y*2 ^ lo,?_,?_,?_⟩
 ·rw[B0c z y hz,←Int.natCast_mul];exact E8c _ _ _ ha (by omega)
 ·rw[Nat.pow_add,Nat.mul_comm (2 ^ lo)];omega
 ·rw[←ht,Nat.pow_add,Nat.mul_add,Nat.mul_assoc,Nat.mul_comm (2 ^ lo) (z.toNat % 2 ^ y)];omega
theorem h8a(C W s:List Int)(n:Nat)(M:List Nat)(w0:World)(v u i vb:Value)(hC:RdI M w0 v C)(hW:RdI M w0 u W)(h:P9a C W)(hs:b2a W≤12)(hb:RdI M w0 vb s)(u0:s.length=32)(K0:∀x∈s,0≤x∧x<256)(hn:n<4096:=by omega):E0a prog 126 #[.agg #[v,u,i],.int .i64 n,vb] w0 fun v w'=>r5a w0 w' v (stZ C W n s)∧Below w0.heap.size w0 w':=by
 obtain⟨A,nc,c,rfl⟩:=hC.form;obtain⟨_,-,_⟩:=hC.len;obtain⟨A',nw,c',rfl⟩:=hW.form;obtain⟨_,-,_⟩:=hW.len;have H0:=h.len;have S:=St.refl w0;refine a0a func126 Z ntmps126 Z ?_;refine wO0 Z U (p0a S Z ?_);intro g3 w3 S3 X3 G3;refine lOn 5 S3.k [] Z U (I0a Z ?_);refine j0a S3 v9a Z Z (D5a M _ _ s (hb.keep (S3.keep0 M))) ?_;rintro U0 V0 o0 y0 Q0;obtain⟨Gm,b0,c0,a0⟩:=o0.open_ y0 S3;obtain⟨d0,s0,f0,rfl⟩:=c0.form;refine lO a0.k [.w 1] Z ⟨⟨Z,Z⟩,U⟩ (g0a a0 i6b Z Z (N7a M _ _ _ _ C W (hC.keep (a0.keep0 M)) (hW.keep (a0.keep0 M)) h hs) ?_);intro W0 t0 R0;refine lC t0.k [.o 1] Z ⟨Z,U⟩ (wL (fun μk D ε w=>D=[]∧∃k:Nat,∃m:Nat,∃st:List Int,∃b0:List Value,(k+μk=(C.length))∧(t4a Gm 1 32 b0 (.slice d0 s0 f0) (st.map (Value.int .i64)))∧(m<4096)∧(st.length=32)∧(stZ (C.drop k) (W.drop k) m st=stZ C W n s)∧St [] w0 w [(Gm,3,b0),(some g3,89,[.slice A nc c,.slice A' nw c',i])]∧Sl ε [(1,.int .i64 (m:Int)),(3,.pointer (some ⟨g3,0,none⟩)),(7,.slice d0 s0 f0),(18,.slice A nc c),(19,.int .i64 nc),(20,.int .i64 k)]) (μ:=(C.length)) ⟨Z,0,n,s,b0,by omega,u0▸c0,hn,u0,Z,t0,Z⟩ ?_);rintro μk D ε w ⟨rfl,k,m,st,b0,_,c0,hm,r0,he,S,eZ⟩;refine wK eZ (wB0 Z U (fun C0=>?_) fun C0=>?_)
 ·obtain⟨x,A0,N0,_,v0,g0,_,_,j0,p0⟩:=RdS.get (hC) (k) (by omega);obtain⟨rfl,_⟩:=id p0;have S0:=h.cell x (d0a v0);obtain⟨y,B0,O0,_,x0,i0,_,_,m0,q0⟩:=RdS.get (hW) (k) (by omega);obtain⟨rfl,_⟩:=id q0;have D0:=h.wid y (d0a x0);obtain⟨y,rfl⟩:=Int.eq_ofNat_of_zero_le (show 0≤y by omega);have T0:=G2b D0;have G0:=S3c v0 x0 m st;have F0:=a8b m y (by omega);obtain⟨gm,pad,rfl,L0,rfl,I0⟩:=c0.pad (by omega);cases L0;refine lB ((S.k.a m0).a j0) [.x A0 N0,.f 0 0,.o 1,.x B0 O0,.f 1 0] Z ⟨Z,⟨i0,by omega⟩,Z,Z,⟨g0,by omega⟩,U⟩ (fun E0=>?_) (fun E0=>by exfalso;omega);refine lO0 Z U (I0b (n:=y) Z Z ?_);refine lO0 Z ⟨by omega,U⟩ (N0a Y0a.slT Z (by rfl) Z Z ?_);refine c1a (kk:=0) S E2d Z Z Z (by(simp;omega)) ?_;intro P0 e0 z0;refine lO0 Z U (h3d (n:=y) Z (by rfl) (by omega) Z ?_);refine lP0 Z ⟨by omega,U⟩ ?_;refine⟨μk-1,by omega,Z,(k+1),(m / 2 ^ y),(st.set x.toNat ((m % 2 ^ y:Nat):Int)),(_),(by omega),?_,(Nat.lt_of_le_of_lt (Nat.div_le_self _ _) hm),(by simp[r0]),(by rw[←he,G0];rfl),e0,Z⟩;have z:=t4a.ofPad (g:=gm) (l:=st.set x.toNat ((m % 2 ^ y:Nat):Int)) (pad:=pad) (by simpa using I0);rw[←t7c (by omega)] at z;rw[F0];simpa[r0] using z
 refine lR0 Z U (s0a Z ?_);have n0:st=stZ C W n s:=by rw[←he,show C.drop k=[] from List.drop_eq_nil_of_le (by omega)];rfl
 have J0:x4a 3 w0 w (.slice d0 s0 f0) (stZ C W n s):=⟨Gm,b0,by rw[←n0,r0];exact c0,fun g hg=>by subst hg;exact⟨by simpa using S.new 0 Z,S.blk 0 Z⟩⟩;exact⟨fun M hM=>J0.rd hM (fun x hx=>by have:=w2b C W n s h.wid K0 x hx;unfold i64;omega) S.fin (by rw[h5b];omega),S.fin⟩
theorem M5b(C W s:List Int)(M:List Nat)(w0:World)(v u i vb:Value)(hC:RdI M w0 v C)(hW:RdI M w0 u W)(h:P9a C W)(hs:b2a W≤12)(hb:RdI M w0 vb s)(O0:s.length=32)(p0:∀x∈s,0≤x):E0a prog 129 #[.agg #[v,u,i],vb] w0 fun v w'=>v=.int .i64 (nuZ C W s:Nat)∧Below w0.heap.size w0 w':=by
 obtain⟨A,nc,c,rfl⟩:=hC.form;obtain⟨_,-,_⟩:=hC.len;obtain⟨A',nw,c',rfl⟩:=hW.form;obtain⟨_,-,_⟩:=hW.len;obtain⟨Ab,nb,cb,rfl⟩:=hb.form;obtain⟨_,-,_⟩:=hb.len;have D0:=h.len;have S:=St.refl w0;refine a0a func129 Z ntmps129 Z ?_;refine wO0 Z U (p0a S Z ?_);intro g2 w2 S2 X2 G2;refine lO S2.k [.w 0] Z ⟨⟨Z,Z⟩,U⟩ (g0a S2 i6b Z Z (N7a M _ _ _ _ C W (hC.keep (S2.keep0 M)) (hW.keep (S2.keep0 M)) h hs) ?_);intro R0 o0 J0;refine lC o0.k [.o 0] Z ⟨Z,U⟩ (wL (fun μk D ε w=>D=[]∧∃k:Nat,∃acc:Int,∃lo:Nat,(k+μk=(C.length))∧((lo:Int)=b2a (W.take k))∧(∃a:Nat,acc=(a:Int)∧a<2 ^ lo∧a+2 ^ lo*nuZ (C.drop k) (W.drop k) s=nuZ C W s)∧St [] w0 w [(some g2,89,[.slice A nc c,.slice A' nw c',i])]∧Sl ε [(1,.slice Ab nb cb),(2,.pointer (some ⟨g2,0,none⟩)),(5,.int .i64 acc),(6,.int .i64 (lo:Int)),(14,.slice A nc c),(15,.int .i64 nc),(16,.int .i64 k)]) (μ:=(C.length)) ⟨Z,0,0,0,by omega,Z,⟨0,Z,by omega,by simp⟩,o0,Z⟩ ?_);rintro μk D ε w ⟨rfl,k,acc,lo,_,_,he,S,eZ⟩;refine wK eZ (wB0 Z U (fun z0=>?_) fun z0=>?_)
 ·obtain⟨x,v0,G0,_,r0,b0,_,_,e0,i0⟩:=RdS.get (hC) (k) (by omega);obtain⟨rfl,_⟩:=id i0;have K0:=h.cell x (d0a r0);obtain⟨y,x0,H0,_,n0,c0,_,_,f0,j0⟩:=RdS.get (hW) (k) (by omega);obtain⟨rfl,_⟩:=id j0;have a0:=h.wid y (d0a n0);obtain⟨y,rfl⟩:=Int.eq_ofNat_of_zero_le (show 0≤y by omega);have L0:=G2b a0;have B0:=b4c r0 n0 s;have F0:=L4a n0;have Q0:=m2a h.wid (k+1);have P0:=m2a h.wid k;refine lB ((S.k.a f0).a e0) [.x v0 G0,.f 0 0,.o 0,.x x0 H0,.f 1 0] Z ⟨Z,⟨c0,by omega⟩,Z,Z,⟨b0,by omega⟩,U⟩ (fun A0=>?_) (fun A0=>by exfalso;omega);have q0:x.toNat<s.length:=by omega
  have E0:0≤s[x.toNat]:=p0 _ (List.getElem_mem q0);have C0:s.getD x.toNat 0=s[x.toNat]:=by rw[List.getD_eq_getElem?_getD,List.getElem?_eq_getElem q0];rfl
  refine lC0 Z U (y0a b0a [0,1,2,3,4,5,6,7,8,9,10,11,12] [] [] Z (Cl _ _ _ _) (Cl.start S) ?_);obtain⟨z,y0,I0,_,s0,d0,_,_,g0,m0⟩:=RdS.get (hb) (x.toNat) (by omega);obtain⟨rfl,_⟩:=id m0;have t0:=p0 z (d0a s0);have N0:=e1d a0 t0 (show lo≤12 by omega);refine qO (S.q.a g0) [.x y0 I0,.f 0 0] Z ⟨Z,⟨d0,by omega⟩,U⟩ (U0d (n:=y) Z (by rfl) (by omega) Z ?_);refine qO0 Z ⟨by omega,U⟩ (k1d (n:=lo) Z (by rfl) (by omega) (by assumption) Z ?_);refine qD Z U ?_;rintro S0 ⟨u0,_⟩;refine lP0 Z ⟨by omega,by omega,U⟩ ?_;refine⟨μk-1,by omega,Z,(k+1),(_),(lo+y),(by omega),(by rw[F0];omega),?_,u0,Z⟩;obtain⟨a,rfl,ha,ht⟩:=he;rw[B0,C0,(List.getElem?_eq_some_iff.1 s0).2] at ht;exact u3c a0 t0 (by omega) ha ht
 refine lR0 Z U (s0a Z ?_);obtain⟨a,rfl,ha,ht⟩:=he;rw[show C.drop k=[] from List.drop_eq_nil_of_le (by omega)] at ht;exact⟨by rw[←ht];simp[nuZ],S.fin⟩
section
variable {P:Program} {r:Option Nat} {N:Nat} {l:List Oper} {D:List Deferred} {C:World→Prop} {V:w0c}
def m5c(l:List Oper)(pur:Nat→Bool)(m:Nat):Bool :=
 X2a l&&((List.range l.length).all fun i=>(V0a l i).all fun j=>decide (j<i))&&((List.range m).all fun i=>(List.range i).all fun j=>(L3a l i).contains j||M7a l pur j i)&&((List.range l.length).all fun i=>decide (i<m)||(List.range i).all fun j=>(L3a l i).contains j)&&decide (m<l.length)
def TL(P:Program)(r:Option Nat)(N:Nat)(l:List Oper)(D:List Deferred)(n:List Deferred→Env→World→Prop):List Oper→Env→World→Prop
 | [],e,w=>n D e w
 | o::rest,e,w=>WL P r N l.toArray [o] (fun D' e' w'=>D'=D∧TL P r N l D n rest e' w') D e w
theorem E6b{id:Nat}{n t:List Deferred→Env→World→Prop}{b:Nat→List Deferred→Env→World→Prop}{e:Env}{w:World}(hm:P.follows .mixedOrders=true)(ix:List Nat)
 (m:Nat) (C:World→Prop) (hC:C w.drew) (V:w0c) (hV:∀i f args Qp Qw,V i=some (f,args,Qp,Qw)→(∃u,Qp u)∧(∀u w w',u0a [] w w'→Qw u w→Qw u w')∧∀w,C w→E0a P f args w fun u w'=>(Qp u∧Qw u w')∧C w'∧u0a [] w w') (ts:List Oper) (O0:l.drop m=ts)
 (h:FL P N l C V (fun e w=>TL P r N l D n ts e w) w.heap.size ix e [] (fun _=>True)) (t0:m5c l (fun _=>true) m=true:=by kernel_rfl) (hix:(List.range m==ix)=true:=by kernel_rfl):W P r N (.region id l.toArray true) ⟨n,b,t⟩ D e w:=by
 obtain rfl:List.range m=ix:=eq_of_beq hix;subst O0;generalize y0:(fun(e:Env) (w:World)=>TL P r N l D n (l.drop m) e w)=K' at h;unfold m5c at t0;simp only[Bool.and_eq_true,decide_eq_true_eq] at t0;obtain⟨⟨⟨⟨u0,E0⟩,H0⟩,f0⟩,L0⟩:=t0;have K0:∀i,m≤i→i<l.length→∀j,j<i→j∈L3a l i:=fun i d0 hi j hj=>by
  have:=List.all_eq_true.1 f0 i (List.mem_range.2 hi);simp only[Bool.or_eq_true,decide_eq_true_eq] at this;rcases this with h|h
  ·omega
  ·have:=List.all_eq_true.1 h j (List.mem_range.2 hj);simpa using this
 refine T3c hm E0 (fun f e w=>(∀i,f i=true→∀j∈V0a l i,f j=true)∧(((∀i,m≤i→f i=false)∧C w∧∃lo Φ,lo≤w.heap.size∧(∀w w',Φ w→u0a [] w w'→Φ w')∧Φ w∧FL P N l C V K' lo (J6a m f) e [] Φ)∨(∃q,m<q∧(∀i,q≤i→f i=false)∧(∀i,i<q→f i=true)∧TL P r N l D n (l.drop q) e w))) ⟨by simp,.inl ⟨fun _ _=>rfl,hC,w.heap.size,fun _=>True,Nat.le_refl _,fun _ _ _ _=>trivial,trivial,?_⟩⟩ ?_ ?_
 ·have:J6a m (fun _=>false)=List.range m:=by unfold J6a;simp
  rw[this];exact h
 ·rintro f e w i o ⟨o0,hM⟩ ho r0 v0;have s0:i<l.length:=(List.getElem?_eq_some_iff.1 ho).1;have b0:∀k,(f k||k==i)=true→∀j∈V0a l k,(f j||j==i)=true:=by
   intro k hk j hj;simp only[Bool.or_eq_true,beq_iff_eq] at hk ⊢;rcases hk with hk|rfl
   ·exact .inl (o0 k hk j hj)
   ·exact .inl (v0 j hj)
  have a0:m≤i→∀j,j<i→f j=true:=fun d0 j hj=>W2a o0 _ _ v0 j (K0 i d0 s0 j hj);have j0:∀e w,m≤i→(∀k,i≤k→f k=false)→TL P r N l D n (l.drop i) e w→WL P r N l.toArray [o] (fun D' e' w'=>D'=D∧(∀k,(f k||k==i)=true→∀j∈V0a l k,(f j||j==i)=true)∧(((∀k,m≤k→(f k||k==i)=false)∧C w'∧∃lo Φ,lo≤w'.heap.size∧(∀w w',Φ w→u0a [] w w'→Φ w')∧Φ w'∧FL P N l C V K' lo (J6a m fun j=>f j||j==i) e' [] Φ)∨(∃q,m<q∧(∀k,q≤k→(f k||k==i)=false)∧(∀k,k<q→(f k||k==i)=true)∧TL P r N l D n (l.drop q) e' w'))) D e w:=fun e w d0 F0 h4=>by
   obtain⟨h1,h2⟩:=List.getElem?_eq_some_iff.1 ho;rw[List.drop_eq_getElem_cons h1,h2] at h4;unfold TL at h4;clear hM h y0;unfold WL at *;refine fun a Q hs hD he hK=>h4 a Q hs hD he (fun a' w' Q0 hh=>hK a' w' Q0 ?_);refine⟨hh.1,b0,.inr ⟨i+1,by omega,fun k hk=>?_,fun k hk=>?_,hh.2⟩⟩
   ·rw[F0 k (by omega)];simp;omega
   ·by_cases J0:k=i
    ·simp[J0]
    ·rw[a0 d0 k (by omega)];rfl
  rcases hM with⟨e0,n0,lo,Φ,C0,g0,hΦ,hM⟩|⟨q,hq,p0,A0,hM⟩
  rotate_left
  ·have T0:q≤i:=by
    rcases Nat.lt_or_ge i q with h|h
    ·rw[A0 i h] at r0;cases r0
    ·exact h
   have I0:i=q:=by
    rcases Nat.lt_or_ge q i with h|h
    ·have:=a0 (by omega) q h;rw[p0 q (Nat.le_refl _)] at this;cases this
    ·omega
   subst I0;exact j0 e w (by omega) p0 hM
  by_cases G0:m≤i
  ·have d0:i=m:=by
    rcases Nat.lt_or_ge m i with h|h
    ·have:=a0 G0 m h;rw[e0 m (Nat.le_refl _)] at this;cases this
    ·omega
   subst d0;have x0:J6a i f=[]:=by
    unfold J6a;rw[List.filter_eq_nil_iff];intro j hj;simp[a0 (Nat.le_refl _) j (List.mem_range.1 hj)]
   rw[x0] at hM;have h4:=hM w n0 hΦ;rw[←y0] at h4;exact j0 e w (Nat.le_refl _) e0 h4
  have B0:i<m:=by omega
  have c0:∀k,m≤k→(f k||k==i)=false:=fun k hk=>by rw[e0 k hk];simp;omega
  obtain⟨S0,_,h1,h2,h3⟩:=U9a (m:=m) f B0 r0;rw[h1] at hM;have R0:∀j∈L3a l i,f j=true:=W2a o0 _ _ v0;obtain⟨o',_,N0,hd,hN,h4⟩:=FL.first u0 (fun i f args Qp Qw h=>(hV i f args Qp Qw h).1) n0 C0 S0 e [] Φ (fun j hj=>by
   have:=List.all_eq_true.1 (List.all_eq_true.1 H0 i (List.mem_range.2 B0)) j (List.mem_range.2 (h3 j hj).1);simp only[Bool.or_eq_true,List.contains_eq_mem,decide_eq_true_eq] at this;rcases this with h|h
   ·have:=R0 j h;rw[(h3 j hj).2] at this;cases this
   ·exact h) (by simp) hM
  obtain rfl:o'=o:=Option.some.inj (N0.symm.trans ho);rcases h4 with⟨hw,v,w',hv,m0,q0,h4⟩|⟨hw,h4⟩|⟨hw,f',args,Qp,Qw,z0,hv,h4⟩
  rotate_right
  ·unfold WL;intro a Q hs hD he hK;simp only[wpListIn];have i0:Region.wanted o' (yielded l.toArray a.tmps)=true:=by rw[h1a,he];exact hw
   simp only[i0,if_true];refine⟨A0a _ _ _,?_⟩;rw[Oper.semAt_eq _ _ _ (t0a u0 ho).2,h2a,he,hv,Oper.uponIn_enter];refine⟨fun hh=>by simp[fc,Fence.wide] at hh,J4a (Calls.mono ((hV _ _ _ _ _ z0).2.2 w n0) ?_)⟩;rintro en w' ⟨u,rfl,⟨hu,D0⟩,m0,q0⟩;rw[hd];refine hK _ _ (by simp[Act.put,hs]) ⟨by simp[Act.put,hD],?_⟩;rw[S0a u (by rw[hs];exact hN),he];exact⟨b0,.inl ⟨c0,m0,w'.heap.size,(fun w1=>(Φ w1∧Qw u w1)∧u0a [] w' w1),Nat.le_refl _,fun w1 w2 h5 h6=>⟨⟨g0 _ _ h5.1.1 h6,(hV _ _ _ _ _ z0).2.1 u _ _ h6 h5.1.2⟩,h5.2.trans h6⟩,⟨⟨g0 _ _ hΦ q0,D0⟩,u0a.refl _ _⟩,by rw[h2];exact h4 u w' hu D0 m0 q0⟩⟩
  ·unfold WL;intro a Q hs hD he hK;simp only[wpListIn];have i0:Region.wanted o' (yielded l.toArray a.tmps)=true:=by rw[h1a,he];exact hw
   simp only[i0,if_true];refine⟨A0a _ _ _,?_⟩;rw[Oper.semAt_eq _ _ _ (t0a u0 ho).2,h2a,he,hv,Oper.uponIn_value];refine hK _ _ (by simp[Act.put,hd,hs]) ⟨by simp[Act.put,hd,hD],?_⟩;rw[hd,S0a v (by rw[hs];exact hN),he];exact⟨b0,.inl ⟨c0,m0,w'.heap.size,(fun w1=>Φ w1∧u0a [] w' w1),Nat.le_refl _,fun w1 w2 h5 h6=>⟨g0 _ _ h5.1 h6,h5.2.trans h6⟩,⟨g0 _ _ hΦ q0,u0a.refl _ _⟩,by rw[h2];exact h4⟩⟩
  ·unfold WL;intro a Q hs hD he hK;simp only[wpListIn];have i0:Region.wanted o' (yielded l.toArray a.tmps)=false:=by rw[h1a,he];exact hw
   simp only[i0];refine⟨A0a _ _ _,?_⟩;refine hK _ _ (by simp[Act.put,hd,hs]) ⟨by simp[Act.put,hd,hD],?_⟩;rw[hd,S0a undef (by rw[hs];exact hN),he];exact⟨b0,.inl ⟨c0,n0,lo,Φ,C0,g0,hΦ,by rw[h2];exact h4⟩⟩
 ·rintro f e w ⟨o0,hM⟩ a0;rcases hM with⟨e0,-⟩|⟨q,hq,p0,A0,hM⟩
  ·have:=a0 m L0;rw[e0 m (Nat.le_refl _)] at this;cases this
  ·have P0:l.length≤q:=by
    rcases Nat.lt_or_ge q l.length with h|h
    ·have:=a0 q h;rw[p0 q (Nat.le_refl _)] at this;cases this
    ·exact h
   rw[List.drop_eq_nil_of_le P0] at hM;exact hM
theorem n2c{n:List Deferred→Env→World→Prop}{e:Env}{w:World}(h:n D e w):TL P r N l D n [] e w:=h
theorem C6a{n:List Deferred→Env→World→Prop}{e:Env}{w:World}{o:Oper}{rest:List Oper}(h:WL P r N l.toArray [o] (fun D' e' w'=>D'=D∧TL P r N l D n rest e' w') D e w):TL P r N l D n (o::rest) e w:=h
end
def X1a:List Value:=List.replicate 64 (uV 0)
theorem D5b{k:Nat}(h:k<64:=by omega):X1a[(k:Int).toNat*1]?=some (uV 0):=by
 unfold X1a;rw[Int.toNat_natCast,Nat.mul_one,List.getElem?_replicate,if_pos h]
theorem G9a:f0a X1a 0 X1a=X1a:=by rfl
theorem W7b:X1a.length=64:=by simp[X1a]
theorem B3c{k:Nat}(h:k<64):X1a.set k (uV 0)=X1a:=by
 apply List.ext_getElem?;intro i;rw[List.getElem?_set]
 split
 ·rename_i h1;subst h1;rw[if_pos (by rw[W7b];omega)];have:=D5b (h:=h);rw[Int.toNat_natCast,Nat.mul_one] at this;exact this.symm
 ·rfl
theorem b4b(g:Nat)(w0:World)(hB:Cells w0 g 0 X1a):E0a prog 231 #[.pointer (some ⟨g,0,none⟩)] w0 fun v w'=>v=.slice none 0 0∧Below w0.heap.size w0 w':=by
 have S:=St.refl w0;refine a0a func231 Z ntmps231 Z ?_;refine wC0 Z U (wL (fun μk D ε w=>D=[]∧∃k:Nat,(k+μk=(64))∧St [] w0 w []∧Sl ε [(3,.slice none 0 0),(6,.pointer (some ⟨g,0,none⟩)),(7,.int .i64 k)]) (μ:=(64)) ⟨Z,0,by omega,S,Z⟩ ?_);rintro μk D ε w ⟨rfl,k,_,S,eZ⟩;refine wK eZ (wB0 Z U (fun h8=>?_) fun h8=>?_)
 ·have hz:=(S.keep0 []).cell (a:=⟨g,_,none⟩) List.not_mem_nil (hB _ _ (D5b (k:=k)));refine lC0 Z U (y0a b0a [0,1,2,3,4,5] [] [] Z (Cl _ _ _ _) (Cl.start S) ?_);refine qO0 Z U (r0a e3b Z Z Z ?_);refine i0a Z3a Z (fun w1 hw=>by first|exact hw.2.cell List.not_mem_nil hz) Z ?_;refine qD Z U ?_;rintro c0 ⟨a0,_⟩;refine lC0 Z U (wL (fun μ D ε w=>D=[]∧(0≤μ)∧St [] w0 w []∧Sl ε [(3,.slice none 0 0),(4,.int .i64 k),(5,.int .u64 ((0:Nat):Int)),(6,.pointer (some ⟨g,0,none⟩)),(7,.int .i64 k)]) (μ:=0) ⟨Z,Nat.zero_le _,a0,Z⟩ ?_);rintro μ D ε w ⟨rfl,_,S,eZ⟩;refine wK eZ (wOn 4 S.k [] Z U ?_);refine p3d Z Z Z (fun b0=>?_) fun b0=>?_
  ·exfalso;omega
  refine lP0 Z ⟨by omega,U⟩ ⟨μk-1,by omega,Z,(k+1),(by omega),S,Z⟩
 exact lT Z U Z ⟨Z,S.fin⟩
theorem I7b(A:Option Addr)(c:Nat)(w0:World):E0a prog 262 #[.slice A 0 c] w0 fun v w'=>v=.agg X1a.toArray∧Below w0.heap.size w0 w':=by
 have S:=St.refl w0;refine a0a func262 Z ntmps262 Z ?_;refine wO0 Z U (h0a (cs:=X1a) S a4b Z Z ?_);intro g2 w2 S2 X2 G2;refine lO0 Z U (h0a (cs:=X1a) S2 a4b Z Z ?_);intro g3 w3 S3 X3 G3;refine lC0 Z U (wL (fun μ D ε w=>D=[]∧(0≤μ)∧St [] w0 w [(some g3,259,X1a),(some g2,259,X1a)]∧Sl ε [(2,.pointer (some ⟨g2,0,none⟩)),(3,.pointer (some ⟨g3,0,none⟩)),(6,.slice A 0 c),(7,.int .i64 0),(8,.int .i64 0)]) (μ:=0) ⟨Z,Nat.zero_le _,S3,Z⟩ ?_);rintro μ D ε w ⟨rfl,_,S,eZ⟩;refine wK eZ ?_;refine wB0 Z U (fun h9=>by exfalso;omega) fun h9=>?_;refine lO S.k [.w 0] Z ⟨⟨Z,by rfl⟩,U⟩ (c0a (kk:=1) (vs:=X1a) S F0c Z Z Z Z Z Z Z ?_);intro c0 a0 b0;rw[G9a] at a0;exact lR0 Z U (w0a (n:=64) Z P7b Z (a0.cells 1 Z) Z ⟨Z,a0.fin⟩)
def d3c(u:Value):Prop:=∃A n c B m d E l f,u=.agg #[.slice A n c,.slice B m d,.slice E l f]
theorem L4c{w0 w:World}{v:Value}{Ai:Option Addr}{ni ci:Nat}{C W:List Int}(h:∃a b,v=.agg #[a,b,.slice Ai ni ci]∧r5a w0 w a C∧r5a w0 w b W):d3c v:=by
 obtain⟨a,b,rfl,h1,h2⟩:=h;obtain⟨_,_,_,rfl⟩:=h1.form;obtain⟨_,_,_,rfl⟩:=h2.form;exact⟨_,_,_,_,_,_,_,_,_,Z⟩
theorem P3b(l:List Int)(M:List Nat)(w0:World)(v u:Value)(hC:RdI M w0 v l)(hW:RdI M w0 u l):E0a prog 261 #[v,u] w0 fun v w'=>v=.bool true∧Below w0.heap.size w0 w':=by
 obtain⟨A,n,c,rfl⟩:=hC.form;obtain⟨_,-,_⟩:=hC.len;obtain⟨A',n',c',rfl⟩:=hW.form;obtain⟨_,-,_⟩:=hW.len;have S:=St.refl w0;refine a0a func261 Z ntmps261 Z ?_;refine wB0 Z U (fun n0=>by exfalso;omega) fun n0=>?_;refine lC0 Z U (wL (fun μk D ε w=>D=[]∧∃k:Nat,(k+μk=(l.length))∧St [] w0 w []∧Sl ε [(0,.slice A n c),(1,.slice A' n' c'),(12,.int .i64 n),(13,.int .i64 k)]) (μ:=(l.length)) ⟨Z,0,by omega,S,Z⟩ ?_);rintro μk D ε w ⟨rfl,k,_,S,eZ⟩;refine wK eZ (wB0 Z U (fun o0=>?_) fun o0=>?_)
 ·refine lC0 Z U (y0a b0a [0,1,2,3,4,5,6,7,8] [] [] Z (Cl _ _ _ _) (Cl.start S) ?_);obtain⟨x,j0,r0,_,q0,a0,_,_,c0,e0⟩:=RdS.get (hC) (k) (by omega);obtain⟨rfl,_⟩:=id e0;obtain⟨_,m0,s0,_,g0,b0,_,_,d0,f0⟩:=RdS.get (hW) (k) (by omega);obtain rfl:=Option.some.inj (q0.symm.trans g0);obtain⟨rfl,_⟩:=id f0;refine qB ((S.q.a d0).a c0) [.x j0 r0,.f 0 0,.x m0 s0,.f 1 0] Z ⟨Z,⟨b0,by omega⟩,Z,⟨a0,by omega⟩,U⟩ (fun p0=>by exfalso;omega) fun p0=>?_;refine qD Z U ?_;rintro t0 ⟨i0,_⟩;refine lP0 Z ⟨by omega,U⟩ ⟨μk-1,by omega,Z,(k+1),(by omega),i0,Z⟩
 exact lT Z U Z ⟨Z,S.fin⟩
theorem Q2c(w0:World):E0a prog 240 #[uV 0,uV 0] w0 fun v w'=>v=uV 0∧Below w0.heap.size w0 w':=by
 have S:=St.refl w0;refine a0a func240 Z ntmps240 Z ?_;refine wOn 9 S.k [] Z U (J2c (n:=0) (m:=0) Z Z (by omega) Z ?_);exact lT Z U Z ⟨Z,S.fin⟩
theorem A8b(M:List Nat)(w0:World)(v u:Value)(Ai:Option Addr)(ci:Nat)(C W:List Int)(c0:RdI M w0 v C)(hW:RdI M w0 u W)(hI:RdI M w0 (.slice Ai 0 ci) [])(h:P9a C W)(hs:b2a W≤12):
 E0a prog 239 #[.agg #[v,u,.slice Ai 0 ci],.agg #[v,u,.slice Ai 0 ci],.func (.func 240) #[] #[]] w0 fun v w'=>(∃a,d3c a∧v=.tuple #[a,.int .i64 0])∧Below w0.heap.size w0 w':=by
 obtain⟨A,n,c,rfl⟩:=c0.form;obtain⟨A',n',c',rfl⟩:=hW.form;have R0:=h.clen;have E0:=h.len;have B0:∀x∈C,i64 x:=fun x hx=>by have:=h.cell x hx;unfold i64;omega
 have F0:∀x∈W,i64 x:=fun x hx=>by have:=h.wid x hx;unfold i64;omega
 have S:=St.refl w0;refine a0a func239 Z ntmps239 Z ?_;refine wO0 Z U (p0a S Z ?_);intro g3 w3 S3 X3 G3;refine p0a S3 Z ?_;intro g4 w4 S4 X4 G4;refine h0a S4 S8a Z Z ?_;intro g6 w6 S6 X6 G6;refine lO S6.k [.w 2] Z ⟨⟨Z,Z⟩,U⟩ (g0a S6 L0c Z Z (W0b M _ _ _ Ai ci C W (c0.keep (S6.keep0 M)) (hW.keep (S6.keep0 M)) (hI.keep (S6.keep0 M)) h hs) ?_);intro T0 d0 L0;refine lO d0.k [.w 1] Z ⟨⟨Z,Z⟩,U⟩ (g0a d0 L0c Z Z (W0b M _ _ _ Ai ci C W (c0.keep (d0.keep0 M)) (hW.keep (d0.keep0 M)) (hI.keep (d0.keep0 M)) h hs) ?_);intro U0 i0 N0;refine lO i0.k [.o 2,.o 1] Z ⟨Z,Z,U⟩ (g0a i0 C1c Z Z (P3b C M _ _ _ (c0.keep (i0.keep0 M)) (c0.keep (i0.keep0 M))) ?_);intro V0 j0 O0;refine lO j0.k [.o 2,.o 1] Z ⟨Z,Z,U⟩ (g0a j0 C1c Z Z (P3b W M _ _ _ (hW.keep (j0.keep0 M)) (hW.keep (j0.keep0 M))) ?_);intro W0 m0 P0;refine lC0 Z U (E6b b0a [0,1,2,3,4,5,6,7] 8 (Cl _ _ _ _) (Cl.start m0) (fun i=>if i=2 then some (262,#[.slice Ai 0 ci],eqQ (.agg X1a.toArray),noQ) else if i=5 then some (262,#[.slice Ai 0 ci],eqQ (.agg X1a.toArray),noQ) else none) ?_ _ Z ?_)
 ·intro i f a Qp Qw hi;by_cases q0:i=2
  ·subst q0;cases hi;exact⟨⟨_,Z⟩,fun _ _ _ _ _=>trivial,fun w hC=>(I7b Ai ci _).mono fun u w' hr=>⟨⟨hr.1,trivial⟩,hC.later hr.2⟩⟩
  by_cases s0:i=5
  ·subst s0;cases hi;exact⟨⟨_,Z⟩,fun _ _ _ _ _=>trivial,fun w hC=>(I7b Ai ci _).mono fun u w' hr=>⟨⟨hr.1,trivial⟩,hC.later hr.2⟩⟩
  ·simp only[q0,s0,if_false] at hi;cases hi
 refine f9b Z Z ?_;refine U0a d5b Z Z ?_;refine n0a ?_;refine f9b Z Z ?_;refine i0a w5a Z (fun w1 hw=>by exact hw.1.cell 2 Z Z) Z ?_;refine n0a ?_;refine K5b p9b Z Z Z Z Z ?_;refine f9b Z Z ?_;refine U0a d5b Z Z ?_;refine n0a ?_;refine f9b Z Z ?_;refine i0a w5a Z (fun w1 hw=>by exact hw.1.cell 1 Z Z) Z ?_;refine n0a ?_;refine K5b p9b Z Z Z Z Z ?_;refine o7b (cs:=X1a) Z Z Z a4b Z ?_;intro g8 G8 G0;refine o7b (cs:=X1a) Z Z Z a4b Z ?_;intro g9 G9 H0;refine N0c ?_;rintro Y0 ⟨g0,_⟩ ⟨⟨-,C0⟩,D0⟩;clear G0;replace g0:=g0.push_new m0 C0 G8;replace g0:=g0.push_more (L1:=[_]) m0 D0 G9 (by simpa[eq_comm] using H0);refine C6a ?_;refine c0a (kk:=1) (vs:=X1a) g0 F0c Z Z Z Z Z Z Z ?_;intro I0 e0 x0;rw[G9a] at e0;refine X0a ⟨Z,?_⟩;refine C6a ?_;refine c0a (kk:=0) (vs:=X1a) e0 F0c Z Z Z Z Z Z Z ?_;intro J0 f0 y0;rw[G9a] at f0;refine X0a ⟨Z,?_⟩;refine n2c ?_;refine fC0 Z U (wL (fun μk D ε w=>D=[]∧∃k:Nat,(k+μk=(64))∧St [] w0 w [(some g9,259,X1a),(some g8,259,X1a),(some g6,89,[.slice none 0 0,.slice none 0 0,.slice none 0 0]),(some g4,89,[.slice A n c,.slice A' n' c',.slice Ai 0 ci]),(some g3,89,[.slice A n c,.slice A' n' c',.slice Ai 0 ci])]∧Sl ε [(2,.func (.func 240) #[] #[]),(3,.pointer (some ⟨g3,0,none⟩)),(6,.pointer (some ⟨g6,0,none⟩)),(8,.pointer (some ⟨g8,0,none⟩)),(9,.pointer (some ⟨g9,0,none⟩)),(42,.int .i64 k)]) (μ:=(64)) ⟨Z,0,by omega,f0,Z⟩ ?_);rintro μk D ε w ⟨rfl,k,_,S,eZ⟩;refine wK eZ (wB0 Z U (fun A0=>?_) fun A0=>?_)
 ·have hz:X1a[0+(k:Int).toNat*1]?=some (uV 0):=by rw[Nat.zero_add];exact D5b (k:=k)
  refine lC0 Z U (y0a b0a [0,1,2,3,4,5,6,7,8,9] [] [10] Z (Cl _ _ _ _) (Cl.start S) ?_);refine qO0 Z U (r0a e3b Z Z Z ?_);refine i0a Z3a Z (fun w1 hw=>by exact hw.1.cell 1 Z hz) Z ?_;refine qO0 Z U (r0a e3b Z Z Z ?_);refine i0a Z3a Z (fun w1 hw=>by exact hw.1.cell 0 Z hz) Z ?_;refine p6b (caps:=#[]) r9c Z Z Z (fun w1 hw=>S2b hw ((fun w1 S1 X1=>Q2c _) w1 hw.1 hw.2) fun _ _ h=>h) ?_;refine r0a e3b Z Z Z ?_;refine qD Z U ?_;rintro Z0 ⟨v0,_⟩;refine c1a (hy:=Z) (kk:=1) (v:=uV 0) v0 J0b Z Z Z (by rw[W7b];simp;omega) ?_;intro t0 a0 p0;rw[show 0+(k:Int).toNat*1=k by simp,B3c (by omega)] at a0;refine lP0 Z ⟨by omega,U⟩ ⟨μk-1,by omega,Z,(k+1),(by omega),a0,Z⟩
 refine lC0 Z U (E6b b0a [0,1,2,3,4] 5 (Cl _ _ _ _) (Cl.start S) (fun i=>if i=4 then some (231,#[.pointer (some ⟨g8,0,none⟩)],eqQ (.slice none 0 0),noQ) else none) ?_ _ Z ?_)
 ·intro i f a Qp Qw hi;by_cases r0:i=4
  ·subst r0;cases hi;exact⟨⟨_,Z⟩,fun _ _ _ _ _=>trivial,fun w hC=>(b4b g8 w (hC.1.cells 1 Z)).mono fun u w' hr=>⟨⟨hr.1,trivial⟩,hC.later hr.2⟩⟩
  ·simp only[r0,if_false] at hi;cases hi
 refine f9b Z Z ?_;refine U0a i0c Z Z ?_;refine n0a ?_;refine f9b Z Z ?_;refine i0a w5a Z (fun w1 hw=>by exact hw.1.cell 4 Z Z) Z ?_;refine n0a ?_;refine f9b Z Z ?_;refine U0a U9b Z Z ?_;refine n0a ?_;refine f9b Z Z ?_;refine i0a w5a Z (fun w1 hw=>by exact hw.1.cell 4 Z Z) Z ?_;refine n0a ?_;refine K5b m1c Z Z Z Z Z ?_;refine N0c ?_;rintro a1 ⟨n0,_⟩ -;refine C6a ?_;refine j0a n0 Y0c Z Z (v7b C W M _ _ _ none 0 0 (c0.keep (n0.keep0 M)) (hW.keep (n0.keep0 M)) B0 F0) ?_;rintro S0 X0 o0 u0 Q0;obtain⟨_,_,_,_,_,_,_,_,_,rfl⟩:=L4c o0;refine X0a ⟨Z,?_⟩;refine C6a ?_;refine c0a (kk:=2) (vs:=[_,_,_]) u0 R8a Z Z Z Z Z Z Z ?_;intro K0 b0 z0;dsimp only[f0a,List.set] at b0;refine X0a ⟨Z,?_⟩;refine C6a ?_;refine C0a (hv:=Z) (v:=.int .i64 _) Z ?_;refine X0a ⟨Z,?_⟩;refine n2c ?_;exact fR0 Z U (d2a (n:=3) Z A5a Z (b0.cells 2 Z) Z Z ⟨⟨_,⟨_,_,_,_,_,_,_,_,_,Z⟩,Z⟩,b0.fin⟩)
def e0C:E:=⟨1,1,0,[]⟩
theorem V1d:e0C.wf=true:=by kernel_rfl
theorem F3c(p:List a1a)(b:Bool):e0C.valid p b=true:=by
 unfold E.valid;rw[V1d,Bool.true_and,E.over_def];have h1:decide (e0C.OverN p b)=true:=decide_eq_true ⟨fun h=>by simp[e0C] at h,fun h=>by simp[e0C] at h⟩;rw[h1];rfl
theorem s1d:e0C.sup 2=[]:=by kernel_rfl
theorem p2d(o n:List Int):e0C.evl o n=0:=by
 unfold E.evl;rw[if_pos V1d,E.val_def];rfl
theorem Z9c(M:List Nat)(w0:World)(v u:Value)(Ai:Option Addr)(ci:Nat)(C W:List Int)(hC:RdI M w0 v C)(hW:RdI M w0 u W)(hI:RdI M w0 (.slice Ai 0 ci) [])(h:P9a C W)(hs:b2a W≤12):
 E0a prog 191 #[.agg #[v,u,.slice Ai 0 ci],.agg #[v,u,.slice Ai 0 ci]] w0 fun v w'=>(∃a,d3c a∧v=.tuple #[a,.int .i64 0])∧Below w0.heap.size w0 w':=by
 obtain⟨A,n,c,rfl⟩:=hC.form;obtain⟨A',n',c',rfl⟩:=hW.form;have S:=St.refl w0;refine a0a func191 Z ntmps191 Z ?_;refine wO0 Z U (p0a S Z ?_);intro g2 w2 S2 X2 G2;refine p0a S2 Z ?_;intro g3 w3 S3 X3 G3;refine h0a S3 S8a Z Z ?_;intro g4 w4 S4 X4 G4;refine lO S4.k [.w 2,.w 1] Z ⟨⟨Z,by rfl⟩,⟨Z,by rfl⟩,U⟩ (j0a S4 r6c Z Z (A8b M _ (.slice A n c) (.slice A' n' c') Ai ci C W (hC.keep (S4.keep0 M)) (hW.keep (S4.keep0 M)) (hI.keep (S4.keep0 M)) h hs) ?_);rintro v8 w8 ⟨a,⟨_,_,_,_,_,_,_,_,_,rfl⟩,rfl⟩ S8 X8;refine lO0 Z U (c0a (kk:=0) (vs:=[_,_,_]) S8 R8a Z Z Z Z Z Z Z ?_);intro c0 a0 b0;dsimp only[f0a,List.set] at a0;exact lR0 Z U (d2a (n:=3) Z A5a Z (a0.cells 0 Z) Z Z ⟨⟨_,⟨_,_,_,_,_,_,_,_,_,Z⟩,Z⟩,a0.fin⟩)
theorem j9b(p:List a1a)(C:List Int)(M:List Nat)(w0:World)(vc vl:Value)(hP:Z8b M w0 vc p)(hC:RdI M w0 vl C)(hr:T1a C)(hc:∀c∈C,0≤c∧c<p.length)(hp:p.length≤32)(hw:∀c∈p,1≤c.w∧c.w≤8)(hs:b2a (wdL p C)≤12)(hK:i2a M w0):
 E0a prog 175 #[vc,vl,.agg #[.int .i64 1,.int .i64 1,.int .i64 0,.slice none 0 0]] w0 fun v w'=>(∃a b,v=.tuple #[.agg #[a,b,.slice none 0 0],.int .i64 0]∧r5a w0 w' a C∧r5a w0 w' b (wdL p C))∧Below w0.heap.size w0 w':=by
 obtain⟨_,_,_,rfl⟩:=hP.form;obtain⟨_,-,_⟩:=hP.len;obtain⟨A,n,c,rfl⟩:=hC.form;obtain⟨_,-,_⟩:=hC.len;have ho:=r6a hr hc hp hw;have u1:=ho.clen;have n1:=ho.len;have m1:∀x∈C,i64 x:=fun x hx=>by have:=ho.cell x hx;unfold i64;omega
 have q1:∀x∈wdL p C,i64 x:=fun x hx=>by have:=ho.wid x hx;unfold i64;omega
 have v1:=k3a ho.wid;obtain⟨d0,q0⟩:∃b:Nat,b2a (wdL p C)=(b:Int):=⟨(b2a (wdL p C)).toNat,by omega⟩;have w1:2 ^ d0≤4096:=Nat.pow_le_pow_right (n:=2) (j:=12) (by omega) (by omega);have S:=St.refl w0;refine a0a func175 Z ntmps175 Z ?_;refine wO0 Z U (p0a S Z ?_);intro g5 w5 S5 X5 G5;refine h0a S5 S8a Z Z ?_;intro g6 w6 S6 X6 G6;refine lO0 Z U ?_;have j0:∀g∈[g6],g<w6.heap.size:=fun g hg=>by rw[List.mem_singleton.1 hg];exact S6.lt 0 Z
 refine j0a S6 n7c Z Z (u6b p C M _ _ _ (hP.keep (S6.keep0 M)) (hC.keep (S6.keep0 M)) hr hc hp hw) ?_;rintro v22 H0 ⟨_,rfl,hW⟩ O0 t1;obtain⟨A',n',c',rfl⟩:=hW.form;have KQ:=u0a.refl [g6] H0;refine lO0 Z U (g0a O0 q5b Z Z (B1b [] _ _ _ (hW.at_ KQ j0) ho.wid) ?_);intro B1 r0 V0;replace KQ:=KQ.trans (V0.of_nil);refine lB0 Z U (fun d1=>by exfalso;omega) fun d1=>?_;refine lO r0.k [.w 1] Z ⟨⟨Z,Z⟩,U⟩ ?_;refine g0a r0 a5a Z Z ((w2a e0C M _ _ _ p false (f1a (by unfold i64;omega) (by unfold i64;omega) (by unfold i64;omega)) (hP.keep (r0.keep0 M)) (hK.keep (r0.keep0 M))).mono (fun v w' h=>⟨h.1.trans (by rw[F3c]),h.2⟩)) ?_;intro C1 s0 W0;replace KQ:=KQ.trans (W0.of_nil);refine lB s0.k [.o 1] Z ⟨Z,U⟩ (fun f1=>by exfalso;omega) fun f1=>?_;refine lO s0.k [.w 1] Z ⟨⟨Z,Z⟩,U⟩ ?_;refine j0a s0 t7b Z Z (w4a e0C [] _ _ (f1a (by unfold i64;omega) (by unfold i64;omega) (by unfold i64;omega)) ⟨List.not_mem_nil,(hK.keep (s0.keep0 M)).2⟩ (by simp)) ?_;rintro x1 D1 ⟨_,_,rfl,v0,m0⟩ P0 X0;replace KQ:=KQ.trans (X0.of_nil);rw[s1d] at m0;obtain⟨A4,n4,c4,rfl⟩:=m0.form;obtain⟨o1,-,_⟩:=m0.len;obtain⟨_,_,_,rfl⟩:=v0.form;obtain rfl:n4=0:=o1;refine lC0 Z U (wL (fun μ D ε w=>D=[]∧(0≤μ)∧(u0a [g6] H0 w)∧St [] w0 w [(some g6,89,[.slice none 0 0,.slice none 0 0,.slice none 0 0]),(some g5,37,[.int .i64 1,.int .i64 1,.int .i64 0,.slice none 0 0])]∧Sl ε [(1,.slice A n c),(5,.pointer (some ⟨g5,0,none⟩)),(6,.pointer (some ⟨g6,0,none⟩)),(8,.slice A' n' c'),(47,.slice A4 0 c4),(48,.int .i64 0),(49,.int .i64 0)]) (μ:=0) ⟨Z,Nat.zero_le _,KQ,P0,Z⟩ ?_);rintro μ D ε w ⟨rfl,_,KQ,S,eZ⟩;refine wK eZ ?_;refine wB0 Z U (fun g1=>by exfalso;omega) fun g1=>?_;refine lO0 Z U ?_;have C0:w0.heap.size≤w.heap.size:=S.size;have e0:∀g∈[g6],g<w.heap.size:=fun g hg=>by rw[List.mem_singleton.1 hg];exact S.lt 0 Z
 refine j0a S Y0c Z Z (v7b C _ [] _ _ _ none 0 0 ((hC.keep (S.keep0 M)).less (by simp)) (hW.at_ KQ j0) m1 q1) ?_;rintro y1 K0 ⟨_,_,rfl,x0,hb6⟩ Q0 Y0;replace KQ:=KQ.trans (Y0.of_nil);obtain⟨A6,n6,c6,rfl⟩:=x0.form;obtain⟨A7,n7,c7,rfl⟩:=hb6.form;have a0:=u0a.refl [g6] K0;refine h0a Q0 S8a Z Z ?_;intro D0 z1 L0 z0 y0;have n0:=Nat.le_trans KQ.size y0;have b0:=Nat.le_trans a0.size y0;replace KQ:=KQ.trans (z0.of_nil);replace a0:=a0.trans (z0.of_nil);refine c0a (kk:=0) (vs:=[_,_,_]) L0 R8a Z Z Z Z Z Z Z ?_;intro G0 f0 i0;dsimp only[f0a,List.set] at f0;replace KQ:=KQ.fresh2 i0 (by exact .inl n0);replace a0:=a0.fresh2 i0 (by exact .inl b0);refine lO0 Z U (K8a (n:=32) (c:=32) f0 Y0a Z Z Z Z ?_);intro E0 E1 R0 B0 s1;replace KQ:=KQ.trans (B0.of_nil);replace a0:=a0.trans (B0.of_nil);refine lO0 Z U (h0a (cs:=X1a) R0 a4b Z Z ?_);intro u0 A1 N0 A0 r1;replace KQ:=KQ.trans (A0.of_nil);replace a0:=a0.trans (A0.of_nil);refine lO0 Z U (g0a N0 q5b Z Z ((B1b [] _ _ _ (hW.at_ KQ j0) ho.wid).mono (fun v w' h=>⟨h.1.trans (by rw[q0]),h.2⟩)) ?_);intro F1 S0 Z0;replace a0:=a0.trans (Z0.of_nil);refine I0b (n:=d0) Z Z ?_;refine lC0 Z U (wL (fun μk D ε w=>D=[]∧∃k:Nat,(k+μk=((2 ^ d0)))∧(u0a [g6] K0 w)∧St [] w0 w [(some u0,259,X1a),(some E0,3,(List.replicate 32 (.int .i64 0))),(some D0,89,[.slice A6 n6 c6,.slice A7 n7 c7,.slice none 0 0]),(some g6,89,[.slice none 0 0,.slice none 0 0,.slice none 0 0]),(some g5,37,[.int .i64 1,.int .i64 1,.int .i64 0,.slice none 0 0])]∧Sl ε [(5,.pointer (some ⟨g5,0,none⟩)),(6,.pointer (some ⟨g6,0,none⟩)),(14,.pointer (some ⟨D0,0,none⟩)),(15,.slice (some ⟨E0,0,none⟩) 32 32),(16,.pointer (some ⟨u0,0,none⟩)),(65,.int .i64 ((2 ^ d0:Nat):Int)),(66,.int .i64 k)]) (μ:=((2 ^ d0))) ⟨Z,0,by omega,a0,S0,Z⟩ ?_);rintro μk D ε w ⟨rfl,k,_,a0,S,eZ⟩;refine wK eZ (wB0 Z U (fun i1=>?_) fun i1=>?_)
 ·refine lO S.k [.w 2] Z ⟨⟨Z,Z⟩,U⟩ (j0a S r5b Z Z (h8a C (wdL p C) k2a k [] _ _ _ _ _ (x0.at_ a0 e0) (hb6.at_ a0 e0) ho hs (f2b (S.blk 1 Z) List.not_mem_nil) k4a z3a) ?_);rintro v72 G1 p1 t0 a1;replace a0:=a0.trans (a1.of_nil);have F0:=p1 [] (by simp);refine C0a Z ?_;refine lOn 5 t0.k [.w 4] Z ⟨⟨Z,Z⟩,U⟩ (I0a Z ?_);refine I0a Z ?_;refine g0a t0 C5c Z Z ((W1c e0C [] _ _ _ _ _ _ (f1a (by unfold i64;omega) (by unfold i64;omega) (by unfold i64;omega)) ⟨List.not_mem_nil,(hK.keep (t0.keep0 M)).2⟩ F0 F0).mono (fun v w' h=>⟨h.1.trans (by rw[p2d]),h.2⟩)) ?_;intro H1 T0 b1;replace a0:=a0.trans (b1.of_nil);refine lB0 Z U (fun j1=>by exfalso;omega) fun j1=>?_;refine lP0 Z ⟨by omega,U⟩ ⟨μk-1,by omega,Z,(k+1),(by omega),(a0),T0,Z⟩
 refine lO0 Z U (g0a S m1c Z Z (b4b u0 _ (S.cells 0 Z)) ?_);intro I1 U0 c1;replace a0:=a0.trans (c1.of_nil);refine lO0 Z U (c1a (kk:=2) U0 z3c Z Z Z (by exact Nat.le_of_ble_eq_true Z) ?_);intro I0 g0 o0;replace a0:=a0.fresh2 o0 (by exact .inl b0);refine lO g0.k [.w 2] Z ⟨⟨Z,Z⟩,U⟩ (c0a (kk:=3) (vs:=[_,_,_]) g0 R8a Z Z Z Z Z Z Z ?_);intro J0 c0 p0;dsimp only[f0a,List.set] at c0;replace a0:=a0.fresh2 p0 (by exact .inr (by simp));exact lR0 Z U (d2a (n:=3) Z A5a Z (c0.cells 3 Z) Z Z ⟨⟨_,_,Z,x0.later a0 e0 C0,hb6.later a0 e0 C0⟩,c0.fin⟩)
def mW(m:List Nat):List Value:=m.map uV
def d7a:List Nat:=List.replicate 64 0
theorem s4b(m:List Nat):(mW m).length=m.length:=by simp[mW]
theorem X3b(m:List Nat)(i x:Nat):(mW m).set i (uV x)=mW (m.set i x):=by simp[mW,List.map_set]
structure G4a (m:List Nat) (R:Nat→Nat→Prop):Prop where
 len:m.length=64
 lt:∀r∈m,r<2 ^ 64
 bit:∀x y,x<64→y<64→((m.getD x 0).testBit y=true↔R x y)
theorem G4a.at_{m:List Nat}{R:Nat→Nat→Prop}(h:G4a m R){x:Nat}(hx:x<64):m[x]?=some (m.getD x 0)∧m.getD x 0<2 ^ 64:=by
 have hl:x<m.length:=by rw[h.len];exact hx
 have he:m.getD x 0=m[x]:=by rw[List.getD_eq_getElem?_getD,List.getElem?_eq_getElem hl];rfl
 rw[he];exact⟨List.getElem?_eq_getElem hl,h.lt _ (List.getElem_mem hl)⟩
theorem G4a.cell{m:List Nat}{R:Nat→Nat→Prop}(h:G4a m R){x:Nat}(hx:x<64):(mW m)[x]?=some (uV (m.getD x 0)):=by
 unfold mW;rw[List.getElem?_map,(h.at_ hx).1];rfl
theorem G4a.cell0{m:List Nat}{R:Nat→Nat→Prop}(h:G4a m R){x:Nat}(hx:x<64):(mW m)[0+(x:Int).toNat*1]?=some (uV (m.getD x 0)):=by
 rw[Int.toNat_natCast,Nat.zero_add,Nat.mul_one];exact h.cell hx
theorem G4a.zero:G4a d7a fun _ _=>False:=by
 refine⟨by simp[d7a],fun r hr=>?_,fun x y hx hy=>?_⟩
 ·rw[(List.mem_replicate.1 hr).2];exact Nat.two_pow_pos _
 ·have:d7a.getD x 0=0:=by
   rw[List.getD_eq_getElem?_getD,d7a,List.getElem?_replicate,if_pos hx];rfl
  rw[this];simp
theorem G4a.put{m:List Nat}{R:Nat→Nat→Prop}(h:G4a m R){x v:Nat}(hx:x<64)(hv:v<2 ^ 64):G4a (m.set x v) fun a b=>if a=x then v.testBit b=true else R a b:=by
 refine⟨by rw[List.length_set];exact h.len,fun r hr=>?_,fun a b ha hb=>?_⟩
 ·rcases List.mem_or_eq_of_mem_set hr with h1|rfl
  ·exact h.lt r h1
  ·exact hv
 ·by_cases a0:a=x
  ·subst a0;rw[if_pos rfl,List.getD_eq_getElem?_getD,List.getElem?_set_self (by rw[h.len];exact ha)];rfl
  ·rw[if_neg a0,List.getD_eq_getElem?_getD,List.getElem?_set_ne (fun hh=>a0 hh.symm),←List.getD_eq_getElem?_getD];exact h.bit a b ha hb
theorem G4a.congr{m:List Nat}{R R':Nat→Nat→Prop}(h:G4a m R)(hr:∀x y,x<64→y<64→(R x y↔R' x y)):G4a m R' :=
 ⟨h.len,h.lt,fun x y hx hy=>(h.bit x y hx hy).trans (hr x y hx hy)⟩
theorem G4a.bit1{m:List Nat}{R:Nat→Nat→Prop}(h:G4a m R){x y:Nat}(hx:x<64)(hy:y<64):G4a (m.set x (m.getD x 0 ||| 2 ^ y)) fun a b=>R a b∨(a=x∧b=y):=by
 have hp:(2:Nat) ^ y<2 ^ 64:=Nat.pow_lt_pow_right (by omega) hy;refine(h.put hx (Nat.or_lt_two_pow (h.at_ hx).2 hp)).congr fun a b ha hb=>?_;by_cases a0:a=x
 ·subst a0;rw[if_pos rfl,Nat.testBit_or,Nat.testBit_two_pow,Bool.or_eq_true,h.bit a b ha hb];simp only[decide_eq_true_eq,true_and];exact⟨fun hh=>hh.imp id fun h=>h.symm,fun hh=>hh.imp id fun h=>h.symm⟩
 ·rw[if_neg a0];exact⟨.inl,fun hh=>hh.elim id fun h=>absurd h.1 a0⟩
theorem G4a.bit0{m:List Nat}{R:Nat→Nat→Prop}(h:G4a m R){x y:Nat}(hx:x<64)(hy:y<64)(hn:∀b,b<64→¬R x b):G4a (m.set x (2 ^ y)) fun a b=>R a b∨(a=x∧b=y):=by
 have hp:(2:Nat) ^ y<2 ^ 64:=Nat.pow_lt_pow_right (by omega) hy;refine(h.put hx hp).congr fun a b ha hb=>?_;by_cases a0:a=x
 ·subst a0;rw[if_pos rfl,Nat.testBit_two_pow];simp only[decide_eq_true_eq,true_and];exact⟨fun hh=>.inr hh.symm,fun hh=>hh.elim (fun h=>absurd h (hn b hb)) fun h=>h.symm⟩
 ·rw[if_neg a0];exact⟨.inl,fun hh=>hh.elim id fun h=>absurd h.1 a0⟩
theorem G4a.row{m:List Nat}{R:Nat→Nat→Prop}(h:G4a m R){x y:Nat}(hx:x<64)(hy:y<64):G4a (m.set x (m.getD x 0 ||| m.getD y 0)) fun a b=>R a b∨(a=x∧R y b):=by
 refine(h.put hx (Nat.or_lt_two_pow (h.at_ hx).2 (h.at_ hy).2)).congr fun a b ha hb=>?_;by_cases a0:a=x
 ·subst a0;rw[if_pos rfl,Nat.testBit_or,Bool.or_eq_true,h.bit a b ha hb,h.bit y b hy hb];simp
 ·rw[if_neg a0];exact⟨.inl,fun hh=>hh.elim id fun h=>absurd h.1 a0⟩
def e7b(m:List Nat)(x n:Nat):List (Int×Int):=((List.range n).filter fun(y:Nat)=>(m.getD x 0).testBit y).map fun(y:Nat)=>((x:Int),(y:Int))
def D0b(m:List Nat)(k:Nat):List (Int×Int):=(List.range k).flatMap fun x=>e7b m x 64
theorem e1c(m:List Nat)(x:Nat):e7b m x 0=[]:=Z
theorem u4b(m:List Nat)(x n:Nat):e7b m x (n+1)=if(m.getD x 0).testBit n=true then e7b m x n++[((x:Int),(n:Int))] else e7b m x n:=by
 unfold e7b;rw[List.range_succ,List.filter_append,List.map_append];by_cases h:(m.getD x 0).testBit n=true
 ·rw[if_pos h,List.filter_cons_of_pos (by simpa using h)];rfl
 ·rw[if_neg h,List.filter_cons_of_neg (by simpa using h)];simp
theorem L3b(m:List Nat):D0b m 0=[]:=Z
theorem M9a(m:List Nat)(k:Nat):D0b m (k+1)=D0b m k++e7b m k 64:=by
 unfold D0b;rw[List.range_succ,List.flatMap_append];simp
theorem L6b{m:List Nat}{x n:Nat}{a:Int×Int}:a∈e7b m x n↔∃y,y<n∧(m.getD x 0).testBit y=true∧a=((x:Int),(y:Int)):=by
 unfold e7b;simp only[List.mem_map,List.mem_filter,List.mem_range];constructor
 ·rintro⟨y,⟨h1,h2⟩,rfl⟩;exact⟨y,h1,h2,Z⟩
 ·rintro⟨y,h1,h2,rfl⟩;exact⟨y,⟨h1,h2⟩,Z⟩
theorem h3b{m:List Nat}{k:Nat}{a:Int×Int}:a∈D0b m k↔∃x y,x<k∧y<64∧(m.getD x 0).testBit y=true∧a=((x:Int),(y:Int)):=by
 unfold D0b;simp only[List.mem_flatMap,List.mem_range,L6b];constructor
 ·rintro⟨x,h1,y,h2,h3,h4⟩;exact⟨x,y,h1,h2,h3,h4⟩
 ·rintro⟨x,y,h1,h2,h3,h4⟩;exact⟨x,h1,y,h2,h3,h4⟩
theorem s9c(m:List Nat)(x n:Nat):(e7b m x n).Pairwise lt2:=by
 unfold e7b;rw[List.pairwise_map];refine((List.pairwise_lt_range (n:=n)).sublist List.filter_sublist).imp fun h=>?_;unfold lt2;simp;omega
theorem s0c(m:List Nat):∀k,(D0b m k).Pairwise lt2
 | 0=>by simp[L3b]
 | k+1=>by
   rw[M9a,List.pairwise_append];refine⟨s0c m k,s9c m k 64,fun a ha b hb=>?_⟩;obtain⟨_,_,_,-,-,rfl⟩:=h3b.1 ha;obtain⟨_,-,-,rfl⟩:=L6b.1 hb;unfold lt2;simp;omega
theorem n7b(m:List Nat)(x n:Nat):(e7b m x n).length≤n:=by
 unfold e7b;rw[List.length_map];have:=List.length_filter_le (fun y=>(m.getD x 0).testBit y) (List.range n);simpa using this
theorem Q3a(m:List Nat):∀k,(D0b m k).length≤64*k
 | 0=>by simp[L3b]
 | k+1=>by
   rw[M9a,List.length_append];have:=Q3a m k;have:=n7b m k 64;omega
theorem G4a.mem{m:List Nat}{R:Nat→Nat→Prop}(h:G4a m R)(a:Int×Int):a∈D0b m 64↔∃x y,x<64∧y<64∧R x y∧a=((x:Int),(y:Int)):=by
 rw[h3b];constructor
 ·rintro⟨x,y,h1,h2,h3,h4⟩;exact⟨x,y,h1,h2,(h.bit x y h1 h2).1 h3,h4⟩
 ·rintro⟨x,y,h1,h2,h3,h4⟩;exact⟨x,y,h1,h2,(h.bit x y h1 h2).2 h3,h4⟩
theorem a7b{l:List (Int×Int)}{i j:Nat}{x y:Int×Int}(h:l.Pairwise lt2)(hx:l[i]?=some x)(hy:l[j]?=some y)(a0:i<j:=by omega):x.1<y.1∨(x.1=y.1∧x.2<y.2):=by
 obtain⟨h1,rfl⟩:=List.getElem?_eq_some_iff.1 hx;obtain⟨h2,rfl⟩:=List.getElem?_eq_some_iff.1 hy;exact List.pairwise_iff_getElem.1 h i j h1 h2 a0
theorem e3d(M:List Nat)(w:World):RdI M w (.slice none 0 0) []:=⟨none,0,0,Z,Z,Nat.le_refl _,by unfold maxLen;omega,by omega,fun h=>absurd h (by omega)⟩
theorem V5a(M:List Nat)(w0:World)(v:Value)(l:List Int)(hR:RdI M w0 v l)(hw:∀x∈l,1≤x∧x≤8)(hl:l.length≤32:=by omega):E0a prog 117 #[v] w0 fun v w'=>v=.int .i64 (b2a l)∧Below w0.heap.size w0 w':=by
 obtain⟨A,n,c,rfl⟩:=hR.form;obtain⟨_,_⟩:=hR.len;have j0:=k3a hw;have S:=St.refl w0;refine a0a func117 Z ntmps117 Z ?_;refine wC0 Z U (wL (fun μk D ε w=>D=[]∧∃k:Nat,∃s:Int,(k+μk=(l.length))∧(s=b2a (l.take k))∧St [] w0 w []∧Sl ε [(3,.int .i64 s),(6,.slice A n c),(7,.int .i64 n),(8,.int .i64 k)]) (μ:=(l.length)) ⟨Z,0,0,by omega,Z,S,Z⟩ ?_);rintro μk D ε w ⟨rfl,k,s,_,hs,S,eZ⟩;refine wK eZ (wB0 Z U (fun h9=>?_) fun h9=>?_)
 ·obtain⟨x,d0,i0,_,g0,a0,_,_,b0,c0⟩:=RdS.get (hR) (k) (by omega);obtain⟨rfl,_⟩:=id c0;have f0:=L4a g0;have m0:=m2a hw k;have e0:=m2a hw (k+1);refine lP (S.k.a b0) [.x d0 i0,.f 0 0] Z ⟨by omega,by omega,Z,⟨a0,by omega⟩,U⟩ ?_;refine⟨μk-1,by omega,Z,(k+1),(s+x),(by omega),(by rw[f0,hs]),S,Z⟩
 refine lR0 Z U (s0a Z ?_);exact⟨by rw[hs,List.take_of_length_le (by omega)],S.fin⟩
theorem G0b(p:List a1a)(C:List Int)(M:List Nat)(w0:World)(vc vl:Value)(hP:Z8b M w0 vc p)(hC:RdI M w0 vl C)(hr:T1a C)(hc:∀c∈C,0≤c∧c<p.length)(hp:p.length≤32)(hw:∀c∈p,1≤c.w∧c.w≤8)(hK:i2a M w0)(hs:b2a (wdL p C)≤6:=by omega):
 E0a prog 116 #[vc,vl] w0 fun v w'=>(∃a b,v=.tuple #[.agg #[a,b,.slice none 0 0],.int .i64 0]∧r5a w0 w' a C∧r5a w0 w' b (wdL p C))∧Below w0.heap.size w0 w':=by
 obtain⟨_,_,_,rfl⟩:=hP.form;obtain⟨_,n,c,rfl⟩:=hC.form;have ho:=r6a hr hc hp hw;have u0:=ho.clen;have p0:=ho.len;have S:=St.refl w0;refine a0a func116 Z ntmps116 Z ?_;refine wO0 Z U (h0a S S8a Z Z ?_);intro g4 w4 S4 X4 G4;refine lO0 Z U (H0a W1a (vs:=[(0,.int .i64 _),(1,.int .i64 _)]) (cs:=[_,_,_,_]) Z Z Z Z ?_);have i0:w0.heap.size≤w4.heap.size:=S4.size;have c0:∀g∈[g4],g<w4.heap.size:=fun g hg=>by rw[List.mem_singleton.1 hg];exact S4.lt 0 Z
 refine j0a S4 p8c Z Z (j9b p C M _ _ _ (hP.keep (S4.keep0 M)) (hC.keep (S4.keep0 M)) hr hc hp hw (by omega) (hK.keep (S4.keep0 M))) ?_;rintro v0 q0 ⟨a,b,rfl,ha,hb⟩ j0 t0;obtain⟨_,_,_,rfl⟩:=ha.form;obtain⟨_,_,_,rfl⟩:=hb.form;have KQ:=u0a.refl [g4] q0;refine lO0 Z U (h0a j0 S8a Z Z ?_);intro g6 w6 S6 X6 G6;have d0:=Nat.le_trans KQ.size G6;replace KQ:=KQ.trans (X6.of_nil);refine c0a (kk:=0) (vs:=[_,_,_]) S6 R8a Z Z Z Z Z Z Z ?_;intro r0 a0 e0;dsimp only[f0a,List.set] at a0;replace KQ:=KQ.fresh2 e0 (by exact .inl d0);refine lB0 Z U (fun n0=>?_) (fun n0=>by exfalso;omega);refine lO a0.k [.o 0] Z ⟨Z,U⟩ (g0a a0 U7a Z Z (V5a [] _ _ _ (hb.at_ KQ c0) ho.wid) ?_);intro x0 g0 m0;replace KQ:=KQ.trans (m0.of_nil);refine lB0 Z U (fun o0=>by exfalso;omega) fun o0=>?_;refine lO g0.k [.w 0] Z ⟨⟨Z,Z⟩,U⟩ (c0a (kk:=1) (vs:=[_,_,_]) g0 R8a Z Z Z Z Z Z Z ?_);intro s0 b0 f0;dsimp only[f0a,List.set] at b0;replace KQ:=KQ.fresh2 f0 (by exact .inr (by simp));exact lR0 Z U (d2a (n:=3) Z A5a Z (b0.cells 1 Z) Z Z ⟨⟨_,_,Z,ha.later KQ c0 i0,hb.later KQ c0 i0⟩,b0.fin⟩)
theorem w8b(M:List Nat)(w0:World)(v u i:Value)(C W:List Int)(l:List (Int×Int))(b0:Nat)(hC:RdI M w0 v C)(hW:RdI M w0 u W)(hL:j9a M w0 i l)(h:P9a C W)(hb:b2a W=b0)(hb6:b0≤6)(hl:∀x∈l,0≤x.1∧x.1<(2 ^ b0:Nat)∧0≤x.2∧x.2<(2 ^ b0:Nat))(B0:l.Pairwise lt2):
 E0a prog 131 #[.agg #[v,u,i]] w0 fun v w'=>v=.bool true∧Below w0.heap.size w0 w':=by
 obtain⟨A,n,c,rfl⟩:=hC.form;obtain⟨A',n',c',rfl⟩:=hW.form;obtain⟨Al,nl,cl,rfl⟩:=hL.form;obtain⟨_,-,_⟩:=hL.len;have F1:=h.clen;have s1:=h.len;have S:=St.refl w0;refine a0a func131 Z ntmps131 Z ?_;refine wO0 Z U (p0a S Z ?_);intro g1 w1 S1 X1 G1;refine lO S1.k [.o 0,.o 0] Z ⟨Z,Z,U⟩ (H0a k7b (vs:=[(0,.slice _ _ _),(1,.slice _ _ _)]) (cs:=[_,_,_]) Z Z Z Z ?_);refine h0a S1 S8a Z Z ?_;intro g3 w3 S3 X3 G3;refine c0a (kk:=0) (vs:=[_,_,_]) S3 R8a Z Z Z Z Z Z Z ?_;intro y1 c0 H0;dsimp only[f0a,List.set] at c0;refine lO c0.k [.w 0,.w 0] Z ⟨⟨Z,Z⟩,⟨Z,Z⟩,U⟩ (j0a c0 h6c Z Z (Z9c M _ _ _ none 0 C W (hC.keep (c0.keep0 M)) (hW.keep (c0.keep0 M)) (e3d M _) h (by omega)) ?_);rintro H1 I1 ⟨_,⟨A1,n1,c1,A2,n2,c2,A3,n3,c3,rfl⟩,rfl⟩ G0 C1;refine lO0 Z U (h0a G0 S8a Z Z ?_);intro g4 w4 S4 X4 G4;refine c0a (kk:=0) (vs:=[_,_,_]) S4 R8a Z Z Z Z Z Z Z ?_;intro z1 e0 I0;dsimp only[f0a,List.set] at e0;refine lB0 Z U (fun a1=>by exfalso;omega) fun a1=>?_;refine lO e0.k [.o 2] Z ⟨Z,U⟩ (g0a e0 U7a Z Z (V5a M _ _ W (hW.keep (e0.keep0 M)) h.wid) ?_);intro J1 p0 D1;refine lB0 Z U (fun b1=>by exfalso;omega) fun b1=>?_;refine lO p0.k [.o 2] Z ⟨Z,U⟩ (g0a p0 U7a Z Z ((V5a M _ _ W (hW.keep (p0.keep0 M)) h.wid).mono (fun v w' h=>⟨h.1.trans (by rw[hb]),h.2⟩)) ?_);intro K1 E0 E1;refine I0b (n:=b0) Z Z ?_;refine lC E0.k [.o 2] Z ⟨Z,U⟩ (wL (fun μk D ε w=>D=[]∧∃k:Nat,(k+μk=(l.length))∧St [] w0 w [(some g4,89,[.slice A1 n1 c1,.slice A2 n2 c2,.slice A3 n3 c3]),(some g3,89,[.slice A n c,.slice A' n' c',.slice none 0 0]),(some g1,41,[.slice A n c,.slice A' n' c',.slice Al nl cl])]∧Sl ε [(1,.pointer (some ⟨g1,0,none⟩)),(6,.int .i64 ((2 ^ b0:Nat):Int)),(33,.slice Al nl cl),(34,.int .i64 nl),(35,.int .i64 k)]) (μ:=(l.length)) ⟨Z,0,by omega,E0,Z⟩ ?_);rintro μk D ε w ⟨rfl,k,_,S,eZ⟩;refine wK eZ (wB0 Z U (fun d1=>?_) fun d1=>?_)
 ·obtain⟨x,K0,t1,P0,o0,q0,_,v0,u0,x0⟩:=RdS.get (hL) (k) (by omega);obtain⟨T0,_⟩:=x0;obtain rfl:P0=[Value.int .i64 x.1,.int .i64 x.2]:=T0;have hx:=hl x (d0a o0);refine lO (S.k.a u0) [.x K0 t1,.v 0] Z ⟨⟨Z,v0⟩,⟨q0,by omega⟩,U⟩ (h0a S X8b Z Z ?_);intro g8 w8 S8 X8 G8;refine lO0 Z U (c0a (kk:=0) (vs:=[_,_]) S8 y5b Z Z Z Z Z Z Z ?_);intro B1 a0 J0;dsimp only[f0a,List.set] at a0;refine lO0 Z U (O1a H1a Z Z Z ?_);refine B0a x0a Z (by exact a0.cell 0 Z Z) Z ?_;refine lB0 Z U (fun f1=>by exfalso;omega) fun f1=>?_;refine lO0 Z U (O1a H1a Z Z Z ?_);refine lO0 Z U (B0a x0a Z (by exact a0.cell 0 Z Z) Z ?_);refine lB0 Z U (fun i1=>by exfalso;omega) fun i1=>?_;refine lO0 Z U (O1a H1a Z Z Z ?_);refine lO0 Z U (B0a x0a Z (by exact a0.cell 0 Z Z) Z ?_);refine lB0 Z U (fun j1=>by exfalso;omega) fun j1=>?_;refine lO0 Z U (O1a H1a Z Z Z ?_);refine lO0 Z U (B0a x0a Z (by exact a0.cell 0 Z Z) Z ?_);refine lB0 Z U (fun m1=>by exfalso;omega) fun m1=>?_;refine lC0 Z U (y0a b0a [0,1,2,3,4,5,6,7,8,9,10,11,12,13,14,15,16,17,18,19,20,21,22,23,24,25,26,27,28,29,30,31,32,33,34,35,36,37] [] [] Z (Cl _ _ _ _) (Cl.start a0) ?_);refine qB0 Z U (fun o1=>?_) fun o1=>?_
  ·refine qO0 Z U (r0a H1a Z Z Z ?_);refine qO0 Z U (i0a x0a Z (fun w1 hw=>by exact hw.1.cell 0 Z Z) Z ?_);obtain⟨y,L0,u1,Q0,m0,r0,_,_,g0,y0⟩:=RdS.get (hL) (k-1) (by omega);obtain⟨U0,_⟩:=y0;obtain rfl:Q0=[Value.int .i64 y.1,.int .i64 y.2]:=U0;have X0:((k:Int)-1).toNat=k-1:=by omega
   rw[←X0] at g0;have F0:=a7b B0 m0 o0;refine qO a0.q [.o 3,.x L0 u1] Z ⟨⟨r0,by omega⟩,by omega,Z,U⟩ (r0a H1a Z Z Z ?_);refine qO0 Z U (i0a x0a Z (fun w1 hw=>by exact hw.1.old (g0 _ _ Z)) Z ?_);refine qB0 Z U (fun p1=>by exfalso;omega) fun p1=>?_;refine qO0 Z U (r0a H1a Z Z Z ?_);refine qO0 Z U (i0a x0a Z (fun w1 hw=>by exact hw.1.cell 0 Z Z) Z ?_);obtain⟨_,N0,v1,R0,C0,s0,_,_,i0,z0⟩:=RdS.get (hL) (k-1) (by omega);obtain rfl:=Option.some.inj (m0.symm.trans C0);obtain⟨V0,_⟩:=z0;obtain rfl:R0=[Value.int .i64 y.1,.int .i64 y.2]:=V0;have Y0:((k:Int)-1).toNat=k-1:=by omega
   rw[←Y0] at i0;have F0:=a7b B0 m0 o0;refine qO a0.q [.o 3,.x N0 v1] Z ⟨⟨s0,by omega⟩,by omega,Z,U⟩ (r0a H1a Z Z Z ?_);refine qO0 Z U (i0a x0a Z (fun w1 hw=>by exact hw.1.old (i0 _ _ Z)) Z ?_);refine qB0 Z U (fun q1=>?_) fun q1=>?_
   ·refine qO0 Z U (r0a H1a Z Z Z ?_);refine qO0 Z U (i0a x0a Z (fun w1 hw=>by exact hw.1.cell 0 Z Z) Z ?_);obtain⟨_,O0,x1,S0,D0,t0,_,_,j0,A0⟩:=RdS.get (hL) (k-1) (by omega);obtain rfl:=Option.some.inj (m0.symm.trans D0);obtain⟨W0,_⟩:=A0;obtain rfl:S0=[Value.int .i64 y.1,.int .i64 y.2]:=W0;have Z0:((k:Int)-1).toNat=k-1:=by omega
    rw[←Z0] at j0;have F0:=a7b B0 m0 o0;refine qO a0.q [.o 3,.x O0 x1] Z ⟨⟨t0,by omega⟩,by omega,Z,U⟩ (r0a H1a Z Z Z ?_);refine qO0 Z U (i0a x0a Z (fun w1 hw=>by exact hw.1.old (j0 _ _ Z)) Z ?_);refine qB0 Z U (fun r1=>by exfalso;omega) fun r1=>?_;refine qD Z U ?_;rintro n0 ⟨d0,f0⟩;refine lP0 Z ⟨by omega,U⟩ ⟨μk-1,by omega,Z,(k+1),(by omega),d0.tail,Z⟩
   refine qD Z U ?_;rintro n0 ⟨d0,f0⟩;refine lP0 Z ⟨by omega,U⟩ ⟨μk-1,by omega,Z,(k+1),(by omega),d0.tail,Z⟩
  refine qD Z U ?_;rintro n0 ⟨d0,f0⟩;refine lP0 Z ⟨by omega,U⟩ ⟨μk-1,by omega,Z,(k+1),(by omega),d0.tail,Z⟩
 exact lT Z U Z ⟨Z,S.fin⟩
theorem V2d:Bld prog 173 (mW d7a) ((List.range 64).map fun i=>(i*1,1)):=W0c (size:=1) Tryz.underlying173 (fun _=>by kernel_rfl) (fun _=>by kernel_rfl) _ Z
theorem o6c(M:List Nat)(w0:World)(v u i:Value)(l:List (Int×Int))(hv:∃A n c B m d,v=.slice A n c∧u=.slice B m d)(hL:j9a M w0 i l)(hl:∀x∈l,0≤x.1∧x.1<64∧0≤x.2∧x.2<64):
 E0a prog 133 #[.agg #[v,u,i]] w0 fun v w'=>(∃g m,v=.pointer (some ⟨g,0,none⟩)∧w0.heap.size≤g∧m0a w' (g,173,mW m)∧G4a m fun a b=>((a:Int),(b:Int))∈l)∧Below w0.heap.size w0 w':=by
 obtain⟨A,n,c,A',n',c',rfl,rfl⟩:=hv;obtain⟨Al,nl,cl,rfl⟩:=hL.form;obtain⟨_,-,_⟩:=hL.len;have S:=St.refl w0;refine a0a func133 Z ntmps133 Z ?_;refine wO0 Z U (p0a S Z ?_);intro g1 w1 S1 X1 G1;refine lO0 Z U (H0a (vs:=[]) (cs:=mW d7a) V2d Z Z Z Z ?_);refine p0a (hv:=Z) (cs:=mW d7a) S1 Z ?_;intro g7 w7 S7 X7 G7;refine lC S7.k [.o 1] Z ⟨Z,U⟩ (wL (fun μk D ε w=>D=[]∧∃k:Nat,∃m:List Nat,(k+μk=(l.length))∧(G4a m (fun a b=>((a:Int),(b:Int))∈l.take k))∧St [] w0 w [(some g7,173,mW m),(some g1,41,[.slice A n c,.slice A' n' c',.slice Al nl cl])]∧Sl ε [(3,.pointer (some ⟨g7,0,none⟩)),(9,.slice Al nl cl),(10,.int .i64 nl),(11,.int .i64 k)]) (μ:=(l.length)) ⟨Z,0,d7a,by omega,G4a.zero.congr (fun x y _ _=>by simp),S7,Z⟩ ?_);rintro μk D ε w ⟨rfl,k,m,_,hm,S,eZ⟩;refine wK eZ (wB0 Z U (fun r0=>?_) fun r0=>?_)
 ·obtain⟨x,o0,s0,p0,i0,c0,_,e0,d0,f0⟩:=RdS.get (hL) (k) (by omega);obtain⟨q0,_⟩:=f0;have hx:=hl x (d0a i0);obtain⟨a,b,rfl⟩:∃a b:Nat,x=((a:Int),(b:Int)):=⟨x.1.toNat,x.2.toNat,Prod.ext (Int.toNat_of_nonneg hx.1).symm (Int.toNat_of_nonneg hx.2.2.1).symm⟩;obtain rfl:p0=[Value.int .i64 (a:Int),.int .i64 (b:Int)]:=q0;simp only at hx;refine lO (S.k.a d0) [.x o0 s0,.v 0] Z ⟨⟨Z,e0⟩,⟨c0,by omega⟩,U⟩ (h0a S X8b Z Z ?_);intro g5 w5 S5 X5 G5;refine c0a (kk:=0) (vs:=[_,_]) S5 y5b Z Z Z Z Z Z Z ?_;intro t0 b0 n0;dsimp only[f0a,List.set] at b0;have u0:=(hm.at_ (x:=a) (by omega)).2;have v0:(2:Nat) ^ b<2 ^ 64:=Nat.pow_lt_pow_right (by omega) (by omega);refine lC0 Z U (y0a b0a [0,1,2,3,4,5,6,7,8,9,10,11] [] [12] Z (Cl _ _ _ _) (Cl.start b0) ?_);refine qO0 Z U (r0a H1a Z Z Z ?_);refine i0a x0a Z (fun w1 hw=>by exact hw.1.cell 0 Z Z) Z ?_;refine qO0 Z U (r0a J3a Z Z Z ?_);refine i0a Z3a Z (fun w1 hw=>by exact hw.1.cell 1 Z (hm.cell0 (x:=a) (by omega))) Z ?_;refine r0a H1a Z Z Z ?_;refine i0a x0a Z (fun w1 hw=>by exact hw.1.cell 0 Z Z) Z ?_;refine F7b (n:=b) Z Z ?_;refine U4c Z Z (by assumption) (by assumption) Z ?_;refine qO0 Z U (r0a J3a Z Z Z ?_);refine qD Z U ?_;rintro x0 ⟨m0,_⟩;refine c1a (hy:=Z) (kk:=1) (v:=uV (m.getD a 0 ||| 2 ^ b)) m0 J0b Z Z Z (by rw[s4b,hm.len];simp;omega) ?_;intro j0 a0 g0;rw[X3b,show 0+(a:Int).toNat*1=a by simp] at a0;refine lP0 Z ⟨by omega,U⟩ ⟨μk-1,by omega,Z,(k+1),(m.set a (m.getD a 0 ||| 2 ^ b)),(by omega),?_,a0.tail,Z⟩;refine(hm.bit1 (x:=a) (y:=b) (by omega) (by omega)).congr fun x y _ _=>?_;rw[F0a i0,List.mem_append,List.mem_singleton];exact or_congr Iff.rfl ⟨fun h=>by rw[h.1,h.2],fun h=>by simp only[Prod.mk.injEq] at h;omega⟩
 refine lR0 Z U (s0a Z ?_);exact⟨⟨g7,m,Z,by simpa using S.new 0 Z,S.blk 0 Z,by rw[List.take_of_length_le (by omega)] at hm;exact hm⟩,S.fin⟩
theorem q2c(g:Nat)(w0:World):E0a prog 177 #[.pointer (some ⟨g,0,none⟩)] w0 fun v w'=>(∃gb,v=.func (.func 232) #[] #[.pointer (some ⟨gb,0,none⟩)]∧w0.heap.size≤gb∧m0a w' (gb,170,[.pointer (some ⟨g,0,none⟩)]))∧Below w0.heap.size w0 w':=by
 have S:=St.refl w0;refine a0a func177 Z ntmps177 Z ?_;refine wO0 Z U (a1b S (v:=.pointer _) Z Z Z ?_);intro g1 w1 S1 X1 G1;refine lO0 Z U (w1a Z Z ?_);refine lR0 Z U (s0a Z ?_);exact⟨⟨g1,Z,by simpa using S1.new 0 Z,S1.blk 0 Z⟩,S1.fin⟩
structure H1d (l:Nat) (Bs:List Nat) (w0:World) (J:List (Int×Int)→World→Prop):Prop where
 start:∀w,Below w0.heap.size w0 w→J [] w
 own:∀k w w',J k w→Below w.heap.size w w'→J k w'
 keep:∀k w,J k w→u0a Bs w0 w
 each:∀k w (x y:Nat),J k w→k.length+1≤4096→x<64→y<64→Yld prog l #[.int .i64 x,.int .i64 y] w fun u w'=>u=.bool true∧J (k++[((x:Int),(y:Int))]) w'
theorem e8b(m:List Nat)(R:Nat→Nat→Prop)(hm:G4a m R)(g gb l:Nat)(Bs:List Nat)(w0:World)(J:List (Int×Int)→World→Prop)(n0:m0a w0 (g,173,mW m))(m0:m0a w0 (gb,170,[.pointer (some ⟨g,0,none⟩)]))(hg:g∉Bs)(hJ:H1d l Bs w0 J):
 E0a prog 232 #[.func (.yield l) #[] #[],.pointer (some ⟨gb,0,none⟩)] w0 fun _ w'=>J (D0b m 64) w':=by
 have j0:=hJ.start w0 (Below.refl _ _);have S:=St.refl w0;have o0:w0.cell? ⟨gb,0,none⟩=some (.pointer (some ⟨g,0,none⟩)):=m0.cell Z;refine a0a func232 Z ntmps232 Z ?_;refine wO0 Z U (B0a d2c Z (by first|exact o0) Z ?_);refine lC0 Z U (wL (fun μ D ε w=>D=[]∧∃k:Nat,(k+μ=64)∧(J (D0b m k) w)∧ε 0=.func (.yield l) #[] #[]∧ε 6=.pointer (some ⟨g,0,none⟩)∧ε 7=.int .i64 k) (μ:=64) ⟨Z,0,by omega,j0,Z,Z,Z⟩ ?_);rintro μ D ε w ⟨rfl,k,_,d0,e0,e6,e7⟩;refine q0a 0 e0 (q0a 6 e6 (q0a 7 e7 ?_));clear e0 e6 e7;have hK:=hJ.keep _ _ d0;have S:=St.refl w;refine wB0 Z U (fun h8=>?_) fun h8=>?_
 ·have p0:=hK.cell (a:=⟨g,_,none⟩) hg (n0.cell (hm.cell0 (x:=k) (by omega)));refine lC0 Z U (y0a b0a [0,1,2,3,4,5] [] [] Z (Cl _ _ _ _) (Cl.start S) ?_);refine qO0 Z U (r0a J3a Z Z Z ?_);refine i0a Z3a Z (fun w1 hw=>by exact hw.2.cell List.not_mem_nil p0) Z ?_;refine qD Z U ?_;rintro u0 ⟨g0,_⟩;refine lC0 Z U ?_;refine wL (fun μy D ε w=>D=[]∧∃y:Nat,(y+μy=64)∧(J (D0b m k++e7b m k y) w)∧ε 0=.func (.yield l) #[] #[]∧ε 3=.int .i64 k∧ε 4=uV (m.getD k 0)∧ε 6=.pointer (some ⟨g,0,none⟩)∧ε 7=.int .i64 k∧ε 13=.int .i64 y) (μ:=64) ⟨Z,0,by omega,by rw[e1c,List.append_nil];exact hJ.own _ _ _ d0 g0.fin,Z,Z,Z,Z,Z,Z⟩ ?_;rintro μy D ε w ⟨rfl,y,_,a0,e0,e3,e4,e6,e7,f0⟩;refine q0a 0 e0 (q0a 3 e3 (q0a 4 e4 (q0a 6 e6 (q0a 7 e7 (q0a 13 f0 ?_)))));clear e0 e3 e4 e6 e7 f0;have S:=St.refl w;refine wB0 Z U (fun i0=>?_) fun i0=>?_
  ·refine lOn 16 S.k [] Z U (I0a (hv:=Z) (v:=.int .u64 _) Z ?_);refine lO0 Z U (k5c (n:=y) Z Z ?_);have q0:=(hm.at_ (x:=k) (by omega)).2;refine J2c (n:=m.getD k 0 >>> y) (m:=1) Z Z (Nat.lt_of_le_of_lt (Nat.shiftRight_le _ _) q0) Z ?_;refine g3c Z Z Z (fun b0=>?_) fun b0=>?_
   ·refine lO0 Z U ?_;have r0:=Q3a m k;have s0:=n7b m k y;refine U0c Z Z Z (hJ.each _ _ k y a0 (by rw[List.length_append];omega) (by omega) (by omega)) ?_;rintro v25 t0 ⟨rfl,c0⟩;refine lP0 Z ⟨by omega,U⟩ ?_;exact⟨μy-1,by omega,Z,y+1,by omega,by rw[u4b,if_pos ((C7a _ _).1 b0),←List.append_assoc];exact c0,Z,Z,Z,Z,Z,Z⟩
   refine lP0 Z ⟨by omega,U⟩ ?_;exact⟨μy-1,by omega,Z,y+1,by omega,by rw[u4b,if_neg (fun h=>b0 ((C7a _ _).2 h))];exact a0,Z,Z,Z,Z,Z,Z⟩
  refine lP0 Z ⟨by omega,U⟩ ?_;exact⟨μ-1,by omega,Z,k+1,by omega,by rw[M9a];rw[show y=64 by omega] at a0;exact a0,Z,Z,Z⟩
 refine lF0 Z U (C1a Z ?_);exact(show k=64 by omega)▸d0
def j6a(p:o0a)(t j:Nat)(x:Int×Int):Prop:=∃u th uh s n,u<j∧u≠t∧p.threads[t]?=some th∧p.threads[u]?=some uh∧s∈th.steps∧n∈uh.modules∧x=(s.module_,n)
def Q8a(p:o0a)(k:Nat)(x:Int×Int):Prop:=∃t,t<k∧j6a p t p.threads.length x
theorem Q8a.zero{p:o0a}{x:Int×Int}:¬Q8a p 0 x:=fun⟨_,h,_⟩=>by omega
theorem Q8a.succ{p:o0a}{k:Nat}{x:Int×Int}:Q8a p (k+1) x↔Q8a p k x∨j6a p k p.threads.length x:=by
 unfold Q8a;constructor
 ·rintro⟨t,h,h2⟩;by_cases ht:t=k
  ·subst ht;exact .inr h2
  ·exact .inl ⟨t,by omega,h2⟩
 ·rintro(⟨t,h,h2⟩|h)
  ·exact⟨t,by omega,h2⟩
  ·exact⟨k,by omega,h⟩
theorem j6a.zero{p:o0a}{t:Nat}{x:Int×Int}:¬j6a p t 0 x:=fun⟨_,_,_,_,_,h,_⟩=>by omega
theorem j6a.skip{p:o0a}{t j:Nat}{x:Int×Int}(h:j=t):j6a p t (j+1) x↔j6a p t j x:=by
 unfold j6a;constructor
 ·rintro⟨u,th,uh,s,n,h1,h2,h3⟩;exact⟨u,th,uh,s,n,by omega,h2,h3⟩
 ·rintro⟨u,th,uh,s,n,h1,h2,h3⟩;exact⟨u,th,uh,s,n,by omega,h2,h3⟩
theorem j6a.succ{p:o0a}{t j:Nat}{th uh:k1a}{x:Int×Int}(h:j≠t)(ht:p.threads[t]?=some th)(hu:p.threads[j]?=some uh):j6a p t (j+1) x↔j6a p t j x∨∃s∈th.steps,∃n∈uh.modules,x=(s.module_,n):=by
 unfold j6a;constructor
 ·rintro⟨u,b0,a0,s,n,h1,h2,h3,h4,h5,h6,h7⟩;rw[ht] at h3;cases h3;by_cases hj:u=j
  ·subst hj;rw[hu] at h4;cases h4;exact .inr ⟨s,h5,n,h6,h7⟩
  ·exact .inl ⟨u,th,a0,s,n,by omega,h2,ht,h4,h5,h6,h7⟩
 ·rintro(⟨u,b0,a0,s,n,h1,h2⟩|⟨s,h5,n,h6,h7⟩)
  ·exact⟨u,b0,a0,s,n,by omega,h2⟩
  ·exact⟨j,th,uh,s,n,by omega,h,ht,hu,h5,h6,h7⟩
theorem X9a{α:Type}{l:List α}{k:Nat}{a:α}(h:l[k]?=some a)(P:α→Prop):(∃s∈l.take (k+1),P s)↔(∃s∈l.take k,P s)∨P a:=by
 rw[F0a h];constructor
 ·rintro⟨s,h1,h2⟩;rcases List.mem_append.1 h1 with h3|h3
  ·exact .inl ⟨s,h3,h2⟩
  ·rw[List.mem_singleton.1 h3] at h2;exact .inr h2
 ·rintro(⟨s,h1,h2⟩|h)
  ·exact⟨s,List.mem_append_left _ h1,h2⟩
  ·exact⟨a,by simp,h⟩
theorem V7b{M:List Nat}{w:World}{g a0 t:Nat}{cs:List Value}{l:List (Int×Int)}(h2:cs.take (l.length*2)=pcs l)(b0:∀x∈l,i64 x.1∧i64 x.2)(hc:a0≤maxLen)(hb:m0a w (g,t,cs))(hg:g∉M)(hl:l.length≤a0:=by omega)(hs:l.length≤140737488355328:=by omega):j9a M w (.slice (some ⟨g,0,none⟩) l.length a0) l:=by
 refine⟨_,l.length,a0,Z,Z,hl,hc,hs,fun _=>⟨g,0,Z,hg,fun i x hi=>⟨pc x,Z,fun j v hj=>?_,Z,b0 x (List.mem_of_getElem? hi)⟩⟩⟩;rw[Nat.zero_add];have h3:=V9b hi j v hj;rw[←h2,List.getElem?_take] at h3
 split at h3
 ·exact hb.cell h3
 ·cases h3
theorem c4a:Bld prog 72 [.int .i64 0,.int .i64 0] [(0,1),(1,1)]:=W0c (size:=1) Tryz.underlying72 (fun _=>by kernel_rfl) (fun _=>by kernel_rfl) _ Z
theorem w1b(p:o0a)(M:List Nat)(w0:World)(cs:List Value)(hI:InP p M w0 cs):
 E0a prog 13 #[.agg cs.toArray] w0 fun v w'=>(∃l,j9a M w' v l∧l.Pairwise lt2∧(∀x,x∈l↔Q8a p p.threads.length x)∧l.length≤50000)∧Below w0.heap.size w0 w':=by
 obtain⟨Ac,nc,cc,Am,nm,cm,Al,nl,cl,At,nt,ct,rfl,_,_,_,h2,_⟩:=hI.rd.open_;have S:=(St.refl w0).nilEnt 72;have hM:=hI.lt;have hp:=hI.ok;have n2:=hp.nthreads;refine a0a func13 Z ntmps13 Z ?_;refine wO0 Z U (p0a S Z ?_);intro g1 w1 S1 X1 G1;refine lO S1.k [.w 0] Z ⟨⟨Z,Z⟩,U⟩ (g0a S1 Y7b Z Z (W5a p M _ _ (hI.keep (S1.keep0 M))) ?_);intro I3 a2 t3;refine lO0 Z U (X3a (k:=72) a2 Z ?_);intro g17 J3 b2 u3 p3 o1;have E1:w0.heap.size≤g17:=by have:=a2.size;omega
 have Ms:=H0b.mk_ (enc:=X5b) o1;refine lC b2.k [.o 0] Z ⟨Z,U⟩ (wL (fun μk D ε w=>D=[]∧∃k:Nat,∃l1:List (Int×Int),(k+μk=(p.threads.length))∧(H0b X5b w g17 l1)∧(∀x,x∈l1↔Q8a p k x)∧(l1.Nodup)∧(∀x∈l1,i64 x.1∧i64 x.2)∧(l1.length≤12288*k)∧St [] w0 w [(some g1,27,[.slice Ac nc cc,.slice Am nm cm,.slice Al nl cl,.slice At nt ct]),(none,72,[])]∧Sl ε [(1,.pointer (some ⟨g1,0,none⟩)),(3,.map (some g17)),(19,.slice At nt ct),(20,.int .i64 nt),(21,.int .i64 k)]) (μ:=(p.threads.length)) ⟨Z,0,[],by omega,Ms,(fun x=>⟨fun h=>(by cases h),fun h=>absurd h Q8a.zero⟩),List.nodup_nil,(fun x hx=>by cases hx),by simp,b2,Z⟩ ?_);rintro μk D ε w ⟨rfl,k,l1,_,Ms,j2,V2,y0,_,S,eZ⟩;refine wK eZ (wB0 Z U (fun N2=>?_) fun N2=>?_)
 ·obtain⟨th,H2,d3,_,B0,v1,_,F1,A1,P1⟩:=RdS.get (h2) (k) (by omega);obtain⟨n0,D0,t0,p0,F0,v0,c0,a0,e0,o0,E0,u0,rfl,_,_,_,T0,_⟩:=T0a.open_ P1;have C3:=(hp.thread B0).nsteps;refine lO (S.k.a A1) [.x H2 d3,.v 0] Z ⟨⟨Z,F1⟩,⟨v1,by omega⟩,U⟩ (h0a S B0b Z Z ?_);intro g5 w5 S5 X5 G5;replace Ms:=Ms.keep X5 (List.not_mem_nil);refine lO0 Z U (c0a (kk:=0) (vs:=[_,_,_,_,_,_,_]) S5 x0b Z Z Z Z Z Z Z ?_);intro j3 s0 p1;dsimp only[f0a,List.set] at s0;replace Ms:=Ms.keep p1 (fun hh=>by rw[List.mem_singleton] at hh;exact Ms.ne (S5.blk 0 Z) hh);refine lC s0.k [.o 1] Z ⟨Z,U⟩ (wL (fun μj D ε w=>D=[]∧∃j:Nat,∃l2:List (Int×Int),(j+μj=(p.threads.length))∧(H0b X5b w g17 l2)∧(∀x,x∈l2↔x∈l1∨j6a p k j x)∧(l2.Nodup)∧(∀x∈l2,i64 x.1∧i64 x.2)∧(l2.length≤12288*k+3072*j)∧St [] w0 w [(some g5,64,[.string th.name,.int .i64 th.points,.slice n0 D0 t0,.slice p0 F0 v0,.slice c0 a0 e0,.slice o0 E0 u0,.bool th.asleep]),(some g1,27,[.slice Ac nc cc,.slice Am nm cm,.slice Al nl cl,.slice At nt ct]),(none,72,[])]∧Sl ε [(1,.pointer (some ⟨g1,0,none⟩)),(3,.map (some g17)),(4,.int .i64 k),(5,.pointer (some ⟨g5,0,none⟩)),(19,.slice At nt ct),(20,.int .i64 nt),(21,.int .i64 k),(27,.slice At nt ct),(28,.int .i64 nt),(29,.int .i64 j)]) (μ:=(p.threads.length)) ⟨Z,0,l1,by omega,Ms,(fun x=>⟨.inl,fun h=>h.elim id (fun h=>absurd h j6a.zero)⟩),V2,y0,by omega,s0,Z⟩ ?_);rintro μj D ε w ⟨rfl,j,l2,_,m0,J1,K1,z0,_,S,eZ⟩;refine wK eZ (wB0 Z U (fun O2=>?_) fun O2=>?_)
  ·obtain⟨uh,I2,e3,_,C0,x1,_,H1,B1,Q1⟩:=RdS.get (h2) (j) (by omega);obtain⟨G0,c1,P0,q0,j0,x0,I0,f1,R0,H0,d1,Q0,rfl,_,_,S0,_⟩:=T0a.open_ Q1;have X2:=(hp.thread C0).nmod;have Z2:=(hp.thread C0).points;refine lO (S.k.a B1) [.x I2 e3,.v 0] Z ⟨⟨Z,H1⟩,⟨x1,by omega⟩,U⟩ (h0a S B0b Z Z ?_);intro g7 w7 S7 X7 G7;replace m0:=m0.keep X7 (List.not_mem_nil);refine lO0 Z U (c0a (kk:=0) (vs:=[_,_,_,_,_,_,_]) S7 x0b Z Z Z Z Z Z Z ?_);intro n3 f0 r1;dsimp only[f0a,List.set] at f0;replace m0:=m0.keep r1 (fun hh=>by rw[List.mem_singleton] at hh;exact m0.ne (S7.blk 0 Z) hh);refine lB0 Z U (fun P2=>?_) fun P2=>?_
   ·refine lP0 Z ⟨by omega,U⟩ ⟨μj-1,by omega,Z,(j+1),?_,(by omega),?_,?_,?_,?_,?_,f0.tail,Z⟩;exact l2
    ·exact m0
    ·intro x;rw[j6a.skip (by omega)];exact J1 x
    ·exact K1
    ·exact z0
    ·omega
   refine lC f0.k [.o 1] Z ⟨Z,U⟩ (wL (fun μi D ε w=>D=[]∧∃i:Nat,∃l3:List (Int×Int),(i+μi=(th.steps.length))∧(H0b X5b w g17 l3)∧(∀x,x∈l3↔x∈l2∨∃s∈th.steps.take i,∃n∈uh.modules,x=(s.module_,n))∧(l3.Nodup)∧(∀x∈l3,i64 x.1∧i64 x.2)∧(l3.length≤12288*k+3072*j+48*i)∧St [] w0 w [(some g7,64,[.string uh.name,.int .i64 uh.points,.slice G0 c1 P0,.slice q0 j0 x0,.slice I0 f1 R0,.slice H0 d1 Q0,.bool uh.asleep]),(some g5,64,[.string th.name,.int .i64 th.points,.slice n0 D0 t0,.slice p0 F0 v0,.slice c0 a0 e0,.slice o0 E0 u0,.bool th.asleep]),(some g1,27,[.slice Ac nc cc,.slice Am nm cm,.slice Al nl cl,.slice At nt ct]),(none,72,[])]∧Sl ε [(1,.pointer (some ⟨g1,0,none⟩)),(3,.map (some g17)),(4,.int .i64 k),(5,.pointer (some ⟨g5,0,none⟩)),(7,.pointer (some ⟨g7,0,none⟩)),(19,.slice At nt ct),(20,.int .i64 nt),(21,.int .i64 k),(27,.slice At nt ct),(28,.int .i64 nt),(29,.int .i64 j),(38,.slice c0 a0 e0),(39,.int .i64 a0),(40,.int .i64 i)]) (μ:=(th.steps.length)) ⟨Z,0,l2,by omega,m0,(fun x=>⟨.inl,fun h=>h.elim id (fun⟨_,h,_⟩=>by simp at h)⟩),K1,z0,by omega,f0,Z⟩ ?_);rintro μi D ε w ⟨rfl,i,l3,_,r0,m2,p2,W0,_,S,eZ⟩;refine wK eZ (wB0 Z U (fun Q2=>?_) fun Q2=>?_)
   ·obtain⟨s,J2,f3,_,s2,y1,_,I1,C1,R1⟩:=RdS.get (T0) (i) (by omega);obtain⟨m1,V1,t1,n1,W1,u1,rfl,⟨_,_,_,_,U1⟩,_⟩:=Y1a.open_ R1;have U2:=((hp.thread B0).steps s (d0a s2)).mod;have a1:=U1;refine lO (S.k.a C1) [.x J2 f3,.v 0] Z ⟨⟨Z,I1⟩,⟨y1,by omega⟩,U⟩ (h0a S Z8c Z Z ?_);intro g9 w9 S9 X9 G9;replace r0:=r0.keep X9 (List.not_mem_nil);refine c0a (kk:=0) (vs:=[_,_,_,_,_,_,_,_,_,_,_]) S9 V6c Z Z Z Z Z Z Z ?_;intro t2 d0 N0;dsimp only[f0a,List.set] at d0;replace r0:=r0.keep N0 (fun hh=>by rw[List.mem_singleton] at hh;exact r0.ne (S9.blk 0 Z) hh);refine lC d0.k [.o 1] Z ⟨Z,U⟩ (wL (fun μq D ε w=>D=[]∧∃q:Nat,∃l4:List (Int×Int),(q+μq=(uh.modules.length))∧(H0b X5b w g17 l4)∧(∀x,x∈l4↔x∈l3∨∃n∈uh.modules.take q,x=(s.module_,n))∧(l4.Nodup)∧(∀x∈l4,i64 x.1∧i64 x.2)∧(l4.length≤12288*k+3072*j+48*i+q)∧St [] w0 w [(some g9,60,[.int .i64 s.kind,.int .i64 s.frm,.int .i64 s.to,.int .i64 s.guard.op,.int .i64 s.guard.w,.int .i64 s.guard.n,.slice m1 V1 t1,.slice n1 W1 u1,.bool s.release,.int .i64 s.target,.int .i64 s.module_]),(some g7,64,[.string uh.name,.int .i64 uh.points,.slice G0 c1 P0,.slice q0 j0 x0,.slice I0 f1 R0,.slice H0 d1 Q0,.bool uh.asleep]),(some g5,64,[.string th.name,.int .i64 th.points,.slice n0 D0 t0,.slice p0 F0 v0,.slice c0 a0 e0,.slice o0 E0 u0,.bool th.asleep]),(some g1,27,[.slice Ac nc cc,.slice Am nm cm,.slice Al nl cl,.slice At nt ct]),(none,72,[])]∧Sl ε [(1,.pointer (some ⟨g1,0,none⟩)),(3,.map (some g17)),(4,.int .i64 k),(5,.pointer (some ⟨g5,0,none⟩)),(7,.pointer (some ⟨g7,0,none⟩)),(9,.pointer (some ⟨g9,0,none⟩)),(19,.slice At nt ct),(20,.int .i64 nt),(21,.int .i64 k),(27,.slice At nt ct),(28,.int .i64 nt),(29,.int .i64 j),(38,.slice c0 a0 e0),(39,.int .i64 a0),(40,.int .i64 i),(45,.slice q0 j0 x0),(46,.int .i64 j0),(47,.int .i64 q)]) (μ:=(uh.modules.length)) ⟨Z,0,l3,by omega,r0,(fun x=>⟨.inl,fun h=>h.elim id (fun⟨_,h,_⟩=>by simp at h)⟩),p2,W0,by omega,d0,Z⟩ ?_);rintro μq D ε w ⟨rfl,q,l4,_,Z1,o2,r2,g0,_,S,eZ⟩;refine wK eZ (wB0 Z U (fun R2=>?_) fun R2=>?_)
    ·obtain⟨n,K2,g3,_,b3,z1,_,_,D1,T1⟩:=RdS.get (S0) (q) (by omega);obtain⟨rfl,Z0⟩:=id T1;refine lO (S.k.a D1) [.x K2 g3,.f 0 0,.o 0] Z ⟨Z,Z,⟨z1,by omega⟩,U⟩ (H0a c4a (vs:=[(0,.int .i64 _),(1,.int .i64 _)]) (cs:=[_,_]) Z Z Z Z ?_);refine b0c (k:=72) (enc:=X5b) (a:=(s.module_,n)) S f2c Tryz.underlying104 K3c (fun a ha=>w1c (g0 a ha).1 (g0 a ha).2) (w1c a1 Z0) Z1 Z Z Z (.inl E1) ?_;intro v2 L0 f2 A2;refine lP0 Z ⟨by omega,U⟩ ⟨μq-1,by omega,Z,(q+1),(_),(by omega),(A2),?_,(e1b r2),?_,(Nat.le_trans M6b (by omega)),L0,Z⟩
     ·intro x;rw[b9a,o2,X9a b3,or_assoc]
     ·intro x hx;rcases b9a.1 hx with h|h;exact g0 x h;subst h;exact⟨a1,Z0⟩
    refine lP0 Z ⟨by omega,U⟩ ⟨μi-1,by omega,Z,(i+1),(l4),(by omega),(Z1),?_,(r2),(g0),(by omega),S.tail,Z⟩;intro x;rw[o2,m2,or_assoc,X9a s2,List.take_of_length_le (l:=uh.modules) (by omega)]
   refine lP0 Z ⟨by omega,U⟩ ⟨μj-1,by omega,Z,(j+1),?_,(by omega),?_,?_,?_,?_,?_,S.tail,Z⟩;exact l3
   ·exact r0
   ·intro x;rw[m2,J1,j6a.succ (by omega) B0 C0,or_assoc,List.take_of_length_le (l:=th.steps) (by omega)]
   ·exact p2
   ·exact W0
   ·omega
  refine lP0 Z ⟨by omega,U⟩ ⟨μk-1,by omega,Z,(k+1),(l2),(by omega),(m0),?_,(K1),(z0),(by omega),S.tail,Z⟩;intro x;rw[J1,Q8a.succ,j2,show j=p.threads.length by omega]
 refine lOn 8 S.k [] Z U (C0a Z ?_);refine lO0 Z U (L7b S Tryz.underlying104 Ms Z Z ?_);intro Y1 K3 C2 v3 z2 It;have O1:w0.heap.size≤Y1:=Nat.le_trans S.size z2;refine lC0 Z U (wL (fun μ D ε w=>D=[]∧∃G:Option Nat,∃j1:List Value,∃v:Value,∃acc:List (Int×Int),∃i0:List (Int×Int),∃g2:Option (Int×Int),(i0.length=μ)∧(Q6a X5b w g17 Y1 i0 g2)∧((acc++i0).Perm l1)∧(Q1a A8a 2 [] w0 G j1 v acc)∧St [] w0 w [(some g1,27,[.slice Ac nc cc,.slice Am nm cm,.slice Al nl cl,.slice At nt ct]),(G,72,j1)]∧Sl ε [(12,v),(61,.pointer (some ⟨Y1,0,none⟩))]) (μ:=l1.length) ⟨Z,none,[],.slice none 0 0,[],l1,none,Z,It,List.Perm.refl _,Q1a.nil,C2,Z⟩ ?_);rintro μ D ε w ⟨rfl,G,j1,v,acc,i0,g2,_,It,X0,Y0,S,eZ⟩;refine wK eZ ?_;have KI:=u0a.refl G.toList w;refine wO0 Z U (R9b S It (.inl O1) Z Z (fun hz=>?_) (fun a b1 E3 i3 M1 d2 w3 K0=>?_))
 ·have N1:acc.Perm l1:=by rw[hz,List.append_nil] at X0;exact X0
  have a3:=Y0.toVP;have D3:=N1.length_eq;have i2:acc.length≤50000:=by omega
  have A3:=O0c acc;have V0:∀x,x∈ddP acc↔Q8a p p.threads.length x:=fun x=>by rw[L9a,N1.mem_iff,j2,show k=p.threads.length by omega]
  have Y2:∀x∈ddP acc,i64 x.1∧i64 x.2:=fun x hx=>y0 x (N1.subset (L9a.1 hx));refine lOn 9 S.k [] Z U ?_;rcases a3 with⟨B3,⟨rfl,rfl,W2⟩|⟨g9,s1,rfl,rfl,q1,q2,q3,q4⟩⟩;all_goals refine I0a Z ?_
  ·refine j0a S k9b Z Z (E8a _ 0 none) ?_;rintro h3 m3 rfl i1 x3;refine lR0 Z U (s0a Z ?_);exact⟨⟨ddP acc,⟨none,0,0,Z,by omega,Nat.le_refl _,by unfold maxLen;omega,by omega,fun h=>absurd h (by omega)⟩,y0c _,V0,by omega⟩,i1.fin⟩
  refine J1a k9b Z Z (F8a g9 s1 acc j1 _ (S.blk 1 Z) q4 q3 (by omega)) ?_;rintro h3 m3 ⟨rfl,x2,_,_,U0,u2⟩;have i1:=S.changed1 1 Z x2 U0;refine lR0 Z U (s0a Z ?_);refine⟨⟨ddP acc,?_,y0c _,V0,by omega⟩,i1.fin⟩;exact V7b u2 Y2 q2 U0 (fun hm=>by have:=hM _ hm;have:=i1.new 1 Z;simp at this;omega)
 have KI:=u0a.refl G.toList i3;refine lO0 Z U ?_;have T2:=X0.length_eq;rw[List.length_append] at T2;have i2:=M1.length_eq;rw[List.length_cons] at i2;have S2:i64 a.1∧i64 a.2:=y0 a (X0.subset (List.mem_append_right _ (M1.symm.subset (by simp))));refine h7b K0 Z Z (fun F3=>?_);refine lO0 Z U (h0a d2 X8b Z Z ?_);intro y3 H3 B2 E2 y2;have J0:=Nat.le_trans KI.size y2;replace KI:=KI.trans (E2.of_nil);refine c0a (kk:=0) (vs:=[_,_]) B2 y5b Z Z Z Z Z Z Z ?_;intro w2 b0 O0;dsimp only[f0a,List.set] at b0;replace KI:=KI.fresh2 O0 (by exact .inl J0);refine lOn 3 b0.k [] Z U (I0a Z ?_);refine lO b0.k [.w 0] Z ⟨⟨Z,by rfl⟩,U⟩ (k0a b0 u3a (vs:=[.agg _]) (cs:=[_,_]) Z Z Z Z Z Z ?_);intro z3 L3 e2 F2 r3;replace KI:=KI.trans (F2.of_nil);refine u1a W8a (k:=3) (M2:=[]) (e1:=a) e2 u3a Z Y0 Z Z (e2.cells 0 Z) ⟨Z,S2⟩ (by omega) Z ?_;intro G3 s3 L2 M3 D2 A0 G2 o3;refine C0a Z ?_;refine lP0 Z U ⟨μ-1,by omega,Z,(_),(_),(_),(acc++[a]),(b1),(some a),?_,?_,?_,?_,D2.tail.tail,Z⟩
 ·omega
 ·exact K0.keepC (KI.trans G2) (d2.optBlk 1 Z)
 ·rw[List.append_assoc];exact(M1.symm.append_left acc).trans X0
 ·exact A0
def K7b(w0 w:World)(v:Value)(l:List (Int×Int)):Prop:=∀M:List Nat,(∀g∈M,g<w0.heap.size)→j9a M w v l
theorem K7b.later{w0 w1 w w':World}{v:Value}{l:List (Int×Int)}{G:List Nat}(h:K7b w1 w v l)(hk:u0a G w w')(hG:∀g∈G,g<w1.heap.size)(h0:w0.heap.size≤w1.heap.size):K7b w0 w' v l:=fun M hM =>
 ((h (G++M) (fun g hg=>by rcases List.mem_append.1 hg with h|h;exact hG g h;exact Nat.lt_of_lt_of_le (hM g h) h0)).keep (hk.mono fun g hg=>List.mem_append_left _ hg)).less fun g hg=>List.mem_append_right _ hg
theorem K7b.at_{w1 w w':World}{v:Value}{l:List (Int×Int)}{G:List Nat}(h:K7b w1 w v l)(hk:u0a G w w')(hG:∀g∈G,g<w1.heap.size):j9a [] w' v l:=((h G hG).keep hk).less (by simp)
theorem K7b.form{w0 w:World}{v:Value}{l:List (Int×Int)}(h:K7b w0 w v l):∃A n c,v=.slice A n c:=(h [] (by simp)).form
section
variable {P:Program} {fn:Func} {R:Value→World→Prop} {D:List Deferred} {e:Env} {w:World}
theorem P8b{a1 t1 n g1:Nat}{cs:List Value}(h:fn.results=#[.cell a1 t1])(hM:y7a P t1 n)(e1:e a1=.pointer (some ⟨g1,0,none⟩))(c0:cs.length=n)
 (rs:List Nat) (hD:D=rs.map F9a) (hn:rs.Nodup) (hO:NC w (D2b rs)) (a0:Cells w g1 0 cs) (b0:g1∉rs) (hR:∀w',D0a rs w w'→R (.agg cs.toArray) w'):Z6a P fn R D e w :=
 ⟨rs,hD,hn,hO,fun w' hb _ tmps he=>by
  have hk:u0a rs w w':=⟨hb.size,hb.block⟩;have c1:=a0.keep hk b0;subst he;subst c0;simp only[L0a,Array.getD_eq_getD_getElem?] at e1;have h1:=run_loadCells_list (P:=P) w' ⟨g1,0,none⟩ cs (fun j v hj=>by rw[Addr.add_lit];exact c1 j v hj);exact⟨_,by simp[results,h,asAddr,e1,hM w',h1],hR w' hb⟩⟩
theorem t8b{a1 t1 n g1 u:Nat}{cs:List Value}{v2:Value}(h:fn.results=#[.cell a1 t1,.tmp u])(hM:y7a P t1 n)(e1:e a1=.pointer (some ⟨g1,0,none⟩))(hu:e u=v2)(c0:cs.length=n)
 (rs:List Nat) (hD:D=rs.map F9a) (hn:rs.Nodup) (hO:NC w (D2b rs)) (a0:Cells w g1 0 cs) (b0:g1∉rs) (hR:∀w',D0a rs w w'→R (.tuple #[.agg cs.toArray,v2]) w'):Z6a P fn R D e w :=
 ⟨rs,hD,hn,hO,fun w' hb _ tmps he=>by
  have hk:u0a rs w w':=⟨hb.size,hb.block⟩;have c1:=a0.keep hk b0;subst he;subst c0;subst hu;simp only[L0a,Array.getD_eq_getD_getElem?] at e1;have h1:=run_loadCells_list (P:=P) w' ⟨g1,0,none⟩ cs (fun j v hj=>by rw[Addr.add_lit];exact c1 j v hj);exact⟨.tuple #[.agg cs.toArray,L0a { tmps,defers:=[] } u],by simp[results,h,asAddr,e1,hM w',h1,L0a],hR w' hb⟩⟩
end
theorem St.marksW{w0 w w':World}{L:List Ent}(S:St [] w0 w L){rs:List Nat}(hO:NC w (D2b rs))(hb:D0a rs w w')(b0:∀g∈rs,w0.heap.size≤g):St [] w0 w' L:=by
 have a0:∀b∈L,∀g,b.1=some g→g∉rs:=fun b hm g hg hr=>by
  have h1:=(S.own b hm g hg).2;exact hO.ne h1 (g,_) (List.mem_map.2 ⟨g,hr,Z⟩) Z
 refine S.keeps ⟨hb.os.trans S.below.os,hb.tape.trans S.below.tape,hb.output.trans S.below.output,Nat.le_trans S.below.size hb.size,fun k hk hm=>(hb.block k (Nat.lt_of_lt_of_le hk S.below.size) (fun hh=>by have:=b0 k hh;omega)).trans (S.below.block k hk hm)⟩ fun b hm g hg=>?_;exact hb.block g ((S.own b hm g hg).2.lt) (a0 b hm g hg)
theorem Q1a.newP{M:List Nat}{w0 w1 w:World}{L:List Ent}{k el:Nat}{G:Option Nat}{cs:List Value}{v:Value}{l:List (Int×Int)}(h:Q1a A8a 2 [] w1 G cs v l)(S:St [] w0 w L)(hk:L[k]?=some (G,el,cs))(hM:∀g∈M,g<w0.heap.size)(hl:l.length≤1000000):j9a M w v l:=by
 have h2:Q1a A8a 2 M w1 G cs v l:=h;refine Q1a.rd (w:=w) W8a (h2:Q1a A8a 2 M w G cs v l) S hk (fun g hg hm=>?_) hl;subst hg;have:=S.new k hk;have:=hM g hm;simp at *;omega
theorem P5a(C W:List Int)(m:List Nat)(R:Nat→Nat→Prop)(hm:G4a m R)(M:List Nat)(w0:World)(vc vw:Value)(g:Nat)(hC:RdI M w0 vc C)(hW:RdI M w0 vw W)(H0:m0a w0 (g,173,mW m))(hlc:C.length≤1000:=by omega)(hlw:W.length≤1000:=by omega):
 E0a prog 118 #[vc,vw,.pointer (some ⟨g,0,none⟩)] w0 fun v w'=>(∃a b c,v=.agg #[a,b,c]∧r5a w0 w' a C∧r5a w0 w' b W∧K7b w0 w' c (D0b m 64))∧Below w0.heap.size w0 w':=by
 obtain⟨_,n,c,rfl⟩:=hC.form;obtain⟨_,_,_,rfl⟩:=hW.form;have S:=(St.refl w0).nilEnt 72;refine x9a func118 Z ntmps118 Z (wI ?_);refine wO0 Z U (h0a S g6a Z Z ?_);intro g6 w6 S6 X6 G6;refine lO0 Z U (j0a S6 v9a Z Z (D5a M _ _ C (hC.keep (S6.keep0 M))) ?_);rintro x1 A1 A0 O0 p1;obtain⟨Ga,U0,J0,g0⟩:=A0.open_ O0 S6;obtain⟨A8,n8,c8,rfl⟩:=J0.form;refine lO0 Z U (j0a g0 v9a Z Z (D5a M _ _ W (hW.keep (g0.keep0 M))) ?_);rintro y1 B1 p0 P0 q1;obtain⟨Gb,V0,K0,q0⟩:=p0.open_ P0 g0;obtain⟨L0,i1,S0,rfl⟩:=K0.form;refine H0a M5c (vs:=[(0,.slice _ _ _),(1,.slice _ _ _)]) (cs:=[_,_,_]) Z Z Z Z ?_;refine h0a q0 g6a Z Z ?_;intro g7 w7 S7 X7 G7;refine c0a (kk:=0) (vs:=[_,_,_]) S7 f6a Z Z Z Z Z Z Z ?_;intro j1 n0 Q0;dsimp only[f0a,List.set] at n0;refine lO0 Z U (j0a n0 T8c Z Z (q2c g _) ?_);rintro z1 f0 ⟨gb,rfl,_,Y0⟩ m0 r1;refine lC0 Z U (wJ ?_);refine r9a (vs:=fun y=>#[y,_]) x9c Z (fun _=>rfl) (fun rc wi B0 I0 f1 y0 d1 X0 Z0 a1 hl hB u1=>?_);obtain⟨l,c1⟩:∃l,l=f0.heap.size+1:=⟨_,Z⟩;have G0:=D9a (NC.nil (w:=f0)) a1 hl hB;rw[←c1] at hl G0 ⊢;have Si:=m0.later hB;have Ki:u0a [] f0 wi:=u0a.of_below hB;have Zw:=m0.size;have v1:=m0.lt 0 Z;have w1:w0.heap.size≤g7:=by simpa using m0.new 0 Z
 have g1:=H0.lt;simp only at g1;have i0:∀x∈[(f0.heap.size,Obj.deferred (some []))],x.1≠l:=fun x hx=>by
  rcases List.mem_cons.1 hx with rfl|hx
  ·show f0.heap.size≠l;omega
  ·cases hx
 have b1:g∉[l,g7]:=fun hh=>by
  simp only[List.mem_cons,List.not_mem_nil,or_false] at hh;omega
 have x0:m0a wi (g,173,mW m):=W0a Ki (W0a (m0.keep0 []) H0);refine E0a.mono (e8b m R hm g gb l [l,g7] wi (fun k w=>NC w [(l,.loop rc),(f0.heap.size,.deferred (some []))]∧(∃G cs v,Q1a A8a 2 [] w0 G cs v k∧(∀x∈G.toList,wi.heap.size≤x)∧St [] w0 w [(some g7,41,[.slice A8 n8 c8,.slice L0 i1 S0,v]),(Gb,3,V0),(Ga,3,U0),(some g6,41,[.slice none 0 0,.slice none 0 0,.slice none 0 0]),(G,72,cs)])∧u0a [l,g7] wi w) x0 (W0a Ki Y0) b1 ⟨?_,?_,fun k w h=>h.2.2,fun k w x y hJ t1 hx hy=>?_⟩) ?_
 ·intro w v0;exact⟨G0.keep (u0a.of_below v0),⟨none,[],.slice none 0 0,Q1a.nil,by simp,Si.later v0⟩,u0a.of_below v0⟩
 ·rintro k w w' ⟨c0,⟨G,cs,v,h1,h2,S3⟩,K3⟩ u0;exact⟨c0.keep (u0a.of_below u0),⟨G,cs,v,h1,h2,S3.later u0⟩,K3.trans (u0a.of_below u0)⟩
 ·obtain⟨c0,⟨G,cs,v,a0,z0,S3⟩,K3⟩:=hJ;obtain⟨Av,nv,cv,rfl⟩:=a0.form;refine y9c (c0 (l,.loop rc) (by simp)).1 B0 f1 y0 d1 X0 Z0 Z Z ?_;refine wI ?_;refine wF0 Z U ?_;refine⟨(c0 (l,.loop rc) (by simp)).1,?_⟩;have Sb:=S3.putObj (.loop { rc with state:=.busy }) c0 (List.mem_cons_self) (.inl (by omega));have d0:=c0.put (o':=.loop { rc with state:=.busy }) i0 (by simp);have Kb:=K3.fresh2 (O2a w l (.loop { rc with state:=.busy })) (.inr (by simp));generalize w.putObj l (.loop { rc with state:=.busy })=wb at Sb d0 Kb ⊢;refine wI ?_;refine wO0 Z U (B0a B5a Z (by exact Sb.cell 0 Z Z) Z ?_);refine lO0 Z U (H0a c4a (vs:=[(0,.int .i64 _),(1,.int .i64 _)]) (cs:=[_,_]) Z Z Z Z ?_);refine k0a Sb u3a (vs:=[.agg _]) (cs:=[_,_]) Z Z Z Z Z Z ?_;intro s1 C1 r0 E0 n1;replace Kb:=Kb.trans (E0.of_nil);replace d0:=d0.keep E0;have R0:=Kb.size;refine u1a W8a (k:=5) (M2:=[]) (e1:=((x:Int),(y:Int))) r0 u3a Z a0 Z Z (r0.cells 0 Z) ⟨Z,by unfold i64;omega,by unfold i64;omega⟩ (by omega) Z ?_;intro v25 o1 T0 D1 D0 b0 F0 N0;replace Kb:=Kb.freshL F0 (fun g hg=>.inl (z0 g hg));replace d0:=d0.keepL F0 (D1b r0 5 Z);obtain⟨_,_,_,rfl⟩:=b0.form;refine lO0 Z U (c1a (kk:=1) D0 w1d Z Z Z (by exact Nat.le_of_ble_eq_true Z) ?_);intro C0 s0 o0;replace Kb:=Kb.fresh2 o0 (by exact .inr (by simp));replace d0:=by exact d0.keepS o0 (D0.blk 1 Z)
  refine lF0 Z U ?_;refine⟨{ rc with state:=.busy },(d0 (l,_) (by simp)).1,Z,?_⟩;have W0:=d0.put (o':=.loop rc) i0 (by simp);have Sn:=s0.tail.putObj (.loop rc) d0 (List.mem_cons_self) (.inl (by omega));have Kn:=Kb.fresh2 (O2a C0 l (.loop rc)) (.inr (by simp));rw[R7b B0 I0];exact⟨W0,⟨_,_,_,b0,fun x hx=>by rcases N0 x hx with h|h;exact z0 x h;exact Nat.le_trans R0 h,Sn⟩,Kn⟩
 rintro v w3 ⟨c0,⟨G,cs,_,a0,z0,S3⟩,K3⟩;obtain⟨Av,nv,cv,rfl⟩:=a0.form;refine⟨rc,(c0 (l,.loop rc) (by simp)).1,by rw[B0];simp,.inl ⟨I0,?_⟩⟩;have Sa:=S3.putObj (.loop { rc with state:=.exhausted }) c0 (List.mem_cons_self) (.inl (by omega));have j0:=(c0.put (o':=.loop { rc with state:=.exhausted }) i0 (by simp)).tail;generalize w3.putObj l (.loop { rc with state:=.exhausted })=wa at Sa j0 ⊢;refine fO0 Z U (q2a A4a Z (Sa.cells 0 Z) Z Z ?_);refine c0a (kk:=3) (vs:=[_,_,_]) Sa f6a Z Z Z Z Z Z Z ?_;intro m1 e0 t0;dsimp only[f0a,List.set] at e0;replace j0:=by exact j0.keepS t0 (Sa.blk 3 Z)
 refine lR0 Z U ?_;exact P8b (n:=3) Z A4a Z Z [f0.heap.size] Z (by simp) j0 (e0.cells 3 Z) (by rw[List.mem_singleton];have:=j0.ne (e0.blk 3 Z) _ List.mem_cons_self;exact fun h=>this h.symm) (fun w' hb=>by
  have S':=e0.marksW (rs:=[f0.heap.size]) j0 hb (by simp;omega);exact⟨⟨_,_,_,Z,fun M hM=>J0.rdI S' (k:=2) Z hM hC.i64s (by omega),fun M hM=>K0.rdI S' (k:=1) Z hM hW.i64s (by omega),fun M hM=>a0.newP S' (k:=4) Z hM (by have:=Q3a m 64;omega)⟩,S'.fin⟩)
theorem L5b(p:List a1a)(C:List Int)(M:List Nat)(w0:World)(vc vl:Value)(hP:Z8b M w0 vc p)(hC:RdI M w0 vl C)(hr:T1a C)(hc:∀c∈C,0≤c∧c<p.length)(hp:p.length≤32)(hw:∀c∈p,1≤c.w∧c.w≤8)(hs:b2a (wdL p C)≤6)(hK:i2a M w0):
 E0a prog 65 #[vc,vl] w0 fun v w'=>(∃a b c l,v=.tuple #[.agg #[a,b,c],.int .i64 0]∧r5a w0 w' a C∧r5a w0 w' b (wdL p C)∧K7b w0 w' c l)∧Below w0.heap.size w0 w':=by
 obtain⟨_,_,_,rfl⟩:=hP.form;obtain⟨_,n,c,rfl⟩:=hC.form;have ho:=r6a hr hc hp hw;have R0:=ho.clen;have J0:=ho.len;have S0:=k3a ho.wid;obtain⟨b0,j0⟩:∃b:Nat,b2a (wdL p C)=(b:Int):=⟨(b2a (wdL p C)).toNat,by omega⟩;have T0:2 ^ b0≤64:=Nat.pow_le_pow_right (n:=2) (j:=6) (by omega) (by omega);have S:=St.refl w0;refine a0a func65 Z ntmps65 Z ?_;refine wO0 Z U (h0a S g6a Z Z ?_);intro g4 w4 S4 X4 G4;refine lO0 Z U ?_;have Q0:w0.heap.size≤w4.heap.size:=S4.size;have c0:∀g∈[g4],g<w4.heap.size:=fun g hg=>by rw[List.mem_singleton.1 hg];exact S4.lt 0 Z
 refine j0a S4 U1c Z Z (G0b p C M _ _ _ (hP.keep (S4.keep0 M)) (hC.keep (S4.keep0 M)) hr hc hp hw (hK.keep (S4.keep0 M))) ?_;rintro U0 y0 ⟨a,b,rfl,ha,hb⟩ A0 O0;obtain⟨A1,n1,c1,rfl⟩:=ha.form;obtain⟨A2,n2,c2,rfl⟩:=hb.form;have KQ:=u0a.refl [g4] y0;refine lO0 Z U (h0a A0 S8a Z Z ?_);intro g6 w6 S6 X6 G6;have m0:=Nat.le_trans KQ.size G6;replace KQ:=KQ.trans (X6.of_nil);refine c0a (kk:=0) (vs:=[_,_,_]) S6 R8a Z Z Z Z Z Z Z ?_;intro K0 f0 n0;dsimp only[f0a,List.set] at f0;replace KQ:=KQ.fresh2 n0 (by exact .inl m0);refine lB0 Z U (fun H0=>by exfalso;omega) fun H0=>?_;refine lO0 Z U (H0a (vs:=[]) (cs:=mW d7a) V2d Z Z Z Z ?_);refine p0a (hv:=Z) (cs:=mW d7a) f0 Z ?_;intro q0 W0 s0 E0 z0;have r0:=Nat.le_trans KQ.size z0;replace KQ:=KQ.trans E0.of_nil;refine lO s0.k [.o 1] Z ⟨Z,U⟩ (g0a s0 U7a Z Z ((V5a [] _ _ _ (hb.at_ KQ c0) ho.wid).mono (fun v w' h=>⟨h.1.trans (by rw[j0]),h.2⟩)) ?_);intro X0 B0 F0;replace KQ:=KQ.trans (F0.of_nil);refine I0b (n:=b0) Z Z ?_;refine lC0 Z U (wL (fun μk D ε w=>D=[]∧∃k:Nat,∃m:List Nat,(k+μk=((2 ^ b0)))∧(G4a m (fun a b=>a=b∧a<k))∧(u0a [g4] y0 w)∧St [] w0 w [(some q0,173,mW m),(some g6,89,[.slice A1 n1 c1,.slice A2 n2 c2,.slice none 0 0]),(some g4,41,[.slice none 0 0,.slice none 0 0,.slice none 0 0])]∧Sl ε [(4,.pointer (some ⟨g4,0,none⟩)),(6,.pointer (some ⟨g6,0,none⟩)),(8,.pointer (some ⟨q0,0,none⟩)),(25,.int .i64 ((2 ^ b0:Nat):Int)),(26,.int .i64 k)]) (μ:=((2 ^ b0))) ⟨Z,0,d7a,by omega,G4a.zero.congr (fun x y _ _=>⟨fun h=>h.elim,fun h=>by omega⟩),KQ,B0,Z⟩ ?_);rintro μk D ε w ⟨rfl,k,m,_,hm,KQ,S,eZ⟩;refine wK eZ (wB0 Z U (fun I0=>?_) fun I0=>?_)
 ·refine lC0 Z U (y0a b0a [0,1,2,3,4,5] [] [6] Z (Cl _ _ _ _) (Cl.start S) ?_);refine qO0 Z U (F7b (n:=k) Z Z ?_);refine qO0 Z U (r0a J3a Z Z Z ?_);refine qD Z U ?_;rintro Y0 ⟨D0,G0⟩;replace KQ:=KQ.trans (G0.of_nil);refine c1a (hy:=Z) (kk:=0) (v:=uV (2 ^ k)) D0 J0b Z Z Z (by rw[s4b,hm.len];simp;omega) ?_;intro N0 g0 o0;rw[X3b,show 0+(k:Int).toNat*1=k by simp] at g0;replace KQ:=KQ.fresh2 o0 (.inl (by assumption));refine lP0 Z ⟨by omega,U⟩ ⟨μk-1,by omega,Z,(k+1),(m.set k (2 ^ k)),(by omega),?_,(KQ),g0,Z⟩;refine(hm.bit0 (x:=k) (y:=k) (by omega) (by omega) (fun b _ h=>by omega)).congr fun x y _ _=>⟨fun h=>by omega,fun h=>by omega⟩
 refine lO S.k [.o 1,.o 1] Z ⟨Z,Z,U⟩ ?_;have p0:w0.heap.size≤w.heap.size:=S.size;have d0:∀g∈[g4],g<w.heap.size:=fun g hg=>by rw[List.mem_singleton.1 hg];exact S.lt 2 Z
 refine j0a S J5b Z Z (P5a C (wdL p C) m _ hm [] _ _ _ q0 (ha.at_ KQ c0) (hb.at_ KQ c0) (S.blk 0 Z)) ?_;rintro V0 L0 ⟨_,_,_,rfl,t0,u0,v0⟩ C0 P0;obtain⟨_,_,_,rfl⟩:=t0.form;obtain⟨_,_,_,rfl⟩:=u0.form;obtain⟨_,_,_,rfl⟩:=v0.form;have e0:=u0a.refl [g4] L0;refine c0a (kk:=2) (vs:=[_,_,_]) C0 f6a Z Z Z Z Z Z Z ?_;intro x0 a0 i0;dsimp only[f0a,List.set] at a0;replace e0:=e0.fresh2 i0 (by exact .inr (by simp));exact lR0 Z U (d2a (n:=3) Z A4a Z (a0.cells 2 Z) Z Z ⟨⟨_,_,_,_,Z,t0.later e0 d0 p0,u0.later e0 d0 p0,v0.later e0 d0 p0⟩,a0.fin⟩)
inductive Clo (R:Nat→Nat→Prop) (n:Nat):Nat→Nat→Prop where
 | refl {x:Nat} (h:x<n):Clo R n x x
 | tail {x y z:Nat} (h:Clo R n x y) (h2:R y z) (h3:z<n):Clo R n x z
theorem Clo.lt{R:Nat→Nat→Prop}{n x y:Nat}(h:Clo R n x y):x<n∧y<n:=by
 induction h with
 | refl h=>exact⟨h,h⟩
 | tail _ _ h3 ih=>exact⟨ih.1,h3⟩
theorem Clo.trans{R:Nat→Nat→Prop}{n x y z:Nat}(h:Clo R n x y)(h2:Clo R n y z):Clo R n x z:=by
 induction h2 with
 | refl _=>exact h
 | tail _ h3 h4 ih=>exact .tail ih h3 h4
theorem Clo.mono{R R':Nat→Nat→Prop}{n x y:Nat}(h:Clo R n x y)(hr:∀a b,R a b→R' a b):Clo R' n x y:=by
 induction h with
 | refl h=>exact .refl h
 | tail _ h2 h3 ih=>exact .tail ih (hr _ _ h2) h3
structure G1b (R:Nat→Nat→Prop) (n k:Nat) (V:Nat→Nat→Prop):Prop where
 snd:∀x y,V x y→Clo R n x y
 base:∀x y,x<n→y<n→R x y→V x y
 rfl_:∀x,x<n→V x x
 thr:∀x y z,y<k→V x y→V y z→V x z
theorem G1b.succ{R:Nat→Nat→Prop}{n k:Nat}{V:Nat→Nat→Prop}(h:G1b R n k V):G1b R n (k+1) fun a b=>V a b∨(V a k∧V k b):=by
 refine⟨fun x y hh=>?_,fun x y hx hy hr=>.inl (h.base x y hx hy hr),fun x hx=>.inl (h.rfl_ x hx),fun x y z hy h1 h2=>?_⟩
 ·rcases hh with h1|⟨h1,h2⟩
  ·exact h.snd _ _ h1
  ·exact(h.snd _ _ h1).trans (h.snd _ _ h2)
 ·by_cases d0:y=k
  ·subst d0;exact .inr ⟨h1.elim id fun h=>h.1,h2.elim id fun h=>h.2⟩
  ·have a0:y<k:=by omega
   rcases h1 with h1|⟨h1,c0⟩<;>rcases h2 with h2|⟨h2,b0⟩
   ·exact .inl (h.thr x y z a0 h1 h2)
   ·exact .inr ⟨h.thr x y k a0 h1 h2,b0⟩
   ·exact .inr ⟨h1,h.thr k y z a0 c0 h2⟩
   ·exact .inr ⟨h1,b0⟩
theorem G1b.fin{R:Nat→Nat→Prop}{n:Nat}{V:Nat→Nat→Prop}(h:G1b R n n V)(x y:Nat):V x y↔Clo R n x y:=by
 refine⟨h.snd x y,fun hc=>?_⟩
 induction hc with
 | refl hx=>exact h.rfl_ _ hx
 | tail hc h2 h3 ih=>exact h.thr _ _ _ hc.lt.2 ih (h.base _ _ hc.lt.2 h3 h2)
theorem G1b.start{R:Nat→Nat→Prop}{n:Nat}(hR:∀x y,R x y→x<n∧y<n):G1b R n 0 fun a b=>R a b∨(a=b∧a<n):=by
 refine⟨fun x y hh=>?_,fun x y _ _ hr=>.inl hr,fun x hx=>.inr ⟨Z,hx⟩,fun x y z hy=>by omega⟩;rcases hh with h|⟨rfl,h⟩
 ·exact .tail (.refl (hR _ _ h).1) h (hR _ _ h).2
 ·exact .refl h
theorem I5b(M:List Nat)(w0:World)(v u i:Value)(C W:List Int)(l:List (Int×Int))(a0 gA tA:Nat)(hA:m0a w0 (gA,tA,[v,u,i]))(hC:RdI M w0 v C)(hW:RdI M w0 u W)(hL:j9a M w0 i l)(h:P9a C W)(hb:b2a W=a0)(hb6:a0≤6)(hl:∀x∈l,0≤x.1∧x.1<(2 ^ a0:Nat)∧0≤x.2∧x.2<(2 ^ a0:Nat)):
 E0a prog 132 #[.pointer (some ⟨gA,0,none⟩)] w0 fun v w'=>(∃a b c m,v=.agg #[a,b,c]∧r5a w0 w' a C∧r5a w0 w' b W∧K7b w0 w' c (D0b m 64)∧G4a m (Clo (fun x y=>((x:Int),(y:Int))∈l) (2 ^ a0)))∧Below w0.heap.size w0 w':=by
 obtain⟨A,n,c,rfl⟩:=hC.form;obtain⟨A',n',c',rfl⟩:=hW.form;obtain⟨Al,nl,cl,rfl⟩:=hL.form;have W0:=h.clen;have N0:=h.len;have Z0:2 ^ a0≤64:=Nat.pow_le_pow_right (n:=2) (j:=6) (by omega) (by omega);have s0:∀x∈l,0≤x.1∧x.1<64∧0≤x.2∧x.2<64:=fun x hx=>by have:=hl x hx;omega
 have J0:∀x y:Nat,((x:Int),(y:Int))∈l→x<2 ^ a0∧y<2 ^ a0:=fun x y hh=>by have:=hl _ hh;simp only at this;omega
 have S:=St.refl w0;have r0:Cells w0 gA 0 [.slice A n c,.slice A' n' c',.slice Al nl cl]:=fun j u hj=>by rw[Nat.zero_add];exact hA.cell hj
 have L0:[Value.slice A n c,.slice A' n' c',.slice Al nl cl].length=3:=Z;refine a0a func132 Z ntmps132 Z ?_;refine wO0 Z U (h0a S g6a Z Z ?_);intro g1 w1 S1 X1 G1;refine lO (S1.k.a r0) [.v 0] Z ⟨⟨Z,L0⟩,U⟩ (j0a S1 O8c Z Z (o6c M _ _ _ _ l ⟨_,_,_,_,_,_,Z,Z⟩ (hL.keep (S1.keep0 M)) s0) ?_);rintro v8 w8 ⟨g2,m0,rfl,G2,K0,O0⟩ S8 X8;have i0:=S8.push_new S1 K0 G2;refine lO (i0.k.a r0) [.f 0 1] Z ⟨Z,U⟩ (g0a i0 U7a Z Z ((V5a M _ _ _ (hW.keep (i0.keep0 M)) h.wid).mono (fun v w' h=>⟨h.1.trans (by rw[hb]),h.2⟩)) ?_);intro c1 D0 U0;refine I0b (n:=a0) Z Z ?_;refine lC0 Z U (wL (fun μk D ε w=>D=[]∧∃k:Nat,∃m:List Nat,(k+μk=((2 ^ a0)))∧(G4a m (fun a b=>((a:Int),(b:Int))∈l∨(a=b∧a<k)))∧St [] w0 w [(some g2,173,mW m),(some g1,41,[.slice none 0 0,.slice none 0 0,.slice none 0 0])]∧Sl ε [(0,.pointer (some ⟨gA,0,none⟩)),(1,.pointer (some ⟨g1,0,none⟩)),(2,.pointer (some ⟨g2,0,none⟩)),(3,.int .i64 ((2 ^ a0:Nat):Int)),(13,.int .i64 ((2 ^ a0:Nat):Int)),(14,.int .i64 k)]) (μ:=((2 ^ a0))) ⟨Z,0,m0,by omega,O0.congr (fun x y _ _=>⟨.inl,fun h=>h.elim id fun h=>by omega⟩),D0,Z⟩ ?_);rintro μk D ε w ⟨rfl,k,m,_,hm,S,eZ⟩;refine wK eZ (wB0 Z U (fun G0=>?_) fun G0=>?_)
 ·have X0:=(hm.at_ (x:=k) (by omega)).2;have a1:(2:Nat) ^ k<2 ^ 64:=Nat.pow_lt_pow_right (by omega) (by omega);have Q0:=hm.cell0 (x:=k) (by omega);refine lC0 Z U (y0a b0a [0,1,2,3,4,5,6,7,8,9] [] [10] Z (Cl _ _ _ _) (Cl.start S) ?_);refine qO0 Z U (r0a J3a Z Z Z ?_);refine i0a Z3a Z (fun w1 hw=>by exact hw.1.cell 0 Z Q0) Z ?_;refine qO0 Z U (F7b (n:=k) Z Z ?_);refine U4c Z Z (by assumption) (by assumption) Z ?_;refine qO0 Z U (r0a J3a Z Z Z ?_);refine qD Z U ?_;rintro d1 ⟨F0,_⟩;refine c1a (hy:=Z) (kk:=0) (v:=uV (m.getD k 0 ||| 2 ^ k)) F0 J0b Z Z Z (by rw[s4b,hm.len];simp;omega) ?_;intro C0 d0 v0;rw[X3b,show 0+(k:Int).toNat*1=k by simp] at d0;refine lP0 Z ⟨by omega,U⟩ ⟨μk-1,by omega,Z,(k+1),(m.set k (m.getD k 0 ||| 2 ^ k)),(by omega),?_,d0,Z⟩;refine(hm.bit1 (x:=k) (y:=k) (by omega) (by omega)).congr fun x y _ _=>?_;rw[or_assoc];exact or_congr Iff.rfl ⟨fun h=>by omega,fun h=>by omega⟩
 refine lC0 Z U (wL (fun μy D ε w=>D=[]∧∃y:Nat,∃m:List Nat,∃V:Nat→Nat→Prop,(y+μy=((2 ^ a0)))∧(G4a m V)∧(G1b (fun a b=>((a:Int),(b:Int))∈l) (2 ^ a0) y V)∧St [] w0 w [(some g2,173,mW m),(some g1,41,[.slice none 0 0,.slice none 0 0,.slice none 0 0])]∧Sl ε [(0,.pointer (some ⟨gA,0,none⟩)),(1,.pointer (some ⟨g1,0,none⟩)),(2,.pointer (some ⟨g2,0,none⟩)),(3,.int .i64 ((2 ^ a0:Nat):Int)),(28,.int .i64 ((2 ^ a0:Nat):Int)),(29,.int .i64 y)]) (μ:=((2 ^ a0))) ⟨Z,0,m,(fun a b=>((a:Int),(b:Int))∈l∨(a=b∧a<2 ^ a0)),by omega,(show k=2 ^ a0 by omega)▸hm,G1b.start J0,S,Z⟩ ?_);rintro μy D ε w ⟨rfl,y,m,V,_,hm,hV,S,eZ⟩;refine wK eZ (wB0 Z U (fun H0=>?_) fun H0=>?_)
 ·refine lC0 Z U (wL (fun μx D ε w=>D=[]∧∃x:Nat,∃m:List Nat,(x+μx=((2 ^ a0)))∧(G4a m (fun a b=>V a b∨(a<x∧V a y∧V y b)))∧St [] w0 w [(some g2,173,mW m),(some g1,41,[.slice none 0 0,.slice none 0 0,.slice none 0 0])]∧Sl ε [(0,.pointer (some ⟨gA,0,none⟩)),(1,.pointer (some ⟨g1,0,none⟩)),(2,.pointer (some ⟨g2,0,none⟩)),(3,.int .i64 ((2 ^ a0:Nat):Int)),(5,.int .i64 y),(28,.int .i64 ((2 ^ a0:Nat):Int)),(29,.int .i64 y),(32,.int .i64 ((2 ^ a0:Nat):Int)),(33,.int .i64 x)]) (μ:=((2 ^ a0))) ⟨Z,0,m,by omega,hm.congr (fun a b _ _=>⟨.inl,fun h=>h.elim id fun h=>by omega⟩),S,Z⟩ ?_);rintro μx D ε w ⟨rfl,x,m,hx,hm,S,eZ⟩;refine wK eZ (wB0 Z U (fun I0=>?_) fun I0=>?_)
  ·refine lO0 Z U (O1a J3a Z Z Z ?_);have P0:=(hm.at_ (x:=x) (by omega)).2;have Y0:=(hm.at_ (x:=y) (by omega)).2;have t0:=hm.cell0 (x:=x) (by omega);have A0:=hm.cell0 (x:=y) (by omega);refine B0a Z3a Z (S.cell 0 Z t0) Z ?_;refine lO0 Z U (k5c (n:=y) Z Z ?_);refine J2c (n:=m.getD x 0 >>> y) (m:=1) Z Z (Nat.lt_of_le_of_lt (Nat.shiftRight_le _ _) P0) Z ?_;refine g3c Z Z Z (fun p0=>?_) fun p0=>?_
   ·have R0:=And.intro t0 A0;refine lC0 Z U (y0a b0a [0,1,2,3,4,5,6,7,8,9,10,11,12] [] [13] Z (Cl _ _ _ _) (Cl.start S) ?_);refine qO0 Z U (r0a J3a Z Z Z ?_);refine i0a Z3a Z (fun w1 hw=>by exact hw.1.cell 0 Z t0) Z ?_;refine qO0 Z U (r0a J3a Z Z Z ?_);refine i0a Z3a Z (fun w1 hw=>by exact hw.1.cell 0 Z A0) Z ?_;refine U4c Z Z (by assumption) (by assumption) Z ?_;refine qO0 Z U (r0a J3a Z Z Z ?_);refine qD Z U ?_;rintro T0 ⟨j0,_⟩;refine c1a (hy:=Z) (kk:=0) (v:=uV (m.getD x 0 ||| m.getD y 0)) j0 J0b Z Z Z (by rw[s4b,hm.len];simp;omega) ?_;intro u0 b0 n0;rw[X3b,show 0+(x:Int).toNat*1=x by simp] at b0;dsimp only[List.set] at b0;refine lP0 Z ⟨by omega,U⟩ ⟨μx-1,by omega,Z,(x+1),(_),(by omega),?_,b0,Z⟩;refine(hm.row (x:=x) (y:=y) (by omega) (by omega)).congr fun a b ha hb=>?_;have h1:=(hm.bit x y (by omega) (by omega)).1 ((C7a _ _).1 p0);constructor
    ·rintro((h|h)|⟨rfl,h⟩)
     ·exact .inl h
     ·exact .inr ⟨by omega,h.2⟩
     ·exact .inr ⟨by omega,h1.elim id fun h=>h.2.1,h.elim id fun h=>h.2.2⟩
    ·rintro(h|⟨h,h2,h3⟩)
     ·exact .inl (.inl h)
     ·by_cases q0:a=x
      ·exact .inr ⟨q0,.inl h3⟩
      ·exact .inl (.inr ⟨by omega,h2,h3⟩)
   refine lP0 Z ⟨by omega,U⟩ ⟨μx-1,by omega,Z,(x+1),(_),(by omega),?_,S,Z⟩;refine hm.congr fun a b ha hb=>?_;constructor
   ·exact fun h=>h.imp id fun h=>⟨by omega,h.2⟩
   ·rintro(h|⟨h,h2,h3⟩)
    ·exact .inl h
    ·by_cases q0:a=x
     ·subst q0;exact absurd ((C7a _ _).2 ((hm.bit a y (by omega) (by omega)).2 (.inl h2))) p0
     ·exact .inr ⟨by omega,h2,h3⟩
  refine lP0 Z ⟨by omega,U⟩ ?_;refine⟨μy-1,by omega,Z,(y+1),(m),((fun a b=>V a b∨(V a y∧V y b))),(by omega),(hm.congr (fun a b ha hb=>⟨fun h=>h.elim .inl fun h=>.inr h.2,fun h=>h.elim .inl fun h=>.inr ⟨by have:=(hV.snd _ _ h.1).lt.1;omega,h⟩⟩)),(hV.succ),S,Z⟩
 refine lO (S.k.a r0) [.f 0 0,.f 0 1] Z ⟨Z,Z,U⟩ ?_;have o0:w0.heap.size≤w.heap.size:=S.size;have e0:∀g∈[g1],g<w.heap.size:=fun g hg=>by rw[List.mem_singleton.1 hg];exact S.lt 1 Z
 obtain rfl:y=2 ^ a0:=by omega
 refine j0a S J5b Z Z (P5a C W m _ hm M _ _ _ g2 (hC.keep (S.keep0 M)) (hW.keep (S.keep0 M)) (S.blk 0 Z)) ?_;rintro b1 S0 ⟨_,_,_,rfl,x0,y0,z0⟩ E0 V0;obtain⟨_,_,_,rfl⟩:=x0.form;obtain⟨_,_,_,rfl⟩:=y0.form;obtain⟨_,_,_,rfl⟩:=z0.form;have f0:=u0a.refl [g1] S0;refine c0a (kk:=1) (vs:=[_,_,_]) E0 f6a Z Z Z Z Z Z Z ?_;intro B0 c0 g0;dsimp only[f0a,List.set] at c0;replace f0:=f0.fresh2 g0 (by first  | exact .inr (by simp));exact lR0 Z U (w0a (n:=3) Z A4a Z (c0.cells 1 Z) Z ⟨⟨_,_,_,m,Z,x0.later f0 e0 o0,y0.later f0 e0 o0,z0.later f0 e0 o0,hm.congr fun x y _ _=>hV.fin x y⟩,c0.fin⟩)
structure U7b (w0 w:World) (v:Value) (C W:List Int) (R:Nat→Nat→Prop) (n:Nat):Prop where
 get:∃a b c l,v=.agg #[a,b,c]∧r5a w0 w a C∧r5a w0 w b W∧K7b w0 w c l∧l.Pairwise lt2∧l.length≤4096∧∀p,p∈l↔∃x y,Clo R n x y∧p=((x:Int),(y:Int))
theorem U7b.later{w0 w1 w w':World}{v:Value}{C W:List Int}{R:Nat→Nat→Prop}{n:Nat}{G:List Nat}(h:U7b w1 w v C W R n)(hk:u0a G w w')(hG:∀g∈G,g<w1.heap.size)(h0:w0.heap.size≤w1.heap.size):U7b w0 w' v C W R n:=by
 obtain⟨a,b,c,l,h1,h2,h3,h4,h5⟩:=h.get;exact⟨a,b,c,l,h1,h2.later hk hG h0,h3.later hk hG h0,h4.later hk hG h0,h5⟩
theorem U7b.set3{w0 w:World}{v:Value}{C W:List Int}{R:Nat→Nat→Prop}{n:Nat}(h:U7b w0 w v C W R n):d3c v:=by
 obtain⟨_,_,c,_,rfl,h2,h3,h4,-⟩:=h.get;obtain⟨_,n,c,rfl⟩:=h2.form;obtain⟨_,_,_,rfl⟩:=h3.form;obtain⟨_,_,_,rfl⟩:=h4.form;exact⟨_,_,_,_,_,_,_,_,_,Z⟩
theorem e4b(M:List Nat)(w0:World)(v u i:Value)(C W:List Int)(l:List (Int×Int))(a0 gA tA:Nat)(hA:m0a w0 (gA,tA,[v,u,i]))(hC:RdI M w0 v C)(hW:RdI M w0 u W)(hL:j9a M w0 i l)(h:P9a C W)(hb:b2a W=a0)(hb6:a0≤6)(hl:∀x∈l,0≤x.1∧x.1<(2 ^ a0:Nat)∧0≤x.2∧x.2<(2 ^ a0:Nat)):
 E0a prog 132 #[.pointer (some ⟨gA,0,none⟩)] w0 fun v w'=>U7b w0 w' v C W (fun x y=>((x:Int),(y:Int))∈l) (2 ^ a0)∧Below w0.heap.size w0 w':=by
 have b0:2 ^ a0≤64:=Nat.pow_le_pow_right (n:=2) (j:=6) (by omega) (by omega);refine(I5b M w0 v u i C W l a0 gA tA hA hC hW hL h hb hb6 hl).mono fun v w' hh=>?_;obtain⟨⟨a,b,c,m,rfl,h1,h2,h3,h4⟩,hB⟩:=hh;refine⟨⟨a,b,c,_,Z,h1,h2,h3,s0c m 64,by have:=Q3a m 64;omega,fun p=>?_⟩,hB⟩;rw[h4.mem];constructor
 ·rintro⟨x,y,-,-,h5,rfl⟩;exact⟨x,y,h5,Z⟩
 ·rintro⟨x,y,h5,rfl⟩;exact⟨x,y,by have:=h5.lt;omega,by have:=h5.lt;omega,h5,Z⟩
theorem d8b(w0:World)(gA:Nat)(C W:List Int)(R:Nat→Nat→Prop)(n:Nat)(hc:∀w,u0a [] w0 w→E0a prog 132 #[.pointer (some ⟨gA,0,none⟩)] w fun v w'=>U7b w w' v C W R n∧Below w.heap.size w w'):
 E0a prog 130 #[.bool true,.func (.func 132) #[] #[.pointer (some ⟨gA,0,none⟩)]] w0 fun v w'=>(∃u,v=.tuple #[u,.int .i64 0]∧U7b w0 w' u C W R n)∧Below w0.heap.size w0 w':=by
 have S:=St.refl w0;refine a0a func130 Z ntmps130 Z ?_;refine wO0 Z U (h0a S g6a Z Z ?_);intro g4 w4 S4 X4 G4;refine lO0 Z U ?_;have e0:w0.heap.size≤w4.heap.size:=S4.size;have c0:∀g∈[g4],g<w4.heap.size:=fun g hg=>by rw[List.mem_singleton.1 hg];exact S4.lt 0 Z
 refine c7a (caps:=#[.pointer (some ⟨gA,0,none⟩)]) S4 L7c Z Z Z (hc _ (S4.keep0 [])) ?_;rintro j0 f0 hr d0 i0;have KQ:=u0a.refl [g4] f0;obtain⟨_,_,_,_,_,_,_,_,_,rfl⟩:=hr.set3
 first|refine c0a (kk:=0) (vs:=[_,_,_]) d0 f6a Z Z Z Z Z Z Z ?_
 intro g0 a0 b0;dsimp only[f0a,List.set] at a0;replace KQ:=KQ.fresh2 b0 (by first  | exact .inr (by simp));exact lR0 Z U (d2a (n:=3) Z A4a Z (a0.cells 0 Z) Z Z ⟨⟨_,Z,hr.later KQ c0 e0⟩,a0.fin⟩)
theorem y6b(M:List Nat)(w0:World)(v u i:Value)(C W:List Int)(l:List (Int×Int))(a0:Nat)(hC:RdI M w0 v C)(hW:RdI M w0 u W)(hL:j9a M w0 i l)(h:P9a C W)(hb:b2a W=a0)(hb6:a0≤6)(hl:∀x∈l,0≤x.1∧x.1<(2 ^ a0:Nat)∧0≤x.2∧x.2<(2 ^ a0:Nat))(e0:l.Pairwise lt2):
 E0a prog 72 #[.agg #[v,u,i]] w0 fun v w'=>(∃u,v=.tuple #[u,.int .i64 0]∧U7b w0 w' u C W (fun x y=>((x:Int),(y:Int))∈l) (2 ^ a0))∧Below w0.heap.size w0 w':=by
 obtain⟨_,n,_,rfl⟩:=hC.form;obtain⟨_,_,_,rfl⟩:=hW.form;obtain⟨_,_,_,rfl⟩:=hL.form;have g0:2 ^ a0≤64:=Nat.pow_le_pow_right (n:=2) (j:=6) (by omega) (by omega);have S:=St.refl w0;refine a0a func72 Z ntmps72 Z ?_;refine wO0 Z U (p0a S Z ?_);intro g1 w1 S1 X1 G1;refine h0a S1 g6a Z Z ?_;intro g2 w2 S2 X2 G2;refine lO S2.k [.w 1] Z ⟨⟨Z,Z⟩,U⟩ (g0a S2 G9c Z Z (w8b M _ _ _ _ C W l a0 (hC.keep (S2.keep0 M)) (hW.keep (S2.keep0 M)) (hL.keep (S2.keep0 M)) h hb hb6 hl e0) ?_);intro w5 S5 X5;refine w1a Z Z ?_;have Z7:w0.heap.size≤w5.heap.size:=S5.size;have d0:∀g∈[g2],g<w5.heap.size:=fun g hg=>by rw[List.mem_singleton.1 hg];exact S5.lt 0 Z
 refine j0a S5 g8c Z Z (d8b _ g1 C W (fun x y=>((x:Int),(y:Int))∈l) (2 ^ a0) (fun w hK=>e4b M w _ _ _ C W l a0 g1 _ (W0a hK (S5.blk 1 Z)) (hC.keep ((S5.keep0 M).trans hK.of_nil)) (hW.keep ((S5.keep0 M).trans hK.of_nil)) (hL.keep ((S5.keep0 M).trans hK.of_nil)) h hb hb6 hl)) ?_;rintro v7 w7 ⟨_,rfl,hr⟩ S7 X7;have KQ:=u0a.refl [g2] w7;obtain⟨_,_,_,_,_,_,_,_,_,rfl⟩:=hr.set3;refine lO0 Z U (c0a (kk:=0) (vs:=[_,_,_]) S7 f6a Z Z Z Z Z Z Z ?_);intro f0 b0 c0;dsimp only[f0a,List.set] at b0;replace KQ:=KQ.fresh2 c0 (by first  | exact .inr (by simp));exact lR0 Z U (d2a (n:=3) Z A4a Z (b0.cells 0 Z) Z Z ⟨⟨_,Z,hr.later KQ d0 Z7⟩,b0.fin⟩)
def RIs(M:List Nat)(w:World)(cs:List Value)(l:List Int):Prop:=∃A n c,cs=[.slice A n c]∧RdI M w (.slice A n c) l
theorem v2b:N6a RIs 1 where
 len h:=by obtain⟨_,_,_,rfl,_⟩:=h;rfl
 one h u hu:=by obtain⟨_,_,_,rfl,_⟩:=h;simp at hu;subst hu;rfl
 keep hk h:=by obtain⟨A,n,c,rfl,h1⟩:=h;exact⟨A,n,c,Z,h1.keep hk⟩
 more hM h:=by obtain⟨A,n,c,rfl,h1⟩:=h;exact⟨A,n,c,Z,h1.more (by decide) hM⟩
def O4c(C W:List Int)(n:Nat):List (List Int):=(List.range n).map fun k=>stZ C W k k2a
theorem v0c(C W:List Int)(n:Nat):O4c C W (n+1)=O4c C W n++[stZ C W n k2a]:=by
 unfold O4c;rw[List.range_succ,List.map_append];rfl
theorem d9a(C W:List Int)(n:Nat):(O4c C W n).length=n:=by simp[O4c]
theorem Y9b{C W:List Int}{n k:Nat}{s:List Int}(h:(O4c C W n)[k]?=some s):s=stZ C W k k2a:=by
 unfold O4c at h;rw[List.getElem?_map] at h;have hk:k<n:=by
  rcases Nat.lt_or_ge k n with h1|h1
  ·exact h1
  ·rw[List.getElem?_eq_none (by simpa using h1)] at h;cases h
 rw[List.getElem?_range hk] at h;simpa using h.symm
def ofR(e:E)(C W:List Int)(n:Nat)(x y:Nat):Prop:=x<n∧y<n∧e.evl (stZ C W x k2a) (stZ C W y k2a)=1
theorem W3d{M:List Nat}{w:World}{g:Nat}{A B:Option Addr}{n c m d:Nat}{a b:List Int}(h1:w.cell? ⟨g,0,none⟩=some (.slice A n c))(h2:w.cell? ⟨g,1,none⟩=some (.slice B m d))(ha:RdI M w (.slice A n c) a)(hb:RdI M w (.slice B m d) b):∀(k:Nat) (h:k<[a,b].length),∃A n c,w.cell? ⟨g,0+k*1,none⟩=some (.slice A n c)∧RdI M w (.slice A n c) [a,b][k]:=fun k hk=>by
 rcases(show k=0∨k=1 by simp at hk;omega) with rfl|rfl
 ·exact⟨_,_,_,h1,ha⟩
 ·exact⟨_,_,_,h2,hb⟩
theorem L3d{M:List Nat}{w:World}{g:Nat}{A B D:Option Addr}{n c m d i f:Nat}{a b q:List Int}(h1:w.cell? ⟨g,0,none⟩=some (.slice A n c))(h2:w.cell? ⟨g,1,none⟩=some (.slice B m d))(h3:w.cell? ⟨g,2,none⟩=some (.slice D i f))(ha:RdI M w (.slice A n c) a)(hb:RdI M w (.slice B m d) b)(hq:RdI M w (.slice D i f) q):∀(k:Nat) (h:k<[a,b,q].length),∃A n c,w.cell? ⟨g,0+k*1,none⟩=some (.slice A n c)∧RdI M w (.slice A n c) [a,b,q][k]:=fun k hk=>by
 rcases(show k=0∨k=1∨k=2 by simp at hk;omega) with rfl|rfl|rfl
 ·exact⟨_,_,_,h1,ha⟩
 ·exact⟨_,_,_,h2,hb⟩
 ·exact⟨_,_,_,h3,hq⟩
theorem f5b(p:List a1a)(C:List Int)(e:E)(M:List Nat)(w0:World)(vc vl:Value)(es:List Value)(hP:Z8b M w0 vc p)(hC:RdI M w0 vl C)(hE:RdE M w0 e es)(hr:T1a C)(hc:∀c∈C,0≤c∧c<p.length)(hp:p.length≤32)(hw:∀c∈p,1≤c.w∧c.w≤8)(a0:Nat)(hb:b2a (wdL p C)=a0)(hb6:a0≤6)(hK:i2a M w0)(E2:e.valid p true=true)(d3:e.w=1)(H2:∀x∈e.sup 3,x∈C)(G2:∀x∈e.sup 2,x∈C)(hM:∀g∈M,g<w0.heap.size:=by simp):
 E0a prog 69 #[vc,vl,.agg es.toArray] w0 fun v w'=>(∃a b c m,v=.tuple #[.agg #[a,b,c],.int .i64 0]∧r5a w0 w' a C∧r5a w0 w' b (wdL p C)∧K7b w0 w' c (D0b m 64)∧G4a m (ofR e C (wdL p C) (2 ^ a0)))∧Below w0.heap.size w0 w':=by
 obtain⟨_,_,_,rfl⟩:=hP.form;obtain⟨A,n,c,rfl⟩:=hC.form;obtain⟨Ae,ne,ce,rfl,_⟩:=hE.cells;have ho:=r6a hr hc hp hw;have b3:=ho.clen;have F2:=ho.len;have g3:2 ^ a0≤64:=Nat.pow_le_pow_right (n:=2) (j:=6) (by omega) (by omega);have m3:=S7a e 3;have j3:=S7a e 2;have b1:∀l∈[e.sup 3,e.sup 2],l.length≤1000:=fun l hl=>by
  simp only[List.mem_cons,List.not_mem_nil,or_false] at hl;rcases hl with rfl|rfl<;>omega
 have B0:∀x∈[e.sup 3,e.sup 2].flatten,x∈C:=fun x hx=>by
  simp only[List.flatten_cons,List.flatten_nil,List.append_nil,List.mem_append] at hx;exact hx.elim (H2 x) (G2 x)
 have a1:∀x∈[e.sup 3,e.sup 2].flatten,i64 x:=fun x hx=>hC.i64s x (B0 x hx);have Y0:[e.sup 3,e.sup 2].flatten.length≤140737488355328:=by simp;omega
 have S:=(St.refl w0).nilEnt 28;refine a0a func69 Z ntmps69 Z ?_;refine wO0 Z U (p0a S Z ?_);intro g5 w5 S5 X5 G5;refine h0a S5 g6a Z Z ?_;intro g6 w6 S6 X6 G6;refine lO0 Z U ?_;have Z2:w0.heap.size≤w6.heap.size:=S6.size;have d0:∀g∈[g6],g<w6.heap.size:=fun g hg=>by rw[List.mem_singleton.1 hg];exact S6.lt 0 Z
 refine j0a S6 U1c Z Z (G0b p C M _ _ _ (hP.keep (S6.keep0 M)) (hC.keep (S6.keep0 M)) hr hc hp hw (hK.keep (S6.keep0 M))) ?_;rintro o3 q0 ⟨a,b,rfl,ha,F0⟩ Q1 a2;obtain⟨A1,n1,c1,rfl⟩:=ha.form;obtain⟨A2,n2,c2,rfl⟩:=F0.form;have KQ:=u0a.refl [g6] q0;refine lO0 Z U (h0a Q1 S8a Z Z ?_);intro g8 w8 S8 X8 G8;have H0:=Nat.le_trans KQ.size G8;replace KQ:=KQ.trans (X8.of_nil);refine c0a (kk:=0) (vs:=[_,_,_]) S8 R8a Z Z Z Z Z Z Z ?_;intro S2 c0 L0;dsimp only[f0a,List.set] at c0;replace KQ:=KQ.fresh2 L0 (by exact .inl H0);refine lB0 Z U (fun x2=>by exfalso;omega) fun x2=>?_;refine lO c0.k [.w 2] Z ⟨⟨Z,Z⟩,U⟩ (g0a c0 a5a Z Z ((w2a e M _ _ _ p true (RdE.keep (c0.keep0 M) _ _ hE) (hP.keep (c0.keep0 M)) (hK.keep (c0.keep0 M))).mono (fun v w' h=>⟨h.1.trans (by rw[E2]),h.2⟩)) ?_);intro T2 p0 b2;replace KQ:=KQ.trans (b2.of_nil);refine lB p0.k [.o 2] Z ⟨Z,U⟩ (fun y2=>by exfalso;omega) fun y2=>?_;refine lO p0.k [.w 2] Z ⟨⟨Z,Z⟩,U⟩ ?_;have j2:∀g∈M,g<T2.heap.size:=fun g hg=>Nat.lt_of_lt_of_le (hM g hg) p0.size;refine j0a p0 t7b Z Z (w4a e M _ _ (RdE.keep (p0.keep0 M) _ _ hE) (hK.keep (p0.keep0 M)) j2) ?_;rintro p3 U2 ⟨_,_,rfl,y0,A0⟩ R1 d2;replace KQ:=KQ.trans (d2.of_nil);obtain⟨A3,n3,c3,rfl⟩:=y0.form;obtain⟨A4,n4,c4,rfl⟩:=A0.form;have KS:=u0a.refl M U2;refine lO0 Z U (k0a R1 T9a (vs:=[.slice _ _ _,.slice _ _ _]) (cs:=[_,_]) Z Z Z Z Z Z ?_);intro v0 V2 D0 C1 o1;have r1:=Nat.le_trans KQ.size o1;have x1:=Nat.le_trans KS.size o1;replace KQ:=KQ.trans (C1.of_nil);replace KS:=KS.trans (C1.of_nil);have m2:∀g∈M,g<V2.heap.size:=fun g hg=>Nat.lt_of_lt_of_le (hM g hg) D0.size;refine j0a D0 i5c Z Z (Q6b (hbig:=Y0) (M:=M) (T4b M _ v0 [e.sup 3,e.sup 2] b1 (by simp) (W3d (D0.cell 0 Z Z) (D0.cell 0 Z Z) (y0.keep KS) (A0.keep KS))) m2 a1) ?_;rintro q3 N1 X0 T1 e2;replace KQ:=KQ.trans (e2.of_nil);obtain⟨A5,n5,c5,rfl⟩:=X0.form;obtain⟨_,-,_⟩:=X0.len;have KC:=u0a.refl M N1;refine lC0 Z U (wL (fun μk D ε w=>D=[]∧∃k:Nat,(k+μk=(([e.sup 3,e.sup 2].flatten).length))∧(u0a [g6] q0 w)∧(u0a M N1 w)∧St [] w0 w [(some v0,28,[.slice A3 n3 c3,.slice A4 n4 c4]),(some g8,89,[.slice A1 n1 c1,.slice A2 n2 c2,.slice none 0 0]),(some g6,41,[.slice none 0 0,.slice none 0 0,.slice none 0 0]),(some g5,37,[.int .i64 e.op,.int .i64 e.w,.int .i64 e.n,.slice Ae ne ce]),(none,28,[])]∧Sl ε [(1,.slice A n c),(5,.pointer (some ⟨g5,0,none⟩)),(6,.pointer (some ⟨g6,0,none⟩)),(8,.pointer (some ⟨g8,0,none⟩)),(48,.slice A5 n5 c5),(49,.int .i64 n5),(50,.int .i64 k)]) (μ:=(([e.sup 3,e.sup 2].flatten).length)) ⟨Z,0,by omega,KQ,KC,T1,Z⟩ ?_);rintro μk D ε w ⟨rfl,k,hk,KQ,KC,S,eZ⟩;refine wK eZ (wB0 Z U (fun z2=>?_) fun z2=>?_)
 ·obtain⟨x,p2,O2,_,L2,P0,_,_,U0,d1⟩:=RdS.get ((X0.keep KC)) (k) (by omega);obtain⟨rfl,_⟩:=id d1;have I2:x∈C:=B0 x (d0a L2);refine lO (S.k.b U0) [.x p2 O2,.f 0 0] Z ⟨Z,⟨P0,by omega⟩,U⟩ (g0a S H9b Z Z ((v8a M _ _ C x (hC.keep (S.keep0 M))).mono (fun v w' h=>⟨h.1.trans (by rw[decide_eq_true I2]),h.2⟩)) ?_);intro s3 U1 D1;replace KQ:=KQ.trans (D1.of_nil);replace KC:=KC.trans (D1.of_nil);refine lP0 Z ⟨by omega,U⟩ ⟨μk-1,by omega,Z,(k+1),(by omega),(KQ),(KC),U1,Z⟩
 refine lO0 Z U (K8a (n:=32) (c:=32) S Y0a Z Z Z Z ?_);intro E0 t3 J0 f2 P1;have s1:=Nat.le_trans KQ.size P1;replace KQ:=KQ.trans (f2.of_nil);refine lOn 5 J0.k [] Z U (C0a Z ?_);refine lO J0.k [.o 2] Z ⟨Z,U⟩ (g0a J0 U7a Z Z ((V5a [] _ _ _ (F0.at_ KQ d0) ho.wid).mono (fun v w' h=>⟨h.1.trans (by rw[hb]),h.2⟩)) ?_);intro u3 V1 g2;replace KQ:=KQ.trans (g2.of_nil);refine I0b (n:=a0) Z Z ?_;refine lC0 Z U (wL (fun μk D ε w=>D=[]∧∃k:Nat,∃G:Option Nat,∃u0:List Value,∃v:Value,(k+μk=((2 ^ a0)))∧(Q1a RIs 1 [g6] w G u0 v (O4c C (wdL p C) k))∧(∀g∈G.toList,q0.heap.size≤g)∧(u0a [g6] q0 w)∧St [] w0 w [(some E0,3,(List.replicate 32 (.int .i64 0))),(some v0,28,[.slice A3 n3 c3,.slice A4 n4 c4]),(some g8,89,[.slice A1 n1 c1,.slice A2 n2 c2,.slice none 0 0]),(some g6,41,[.slice none 0 0,.slice none 0 0,.slice none 0 0]),(some g5,37,[.int .i64 e.op,.int .i64 e.w,.int .i64 e.n,.slice Ae ne ce]),(G,28,u0)]∧Sl ε [(5,.pointer (some ⟨g5,0,none⟩)),(6,.pointer (some ⟨g6,0,none⟩)),(8,.pointer (some ⟨g8,0,none⟩)),(14,.slice (some ⟨E0,0,none⟩) 32 32),(15,v),(64,.int .i64 ((2 ^ a0:Nat):Int)),(65,.int .i64 k)]) (μ:=((2 ^ a0))) ⟨Z,0,none,[],.slice none 0 0,by omega,Q1a.nil,(by simp),KQ,V1,Z⟩ ?_);rintro μk D ε w ⟨rfl,k,G,u0,v,hk,n0,Z0,KQ,S,eZ⟩;refine wK eZ ?_;have KR:=u0a.refl (G.toList++[g6]) w;refine wB0 Z U (fun B2=>?_) fun B2=>?_
 ·refine lOn 15 S.k [] Z U (I0a Z ?_);refine lO S.k [.w 2] Z ⟨⟨Z,Z⟩,U⟩ ?_;have S0:∀g∈G.toList++[g6],g<w.heap.size:=fun g hg=>by
   rcases List.mem_append.1 hg with h|h
   ·obtain⟨t,cs,hh⟩:=D1b S 5 Z g h;exact hh.lt
   ·rw[List.mem_singleton.1 h];exact S.lt 3 Z
  refine j0a S r5b Z Z (h8a C (wdL p C) k2a k [] _ _ _ _ _ (ha.at_ KQ d0) (F0.at_ KQ d0) ho (by omega) (f2b (S.blk 0 Z) List.not_mem_nil) k4a z3a) ?_;rintro v72 W2 J1 W1 E1;replace KQ:=KQ.trans (E1.of_nil);replace KR:=KR.trans (E1.of_nil);obtain⟨_,_,_,rfl⟩:=J1.form;have KT:=u0a.refl (G.toList++[g6]) W2;refine k0a W1 T9a (vs:=[.slice _ _ _]) (cs:=[_]) Z Z Z Z Z Z ?_;intro a3 v3 z1 N0 G0;have t1:=Nat.le_trans KQ.size G0;have v1:=Nat.le_trans KR.size G0;have y1:=Nat.le_trans KT.size G0;replace KQ:=KQ.trans (N0.of_nil);replace KR:=KR.trans (N0.of_nil);replace KT:=KT.trans (N0.of_nil);have C0:=n0.keep v2b KR;have o2:=KQ.size;refine u1a v2b (k:=6) (M2:=[g6]) (e1:=stZ C (wdL p C) k k2a) z1 T9a Z C0 Z Z (z1.cells 0 Z) ⟨_,_,_,Z,(J1 _ S0).keep KT⟩ (by rw[d9a];omega) Z ?_;intro r3 Y2 u2 w3 Y1 o0 i2 O1;replace KQ:=KQ.freshL i2 (fun g hg=>.inl (Z0 g hg));refine C0a Z ?_;refine lP0 Z ⟨by omega,U⟩ ?_;refine⟨μk-1,by omega,Z,(k+1),(_),(_),(_),(by omega),((by rw[v0c];exact o0)),((fun g hg=>by rcases O1 g hg with h|h;exact Z0 g h;exact Nat.le_trans o2 h)),(KQ),Y1.tail,Z⟩
 obtain rfl:k=2 ^ a0:=by omega
 obtain⟨wa,KA,z0⟩:∃wa,u0a [g6] wa w∧RdS [g6] wa 1 (RIs [g6] wa) v (O4c C (wdL p C) (2 ^ a0)):=⟨w,u0a.refl _ _,n0.rd v2b S (k:=5) Z (fun g hg hm=>by have h1:=Z0 g (by rw[hg];simp);have h2:=d0 g hm;have h3:=a2.size;omega) (by rw[d9a];omega)⟩;obtain⟨Aa,ca,K1⟩:=n0.form;rw[d9a] at K1;subst K1;have e3:=d9a C (wdL p C) (2 ^ a0);refine lO0 Z U (H0a (vs:=[]) (cs:=mW d7a) V2d Z Z Z Z ?_);refine p0a (hv:=Z) (cs:=mW d7a) S Z ?_;intro x0 x3 B1 F1 p1;have u1:=Nat.le_trans KQ.size p1;have q1:=Nat.le_trans KA.size p1;replace KQ:=KQ.trans F1.of_nil;replace KA:=KA.trans F1.of_nil;refine lOn 6 B1.k [] Z U (I0a Z ?_);refine lC0 Z U (wL (fun μx D ε w=>D=[]∧∃x:Nat,∃m:List Nat,(x+μx=((2 ^ a0)))∧(G4a m (fun a b=>a<x∧ofR e C (wdL p C) (2 ^ a0) a b))∧(u0a [g6] q0 w)∧(u0a [g6] wa w)∧St [] w0 w [(some x0,173,mW m),(some E0,3,(List.replicate 32 (.int .i64 0))),(some v0,28,[.slice A3 n3 c3,.slice A4 n4 c4]),(some g8,89,[.slice A1 n1 c1,.slice A2 n2 c2,.slice none 0 0]),(some g6,41,[.slice none 0 0,.slice none 0 0,.slice none 0 0]),(some g5,37,[.int .i64 e.op,.int .i64 e.w,.int .i64 e.n,.slice Ae ne ce]),(G,28,u0)]∧Sl ε [(5,.pointer (some ⟨g5,0,none⟩)),(6,.pointer (some ⟨g6,0,none⟩)),(8,.pointer (some ⟨g8,0,none⟩)),(15,.slice Aa (2 ^ a0) ca),(17,.pointer (some ⟨x0,0,none⟩)),(79,.int .i64 ((2 ^ a0:Nat):Int)),(80,.int .i64 x)]) (μ:=((2 ^ a0))) ⟨Z,0,d7a,by omega,G4a.zero.congr (fun a b _ _=>⟨fun h=>h.elim,fun h=>by omega⟩),KQ,KA,B1,Z⟩ ?_);rintro μx D ε w ⟨rfl,x,m,hx,hm,KQ,KA,S,eZ⟩;refine wK eZ (wB0 Z U (fun C2=>?_) fun C2=>?_)
 ·refine lC0 Z U (wL (fun μy D ε w=>D=[]∧∃y:Nat,∃m:List Nat,(y+μy=((2 ^ a0)))∧(G4a m (fun a b=>(a<x∨(a=x∧b<y))∧ofR e C (wdL p C) (2 ^ a0) a b))∧(u0a [g6] q0 w)∧(u0a [g6] wa w)∧St [] w0 w [(some x0,173,mW m),(some E0,3,(List.replicate 32 (.int .i64 0))),(some v0,28,[.slice A3 n3 c3,.slice A4 n4 c4]),(some g8,89,[.slice A1 n1 c1,.slice A2 n2 c2,.slice none 0 0]),(some g6,41,[.slice none 0 0,.slice none 0 0,.slice none 0 0]),(some g5,37,[.int .i64 e.op,.int .i64 e.w,.int .i64 e.n,.slice Ae ne ce]),(G,28,u0)]∧Sl ε [(5,.pointer (some ⟨g5,0,none⟩)),(6,.pointer (some ⟨g6,0,none⟩)),(8,.pointer (some ⟨g8,0,none⟩)),(15,.slice Aa (2 ^ a0) ca),(17,.pointer (some ⟨x0,0,none⟩)),(18,.int .i64 x),(79,.int .i64 ((2 ^ a0:Nat):Int)),(80,.int .i64 x),(84,.int .i64 ((2 ^ a0:Nat):Int)),(85,.int .i64 y)]) (μ:=((2 ^ a0))) ⟨Z,0,m,by omega,hm.congr (fun a b _ _=>⟨fun h=>⟨.inl h.1,h.2⟩,fun h=>⟨by omega,h.2⟩⟩),KQ,KA,S,Z⟩ ?_);rintro μy D ε w ⟨rfl,y,m,_,hm,KQ,KA,S,eZ⟩;refine wK eZ (wB0 Z U (fun D2=>?_) fun D2=>?_)
  ·refine lC0 Z U (y0a b0a [0,1,2,3,4,5,6,7,8,9,10] [] [] Z (Cl _ _ _ _) (Cl.start S) ?_);obtain⟨_,q2,P2,s2,J2,Q0,_,_,V0,f1⟩:=RdS.get ((z0.keep KA)) (x) (by omega);obtain⟨Ax,nx,cx,v2,hX⟩:=f1;obtain rfl:s2=[Value.slice Ax nx cx]:=v2;obtain rfl:=Y9b J2;obtain⟨t,r2,Q2,t2,K2,R0,_,_,W0,g1⟩:=RdS.get ((z0.keep KA)) (y) (by omega);obtain⟨Ay,ny,cy,w2,hY⟩:=g1;obtain rfl:t2=[Value.slice Ay ny cy]:=w2;obtain rfl:=Y9b K2;refine qO ((S.q.b W0).b V0) [.w 5,.x q2 P2,.f 0 0,.x r2 Q2,.f 1 0] Z ⟨Z,⟨R0,by omega⟩,Z,⟨Q0,by omega⟩,⟨Z,Z⟩,U⟩ (t1a C5c Z Z (fun w1 S1 X1=>W1c e [] _ _ _ _ _ _ (RdE.less (by simp) _ _ (RdE.keep (S1.keep0 M) _ _ hE)) ⟨List.not_mem_nil,(hK.keep (S1.keep0 M)).2⟩ ((hX.keep (KA.trans X1.of_nil)).less (by simp)) ((hY.keep (KA.trans X1.of_nil)).less (by simp))) ?_);refine qB0 Z U (fun O0=>?_) fun O0=>?_
   ·refine qD Z U ?_;rintro m1 ⟨j0,g0⟩;replace KQ:=KQ.trans (g0.of_nil);replace KA:=KA.trans (g0.of_nil);have f3:=(hm.at_ (x:=x) (by omega)).2;have i3:(2:Nat) ^ y<2 ^ 64:=Nat.pow_lt_pow_right (by omega) (by omega);have N2:=hm.cell0 (x:=x) (by omega);refine lC0 Z U (y0a b0a [0,1,2,3,4,5,6,7,8,9] [] [10] Z (Cl _ _ _ _) (Cl.start j0) ?_);refine qO0 Z U (r0a J3a Z Z Z ?_);refine i0a Z3a Z (fun w1 hw=>by exact hw.1.cell 0 Z N2) Z ?_;refine qO0 Z U (F7b (n:=y) Z Z ?_);refine U4c Z Z (by assumption) (by assumption) Z ?_;refine qO0 Z U (r0a J3a Z Z Z ?_);refine qD Z U ?_;rintro X2 ⟨K0,t0⟩;replace KQ:=KQ.trans (t0.of_nil);replace KA:=KA.trans (t0.of_nil);refine c1a (hy:=Z) (kk:=0) (v:=uV (m.getD x 0 ||| 2 ^ y)) K0 J0b Z Z Z (by rw[s4b,hm.len];simp;omega) ?_;intro j1 b0 f0;rw[X3b,show 0+(x:Int).toNat*1=x by simp] at b0;dsimp only[List.set] at b0;replace KQ:=KQ.fresh2 f0 (.inl (by assumption));replace KA:=KA.fresh2 f0 (.inl (by assumption));refine lP0 Z ⟨by omega,U⟩ ⟨μy-1,by omega,Z,(y+1),(_),(by omega),?_,(KQ),(KA),b0,Z⟩;refine(hm.bit1 (x:=x) (y:=y) (by omega) (by omega)).congr fun a b _ _=>?_;constructor
    ·rintro(h|⟨rfl,rfl⟩)
     ·exact⟨by omega,h.2⟩
     ·exact⟨by omega,by omega,by omega,O0⟩
    ·intro h;by_cases T0:a=x∧b=y
     ·exact .inr T0
     ·exact .inl ⟨by omega,h.2⟩
   refine qD Z U ?_;rintro m1 ⟨j0,g0⟩;replace KQ:=KQ.trans (g0.of_nil);replace KA:=KA.trans (g0.of_nil);refine lP0 Z ⟨by omega,U⟩ ⟨μy-1,by omega,Z,(y+1),(_),(by omega),?_,(KQ),(KA),j0,Z⟩;refine hm.congr fun a b _ _=>?_;constructor
   ·exact fun h=>⟨by omega,h.2⟩
   ·intro h;by_cases T0:a=x∧b=y
    ·obtain⟨rfl,rfl⟩:=T0;exact absurd h.2.2.2 O0
    ·exact⟨by omega,h.2⟩
  refine lP0 Z ⟨by omega,U⟩ ⟨μx-1,by omega,Z,(x+1),(m),(by omega),?_,(KQ),(KA),S,Z⟩;exact hm.congr fun a b _ _=>⟨fun h=>⟨by omega,h.2⟩,fun h=>⟨by have:=h.2.2.1;omega,h.2⟩⟩
 refine lO S.k [.o 3,.o 3] Z ⟨Z,Z,U⟩ ?_;have m0:w0.heap.size≤w.heap.size:=S.size;have i0:∀g∈[g6],g<w.heap.size:=fun g hg=>by rw[List.mem_singleton.1 hg];exact S.lt 4 Z
 refine j0a S J5b Z Z (P5a C (wdL p C) m _ hm [] _ _ _ x0 (ha.at_ KQ d0) (F0.at_ KQ d0) (S.blk 0 Z)) ?_;rintro R2 i1 ⟨_,_,_,rfl,G1,H1,I1⟩ I0 Z1;obtain⟨_,_,_,rfl⟩:=G1.form;obtain⟨_,_,_,rfl⟩:=H1.form;obtain⟨_,_,_,rfl⟩:=I1.form;have r0:=u0a.refl [g6] i1;refine c0a (kk:=4) (vs:=[_,_,_]) I0 f6a Z Z Z Z Z Z Z ?_;intro M1 e0 s0;dsimp only[f0a,List.set] at e0;replace r0:=r0.fresh2 s0 (by exact .inr (by simp));refine lR0 Z U ?_;exact d2a (n:=3) Z A4a Z (e0.cells 4 Z) Z Z ⟨⟨_,_,_,m,Z,G1.later r0 i0 m0,H1.later r0 i0 m0,I1.later r0 i0 m0,hm.congr fun a b _ _=>⟨fun h=>h.2,fun h=>⟨by have:=h.1;omega,h⟩⟩⟩,e0.fin⟩
def slQ(u:Value):Prop:=∃A n c,u=.slice A n c
theorem s3c:∃u,slQ u:=⟨.slice none 0 0,none,0,0,Z⟩
def b3d(l:List Int)(u:Value)(w:World):Prop:=RdI [] w u l
theorem K1c(l:List Int):∀u w w',u0a [] w w'→b3d l u w→b3d l u w':=fun _ _ _ hk h=>RdS.keep h hk
theorem m0a.same{w w':World}{b:Blk}(h:m0a w b)(e:w'.heap[b.1]?=w.heap[b.1]?):m0a w' b:=e.trans h
def prj(Ca Wa C W:List Int)(p:Int×Int):Int×Int:=((nuZ C W (stZ Ca Wa p.1.toNat k2a):Nat),(nuZ C W (stZ Ca Wa p.2.toNat k2a):Nat))
theorem P1c{Ca Wa C W:List Int}(hw:∀x∈W,1≤x∧x≤8){a0:Nat}(hb:b2a W=a0)(p:Int×Int):0≤(prj Ca Wa C W p).1∧(prj Ca Wa C W p).1<(2 ^ a0:Nat)∧0≤(prj Ca Wa C W p).2∧(prj Ca Wa C W p).2<(2 ^ a0:Nat):=by
 have h1:=H3b C W (stZ Ca Wa p.1.toNat k2a) hw;have h2:=H3b C W (stZ Ca Wa p.2.toNat k2a) hw;rw[hb,Int.toNat_natCast] at h1 h2;unfold prj;simp only;omega
theorem J8b(A1 A2 A3 B1 B2 B3:Option Addr)(n1 c1 n2 c2 n3 c3 m1 d1 m2 d2 m3 d3:Nat)(w0:World):E0a prog 71 #[.agg #[.slice A1 n1 c1,.slice A2 n2 c2,.slice A3 n3 c3],.agg #[.slice B1 m1 d1,.slice B2 m2 d2,.slice B3 m3 d3]] w0 fun v w'=>(∃ga gb,v=.func (.func 127) #[] #[.pointer (some ⟨ga,0,none⟩),.pointer (some ⟨gb,0,none⟩)]∧w0.heap.size≤ga∧w0.heap.size≤gb∧m0a w' (ga,41,[.slice A1 n1 c1,.slice A2 n2 c2,.slice A3 n3 c3])∧m0a w' (gb,89,[.slice B1 m1 d1,.slice B2 m2 d2,.slice B3 m3 d3]))∧Below w0.heap.size w0 w':=by
 have S:=St.refl w0;refine a0a func71 Z ntmps71 Z ?_;refine wO0 Z U (p0a S Z ?_);intro g2 w2 S2 X2 G2;refine p0a S2 Z ?_;intro g3 w3 S3 X3 G3;refine lO0 Z U (w1a Z Z ?_);refine lR0 Z U (s0a Z ?_);exact⟨⟨g2,g3,Z,by simpa using S3.new 1 Z,by simpa using S3.new 0 Z,S3.blk 1 Z,S3.blk 0 Z⟩,S3.fin⟩
theorem T9b(Ca Wa C W:List Int)(n:Nat)(gp gw gb tp tw tb gz tz:Nat)(w0:World)(v u i v' u' i':Value)(hp:m0a w0 (gp,tp,[v,u,i]))(hw:m0a w0 (gw,tw,[v',u',i']))(hb:m0a w0 (gb,tb,[.slice (some ⟨gz,0,none⟩) 32 32]))(hz:m0a w0 (gz,tz,List.replicate 32 (.int .i64 0)))
 (hC:RdI [] w0 v C) (hW:RdI [] w0 u W) (e0:RdI [] w0 v' Ca) (f0:RdI [] w0 u' Wa) (ho:P9a C W) (i0:P9a Ca Wa) (p0:b2a Wa≤12) (hi:slQ i) (n0:slQ i') (hn:n<4096:=by omega) (hs:b2a W≤12:=by omega) :
 E0a prog 128 #[.int .i64 n,.pointer (some ⟨gp,0,none⟩),.pointer (some ⟨gw,0,none⟩),.pointer (some ⟨gb,0,none⟩)] w0 fun x w'=>x=.int .i64 (nuZ C W (stZ Ca Wa n k2a):Nat)∧Below w0.heap.size w0 w':=by
 obtain⟨A,nc,c,rfl⟩:=hC.form;obtain⟨A',nw,c',rfl⟩:=hW.form;obtain⟨B,mc,d,rfl⟩:=e0.form;obtain⟨B',mw,d',rfl⟩:=f0.form;obtain⟨I,ni,ci,rfl⟩:=hi;obtain⟨I',j0,d0,rfl⟩:=n0;have S:=St.refl w0;have cp:Cells w0 gp 0 [.slice A nc c,.slice A' nw c',.slice I ni ci]:=fun j v hj=>by rw[Nat.zero_add];exact hp.cell hj
 have cw:Cells w0 gw 0 [.slice B mc d,.slice B' mw d',.slice I' j0 d0]:=fun j v hj=>by rw[Nat.zero_add];exact hw.cell hj
 have cb:w0.cell? ⟨gb,0,none⟩=some (.slice (some ⟨gz,0,none⟩) 32 32):=hb.cell Z;have q0:=f2b (M:=[]) hz List.not_mem_nil;have b0:=fun x hx=>(w2b Ca Wa n k2a i0.wid z3a x hx).1;have o0:(stZ Ca Wa n k2a).length=32:=by rw[h5b,k4a]
 refine a0a func128 Z ntmps128 Z ?_;refine wC0 Z U (E6b b0a [0,1,2,3,4] 5 (Cl _ _ _ _) (Cl.start S) (fun i=>if i=4 then some (126,#[.agg #[.slice B mc d,.slice B' mw d',.slice I' j0 d0],.int .i64 n,.slice (some ⟨gz,0,none⟩) 32 32],slQ,b3d (stZ Ca Wa n k2a)) else none) ?_ _ Z ?_)
 ·intro i f a Qp Qw hi;by_cases g0:i=4
  ·subst g0;cases hi;exact⟨s3c,K1c _,fun w hC=>(h8a (hn:=hn) Ca Wa k2a n [] w _ _ _ _ (e0.keep hC.2) (f0.keep hC.2) i0 p0 (q0.keep hC.2) k4a z3a).mono (fun u w' hr=>⟨⟨hr.1.form,hr.1 [] (by simp)⟩,hC.later hr.2⟩)⟩
  ·simp only[g0,if_false] at hi;cases hi
 refine f9b Z Z ?_;refine M2a A5a Z (fun w1 hw=>cp.keep (hw.1.keep0 []) List.not_mem_nil) (by rfl) Z ?_;refine n0a ?_;refine f9b Z Z ?_;refine M2a A5a Z (fun w1 hw=>cw.keep (hw.1.keep0 []) List.not_mem_nil) (by rfl) Z ?_;refine n0a ?_;refine f9b Z Z ?_;refine m1a (hv:=Z) (v:=.int .i64 _) Z ?_;refine n0a ?_;refine f9b Z Z ?_;refine i0a w5a Z (fun w1 hw=>by first|exact hw.2.cell (List.not_mem_nil) cb) Z ?_;refine n0a ?_;refine r7b (caps:=#[]) r5b Z Z Z Z Z Z ?_;rintro s0 ⟨_,_,_,rfl⟩;refine N0c ?_;rintro u0 ⟨a0,_⟩ ⟨-,c0⟩;refine C6a ?_;refine g0a a0 a8c Z Z (M5b C W (stZ Ca Wa n k2a) [] _ _ _ _ _ (hC.keep (a0.keep0 [])) (hW.keep (a0.keep0 [])) ho hs c0 o0 b0) ?_;intro t0 m0 r0;refine X0a ⟨Z,?_⟩;refine C6a ?_;refine C0a (hv:=Z) (v:=.int .i64 _) Z ?_;refine X0a ⟨Z,?_⟩;refine n2c ?_;refine fR0 Z U (s0a Z ?_);exact⟨Z,m0.fin⟩
structure L1d (l:Nat) (Bs:List Nat) (w0:World) (J:List Nat→List (Int×Int)→World→Prop):Prop where
 start:∀Ps w,Below w0.heap.size w0 w→(∀g∈Ps,w0.heap.size≤g∧g<w.heap.size)→J Ps [] w
 own:∀Ps k w w',J Ps k w→Below w.heap.size w w'→J Ps k w'
 keep:∀Ps k w,J Ps k w→u0a Bs w0 w
 each:∀Ps k w a,J Ps k w→k.length+1≤4096→(0≤a.1∧a.1<64∧0≤a.2∧a.2<64)→Yld prog l #[.agg #[.int .i64 a.1,.int .i64 a.2]] w fun u w'=>u=.bool true∧J Ps (k++[a]) w'∧∀g∈Ps,w'.heap[g]?=w.heap[g]?
theorem G5b(Ca Wa C W:List Int)(li:List (Int×Int))(b0 l ga gb ta tb:Nat)(Bs:List Nat)(w0:World)(J:List Nat→List (Int×Int)→World→Prop)(v u i v' u' i':Value)(ha:m0a w0 (ga,ta,[v',u',i']))(hb:m0a w0 (gb,tb,[v,u,i]))(_:ga∉Bs)(a1:gb∉Bs)
 (hC:RdI Bs w0 v C) (hW:RdI Bs w0 u W) (G0:RdI Bs w0 v' Ca) (I0:RdI Bs w0 u' Wa) (hL:j9a Bs w0 i' li) (ho:P9a C W) (L0:P9a Ca Wa) (hs:b2a W=b0) (p1:b0≤6) (O0:b2a Wa≤12) (hi:slQ i) (b1:∀x∈li,0≤x.1∧x.1<4096∧0≤x.2∧x.2<4096) (n1:li.length≤4096) (hJ:L1d l Bs w0 J) :
 E0a prog 127 #[.func (.yield l) #[] #[],.pointer (some ⟨ga,0,none⟩),.pointer (some ⟨gb,0,none⟩)] w0 fun _ w'=>∃Ps,J Ps (li.map (prj Ca Wa C W)) w':=by
 obtain⟨A,nc,c,rfl⟩:=G0.form;obtain⟨A',nw,c',rfl⟩:=I0.form;obtain⟨I',q0,r0,rfl⟩:=hL.form;obtain⟨_,-,_⟩:=hL.len;have o1:2 ^ b0≤64:=Nat.pow_le_pow_right (n:=2) (j:=6) (by omega) (by omega);have S:=St.refl w0;have cA:Cells w0 ga 0 [.slice A nc c,.slice A' nw c',.slice I' q0 r0]:=fun j v hj=>by rw[Nat.zero_add];exact ha.cell hj
 have m1:[Value.slice A nc c,.slice A' nw c',.slice I' q0 r0].length=3:=Z;refine a0a func127 Z ntmps127 Z ?_;refine wO (S.k.a cA) [.f 0 0,.f 0 1] Z ⟨Z,Z,U⟩ (H0a k7b (vs:=[(0,.slice _ _ _),(1,.slice _ _ _)]) (cs:=[_,_,_]) Z Z Z Z ?_);refine h0a S S8a Z Z ?_;intro g4 w4 S4 X4 G4
 first|refine c0a (kk:=0) (vs:=[_,_,_]) S4 R8a Z Z Z Z Z Z Z ?_
 intro d1 i0 R0;dsimp only[f0a,List.set] at i0;refine lO0 Z U (K8a (n:=32) (c:=32) i0 Y0a Z Z Z Z ?_);intro c0 r1 Q0 j1 i1;refine h0a Q0 R2d Z Z ?_;intro g5 w5 S5 X5 G5;refine c1a (kk:=0) S5 z3c Z Z Z (by exact Nat.le_of_ble_eq_true Z) ?_;intro f1 a0 S0;refine lO0 Z U (w1a Z Z ?_);refine lCn 4 a0.k [] Z U ?_;have Y0:=hJ.start [g4,c0,g5] _ a0.fin (fun g hg=>by
  simp only[List.mem_cons,List.not_mem_nil,or_false] at hg;rcases hg with rfl|rfl|rfl
  ·exact⟨by simpa using a0.new 2 Z,a0.lt 2 Z⟩
  ·exact⟨by simpa using a0.new 1 Z,a0.lt 1 Z⟩
  ·exact⟨by simpa using a0.new 0 Z,a0.lt 0 Z⟩)
 refine wC (a0.k.a cA) [.f 0 2] Z ⟨Z,U⟩ (wL (fun μ D ε w=>D=[]∧∃k:Nat,(k+μ=li.length)∧(J [g4,c0,g5] ((li.take k).map (prj Ca Wa C W)) w)∧(m0a w (g4,89,[.slice A nc c,.slice A' nw c',.slice none 0 0]))∧(m0a w (c0,3,List.replicate 32 (.int .i64 0)))∧(m0a w (g5,28,[.slice (some ⟨c0,0,none⟩) 32 32]))∧ε 0=.func (.yield l) #[] #[]∧ε 6=.func (.func 128) #[] #[.pointer (some ⟨gb,0,none⟩),.pointer (some ⟨g4,0,none⟩),.pointer (some ⟨g5,0,none⟩)]∧ε 17=.slice I' q0 r0∧ε 18=.int .i64 q0∧ε 19=.int .i64 k) (μ:=li.length) ⟨Z,0,by omega,Y0,a0.blk 2 Z,a0.blk 1 Z,a0.blk 0 Z,Z,Z,Z,Z,Z⟩ ?_);rintro μ D ε w ⟨rfl,k,_,u0,v0,f0,y0,e0,e6,D0,E0,F0⟩;refine q0a 0 e0 (q0a 6 e6 (q0a 17 D0 (q0a 18 E0 (q0a 19 F0 ?_))));clear e0 e6 D0 E0 F0;have g0:=hJ.keep _ _ _ u0;have S:=St.refl w;have K0:=N3b g0 a1 hb;have H0:RdI [] w v C:=(hC.keep g0).less (by simp);have J0:RdI [] w u W:=(hW.keep g0).less (by simp);have m0:RdI [] w _ Ca:=(G0.keep g0).less (by simp);have n0:RdI [] w _ Wa:=(I0.keep g0).less (by simp);have Z0:=hL.keep g0;refine wB0 Z U (fun X0=>?_) fun X0=>?_
 ·obtain⟨x,U0,c1,V0,P0,s0,_,B0,A0,C0⟩:=RdS.get (Z0) (k) (by omega);obtain⟨W0,_⟩:=C0;have hx:=b1 x (d0a P0);obtain⟨a,b,rfl⟩:∃a b:Nat,x=((a:Int),(b:Int)):=⟨x.1.toNat,x.2.toNat,Prod.ext (Int.toNat_of_nonneg hx.1).symm (Int.toNat_of_nonneg hx.2.2.1).symm⟩;obtain rfl:V0=[Value.int .i64 (a:Int),.int .i64 (b:Int)]:=W0;simp only at hx;refine lO (S.k.b A0) [.x U0 c1,.v 0] Z ⟨⟨Z,B0⟩,⟨s0,by omega⟩,U⟩ (h0a S X8b Z Z ?_);intro g8 w8 S8 X8 G8
  first|refine c0a (kk:=0) (vs:=[_,_]) S8 y5b Z Z Z Z Z Z Z ?_
  intro g1 j0 T0;dsimp only[f0a,List.set] at j0;refine lC0 Z U (y0a b0a [0,1,2,3,4,5,6,7,8,9] [] [10,11] Z (Cl _ _ _ _) (Cl.start j0) ?_);refine qO0 Z U (r0a H1a Z Z Z ?_);refine i0a x0a Z (fun w1 hw=>by exact hw.1.cell 0 Z Z) Z ?_;refine p6b (caps:=#[.pointer (some ⟨gb,0,none⟩),.pointer (some ⟨g4,0,none⟩),.pointer (some ⟨g5,0,none⟩)]) B9b Z Z Z (fun w1 hw=>S2b hw ((fun w1 S1 X1=>T9b Ca Wa C W a gb g4 g5 _ _ _ c0 _ _ _ _ _ _ _ _ (W0a (S1.keep0 []) K0) (W0a (S1.keep0 []) v0) (W0a (S1.keep0 []) y0) (W0a (S1.keep0 []) f0) (H0.keep (S1.keep0 [])) (J0.keep (S1.keep0 [])) (m0.keep (S1.keep0 [])) (n0.keep (S1.keep0 [])) ho L0 O0 hi ⟨none,0,0,Z⟩) w1 hw.1 hw.2) fun _ _ h=>h) ?_;refine qO0 Z U (r0a H1a Z Z Z ?_);refine i0a x0a Z (fun w1 hw=>by exact hw.1.cell 0 Z Z) Z ?_;refine p6b (caps:=#[.pointer (some ⟨gb,0,none⟩),.pointer (some ⟨g4,0,none⟩),.pointer (some ⟨g5,0,none⟩)]) B9b Z Z Z (fun w1 hw=>S2b hw ((fun w1 S1 X1=>T9b Ca Wa C W b gb g4 g5 _ _ _ c0 _ _ _ _ _ _ _ _ (W0a (S1.keep0 []) K0) (W0a (S1.keep0 []) v0) (W0a (S1.keep0 []) y0) (W0a (S1.keep0 []) f0) (H0.keep (S1.keep0 [])) (J0.keep (S1.keep0 [])) (m0.keep (S1.keep0 [])) (n0.keep (S1.keep0 [])) ho L0 O0 hi ⟨none,0,0,Z⟩) w1 hw.1 hw.2) fun _ _ h=>h) ?_;refine G2a c4a (vs:=[(0,.int .i64 _),(1,.int .i64 _)]) (cs:=[_,_]) Z Z Z Z ?_;refine qD Z U ?_;rintro t1 ⟨p0,_⟩;have N0:=P1c (Ca:=Ca) (Wa:=Wa) (C:=C) ho.wid hs ((a:Int),(b:Int));refine U0c Z Z Z (hJ.each _ _ _ (prj Ca Wa C W ((a:Int),(b:Int))) (hJ.own _ _ _ _ u0 p0.fin) (by rw[List.length_map,List.length_take];omega) ⟨N0.1,by omega,N0.2.2.1,by omega⟩) ?_;rintro q1 s1 ⟨rfl,t0,d0⟩;have x0:=(W0a (p0.keep0 []) v0).same (d0 g4 (by simp));have o0:=(W0a (p0.keep0 []) f0).same (d0 c0 (by simp));have z0:=(W0a (p0.keep0 []) y0).same (d0 g5 (by simp));refine lP0 Z ⟨by omega,U⟩ ?_;exact⟨μ-1,by omega,Z,k+1,by omega,by rw[F0a P0,List.map_append];exact t0,x0,o0,z0,Z,Z,Z,Z,Z⟩
 refine lF0 Z U (C1a Z ?_);exact⟨_,(show li.take k=li from List.take_of_length_le (by omega))▸u0⟩
def F3b(a b:List Int):List Int:=Lib.compact (r3a (a++b))
theorem y4b(d:Array Int):∀m,(∀i j,i≤j→j<m→d[i]! ≤ d[j]!)→(Lib.compactUpTo d m).Pairwise (·<·)∧∀x,x∈Lib.compactUpTo d m↔∃j,j<m∧d[j]! = x:=by
 intro m
 induction m with
 | zero=>intro _;simp[Lib.compactUpTo]
 | succ m ih =>
   intro a0;obtain⟨h1,h2⟩:=ih (fun i j d0 hj=>a0 i j d0 (by omega));rw[Lib.compactUpTo_succ];by_cases hk:Lib.keeps d m=true
   ·rw[if_pos hk];refine⟨List.pairwise_append.2 ⟨h1,by simp,fun x hx y hy=>?_⟩,fun x=>?_⟩
    ·simp at hy;subst hy;obtain⟨j,hj,rfl⟩:=(h2 x).1 hx;have h3:=a0 j (m-1) (by omega) (by omega);have h4:=a0 (m-1) m (by omega) (by omega);have h5:d[m]! ≠ d[m-1]! := by
      simp only[Lib.keeps,decide_eq_true_eq] at hk;rcases hk with h|h
      ·omega
      ·exact h
     omega
    ·simp only[List.mem_append,h2,List.mem_singleton];constructor
     ·rintro(⟨j,hj,rfl⟩|rfl)
      ·exact⟨j,by omega,Z⟩
      ·exact⟨m,by omega,Z⟩
     ·rintro⟨j,hj,rfl⟩;by_cases b0:j=m
      ·subst b0;exact .inr Z
      ·exact .inl ⟨j,by omega,Z⟩
   ·rw[if_neg hk];have c0:¬(m=0∨d[m]! ≠ d[m-1]!):=by simpa[Lib.keeps] using hk
    have h5:d[m]! = d[m-1]! := Classical.byContradiction fun h=>c0 (.inr h);have h6:m≠0:=fun h=>c0 (.inl h);refine⟨by simpa using h1,fun x=>?_⟩;simp only[List.append_nil,h2];constructor
    ·rintro⟨j,hj,rfl⟩;exact⟨j,by omega,Z⟩
    ·rintro⟨j,hj,rfl⟩;by_cases b0:j=m
     ·subst b0;exact⟨j-1,by omega,h5.symm⟩
     ·exact⟨j,by omega,Z⟩
theorem o4a(a b:List Int):(F3b a b).Pairwise (·<·)∧∀x,x∈F3b a b↔x∈a∨x∈b:=by
 have hs:(r3a (a++b)).Pairwise (fun x y=>x≤y):=by
  have:=List.pairwise_mergeSort (le:=fun(x y:Int)=>decide (x≤y)) (fun a b c=>by simp;omega) (fun a b=>by simp;omega) (a++b);simpa[r3a] using this
 have hm:∀x,x∈r3a (a++b)↔x∈a∨x∈b:=fun x=>by simp[r3a]
 generalize hz:r3a (a++b)=zs at hs hm;have hu:F3b a b=Lib.compactUpTo zs.toArray zs.length:=by unfold F3b Lib.compact;rw[hz]
 have hg:∀i,i<zs.length→zs.toArray[i]! = zs.getD i 0:=fun i hi=>by simp[hi]
 obtain⟨h1,h2⟩:=y4b zs.toArray zs.length (fun i j a0 hj=>by
  rw[hg i (by omega),hg j hj];by_cases he:i=j
  ·subst he;exact Int.le_refl _
  ·have:=List.pairwise_iff_getElem.1 hs i j (by omega) hj (by omega);simpa[show i<zs.length by omega,hj] using this)
 rw[hu];refine⟨h1,fun x=>?_⟩;rw[h2,←hm];constructor
 ·rintro⟨j,hj,rfl⟩;rw[hg j hj];simp[hj]
 ·intro hx;obtain⟨j,hj,rfl⟩:=List.getElem_of_mem hx;exact⟨j,hj,by rw[hg j hj];simp[hj]⟩
theorem St.changedO{M:List Nat}{w0 w w':World}{L:List Ent}{G:Option Nat}{t t':Nat}{cs a0:List Value}(S:St M w0 w L)(i:Nat)(hi:L[i]?=some (G,t,cs))(hb:D0a G.toList w w')(h1:∀g,G=some g→m0a w' (g,t',a0)):St M w0 w' (L.set i (G,t',a0)):=by
 cases G with
 | some g=>exact S.changed1 i hi hb (h1 g Z)
 | none =>
   have hB:Below w.heap.size w w':=hb.nil;exact S.replace i hi (S.later hB).below (fun b b0 _=>hb.block b b0 (by simp)) (fun g hg=>by cases hg)
theorem St.pushO{M:List Nat}{w0 w w1:World}{L:List Ent}{G:Option Nat}{el:Nat}{cs:List Value}(S1:St M w0 w1 L)(Sw:St M w0 w L)(h:∀g,G=some g→w.heap.size≤g∧m0a w1 (g,el,cs)):St M w0 w1 ((G,el,cs)::L):=by
 cases G with
 | none=>exact(S1.nilEnt el).changedO 0 Z (D0a.refl _ _) (fun g hg=>by cases hg)
 | some g=>exact S1.push_new Sw (h g Z).2 (h g Z).1
theorem D0a.keepO{G:List Nat}{w w':World}(h:D0a G w w'):u0a G w w':=⟨h.size,h.block⟩
theorem k3c(w:World)(G:Option Nat)(el:Nat)(cs:List Value)(v:Value)(zs:List Int)(hR:t4a G 1 zs.length cs v (zs.map (Value.int .i64)))(hb:∀g,G=some g→m0a w (g,el,cs))(hz:zs.length≤1000000):
 E0a prog 68 #[v] w fun _ w'=>∃d0,D0a G.toList w w'∧(∀g,G=some g→m0a w' (g,el,d0))∧t4a G 1 (r3a zs).length d0 v ((r3a zs).map (Value.int .i64)):=by
 have b0:(r3a zs).length=zs.length:=by simp[r3a]
 obtain⟨_,⟨rfl,rfl,a0⟩|⟨g,c0,rfl,rfl,_,q2,_,q4⟩⟩:=hR
 ·refine Calls.mono (Tryz.slices_Sort_int_none none 0 w) ?_;rintro e w' ⟨rfl,rfl⟩;exact⟨_,Z,cs,D0a.refl _ _,fun g hg=>(by cases hg),by rw[b0,a0,List.length_eq_zero_iff.1 a0];simp[r3a],.inl ⟨Z,Z,by rw[b0];exact a0⟩⟩
 ·refine(X9b w g el c0 cs zs (hb g Z) (by simpa using q4) hz).mono ?_;rintro _ w' ⟨B,h1⟩;refine⟨_,B,fun g' hg=>(by cases hg;exact h1),by simp,.inr ⟨g,c0,Z,by rw[b0],by omega,q2,?_,?_⟩⟩
  ·rw[List.length_append,List.length_map,List.length_drop,b0];omega
  ·rw[Nat.mul_one];exact List.take_left' (by simp)
theorem o0b(w:World)(G:Option Nat)(el:Nat)(cs:List Value)(v:Value)(zs:List Int)(hR:t4a G 1 zs.length cs v (zs.map (Value.int .i64)))(hb:∀g,G=some g→m0a w (g,el,cs))(hz:zs.length≤1000000:=by omega):
 E0a prog 70 #[v] w fun v' w'=>∃c0,D0a G.toList w w'∧(∀g,G=some g→m0a w' (g,el,c0))∧t4a G 1 (Lib.compact zs).length c0 v' ((Lib.compact zs).map (Value.int .i64)):=by
 have e0:=Lib.compact_length_le zs;obtain⟨_,⟨rfl,rfl,a0⟩|⟨g,b0,rfl,rfl,_,q2,_,q4⟩⟩:=hR
 ·have d0:=List.length_eq_zero_iff.1 a0;subst d0;refine Calls.mono (Tryz.slices_Compact_int_empty none 0 w) ?_;rintro e w' ⟨rfl,rfl⟩;exact⟨_,Z,cs,D0a.refl _ _,fun g hg=>(by cases hg),by simp[Lib.compact,Lib.compactUpTo],.inl ⟨Z,Z,by simp[Lib.compact,Lib.compactUpTo]⟩⟩
 ·refine(v8b w g el b0 cs zs (hb g Z) (by simpa using q4) (by omega) hz (by omega)).mono ?_;rintro _ w' ⟨rfl,B,h1⟩;refine⟨_,B,fun g' hg=>(by cases hg;exact h1),by simp,.inr ⟨g,b0,Z,Z,by omega,q2,?_,?_⟩⟩
  ·rw[List.length_append,List.length_map,List.length_append,List.length_replicate,List.length_drop];omega
  ·rw[Nat.mul_one,List.map_append,List.append_assoc];exact List.take_left' (by simp)
theorem S3b(w:World)(G:Option Nat)(cs:List Value)(v:Value)(l:List (Int×Int))(hR:Q1a A8a 2 [] w G cs v l)(hb:∀g,G=some g→m0a w (g,72,cs))(hz:l.length≤1000000):
 E0a prog 53 #[v] w fun v' w'=>∃a0,D0a G.toList w w'∧(∀g,G=some g→m0a w' (g,72,a0))∧slQ v'∧∀M,(∀g,G=some g→g∉M)→(∀x∈l,i64 x.1∧i64 x.2)→j9a M w' v' (ddP l):=by
 have e0:=O0c l;have d0:=hR.toVP;obtain⟨_,⟨rfl,rfl,_⟩|⟨g,b0,rfl,rfl,_,q2,_,q4⟩⟩:=d0
 ·refine(E8a w 0 none).mono ?_;rintro _ w' ⟨rfl,B⟩;refine⟨cs,⟨B.os,B.tape,B.output,B.size,fun k hk _=>B.block k hk⟩,fun g hg=>(by cases hg),⟨none,0,0,Z⟩,fun M _ _=>?_⟩;exact⟨none,0,0,Z,by omega,Nat.le_refl _,by unfold maxLen;omega,by omega,fun h=>absurd h (by omega)⟩
 ·refine(F8a g b0 l cs w (hb g Z) q4 (by omega) hz).mono ?_;rintro _ w' ⟨rfl,B,a0,_,h2,h3⟩;exact⟨a0,B,fun g' hg=>(by cases hg;exact h2),⟨_,_,_,Z⟩,fun M hM c0=>V7b h3 (fun x hx=>c0 x (L9a.1 hx)) q2 h2 (hM g Z)⟩
section
variable {P:Program} {r:Option Nat} {N:Nat} {l:List Oper} {D:List Deferred} {C:World→Prop} {K:List Deferred→Env→World→Prop} {pur:Nat→Bool}
def C8a(e:Env)(d:Option Nat)(v:Value):Env:=match d with|some d=>upd e d v|none=>e
def A0b(N:Nat)(o:Oper):Prop:=∀d,o.dst=some d→d<N
theorem U3a{a:Act}(o:Oper)(v:Value)(h:A0b a.tmps.size o):L0a (a.put o.dst v)=C8a (L0a a) o.dst v:=by
 cases hd:o.dst with
 | none=>rfl
 | some d=>exact S0a v (h d hd)
theorem S6a(a:Act)(o:Oper)(v:Value):(a.put o.dst v).tmps.size=a.tmps.size:=by
 cases o.dst<;>simp[Act.put]
theorem h3a(a:Act)(o:Oper)(v:Value):(a.put o.dst v).defers=a.defers:=by
 cases o.dst<;>simp[Act.put]
theorem T4a{e:Env}{o:Oper}{v:Value}(hN:A0b N o)(hz:∀i,N≤i→e i=undef):∀i,N≤i→C8a e o.dst v i=undef:=by
 cases hd:o.dst with
 | none=>exact hz
 | some d=>exact v1a (hN d hd) hz
theorem c2a{o:Oper}{K1:List Deferred→Env→World→Prop}{e e1:Env}{w:World}(hN:A0b N o)(j0:Op.isSelect o.op=false)(d0:∀c,o.op≠.defer c)(hz:∀i,N≤i→e1 i=undef)
 (b0:∀s∈Oper.looksAt l.toArray o,e s=e1 s) (h:WL P r N l.toArray [o] K1 D e1 w):WL P r N l.toArray [o] (fun D' e' w'=>∃v,e'=C8a e o.dst v∧K1 D' (C8a e1 o.dst v) w') D e w:=by
 unfold WL at *;intro a Q hs hD he hK;obtain⟨a1,i0,g0,e0⟩:=e6a e1 N D hz;have h1:=h a1 (fun ex a' w'=>ex=.normal∧K1 a'.defers (L0a a') w') i0 g0 e0 (fun a' w' _ hk=>⟨Z,hk⟩);have hw:Region.wanted o (yielded l.toArray a.tmps)=Region.wanted o (yielded l.toArray a1.tmps):=by rw[h1a,h1a,he,e0];exact K0a b0
 have c0:∀(v:Value) (w':World),K1 (a1.put o.dst v).defers (L0a (a1.put o.dst v)) w'→Q .normal (a.put o.dst v) w':=by
  intro v w' hk;rw[U3a o v (by rw[i0];exact hN),e0,h3a,g0] at hk;refine hK _ _ (by rw[S6a,hs]) ⟨v,by rw[U3a o v (by rw[hs];exact hN),he],?_⟩;rw[h3a,hD];exact hk
 simp only[wpListIn] at h1 ⊢;rw[hw]
 split
 ·rename_i n0;simp only[n0,if_true] at h1;refine⟨A0a _ _ _,?_⟩;have h4:=h1.2;have m0:Oper.semAt (fc r).round a.eval o=Oper.semAt (fc r).round a1.eval o:=by
   rw[Oper.semAt_eq _ _ _ d0,Oper.semAt_eq _ _ _ d0,h2a,h2a,he,e0];exact e1a j0 b0
  rw[m0]
  revert h4
  generalize (Oper.semAt (fc r).round a1.eval o).run P w=p0;intro h4;cases p0 with
  | ok x w' =>
    cases x with
    | value v=>simp only[Oper.uponIn] at h4 ⊢;exact c0 v w' h4.2
    | skip=>simp only[Oper.uponIn] at h4 ⊢;exact c0 undef w' h4.2
    | defer dd =>
      simp only[Oper.uponIn] at h4 ⊢;have hk:=h4.2;have o0:L0a ({ a1 with defers:=dd::a1.defers }:Act)=e1:=e0;have ee:L0a ({ a with defers:=dd::a.defers }:Act)=e:=he;rw[U3a (a:={ a1 with defers:=dd::a1.defers }) o undef (by rw[show({ a1 with defers:=dd::a1.defers }:Act).tmps.size=N from i0];exact hN),o0,h3a] at hk;refine hK _ _ (by rw[S6a];exact hs) ⟨undef,by rw[U3a (a:={ a with defers:=dd::a.defers }) o undef (by rw[show({ a with defers:=dd::a.defers }:Act).tmps.size=N from hs];exact hN),ee],?_⟩;rw[h3a];show K1 (dd::a.defers) _ _;rw[hD,←g0];exact hk
    | enter f args =>
      simp only[Oper.uponIn] at h4 ⊢;exact⟨h4.1,CallsIn.mono h4.2 (fun en q0 hh=>by
       cases en
       ·exact c0 _ _ hh.2
       ·exact absurd hh.1 (by simp)
       ·obtain⟨a0,w0,hh⟩:=hh;exact absurd hh.1 (by simp))⟩
    | row r0 args=>simp only[Oper.uponIn] at h4 ⊢;exact⟨h4.1,RowsIn.mono h4.2 (fun _ _ hh=>c0 _ _ hh.2)⟩
    | round l' f tmps f0 body =>
      simp only[Oper.uponIn] at h4 ⊢;exact⟨h4.1,RoundIn.mono h4.2 (fun en q0 hh=>by
       cases en
       ·exact c0 _ _ hh.2
       ·exact absurd hh.1 (by simp)
       ·obtain⟨a0,w0,hh⟩:=hh;exact absurd hh.1 (by simp))⟩
    | _=>simp only[Oper.uponIn] at h4
  | halt x w'=>cases x<;>simp only[Oper.uponIn] at h4 ⊢<;>exact absurd h4.1 (by simp)
 ·rename_i n0;simp only[n0] at h1;exact⟨A0a _ _ _,c0 undef w h1.2.2⟩
theorem c7b{o:Oper}{K1:List Deferred→Env→World→Prop}{e:Env}{w:World}(hN:A0b N o)(hz:∀i,N≤i→e i=undef)
 (h:WL P r N l.toArray [o] K1 D e w):∃D' v w',K1 D' (C8a e o.dst v) w':=by
 unfold WL at h;obtain⟨a1,e0,f0,d0⟩:=e6a e N D hz;have h1:=h a1 (fun ex a' w'=>ex=.normal∧K1 a'.defers (L0a a') w') e0 f0 d0 (fun a' w' _ hk=>⟨Z,hk⟩);have b0:∀(v:Value) (w':World),K1 (a1.put o.dst v).defers (L0a (a1.put o.dst v)) w'→∃D' v w',K1 D' (C8a e o.dst v) w':=by
  intro v w' hk;rw[U3a o v (by rw[e0];exact hN),d0] at hk;exact⟨_,v,w',hk⟩
 simp only[wpListIn] at h1
 split at h1
 ·have h4:=h1.2
  revert h4
  generalize (Oper.semAt (fc r).round a1.eval o).run P w=g0;intro h4;cases g0 with
  | ok x w' =>
    cases x with
    | value v=>simp only[Oper.uponIn] at h4;exact b0 v w' h4.2
    | skip=>simp only[Oper.uponIn] at h4;exact b0 undef w' h4.2
    | defer dd =>
      simp only[Oper.uponIn] at h4;have hk:=h4.2;rw[U3a (a:={ a1 with defers:=dd::a1.defers }) o undef (by rw[show({ a1 with defers:=dd::a1.defers }:Act).tmps.size=N from e0];exact hN),show L0a ({ a1 with defers:=dd::a1.defers }:Act)=e from d0] at hk;exact⟨_,_,_,hk⟩
    | enter f args =>
      simp only[Oper.uponIn] at h4;obtain⟨en,w2,_,hR,_⟩:=h4.2.2 [] (room_wide _);cases en
      ·exact b0 _ _ hR.2
      ·exact absurd hR.1 (by simp)
      ·obtain⟨a0,w0,hh⟩:=hR;exact absurd hh.1 (by simp)
    | row i0 args =>
      simp only[Oper.uponIn] at h4;obtain⟨v,w2,hR,_⟩:=h4.2 default [] (room_wide _);exact b0 _ _ hR.2
    | round l' f tmps c0 body =>
      simp only[Oper.uponIn] at h4;obtain⟨en,w2,hR,_⟩:=h4.2.2 default [] (room_wide _);cases en
      ·exact b0 _ _ hR.2
      ·exact absurd hR.1 (by simp)
      ·obtain⟨a0,w0,hh⟩:=hR;exact absurd hh.1 (by simp)
    | _=>simp only[Oper.uponIn] at h4
  | halt x w'=>cases x<;>simp only[Oper.uponIn] at h4<;>exact absurd h4.1 (by simp)
 ·exact b0 undef w h1.2.2
def WN(P:Program)(r:Option Nat)(N:Nat)(l:List Oper)(C:World→Prop)(pur:Nat→Bool)(K:List Deferred→Env→World→Prop)(D:List Deferred):List Nat→Env→World→Prop
 | [],e,w=>C w∧K D e w
 | i::rest,e,w=>C w∧∃o,l[i]?=some o∧A0b N o ∧
  ((pur i=true∧∃d v,o.dst=some d∧PV P l C o e v∧WN P r N l C pur K D rest (upd e d v) w) ∨
   (pur i=false∧WL P r N l.toArray [o] (fun D' e' w'=>D'=D∧WN P r N l C pur K D rest e' w') D e w))
theorem WN.inC{a0:List Nat}{e:Env}{w:World}(h:WN P r N l C pur K D a0 e w):C w:=by cases a0<;>exact h.1
def N3a(l:List Oper)(pur:Nat→Bool)(j i:Nat):Bool :=
 match l[j]?,l[i]? with
 | some p,some q=>(pur i||pur j)&&(match p.dst,q.dst with
   | some c,some d=>!(c==d)&&!(Oper.looksAt l.toArray p).contains d&&!(Oper.looksAt l.toArray q).contains c
   | some c,none=>pur j&&!(Oper.looksAt l.toArray q).contains c
   | none,some d=>pur i&&!(Oper.looksAt l.toArray p).contains d
   | _,_=>false)
 | _,_=>false
structure K3d (l:List Oper) (pur:Nat→Bool) (j i:Nat) (o1 o2:Oper):Prop where
 pur:pur i=true∨pur j=true
 dst:∀c d,o1.dst=some c→o2.dst=some d→c≠d
 p:∀d,o2.dst=some d→d∉Oper.looksAt l.toArray o1
 q:∀c,o1.dst=some c→c∉Oper.looksAt l.toArray o2
theorem g4a{j i:Nat}{p q:Oper}(h:N3a l pur j i=true)(hj:l[j]?=some p)(hi:l[i]?=some q):K3d l pur j i p q:=by
 unfold N3a at h;simp only[hj,hi,Bool.and_eq_true,Bool.or_eq_true] at h;obtain⟨h1,h2⟩:=h;cases hc:p.dst with
 | none =>
   cases hd:q.dst with
   | none=>simp[hc,hd] at h2
   | some d =>
     simp only[hc,hd,Bool.and_eq_true,Bool.not_eq_true',List.contains_eq_mem,decide_eq_false_iff_not] at h2;exact⟨h1,fun c d h=>(by rw[hc] at h;cases h),fun x hx=>(by rw[hd] at hx;cases hx;exact h2.2),fun c h=>(by rw[hc] at h;cases h)⟩
 | some c =>
   cases hd:q.dst with
   | none =>
     simp only[hc,hd,Bool.and_eq_true,Bool.not_eq_true',List.contains_eq_mem,decide_eq_false_iff_not] at h2;exact⟨h1,fun c d _ h=>(by rw[hd] at h;cases h),fun d h=>(by rw[hd] at h;cases h),fun x hx=>(by rw[hc] at hx;cases hx;exact h2.2)⟩
   | some d =>
     simp only[hc,hd,Bool.and_eq_true,Bool.not_eq_true',beq_eq_false_iff_ne,List.contains_eq_mem,decide_eq_false_iff_not] at h2;exact⟨h1,fun x y hx hy=>(by rw[hc] at hx;rw[hd] at hy;cases hx;cases hy;exact h2.1.1),fun x hx=>(by rw[hd] at hx;cases hx;exact h2.1.2),fun x hx=>(by rw[hc] at hx;cases hx;exact h2.2)⟩
theorem S3a{e:Env}{o:Oper}{u:Value}{s:Nat}{X:List Nat}(hc:∀c,o.dst=some c→c∉X)(hs:s∈X):C8a e o.dst u s=e s:=by
 cases hd:o.dst with
 | none=>rfl
 | some c=>exact g1a (hc c hd) hs
theorem U6a(e:Env){p q:Oper}(u v:Value)(h:∀c d,p.dst=some c→q.dst=some d→c≠d):C8a (C8a e p.dst u) q.dst v=C8a (C8a e q.dst v) p.dst u:=by
 cases hc:p.dst with
 | none=>rfl
 | some c =>
   cases hd:q.dst with
   | none=>rfl
   | some d=>exact e2a e u v (h c d hc hd)
theorem WN.first(a0:X2a l=true){i:Nat}{g0:List Nat}:∀(e0:List Nat) (e:Env) (w:World),(∀j∈e0,N3a l pur j i=true)→(∀i,N≤i→e i=undef)→WN P r N l C pur K D (e0++i::g0) e w →
 ∃o,l[i]?=some o∧A0b N o ∧
  ((pur i=true∧∃d v,o.dst=some d∧PV P l C o e v∧WN P r N l C pur K D (e0++g0) (upd e d v) w) ∨
   (pur i=false∧WL P r N l.toArray [o] (fun D' e' w'=>D'=D∧∃v,e'=C8a e o.dst v∧WN P r N l C pur K D (e0++g0) e' w') D e w)):=by
 intro e0
 induction e0 with
 | nil =>
   intro e w _ hz h;obtain⟨hC,o,ho,hN,h⟩:=h;refine⟨o,ho,hN,?_⟩;rcases h with h|⟨hp,h⟩
   ·exact .inl h
   ·refine .inr ⟨hp,?_⟩;have h2:=c2a (e:=e) (e1:=e) hN (t0a a0 ho).1 (t0a a0 ho).2 hz (fun _ _=>rfl) h;unfold WL at *;exact fun a Q hs hD he hK=>h2 a Q hs hD he (fun a' w' m0 ⟨v,h1,h3,h4⟩=>hK a' w' m0 ⟨h3,v,h1,by rw[h1];exact h4⟩)
 | cons q e0 ih =>
   intro e w i0 hz h;obtain⟨hC,p,hp,d0,h⟩:=h;have hq:=i0 q (by simp);have b0:∀j∈e0,N3a l pur j i=true:=fun j hj=>i0 j (by simp[hj]);rcases h with⟨j0,c,u,hc,hu,h⟩|⟨j0,h⟩
   ·obtain⟨o,ho,hN,h2⟩:=ih (upd e c u) w b0 (v1a (d0 c hc) hz) h;have hI:=g4a hq hp ho;refine⟨o,ho,hN,?_⟩;rcases h2 with⟨f0,d,v,hd,hv,h2⟩|⟨f0,h2⟩
    ·refine .inl ⟨f0,d,v,hd,hv.congr (t0a a0 ho).1 (fun s hs=>g1a (hI.q c hc) hs),hC,p,hp,d0,.inl ⟨j0,c,u,hc,hu.congr (t0a a0 hp).1 (fun s hs=>(g1a (hI.p d hd) hs).symm),?_⟩⟩;rw[←e2a _ _ _ (hI.dst c d hc hd)];exact h2
    ·refine .inr ⟨f0,?_⟩;have h3:=c2a (e:=e) (e1:=upd e c u) hN (t0a a0 ho).1 (t0a a0 ho).2 (v1a (d0 c hc) hz) (fun s hs=>(g1a (hI.q c hc) hs).symm) h2;unfold WL at *;refine fun a Q hs hD he hK=>h3 a Q hs hD he (fun a' w' m0 hh=>hK a' w' m0 ?_);obtain⟨v,h1,h4,_,h5,h6⟩:=hh;refine⟨h4,v,h1,?_⟩;rw[h1];refine⟨h6.inC,p,hp,d0,.inl ⟨j0,c,u,hc,hu.congr (t0a a0 hp).1 (fun s hs=>(S3a hI.p hs).symm),?_⟩⟩;have e1:C8a (upd e c u) o.dst v=upd (C8a e o.dst v) c u:=by
      have:=U6a e (p:=p) (q:=o) u v hI.dst;rw[hc] at this;exact this
     rw[←e1];exact h6
   ·have h0:=c2a (e:=e) (e1:=e) d0 (t0a a0 hp).1 (t0a a0 hp).2 hz (fun _ _=>rfl) h;obtain⟨_,u1,w1,_,r0,_,h1⟩:=c7b d0 hz h0;rw[←r0] at h1;obtain⟨o,ho,hN,h2⟩:=ih (C8a e p.dst u1) w1 b0 (T4a d0 hz) h1;have hI:=g4a hq hp ho;have f0:pur i=true:=by
     rcases hI.pur with h|h
     ·exact h
     ·rw[j0] at h;cases h
    rcases h2 with⟨_,d,v0,hd,s0,_⟩|⟨c0,_⟩
    ·have n0:PV P l C o e v0:=s0.congr (t0a a0 ho).1 (fun s hs=>S3a hI.q hs);refine⟨o,ho,hN,.inl ⟨f0,d,v0,hd,n0,hC,p,hp,d0,.inr ⟨j0,?_⟩⟩⟩;have h3:=c2a (e:=upd e d v0) (e1:=e) d0 (t0a a0 hp).1 (t0a a0 hp).2 hz (fun s hs=>g1a (hI.p d hd) hs) h;unfold WL at *;refine fun a Q hs hD he hK=>h3 a Q hs hD he (fun a' w' m0 hh=>hK a' w' m0 ?_);obtain⟨u,hu,o0,h4⟩:=hh;refine⟨o0,?_⟩;obtain⟨o',q0,_,h5⟩:=ih (C8a e p.dst u) w' b0 (T4a d0 hz) h4;obtain rfl:o'=o:=Option.some.inj (q0.symm.trans ho);rcases h5 with⟨_,d',v,p0,hv,h5⟩|⟨c0,_⟩
     ·obtain rfl:d'=d:=Option.some.inj (p0.symm.trans hd);have hv':PV P l C o' e v:=hv.congr (t0a a0 ho).1 (fun s hs=>S3a hI.q hs);obtain rfl:v=v0:=PV.uniq hC hv' n0;have e1:upd (C8a e p.dst u) d' v=C8a (upd e d' v) p.dst u:=by
       have:=U6a e (p:=p) (q:=o') u v hI.dst;rw[hd] at this;exact this
      rw[hu,←e1];exact h5
     ·rw[f0] at c0;cases c0
    ·rw[f0] at c0;cases c0
def y4c(l:List Oper)(pur:Nat→Bool)(x y:Nat):List Nat→List Nat→Bool
 | _,[]=>true
 | acc,i::rest=>(acc.all fun j=>(L3a l i).contains j||N3a l pur j i||(j==x&&i==y))&&y4c l pur x y (acc++[i]) rest
theorem u1b{x y:Nat}:∀(ix acc:List Nat),y4c l pur x y acc ix=true→∀(b0:List Nat) (i:Nat) (a0:List Nat),ix=b0++i::a0→∀j∈acc++b0,j∈L3a l i∨N3a l pur j i=true∨(j=x∧i=y)
 | [],_,_,b0,i,a0,h=>by simp at h
 | k::ix,acc,h,b0,i,a0,he=>by
   simp only[y4c,Bool.and_eq_true] at h;cases b0 with
   | nil =>
     simp at he;obtain⟨rfl,-⟩:=he;intro j hj;rw[List.append_nil] at hj;have:=List.all_eq_true.1 h.1 j hj;simp only[Bool.or_eq_true,List.contains_eq_mem,decide_eq_true_eq,Bool.and_eq_true,beq_iff_eq] at this;rcases this with(h|h)|h
     ·exact .inl h
     ·exact .inr (.inl h)
     ·exact .inr (.inr h)
   | cons q b0 =>
     simp at he;obtain⟨rfl,he⟩:=he;intro j hj;exact u1b ix (acc++[k]) h.2 b0 i a0 he j (by simpa using hj)
def B9c(ix:List Nat)(f:Nat→Bool):List Nat:=ix.filter fun i=>!f i
theorem q8b{ix:List Nat}(c0:ix.Nodup)(f:Nat→Bool){i:Nat}(hi:i∈ix)(hf:f i=false):∃b0 a0 P Q,ix=P++i::Q∧B9c ix f=b0++i::a0∧B9c ix (fun j=>f j||j==i)=b0++a0∧∀j∈b0,j∈P∧f j=false:=by
 obtain⟨P,Q,rfl⟩:=List.append_of_mem hi;rw[List.nodup_append] at c0;obtain⟨_,h2,h3⟩:=c0;rw[List.nodup_cons] at h2;refine⟨P.filter fun j=>!f j,Q.filter fun j=>!f j,P,Q,Z,?_,?_,?_⟩
 ·unfold B9c;rw[List.filter_append,List.filter_cons];simp[hf]
 ·unfold B9c;rw[List.filter_append,List.filter_cons];simp only[beq_self_eq_true,Bool.or_true,Bool.not_true,Bool.false_eq_true,if_false]
  congr 1
  ·apply List.filter_congr;intro j hj;have:(j==i)=false:=by simp;exact fun e=>h3 j hj i (by simp) e
   simp[this]
  ·apply List.filter_congr;intro j hj;have:(j==i)=false:=by simp;exact fun e=>h2.1 (e▸hj)
   simp[this]
 ·intro j hj;rw[List.mem_filter] at hj;exact⟨hj.1,by simpa using hj.2⟩
def b7b:List Nat→Bool
 | []=>true
 | x::l=>!l.contains x&&b7b l
theorem f4b:∀{l:List Nat},b7b l=true→l.Nodup
 | [],_=>List.nodup_nil
 | x::l,h=>by
   simp only[b7b,Bool.and_eq_true,Bool.not_eq_true',List.contains_eq_mem,decide_eq_false_iff_not] at h;exact List.nodup_cons.2 ⟨h.1,f4b h.2⟩
def p7c(n:Nat)(ix:List Nat):Bool:=b7b ix&&(List.range n).all (fun i=>ix.contains i)&&ix.all (fun i=>decide (i<n))
theorem WN.step{ix:List Nat}{x y:Nat}(f0:X2a l=true)(c0:ix.Nodup)(e0:y4c l pur x y [] ix=true){f:Nat→Bool}(a0:∀i,f i=true→∀j∈V0a l i,f j=true){i:Nat}{o:Oper}(hi:i∈ix)(ho:l[i]?=some o)(b0:f i=false)
 (g0:∀j∈V0a l i,f j=true) (j0:i=y→f x=true) {e:Env} {w:World} (hz:∀i,N≤i→e i=undef) (h:WN P r N l C pur K D (B9c ix f) e w) :
 A0b N o∧((pur i=true∧∃d v,o.dst=some d∧PV P l C o e v∧WN P r N l C pur K D (B9c ix (fun j=>f j||j==i)) (upd e d v) w) ∨
  (pur i=false∧WL P r N l.toArray [o] (fun D' e' w'=>D'=D∧∃v,e'=C8a e o.dst v∧WN P r N l C pur K D (B9c ix (fun j=>f j||j==i)) e' w') D e w)):=by
 obtain⟨m0,_,A,B,h1,h2,h3,h4⟩:=q8b c0 f hi b0;rw[h2] at h;have i0:∀j∈L3a l i,f j=true:=W2a a0 _ _ g0;obtain⟨o',d0,hN,h5⟩:=WN.first f0 m0 e w (fun j hj=>by
  obtain⟨h6,h7⟩:=h4 j hj;rcases u1b ix [] e0 A i B h1 j (by simpa using h6) with h|h|⟨h,h'⟩
  ·have:=i0 j h;rw[h7] at this;cases this
  ·exact h
  ·subst h;have:=j0 h';rw[h7] at this;cases this) hz h
 obtain rfl:o'=o:=Option.some.inj (d0.symm.trans ho);rw[h3];exact⟨hN,h5⟩
variable {e:Env} {w:World}
end
inductive V1a where
 | nil
 | op (i:Nat) (t:V1a)
 | two (a b:V1a)
section
variable {P:Program} {r:Option Nat} {N:Nat} {l:List Oper} {C:World→Prop} {pur:Nat→Bool} {K:List Deferred→Env→World→Prop} {D:List Deferred}
def WT(P:Program)(r:Option Nat)(N:Nat)(l:List Oper)(C:World→Prop)(pur:Nat→Bool)(K:List Deferred→Env→World→Prop)(D:List Deferred):V1a→Env→World→Prop
 | .nil,e,w=>C w∧K D e w
 | .op i t,e,w=>C w∧∃o,l[i]?=some o∧A0b N o ∧
  ((pur i=true∧∃d v,o.dst=some d∧PV P l C o e v∧WT P r N l C pur K D t (upd e d v) w) ∨
   (pur i=false∧WL P r N l.toArray [o] (fun D' e' w'=>D'=D∧WT P r N l C pur K D t e' w') D e w))
 | .two a b,e,w=>WT P r N l C pur K D a e w∧WT P r N l C pur K D b e w
theorem WT.inC:∀{t:V1a} {e:Env} {w:World},WT P r N l C pur K D t e w→C w
 | .nil,_,_,h=>h.1
 | .op _ _,_,_,h=>h.1
 | .two _ _,_,_,h=>WT.inC h.1
def V1a.del(i:Nat):V1a→V1a
 | .nil=>.nil
 | .op j t=>if j=i then t else .op j (t.del i)
 | .two a b=>.two (a.del i) (b.del i)
def frA(l:List Oper)(pur:Nat→Bool)(i:Nat):V1a→Bool
 | .nil=>false
 | .op j t=>j==i||(N3a l pur j i&&frA l pur i t)
 | .two a b=>frA l pur i a&&frA l pur i b
def frO(l:List Oper)(pur:Nat→Bool)(i:Nat):V1a→Bool
 | .nil=>false
 | .op j t=>j==i||(pur j&&N3a l pur j i&&frO l pur i t)
 | .two a b=>frO l pur i a||frO l pur i b
def V1a.sel(l:List Oper)(pur:Nat→Bool)(i:Nat):V1a→V1a
 | .nil=>.nil
 | .op j t=>if j=i then t else .op j (t.sel l pur i)
 | .two a b=>bif frO l pur i a then a.sel l pur i else b.sel l pur i
theorem WT.quiet(a0:X2a l=true){i:Nat}(c0:pur i=true):∀(t:V1a) (e:Env) (w:World),frA l pur i t=true→(∀i,N≤i→e i=undef)→WT P r N l C pur K D t e w →
 ∃o d v,l[i]?=some o∧A0b N o∧o.dst=some d∧PV P l C o e v∧WT P r N l C pur K D (t.del i) (upd e d v) w
 | .nil,_,_,hf,_,_=>by simp[frA] at hf
 | .two a b,e,w,hf,hz,h=>by
   simp only[frA,Bool.and_eq_true] at hf;obtain⟨o,d,v,h1,h2,h3,h4,h5⟩:=WT.quiet a0 c0 a e w hf.1 hz h.1;obtain⟨o',d',v',g1,_,g3,g4,g5⟩:=WT.quiet a0 c0 b e w hf.2 hz h.2;obtain rfl:o'=o:=Option.some.inj (g1.symm.trans h1);obtain rfl:d'=d:=Option.some.inj (g3.symm.trans h3);obtain rfl:v'=v:=PV.uniq h.1.inC g4 h4;exact⟨o',d',v',h1,h2,h3,h4,h5,g5⟩
 | .op j t,e,w,hf,hz,h=>by
   obtain⟨hC,p,hp,b0,h⟩:=h;by_cases f0:j=i
   ·subst f0;rcases h with⟨_,d,v,hd,hv,h⟩|⟨i0,_⟩
    ·exact⟨p,d,v,hp,b0,hd,hv,by simpa[V1a.del] using h⟩
    ·rw[c0] at i0;cases i0
   ·have hq:N3a l pur j i=true∧frA l pur i t=true:=by simpa[frA,f0] using hf
    have e0:(V1a.op j t).del i=.op j (t.del i):=by simp[V1a.del,f0]
    rw[e0];rcases h with⟨g0,c,u,hc,hu,h⟩|⟨g0,h⟩
    ·obtain⟨o,d,v,ho,hN,hd,hv,h2⟩:=WT.quiet a0 c0 t (upd e c u) w hq.2 (v1a (b0 c hc) hz) h;have hI:=g4a hq.1 hp ho;refine⟨o,d,v,ho,hN,hd,hv.congr (t0a a0 ho).1 (fun s hs=>g1a (hI.q c hc) hs),hC,p,hp,b0,.inl ⟨g0,c,u,hc,hu.congr (t0a a0 hp).1 (fun s hs=>(g1a (hI.p d hd) hs).symm),?_⟩⟩;rw[←e2a _ _ _ (hI.dst c d hc hd)];exact h2
    ·have h0:=c2a (e:=e) (e1:=e) b0 (t0a a0 hp).1 (t0a a0 hp).2 hz (fun _ _=>rfl) h;obtain⟨_,u1,w1,_,p0,_,h1⟩:=c7b b0 hz h0;rw[←p0] at h1;obtain⟨o,d,v0,ho,hN,hd,q0,h2⟩:=WT.quiet a0 c0 t (C8a e p.dst u1) w1 hq.2 (T4a b0 hz) h1;have hI:=g4a hq.1 hp ho;have d0:PV P l C o e v0:=q0.congr (t0a a0 ho).1 (fun s hs=>S3a hI.q hs);refine⟨o,d,v0,ho,hN,hd,d0,hC,p,hp,b0,.inr ⟨g0,?_⟩⟩;have h3:=c2a (e:=upd e d v0) (e1:=e) b0 (t0a a0 hp).1 (t0a a0 hp).2 hz (fun s hs=>g1a (hI.p d hd) hs) h;unfold WL at *;refine fun a Q hs hD he hK=>h3 a Q hs hD he (fun a' w' o0 hh=>hK a' w' o0 ?_);obtain⟨u,hu,j0,h4⟩:=hh;refine⟨j0,?_⟩;obtain⟨o',d',v,n0,_,m0,hv,h5⟩:=WT.quiet a0 c0 t (C8a e p.dst u) w' hq.2 (T4a b0 hz) h4;obtain rfl:o'=o:=Option.some.inj (n0.symm.trans ho);obtain rfl:d'=d:=Option.some.inj (m0.symm.trans hd);have hv':PV P l C o' e v:=hv.congr (t0a a0 ho).1 (fun s hs=>S3a hI.q hs);obtain rfl:v=v0:=PV.uniq hC hv' d0;have e1:upd (C8a e p.dst u) d' v=C8a (upd e d' v) p.dst u:=by
      have:=U6a e (p:=p) (q:=o') u v hI.dst;rw[hd] at this;exact this
     rw[hu,←e1];exact h5
theorem WT.loud(a0:X2a l=true){i:Nat}(d0:pur i=false):∀(t:V1a) (e:Env) (w:World),frO l pur i t=true→(∀i,N≤i→e i=undef)→WT P r N l C pur K D t e w →
 ∃o,l[i]?=some o∧A0b N o∧WL P r N l.toArray [o] (fun D' e' w'=>D'=D∧∃v,e'=C8a e o.dst v∧WT P r N l C pur K D (t.sel l pur i) e' w') D e w
 | .nil,_,_,hf,_,_=>by simp[frO] at hf
 | .two a b,e,w,hf,hz,h=>by
   simp only[frO,Bool.or_eq_true] at hf;cases ha:frO l pur i a with
   | true =>
     have:=WT.loud a0 d0 a e w ha hz h.1;simpa[V1a.sel,ha] using this
   | false =>
     have:=WT.loud a0 d0 b e w (hf.resolve_left (by rw[ha];simp)) hz h.2;simpa[V1a.sel,ha] using this
 | .op j t,e,w,hf,hz,h=>by
   obtain⟨_,p,hp,c0,h⟩:=h;by_cases f0:j=i
   ·subst f0;rcases h with⟨i0,_⟩|⟨_,h⟩
    ·rw[d0] at i0;cases i0
    ·refine⟨p,hp,c0,?_⟩;have b0:(V1a.op j t).sel l pur j=t:=by simp[V1a.sel]
     rw[b0];have h2:=c2a (e:=e) (e1:=e) c0 (t0a a0 hp).1 (t0a a0 hp).2 hz (fun _ _=>rfl) h;unfold WL at *;exact fun a Q hs hD he hK=>h2 a Q hs hD he (fun a' w' g0 ⟨v,h1,h3,h4⟩=>hK a' w' g0 ⟨h3,v,h1,by rw[h1];exact h4⟩)
   ·have hq:(pur j=true∧N3a l pur j i=true)∧frO l pur i t=true:=by simpa[frO,f0] using hf
    have b0:(V1a.op j t).sel l pur i=.op j (t.sel l pur i):=by simp[V1a.sel,f0]
    rw[b0];rcases h with⟨e0,c,u,hc,hu,h⟩|⟨e0,_⟩
    ·obtain⟨o,ho,hN,h2⟩:=WT.loud a0 d0 t (upd e c u) w hq.2 (v1a (c0 c hc) hz) h;have hI:=g4a hq.1.2 hp ho;refine⟨o,ho,hN,?_⟩;have h3:=c2a (e:=e) (e1:=upd e c u) hN (t0a a0 ho).1 (t0a a0 ho).2 (v1a (c0 c hc) hz) (fun s hs=>(g1a (hI.q c hc) hs).symm) h2;unfold WL at *;refine fun a Q hs hD he hK=>h3 a Q hs hD he (fun a' w' g0 hh=>hK a' w' g0 ?_);obtain⟨v,h1,h4,_,_,h6⟩:=hh;refine⟨h4,v,h1,?_⟩;rw[h1];refine⟨h6.inC,p,hp,c0,.inl ⟨e0,c,u,hc,hu.congr (t0a a0 hp).1 (fun s hs=>(S3a hI.p hs).symm),?_⟩⟩;have e1:C8a (upd e c u) o.dst v=upd (C8a e o.dst v) c u:=by
      have:=U6a e (p:=p) (q:=o) u v hI.dst;rw[hc] at this;exact this
     rw[←e1];exact h6
    ·rw[hq.1.1] at e0;cases e0
def V1a.paths:V1a→List (List Nat)
 | .nil=>[[]]
 | .op i t=>t.paths.map (i::·)
 | .two a b=>a.paths++b.paths
theorem V1a.paths_ne:∀t:V1a,∃π,π∈t.paths
 | .nil=>⟨[],by simp[V1a.paths]⟩
 | .op i t=>by obtain⟨π,h⟩:=t.paths_ne;exact⟨i::π,List.mem_map.2 ⟨π,h,Z⟩⟩
 | .two a b=>by obtain⟨π,h⟩:=a.paths_ne;exact⟨π,List.mem_append_left _ h⟩
theorem V1a.paths_del{i:Nat}:∀(t:V1a) (ρ:List Nat),ρ∈(t.del i).paths→∃π∈t.paths,ρ=π.erase i
 | .nil,ρ,h=>⟨[],by simp[V1a.paths],by simpa[V1a.del,V1a.paths] using h⟩
 | .two a b,ρ,h=>by
   rcases List.mem_append.1 h with h|h
   ·obtain⟨π,h1,h2⟩:=a.paths_del ρ h;exact⟨π,List.mem_append_left _ h1,h2⟩
   ·obtain⟨π,h1,h2⟩:=b.paths_del ρ h;exact⟨π,List.mem_append_right _ h1,h2⟩
 | .op j t,ρ,h=>by
   by_cases hj:j=i
   ·subst hj;simp only[V1a.del,if_pos] at h;exact⟨j::ρ,List.mem_map.2 ⟨ρ,h,Z⟩,by simp⟩
   ·simp only[V1a.del,if_neg hj,V1a.paths] at h;obtain⟨ρ',h2,rfl⟩:=List.mem_map.1 h;obtain⟨π,h1,rfl⟩:=t.paths_del ρ' h2;exact⟨j::π,List.mem_map.2 ⟨π,h1,Z⟩,by rw[List.erase_cons_tail (by simpa using hj)]⟩
theorem V1a.paths_sel{i:Nat}:∀(t:V1a) (ρ:List Nat),ρ∈(t.sel l pur i).paths→∃π∈t.paths,ρ=π.erase i
 | .nil,ρ,h=>⟨[],by simp[V1a.paths],by simpa[V1a.sel,V1a.paths] using h⟩
 | .two a b,ρ,h=>by
   cases ha:frO l pur i a with
   | true =>
     simp only[V1a.sel,ha,cond_true] at h;obtain⟨π,h1,h2⟩:=a.paths_sel ρ h;exact⟨π,List.mem_append_left _ h1,h2⟩
   | false =>
     simp only[V1a.sel,ha,cond_false] at h;obtain⟨π,h1,h2⟩:=b.paths_sel ρ h;exact⟨π,List.mem_append_right _ h1,h2⟩
 | .op j t,ρ,h=>by
   by_cases hj:j=i
   ·subst hj;simp only[V1a.sel,if_pos] at h;exact⟨j::ρ,List.mem_map.2 ⟨ρ,h,Z⟩,by simp⟩
   ·simp only[V1a.sel,if_neg hj,V1a.paths] at h;obtain⟨ρ',h2,rfl⟩:=List.mem_map.1 h;obtain⟨π,h1,rfl⟩:=t.paths_sel ρ' h2;exact⟨j::π,List.mem_map.2 ⟨π,h1,Z⟩,by rw[List.erase_cons_tail (by simpa using hj)]⟩
def x2d(l:List Oper)(pur:Nat→Bool)(j i:Nat):Bool:=(L3a l i).contains j||N3a l pur j i||(!pur j&&!pur i)
def pwT(l:List Oper)(pur:Nat→Bool):List Nat→Bool
 | []=>true
 | j::π=>π.all (x2d l pur j)&&pwT l pur π
theorem h5c:∀{π:List Nat},pwT l pur π=true→π.Pairwise fun j i=>x2d l pur j i=true
 | [],_=>.nil
 | j::π,h=>by
   simp only[pwT,Bool.and_eq_true,List.all_eq_true] at h;exact .cons h.1 (h5c h.2)
def V1a.nxts(pur:Nat→Bool):V1a→List Nat
 | .nil=>[]
 | .op j t=>bif pur j then t.nxts pur else[j]
 | .two a b=>a.nxts pur++b.nxts pur
def w3b(l:List Oper)(pur:Nat→Bool)(acc:List Nat)(t:V1a):Bool:=(List.range l.length).all fun i=>pur i||acc.contains i||(t.nxts pur).contains i||(L3a l i).any fun j=>!pur j&&!acc.contains j
def i3b(l:List Oper)(pur:Nat→Bool):List Nat→V1a→Bool
 | _,.nil=>true
 | acc,.op j t=>bif pur j then i3b l pur acc t else w3b l pur (j::acc) t&&i3b l pur (j::acc) t
 | acc,.two a b=>i3b l pur acc a&&i3b l pur acc b
def A5c(l:List Oper)(pur:Nat→Bool)(t:V1a):Bool :=
 X2a l&&((List.range l.length).all fun i=>(V0a l i).all fun j=>decide (j<i))&&(t.paths.all fun π=>p7c l.length π&&pwT l pur π)&&w3b l pur [] t&&i3b l pur [] t
theorem z5a{i:Nat}(hi:pur i=true):∀t:V1a,(t.del i).nxts pur=t.nxts pur
 | .nil=>rfl
 | .two a b=>by simp[V1a.del,V1a.nxts,z5a hi a,z5a hi b]
 | .op j t=>by
   by_cases hj:j=i
   ·subst hj;simp[V1a.del,V1a.nxts,hi]
   ·simp only[V1a.del,if_neg hj,V1a.nxts];rw[z5a hi t]
theorem g7a{i:Nat}(hi:pur i=true):∀(t:V1a) (acc:List Nat),i3b l pur acc t=true→i3b l pur acc (t.del i)=true
 | .nil,_,h=>h
 | .two a b,acc,h=>by
   simp only[V1a.del,i3b,Bool.and_eq_true] at h ⊢;exact⟨g7a hi a acc h.1,g7a hi b acc h.2⟩
 | .op j t,acc,h=>by
   by_cases hj:j=i
   ·subst hj;simpa[V1a.del,i3b,hi] using h
   ·simp only[V1a.del,if_neg hj,i3b] at h ⊢;cases hp:pur j with
    | true=>rw[hp] at h;exact g7a hi t acc h
    | false =>
      rw[hp] at h;simp only[cond_false,Bool.and_eq_true] at h ⊢;exact⟨by have:=h.1;unfold w3b at this ⊢;rw[z5a hi t];exact this,g7a hi t _ h.2⟩
theorem X8a{i:Nat}(hi:pur i=false):∀(t:V1a) (acc:List Nat),frO l pur i t=true→i3b l pur acc t=true→w3b l pur (i::acc) (t.sel l pur i)=true∧i3b l pur (i::acc) (t.sel l pur i)=true
 | .nil,_,hf,_=>by simp[frO] at hf
 | .two a b,acc,hf,h=>by
   simp only[frO,Bool.or_eq_true] at hf;simp only[i3b,Bool.and_eq_true] at h;cases ha:frO l pur i a with
   | true=>simp only[V1a.sel,ha,cond_true];exact X8a hi a acc ha h.1
   | false=>simp only[V1a.sel,ha,cond_false];exact X8a hi b acc (hf.resolve_left (by rw[ha];simp)) h.2
 | .op j t,acc,hf,h=>by
   by_cases hj:j=i
   ·subst hj;simp only[V1a.sel,if_pos,i3b,hi,cond_false,Bool.and_eq_true] at h ⊢;exact h
   ·have hq:(pur j=true∧N3a l pur j i=true)∧frO l pur i t=true:=by simpa[frO,hj] using hf
    simp only[i3b,hq.1.1,cond_true] at h;have:=X8a hi t acc hq.2 h;simp only[V1a.sel,if_neg hj,i3b,hq.1.1,cond_true];refine⟨?_,this.2⟩;have h1:=this.1;unfold w3b at h1 ⊢;simpa[V1a.nxts,hq.1.1] using h1
theorem i2b{i:Nat}:∀t:V1a,(∀π∈t.paths,i∈π∧∀A B,π=A++i::B→i∉A→∀j∈A,N3a l pur j i=true)→frA l pur i t=true
 | .nil,h=>by have:=(h [] (by simp[V1a.paths])).1;cases this
 | .two a b,h=>by
   simp only[frA,Bool.and_eq_true];exact⟨i2b a fun π hπ=>h π (List.mem_append_left _ hπ),i2b b fun π hπ=>h π (List.mem_append_right _ hπ)⟩
 | .op j t,h=>by
   by_cases hj:j=i
   ·simp[frA,hj]
   ·have a0:∀π∈t.paths,i∈π:=fun π hπ=>by
     have:=(h (j::π) (List.mem_map.2 ⟨π,hπ,Z⟩)).1;rcases List.mem_cons.1 this with h|h
     ·exact absurd h.symm hj
     ·exact h
    have hq:N3a l pur j i=true:=by
     obtain⟨π,hπ⟩:=t.paths_ne;obtain⟨A,B,he,hA⟩:=List.eq_append_cons_of_mem (a0 π hπ);exact(h (j::π) (List.mem_map.2 ⟨π,hπ,Z⟩)).2 (j::A) B (by rw[he];rfl) (by simp[hA];exact fun e=>hj e.symm) j (by simp)
    simp only[frA,Bool.or_eq_true,Bool.and_eq_true];refine .inr ⟨hq,i2b t fun π hπ=>⟨a0 π hπ,fun A B he hA k hk=>?_⟩⟩;exact(h (j::π) (List.mem_map.2 ⟨π,hπ,Z⟩)).2 (j::A) B (by rw[he];rfl) (by simp[hA];exact fun e=>hj e.symm) k (by simp[hk])
theorem O2b{i:Nat}(hi:pur i=false):∀t:V1a,i∈t.nxts pur→(∀π∈t.paths,∀A B,π=A++i::B→∀j∈A,pur j=true→N3a l pur j i=true)→frO l pur i t=true∧∃π∈t.paths,i∈π
 | .nil,hn,_=>by simp[V1a.nxts] at hn
 | .two a b,hn,h=>by
   rcases List.mem_append.1 hn with hn|hn
   ·obtain⟨h1,π,h2,h3⟩:=O2b hi a hn fun π hπ=>h π (List.mem_append_left _ hπ);exact⟨by simp[frO,h1],π,List.mem_append_left _ h2,h3⟩
   ·obtain⟨h1,π,h2,h3⟩:=O2b hi b hn fun π hπ=>h π (List.mem_append_right _ hπ);exact⟨by simp[frO,h1],π,List.mem_append_right _ h2,h3⟩
 | .op j t,hn,h=>by
   cases hp:pur j with
   | false =>
     have:i=j:=by simpa[V1a.nxts,hp] using hn
     subst this;obtain⟨π,hπ⟩:=t.paths_ne;exact⟨by simp[frO],i::π,List.mem_map.2 ⟨π,hπ,Z⟩,by simp⟩
   | true =>
     obtain⟨h1,π,h2,h3⟩:=O2b hi t (by simpa[V1a.nxts,hp] using hn) fun π hπ A B he k hk a0=>h (j::π) (List.mem_map.2 ⟨π,hπ,Z⟩) (j::A) B (by rw[he];rfl) k (by simp[hk]) a0;obtain⟨A,B,he⟩:=List.append_of_mem h3;have hq:=h (j::π) (List.mem_map.2 ⟨π,h2,Z⟩) (j::A) B (by rw[he];rfl) j (by simp) hp;exact⟨by simp[frO,hp,hq,h1],j::π,List.mem_map.2 ⟨π,h2,Z⟩,by simp[h3]⟩
theorem WT.done:∀{t:V1a} {e:Env} {w:World},(∀π∈t.paths,π=[])→WT P r N l C pur K D t e w→K D e w
 | .nil,_,_,_,h=>h.2
 | .op i t,_,_,hp,_=>by
   obtain⟨π,hπ⟩:=t.paths_ne;have:=hp (i::π) (List.mem_map.2 ⟨π,hπ,Z⟩);cases this
 | .two a b,_,_,hp,h=>WT.done (fun π hπ=>hp π (List.mem_append_left _ hπ)) h.1
structure b5c (l:List Oper) (pur:Nat→Bool) (t:V1a) (f:Nat→Bool) (acc:List Nat):Prop where
 nd:∀π∈t.paths,π.Nodup
 full:∀π∈t.paths,∀i,i∈π↔(i<l.length∧f i=false)
 ord:∀π∈t.paths,π.Pairwise fun j i=>x2d l pur j i=true
 here_:w3b l pur acc t=true
 sub:i3b l pur acc t=true
 got:∀i,i∈acc→f i=true
 out:∀i,pur i=false→f i=true→i∈acc
theorem b5c.ahead{t:V1a}{f:Nat→Bool}{acc:List Nat}(h:b5c l pur t f acc)(a0:∀i,f i=true→∀j∈V0a l i,f j=true){i:Nat}(b0:∀j∈V0a l i,f j=true){π:List Nat}(hπ:π∈t.paths){A B:List Nat}(he:π=A++i::B){j:Nat}(hj:j∈A)(hq:pur j=true∨pur i=true):N3a l pur j i=true:=by
 have h1:=h.ord π hπ;rw[he,List.pairwise_append] at h1;have h2:=h1.2.2 j hj i (by simp);have h3:=(h.full π hπ j).1 (by rw[he];simp[hj]);unfold x2d at h2;simp only[Bool.or_eq_true,List.contains_eq_mem,decide_eq_true_eq,Bool.and_eq_true,Bool.not_eq_true'] at h2;rcases h2 with(h2|h2)|h2
 ·have:=W2a a0 _ _ b0 j h2;rw[h3.2] at this;cases this
 ·exact h2
 ·rcases hq with hq|hq
  ·rw[hq] at h2;cases h2.1
  ·rw[hq] at h2;cases h2.2
theorem b5c.erase{t t':V1a}{f:Nat→Bool}{acc a0:List Nat}{i:Nat}(h:b5c l pur t f acc)(hp:∀ρ∈t'.paths,∃π∈t.paths,ρ=π.erase i)(h1:w3b l pur a0 t'=true)(h2:i3b l pur a0 t'=true)(h3:∀j,j∈a0→j∈acc∨j=i)(h4:∀j,j∈acc∨(j=i∧pur i=false)→j∈a0):b5c l pur t' (fun j=>f j||j==i) a0 where
 nd ρ hρ:=by obtain⟨π,hπ,rfl⟩:=hp ρ hρ;exact(h.nd π hπ).erase i
 full ρ hρ j:=by
  obtain⟨π,hπ,rfl⟩:=hp ρ hρ;rw[(h.nd π hπ).mem_erase_iff,h.full π hπ j];simp only[Bool.or_eq_false_iff,beq_eq_false_iff_ne];exact⟨fun z=>⟨z.2.1,z.2.2,z.1⟩,fun z=>⟨z.2.2,z.1,z.2.1⟩⟩
 ord ρ hρ:=by obtain⟨π,hπ,rfl⟩:=hp ρ hρ;exact(h.ord π hπ).sublist List.erase_sublist
 here_:=h1
 sub:=h2
 got j hj:=by
  rcases h3 j hj with z|rfl
  ·simp[h.got j z]
  ·simp
 out j hj hf:=by
  simp only[Bool.or_eq_true,beq_iff_eq] at hf;rcases hf with z|rfl
  ·exact h4 j (.inl (h.out j hj z))
  ·exact h4 j (.inr ⟨Z,hj⟩)
theorem C2c{id:Nat}{n t:List Deferred→Env→World→Prop}{b:Nat→List Deferred→Env→World→Prop}{e:Env}{w:World}(hm:P.follows .mixedOrders=true)(pur:Nat→Bool)(T:V1a)(C:World→Prop)
 (hW:WT P r N l C pur n D T e w.drew) (m0:A5c l pur T=true:=by kernel_rfl):W P r N (.region id l.toArray true) ⟨n,b,t⟩ D e w:=by
 unfold A5c at m0;simp only[Bool.and_eq_true] at m0;obtain⟨⟨⟨⟨n0,u0⟩,y0⟩,v0⟩,B0⟩:=m0;have a0:=fun π (hπ:π∈T.paths)=>List.all_eq_true.1 y0 π hπ;have hz:(∀i,N≤i→e i=undef)→W P r N (.region id l.toArray true) ⟨n,b,t⟩ D e w:=by
  intro hz;refine T3c hm u0 (fun f e w=>(∀i,N≤i→e i=undef)∧(∀i,f i=true→∀j∈V0a l i,f j=true)∧∃t acc,b5c l pur t f acc∧WT P r N l C pur n D t e w) ⟨hz,by simp,T,[],⟨fun π hπ=>?_,fun π hπ i=>?_,fun π hπ=>?_,v0,B0,by simp,by simp⟩,hW⟩ ?_ ?_
  ·have:=a0 π hπ;unfold p7c at this;simp only[Bool.and_eq_true] at this;exact f4b this.1.1.1
  ·have:=a0 π hπ;unfold p7c at this;simp only[Bool.and_eq_true] at this;refine⟨fun h=>⟨by simpa using List.all_eq_true.1 this.1.2 i h,Z⟩,fun h=>by simpa using List.all_eq_true.1 this.1.1.2 i (List.mem_range.2 h.1)⟩
  ·have:=a0 π hπ;simp only[Bool.and_eq_true] at this;exact h5c this.2
  ·rintro f e w i o ⟨hz,e0,t,acc,hA,hT⟩ ho q0 g0;have r0:i<l.length:=(List.getElem?_eq_some_iff.1 ho).1;have c0:∀k,(f k||k==i)=true→∀j∈V0a l k,(f j||j==i)=true:=by
    intro k hk j hj;simp only[Bool.or_eq_true,beq_iff_eq] at hk ⊢;rcases hk with hk|rfl
    ·exact .inl (e0 k hk j hj)
    ·exact .inl (g0 j hj)
   cases b0:pur i with
   | true =>
     have f0:frA l pur i t=true:=i2b t fun π hπ=>⟨(hA.full π hπ i).2 ⟨r0,q0⟩,fun A B he _ j hj=>hA.ahead e0 g0 hπ he hj (.inr b0)⟩
     obtain⟨o',d,v,j0,hN,hd,hv,h5⟩:=WT.quiet n0 b0 t e w f0 hz hT;obtain rfl:o'=o:=Option.some.inj (j0.symm.trans ho);have d0:b5c l pur (t.del i) (fun j=>f j||j==i) acc:=hA.erase (V1a.paths_del t) (by have:=hA.here_;unfold w3b at this ⊢;rw[z5a b0 t];exact this) (g7a b0 t acc hA.sub) (fun j hj=>.inl hj) (fun j hj=>hj.elim (fun z=>z) (fun z=>by rw[b0] at z;cases z.2));have s0:=hT.inC;rcases hv with⟨p0,hv⟩|⟨p0,rfl⟩
     ·unfold WL;intro a Q hs hD he hK;simp only[wpListIn];have o0:Region.wanted o' (yielded l.toArray a.tmps)=true:=by rw[h1a,he];exact p0
      simp only[o0,if_true];refine⟨A0a _ _ _,?_⟩;rw[Oper.semAt_eq _ _ _ (t0a n0 ho).2,h2a,he,hv w s0,Oper.uponIn_value];refine hK _ _ (by rw[S6a,hs]) ⟨by rw[h3a,hD],?_⟩;rw[hd,S0a v (by rw[hs];exact hN d hd),he];exact⟨v1a (hN d hd) hz,c0,_,_,d0,h5⟩
     ·unfold WL;intro a Q hs hD he hK;simp only[wpListIn];have o0:Region.wanted o' (yielded l.toArray a.tmps)=false:=by rw[h1a,he];exact p0
      simp only[o0];refine⟨A0a _ _ _,?_⟩;refine hK _ _ (by rw[S6a,hs]) ⟨by rw[h3a,hD],?_⟩;rw[hd,S0a undef (by rw[hs];exact hN d hd),he];exact⟨v1a (hN d hd) hz,c0,_,_,d0,h5⟩
   | false =>
     have x0:i∈t.nxts pur:=by
      have h1:=List.all_eq_true.1 hA.here_ i (List.mem_range.2 r0);simp only[Bool.or_eq_true,b0,Bool.false_eq_true,false_or,List.contains_eq_mem,decide_eq_true_eq,List.any_eq_true,Bool.and_eq_true,Bool.not_eq_true',decide_eq_false_iff_not] at h1;rcases h1 with(h1|h1)|⟨j,h1,h2,h3⟩
      ·have:=hA.got i h1;rw[q0] at this;cases this
      ·exact h1
      ·exact absurd (hA.out j h2 (W2a e0 _ _ g0 j h1)) h3
     obtain⟨f0,-⟩:=O2b (l:=l) b0 t x0 fun π hπ A B he j hj z0=>hA.ahead e0 g0 hπ he hj (.inl z0);obtain⟨o',j0,hN,h5⟩:=WT.loud n0 b0 t e w f0 hz hT;obtain rfl:o'=o:=Option.some.inj (j0.symm.trans ho);have h6:=X8a b0 t acc f0 hA.sub;have d0:b5c l pur (t.sel l pur i) (fun j=>f j||j==i) (i::acc):=hA.erase (V1a.paths_sel t) h6.1 h6.2 (fun j hj=>by rcases List.mem_cons.1 hj with h|h;exact .inr h;exact .inl h) (fun j hj=>by rcases hj with h|h;simp[h];simp[h.1]);unfold WL at *;refine fun a Q hs hD he hK=>h5 a Q hs hD he (fun a' w' A0 hh=>hK a' w' A0 ?_);obtain⟨t0,v,hv,h7⟩:=hh;exact⟨t0,by rw[hv];exact T4a hN hz,c0,_,_,d0,h7⟩
  ·rintro f e w ⟨_,_,t,acc,hA,hT⟩ i0;refine WT.done (fun π hπ=>?_) hT;rw[List.eq_nil_iff_forall_not_mem];intro i hi;have:=(hA.full π hπ i).1 hi;rw[i0 i this.1] at this;cases this.2
 unfold W at *;intro a hs hd he;refine hz (fun i hi=>?_) a hs hd he;rw[←he];simp only[L0a,Array.getD_eq_getD_getElem?];rw[Array.getElem?_eq_none (by omega)];rfl
variable {e:Env} {w:World}
theorem R0b(hC:C w)(h:K D e w):WT P r N l C pur K D .nil e w:=⟨hC,h⟩
theorem o9b{a b:V1a}(h1:WT P r N l C pur K D a e w)(h2:WT P r N l C pur K D b e w):WT P r N l C pur K D (.two a b) e w:=⟨h1,h2⟩
theorem P1a{i:Nat}{t:V1a}{o:Oper}(hC:C w)(ho:l[i]?=some o)(hp:pur i=true)(hv:R2c o.op=true)(h:QL P N l.toArray C [o] (fun e'=>WT P r N l C pur K D t e' w) e):WT P r N l C pur K D (.op i t) e w:=by
 unfold QL at h;obtain⟨pa,hl,hq,hk⟩:=h;obtain⟨d,v,h1,h2,h3,h4⟩:=hq 0 o Z;obtain rfl:pa=[(d,v)]:=by
  match pa,hl,h1 with
  | [x],_,h1=>simpa using h1
 refine⟨hC,o,ho,fun d' a0=>by rw[h2] at a0;cases a0;exact h3,.inl ⟨hp,d,v,h2,?_,hk⟩⟩;rcases h4 with⟨h5,h6⟩|h5
 ·refine .inl ⟨h5,fun w hw=>?_⟩;rcases h6 w hw with h7|⟨f,args,h7,_⟩
  ·exact h7
  ·obtain⟨_,hv'⟩:=y6a hv h7;cases hv'
 ·exact .inr h5
theorem p5a{i:Nat}{t:V1a}{o:Oper}(hC:C w)(ho:l[i]?=some o)(hp:pur i=false)(hN:(o.dst.all fun d=>Nat.ble (d+1) N)=true)
 (h:WL P r N l.toArray [o] (fun D' e' w'=>D'=D∧WT P r N l C pur K D t e' w') D e w):WT P r N l C pur K D (.op i t) e w :=
 ⟨hC,o,ho,fun d hd=>by rw[hd] at hN;exact Nat.le_of_ble_eq_true (by simpa using hN),.inr ⟨hp,h⟩⟩
end
abbrev clE{M:List Nat}{w0 w:World}{L:List Ent}(_:St M w0 w L)(k:Nat)(K:List Nat):World→Prop:=fun w1=>St M w0 w1 (L.eraseIdx k)∧u0a K w w1
abbrev Y3d{M:List Nat}{w0 w:World}{L:List Ent}(_:St M w0 w L)(k j:Nat)(K:List Nat):World→Prop:=fun w1=>St M w0 w1 ((L.eraseIdx k).eraseIdx j)∧u0a K w w1
theorem St.er{M:List Nat}{w0 w:World}{L:List Ent}(S:St M w0 w L)(k:Nat):St M w0 w (L.eraseIdx k):=S.sublist (List.eraseIdx_sublist L k)
section
variable {P:Program} {r:Option Nat} {N:Nat} {D:List Deferred} {e:Env} {w:World}
theorem I8c{l p N:Nat}{rc:Loop}{x:Value}{a0 body:Code}{R:Value→World→Prop}(hl:w.heap[l]?=some (.loop rc))(hr:rc.state=.ready)(hN:rc.tmps.size=N)(f0:L0a { tmps:=rc.tmps,defers:=[] }=e)(b0:rc.params=#[p])(d0:rc.assign=a0)(e0:rc.body=body)(hp:Nat.ble (p+1) N=true)
 (h:W P (some l) N a0 ⟨fun D e w1=>w1.heap[l]?=some (.loop rc) ∧
   W P (some l) N body ⟨fun _ _ w3=>H4a l none R w3,fun id _ _ w3=>H4a l (some (.exit id)) R w3,fun _ _ w3=>H4a l (some .ret) R w3⟩ D e (w1.putObj l (.loop { rc with state:=.busy })),
   fun _ _ _ _=>False,fun _ _ _=>False⟩ [] (upd e p x) w):Yld P l #[x] w R:=by
 subst f0 d0 e0;have i0:=Nat.le_of_ble_eq_true hp;refine⟨rc,hl,by simp[b0],?_⟩;have hz:(rc.params.zip #[x]).foldl (fun tmps (t,a)=>tmps.setIfInBounds t a) rc.tmps=rc.tmps.setIfInBounds p x:=by rw[b0];simp
 rw[hz];refine roundIn_of_wpIn (F:=Fence.wide) trivial ?_;unfold W at h;have he:L0a { tmps:=rc.tmps.setIfInBounds p x,defers:=[] }=upd (L0a { tmps:=rc.tmps,defers:=[] }) p x:=by
  have h1:=S0a (a:={ tmps:=rc.tmps,defers:=[] }) (d:=p) x (by simp;omega);simp only[Act.put] at h1;rw[←h1]
 refine wpIn_mono (h { tmps:=rc.tmps.setIfInBounds p x,defers:=[] } (by simp[hN]) Z he) fun ex a w1 hq=>?_;cases ex with
 | normal =>
   obtain⟨hs,g0,hb⟩:=hq;refine⟨_,run_beginRound g0 hr,wpIn_mono (hb a hs Z Z) fun ex a w3 hq=>?_⟩;cases ex with
   | normal=>obtain⟨_,c0,h3,hR⟩:=hq;exact⟨_,_,run_endRound none h3,_,Z,hR⟩
   | ret=>obtain⟨_,c0,h3,hR⟩:=hq;exact⟨_,_,run_endRound (some .ret) h3,_,Z,hR⟩
   | exit id=>obtain⟨_,c0,h3,hR⟩:=hq;exact⟨_,_,run_endRound (some (.exit id)) h3,_,Z,hR⟩
   | goto l=>exact hq.elim
   | panic c=>exact hq.elim
   | outgrown=>exact hq.elim
 | exit id=>exact hq.2
 | ret=>exact hq.2
 | goto l=>exact hq.elim
 | panic c=>exact hq.elim
 | outgrown=>exact hq.elim
end
end Go.Fw
