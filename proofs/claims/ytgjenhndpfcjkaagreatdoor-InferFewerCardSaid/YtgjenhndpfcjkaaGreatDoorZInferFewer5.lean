/-
  Part 5 of 9 of the proof of InferFewer: what it leans on. No conditions.
-/
import Derived.Test.YtgjenhndpfcjkaaGreatDoorZInferFewer4
set_option maxRecDepth 100000
set_option maxHeartbeats 4000000
namespace Go.Proofs.YtgjenhndpfcjkaaGreatDoor
end Go.Proofs.YtgjenhndpfcjkaaGreatDoor
namespace Go.Fw
open Go.Proofs.YtgjenhndpfcjkaaGreatDoor Go.Proofs Go.RowKit Go.Maps Tryz
theorem m2c(n t a b:E)(M:List Nat)(w0:World)(cs:List Value)(hM:∀g∈M,g<w0.heap.size)(hR:RdE M w0 n cs)(hk:n.kids=[t,a,b])(n1:t.op=4→∃x,t.kids=[x]):
 O0a prog 158 #[.agg cs.toArray] w0 fun v w'=>(∃cs:List Value,v=.agg cs.toArray∧RdE M w' (U6a n t a b) cs)∧Below w0.heap.size w0 w':=by
 obtain⟨_,m,c,rfl,_,_,_,hn,_⟩:=hR.open_;obtain⟨ba,oa,_,rfl,_,R1,Y0⟩:=hR.kidC 0 (a:=t) (by rw[hk];rfl);obtain⟨_,_,_,N1,-,P1,W0⟩:=hR.kidC 1 (a:=a) (by rw[hk];rfl);cases N1;obtain⟨_,_,_,O1,-,Q1,X0⟩:=hR.kidC 2 (a:=b) (by rw[hk];rfl);cases O1;obtain⟨At,nt,qt,rfl,-⟩:=Y0.open_;obtain⟨Aa,na,qa,rfl,-⟩:=W0.open_;obtain⟨Ab,nb,qb,rfl,-⟩:=X0.open_;have T1:m=3:=by rw[hn,hk];rfl
 subst T1;have S:=St.refl w0;refine a0a func158 Z ntmps158 Z ?_;refine wO0 Z U (q0a S Z ?_);intro g1 w1 S1 X1 G1;refine h0a S1 r1a Z Z ?_;intro g2 w2 S2 X2 G2;refine lCn 2 S2.k [] Z U (wX (fun D ε w=>D=[]∧∃g1:Nat,∃g2:Nat,∃g3:Nat,∃g4:Nat,∃g5:Nat,St [] w0 w [(some g5,38,[.int .i64 b.op,.int .i64 b.w,.int .i64 b.n,.slice Ab nb qb]),(some g4,38,[.int .i64 a.op,.int .i64 a.w,.int .i64 a.n,.slice Aa na qa]),(some g3,38,[.int .i64 t.op,.int .i64 t.w,.int .i64 t.n,.slice At nt qt]),(some g2,38,[.int .i64 0,.int .i64 0,.int .i64 0,.slice none 0 0]),(some g1,38,[.int .i64 n.op,.int .i64 n.w,.int .i64 n.n,.slice (some ⟨ba,oa,none⟩) 3 c])]∧Sl ε [(1,.pointer (some ⟨g1,0,none⟩)),(2,.pointer (some ⟨g2,0,none⟩)),(3,.pointer (some ⟨g3,0,none⟩)),(4,.pointer (some ⟨g4,0,none⟩)),(5,.pointer (some ⟨g5,0,none⟩))]) ?_ ?_)
 ·refine B1b c0a (fun i=>[0,1,2,3,4,5,6,7,8,9,10,11].contains i) (.op 0 (.op 1 (.op 2 (.op 3 (.op 4 (.op 5 (.op 6 (.op 7 (.op 8 (.op 9 (.op 10 (.op 11 (.two (.op 12 (.two (.op 13 (.op 14 (.op 15 (.op 16 (.op 17 .nil))))) (.op 14 (.op 13 (.op 15 (.op 16 (.op 17 .nil))))))) (.two (.op 13 (.two (.op 12 (.op 14 (.op 15 (.op 16 (.op 17 .nil))))) (.op 14 (.op 12 (.op 15 (.op 16 (.op 17 .nil))))))) (.op 14 (.two (.op 12 (.op 13 (.op 15 (.op 16 (.op 17 .nil))))) (.op 13 (.op 12 (.op 15 (.op 16 (.op 17 .nil))))))))))))))))))))) (d9c S2) ?_;have O0:=S2.drew;have F0:z0a [] w2 w2.drew:=B2a _ _;generalize w2.drew=Z1 at O0 F0 ⊢;refine J1a ⟨O0,F0⟩ Z Z Z ?_;refine K0a V9a Z Z ?_;refine n0a ?_;refine J1a ⟨O0,F0⟩ Z Z Z ?_;refine m0a n1a Z (fun w1 hw=>by exact hw.1.cell 1 Z Z) Z ?_;refine n0a ?_;refine J1a ⟨O0,F0⟩ Z Z Z ?_;refine s0a Q0a.slT Z (by rfl) Z Z ?_;refine n0a ?_;refine J1a ⟨O0,F0⟩ Z Z Z ?_;refine y1a k0a Z (fun w1 hw=>(fun j v hj=>hw.1.old (R1 j v hj))) (by rfl) Z ?_;refine n0a ?_;refine J1a ⟨O0,F0⟩ Z Z Z ?_;refine K0a V9a Z Z ?_;refine n0a ?_;refine J1a ⟨O0,F0⟩ Z Z Z ?_;refine m0a n1a Z (fun w1 hw=>by exact hw.1.cell 1 Z Z) Z ?_;refine n0a ?_;refine J1a ⟨O0,F0⟩ Z Z Z ?_;refine s0a Q0a.slT Z (by rfl) Z Z ?_;refine n0a ?_;refine J1a ⟨O0,F0⟩ Z Z Z ?_;refine y1a k0a Z (fun w1 hw=>(fun j v hj=>hw.1.old (P1 j v hj))) (by rfl) Z ?_;refine n0a ?_;refine J1a ⟨O0,F0⟩ Z Z Z ?_;refine K0a V9a Z Z ?_;refine n0a ?_;refine J1a ⟨O0,F0⟩ Z Z Z ?_;refine m0a n1a Z (fun w1 hw=>by exact hw.1.cell 1 Z Z) Z ?_;refine n0a ?_;refine J1a ⟨O0,F0⟩ Z Z Z ?_;refine s0a Q0a.slT Z (by rfl) Z Z ?_;refine n0a ?_;refine J1a ⟨O0,F0⟩ Z Z Z ?_;refine y1a k0a Z (fun w1 hw=>(fun j v hj=>hw.1.old (Q1 j v hj))) (by rfl) Z ?_;refine n0a ?_;refine v6a ?_ ?_
  ·refine H2a ⟨O0,F0⟩ Z Z Z ?_;refine h0a O0 r1a Z Z ?_;intro g3 w3 S3 X3 G3;have n0:=F0.trans X3;refine A0a ⟨Z,?_⟩;refine v6a ?_ ?_
   ·refine H2a ⟨S3.tail,n0⟩ Z Z Z ?_;refine h0a S3 r1a Z Z ?_;intro g4 w4 S4 X4 G4;have o0:=n0.trans X4;refine A0a ⟨Z,?_⟩;refine H2a ⟨S4.tail.tail,o0⟩ Z Z Z ?_;refine h0a S4 r1a Z Z ?_;intro g5 w5 S5 X5 G5;have p0:=o0.trans X5;refine A0a ⟨Z,?_⟩;refine H2a ⟨S5.tail.tail.tail,p0⟩ Z Z Z ?_;refine b0a (kk:=2) (vs:=[_,_,_,_]) S5 v0a Z Z Z Z Z Z Z ?_;intro R0 b0 q0;dsimp only[d0a,List.set] at b0;have t0:=p0.freshL q0 (fun g hg=>.inl (by rw[List.mem_singleton.1 hg];exact Nat.le_trans F0.size G3));refine A0a ⟨Z,?_⟩;refine H2a ⟨b0.tail.tail.tail,t0⟩ Z Z Z ?_;refine b0a (kk:=1) (vs:=[_,_,_,_]) b0 v0a Z Z Z Z Z Z Z ?_;intro S0 c0 r0;dsimp only[d0a,List.set] at c0;have u0:=t0.freshL r0 (fun g hg=>.inl (by rw[List.mem_singleton.1 hg];exact Nat.le_trans n0.size G4));refine A0a ⟨Z,?_⟩;refine H2a ⟨c0.tail.tail.tail,u0⟩ Z Z Z ?_;refine b0a (kk:=0) (vs:=[_,_,_,_]) c0 v0a Z Z Z Z Z Z Z ?_;intro T0 d0 s0;dsimp only[d0a,List.set] at d0;have I0:=u0.freshL s0 (fun g hg=>.inl (by rw[List.mem_singleton.1 hg];exact Nat.le_trans o0.size G5));refine A0a ⟨Z,?_⟩;refine t3a ⟨d0.tail.tail.tail,I0⟩ ?_;refine fP0 Z U ⟨Z,(g1),(g2),(g3),(g4),(g5),(d0.perm (by exact .refl _)),Z⟩
   refine H2a ⟨S3.tail,n0⟩ Z Z Z ?_;refine h0a S3 r1a Z Z ?_;intro g5 w5 S5 X5 G5;have p0:=n0.trans X5;refine A0a ⟨Z,?_⟩;refine H2a ⟨S5.tail.tail,p0⟩ Z Z Z ?_;refine h0a S5 r1a Z Z ?_;intro g4 w4 S4 X4 G4;have o0:=p0.trans X4;refine A0a ⟨Z,?_⟩;refine H2a ⟨S4.tail.tail.tail,o0⟩ Z Z Z ?_;refine b0a (kk:=2) (vs:=[_,_,_,_]) S4 v0a Z Z Z Z Z Z Z ?_;intro R0 b0 q0;dsimp only[d0a,List.set] at b0;have t0:=o0.freshL q0 (fun g hg=>.inl (by rw[List.mem_singleton.1 hg];exact Nat.le_trans F0.size G3));refine A0a ⟨Z,?_⟩;refine H2a ⟨b0.tail.tail.tail,t0⟩ Z Z Z ?_;refine b0a (kk:=0) (vs:=[_,_,_,_]) b0 v0a Z Z Z Z Z Z Z ?_;intro S0 c0 r0;dsimp only[d0a,List.set] at c0;have u0:=t0.freshL r0 (fun g hg=>.inl (by rw[List.mem_singleton.1 hg];exact Nat.le_trans p0.size G4));refine A0a ⟨Z,?_⟩;refine H2a ⟨c0.tail.tail.tail,u0⟩ Z Z Z ?_;refine b0a (kk:=1) (vs:=[_,_,_,_]) c0 v0a Z Z Z Z Z Z Z ?_;intro T0 d0 s0;dsimp only[d0a,List.set] at d0;have I0:=u0.freshL s0 (fun g hg=>.inl (by rw[List.mem_singleton.1 hg];exact Nat.le_trans n0.size G5));refine A0a ⟨Z,?_⟩;refine t3a ⟨d0.tail.tail.tail,I0⟩ ?_;refine fP0 Z U ⟨Z,(g1),(g2),(g3),(g4),(g5),(d0.perm (by exact .swap _ _ _)),Z⟩
  refine v6a ?_ ?_
  ·refine H2a ⟨O0,F0⟩ Z Z Z ?_;refine h0a O0 r1a Z Z ?_;intro g4 w4 S4 X4 G4;have o0:=F0.trans X4;refine A0a ⟨Z,?_⟩;refine v6a ?_ ?_
   ·refine H2a ⟨S4.tail,o0⟩ Z Z Z ?_;refine h0a S4 r1a Z Z ?_;intro g3 w3 S3 X3 G3;have n0:=o0.trans X3;refine A0a ⟨Z,?_⟩;refine H2a ⟨S3.tail.tail,n0⟩ Z Z Z ?_;refine h0a S3 r1a Z Z ?_;intro g5 w5 S5 X5 G5;have p0:=n0.trans X5;refine A0a ⟨Z,?_⟩;refine H2a ⟨S5.tail.tail.tail,p0⟩ Z Z Z ?_;refine b0a (kk:=1) (vs:=[_,_,_,_]) S5 v0a Z Z Z Z Z Z Z ?_;intro R0 b0 q0;dsimp only[d0a,List.set] at b0;have t0:=p0.freshL q0 (fun g hg=>.inl (by rw[List.mem_singleton.1 hg];exact Nat.le_trans o0.size G3));refine A0a ⟨Z,?_⟩;refine H2a ⟨b0.tail.tail.tail,t0⟩ Z Z Z ?_;refine b0a (kk:=2) (vs:=[_,_,_,_]) b0 v0a Z Z Z Z Z Z Z ?_;intro S0 c0 r0;dsimp only[d0a,List.set] at c0;have u0:=t0.freshL r0 (fun g hg=>.inl (by rw[List.mem_singleton.1 hg];exact Nat.le_trans F0.size G4));refine A0a ⟨Z,?_⟩;refine H2a ⟨c0.tail.tail.tail,u0⟩ Z Z Z ?_;refine b0a (kk:=0) (vs:=[_,_,_,_]) c0 v0a Z Z Z Z Z Z Z ?_;intro T0 d0 s0;dsimp only[d0a,List.set] at d0;have I0:=u0.freshL s0 (fun g hg=>.inl (by rw[List.mem_singleton.1 hg];exact Nat.le_trans n0.size G5));refine A0a ⟨Z,?_⟩;refine t3a ⟨d0.tail.tail.tail,I0⟩ ?_;refine fP0 Z U ⟨Z,(g1),(g2),(g3),(g4),(g5),(d0.perm (by exact((List.Perm.swap _ _ _).cons _))),Z⟩
   refine H2a ⟨S4.tail,o0⟩ Z Z Z ?_;refine h0a S4 r1a Z Z ?_;intro g5 w5 S5 X5 G5;have p0:=o0.trans X5;refine A0a ⟨Z,?_⟩;refine H2a ⟨S5.tail.tail,p0⟩ Z Z Z ?_;refine h0a S5 r1a Z Z ?_;intro g3 w3 S3 X3 G3;have n0:=p0.trans X3;refine A0a ⟨Z,?_⟩;refine H2a ⟨S3.tail.tail.tail,n0⟩ Z Z Z ?_;refine b0a (kk:=0) (vs:=[_,_,_,_]) S3 v0a Z Z Z Z Z Z Z ?_;intro R0 b0 q0;dsimp only[d0a,List.set] at b0;have t0:=n0.freshL q0 (fun g hg=>.inl (by rw[List.mem_singleton.1 hg];exact Nat.le_trans p0.size G3));refine A0a ⟨Z,?_⟩;refine H2a ⟨b0.tail.tail.tail,t0⟩ Z Z Z ?_;refine b0a (kk:=2) (vs:=[_,_,_,_]) b0 v0a Z Z Z Z Z Z Z ?_;intro S0 c0 r0;dsimp only[d0a,List.set] at c0;have u0:=t0.freshL r0 (fun g hg=>.inl (by rw[List.mem_singleton.1 hg];exact Nat.le_trans F0.size G4));refine A0a ⟨Z,?_⟩;refine H2a ⟨c0.tail.tail.tail,u0⟩ Z Z Z ?_;refine b0a (kk:=1) (vs:=[_,_,_,_]) c0 v0a Z Z Z Z Z Z Z ?_;intro T0 d0 s0;dsimp only[d0a,List.set] at d0;have I0:=u0.freshL s0 (fun g hg=>.inl (by rw[List.mem_singleton.1 hg];exact Nat.le_trans o0.size G5));refine A0a ⟨Z,?_⟩;refine t3a ⟨d0.tail.tail.tail,I0⟩ ?_;refine fP0 Z U ⟨Z,(g1),(g2),(g3),(g4),(g5),(d0.perm (by exact(List.Perm.trans (.swap _ _ _) ((List.Perm.swap _ _ _).cons _)))),Z⟩
  refine H2a ⟨O0,F0⟩ Z Z Z ?_;refine h0a O0 r1a Z Z ?_;intro g5 w5 S5 X5 G5;have p0:=F0.trans X5;refine A0a ⟨Z,?_⟩;refine v6a ?_ ?_
  ·refine H2a ⟨S5.tail,p0⟩ Z Z Z ?_;refine h0a S5 r1a Z Z ?_;intro g3 w3 S3 X3 G3;have n0:=p0.trans X3;refine A0a ⟨Z,?_⟩;refine H2a ⟨S3.tail.tail,n0⟩ Z Z Z ?_;refine h0a S3 r1a Z Z ?_;intro g4 w4 S4 X4 G4;have o0:=n0.trans X4;refine A0a ⟨Z,?_⟩;refine H2a ⟨S4.tail.tail.tail,o0⟩ Z Z Z ?_;refine b0a (kk:=1) (vs:=[_,_,_,_]) S4 v0a Z Z Z Z Z Z Z ?_;intro R0 b0 q0;dsimp only[d0a,List.set] at b0;have t0:=o0.freshL q0 (fun g hg=>.inl (by rw[List.mem_singleton.1 hg];exact Nat.le_trans p0.size G3));refine A0a ⟨Z,?_⟩;refine H2a ⟨b0.tail.tail.tail,t0⟩ Z Z Z ?_;refine b0a (kk:=0) (vs:=[_,_,_,_]) b0 v0a Z Z Z Z Z Z Z ?_;intro S0 c0 r0;dsimp only[d0a,List.set] at c0;have u0:=t0.freshL r0 (fun g hg=>.inl (by rw[List.mem_singleton.1 hg];exact Nat.le_trans n0.size G4));refine A0a ⟨Z,?_⟩;refine H2a ⟨c0.tail.tail.tail,u0⟩ Z Z Z ?_;refine b0a (kk:=2) (vs:=[_,_,_,_]) c0 v0a Z Z Z Z Z Z Z ?_;intro T0 d0 s0;dsimp only[d0a,List.set] at d0;have I0:=u0.freshL s0 (fun g hg=>.inl (by rw[List.mem_singleton.1 hg];exact Nat.le_trans F0.size G5));refine A0a ⟨Z,?_⟩;refine t3a ⟨d0.tail.tail.tail,I0⟩ ?_;refine fP0 Z U ⟨Z,(g1),(g2),(g3),(g4),(g5),(d0.perm (by exact(List.Perm.trans ((List.Perm.swap _ _ _).cons _) (.swap _ _ _)))),Z⟩
  refine H2a ⟨S5.tail,p0⟩ Z Z Z ?_;refine h0a S5 r1a Z Z ?_;intro g4 w4 S4 X4 G4;have o0:=p0.trans X4;refine A0a ⟨Z,?_⟩;refine H2a ⟨S4.tail.tail,o0⟩ Z Z Z ?_;refine h0a S4 r1a Z Z ?_;intro g3 w3 S3 X3 G3;have n0:=o0.trans X3;refine A0a ⟨Z,?_⟩;refine H2a ⟨S3.tail.tail.tail,n0⟩ Z Z Z ?_;refine b0a (kk:=0) (vs:=[_,_,_,_]) S3 v0a Z Z Z Z Z Z Z ?_;intro R0 b0 q0;dsimp only[d0a,List.set] at b0;have t0:=n0.freshL q0 (fun g hg=>.inl (by rw[List.mem_singleton.1 hg];exact Nat.le_trans o0.size G3));refine A0a ⟨Z,?_⟩;refine H2a ⟨b0.tail.tail.tail,t0⟩ Z Z Z ?_;refine b0a (kk:=1) (vs:=[_,_,_,_]) b0 v0a Z Z Z Z Z Z Z ?_;intro S0 c0 r0;dsimp only[d0a,List.set] at c0;have u0:=t0.freshL r0 (fun g hg=>.inl (by rw[List.mem_singleton.1 hg];exact Nat.le_trans p0.size G4));refine A0a ⟨Z,?_⟩;refine H2a ⟨c0.tail.tail.tail,u0⟩ Z Z Z ?_;refine b0a (kk:=2) (vs:=[_,_,_,_]) c0 v0a Z Z Z Z Z Z Z ?_;intro T0 d0 s0;dsimp only[d0a,List.set] at d0;have I0:=u0.freshL s0 (fun g hg=>.inl (by rw[List.mem_singleton.1 hg];exact Nat.le_trans F0.size G5));refine A0a ⟨Z,?_⟩;refine t3a ⟨d0.tail.tail.tail,I0⟩ ?_;refine fP0 Z U ⟨Z,(g1),(g2),(g3),(g4),(g5),(d0.perm (by exact(List.Perm.trans (.swap _ _ _) (List.Perm.trans ((List.Perm.swap _ _ _).cons _) (.swap _ _ _))))),Z⟩
 rintro D ε w ⟨rfl,g1,g2,g3,g4,g5,S,eZ⟩;refine wK eZ ?_;have m1:∀g∈g2::M,g∈M∨w0.heap.size≤g:=fun g hg=>by rcases List.mem_cons.1 hg with rfl|hg;exact .inr (by simpa using S.new 3 Z);exact .inl hg
 refine wO S.k [.w 2] Z ⟨⟨Z,by rfl⟩,U⟩ (f0a S b1a Z Z (u0a t 1 M _ _ (RdE.keep (S.keep0 M) _ _ Y0)) (fun G0 U1 f1 K1=>?_) (fun G0 U1 f1 K1=>?_))
 ·refine lO f1.k [.w 1] Z ⟨⟨Z,by rfl⟩,U⟩ (b0a (kk:=3) (vs:=[_,_,_,_]) f1 v0a Z Z Z Z Z Z Z ?_);intro H1 L0 A1;dsimp only[d0a,List.set] at L0;refine lR0 Z U ?_;refine g0a Z k0a Z (L0.cells 3 Z) Z ⟨⟨_,Z,?_⟩,L0.fin⟩;suffices z:U6a n t a b=a by rw[z];exact RdE.keep (L0.keep0 M) _ _ W0
  unfold U6a;(try simp only[show isC t 1=true from G0]);(try simp only[show isC t 1=false from G0]);(try simp only[show E.beq a b=true from i0]);(try simp only[show E.beq a b=false from i0]);(try simp only[show isC t 0=true from A0]);(try simp only[show isC t 0=false from A0]);(try simp only[show isC t 0=true from v0]);(try simp only[show isC t 0=false from v0]);(try simp only[show isC a 1=true from D0]);(try simp only[show isC a 1=false from D0]);(try simp only[show isC b 0=true from E0]);(try simp only[show isC b 0=false from E0]);(try simp only[show isC a 0=true from y0]);(try simp only[show isC a 0=false from y0]);(try simp only[show isC b 1=true from z0]);(try simp only[show isC b 1=false from z0]);(try simp only[show(n.w=1)=True from eq_true C0]);(try simp only[show(n.w=1)=False from eq_false C0]);(try simp only[show(n.w=1)=True from eq_true x0]);(try simp only[show(n.w=1)=False from eq_false x0]);(try simp);done
 refine lO0 Z U (U0a f1 J2b Z Z (G9a a b _ g4 0 g5 0 ⟨by simp,_,f1.cells 1 Z,RdE.less (by simp) _ _ (RdE.keep (f1.keep0 M) _ _ W0)⟩ ⟨by simp,_,f1.cells 0 Z,RdE.less (by simp) _ _ (RdE.keep (f1.keep0 M) _ _ X0)⟩) ?_);intro Y1 i1 W1;cases i0:E.beq a b
 ·refine L0a (hv:=Z) (v:=.bool _) Z ?_;refine lO i1.k [.w 2] Z ⟨⟨Z,by rfl⟩,U⟩ (f0a i1 b1a Z Z (u0a t 0 M _ _ (RdE.keep (i1.keep0 M) _ _ Y0)) (fun v0 D1 B0 v1=>?_) (fun v0 D1 B0 v1=>?_))
  ·refine lO B0.k [.w 0] Z ⟨⟨Z,by rfl⟩,U⟩ (b0a (kk:=3) (vs:=[_,_,_,_]) B0 v0a Z Z Z Z Z Z Z ?_);intro I1 N0 B1;dsimp only[d0a,List.set] at N0;refine lR0 Z U ?_;refine g0a Z k0a Z (N0.cells 3 Z) Z ⟨⟨_,Z,?_⟩,N0.fin⟩;suffices z:U6a n t a b=b by rw[z];exact RdE.keep (N0.keep0 M) _ _ X0
   unfold U6a;(try simp only[show isC t 1=true from G0]);(try simp only[show isC t 1=false from G0]);(try simp only[show E.beq a b=true from i0]);(try simp only[show E.beq a b=false from i0]);(try simp only[show isC t 0=true from A0]);(try simp only[show isC t 0=false from A0]);(try simp only[show isC t 0=true from v0]);(try simp only[show isC t 0=false from v0]);(try simp only[show isC a 1=true from D0]);(try simp only[show isC a 1=false from D0]);(try simp only[show isC b 0=true from E0]);(try simp only[show isC b 0=false from E0]);(try simp only[show isC a 0=true from y0]);(try simp only[show isC a 0=false from y0]);(try simp only[show isC b 1=true from z0]);(try simp only[show isC b 1=false from z0]);(try simp only[show(n.w=1)=True from eq_true C0]);(try simp only[show(n.w=1)=False from eq_false C0]);(try simp only[show(n.w=1)=True from eq_true x0]);(try simp only[show(n.w=1)=False from eq_false x0]);(try simp);done
  refine lB B0.k [.o 4] Z ⟨Z,U⟩ (fun C0=>?_) fun C0=>?_
  ·refine lO B0.k [.w 1] Z ⟨⟨Z,by rfl⟩,U⟩ (f0a B0 b1a Z Z (u0a a 1 M _ _ (RdE.keep (B0.keep0 M) _ _ W0)) (fun D0 E1 J0 x1=>?_) (fun D0 E1 J0 x1=>?_))
   ·refine lO J0.k [.w 0] Z ⟨⟨Z,by rfl⟩,U⟩ (f0a J0 b1a Z Z (u0a b 0 M _ _ (RdE.keep (J0.keep0 M) _ _ X0)) (fun E0 F1 K0 y1=>?_) (fun E0 F1 K0 y1=>?_))
    ·refine lO K0.k [.w 2] Z ⟨⟨Z,by rfl⟩,U⟩ (b0a (kk:=3) (vs:=[_,_,_,_]) K0 v0a Z Z Z Z Z Z Z ?_);intro J1 V0 C1;dsimp only[d0a,List.set] at V0;refine lR0 Z U ?_;refine g0a Z k0a Z (V0.cells 3 Z) Z ⟨⟨_,Z,?_⟩,V0.fin⟩;suffices z:U6a n t a b=t by rw[z];exact RdE.keep (V0.keep0 M) _ _ Y0
     unfold U6a;(try simp only[show isC t 1=true from G0]);(try simp only[show isC t 1=false from G0]);(try simp only[show E.beq a b=true from i0]);(try simp only[show E.beq a b=false from i0]);(try simp only[show isC t 0=true from A0]);(try simp only[show isC t 0=false from A0]);(try simp only[show isC t 0=true from v0]);(try simp only[show isC t 0=false from v0]);(try simp only[show isC a 1=true from D0]);(try simp only[show isC a 1=false from D0]);(try simp only[show isC b 0=true from E0]);(try simp only[show isC b 0=false from E0]);(try simp only[show isC a 0=true from y0]);(try simp only[show isC a 0=false from y0]);(try simp only[show isC b 1=true from z0]);(try simp only[show isC b 1=false from z0]);(try simp only[show(n.w=1)=True from eq_true C0]);(try simp only[show(n.w=1)=False from eq_false C0]);(try simp only[show(n.w=1)=True from eq_true x0]);(try simp only[show(n.w=1)=False from eq_false x0]);(try simp);done
    refine lB K0.k [.o 4] Z ⟨Z,U⟩ (fun x0=>?_) fun x0=>?_
    ·refine lO K0.k [.w 1] Z ⟨⟨Z,by rfl⟩,U⟩ (f0a K0 b1a Z Z (u0a a 0 M _ _ (RdE.keep (K0.keep0 M) _ _ W0)) (fun y0 c1 m0 a1=>?_) (fun y0 c1 m0 a1=>?_))
     ·refine lO m0.k [.w 0] Z ⟨⟨Z,by rfl⟩,U⟩ (f0a m0 b1a Z Z (u0a b 1 M _ _ (RdE.keep (m0.keep0 M) _ _ X0)) (fun z0 d1 e0 b1=>?_) (fun z0 d1 e0 b1=>?_))
      ·refine lO e0.k [.w 2] Z ⟨⟨Z,by rfl⟩,U⟩ ?_;refine p0a e0 G5a Z Z (S5a t (g2::M) _ _ (RdE.keep (e0.keep0 _) _ _ (RdE.more m1 _ _ Y0)) (fun g hg=>by rcases List.mem_cons.1 hg with rfl|hg;exact e0.lt 3 Z;have:=hM g hg;have:=e0.size;omega) n1) ?_;rintro t1 u1 ⟨q1,rfl,P0⟩ Z0 p1;have U0:=P0;obtain⟨o1,r1,s1,rfl,-⟩:=P0.open_;refine b0a (kk:=3) (vs:=[_,_,_,_]) Z0 v0a Z Z Z Z Z Z Z ?_;intro Q0 j0 H0;dsimp only[d0a,List.set] at j0;refine lR0 Z U ?_;refine g0a Z k0a Z (j0.cells 3 Z) Z ⟨⟨_,Z,?_⟩,j0.fin⟩;suffices z:U6a n t a b=(w7b t) by rw[z];exact RdE.less (fun g hg=>List.mem_cons_of_mem _ hg) _ _ (RdE.keep (H0.mono (by simp)) _ _ U0)
       unfold U6a;(try simp only[show isC t 1=true from G0]);(try simp only[show isC t 1=false from G0]);(try simp only[show E.beq a b=true from i0]);(try simp only[show E.beq a b=false from i0]);(try simp only[show isC t 0=true from A0]);(try simp only[show isC t 0=false from A0]);(try simp only[show isC t 0=true from v0]);(try simp only[show isC t 0=false from v0]);(try simp only[show isC a 1=true from D0]);(try simp only[show isC a 1=false from D0]);(try simp only[show isC b 0=true from E0]);(try simp only[show isC b 0=false from E0]);(try simp only[show isC a 0=true from y0]);(try simp only[show isC a 0=false from y0]);(try simp only[show isC b 1=true from z0]);(try simp only[show isC b 1=false from z0]);(try simp only[show(n.w=1)=True from eq_true C0]);(try simp only[show(n.w=1)=False from eq_false C0]);(try simp only[show(n.w=1)=True from eq_true x0]);(try simp only[show(n.w=1)=False from eq_false x0]);(try simp);done
      refine lO e0.k [.w 4] Z ⟨⟨Z,by rfl⟩,U⟩ (b0a (kk:=3) (vs:=[_,_,_,_]) e0 v0a Z Z Z Z Z Z Z ?_);intro g0 a0 f0;dsimp only[d0a,List.set] at a0;refine lR0 Z U ?_;refine g0a Z k0a Z (a0.cells 3 Z) Z ⟨⟨_,Z,?_⟩,a0.fin⟩;suffices z:U6a n t a b=n by rw[z];exact RdE.keep (a0.keep0 M) _ _ hR
      unfold U6a;(try simp only[show isC t 1=true from G0]);(try simp only[show isC t 1=false from G0]);(try simp only[show E.beq a b=true from i0]);(try simp only[show E.beq a b=false from i0]);(try simp only[show isC t 0=true from A0]);(try simp only[show isC t 0=false from A0]);(try simp only[show isC t 0=true from v0]);(try simp only[show isC t 0=false from v0]);(try simp only[show isC a 1=true from D0]);(try simp only[show isC a 1=false from D0]);(try simp only[show isC b 0=true from E0]);(try simp only[show isC b 0=false from E0]);(try simp only[show isC a 0=true from y0]);(try simp only[show isC a 0=false from y0]);(try simp only[show isC b 1=true from z0]);(try simp only[show isC b 1=false from z0]);(try simp only[show(n.w=1)=True from eq_true C0]);(try simp only[show(n.w=1)=False from eq_false C0]);(try simp only[show(n.w=1)=True from eq_true x0]);(try simp only[show(n.w=1)=False from eq_false x0]);(try simp);done
     refine lO m0.k [.w 4] Z ⟨⟨Z,by rfl⟩,U⟩ (b0a (kk:=3) (vs:=[_,_,_,_]) m0 v0a Z Z Z Z Z Z Z ?_);intro g0 a0 f0;dsimp only[d0a,List.set] at a0;refine lR0 Z U ?_;refine g0a Z k0a Z (a0.cells 3 Z) Z ⟨⟨_,Z,?_⟩,a0.fin⟩;suffices z:U6a n t a b=n by rw[z];exact RdE.keep (a0.keep0 M) _ _ hR
     unfold U6a;(try simp only[show isC t 1=true from G0]);(try simp only[show isC t 1=false from G0]);(try simp only[show E.beq a b=true from i0]);(try simp only[show E.beq a b=false from i0]);(try simp only[show isC t 0=true from A0]);(try simp only[show isC t 0=false from A0]);(try simp only[show isC t 0=true from v0]);(try simp only[show isC t 0=false from v0]);(try simp only[show isC a 1=true from D0]);(try simp only[show isC a 1=false from D0]);(try simp only[show isC b 0=true from E0]);(try simp only[show isC b 0=false from E0]);(try simp only[show isC a 0=true from y0]);(try simp only[show isC a 0=false from y0]);(try simp only[show isC b 1=true from z0]);(try simp only[show isC b 1=false from z0]);(try simp only[show(n.w=1)=True from eq_true C0]);(try simp only[show(n.w=1)=False from eq_false C0]);(try simp only[show(n.w=1)=True from eq_true x0]);(try simp only[show(n.w=1)=False from eq_false x0]);(try simp);done
    refine lO K0.k [.w 4] Z ⟨⟨Z,by rfl⟩,U⟩ (b0a (kk:=3) (vs:=[_,_,_,_]) K0 v0a Z Z Z Z Z Z Z ?_);intro g0 a0 f0;dsimp only[d0a,List.set] at a0;refine lR0 Z U ?_;exfalso;omega
   refine lB J0.k [.o 4] Z ⟨Z,U⟩ (fun x0=>?_) fun x0=>?_
   ·refine lO J0.k [.w 1] Z ⟨⟨Z,by rfl⟩,U⟩ (f0a J0 b1a Z Z (u0a a 0 M _ _ (RdE.keep (J0.keep0 M) _ _ W0)) (fun y0 c1 m0 a1=>?_) (fun y0 c1 m0 a1=>?_))
    ·refine lO m0.k [.w 0] Z ⟨⟨Z,by rfl⟩,U⟩ (f0a m0 b1a Z Z (u0a b 1 M _ _ (RdE.keep (m0.keep0 M) _ _ X0)) (fun z0 d1 e0 b1=>?_) (fun z0 d1 e0 b1=>?_))
     ·refine lO e0.k [.w 2] Z ⟨⟨Z,by rfl⟩,U⟩ ?_;refine p0a e0 G5a Z Z (S5a t (g2::M) _ _ (RdE.keep (e0.keep0 _) _ _ (RdE.more m1 _ _ Y0)) (fun g hg=>by rcases List.mem_cons.1 hg with rfl|hg;exact e0.lt 3 Z;have:=hM g hg;have:=e0.size;omega) n1) ?_;rintro t1 u1 ⟨q1,rfl,P0⟩ Z0 p1;have U0:=P0;obtain⟨o1,r1,s1,rfl,-⟩:=P0.open_;refine b0a (kk:=3) (vs:=[_,_,_,_]) Z0 v0a Z Z Z Z Z Z Z ?_;intro Q0 j0 H0;dsimp only[d0a,List.set] at j0;refine lR0 Z U ?_;refine g0a Z k0a Z (j0.cells 3 Z) Z ⟨⟨_,Z,?_⟩,j0.fin⟩;suffices z:U6a n t a b=(w7b t) by rw[z];exact RdE.less (fun g hg=>List.mem_cons_of_mem _ hg) _ _ (RdE.keep (H0.mono (by simp)) _ _ U0)
      unfold U6a;(try simp only[show isC t 1=true from G0]);(try simp only[show isC t 1=false from G0]);(try simp only[show E.beq a b=true from i0]);(try simp only[show E.beq a b=false from i0]);(try simp only[show isC t 0=true from A0]);(try simp only[show isC t 0=false from A0]);(try simp only[show isC t 0=true from v0]);(try simp only[show isC t 0=false from v0]);(try simp only[show isC a 1=true from D0]);(try simp only[show isC a 1=false from D0]);(try simp only[show isC b 0=true from E0]);(try simp only[show isC b 0=false from E0]);(try simp only[show isC a 0=true from y0]);(try simp only[show isC a 0=false from y0]);(try simp only[show isC b 1=true from z0]);(try simp only[show isC b 1=false from z0]);(try simp only[show(n.w=1)=True from eq_true C0]);(try simp only[show(n.w=1)=False from eq_false C0]);(try simp only[show(n.w=1)=True from eq_true x0]);(try simp only[show(n.w=1)=False from eq_false x0]);(try simp);done
     refine lO e0.k [.w 4] Z ⟨⟨Z,by rfl⟩,U⟩ (b0a (kk:=3) (vs:=[_,_,_,_]) e0 v0a Z Z Z Z Z Z Z ?_);intro g0 a0 f0;dsimp only[d0a,List.set] at a0;refine lR0 Z U ?_;refine g0a Z k0a Z (a0.cells 3 Z) Z ⟨⟨_,Z,?_⟩,a0.fin⟩;suffices z:U6a n t a b=n by rw[z];exact RdE.keep (a0.keep0 M) _ _ hR
     unfold U6a;(try simp only[show isC t 1=true from G0]);(try simp only[show isC t 1=false from G0]);(try simp only[show E.beq a b=true from i0]);(try simp only[show E.beq a b=false from i0]);(try simp only[show isC t 0=true from A0]);(try simp only[show isC t 0=false from A0]);(try simp only[show isC t 0=true from v0]);(try simp only[show isC t 0=false from v0]);(try simp only[show isC a 1=true from D0]);(try simp only[show isC a 1=false from D0]);(try simp only[show isC b 0=true from E0]);(try simp only[show isC b 0=false from E0]);(try simp only[show isC a 0=true from y0]);(try simp only[show isC a 0=false from y0]);(try simp only[show isC b 1=true from z0]);(try simp only[show isC b 1=false from z0]);(try simp only[show(n.w=1)=True from eq_true C0]);(try simp only[show(n.w=1)=False from eq_false C0]);(try simp only[show(n.w=1)=True from eq_true x0]);(try simp only[show(n.w=1)=False from eq_false x0]);(try simp);done
    refine lO m0.k [.w 4] Z ⟨⟨Z,by rfl⟩,U⟩ (b0a (kk:=3) (vs:=[_,_,_,_]) m0 v0a Z Z Z Z Z Z Z ?_);intro g0 a0 f0;dsimp only[d0a,List.set] at a0;refine lR0 Z U ?_;refine g0a Z k0a Z (a0.cells 3 Z) Z ⟨⟨_,Z,?_⟩,a0.fin⟩;suffices z:U6a n t a b=n by rw[z];exact RdE.keep (a0.keep0 M) _ _ hR
    unfold U6a;(try simp only[show isC t 1=true from G0]);(try simp only[show isC t 1=false from G0]);(try simp only[show E.beq a b=true from i0]);(try simp only[show E.beq a b=false from i0]);(try simp only[show isC t 0=true from A0]);(try simp only[show isC t 0=false from A0]);(try simp only[show isC t 0=true from v0]);(try simp only[show isC t 0=false from v0]);(try simp only[show isC a 1=true from D0]);(try simp only[show isC a 1=false from D0]);(try simp only[show isC b 0=true from E0]);(try simp only[show isC b 0=false from E0]);(try simp only[show isC a 0=true from y0]);(try simp only[show isC a 0=false from y0]);(try simp only[show isC b 1=true from z0]);(try simp only[show isC b 1=false from z0]);(try simp only[show(n.w=1)=True from eq_true C0]);(try simp only[show(n.w=1)=False from eq_false C0]);(try simp only[show(n.w=1)=True from eq_true x0]);(try simp only[show(n.w=1)=False from eq_false x0]);(try simp);done
   refine lO J0.k [.w 4] Z ⟨⟨Z,by rfl⟩,U⟩ (b0a (kk:=3) (vs:=[_,_,_,_]) J0 v0a Z Z Z Z Z Z Z ?_);intro g0 a0 f0;dsimp only[d0a,List.set] at a0;refine lR0 Z U ?_;exfalso;omega
  refine lB B0.k [.o 4] Z ⟨Z,U⟩ (fun x0=>?_) fun x0=>?_
  ·refine lO B0.k [.w 1] Z ⟨⟨Z,by rfl⟩,U⟩ (f0a B0 b1a Z Z (u0a a 0 M _ _ (RdE.keep (B0.keep0 M) _ _ W0)) (fun y0 c1 m0 a1=>?_) (fun y0 c1 m0 a1=>?_))
   ·refine lO m0.k [.w 0] Z ⟨⟨Z,by rfl⟩,U⟩ (f0a m0 b1a Z Z (u0a b 1 M _ _ (RdE.keep (m0.keep0 M) _ _ X0)) (fun z0 d1 e0 b1=>?_) (fun z0 d1 e0 b1=>?_))
    ·refine lO e0.k [.w 2] Z ⟨⟨Z,by rfl⟩,U⟩ ?_;refine p0a e0 G5a Z Z (S5a t (g2::M) _ _ (RdE.keep (e0.keep0 _) _ _ (RdE.more m1 _ _ Y0)) (fun g hg=>by rcases List.mem_cons.1 hg with rfl|hg;exact e0.lt 3 Z;have:=hM g hg;have:=e0.size;omega) n1) ?_;rintro t1 u1 ⟨q1,rfl,P0⟩ Z0 p1;have U0:=P0;obtain⟨o1,r1,s1,rfl,-⟩:=P0.open_;refine b0a (kk:=3) (vs:=[_,_,_,_]) Z0 v0a Z Z Z Z Z Z Z ?_;intro Q0 j0 H0;dsimp only[d0a,List.set] at j0;refine lR0 Z U ?_;exfalso;omega
    refine lO e0.k [.w 4] Z ⟨⟨Z,by rfl⟩,U⟩ (b0a (kk:=3) (vs:=[_,_,_,_]) e0 v0a Z Z Z Z Z Z Z ?_);intro g0 a0 f0;dsimp only[d0a,List.set] at a0;refine lR0 Z U ?_;exfalso;omega
   refine lO m0.k [.w 4] Z ⟨⟨Z,by rfl⟩,U⟩ (b0a (kk:=3) (vs:=[_,_,_,_]) m0 v0a Z Z Z Z Z Z Z ?_);intro g0 a0 f0;dsimp only[d0a,List.set] at a0;refine lR0 Z U ?_;exfalso;omega
  refine lO B0.k [.w 4] Z ⟨⟨Z,by rfl⟩,U⟩ (b0a (kk:=3) (vs:=[_,_,_,_]) B0 v0a Z Z Z Z Z Z Z ?_);intro g0 a0 f0;dsimp only[d0a,List.set] at a0;refine lR0 Z U ?_;refine g0a Z k0a Z (a0.cells 3 Z) Z ⟨⟨_,Z,?_⟩,a0.fin⟩;suffices z:U6a n t a b=n by rw[z];exact RdE.keep (a0.keep0 M) _ _ hR
  unfold U6a;(try simp only[show isC t 1=true from G0]);(try simp only[show isC t 1=false from G0]);(try simp only[show E.beq a b=true from i0]);(try simp only[show E.beq a b=false from i0]);(try simp only[show isC t 0=true from A0]);(try simp only[show isC t 0=false from A0]);(try simp only[show isC t 0=true from v0]);(try simp only[show isC t 0=false from v0]);(try simp only[show isC a 1=true from D0]);(try simp only[show isC a 1=false from D0]);(try simp only[show isC b 0=true from E0]);(try simp only[show isC b 0=false from E0]);(try simp only[show isC a 0=true from y0]);(try simp only[show isC a 0=false from y0]);(try simp only[show isC b 1=true from z0]);(try simp only[show isC b 1=false from z0]);(try simp only[show(n.w=1)=True from eq_true C0]);(try simp only[show(n.w=1)=False from eq_false C0]);(try simp only[show(n.w=1)=True from eq_true x0]);(try simp only[show(n.w=1)=False from eq_false x0]);(try simp);done
 refine L0a (hv:=Z) (v:=.bool _) Z ?_;refine lO i1.k [.w 2] Z ⟨⟨Z,by rfl⟩,U⟩ (f0a i1 b1a Z Z (u0a t 0 M _ _ (RdE.keep (i1.keep0 M) _ _ Y0)) (fun A0 V1 j1 M1=>?_) (fun A0 V1 j1 M1=>?_))
 ·refine lO j1.k [.w 2] Z ⟨⟨Z,by rfl⟩,U⟩ (f0a j1 b1a Z Z (u0a t 0 M _ _ (RdE.keep (j1.keep0 M) _ _ Y0)) (fun v0 D1 B0 v1=>?_) (fun v0 D1 B0 v1=>?_))
  ·refine lO B0.k [.w 0] Z ⟨⟨Z,by rfl⟩,U⟩ (b0a (kk:=3) (vs:=[_,_,_,_]) B0 v0a Z Z Z Z Z Z Z ?_);intro I1 N0 B1;dsimp only[d0a,List.set] at N0;refine lR0 Z U ?_;refine g0a Z k0a Z (N0.cells 3 Z) Z ⟨⟨_,Z,?_⟩,N0.fin⟩;suffices z:U6a n t a b=b by rw[z];exact RdE.keep (N0.keep0 M) _ _ X0
   unfold U6a;(try simp only[show isC t 1=true from G0]);(try simp only[show isC t 1=false from G0]);(try simp only[show E.beq a b=true from i0]);(try simp only[show E.beq a b=false from i0]);(try simp only[show isC t 0=true from A0]);(try simp only[show isC t 0=false from A0]);(try simp only[show isC t 0=true from v0]);(try simp only[show isC t 0=false from v0]);(try simp only[show isC a 1=true from D0]);(try simp only[show isC a 1=false from D0]);(try simp only[show isC b 0=true from E0]);(try simp only[show isC b 0=false from E0]);(try simp only[show isC a 0=true from y0]);(try simp only[show isC a 0=false from y0]);(try simp only[show isC b 1=true from z0]);(try simp only[show isC b 1=false from z0]);(try simp only[show(n.w=1)=True from eq_true C0]);(try simp only[show(n.w=1)=False from eq_false C0]);(try simp only[show(n.w=1)=True from eq_true x0]);(try simp only[show(n.w=1)=False from eq_false x0]);(try simp);done
  refine lB B0.k [.o 4] Z ⟨Z,U⟩ (fun C0=>?_) fun C0=>?_
  ·refine lO B0.k [.w 1] Z ⟨⟨Z,by rfl⟩,U⟩ (f0a B0 b1a Z Z (u0a a 1 M _ _ (RdE.keep (B0.keep0 M) _ _ W0)) (fun D0 E1 J0 x1=>?_) (fun D0 E1 J0 x1=>?_))
   ·refine lO J0.k [.w 0] Z ⟨⟨Z,by rfl⟩,U⟩ (f0a J0 b1a Z Z (u0a b 0 M _ _ (RdE.keep (J0.keep0 M) _ _ X0)) (fun E0 F1 K0 y1=>?_) (fun E0 F1 K0 y1=>?_))
    ·refine lO K0.k [.w 2] Z ⟨⟨Z,by rfl⟩,U⟩ (b0a (kk:=3) (vs:=[_,_,_,_]) K0 v0a Z Z Z Z Z Z Z ?_);intro J1 V0 C1;dsimp only[d0a,List.set] at V0;refine lR0 Z U ?_;exfalso;have z1:isC t 0=true:=A0;have z2:isC t 0=false:=v0;rw[z1] at z2;exact Bool.noConfusion z2
    refine lB K0.k [.o 4] Z ⟨Z,U⟩ (fun x0=>?_) fun x0=>?_
    ·refine lO K0.k [.w 1] Z ⟨⟨Z,by rfl⟩,U⟩ (f0a K0 b1a Z Z (u0a a 0 M _ _ (RdE.keep (K0.keep0 M) _ _ W0)) (fun y0 c1 m0 a1=>?_) (fun y0 c1 m0 a1=>?_))
     ·refine lO m0.k [.w 0] Z ⟨⟨Z,by rfl⟩,U⟩ (f0a m0 b1a Z Z (u0a b 1 M _ _ (RdE.keep (m0.keep0 M) _ _ X0)) (fun z0 d1 e0 b1=>?_) (fun z0 d1 e0 b1=>?_))
      ·refine lO e0.k [.w 2] Z ⟨⟨Z,by rfl⟩,U⟩ ?_;refine p0a e0 G5a Z Z (S5a t (g2::M) _ _ (RdE.keep (e0.keep0 _) _ _ (RdE.more m1 _ _ Y0)) (fun g hg=>by rcases List.mem_cons.1 hg with rfl|hg;exact e0.lt 3 Z;have:=hM g hg;have:=e0.size;omega) n1) ?_;rintro t1 u1 ⟨q1,rfl,P0⟩ Z0 p1;have U0:=P0;obtain⟨o1,r1,s1,rfl,-⟩:=P0.open_;refine b0a (kk:=3) (vs:=[_,_,_,_]) Z0 v0a Z Z Z Z Z Z Z ?_;intro Q0 j0 H0;dsimp only[d0a,List.set] at j0;refine lR0 Z U ?_;exfalso;have z1:isC t 0=true:=A0;have z2:isC t 0=false:=v0;rw[z1] at z2;exact Bool.noConfusion z2
      refine lO e0.k [.w 4] Z ⟨⟨Z,by rfl⟩,U⟩ (b0a (kk:=3) (vs:=[_,_,_,_]) e0 v0a Z Z Z Z Z Z Z ?_);intro g0 a0 f0;dsimp only[d0a,List.set] at a0;refine lR0 Z U ?_;exfalso;have z1:isC t 0=true:=A0;have z2:isC t 0=false:=v0;rw[z1] at z2;exact Bool.noConfusion z2
     refine lO m0.k [.w 4] Z ⟨⟨Z,by rfl⟩,U⟩ (b0a (kk:=3) (vs:=[_,_,_,_]) m0 v0a Z Z Z Z Z Z Z ?_);intro g0 a0 f0;dsimp only[d0a,List.set] at a0;refine lR0 Z U ?_;exfalso;have z1:isC t 0=true:=A0;have z2:isC t 0=false:=v0;rw[z1] at z2;exact Bool.noConfusion z2
    refine lO K0.k [.w 4] Z ⟨⟨Z,by rfl⟩,U⟩ (b0a (kk:=3) (vs:=[_,_,_,_]) K0 v0a Z Z Z Z Z Z Z ?_);intro g0 a0 f0;dsimp only[d0a,List.set] at a0;refine lR0 Z U ?_;exfalso;omega
   refine lB J0.k [.o 4] Z ⟨Z,U⟩ (fun x0=>?_) fun x0=>?_
   ·refine lO J0.k [.w 1] Z ⟨⟨Z,by rfl⟩,U⟩ (f0a J0 b1a Z Z (u0a a 0 M _ _ (RdE.keep (J0.keep0 M) _ _ W0)) (fun y0 c1 m0 a1=>?_) (fun y0 c1 m0 a1=>?_))
    ·refine lO m0.k [.w 0] Z ⟨⟨Z,by rfl⟩,U⟩ (f0a m0 b1a Z Z (u0a b 1 M _ _ (RdE.keep (m0.keep0 M) _ _ X0)) (fun z0 d1 e0 b1=>?_) (fun z0 d1 e0 b1=>?_))
     ·refine lO e0.k [.w 2] Z ⟨⟨Z,by rfl⟩,U⟩ ?_;refine p0a e0 G5a Z Z (S5a t (g2::M) _ _ (RdE.keep (e0.keep0 _) _ _ (RdE.more m1 _ _ Y0)) (fun g hg=>by rcases List.mem_cons.1 hg with rfl|hg;exact e0.lt 3 Z;have:=hM g hg;have:=e0.size;omega) n1) ?_;rintro t1 u1 ⟨q1,rfl,P0⟩ Z0 p1;have U0:=P0;obtain⟨o1,r1,s1,rfl,-⟩:=P0.open_;refine b0a (kk:=3) (vs:=[_,_,_,_]) Z0 v0a Z Z Z Z Z Z Z ?_;intro Q0 j0 H0;dsimp only[d0a,List.set] at j0;refine lR0 Z U ?_;exfalso;have z1:isC t 0=true:=A0;have z2:isC t 0=false:=v0;rw[z1] at z2;exact Bool.noConfusion z2
     refine lO e0.k [.w 4] Z ⟨⟨Z,by rfl⟩,U⟩ (b0a (kk:=3) (vs:=[_,_,_,_]) e0 v0a Z Z Z Z Z Z Z ?_);intro g0 a0 f0;dsimp only[d0a,List.set] at a0;refine lR0 Z U ?_;exfalso;have z1:isC t 0=true:=A0;have z2:isC t 0=false:=v0;rw[z1] at z2;exact Bool.noConfusion z2
    refine lO m0.k [.w 4] Z ⟨⟨Z,by rfl⟩,U⟩ (b0a (kk:=3) (vs:=[_,_,_,_]) m0 v0a Z Z Z Z Z Z Z ?_);intro g0 a0 f0;dsimp only[d0a,List.set] at a0;refine lR0 Z U ?_;exfalso;have z1:isC t 0=true:=A0;have z2:isC t 0=false:=v0;rw[z1] at z2;exact Bool.noConfusion z2
   refine lO J0.k [.w 4] Z ⟨⟨Z,by rfl⟩,U⟩ (b0a (kk:=3) (vs:=[_,_,_,_]) J0 v0a Z Z Z Z Z Z Z ?_);intro g0 a0 f0;dsimp only[d0a,List.set] at a0;refine lR0 Z U ?_;exfalso;omega
  refine lB B0.k [.o 4] Z ⟨Z,U⟩ (fun x0=>?_) fun x0=>?_
  ·refine lO B0.k [.w 1] Z ⟨⟨Z,by rfl⟩,U⟩ (f0a B0 b1a Z Z (u0a a 0 M _ _ (RdE.keep (B0.keep0 M) _ _ W0)) (fun y0 c1 m0 a1=>?_) (fun y0 c1 m0 a1=>?_))
   ·refine lO m0.k [.w 0] Z ⟨⟨Z,by rfl⟩,U⟩ (f0a m0 b1a Z Z (u0a b 1 M _ _ (RdE.keep (m0.keep0 M) _ _ X0)) (fun z0 d1 e0 b1=>?_) (fun z0 d1 e0 b1=>?_))
    ·refine lO e0.k [.w 2] Z ⟨⟨Z,by rfl⟩,U⟩ ?_;refine p0a e0 G5a Z Z (S5a t (g2::M) _ _ (RdE.keep (e0.keep0 _) _ _ (RdE.more m1 _ _ Y0)) (fun g hg=>by rcases List.mem_cons.1 hg with rfl|hg;exact e0.lt 3 Z;have:=hM g hg;have:=e0.size;omega) n1) ?_;rintro t1 u1 ⟨q1,rfl,P0⟩ Z0 p1;have U0:=P0;obtain⟨o1,r1,s1,rfl,-⟩:=P0.open_;refine b0a (kk:=3) (vs:=[_,_,_,_]) Z0 v0a Z Z Z Z Z Z Z ?_;intro Q0 j0 H0;dsimp only[d0a,List.set] at j0;refine lR0 Z U ?_;exfalso;omega
    refine lO e0.k [.w 4] Z ⟨⟨Z,by rfl⟩,U⟩ (b0a (kk:=3) (vs:=[_,_,_,_]) e0 v0a Z Z Z Z Z Z Z ?_);intro g0 a0 f0;dsimp only[d0a,List.set] at a0;refine lR0 Z U ?_;exfalso;omega
   refine lO m0.k [.w 4] Z ⟨⟨Z,by rfl⟩,U⟩ (b0a (kk:=3) (vs:=[_,_,_,_]) m0 v0a Z Z Z Z Z Z Z ?_);intro g0 a0 f0;dsimp only[d0a,List.set] at a0;refine lR0 Z U ?_;exfalso;omega
  refine lO B0.k [.w 4] Z ⟨⟨Z,by rfl⟩,U⟩ (b0a (kk:=3) (vs:=[_,_,_,_]) B0 v0a Z Z Z Z Z Z Z ?_);intro g0 a0 f0;dsimp only[d0a,List.set] at a0;refine lR0 Z U ?_;exfalso;have z1:isC t 0=true:=A0;have z2:isC t 0=false:=v0;rw[z1] at z2;exact Bool.noConfusion z2
 refine lO j1.k [.w 1] Z ⟨⟨Z,by rfl⟩,U⟩ (b0a (kk:=3) (vs:=[_,_,_,_]) j1 v0a Z Z Z Z Z Z Z ?_);intro H1 L0 A1;dsimp only[d0a,List.set] at L0;refine lR0 Z U ?_;refine g0a Z k0a Z (L0.cells 3 Z) Z ⟨⟨_,Z,?_⟩,L0.fin⟩;suffices z:U6a n t a b=a by rw[z];exact RdE.keep (L0.keep0 M) _ _ W0
 unfold U6a;(try simp only[show isC t 1=true from G0]);(try simp only[show isC t 1=false from G0]);(try simp only[show E.beq a b=true from i0]);(try simp only[show E.beq a b=false from i0]);(try simp only[show isC t 0=true from A0]);(try simp only[show isC t 0=false from A0]);(try simp only[show isC t 0=true from v0]);(try simp only[show isC t 0=false from v0]);(try simp only[show isC a 1=true from D0]);(try simp only[show isC a 1=false from D0]);(try simp only[show isC b 0=true from E0]);(try simp only[show isC b 0=false from E0]);(try simp only[show isC a 0=true from y0]);(try simp only[show isC a 0=false from y0]);(try simp only[show isC b 1=true from z0]);(try simp only[show isC b 1=false from z0]);(try simp only[show(n.w=1)=True from eq_true C0]);(try simp only[show(n.w=1)=False from eq_false C0]);(try simp only[show(n.w=1)=True from eq_true x0]);(try simp only[show(n.w=1)=False from eq_false x0]);(try simp);done
theorem f6c{e:E}(h:e.kids.length≠0):T9a e=y4a ⟨e.op,e.w,e.n,e.kids.map T9a⟩:=by
 rw[c8b,if_neg];intro hh;rw[List.isEmpty_iff] at hh;rw[hh] at h;exact h Z
theorem G8c{e:E}(h:e.kids.length=0):T9a e=e:=by
 obtain⟨_,_,_,ks⟩:=e;have hk:ks=[]:=List.length_eq_zero_iff.1 h;subst hk;rfl
theorem w5a{α:Type}{l:List α}{k:Nat}{f:α→Bool}(h:k<l.length):(l.take (k+1)).all f=((l.take k).all f&&f l[k]):=by
 rw[List.take_add_one,List.all_append,List.getElem?_eq_getElem h];simp
theorem g6b:∀(e:E) (M:List Nat) (w0:World) (b o:Nat) (Z0:Int),RdP M w0 e b o→f2a M w0→e.good Z0=true→(∀g∈M,g<w0.heap.size) →
 O0a prog 94 #[.pointer (some ⟨b,o,none⟩)] w0 fun v w'=>(∃cs:List Value,v=.agg cs.toArray∧RdE M w' (T9a e) cs)∧Below w0.heap.size w0 w':=by
 intro e
 induction e using E.induct with
 | _ e ih =>
 intro M w0 b o Z0 hR hK hg hM;obtain⟨_,o1,o2,o3,c0,c1,c2,_,n,c,c3,hn,_,hm,_,O2,_⟩:=hR.open_;obtain⟨U2,O1⟩:=Z0a hg;have i3:=(I1a U2).2.2.1;have I2:=c1a e.op;have h3:e.kids.length≤3:=by omega
 subst hn;obtain⟨N,hN⟩:∃N:E,N=⟨e.op,e.w,e.n,e.kids.map T9a⟩:=⟨_,Z⟩;have y1:N.good Z0=true:=by rw[hN];exact(h7b hg fun k hk=>D2c k (Z0-1) (O1 k hk)).good
 obtain⟨J0,J1⟩:=Z0a y1;have Y2:N.op=e.op:=by rw[hN]
 have nw:N.w=e.w:=by rw[hN]
 have nn:N.n=e.n:=by rw[hN]
 have nk:N.kids=e.kids.map T9a:=by rw[hN]
 have r0:e.kids.length≠0→T9a e=y4a N:=fun h=>by rw[f6c h,hN]
 have P0:∀x∈N.kids,x.op=4→∃y,x.kids=[y]:=fun x hx h4=>m4c ((B6a h4).1 (Z0a (J1 x hx)).1).2.2.1;have X0:∀x∈N.kids,1≤x.w∧x.w≤8:=fun x hx=>by have:=I1a (Z0a (J1 x hx)).1;omega
 have S:=St.refl w0;refine a0a func94 Z ntmps94 Z ?_;refine wO0 Z U (h0a S r1a Z Z ?_);intro g2 w2 S2 X2 G2;refine lO0 Z U (J0a n1a Z (by exact S2.old c3) Z ?_);refine lB0 Z U (fun y0=>?_) fun y0=>?_
 ·refine lO0 Z U (p0a S2 V9b Z Z (v7b e M _ b o (hR.keep (S2.keep0 M))) ?_);rintro m3 t3 ⟨_,rfl,V1⟩ r2 d3;obtain⟨_,_,_,rfl,-⟩:=(V1 []).open_
  first|refine b0a (kk:=0) (vs:=[_,_,_,_]) r2 v0a Z Z Z Z Z Z Z ?_
  intro Z2 U0 t1;dsimp only[d0a,List.set] at U0;refine lR0 Z U ?_;exact g0a Z k0a Z (U0.cells 0 Z) Z ⟨⟨_,Z,by rw[G8c (by omega)];exact RdE.more (fun g hg=>.inl (by simp[hg])) _ _ (RdE.keep (t1.mono (by simp)) _ _ (V1 (g2::M)))⟩,U0.fin⟩
 refine lCn 5 S2.k [] Z U (wX (fun D ε w=>D=[]∧∃f0:Nat,∃g3:Nat,∃g2:Nat,∃v0:List Value,(v0.length=e.kids.length*4)∧(e.kids.length≠0)∧St [] w0 w [(some f0,38,v0),(some g3,38,[.int .i64 e.op,.int .i64 e.w,.int .i64 e.n,.slice (some ⟨f0,0,none⟩) e.kids.length e.kids.length]),(some g2,38,[.int .i64 0,.int .i64 0,.int .i64 0,.slice none 0 0])]∧Sl ε [(0,.pointer (some ⟨b,o,none⟩)),(2,.pointer (some ⟨g2,0,none⟩)),(3,.pointer (some ⟨g3,0,none⟩))]) ?_ ?_)
 ·refine B1b c0a (fun i=>[0,1,2,3,4,5,6,7,8,9,10,11,12,13,14,15,16,18].contains i) (.op 0 (.op 1 (.op 2 (.op 3 (.op 4 (.op 5 (.op 6 (.op 7 (.op 8 (.op 9 (.op 10 (.op 11 (.op 12 (.op 13 (.op 14 (.op 15 (.op 16 (.two (.op 17 (.op 18 (.op 19 (.op 20 .nil)))) (.op 19 (.op 17 (.op 18 (.op 20 .nil)))))))))))))))))))))) (d9c S2) ?_;have m0:=S2.drew;have i0:z0a [] w2 w2.drew:=B2a _ _;generalize w2.drew=y3 at m0 i0 ⊢;refine J1a ⟨m0,i0⟩ Z Z Z ?_;refine K1a Z ?_;refine n0a ?_;refine J1a ⟨m0,i0⟩ Z Z Z ?_;refine a6a Z Z ?_;refine n0a ?_;refine J1a ⟨m0,i0⟩ Z Z Z ?_;refine K0a L0c Z Z ?_;refine n0a ?_;refine J1a ⟨m0,i0⟩ Z Z Z ?_;refine m0a B0a Z (fun w1 hw=>by exact hw.1.old c0) Z ?_;refine n0a ?_;refine J1a ⟨m0,i0⟩ Z Z Z ?_;refine K1a Z ?_;refine n0a ?_;refine J1a ⟨m0,i0⟩ Z Z Z ?_;refine a6a Z Z ?_;refine n0a ?_;refine J1a ⟨m0,i0⟩ Z Z Z ?_;refine K0a D1c Z Z ?_;refine n0a ?_;refine J1a ⟨m0,i0⟩ Z Z Z ?_;refine m0a B0a Z (fun w1 hw=>by exact hw.1.old c1) Z ?_;refine n0a ?_;refine J1a ⟨m0,i0⟩ Z Z Z ?_;refine K1a Z ?_;refine n0a ?_;refine J1a ⟨m0,i0⟩ Z Z Z ?_;refine a6a Z Z ?_;refine n0a ?_;refine J1a ⟨m0,i0⟩ Z Z Z ?_;refine K0a i1c Z Z ?_;refine n0a ?_;refine J1a ⟨m0,i0⟩ Z Z Z ?_;refine m0a B0a Z (fun w1 hw=>by exact hw.1.old c2) Z ?_;refine n0a ?_;refine J1a ⟨m0,i0⟩ Z Z Z ?_;refine K1a Z ?_;refine n0a ?_;refine J1a ⟨m0,i0⟩ Z Z Z ?_;refine a6a Z Z ?_;refine n0a ?_;refine J1a ⟨m0,i0⟩ Z Z Z ?_;refine K0a V9a Z Z ?_;refine n0a ?_;refine J1a ⟨m0,i0⟩ Z Z Z ?_;refine m0a n1a Z (fun w1 hw=>by exact hw.1.old c3) Z ?_;refine n0a ?_;refine J1a ⟨m0,i0⟩ Z Z Z ?_;refine W2d Q0a.slT Z Z ?_;refine n0a ?_;refine v6a ?_ ?_
  ·refine H2a ⟨m0,i0⟩ Z Z Z ?_;refine L5b (n:=e.kids.length) m0 Q0a Z Z Z ?_;intro f0 a3 v0 u0 V0 u1 p2;have p0:=i0.trans u1;refine A0a ⟨Z,?_⟩;refine J1a ⟨V0.tail,p0⟩ Z Z Z ?_;refine r3a J2a (vs:=[(0,.int .i64 _),(1,.int .i64 _),(2,.int .i64 _),(3,.slice _ _ _)]) (cs:=[_,_,_,_]) Z Z Z Z ?_;refine n0a ?_;refine H2a ⟨V0.tail,p0⟩ Z Z Z ?_;refine h0a V0 r1a Z Z ?_;intro g3 w3 S3 X3 G3;have G0:=p0.trans X3;refine A0a ⟨Z,?_⟩;refine H2a ⟨S3.tail.tail,G0⟩ Z Z Z ?_;refine b0a (kk:=0) (vs:=[_,_,_,_]) S3 v0a Z Z Z Z Z Z Z ?_;intro i1 g0 E0;dsimp only[d0a,List.set] at g0;have F0:=G0.freshL E0 (fun g hg=>.inl (by rw[List.mem_singleton.1 hg];exact Nat.le_trans p0.size G3));refine A0a ⟨Z,?_⟩;refine t3a ⟨g0.tail.tail,F0⟩ ?_;refine fP0 Z U ⟨Z,(f0),(g3),(g2),(_),(u0),((by omega)),(g0.perm (by exact .swap _ _ _)),Z⟩
  refine H2a ⟨m0,i0⟩ Z Z Z ?_;refine h0a m0 r1a Z Z ?_;intro g3 w3 S3 X3 G3;have G0:=i0.trans X3;refine A0a ⟨Z,?_⟩;refine H2a ⟨S3.tail,G0⟩ Z Z Z ?_;refine L5b (n:=e.kids.length) S3 Q0a Z Z Z ?_;intro f0 a3 v0 u0 V0 u1 p2;have p0:=G0.trans u1;refine A0a ⟨Z,?_⟩;refine J1a ⟨V0.tail.tail,p0⟩ Z Z Z ?_;refine r3a J2a (vs:=[(0,.int .i64 _),(1,.int .i64 _),(2,.int .i64 _),(3,.slice _ _ _)]) (cs:=[_,_,_,_]) Z Z Z Z ?_;refine n0a ?_;refine H2a ⟨V0.tail.tail,p0⟩ Z Z Z ?_;refine b0a (kk:=1) (vs:=[_,_,_,_]) V0 v0a Z Z Z Z Z Z Z ?_;intro i1 g0 E0;dsimp only[d0a,List.set] at g0;have F0:=p0.freshL E0 (fun g hg=>.inl (by rw[List.mem_singleton.1 hg];exact Nat.le_trans i0.size G3));refine A0a ⟨Z,?_⟩;refine t3a ⟨g0.tail.tail,F0⟩ ?_;refine fP0 Z U ⟨Z,(f0),(g3),(g2),(_),(u0),((by omega)),(g0.perm (by exact .refl _)),Z⟩
 rintro D ε w ⟨rfl,f0,g3,g2,v0,u0,y0,S,eZ⟩;refine wK eZ (wCn 5 S.k [] Z U ?_);refine wX (fun D ε w=>D=[]∧∃f0:Nat,∃g3:Nat,∃g2:Nat,∃row:List Value,∃kb:Bool,(kb=N.kids.all (fun x=>decide (x.op=1)))∧(RdE (g2::M) w N [.int .i64 e.op,.int .i64 e.w,.int .i64 e.n,.slice (some ⟨f0,0,none⟩) e.kids.length e.kids.length])∧(e.kids.length≠0)∧St [] w0 w [(some f0,38,row),(some g3,38,[.int .i64 e.op,.int .i64 e.w,.int .i64 e.n,.slice (some ⟨f0,0,none⟩) e.kids.length e.kids.length]),(some g2,38,[.int .i64 0,.int .i64 0,.int .i64 0,.slice none 0 0])]∧Sl ε [(2,.pointer (some ⟨g2,0,none⟩)),(3,.pointer (some ⟨g3,0,none⟩)),(4,.bool kb)]) ?_ ?_
 ·refine wC S.k [.o 1] Z ⟨Z,U⟩ (wL (fun μ D ε w=>D=[]∧∃k:Nat,∃kb:Bool,∃css:List (List Value),∃rest:List Value,(k+μ=e.kids.length)∧(kb=(e.kids.take k).all (fun x=>decide ((T9a x).op=1)))∧(css.length=k)∧(∀x∈css,x.length=4)∧(rest.length=μ*4)∧(∀(i:Nat) (h:i<e.kids.length),i<k→∃c,css[i]?=some c∧RdE (f0::g3::g2::M) w (T9a e.kids[i]) c)∧St [] w0 w [(some f0,38,css.flatten++rest),(some g3,38,[.int .i64 e.op,.int .i64 e.w,.int .i64 e.n,.slice (some ⟨f0,0,none⟩) e.kids.length e.kids.length]),(some g2,38,[.int .i64 0,.int .i64 0,.int .i64 0,.slice none 0 0])]∧ε 0=.pointer (some ⟨b,o,none⟩)∧ε 2=.pointer (some ⟨g2,0,none⟩)∧ε 3=.pointer (some ⟨g3,0,none⟩)∧ε 4=.bool kb∧ε 35=.int .i64 e.kids.length∧ε 36=.int .i64 k) (μ:=e.kids.length) ⟨Z,0,true,[],v0,by omega,Z,Z,by simp,by omega,fun i h h0=>absurd h0 (by omega),S,Z,Z,Z,Z,Z,Z⟩ ?_);rintro μ D ε w ⟨rfl,k,kb,css,rest,hk,x0,hl,h4,R2,n1,S,e0,e2,e3,e4,G1,H1⟩;refine r0a 0 e0 (r0a 2 e2 (r0a 3 e3 (r0a 4 e4 (r0a 35 G1 (r0a 36 H1 ?_)))));clear e0 e2 e3 e4 G1 H1;have I1:∀g∈f0::g3::g2::M,g∈M∨w0.heap.size≤g:=by
   intro g hg;simp at hg;rcases hg with rfl|rfl|rfl|hg
   ·right;simpa using S.new 0 Z
   ·right;simpa using S.new 1 Z
   ·right;simpa using S.new 2 Z
   ·exact .inl hg
  have F2:∀g∈f0::g3::g2::M,g<w.heap.size:=by
   intro g hg;simp at hg;rcases hg with rfl|rfl|rfl|hg
   ·exact S.lt 0 Z
   ·exact S.lt 1 Z
   ·exact S.lt 2 Z
   ·have:=hM g hg;have:=S.size;omega
  refine wB0 Z U (fun z2=>?_) fun z2=>?_
  ·refine lC0 Z U (H0a c0a [0,1,2,3,4,5,6,7,8] [9] [10,11] Z (Cl _ _ _ _) (Cl.start S) ?_);refine qO S.q [.o 1] Z ⟨Z,U⟩ ?_;have Y0:k<e.kids.length:=by omega
   obtain⟨bk,ok,_,z1,N2⟩:=O2 (by omega);refine m0a n1a Z (fun w1 hw=>by exact hw.1.old c3) Z ?_;refine qO0 Z U (s0a Q0a.slT Z (by assumption) Z Z ?_);refine qN0 Z U (Q3a ?_);refine e4a (fun v w=>∃cs:List Value,v=.agg cs.toArray∧RdE (f0::g3::g2::M) w (T9a e.kids[k]) cs) Z Z f5c Z (fun v w w' ⟨cs,h,hr⟩ k=>⟨cs,h,RdE.keep k.of_nil _ _ hr⟩) (fun w1 S1 X1=>ih e.kids[k] (List.getElem_mem Y0) (f0::g3::g2::M) _ bk (ok+k*4) (Z0-1) (((RdP.kid z1 N2 k Y0).more I1).keep (S1.keep0 _)) ((hK.more I1).keep (S1.keep0 _)) (O1 _ (List.getElem_mem Y0)) (fun g hg=>Nat.lt_of_lt_of_le (F2 g hg) X1.size)) ?_;refine M1a ?_;rintro z3 ⟨v2,v1⟩;rintro n3 ⟨t0,rfl,g1⟩;dsimp only[x3a];have s0:=g1.length;obtain⟨_,_,_,R0,-⟩:=g1.open_;refine N0a Q0a.slT Z (by rfl) Z Z ?_;refine b0a (kk:=0) (vs:=t0) v2 v0a Z Z (by simp) s0 (by rw[R0];rfl) Z (by rw[Nat.ble_eq,List.length_append,j3a css h4,hl,R2];simp;omega) ?_;intro j1 S8 o0;have M1:css.flatten.length=k*4:=by rw[j3a css h4,hl]
   have T2:d0a (css.flatten++rest) (0+(k:Int).toNat*4) t0=(css++[t0]).flatten++rest.drop 4:=by
    rw[show(0+(k:Int).toNat*4)=css.flatten.length by simp[M1],b7a t0 css.flatten rest (by omega),s0];simp
   have n0:St [] w0 j1 [(some f0,38,(css++[t0]).flatten++rest.drop 4),(some g3,38,[.int .i64 e.op,.int .i64 e.w,.int .i64 e.n,.slice (some ⟨f0,0,none⟩) e.kids.length e.kids.length]),(some g2,38,[.int .i64 0,.int .i64 0,.int .i64 0,.slice none 0 0])]:=by rw[←T2];exact S8
   have C1:((css++[t0]).flatten++rest.drop 4)[0+(k:Int).toNat*4+0]?=some (.int .i64 (T9a e.kids[k]).op):=by
    rw[List.getElem?_append_left (by simp[M1,s0])];have:=r9b (css++[t0]) k t0 (fun x hx=>by rcases List.mem_append.1 hx with hx|hx;exact h4 x hx;simp at hx;subst hx;exact s0) (by rw[List.getElem?_append_right (by omega),hl];simp) 0 (.int .i64 (T9a e.kids[k]).op) (by rw[R0];rfl);simpa using this
   refine lOn 3 n0.k [] Z U ?_;cases W0:kb
   ·refine L0a (hv:=Z) (v:=.bool _) Z ?_;refine lP0 Z ⟨by omega,U⟩ ?_;refine⟨μ-1,by omega,Z,k+1,_,css++[t0],rest.drop 4,by omega,?_,by simp[hl],fun x hx=>?_,by rw[List.length_drop];omega,fun i hi N1=>?_,?_,Z,Z,Z,Z,Z,Z⟩
    ·rw[w5a Y0,←x0];(simp[W0];done)
    ·rcases List.mem_append.1 hx with hx|hx
     ·exact h4 x hx
     ·simp at hx;subst hx;exact s0
    ·by_cases H0:i<k
     ·obtain⟨q,q1,q2⟩:=n1 i hi H0;exact⟨q,by rw[List.getElem?_append_left (by omega)];exact q1,RdE.keep (o0.mono (by simp)) _ _ (RdE.keep v1.of_nil _ _ q2)⟩
     ·obtain rfl:i=k:=by omega
      exact⟨t0,by rw[List.getElem?_append_right (by omega),hl];simp,RdE.keep (o0.mono (by simp)) _ _ g1⟩
    ·exact n0
   refine L0a (hv:=Z) (v:=.bool _) Z ?_;refine lO n0.k [.o 1] Z ⟨Z,U⟩ (N0a Q0a.slT Z (by rfl) Z Z ?_);refine lO0 Z U (J0a B0a Z (n0.cell 0 Z C1) Z ?_);refine lB0 Z U (fun x1=>?_) fun x1=>?_
   ·refine lP0 Z ⟨by omega,U⟩ ?_;refine⟨μ-1,by omega,Z,k+1,_,css++[t0],rest.drop 4,by omega,?_,by simp[hl],fun x hx=>?_,by rw[List.length_drop];omega,fun i hi N1=>?_,?_,Z,Z,Z,Z,Z,Z⟩
    ·rw[w5a Y0,←x0];(simp[W0,x1];done)
    ·rcases List.mem_append.1 hx with hx|hx
     ·exact h4 x hx
     ·simp at hx;subst hx;exact s0
    ·by_cases H0:i<k
     ·obtain⟨q,q1,q2⟩:=n1 i hi H0;exact⟨q,by rw[List.getElem?_append_left (by omega)];exact q1,RdE.keep (o0.mono (by simp)) _ _ (RdE.keep v1.of_nil _ _ q2)⟩
     ·obtain rfl:i=k:=by omega
      exact⟨t0,by rw[List.getElem?_append_right (by omega),hl];simp,RdE.keep (o0.mono (by simp)) _ _ g1⟩
    ·exact n0
   refine lP0 Z ⟨by omega,U⟩ ?_;refine⟨μ-1,by omega,Z,k+1,_,css++[t0],rest.drop 4,by omega,?_,by simp[hl],fun x hx=>?_,by rw[List.length_drop];omega,fun i hi N1=>?_,?_,Z,Z,Z,Z,Z,Z⟩
   ·rw[w5a Y0,←x0];(simp[W0,x1];done)
   ·rcases List.mem_append.1 hx with hx|hx
    ·exact h4 x hx
    ·simp at hx;subst hx;exact s0
   ·by_cases H0:i<k
    ·obtain⟨q,q1,q2⟩:=n1 i hi H0;exact⟨q,by rw[List.getElem?_append_left (by omega)];exact q1,RdE.keep (o0.mono (by simp)) _ _ (RdE.keep v1.of_nil _ _ q2)⟩
    ·obtain rfl:i=k:=by omega
     exact⟨t0,by rw[List.getElem?_append_right (by omega),hl];simp,RdE.keep (o0.mono (by simp)) _ _ g1⟩
   ·exact n0
  refine lP0 Z U ?_;have I0:∀g∈g2::M,g∈f0::g3::g2::M:=fun g hg=>by simp at hg;rcases hg with rfl|hg<;>simp[*]
  have b0:RdE (g2::M) w N [.int .i64 e.op,.int .i64 e.w,.int .i64 e.n,.slice (some ⟨f0,0,none⟩) e.kids.length e.kids.length]:=by
   rw[hN];have P1:(e.kids.map T9a).length=e.kids.length:=by simp
   rw[←P1];refine k2c (css:=css) (rest:=rest) o1 o2 o3 (fun hm=>?_) (S.cells 0 Z) (by simp;omega) h4 (fun i hi=>?_) (by simp;omega)
   ·rcases List.mem_cons.1 hm with hm|hm
    ·exact S.ne 0 2 Z Z (by omega) hm
    ·have h1:=hM _ hm;have h2:=S.new 0 Z;simp at h2;omega
   ·rw[P1] at hi;obtain⟨q,q1,q2⟩:=n1 i hi (by omega);exact⟨q,q1,by rw[List.getElem_map];exact RdE.less I0 _ _ q2⟩
  refine⟨Z,(f0),(g3),(g2),(_),(kb),((by rw[x0,nk,List.all_map,show k=e.kids.length by omega,List.take_length];rfl)),(b0),(y0),S,Z⟩
 rintro D ε w ⟨rfl,f0,g3,g2,row,kb,x0,b0,y0,S,eZ⟩;refine wK eZ ?_;have I0:∀g∈M,g∈g2::M:=fun g hg=>by simp[hg]
 have L2:g3∉M:=fun hm=>by have h1:=hM _ hm;have h2:=S.new 1 Z;simp at h2;omega
 have K0:∀g∈g2::M,g∈M∨w0.heap.size≤g:=fun g hg=>by rcases List.mem_cons.1 hg with rfl|hg;exact .inr (by simpa using S.new 2 Z);exact .inl hg
 refine wOn 3 S.k [] Z U ?_;cases q0:kb
 ·refine L0a (hv:=Z) (v:=.bool _) Z ?_;refine lB S.k [.o 1] Z ⟨Z,U⟩ (fun A2=>?_) fun A2=>?_
  ·obtain⟨a,p1⟩:=m4c (n:=N) (by have:=I1a J0;have:=c1a N.op;omega);have H2:RdE (g2::M) w N [.int .i64 N.op,.int .i64 N.w,.int .i64 N.n,.slice (some ⟨f0,0,none⟩) e.kids.length e.kids.length]:=by rw[Y2,nw,nn];exact b0
   obtain⟨_,_,_,hA,_,K1,B1⟩:=H2.kidC 0 (a:=a) (by rw[p1];rfl);cases hA;obtain⟨_,na,_,rfl,-⟩:=B1.open_;refine lO S.k [.o 1] Z ⟨Z,U⟩ (N0a Q0a.slT Z (by rfl) Z Z ?_);refine lO0 Z U (J0a B0a Z (K1 0 _ Z) Z ?_);refine lB0 Z U (fun m1=>?_) fun m1=>?_
   ·obtain⟨y,A1⟩:=P0 a (by rw[p1];simp) m1;obtain⟨_,_,_,rfl,_,J2,R1⟩:=B1.kidC 0 (a:=y) (by rw[A1];rfl);obtain⟨_,_,_,K2,-,-,-,P2,-⟩:=B1.open_;cases K2;have Q2:na=1:=by rw[P2,A1];rfl
    obtain⟨_,_,_,rfl,-⟩:=R1.open_;refine lO S.k [.o 1] Z ⟨Z,U⟩ (N0a Q0a.slT Z (by rfl) Z Z ?_);refine lO0 Z U (J0a n1a Z (K1 3 _ Z) Z ?_);refine N0a Q0a.slT Z (by rfl) Z Z ?_;refine O2a (hn:=Z) k0a Z J2 Z ?_;refine b0a (kk:=2) (vs:=[_,_,_,_]) S v0a Z Z Z Z Z Z Z ?_;intro f2 A0 L0;dsimp only[d0a,List.set] at A0;replace b0:=RdE.keep (L0.mono (by simp)) _ _ b0;refine lR0 Z U ?_;refine g0a Z k0a Z (A0.cells 2 Z) Z ⟨⟨_,Z,?_⟩,A0.fin⟩;rw[r0 y0,show y4a N=y by unfold y4a;rw[if_neg (by rw[←x0,q0];simp),if_pos (by omega),show N.kids.getD 0 zE=a by rw[p1];rfl,if_pos m1,A1];rfl];exact RdE.less I0 _ _ (RdE.keep (L0.mono (by simp)) _ _ R1)
   refine lO S.k [.w 1] Z ⟨⟨Z,by rfl⟩,U⟩ (b0a (kk:=2) (vs:=[_,_,_,_]) S v0a Z Z Z Z Z Z Z ?_);intro i2 B0 b1;dsimp only[d0a,List.set] at B0;replace b0:=RdE.keep (b1.mono (by simp)) _ _ b0;refine lR0 Z U ?_;refine g0a Z k0a Z (B0.cells 2 Z) Z ⟨⟨_,Z,?_⟩,B0.fin⟩;rw[r0 y0,show y4a N=N by unfold y4a;rw[if_neg (by rw[←x0,q0];simp),if_pos (by omega),show N.kids.getD 0 zE=a by rw[p1];rfl,if_neg m1]];exact RdE.less I0 _ _ b0
  refine lB0 Z U (fun B2=>?_) fun B2=>?_
  ·obtain⟨a,b2,j0⟩:=N8b (n:=N) (by have:=I1a J0;have:=c1a N.op;omega);have f1:a∈N.kids:=by rw[j0];simp
   have Q0:b2∈N.kids:=by rw[j0];simp
   refine lO S.k [.w 1] Z ⟨⟨Z,by rfl⟩,U⟩ ?_;refine p0a S a6b Z Z (n5a N a b2 (g2::M) _ _ (fun g hg=>by rcases List.mem_cons.1 hg with rfl|hg;exact S.lt 2 Z;have:=hM g hg;have:=S.size;omega) b0 ((hK.more K0).keep (S.keep0 _)) j0 (X0 b2 Q0) (P0 a f1) (P0 b2 Q0)) ?_;rintro a2 n2 ⟨F1,rfl,S0⟩ a1 d1;replace b0:=RdE.keep (d1.of_nil) _ _ b0;have rr:=S0;obtain⟨D1,T1,U1,rfl,-⟩:=S0.open_;refine b0a (kk:=2) (vs:=[_,_,_,_]) a1 v0a Z Z Z Z Z Z Z ?_;intro T0 a0 d0;dsimp only[d0a,List.set] at a0;replace b0:=RdE.keep (d0.mono (by simp)) _ _ b0;refine lR0 Z U ?_;refine g0a Z k0a Z (a0.cells 2 Z) Z ⟨⟨_,Z,?_⟩,a0.fin⟩;rw[r0 y0,show y4a N=q6a N a b2 by unfold y4a;rw[if_neg (by rw[←x0,q0];simp),if_neg (by omega),if_pos (by omega),j0];rfl];exact RdE.less I0 _ _ (RdE.keep (d0.mono (by simp)) _ _ rr)
  refine lB0 Z U (fun C2=>?_) fun C2=>?_
  ·obtain⟨a,b2,j0⟩:=N8b (n:=N) (by have:=I1a J0;have:=c1a N.op;omega);have f1:a∈N.kids:=by rw[j0];simp
   have Q0:b2∈N.kids:=by rw[j0];simp
   refine lO S.k [.w 1] Z ⟨⟨Z,by rfl⟩,U⟩ ?_;refine p0a S a6b Z Z (n5a N a b2 (g2::M) _ _ (fun g hg=>by rcases List.mem_cons.1 hg with rfl|hg;exact S.lt 2 Z;have:=hM g hg;have:=S.size;omega) b0 ((hK.more K0).keep (S.keep0 _)) j0 (X0 b2 Q0) (P0 a f1) (P0 b2 Q0)) ?_;rintro a2 n2 ⟨F1,rfl,S0⟩ a1 d1;replace b0:=RdE.keep (d1.of_nil) _ _ b0;have rr:=S0;obtain⟨D1,T1,U1,rfl,-⟩:=S0.open_;refine b0a (kk:=2) (vs:=[_,_,_,_]) a1 v0a Z Z Z Z Z Z Z ?_;intro T0 a0 d0;dsimp only[d0a,List.set] at a0;replace b0:=RdE.keep (d0.mono (by simp)) _ _ b0;refine lR0 Z U ?_;refine g0a Z k0a Z (a0.cells 2 Z) Z ⟨⟨_,Z,?_⟩,a0.fin⟩;rw[r0 y0,show y4a N=q6a N a b2 by unfold y4a;rw[if_neg (by rw[←x0,q0];simp),if_neg (by omega),if_pos (by omega),j0];rfl];exact RdE.less I0 _ _ (RdE.keep (d0.mono (by simp)) _ _ rr)
  refine lB0 Z U (fun D2=>?_) fun D2=>?_
  ·obtain⟨a,b2,j0⟩:=N8b (n:=N) (by have:=I1a J0;have:=c1a N.op;omega);have f1:a∈N.kids:=by rw[j0];simp
   have Q0:b2∈N.kids:=by rw[j0];simp
   refine lO S.k [.w 1] Z ⟨⟨Z,by rfl⟩,U⟩ ?_;refine p0a S a6b Z Z (n5a N a b2 (g2::M) _ _ (fun g hg=>by rcases List.mem_cons.1 hg with rfl|hg;exact S.lt 2 Z;have:=hM g hg;have:=S.size;omega) b0 ((hK.more K0).keep (S.keep0 _)) j0 (X0 b2 Q0) (P0 a f1) (P0 b2 Q0)) ?_;rintro a2 n2 ⟨F1,rfl,S0⟩ a1 d1;replace b0:=RdE.keep (d1.of_nil) _ _ b0;have rr:=S0;obtain⟨D1,T1,U1,rfl,-⟩:=S0.open_;refine b0a (kk:=2) (vs:=[_,_,_,_]) a1 v0a Z Z Z Z Z Z Z ?_;intro T0 a0 d0;dsimp only[d0a,List.set] at a0;replace b0:=RdE.keep (d0.mono (by simp)) _ _ b0;refine lR0 Z U ?_;refine g0a Z k0a Z (a0.cells 2 Z) Z ⟨⟨_,Z,?_⟩,a0.fin⟩;rw[r0 y0,show y4a N=q6a N a b2 by unfold y4a;rw[if_neg (by rw[←x0,q0];simp),if_neg (by omega),if_pos (by omega),j0];rfl];exact RdE.less I0 _ _ (RdE.keep (d0.mono (by simp)) _ _ rr)
  refine lB0 Z U (fun E2=>?_) fun E2=>?_
  ·obtain⟨t,a,b2,j0⟩:=E0d (n:=N) (by have:=I1a J0;have:=c1a N.op;omega);have V2:t∈N.kids:=by rw[j0];simp
   refine lO S.k [.w 1] Z ⟨⟨Z,by rfl⟩,U⟩ ?_;refine p0a S q9c Z Z (m2c N t a b2 (g2::M) _ _ (fun g hg=>by rcases List.mem_cons.1 hg with rfl|hg;exact S.lt 2 Z;have:=hM g hg;have:=S.size;omega) b0 j0 (P0 t V2)) ?_;rintro r3 v3 ⟨_,rfl,Y1⟩ t2 x2;replace b0:=RdE.keep (x2.of_nil) _ _ b0;have rr:=Y1;obtain⟨_,_,_,rfl,-⟩:=Y1.open_;refine b0a (kk:=2) (vs:=[_,_,_,_]) t2 v0a Z Z Z Z Z Z Z ?_;intro j2 C0 N0;dsimp only[d0a,List.set] at C0;replace b0:=RdE.keep (N0.mono (by simp)) _ _ b0;refine lR0 Z U ?_;refine g0a Z k0a Z (C0.cells 2 Z) Z ⟨⟨_,Z,?_⟩,C0.fin⟩;rw[r0 y0,show y4a N=U6a N t a b2 by unfold y4a;rw[if_neg (by rw[←x0,q0];simp),if_neg (by omega),if_neg (by omega),if_pos (by omega),j0];rfl];exact RdE.less I0 _ _ (RdE.keep (N0.mono (by simp)) _ _ rr)
  have Q1:5≤N.op∧N.op≤10:=by have:=I1a J0;have:=c1a N.op;omega
  obtain⟨a,b2,j0⟩:=N8b (n:=N) (by have:=I1a J0;have:=c1a N.op;omega);have r1:=(s0b Q1).1 J0;refine lO S.k [.w 1] Z ⟨⟨Z,by rfl⟩,U⟩ ?_;refine p0a S m9c Z Z (m4b N a b2 (g2::M) _ _ b0 ((hK.more K0).keep (S.keep0 _)) j0 ⟨r1.1,r1.2.1⟩ (by have:=r1.2.2.2.2.1;rw[E.kw,j0] at this;simpa using this) (by have:=r1.2.2.2.2.2;rw[E.kw,j0] at this;simpa using this) Q1) ?_;rintro s3 x3 ⟨_,rfl,Z1⟩ u2 y2;replace b0:=RdE.keep (y2.of_nil) _ _ b0;have rr:=Z1;obtain⟨_,_,_,rfl,-⟩:=Z1.open_;refine b0a (kk:=2) (vs:=[_,_,_,_]) u2 v0a Z Z Z Z Z Z Z ?_;intro m2 D0 O0;dsimp only[d0a,List.set] at D0;replace b0:=RdE.keep (O0.mono (by simp)) _ _ b0;refine lR0 Z U ?_;refine g0a Z k0a Z (D0.cells 2 Z) Z ⟨⟨_,Z,?_⟩,D0.fin⟩;rw[r0 y0,show y4a N=opS N a b2 by unfold y4a;rw[if_neg (by rw[←x0,q0];simp),if_neg (by omega),if_neg (by omega),if_neg (by omega),j0];rfl];exact RdE.less I0 _ _ (RdE.keep (O0.mono (by simp)) _ _ rr)
 refine L0a (hv:=Z) (v:=.bool _) Z ?_;refine lC0 Z U (H0a c0a [1,2] [0] [3,4] Z (Cl _ _ _ _) (Cl.start S) ?_);refine qN S.q [.o 1] Z ⟨Z,U⟩ (Q3a ?_);refine e4a (_) Z Z A0c Z (fun _ _ _ h _=>h) (fun w1 S1 X1=>v8b N M _ g3 0 (.slice none 0 0) (.slice none 0 0) [] [] Z0 ⟨L2,_,S1.cells 1 Z,RdE.keep X1.of_nil _ _ (RdE.less I0 _ _ b0)⟩ (hK.keep (S1.keep0 M)) u0b u0b y1) ?_;refine M1a ?_;rintro b3 ⟨s1,_⟩;rintro p3 rfl;dsimp only[x3a];have j3:=m2a y1 [] [];have W2:i64 (N.val [] []):=by have:=F9a (h:=(by have:=I1a J0;omega)) N.w.toNat 8;have e8:o2a 8=256:=(by decide);unfold i64;omega
 refine p0a s1 o4a Z Z (N1a (N.val [] []) e.w W2 o2 M _) ?_;rintro q3 u3 ⟨_,rfl,W1⟩ s2 f3;obtain⟨_,_,_,rfl,-⟩:=W1.open_;refine b0a (kk:=2) (vs:=[_,_,_,_]) s2 v0a Z Z Z Z Z Z Z ?_;intro d2 z0 E1;dsimp only[d0a,List.set] at z0;refine lR0 Z U ?_;refine g0a Z k0a Z (z0.cells 2 Z) Z ⟨⟨_,Z,?_⟩,z0.fin⟩;rw[r0 y0,show y4a N=⟨1,e.w,N.val [] [],[]⟩ by unfold y4a;rw[if_pos (x0.symm.trans q0),nw]];exact RdE.leafAny W1
theorem U5b(e:E)(M:List Nat)(w0:World)(cs:List Value)(hR:RdE M w0 e cs)(hK:f2a M w0)(hM:∀g∈M,g<w0.heap.size):
 O0a prog 52 #[.agg cs.toArray] w0 fun v w'=>(∃cs:List Value,v=.agg cs.toArray∧RdE M w' (j9b e) cs)∧Below w0.heap.size w0 w':=by
 obtain⟨_,k,_,rfl,-⟩:=hR.open_;have S:=St.refl w0;refine a0a func52 Z ntmps52 Z ?_;refine wO0 Z U (q0a S Z ?_);intro g1 w1 S1 X1 G1;refine h0a S1 r1a Z Z ?_;intro g2 w2 S2 X2 G2;refine lO S2.k [.w 1] Z ⟨⟨Z,by rfl⟩,U⟩ (f0a S2 t8a Z Z (k2a e M _ _ (RdE.keep (S2.keep0 M) _ _ hR) (hK.keep (S2.keep0 M))) (fun h4 w4 S4 X4=>?_) (fun h4 w4 S4 X4=>?_))
 ·refine lO0 Z U ?_;have d0:∀g∈g2::M,g∈M∨w0.heap.size≤g:=fun g hg=>by rcases List.mem_cons.1 hg with rfl|hg;exact .inr (by simpa using S4.new 0 Z);exact .inl hg
  have f0:g1∉g2::M:=fun hm=>by
   rcases List.mem_cons.1 hm with hm|hm
   ·exact S4.ne 0 1 Z Z (by omega) hm.symm
   ·have h1:=hM _ hm;have h2:=S4.new 1 Z;simp at h2;omega
  refine p0a S4 f5c Z Z (g6b e (g2::M) _ g1 0 40 ⟨f0,_,S4.cells 1 Z,RdE.keep (S4.keep0 _) _ _ (RdE.more d0 _ _ hR)⟩ ((hK.more d0).keep (S4.keep0 _)) (N4a h4) (fun g hg=>by rcases List.mem_cons.1 hg with rfl|hg;exact S4.lt 0 Z;have:=hM g hg;have:=S4.size;omega)) ?_;rintro v7 w7 ⟨_,rfl,r7⟩ S7 X7;have rr:=r7;obtain⟨_,_,_,rfl,-⟩:=r7.open_;refine b0a (kk:=0) (vs:=[_,_,_,_]) S7 v0a Z Z Z Z Z Z Z ?_;intro i0 b0 c0;dsimp only[d0a,List.set] at b0;refine lR0 Z U ?_;exact g0a Z k0a Z (b0.cells 0 Z) Z ⟨⟨_,Z,by rw[show j9b e=T9a e from if_pos h4];exact RdE.less (fun g hg=>List.mem_cons_of_mem _ hg) _ _ (RdE.keep (c0.mono (by simp)) _ _ rr)⟩,b0.fin⟩
 refine lO0 Z U (i1a J2a (vs:=[]) (cs:=[_,_,_,_]) Z Z Z Z ?_);refine b0a (kk:=0) (vs:=[_,_,_,_]) S4 v0a Z Z Z Z Z Z Z ?_;intro g0 a0 e0;dsimp only[d0a,List.set] at a0;refine lR0 Z U ?_;exact g0a Z k0a Z (a0.cells 0 Z) Z ⟨⟨_,Z,by rw[show j9b e=zE from if_neg (by rw[h4];simp)];exact P1a (by unfold i64;omega) (by unfold i64;omega) (by unfold i64;omega)⟩,a0.fin⟩
theorem x2c{l acc s:List Int}(hs:s.Pairwise (·<·))(hm:∀x,x∈s↔x∈l)(hn:l.Nodup)(a0:acc.Perm l):h3a acc=s:=by
 have hp:(h3a acc).Perm acc:=List.mergeSort_perm acc _;refine M1b _ _ ?_ hs fun x=>?_
 ·have h1:(h3a acc).Pairwise fun x y=>decide (x≤y)=true:=List.pairwise_mergeSort (fun a b c h1 h2=>by simp at *;omega) (fun a b=>by simp;omega) acc;have h2:(h3a acc).Nodup:=(hp.trans a0).nodup_iff.2 hn;exact(h1.and h2).imp fun⟨h3,h4⟩=>by simp at h3;omega
 ·rw[hm];exact(hp.trans a0).mem_iff
theorem h6a(p:i0a)(M:List Nat)(w0:World)(cs:List Value)(hI:InP p M w0 cs):
 O0a prog 49 #[.agg cs.toArray] w0 fun v w'=>v=.bool true∧Below w0.heap.size w0 w':=by
 obtain⟨_,_,_,_,_,_,_,_,_,_,_,_,rfl,_⟩:=hI.rd.open_;have S:=St.refl w0;refine a0a func49 Z ntmps49 Z ?_;refine wO0 Z U (q0a S Z ?_);intro g1 w1 S1 X1 G1;refine lO S1.k [.w 0] Z ⟨⟨Z,by rfl⟩,U⟩ (U0a S1 C4b Z Z (q7a p M _ _ (hI.keep (S1.keep0 M)).rd hI.ok (hI.keep (S1.keep0 M)).msk (hI.keep (S1.keep0 M)).lt) ?_);intro w8 S8 X8;refine lB0 Z U (fun a0=>?_) (fun a0=>by exfalso;omega);exact lT Z U Z ⟨Z,S8.fin⟩
theorem M9a(b:Nat)(l s:List Int)(hs:s.Pairwise (·<·))(hm:∀x,x∈s↔x∈l)(hn:l.Nodup)(hok:∀x∈l,i64 x)(w0:World)(Ms:u7a (Value.int .i64) w0 b l)(J0:l.length≤100000:=by omega):
 O0a prog 50 #[.map (some b)] w0 fun v w'=>v3a 3 w0 w' v s∧Below w0.heap.size w0 w':=by
 have S:=(St.refl w0).nilEnt 3;have I0:=Ms.lt;refine a0a func50 Z ntmps50 Z ?_;refine wOn 7 S.k [] Z U (D0a Z ?_);refine lO0 Z U ?_;have r0:=Ms.keep (S.keep0 []) List.not_mem_nil;refine r7b S Tryz.underlying108 r0 Z Z ?_;intro q6 w6 S6 X6 G6 It;have B0:w0.heap.size≤q6:=Nat.le_trans S.size G6;refine lC0 Z U (wL (fun μ D ε w=>D=[]∧∃G:Option Nat,∃g0:List Value,∃v:Value,∃acc:List Int,∃a0:List Int,∃p0:Option Int,(a0.length=μ)∧(g7a (Value.int .i64) w b q6 a0 p0)∧((acc++a0).Perm l)∧(w1a H6b 1 [] w0 G g0 v acc)∧St [] w0 w [(G,3,g0)]∧Sl ε [(3,v),(6,.pointer (some ⟨q6,0,none⟩))]) (μ:=l.length) ⟨Z,none,[],.slice none 0 0,[],l,none,Z,It,List.Perm.refl _,w1a.nil,S6,Z⟩ ?_);rintro μ D ε w ⟨rfl,G,g0,v,acc,a0,p0,_,It,c0,e0,S,eZ⟩;refine wK eZ (wO0 Z U ?_);refine i0c S It (.inl B0) Z Z (fun hz=>?_) (fun a f0 v7 w7 j0 S7 X7 n0=>?_)
 ·have D0:=x2c (acc:=acc) hs hm hn (by rw[hz,List.append_nil] at c0;exact c0);have C0:=e0.toV;have A0:=c0.length_eq;rw[List.length_append] at A0;have K0:(h3a acc).length=acc.length:=by simp[h3a]
  refine lOn 9 S.k [] Z U (L0a Z ?_);refine V1a Y0c Z Z (v2b _ G _ g0 v acc C0 (fun g hg=>by subst hg;exact S.blk 0 Z) (by omega)) ?_;rintro N0 Q0 ⟨cs2,q0,i0,m0⟩;have d0:=S.changedO 0 Z q0 i0;dsimp only[List.set] at d0;refine lOn 4 d0.k [] Z U (L0a Z ?_);refine D0a Z ?_;refine lR0 Z U (w0a Z ?_);rw[←D0];exact⟨⟨G,cs2,m0,fun g hg=>by subst hg;exact⟨by simpa using d0.new 0 Z,d0.blk 0 Z⟩⟩,d0.fin⟩
 refine lO0 Z U ?_;have z0:=c0.length_eq;rw[List.length_append] at z0;have x0:=j0.length_eq;rw[List.length_cons] at x0;have y0:i64 a:=hok a (c0.subset (List.mem_append_right _ (j0.symm.subset (by simp))));refine F7b n0 Z Z (fun v9=>?_);have KI:=z0a.refl G.toList w7;refine lOn 5 S7.k [] Z U (L0a Z ?_);refine lO0 Z U (y0a S7 Y0a (vs:=[.int .i64 _]) (cs:=[_]) Z Z Z Z Z Z ?_);intro H0 O0 o0 t0 F0;replace KI:=KI.trans (t0.of_nil);refine E1a U7a (k:=1) (M2:=[]) (e1:=a) o0 Y0a Z e0 Z Z (o0.cells 0 Z) ⟨Z,y0⟩ (by omega) Z ?_;intro L0 G0 v0 P0 s0 b0 u0 E0;refine D0a Z ?_;refine lP0 Z U ⟨μ-1,by omega,Z,(_),(_),(_),(acc++[a]),(f0),(some a),?_,?_,?_,?_,s0.tail,Z⟩
 ·omega
 ·exact n0.keepC (KI.trans u0) (S7.optBlk 0 Z)
 ·rw[List.append_assoc];exact(j0.symm.append_left acc).trans c0
 ·exact b0
def D5a(p:i0a)(m:Nat)(s:List Int):Prop:=s.Pairwise (·<·)∧∀x,x∈s↔V5a p p.threads.length (x,(m:Int))
def w2a(p:i0a)(s:List Int):E×Int :=
 if s.all (fun x=>decide ((p2a p x).op≠0)) then
  (if(x2a 6 0 (s.map (p2a p))).op=0 then(zE,2) else if(j9b (x2a 6 0 (s.map (p2a p)))).op=0 then(zE,2) else(j9b (x2a 6 0 (s.map (p2a p))),0))
 else(zE,2)
theorem X7b{p:i0a}(hp:L1a p){x:Int×Int}(h:V5a p p.threads.length x):0≤x.1∧x.1<p.modules.length:=by
 obtain⟨_,_,_,_,_,s,_,_,_,h3,_,h5,_,rfl⟩:=h;exact((hp.thread h3).steps s h5).mod
theorem j7a{l:List Int}(hn:l.Nodup):∃s:List Int,s.Pairwise (·<·)∧(∀x,x∈s↔x∈l)∧s.length=l.length:=by
 have hp:(h3a l).Perm l:=List.mergeSort_perm l _;refine⟨h3a l,?_,fun x=>hp.mem_iff,hp.length_eq⟩;have h1:(h3a l).Pairwise fun x y=>decide (x≤y)=true:=List.pairwise_mergeSort (fun a b c h1 h2=>by simp at *;omega) (fun a b=>by simp;omega) l;exact(h1.and (hp.nodup_iff.2 hn)).imp fun⟨h3,h4⟩=>by simp at h3;omega
theorem InP.newL{p:i0a}{M M':List Nat}{w0 w:World}{cs:List Value}(h:InP p M w0 cs)(hk:z0a M' w0 w)(hM:∀g∈M',g∈M∨w0.heap.size≤g)(hl:∀g∈M',g<w.heap.size):InP p M' w cs :=
 ⟨(h.rd.more hM).keep hk,h.ok,(h.msk.more hM).keep hk,hl⟩
theorem K5a(p:i0a)(m:Nat)(hm:m<p.modules.length)(M:List Nat)(w0:World)(cs:List Value)(hI:InP p M w0 cs):
 O0a prog 17 #[.agg cs.toArray,.int .i64 m] w0 fun v w'=>(∃s ys,D5a p m s∧v=.tuple #[.agg ys.toArray,.int .i64 (w2a p s).2]∧RdE M w' (w2a p s).1 ys)∧Below w0.heap.size w0 w':=by
 obtain⟨Ac,nc,cc,Am,nm,cm,Al,nl,cl,At,nt,ct,rfl,_⟩:=hI.rd.open_;have S:=(St.refl w0).nilEnt 38;have hM:=hI.lt;have hp:=hI.ok;have n3:=hp.nmodules;refine a0a func17 Z ntmps17 Z ?_;refine wO0 Z U (q0a S Z ?_);intro g2 w2 S2 X2 G2;refine h0a S2 r1a Z Z ?_;intro g4 w4 S4 X4 G4;refine lB0 Z U (fun b2=>by exfalso;omega) fun b2=>?_;refine lB S4.k [.o 1] Z ⟨Z,U⟩ (fun d2=>by exfalso;omega) fun d2=>?_;refine lO S4.k [.w 1] Z ⟨⟨Z,Z⟩,U⟩ (U0a S4 d5b Z Z (h6a p M _ _ (hI.keep (S4.keep0 M))) ?_);intro O2 m1 u2;refine lO0 Z U (n3a (k:=3) m1 Z ?_);intro t0 P2 H0 v2 r2 N0;have D0:w0.heap.size≤t0:=by have:=m1.size;omega
 have Ms:=u7a.mk_ (enc:=Value.int .i64) N0;refine lO H0.k [.w 1] Z ⟨⟨Z,Z⟩,U⟩ ?_;refine p0a H0 R5c Z Z (i1b p (t0::M) _ _ (hI.newL (H0.keep0 _) (fun x hx=>by rcases List.mem_cons.1 hx with rfl|hx;exact .inr D0;exact .inl hx) (fun x hx=>by rcases List.mem_cons.1 hx with rfl|hx;exact Ms.lt;have:=hM x hx;have:=H0.size;omega))) ?_;rintro F2 E1 ⟨lp,hP,_,h2,_⟩ K1 T1;replace Ms:=Ms.keep T1 (List.not_mem_nil);obtain⟨Ap,np,cp,rfl⟩:=hP.form;have E2:=hP.len.1;have KP:=z0a.refl [t0] E1;refine lC0 Z U (wL (fun μk D ε w=>D=[]∧∃k:Nat,∃l1:List Int,(k+μk=(lp.length))∧(u7a (Value.int .i64) w t0 l1)∧(∀y,y∈l1↔(y,(m:Int))∈lp.take k)∧(l1.Nodup)∧(∀y∈l1,i64 y)∧(l1.length≤k)∧(z0a [t0] E1 w)∧St [] w0 w [(some g4,38,[.int .i64 0,.int .i64 0,.int .i64 0,.slice none 0 0]),(some g2,27,[.slice Ac nc cc,.slice Am nm cm,.slice Al nl cl,.slice At nt ct]),(none,38,[])]∧Sl ε [(1,.int .i64 m),(2,.pointer (some ⟨g2,0,none⟩)),(4,.pointer (some ⟨g4,0,none⟩)),(6,.map (some t0)),(31,.slice Ap np cp),(32,.int .i64 np),(33,.int .i64 k)]) (μ:=(lp.length)) ⟨Z,0,[],by omega,Ms,(by simp),List.nodup_nil,(by simp),by simp,KP,K1,Z⟩ ?_);rintro μk D ε w ⟨rfl,k,l1,hk,Ms,c1,J0,q0,_,KP,S,eZ⟩;refine wK eZ (wB0 Z U (fun e2=>?_) fun e2=>?_)
 ·obtain⟨x,W1,i2,Y1,u1,W0,_,b1,Z0,f1⟩:=RdS.get (hP.keep (KP.mono (by simp))) (k) (by omega);obtain⟨a2,G0,_⟩:=f1;obtain rfl:Y1=[Value.int .i64 x.1,.int .i64 x.2]:=a2;refine lO (S.k.b Z0) [.x W1 i2,.v 0] Z ⟨⟨Z,b1⟩,⟨W0,by omega⟩,U⟩ (h0a S g1d Z Z ?_);intro g8 w8 S8 X8 G8;have L0:=Nat.le_trans KP.size G8;replace KP:=KP.trans (X8.of_nil);replace Ms:=Ms.keep X8 (List.not_mem_nil);refine b0a (kk:=0) (vs:=[_,_]) S8 p6c Z Z Z Z Z Z Z ?_;intro p2 n0 C0;dsimp only[d0a,List.set] at n0;replace KP:=KP.fresh2 C0 (by exact .inl L0);replace Ms:=Ms.keep C0 (fun hh=>by rw[List.mem_singleton] at hh;exact Ms.ne (S8.blk 0 Z) hh);refine lO0 Z U (A3a r1b Z Z Z ?_);refine J0a B0a Z (by exact n0.cell 0 Z Z) Z ?_;refine lB0 Z U (fun T0=>?_) fun T0=>?_
  ·refine lO0 Z U (A3a r1b Z Z Z ?_);refine J0a B0a Z (by exact n0.cell 0 Z Z) Z ?_;refine y2b (k:=3) n0 (Go.Maps.int_keyed Tryz.underlying3) Tryz.underlying108 b4b (fun a ha=>⟨_,x5a (q0 a ha)⟩) ⟨_,x5a G0⟩ Ms Z Z Z (.inl D0) ?_;intro q2 O0 R0 H1;replace KP:=KP.trans R0;refine lP0 Z ⟨by omega,U⟩ ⟨μk-1,by omega,Z,(k+1),?_,(by omega),?_,?_,?_,?_,?_,(KP),O0.tail,Z⟩;exact insL l1 x.1
   ·exact H1
   ·intro y;rw[E4a,c1,t0a u1,List.mem_append,List.mem_singleton,←T0,show(y,x.2)=x↔y=x.1 from⟨fun h=>by rw[←h],fun h=>by rw[h]⟩]
   ·exact c8a J0
   ·intro y hy;rcases E4a.1 hy with h|h;exact q0 y h;subst h;exact G0
   ·exact Nat.le_trans b2b (by omega)
  refine lP0 Z ⟨by omega,U⟩ ⟨μk-1,by omega,Z,(k+1),?_,(by omega),?_,?_,?_,?_,?_,(KP),n0.tail,Z⟩;exact l1
  ·exact Ms
  ·intro y;rw[c1,t0a u1,List.mem_append,List.mem_singleton];exact⟨.inl,fun h=>h.elim id (fun h=>absurd (by rw[←h]) T0)⟩
  ·exact J0
  ·exact q0
  ·omega
 obtain⟨s,hs,t1,_⟩:=j7a J0;have E0:D5a p m s:=⟨hs,fun y=>by rw[t1,c1,show k=lp.length by omega,List.take_length,h2]⟩;have s1:∀y∈s,0≤y∧y<p.modules.length:=fun y hy=>X7b hp ((E0.2 y).1 hy);refine lOn 8 S.k [] Z U (D0a Z ?_);refine lO0 Z U ?_;refine p0a S n5c Z Z (z8a (M:=g4::M) (M9a t0 l1 s hs t1 J0 q0 _ Ms) (s1b S 0 Z hM) (fun y hy=>by have:=s1 y hy;unfold i64;omega)) ?_;rintro v46 j1 d1 M1 x2;obtain⟨Ao,no,co,rfl⟩:=d1.form;have D2:=d1.len.1;have KS:=z0a.refl [] j1;refine lC0 Z U (wL (fun μk D ε w=>D=[]∧∃k:Nat,∃G:Option Nat,∃cs2:List Value,∃v:Value,(k+μk=(s.length))∧(V2b (g4::M) w G cs2 v ((s.take k).map (p2a p)))∧(∀g∈G.toList,j1.heap.size≤g∨g∈([]:List Nat))∧(∀x∈s.take k,(p2a p x).op≠0)∧(z0a [] j1 w)∧St [] w0 w [(some g4,38,[.int .i64 0,.int .i64 0,.int .i64 0,.slice none 0 0]),(some g2,27,[.slice Ac nc cc,.slice Am nm cm,.slice Al nl cl,.slice At nt ct]),(G,38,cs2)]∧Sl ε [(2,.pointer (some ⟨g2,0,none⟩)),(4,.pointer (some ⟨g4,0,none⟩)),(9,v),(46,.slice Ao no co),(47,.int .i64 no),(48,.int .i64 k)]) (μ:=(s.length)) ⟨Z,0,none,[],.slice none 0 0,by omega,V2b.nil,by simp,by simp,KS,M1,Z⟩ ?_);rintro μk D ε w ⟨rfl,k,G,cs2,v,hk,F0,r1,hz,KS,S,eZ⟩;refine wK eZ ?_;have KQ:=z0a.refl (G.toList++g4::M) w;refine wB0 Z U (fun f2=>?_) fun f2=>?_
 ·obtain⟨m2,X1,j2,_,r0,X0,_,_,a1,g1⟩:=RdS.get (d1.keep KS.of_nil) (k) (by omega);obtain⟨rfl,_⟩:=id g1;have C2:=s1 m2 (e0a r0);obtain⟨md,i1⟩:∃md,p.modules[m2.toNat]?=some md:=⟨_,List.getElem?_eq_getElem (by omega)⟩;refine lO (S.k.b a1) [.x X1 j2,.f 0 0,.w 1] Z ⟨⟨Z,Z⟩,Z,⟨X0,by omega⟩,U⟩ (p0a S S0d Z Z ((show((m2.toNat:Nat):Int)=m2 by omega)▸z9b p m2.toNat md i1 (G.toList++g4::M) _ _ ⟨(hI.rd.more (fun x hx=>C3a S x (A5a 2 Z (n3b 0 Z) x hx))).keep (S.keep0 _),hp,(hI.msk.more (fun x hx=>C3a S x (A5a 2 Z (n3b 0 Z) x hx))).keep (S.keep0 _),fun x hx=>F4a S hM x (A5a 2 Z (n3b 0 Z) x hx)⟩) ?_);rintro H2 n2 ⟨_,rfl,v1⟩ N1 q1;replace KS:=KS.trans (q1.of_nil);replace KQ:=KQ.trans (q1.of_nil);obtain⟨_,_,_,rfl,-⟩:=v1.open_;have KR:=z0a.refl (G.toList++g4::M) n2;refine h0a N1 r1a Z Z ?_;intro A2 L2 I1 P0 K0;have x0:=Nat.le_trans KS.size K0;have u0:=Nat.le_trans KQ.size K0;have v0:=Nat.le_trans KR.size K0;replace KS:=KS.trans (P0.of_nil);replace KQ:=KQ.trans (P0.of_nil);replace KR:=KR.trans (P0.of_nil);refine b0a (kk:=0) (vs:=[_,_,_,_]) I1 v0a Z Z Z Z Z Z Z ?_;intro x1 b0 o0;dsimp only[d0a,List.set] at b0;replace KS:=KS.fresh2 o0 (by exact .inl x0);replace KQ:=KQ.fresh2 o0 (by exact .inl u0);replace KR:=KR.fresh2 o0 (by exact .inl v0);refine lB b0.k [.o 0] Z ⟨Z,U⟩ (fun U0=>?_) fun U0=>?_
  ·refine lO0 Z U (i1a J2a (vs:=[]) (cs:=[_,_,_,_]) Z Z Z Z ?_);refine b0a (kk:=1) (vs:=[_,_,_,_]) b0 v0a Z Z Z Z Z Z Z ?_;intro y1 g0 o1;dsimp only[d0a,List.set] at g0;refine lR0 Z U ?_;have hv:w2a p s=(zE,2):=by unfold w2a;rw[if_neg];intro hh;exact(of_decide_eq_true (List.all_eq_true.1 hh m2 (e0a r0))) U0
   exact a2a (v:=.int .i64 2) Z k0a Z (g0.cells 1 Z) Z Z ⟨⟨s,[.int .i64 0,.int .i64 0,.int .i64 0,.slice none 0 0],E0,by rw[hv],by rw[hv];exact P1a (by unfold i64;omega) (by unfold i64;omega) (by unfold i64;omega)⟩,g0.nil.fin⟩
  refine lOn 6 b0.k [] Z U (L0a Z ?_);refine lO b0.k [.w 0] Z ⟨⟨Z,by rfl⟩,U⟩ (y0a b0 Q0a (vs:=[.agg _]) (cs:=[_,_,_,_]) Z Z Z Z Z Z ?_);intro B2 Q2 n1 Q0 s2;replace KS:=KS.trans (Q0.of_nil);replace KQ:=KQ.trans (Q0.of_nil);replace KR:=KR.trans (Q0.of_nil);have d0:=F0.keep KQ;refine E1a V3a (k:=4) (M2:=g4::M) (e1:=p2a p m2) n1 Q0a Z d0 Z Z (n1.cells 0 Z) (RdE.keep KR _ _ v1) (by simp;omega) Z ?_;intro I2 t2 Z1 R2 O1 d0 U1 F1;have V1:=KS.size;replace KS:=KS.freshL U1 r1;refine D0a Z ?_;refine lP0 Z ⟨by omega,U⟩ ⟨μk-1,by omega,Z,(k+1),(_),(_),(_),(by omega),?_,?_,?_,(KS),O1.tail.tail,Z⟩
  ·rw[t0a r0,List.map_append];exact d0
  ·intro g hg;rcases F1 g hg with h|h;exact r1 g h;exact .inl (Nat.le_trans V1 h)
  ·intro y hy;rw[t0a r0] at hy;rcases List.mem_append.1 hy with h|h;exact hz y h;rw[List.mem_singleton.1 h];exact U0
 refine lOn 8 S.k [] Z U (L0a Z ?_);have Y0:RdL (g4::M) w v (s.map (p2a p)):=by
  have hr:=F0;rw[List.take_of_length_le (by omega)] at hr;exact hr.rdL S (k:=2) Z (fun g hg hh=>by
   subst hg;rcases List.mem_cons.1 hh with hh|hh
   ·exact S.ne 0 2 Z Z (by omega) hh.symm
   ·exact p3a S (k:=2) Z hM hh) (by simp;omega)
 refine p0a S b2d Z Z (n1d (s.map (p2a p)) (g4::M) _ _ Y0 (s1b S 0 Z hM) ((hI.msk.more (i5a S (k:=0) Z)).keep (S.keep0 _))) ?_;rintro J2 o2 ⟨_,rfl,w1⟩ P1 y2;obtain⟨_,_,_,rfl,-⟩:=w1.open_;have f0:=z0a.refl (g4::M) o2;refine h0a P1 r1a Z Z ?_;intro S0 N2 J1 R1 G1;have e0:=Nat.le_trans f0.size G1;replace f0:=f0.trans (R1.of_nil);refine b0a (kk:=0) (vs:=[_,_,_,_]) J1 v0a Z Z Z Z Z Z Z ?_;intro z1 a0 y0;dsimp only[d0a,List.set] at a0;replace f0:=f0.fresh2 y0 (by exact .inl e0);refine lB a0.k [.o 0] Z ⟨Z,U⟩ (fun I0=>?_) fun I0=>?_
 ·refine lO0 Z U (i1a J2a (vs:=[]) (cs:=[_,_,_,_]) Z Z Z Z ?_);refine b0a (kk:=1) (vs:=[_,_,_,_]) a0 v0a Z Z Z Z Z Z Z ?_;intro A1 i0 p1;dsimp only[d0a,List.set] at i0;refine lR0 Z U ?_;have hv:w2a p s=(zE,2):=by have p0:s.all (fun x=>decide ((p2a p x).op≠0))=true:=List.all_eq_true.2 (fun x hx=>decide_eq_true (hz x (by rw[List.take_of_length_le (by omega)];exact hx)));unfold w2a;rw[if_pos p0,if_pos I0]
  exact a2a (v:=.int .i64 2) Z k0a Z (i0.cells 1 Z) Z Z ⟨⟨s,[.int .i64 0,.int .i64 0,.int .i64 0,.slice none 0 0],E0,by rw[hv],by rw[hv];exact P1a (by unfold i64;omega) (by unfold i64;omega) (by unfold i64;omega)⟩,i0.nil.fin⟩
 refine lO a0.k [.w 0] Z ⟨⟨Z,by rfl⟩,U⟩ (p0a a0 x0d Z Z (U5b (x2a 6 0 (s.map (p2a p))) (S0::g4::M) _ _ (w1.addKeep f0 e0) ((hI.msk.more (fun x hx=>C3a a0 x (A5a (G:=some S0) 0 Z (n3b 1 Z) x hx))).keep (a0.keep0 _)) (fun x hx=>F4a a0 hM x (A5a (G:=some S0) 0 Z (n3b 1 Z) x hx))) ?_);rintro K2 T2 ⟨_,rfl,s0⟩ Q1 z2;obtain⟨_,_,_,rfl,-⟩:=s0.open_;refine b0a (kk:=0) (vs:=[_,_,_,_]) Q1 v0a Z Z Z Z Z Z Z ?_;intro B1 c0 z0;dsimp only[d0a,List.set] at c0;replace s0:=RdE.keep (z0.mono (by simp)) _ _ s0;refine lB c0.k [.o 0] Z ⟨Z,U⟩ (fun V0=>?_) fun V0=>?_
 ·refine lO0 Z U (i1a J2a (vs:=[]) (cs:=[_,_,_,_]) Z Z Z Z ?_);refine b0a (kk:=1) (vs:=[_,_,_,_]) c0 v0a Z Z Z Z Z Z Z ?_;intro C1 j0 A0;dsimp only[d0a,List.set] at j0;replace s0:=RdE.keep (A0.mono (by simp)) _ _ s0;refine lR0 Z U ?_;have hv:w2a p s=(zE,2):=by have p0:s.all (fun x=>decide ((p2a p x).op≠0))=true:=List.all_eq_true.2 (fun x hx=>decide_eq_true (hz x (by rw[List.take_of_length_le (by omega)];exact hx)));unfold w2a;rw[if_pos p0,if_neg I0,if_pos V0]
  exact a2a (v:=.int .i64 2) Z k0a Z (j0.cells 1 Z) Z Z ⟨⟨s,[.int .i64 0,.int .i64 0,.int .i64 0,.slice none 0 0],E0,by rw[hv],by rw[hv];exact P1a (by unfold i64;omega) (by unfold i64;omega) (by unfold i64;omega)⟩,j0.nil.fin⟩
 refine lO c0.k [.w 0] Z ⟨⟨Z,by rfl⟩,U⟩ (b0a (kk:=1) (vs:=[_,_,_,_]) c0 v0a Z Z Z Z Z Z Z ?_);intro D1 m0 B0;dsimp only[d0a,List.set] at m0;replace s0:=RdE.keep (B0.mono (by simp)) _ _ s0;refine lR0 Z U ?_;have p0:s.all (fun x=>decide ((p2a p x).op≠0))=true:=List.all_eq_true.2 (fun x hx=>decide_eq_true (hz x (by rw[List.take_of_length_le (by omega)];exact hx)));have hv:w2a p s=(j9b (x2a 6 0 (s.map (p2a p))),0):=by unfold w2a;rw[if_pos p0,if_neg I0,if_neg V0]
 exact a2a (v:=.int .i64 0) Z k0a Z (m0.cells 1 Z) Z Z ⟨⟨s,_,E0,by rw[hv],by rw[hv];exact RdE.less (fun x hx=>by simp[hx]) _ _ s0⟩,m0.nil.fin⟩
def ddI(l:List Int):List Int:=m1b l []
theorem o5b(l:List Int):(ddI l).Pairwise (·<·):=(F0b l []).1
theorem J7a{l:List Int}{x:Int}:x∈ddI l↔x∈l:=by
 rw[ddI,(F0b l []).2];simp
theorem i6b(l:List Int):ddI l=Lib.compact (h3a l):=by rw[ddI,m1b,List.append_nil]
theorem k8c(l:List Int):(ddI l).length≤l.length:=by
 rw[i6b];refine Nat.le_trans (Lib.compact_length_le _) ?_;simp[h3a]
def e1a(s:h1a):List Int:=ddI (s.set.map (·.cell))
theorem St.borrowO{w:World}{G:Option Nat}{t:Nat}{cs:List Value}(h:∀g,G=some g→o0a w (g,t,cs)):St G.toList w w [(G,t,cs)]:=by
 refine⟨C0a.refl _ _,fun b hb g hg=>?_,by simp⟩;rw[List.mem_singleton.1 hb] at hg ⊢;exact⟨.inr (by simp[show G=some g from hg]),h g hg⟩
theorem v9a(w0:World)(G:Option Nat)(el:Nat)(cs:List Value)(v:Value)(l:List Int)(hR:Z3a G 1 l.length cs v (l.map (Value.int .i64)))(hb:∀g,G=some g→o0a w0 (g,el,cs))(hz:l.length≤1000000):
 O0a prog 113 #[v] w0 fun v' w'=>∃a0,C0a G.toList w0 w'∧(∀g,G=some g→o0a w' (g,el,a0))∧Z3a G 1 (ddI l).length a0 v' ((ddI l).map (Value.int .i64)):=by
 have S:=St.borrowO hb;have i0:(h3a l).length=l.length:=by simp[h3a]
 refine a0a func113 Z ntmps113 Z ?_;refine wOn 7 S.k [] Z U (L0a Z ?_);refine V1a Y0c Z Z (v2b _ G _ cs v l hR (fun g hg=>by subst hg;exact S.blk 0 Z) hz) ?_;rintro v4 w4 ⟨c0,B4,e0,g0⟩;have S4:=S.changedO 0 Z B4 e0;dsimp only[List.set] at S4;refine lOn 4 S4.k [] Z U (L0a Z ?_);refine V1a S0c Z Z (i0b _ G _ c0 v _ g0 (fun g hg=>by subst hg;exact S4.blk 0 Z) (by omega)) ?_;rintro v6 w6 ⟨d0,B6,f0,b0⟩;have S6:=S4.changedO 0 Z B6 f0;dsimp only[List.set] at S6;obtain⟨_,_,_,rfl⟩:=b0.form;refine lR0 Z U (w0a Z ?_);rw[i6b];exact⟨d0,S6.below,fun g hg=>by subst hg;exact S6.blk 0 Z,b0⟩
theorem x7a(s:h1a)(M:List Nat)(w0:World)(ss:List Value)(hS:v1a M w0 ss s)(hl:s.set.length≤10000:=by omega):
 O0a prog 62 #[.agg ss.toArray] w0 fun v w'=>v3a 3 w0 w' v (e1a s)∧Below w0.heap.size w0 w':=by
 obtain⟨Ag,ng,cg,As,ns,r0,rfl,⟨_,_⟩,_,i0,_⟩:=hS.open_;have S:=(St.refl w0).nilEnt 3;refine a0a func62 Z ntmps62 Z ?_;refine wO0 Z U (q0a S Z ?_);intro g1 w1 S1 X1 G1;refine lOn 5 S1.k [] Z U (D0a Z ?_);refine lC S1.k [.o 0] Z ⟨Z,U⟩ (wL (fun μk D ε w=>D=[]∧∃k:Nat,∃G:Option Nat,∃cs2:List Value,∃v:Value,(k+μk=(s.set.length))∧(w1a H6b 1 [] w0 G cs2 v ((s.set.take k).map (·.cell)))∧St [] w0 w [(some g1,61,[.int .i64 s.kind,.int .i64 s.frm,.int .i64 s.to,.int .i64 s.guard.op,.int .i64 s.guard.w,.int .i64 s.guard.n,.slice Ag ng cg,.slice As ns r0,.bool s.release,.int .i64 s.target,.int .i64 s.module_]),(G,3,cs2)]∧Sl ε [(3,v),(7,.slice As ns r0),(8,.int .i64 ns),(9,.int .i64 k)]) (μ:=(s.set.length)) ⟨Z,0,none,[],.slice none 0 0,by omega,w1a.nil,S1,Z⟩ ?_);rintro μk D ε w ⟨rfl,k,G,cs2,v,_,d0,S,eZ⟩;refine wK eZ (wB0 Z U (fun z0=>?_) fun z0=>?_)
 ·obtain⟨a,x0,B0,_,A0,g0,_,n0,m0,o0⟩:=RdS.get (i0) (k) (by omega);obtain⟨_,_,_,rfl,p0,_⟩:=I0a.open_ o0;refine lO (S.k.a m0) [.x x0 B0,.v 0] Z ⟨⟨Z,n0⟩,⟨g0,by omega⟩,U⟩ (h0a S j5b Z Z ?_);intro g5 w5 S5 X5 G5;refine b0a (kk:=0) (vs:=[_,_,_,_,_]) S5 M4b Z Z Z Z Z Z Z ?_;intro C0 a0 v0;dsimp only[d0a,List.set] at a0;refine lOn 3 a0.k [] Z U (L0a Z ?_);refine lO a0.k [.o 0] Z ⟨Z,U⟩ (y0a a0 Y0a (vs:=[.int .i64 _]) (cs:=[_]) Z Z Z Z Z Z ?_);intro I0 K0 q0 G0 E0;refine E1a U7a (k:=3) (M2:=[]) (e1:=a.cell) q0 Y0a Z d0 Z Z (q0.cells 0 Z) ⟨Z,p0⟩ (by rw[List.length_map,List.length_take];omega) Z ?_;intro J0 F0 y0 L0 u0 b0 H0 D0;refine D0a Z ?_;refine lP0 Z ⟨by omega,U⟩ ⟨μk-1,by omega,Z,(k+1),(_),(_),(_),(by omega),?_,u0.tail.tail,Z⟩;rw[t0a A0,List.map_append];exact b0
 have s0:=d0.toV;rw[List.take_of_length_le (by omega)] at s0;refine lOn 8 S.k [] Z U (L0a Z ?_);refine V1a N1c Z Z (v9a _ G _ cs2 v _ s0 (fun g hg=>by subst hg;exact S.blk 1 Z) (by rw[List.length_map];omega)) ?_;rintro v20 N0 ⟨f0,t0,j0,c0⟩;have e0:=S.changedO 1 Z t0 j0;dsimp only[List.set] at e0;obtain⟨_,_,_,rfl⟩:=c0.form;refine lR0 Z U (w0a Z ?_);exact⟨⟨G,f0,c0,fun g hg=>by subst hg;exact⟨by simpa using e0.new 1 Z,e0.blk 1 Z⟩⟩,e0.fin⟩
theorem Y5b(w0:World)(bs:List Bool)(e0:bs.length=32):
 O0a prog 237 #[.agg (bs.map Value.bool).toArray] w0 fun v' w'=>v3a 3 w0 w' v' (q3a bs)∧Below w0.heap.size w0 w':=by
 have S:=(St.refl w0).nilEnt 3;have x0:(bs.map Value.bool).length=32:=by simpa using e0
 refine a0a func237 Z ntmps237 Z ?_;refine wO0 Z U (q0a S Z ?_);intro g1 w1 S1 X1 G1;refine lC S1.k [.w 0] Z ⟨⟨Z,by assumption⟩,U⟩ (wL (fun μ D ε w=>D=[]∧∃k:Nat,∃G:Option Nat,∃cs:List Value,∃v:Value,(k+μ=32)∧(Z3a G 1 (q2a bs k).length cs v ((q2a bs k).map (Value.int .i64)))∧St [] w0 w [(G,3,cs)]∧ε 3=v∧ε 6=.agg (bs.map Value.bool).toArray∧ε 7=.int .i64 k) (μ:=32) ⟨Z,0,none,[],_,by omega,Z3a.nil 1,S1.tail,Z,Z,Z⟩ ?_);rintro μ D ε w ⟨rfl,k,G,cs,v,_,b0,S,e3,e6,e7⟩;refine r0a 3 e3 (r0a 6 e6 (r0a 7 e7 ?_));clear e3 e6 e7;refine wB0 Z U (fun h8=>?_) fun h8=>?_
 ·refine lO0 Z U ?_;have c0:k<bs.length:=by omega
  have f0:((bs.map Value.bool).toArray)[((k:Nat):Int).toNat]?=some (.bool bs[k]):=by simp[c0]
  have g0:bs.getD k false=bs[k]:=by simp[c0]
  have n0:=b2a bs k;cases a0:bs[k]
  ·have c0:k<bs.length:=by omega
   have f0:((bs.map Value.bool).toArray)[((k:Nat):Int).toNat]?=some (.bool bs[k]):=by simp[c0]
   have g0:bs.getD k false=bs[k]:=by simp[c0]
   have n0:=b2a bs k;refine p0b V7a Z Z (f0.trans (by rw[a0])) Z ?_;refine lP0 Z ⟨by omega,U⟩ ⟨μ-1,by omega,Z,k+1,G,cs,v,by omega,?_,S,Z,Z,Z⟩;rw[R2a,g0,a0];simpa using b0
  have c0:k<bs.length:=by omega
  have f0:((bs.map Value.bool).toArray)[((k:Nat):Int).toNat]?=some (.bool bs[k]):=by simp[c0]
  have g0:bs.getD k false=bs[k]:=by simp[c0]
  have n0:=b2a bs k;refine p0b V7a Z Z (f0.trans (by rw[a0])) Z ?_;refine lOn 11 S.k [] Z U (L0a Z ?_);refine lO0 Z U (y0a S Y0a (vs:=[.int .i64 _]) (cs:=[_]) Z Z Z Z Z Z ?_);intro v0 y0 m0 t0 s0;refine V8a (k:=1) m0 Y0a Z b0 Z Z (m0.cells 0 Z) Z (by simp[Value.oneCell']) Z ?_;intro r0 o0 j0 z0 i0 d0 u0;have p0:=i0.tail;refine D0a Z ?_;refine lP0 Z ⟨by omega,U⟩ ⟨μ-1,by omega,Z,k+1,o0,j0,r0,by omega,?_,p0,Z,Z,Z⟩;rw[R2a,g0,a0];simpa using d0
 refine lOn 8 S.k [] Z U (L0a Z ?_);refine D0a Z ?_;refine lR0 Z U (w0a Z ?_);obtain rfl:k=32:=by omega
 have q0:q2a bs 32=q3a bs:=by unfold q3a;rw[e0]
 rw[q0] at b0;exact⟨⟨G,cs,b0,fun g hg=>by subst hg;exact⟨by simpa using S.new 0 Z,S.blk 0 Z⟩⟩,S.nil.fin⟩
theorem Q5b(e:E)(M:List Nat)(w0:World)(cs:List Value)(hR:RdE M w0 e cs)(hK:f2a M w0)(hM:∀g∈M,g<w0.heap.size):
 O0a prog 180 #[.agg cs.toArray] w0 fun v w'=>(∃a b,v=.tuple #[a,b]∧RdI M w' a (e.sup 3)∧v3a 3 w0 w' b (e.sup 2))∧Below w0.heap.size w0 w':=by
 obtain⟨_,_,_,rfl,_⟩:=hR.open_;have S:=St.refl w0;refine a0a func180 Z ntmps180 Z ?_;refine wO0 Z U (q0a S Z ?_);intro g1 w1 S1 X1 G1;refine lO S1.k [.w 0] Z ⟨⟨Z,by rfl⟩,U⟩ (f0a S1 t8a Z Z (k2a e M _ _ (RdE.keep (S1.keep0 M) _ _ hR) (hK.keep (S1.keep0 M))) (fun h7 w7 S7 X7=>?_) (fun h7 w7 S7 X7=>?_))
 ·refine lO0 Z U (h0a S7 j7b Z Z ?_);intro g4 w4 S4 X4 G4;refine h0a S4 j7b Z Z ?_;intro g5 w5 S5 X5 G5;refine lO0 Z U (S1a Z Z ?_);have p0:∀g∈[g4,g5] ,g∈M∨w0.heap.size≤g:=fun g hg=>by
   simp at hg;rcases hg with rfl|rfl
   ·right;have:=S5.new 1 Z;simp at this;exact this
   ·right;have:=S5.new 0 Z;simp at this;exact this
  have a0:e.good 40=true:=by unfold E.wf at h7;simp only[Bool.and_eq_true] at h7;exact h7.2
  have q0:=(S5.ne 0 1 Z Z (by omega)).symm;refine V1a q8b Z Z (B9a [g4,g5] (y8c g4 g5) p5a _ _ y0c (fun e s w b o h1 _ h3 h4=>A0b g4 g5 q0 e s w b o h1 h3 h4) e _ g1 0 (List.replicate 32 false,List.replicate 32 false) 40
   ⟨by simpa using⟨(S5.ne 1 2 Z Z (by omega)).symm,(S5.ne 0 2 Z Z (by omega)).symm⟩,_,S5.cells 2 Z,RdE.keep (S5.keep0 _) _ _ (RdE.more p0 _ _ hR)⟩
   ⟨Z,Z,S5.blk 1 Z,S5.blk 0 Z⟩ a0) ?_
  rintro t0 x0 ⟨⟨-,-,I1,I2⟩,i0⟩;rw[J5c e _ _ 40 a0] at I1 I2;dsimp only at I1 I2;have d0:=S5.changed2 1 0 Z Z i0 I1 I2;dsimp only[List.set] at d0;have q1:(e.mark 3 (List.replicate 32 false)).length=32:=by rw[E.mark_len];simp
  have q2:(e.mark 2 (List.replicate 32 false)).length=32:=by rw[E.mark_len];simp
  have r0:((e.mark 3 (List.replicate 32 false)).map Value.bool).length=32:=by simpa using q1
  have s0:((e.mark 2 (List.replicate 32 false)).map Value.bool).length=32:=by simpa using q2
  refine lC0 Z U (H0a c0a [0,2] [1] [3,4,5] Z (Cl _ _ _ _) (Cl.start d0) ?_);refine qN d0.q [.w 1,.w 0] Z ⟨⟨Z,by assumption⟩,⟨Z,by assumption⟩,U⟩ (Q3a ?_);refine e4a (fun v w=>RdI M w v (q3a (e.mark 3 (List.replicate 32 false)))) Z Z U2b Z (fun v w w' h hk=>h.keep hk.of_nil) (fun w1 S1 X1=>H7a M _ _ q1 (fun g hg=>Nat.lt_of_lt_of_le (hM g hg) S1.size)) ?_;refine M1a ?_;rintro z0 ⟨g0,_⟩;rintro u0 f0;dsimp only[x3a];have o0:=g0.size;refine p0a g0 U2b Z Z (Y5b _ _ q2) ?_;rintro v0 y0 ⟨j0,e0,c0,b0⟩ m0 n0;replace f0:=f0.keep (n0.of_nil);obtain⟨_,_,_,rfl⟩:=c0.form;refine D0a Z ?_;refine lT2 Z U Z ⟨⟨_,_,Z,?_⟩,m0.fin⟩;unfold E.sup;rw[if_pos h7,if_pos h7];exact⟨f0,j0,e0,c0,fun g hg=>⟨Nat.le_trans o0 (b0 g hg).1,(b0 g hg).2⟩⟩
 refine lT2 Z U Z ⟨⟨_,_,Z,?_⟩,S7.fin⟩;unfold E.sup;rw[if_neg (by simp[h7]),if_neg (by simp[h7])];exact⟨u0b,none,[],Z3a.nil 1,fun g hg=>by cases hg⟩
theorem L1d{M:List Nat}{w:World}{G:Option Nat}{cs:List Value}{v:Value}{l:List Int}(h:Z3a G 1 l.length cs v (l.map (Value.int .i64)))(hi:∀x∈l,i64 x):w1a H6b 1 M w G cs v l:=by
 refine⟨l.map fun x=>[Value.int .i64 x],by simp,fun x hx=>?_,?_,fun i x hx=>⟨[.int .i64 x],by rw[List.getElem?_map,hx];rfl,Z,hi x (List.mem_of_getElem? hx)⟩⟩
 ·obtain⟨_,-,rfl⟩:=List.mem_map.1 hx;rfl
 ·have:∀l:List Int,(l.map fun x=>[Value.int .i64 x]).flatten=l.map (Value.int .i64):=fun l=>by
   induction l with
   | nil=>rfl
   | cons a l ih=>simp only[List.map_cons,List.flatten_cons,ih];rfl
  rw[this];exact h
theorem v6c(e:E)(op:Int):∀x∈e.sup op,i64 x:=fun x hx=>by
 unfold E.sup at hx
 split at hx
 ·obtain⟨_,rfl,hi,-⟩:=(C4a _ _ _).1 hx;rw[E.mark_len] at hi;simp at hi;unfold i64;omega
 ·cases hx
def w4a(s:h1a)(k:Nat):List Int:=s.guard.sup 2++((s.set.take k).map fun a=>a.to.sup 2).flatten
def Q1a(s:h1a):List Int:=ddI (w4a s s.set.length)
theorem L9a(s:h1a)(k:Nat):(w4a s k).length≤32+k*32:=by
 unfold w4a;rw[List.length_append];have h1:=x9a s.guard 2;have h2:∀l:List p1a,((l.map fun a=>a.to.sup 2).flatten).length≤l.length*32:=fun l=>by
  induction l with
  | nil=>simp
  | cons a l ih=>simp only[List.map_cons,List.flatten_cons,List.length_append,List.length_cons];have:=x9a a.to 2;omega
 have h3:=h2 (s.set.take k);rw[List.length_take] at h3;have:min k s.set.length*32≤k*32:=Nat.mul_le_mul_right _ (Nat.min_le_left _ _);omega
theorem H3b{s:h1a}{k:Nat}{a:p1a}(h:s.set[k]?=some a):w4a s (k+1)=w4a s k++a.to.sup 2:=by
 unfold w4a;rw[t0a h];simp
theorem u8b(s:h1a)(M:List Nat)(w0:World)(ss:List Value)(hS:v1a M w0 ss s)(hK:f2a M w0)(hM:∀g∈M,g<w0.heap.size)(hl:s.set.length≤1000:=by omega):
 O0a prog 131 #[.agg ss.toArray] w0 fun v w'=>v3a 3 w0 w' v (Q1a s)∧Below w0.heap.size w0 w':=by
 obtain⟨Ag,ng,cg,As,ns,A0,rfl,⟨_,_⟩,hG,q0,_⟩:=hS.open_;have S:=St.refl w0;refine a0a func131 Z ntmps131 Z ?_;refine wO0 Z U (q0a S Z ?_);intro g1 w1 S1 X1 G1;refine lO S1.k [.o 0] Z ⟨Z,U⟩ ?_;have Sb:=S1;refine p0a S1 E6b Z Z (Q5b s.guard M _ _ (RdE.keep (S1.keep0 M) _ _ hG) (hK.keep (S1.keep0 M)) (fun g hg=>Nat.lt_of_lt_of_le (hM g hg) S1.size)) ?_;rintro X0 a1 ⟨_,_,rfl,r0,E0,m0,i0,v0⟩ F0 T0;have d0:=F0.pushO Sb v0;have b0:=L1d (M:=[]) (w:=w0) i0 (v6c s.guard 2);obtain⟨_,_,_,rfl⟩:=r0.form;obtain⟨C0,O0,K0,rfl⟩:=i0.form;refine lC d0.k [.o 1] Z ⟨Z,U⟩ ?_;refine wL (fun μk D ε w=>D=[]∧∃k:Nat,∃G:Option Nat,∃cs2:List Value,∃v:Value,(k+μk=(s.set.length))∧(w1a H6b 1 [] w0 G cs2 v (w4a s k))∧St [] w0 w [(G,3,cs2),(some g1,61,[.int .i64 s.kind,.int .i64 s.frm,.int .i64 s.to,.int .i64 s.guard.op,.int .i64 s.guard.w,.int .i64 s.guard.n,.slice Ag ng cg,.slice As ns A0,.bool s.release,.int .i64 s.target,.int .i64 s.module_])]∧Sl ε [(4,v),(16,.slice As ns A0),(17,.int .i64 ns),(18,.int .i64 k)]) (μ:=(s.set.length)) ⟨Z,0,E0,m0,.slice C0 O0 K0,by omega,(by unfold w4a;simpa using b0),d0,Z⟩ ?_;rintro μk D ε w ⟨rfl,k,G,cs2,v,_,g0,S,eZ⟩;refine wK eZ (wB0 Z U (fun L0=>?_) fun L0=>?_)
 ·obtain⟨a,I0,P0,_,N0,o0,_,x0,u0,y0⟩:=RdS.get (q0) (k) (by omega);obtain⟨_,_,_,rfl,_,p0⟩:=I0a.open_ y0;refine lO (S.k.a u0) [.x I0 P0,.v 0] Z ⟨⟨Z,x0⟩,⟨o0,by omega⟩,U⟩ (h0a S j5b Z Z ?_);intro g6 w6 S6 X6 G6;refine b0a (kk:=0) (vs:=[_,_,_,_,_]) S6 M4b Z Z Z Z Z Z Z ?_;intro Q0 a0 H0;dsimp only[d0a,List.set] at a0;refine lO a0.k [.o 0] Z ⟨Z,U⟩ (p0a a0 E6b Z Z (C8a a.to M _ _ (RdE.keep (a0.keep0 M) _ _ p0) (hK.keep (a0.keep0 M)) (fun g hg=>Nat.lt_of_lt_of_le (hM g hg) a0.size)) ?_);rintro v25 b1 ⟨_,_,rfl,s0,e0⟩ z0 U0;obtain⟨_,_,_,rfl⟩:=s0.form;obtain⟨_,_,_,rfl⟩:=e0.form;refine lOn 8 z0.k [] Z U (L0a Z ?_);refine lO0 Z U ?_;refine O4b U7a (M2:=[]) (k:=1) z0 Y0a Z g0 Z Z e0 (by have:=L9a s k;have:=x9a a.to 2;omega) Z ?_;intro Y0 S0 J0 c1 G0 c0 V0 R0;refine D0a Z ?_;refine lP0 Z ⟨by omega,U⟩ ⟨μk-1,by omega,Z,(k+1),(_),(_),(_),(by omega),?_,G0.tail,Z⟩;rw[H3b N0];exact c0
 have B0:=g0.toV;rw[show k=s.set.length by omega] at B0;refine lOn 8 S.k [] Z U (L0a Z ?_);have W0:=L9a s s.set.length;refine V1a N1c Z Z (v9a _ G _ cs2 v _ B0 (fun g hg=>by subst hg;exact S.blk 0 Z) (by omega)) ?_;rintro Z0 d1 ⟨n0,D0,t0,f0⟩;have j0:=S.changedO 0 Z D0 t0;dsimp only[List.set] at j0;obtain⟨_,_,_,rfl⟩:=f0.form;refine lR0 Z U (w0a Z ?_);exact⟨⟨G,n0,f0,fun g hg=>by subst hg;exact⟨by simpa using j0.new 0 Z,j0.blk 0 Z⟩⟩,j0.fin⟩
def dgL:List Int→Nat→List Int
 | [],_=>[]
 | x::L,n=>((n % x.toNat:Nat):Int)::dgL L (n / x.toNat)
def V2a:List Int→Nat
 | []=>1
 | x::L=>x.toNat*V2a L
theorem r5a:∀(L:List Int) (n:Nat),(dgL L n).length=L.length
 | [],_=>rfl
 | x::L,n=>by simp[dgL,r5a L]
theorem T7b:∀(L:List Int),dgL L 0=List.replicate L.length 0
 | []=>rfl
 | x::L=>by simp[dgL,T7b L,List.replicate_succ]
theorem I0b:∀(L:List Int) (n i:Nat) (x d:Int),(∀x∈L,1≤x)→L[i]?=some x→(dgL L n)[i]?=some d→0≤d∧d<x
 | [],_,_,_,_,_,h,_=>by simp at h
 | y::L,n,0,x,d,hL,h,hd=>by
   simp[dgL] at h hd;subst h;subst hd;have h1:=hL y (by simp);have h2:n % y.toNat<y.toNat:=Nat.mod_lt _ (by omega);constructor
   ·exact Int.natCast_nonneg _
   ·have:((n % y.toNat:Nat):Int)<(y.toNat:Int):=Int.ofNat_lt.2 h2;simp at this ⊢;omega
 | y::L,n,i+1,x,d,hL,h,hd=>I0b L (n / y.toNat) i x d (fun z hz=>hL z (List.mem_cons_of_mem _ hz)) (by simpa using h) (by simpa[dgL] using hd)
theorem P9b{n x:Nat}(h:1≤x)(hd:n % x=x-1):(n+1) % x=0∧(n+1) / x=n / x+1:=by
 have h1:=Nat.div_add_mod n x;have h2:n+1=x*(n / x+1):=by rw[Nat.mul_add];omega
 rw[h2];exact⟨Nat.mul_mod_right _ _,Nat.mul_div_cancel_left _ (by omega)⟩
theorem a4c{n x:Nat}(h:1≤x)(hd:n % x≠x-1):(n+1) % x=n % x+1∧(n+1) / x=n / x:=by
 have h1:=Nat.div_add_mod n x;have h3:n % x<x:=Nat.mod_lt _ (by omega);have h2:n+1=(n % x+1)+x*(n / x):=by omega
 rw[h2,Nat.add_mul_mod_self_left,Nat.mod_eq_of_lt (by omega),Nat.add_mul_div_left _ _ (by omega:0<x),Nat.div_eq_of_lt (by omega)];omega
theorem m3b:∀(L:List Int) (n i:Nat) (x d:Int),(∀x∈L,1≤x)→(∀j y e,j<i→L[j]?=some y→(dgL L n)[j]?=some e→e=y-1)→L[i]?=some x→(dgL L n)[i]?=some d→d≠x-1→dgL L (n+1)=(List.replicate i 0++(dgL L n).drop i).set i (d+1)
 | [],_,_,_,_,_,_,h,_,_=>by simp at h
 | y::L,n,0,x,d,hL,_,h,hd,a0=>by
   simp only[dgL,List.getElem?_cons_zero,Option.some.injEq] at h hd;subst h;subst hd;have h1:=hL y (by simp);obtain⟨h2,h3⟩:=a4c (n:=n) (x:=y.toNat) (by omega) (fun hh=>a0 (by rw[hh];omega));simp only[dgL,h2,h3,List.replicate_zero,List.nil_append,List.drop_zero,List.set_cons_zero];rfl
 | y::L,n,i+1,x,d,hL,hc,h,hd,a0=>by
   have h1:=hL y (by simp);have h0:=hc 0 y ((n % y.toNat:Nat):Int) (by omega) (by simp) (by simp[dgL]);obtain⟨h2,h3⟩:=P9b (n:=n) (x:=y.toNat) (by omega) (by omega);have ih:=m3b L (n / y.toNat) i x d (fun z hz=>hL z (List.mem_cons_of_mem _ hz)) (fun j z e hj hz he=>hc (j+1) z e (by omega) (by simpa using hz) (by simpa[dgL] using he)) (by simpa using h) (by simpa[dgL] using hd) a0;simp only[dgL,h2,h3,ih,List.replicate_succ,List.cons_append,List.drop_succ_cons,List.set_cons_succ];rfl
theorem M7b:∀(L:List Int) (n:Nat),(∀x∈L,1≤x)→n<V2a L→(∀(j:Nat) (y e:Int),L[j]?=some y→(dgL L n)[j]?=some e→e=y-1)→n+1=V2a L
 | [],n,_,h,_=>by simp[V2a] at h ⊢;exact h
 | y::L,n,hL,h,hc=>by
   have h1:=hL y (by simp);have h0:=hc 0 y ((n % y.toNat:Nat):Int) (by simp) (by simp[dgL]);have ih:=M7b L (n / y.toNat) (fun z hz=>hL z (List.mem_cons_of_mem _ hz)) (by
    unfold V2a at h;exact Nat.div_lt_of_lt_mul h) (fun j z e hz he=>hc (j+1) z e (by simpa using hz) (by simpa[dgL] using he))
   unfold V2a;rw[←ih,Nat.mul_add];have:=Nat.div_add_mod n y.toNat;omega
theorem B7b:∀(L:List Int) (j:Nat) (y e:Int),(∀x∈L,1≤x)→1≤V2a L→L[j]?=some y→(dgL L (V2a L-1))[j]?=some e→e=y-1
 | [],_,_,_,_,_,h,_=>by simp at h
 | z::L,j,y,e,hL,hp,h1,h2=>by
   have hz:=hL z (by simp);have hP:1≤V2a L:=Nat.pos_of_ne_zero (fun h=>by unfold V2a at hp;rw[h] at hp;simp at hp);have h3:V2a (z::L)-1=(z.toNat-1)+z.toNat*(V2a L-1):=by
    have:z.toNat*V2a L=z.toNat*(V2a L-1)+z.toNat:=by
     rw[Nat.mul_sub_one];exact(Nat.sub_add_cancel (Nat.le_mul_of_pos_right _ hP)).symm
    show z.toNat*V2a L-1=_
    generalize z.toNat*V2a L=A at this;generalize z.toNat*(V2a L-1)=B at this;omega
   rw[h3] at h2;unfold dgL at h2;rw[Nat.add_mul_mod_self_left,Nat.mod_eq_of_lt (by omega),Nat.add_mul_div_left _ _ (by omega:0<z.toNat),Nat.div_eq_of_lt (by omega),Nat.zero_add] at h2;cases j with
   | zero =>
     simp only[List.getElem?_cons_zero,Option.some.injEq] at h1 h2;omega
   | succ j=>exact B7b L j y e (fun x hx=>hL x (List.mem_cons_of_mem _ hx)) hP (by simpa using h1) (by simpa using h2)
theorem d8b{L:List Int}{n j:Nat}{y e:Int}(hL:∀x∈L,1≤x)(h1:L[j]?=some y)(h2:(dgL L n)[j]?=some e)(a0:e≠y-1)(hn:n<V2a L:=by omega):n+1<V2a L:=by
 rcases Nat.lt_or_ge (n+1) (V2a L) with h|h
 ·exact h
 ·exact absurd (B7b L j y e hL (by omega) h1 (by rw[show V2a L-1=n by omega];exact h2)) a0
theorem p4b:∀(L:List Int),(∀x∈L,1≤x)→1≤V2a L
 | [],_=>by simp[V2a]
 | y::L,h=>by
   have h1:=h y (by simp);have h2:=p4b L fun z hz=>h z (List.mem_cons_of_mem _ hz);unfold V2a;exact Nat.mul_pos (by omega) h2
def N0b:List Int→List Int→List Int→List Int
 | c::C,v::V,s=>N0b C V (s.set c.toNat v)
 | _,_,s=>s
theorem q3b:∀(C V s:List Int),(N0b C V s).length=s.length
 | [],_,_=>rfl
 | _::_,[],_=>rfl
 | c::C,v::V,s=>by unfold N0b;rw[q3b];simp
theorem k5b:∀(C V s:List Int) (k:Nat) (x:Int),(∀c∈C,c.toNat≠k)→N0b C V (s.set k x)=(N0b C V s).set k x
 | [],_,_,_,_,_=>rfl
 | _::_,[],_,_,_,_=>rfl
 | c::C,v::V,s,k,x,h=>by
   unfold N0b;rw[List.set_comm _ _ (fun e=>h c (by simp) e.symm),k5b C V _ k x (fun y hy=>h y (List.mem_cons_of_mem _ hy))]
theorem o1b:∀(C V V' s:List Int),(C.map Int.toNat).Nodup→V.length=C.length→V'.length=C.length→N0b C V (N0b C V' s)=N0b C V s
 | [],_,_,_,_,_,_=>rfl
 | c::C,[],_,_,_,h,_=>by simp at h
 | c::C,_::_,[],_,_,_,h=>by simp at h
 | c::C,v::V,v'::V',s,hn,h1,h2=>by
   rw[List.map_cons,List.nodup_cons] at hn;have a0:∀y∈C,y.toNat≠c.toNat:=fun y hy e=>hn.1 (e▸List.mem_map_of_mem hy);simp only[N0b];rw[←k5b C V' _ _ _ a0,List.set_set,o1b C V V' _ hn.2 (by simpa using h1) (by simpa using h2)]
theorem I4b:∀(C V s:List Int) (k:Nat) (c v:Int),C[k]?=some c→V[k]?=some v→N0b (C.take (k+1)) (V.take (k+1)) s=(N0b (C.take k) (V.take k) s).set c.toNat v
 | [],_,_,_,_,_,h,_=>by simp at h
 | _::_,[],_,_,_,_,_,h=>by simp at h
 | a::C,b::V,s,0,c,v,h1,h2=>by
   simp at h1 h2;subst h1;subst h2;cases C<;>cases V<;>simp[N0b]
 | a::C,b::V,s,k+1,c,v,h1,h2=>by
   simp only[List.take_succ_cons,N0b];exact I4b C V _ k c v (by simpa using h1) (by simpa using h2)
theorem a8b:∀(C V s:List Int) (x:Int),x∈N0b C V s→x∈V∨x∈s
 | [],_,_,_,h=>.inr h
 | _::_,[],_,_,h=>.inr h
 | c::C,v::V,s,x,h=>by
   unfold N0b at h;rcases a8b C V _ x h with h|h
   ·exact .inl (List.mem_cons_of_mem _ h)
   ·rcases List.mem_or_eq_of_mem_set h with h|rfl
    ·exact .inr h
    ·exact .inl (by simp)
def WrS(p:i0a)(m:Int)(s:h1a)(x:Int):Prop:=s.module_=m∧x∈e1a s∧m1a p.cells x=-1
def a1c(p:i0a)(m:Int)(l:List Int):Prop:=l.Pairwise (·<·)∧∀x,x∈l↔∃th∈p.threads,∃s∈th.steps,WrS p m s x
theorem j5a{s:h1a}{x:Int}:x∈e1a s↔∃a∈s.set,a.cell=x:=by rw[e1a,J7a,List.mem_map]
theorem L1b{p:i0a}{t n:Int}{s:h1a}(h:T6a p t n s){x:Int}(hx:x∈e1a s):0≤x∧x<p.cells.length:=by
 obtain⟨a,ha,rfl⟩:=j5a.1 hx;exact(h.set a ha).1
theorem p8a{cells:List z1a}{x:Int}{c:z1a}(h:cells[x.toNat]?=some c):m1a cells x=c.thread:=by
 unfold m1a;rw[List.getD_eq_getElem?_getD,h];rfl
theorem V8b(p:i0a)(m:Nat)(hm:m<p.modules.length)(M:List Nat)(w0:World)(cs:List Value)(hI:InP p M w0 cs):
 O0a prog 28 #[.agg cs.toArray,.int .i64 m] w0 fun v w'=>(∃l,a1c p m l∧v3a 3 w0 w' v l)∧Below w0.heap.size w0 w':=by
 obtain⟨Ac,nc,cc,Am,nm,cm,Al,nl,cl,At,nt,ct,rfl,hC,_,_,P1,_⟩:=hI.rd.open_;have S:=St.refl w0;have hM:=hI.lt;have hp:=hI.ok;have n1:=hp.ncells;have n2:=hp.nthreads;have n3:=hp.nmodules;refine a0a func28 Z ntmps28 Z ?_;refine wO0 Z U (q0a S Z ?_);intro g2 w2 S2 X2 G2;refine lB0 Z U (fun J1=>by exfalso;omega) fun J1=>?_;refine lB S2.k [.o 0] Z ⟨Z,U⟩ (fun K1=>by exfalso;omega) fun K1=>?_;refine lO S2.k [.w 0] Z ⟨⟨Z,Z⟩,U⟩ (U0a S2 d5b Z Z (h6a p M _ _ (hI.keep (S2.keep0 M))) ?_);intro p2 p1 Z1;refine lO0 Z U (n3a (k:=3) p1 Z ?_);intro b0 q2 q1 a2 Y1 J0;have a1:w0.heap.size≤b0:=by have:=p1.size;omega
 have Ms:=u7a.mk_ (enc:=Value.int .i64) J0;refine lC q1.k [.o 0] Z ⟨Z,U⟩ (wL (fun μk D ε w=>D=[]∧∃k:Nat,∃l:List Int,(k+μk=(p.threads.length))∧(u7a (Value.int .i64) w b0 l)∧(∀x,x∈l↔∃th∈p.threads.take k,∃s∈th.steps,WrS p m s x)∧(l.Nodup)∧(∀x∈l,i64 x)∧(l.length≤2048*k)∧St [] w0 w [(some g2,27,[.slice Ac nc cc,.slice Am nm cm,.slice Al nl cl,.slice At nt ct])]∧Sl ε [(1,.int .i64 m),(2,.pointer (some ⟨g2,0,none⟩)),(5,.map (some b0)),(28,.slice At nt ct),(29,.int .i64 nt),(30,.int .i64 k)]) (μ:=(p.threads.length)) ⟨Z,0,[],by omega,Ms,(by simp),List.nodup_nil,(by simp),by simp,q1,Z⟩ ?_);rintro μk D ε w ⟨rfl,k,l,_,Ms,hl,hn,hok,_,S,eZ⟩;refine wK eZ (wB0 Z U (fun M1=>?_) fun M1=>?_)
 ·obtain⟨th,F1,R1,_,j0,S0,_,b1,W0,d1⟩:=RdS.get (P1) (k) (by omega);obtain⟨m0,A0,r0,o0,C0,t0,e0,a0,g0,n0,B0,s0,rfl,_,_,_,u0,_⟩:=M0a.open_ d1;have e2:=(hp.thread j0).nsteps;refine lO (S.k.a W0) [.x F1 R1,.v 0] Z ⟨⟨Z,b1⟩,⟨S0,by omega⟩,U⟩ (h0a S e7a Z Z ?_);intro g7 w7 S7 X7 G7;replace Ms:=Ms.keep X7 (List.not_mem_nil);refine b0a (kk:=0) (vs:=[_,_,_,_,_,_,_]) S7 Y6a Z Z Z Z Z Z Z ?_;intro W1 i0 K0;dsimp only[d0a,List.set] at i0;replace Ms:=Ms.keep K0 (fun hh=>by rw[List.mem_singleton] at hh;exact Ms.ne (S7.blk 0 Z) hh);refine lC i0.k [.o 0] Z ⟨Z,U⟩ (wL (fun μj D ε w=>D=[]∧∃j:Nat,∃l2:List Int,(j+μj=(th.steps.length))∧(u7a (Value.int .i64) w b0 l2)∧(∀x,x∈l2↔x∈l∨∃s∈th.steps.take j,WrS p m s x)∧(l2.Nodup)∧(∀x∈l2,i64 x)∧(l2.length≤2048*k+32*j)∧St [] w0 w [(some g7,58,[.string th.name,.int .i64 th.points,.slice m0 A0 r0,.slice o0 C0 t0,.slice e0 a0 g0,.slice n0 B0 s0,.bool th.asleep]),(some g2,27,[.slice Ac nc cc,.slice Am nm cm,.slice Al nl cl,.slice At nt ct])]∧Sl ε [(1,.int .i64 m),(2,.pointer (some ⟨g2,0,none⟩)),(5,.map (some b0)),(28,.slice At nt ct),(29,.int .i64 nt),(30,.int .i64 k),(35,.slice e0 a0 g0),(36,.int .i64 a0),(37,.int .i64 j)]) (μ:=(th.steps.length)) ⟨Z,0,l,by omega,Ms,(by simp),hn,hok,by omega,i0,Z⟩ ?_);rintro μj D ε w ⟨rfl,j,l2,_,d0,u1,v1,x0,_,S,eZ⟩;refine wK eZ (wB0 Z U (fun N1=>?_) fun N1=>?_)
  ·obtain⟨s,G1,T1,_,x1,T0,_,c1,X0,y0⟩:=RdS.get (u0) (j) (by omega);obtain⟨H0,m1,N0,I0,o1,O0,rfl,⟨_,_⟩,_⟩:=v1a.open_ y0;have i1:=(hp.thread j0).steps s (e0a x1);have i2:=N0c i1;have j2:(e1a s).length≤s.set.length:=by have:=k8c (s.set.map (·.cell));rwa [List.length_map] at this
   refine lO (S.k.a X0) [.x G1 T1,.v 0] Z ⟨⟨Z,c1⟩,⟨T0,by omega⟩,U⟩ (h0a S e6b Z Z ?_);intro g9 w9 S9 X9 G9;replace d0:=d0.keep X9 (List.not_mem_nil);refine b0a (kk:=0) (vs:=[_,_,_,_,_,_,_,_,_,_,_]) S9 U6b Z Z Z Z Z Z Z ?_;intro X1 f0 L0;dsimp only[d0a,List.set] at f0;replace d0:=d0.keep L0 (fun hh=>by rw[List.mem_singleton] at hh;exact d0.ne (S9.blk 0 Z) hh);refine lO f0.k [.w 0] Z ⟨⟨Z,Z⟩,U⟩ ?_;refine p0a f0 g7b Z Z (z8a (M:=[b0]) (x7a s M _ _ (v1a.keep (f0.keep0 M) _ _ y0)) (fun x hx=>by rw[List.mem_singleton.1 hx];exact d0.lt) (fun x hx=>by have:=L1b i1 hx;unfold i64;omega)) ?_;rintro m2 z1 hW C1 E1;replace d0:=d0.keep E1 (List.not_mem_nil);obtain⟨Aw,nw,cw,rfl⟩:=hW.form;have f2:=hW.len.1;have KW:=z0a.refl [b0] z1;refine lC0 Z U (wL (fun μi D ε w=>D=[]∧∃i:Nat,∃l3:List Int,(i+μi=((e1a s).length))∧(u7a (Value.int .i64) w b0 l3)∧(∀x,x∈l3↔x∈l2∨(s.module_=m∧x∈(e1a s).take i∧m1a p.cells x=-1))∧(l3.Nodup)∧(∀x∈l3,i64 x)∧(l3.length≤2048*k+32*j+i)∧(z0a [b0] z1 w)∧St [] w0 w [(some g9,61,[.int .i64 s.kind,.int .i64 s.frm,.int .i64 s.to,.int .i64 s.guard.op,.int .i64 s.guard.w,.int .i64 s.guard.n,.slice H0 m1 N0,.slice I0 o1 O0,.bool s.release,.int .i64 s.target,.int .i64 s.module_]),(some g7,58,[.string th.name,.int .i64 th.points,.slice m0 A0 r0,.slice o0 C0 t0,.slice e0 a0 g0,.slice n0 B0 s0,.bool th.asleep]),(some g2,27,[.slice Ac nc cc,.slice Am nm cm,.slice Al nl cl,.slice At nt ct])]∧Sl ε [(1,.int .i64 m),(2,.pointer (some ⟨g2,0,none⟩)),(5,.map (some b0)),(9,.pointer (some ⟨g9,0,none⟩)),(28,.slice At nt ct),(29,.int .i64 nt),(30,.int .i64 k),(35,.slice e0 a0 g0),(36,.int .i64 a0),(37,.int .i64 j),(42,.slice Aw nw cw),(43,.int .i64 nw),(44,.int .i64 i)]) (μ:=((e1a s).length)) ⟨Z,0,l2,by omega,d0,(by simp),v1,x0,by omega,KW,C1,Z⟩ ?_);rintro μi D ε w ⟨rfl,i,l3,_,D0,E0,F0,c0,_,KW,S,eZ⟩;refine wK eZ (wB0 Z U (fun O1=>?_) fun O1=>?_)
   ·obtain⟨c,H1,U1,_,G0,U0,_,_,Y0,f1⟩:=RdS.get (hW.keep (KW.mono (by simp))) (i) (by omega);obtain⟨rfl,_⟩:=id f1;have Q1:=e0a G0;have d2:=L1b i1 Q1;have t1:i64 c:=by unfold i64;omega
    refine lB (S.k.b Y0) [.x H1 U1,.f 0 0,.o 0] Z ⟨Z,Z,⟨U0,by omega⟩,U⟩ (fun Q0=>?_) fun Q0=>?_
    ·obtain⟨cl,I1,V1,_,j1,V0,_,_,Z0,g1⟩:=RdS.get (hC) (c.toNat) (by omega);obtain⟨rfl,_⟩:=t2a.open_ g1;have w1:=p8a j1;refine lB (S.k.a Z0) [.o 2,.x I1 V1,.f 0 3] Z ⟨Z,⟨V0,by omega⟩,Z,U⟩ (fun R0=>?_) fun R0=>?_
     ·refine lO0 Z U (y2b (k:=3) S (Go.Maps.int_keyed Tryz.underlying3) Tryz.underlying108 b4b (fun a ha=>⟨_,x5a (c0 a ha)⟩) ⟨_,x5a t1⟩ D0 Z Z Z (.inl a1) ?_);intro y1 p0 q0 B1;replace KW:=KW.trans q0;refine lP0 Z ⟨by omega,U⟩ ⟨μi-1,by omega,Z,(i+1),?_,(by omega),?_,?_,?_,?_,?_,(KW),p0,Z⟩;exact insL l3 c
      ·exact B1
      ·intro x;rw[E4a,E0,t0a G0,List.mem_append,List.mem_singleton];constructor
       ·rintro((h|⟨h1,h2,h3⟩)|rfl)
        ·exact .inl h
        ·exact .inr ⟨h1,.inl h2,h3⟩
        ·exact .inr ⟨Q0,.inr Z,w1.trans R0⟩
       ·rintro(h|⟨h1,h2|h2,h3⟩)
        ·exact .inl (.inl h)
        ·exact .inl (.inr ⟨h1,h2,h3⟩)
        ·exact .inr h2
      ·exact c8a F0
      ·intro x hx;rcases E4a.1 hx with h|h;exact c0 x h;subst h;exact t1
      ·exact Nat.le_trans b2b (by omega)
     refine lP0 Z ⟨by omega,U⟩ ⟨μi-1,by omega,Z,(i+1),?_,(by omega),?_,?_,?_,?_,?_,(KW),S,Z⟩;exact l3
     ·exact D0
     ·intro x;rw[E0,t0a G0,List.mem_append,List.mem_singleton];constructor
      ·rintro(h|⟨h1,h2,h3⟩)
       ·exact .inl h
       ·exact .inr ⟨h1,.inl h2,h3⟩
      ·rintro(h|⟨h1,h2|h2,h3⟩)
       ·exact .inl h
       ·exact .inr ⟨h1,h2,h3⟩
       ·exfalso;subst h2;exact R0 (w1.symm.trans h3)
     ·exact F0
     ·exact c0
     ·omega
    refine lP0 Z ⟨by omega,U⟩ ⟨μi-1,by omega,Z,(i+1),?_,(by omega),?_,?_,?_,?_,?_,(KW),S,Z⟩;exact l3
    ·exact D0
    ·intro x;rw[E0,t0a G0,List.mem_append,List.mem_singleton];constructor
     ·rintro(h|⟨h1,h2,h3⟩)
      ·exact .inl h
      ·exact .inr ⟨h1,.inl h2,h3⟩
     ·rintro(h|⟨h1,h2|h2,h3⟩)
      ·exact .inl h
      ·exact .inr ⟨h1,h2,h3⟩
      ·exfalso;subst h2;exact Q0 h1
    ·exact F0
    ·exact c0
    ·omega
   refine lP0 Z ⟨by omega,U⟩ ⟨μj-1,by omega,Z,(j+1),(l3),(by omega),(D0),?_,(F0),(c0),(by omega),S.tail,Z⟩;intro x;rw[E0,u1,Q2a x1 (fun s=>WrS p m s x),or_assoc,show i=(e1a s).length by omega,List.take_length];rfl
  refine lP0 Z ⟨by omega,U⟩ ⟨μk-1,by omega,Z,(k+1),(l2),(by omega),(d0),?_,(v1),(x0),(by omega),S.tail,Z⟩;intro x;rw[u1,hl,Q2a j0 (fun th=>∃s∈th.steps,WrS p m s x),show j=th.steps.length by omega,List.take_length]
 refine lO0 Z U ?_;obtain⟨fl,r1,s1,_⟩:=j7a hn;refine p0a S n5c Z Z (M9a b0 l fl r1 s1 hn hok _ Ms) ?_;rintro o2 r2 ⟨A1,P0,z0,v0⟩ D1 b2;obtain⟨_,_,_,rfl⟩:=z0.form;refine lR0 Z U (w0a Z ?_);exact⟨⟨fl,⟨r1,fun x=>by rw[s1,hl,show k=p.threads.length by omega,List.take_length]⟩,A1,P0,z0,fun g hg=>⟨Nat.le_trans S.size (v0 g hg).1,(v0 g hg).2⟩⟩,D1.fin⟩
def L7a(P:Program)(M:List Nat)(w:World)(v:Value)(q:p1a→Bool)(ok:p1a→Prop):Prop :=
 ∃f first caps,v=.func (.func f) first caps∧Has P f∧∀w',z0a M w w'→∀a ca,ok a→I0a M w' ca a→O0a P f (first.toList++[Value.agg ca.toArray]++caps.toList).toArray w' fun v w''=>v=.bool (q a)∧Below w'.heap.size w' w''
section
variable {P:Program} {r:Option Nat} {N:Nat} {D:List Deferred} {e:Env} {w w0:World} {ops:Array Oper} {rest:List Oper} {K:List Deferred→Env→World→Prop} {L:List Ent} {M:List Nat}
variable {d:Nat} {t:TypeId} {p:String} {af:Array Edge} {at_:Array TypeId}
theorem L7a.keep{v:Value}{q:p1a→Bool}{ok:p1a→Prop}{w':World}(h:L7a P M w v q ok)(hk:z0a M w w'):L7a P M w' v q ok:=by
 obtain⟨f,first,caps,h1,h2,h3⟩:=h;exact⟨f,first,caps,h1,h2,fun b0 a0=>h3 b0 (hk.trans a0)⟩
theorem P3c{M':List Nat}{g x:Operand}{a:p1a}{ca:List Value}{q:p1a→Bool}{ok:p1a→Prop}{v:Value}(S:St M w0 w L)(hp:L7a P M' w v q ok)(hg:ev e g=v)(ha:ev e x=.agg ca.toArray)(hok:ok a)(hr:I0a M' w ca a)(hd:Nat.ble (d+1) N=true)
 (h1:q a=true→∀w1,St M w0 w1 L→z0a [] w w1→WL P r N ops rest K D (upd e d (.bool true)) w1) (h2:q a=false→∀w1,St M w0 w1 L→z0a [] w w1→WL P r N ops rest K D (upd e d (.bool false)) w1) :
 WL P r N ops (⟨some d,.call { callee:=.value g,args:=#[x],argTypes:=at_ },t,p,af,none⟩::rest) K D e w:=by
 obtain⟨_,_,_,rfl,hH,hf⟩:=hp;refine Z1b hH hg (by simp[ha]) hd (hf w (z0a.refl _ _) a ca hok hr) fun v w' ⟨hv,hb⟩=>?_;subst hv;cases hq:q a
 ·exact h2 hq w' (S.later hb) (z0a.of_below hb)
 ·exact h1 hq w' (S.later hb) (z0a.of_below hb)
end
def shA(p:i0a)(a:p1a):Bool:=decide (m1a p.cells a.cell=-1)
def chA(p:i0a)(sg:List Int)(a:p1a):Bool:=shA p a&&decide (a.to.evl sg sg≠sg.getD a.cell.toNat 0)
theorem M0b(p:i0a)(a:p1a)(M:List Nat)(w0:World)(cs ca:List Value)(As:Option Addr)(ns cS:Nat)(hP:X0a M w0 p cs)(hA:I0a M w0 ca a)(ha:0≤a.cell∧a.cell<p.cells.length):
 O0a prog 129 #[.agg (cs++[Value.slice As ns cS]).toArray,.agg ca.toArray] w0 fun v w'=>v=.bool (shA p a)∧Below w0.heap.size w0 w':=by
 obtain⟨_,_,_,_,_,_,_,_,_,_,_,_,rfl,hC,_⟩:=hP.open_;obtain⟨_,_,_,rfl,_⟩:=hA.open_;dsimp only[List.cons_append,List.nil_append];have S:=St.refl w0;refine a0a func129 Z ntmps129 Z ?_;refine wO0 Z U (q0a S Z ?_);intro g2 w2 S2 X2 G2;refine q0a S2 Z ?_;intro g3 w3 S3 X3 G3;obtain⟨x,e0,g0,_,d0,a0,_,_,b0,c0⟩:=RdS.get (hC) (a.cell.toNat) (by omega);obtain⟨rfl,_⟩:=t2a.open_ c0;refine lB (S3.k.a b0) [.o 1,.o 0,.x e0 g0,.f 0 3] Z ⟨Z,⟨a0,by omega⟩,Z,Z,U⟩ (fun f0=>?_) fun f0=>?_
 ·refine lT Z U Z ⟨congrArg Value.bool ?_,S3.fin⟩;unfold shA;rw[p8a d0];rw[decide_eq_true];omega
 refine lT Z U Z ⟨congrArg Value.bool ?_,S3.fin⟩;unfold shA;rw[p8a d0];rw[decide_eq_false];omega
theorem K3b(p:i0a)(a:p1a)(sg:List Int)(M:List Nat)(w0:World)(cs ca:List Value)(As:Option Addr)(ns cS:Nat)(hP:X0a M w0 p cs)(hA:I0a M w0 ca a)(ha:0≤a.cell∧a.cell<p.cells.length)(hK:f2a M w0)(hS:RdI M w0 (.slice As ns cS) sg)(n0:sg.length=p.cells.length):
 O0a prog 134 #[.agg (cs++[Value.slice As ns cS]).toArray,.agg ca.toArray] w0 fun v w'=>v=.bool (chA p sg a)∧Below w0.heap.size w0 w':=by
 obtain⟨Ac,nc,cc,Am,nm,cm,Al,nl,cl,At,nt,ct,rfl,_⟩:=hP.open_;obtain⟨_,_,_,rfl,_,hE⟩:=hA.open_;have o0:=hS.len.1;dsimp only[List.cons_append,List.nil_append];have S:=St.refl w0;refine a0a func134 Z ntmps134 Z ?_;refine wO0 Z U (q0a S Z ?_);intro g2 w2 S2 X2 G2;refine q0a S2 Z ?_;intro g3 w3 S3 X3 G3;refine lC0 Z U (B1b c0a (fun i=>[0,1,3,4,5,6,7,8,9,11,12,13,14,15,16,17,18,19].contains i) (.op 0 (.op 1 (.op 2 (.op 3 (.op 4 (.op 5 (.op 6 (.op 7 (.op 8 (.op 9 (.op 11 (.op 12 (.op 13 (.op 14 (.op 15 (.op 16 (.op 10 (.op 17 (.op 18 (.op 19 .nil)))))))))))))))))))) (d9c S3) ?_);have d0:=S3.drew;have e0:z0a [] w3 w3.drew:=B2a _ _;generalize w3.drew=q0 at d0 e0 ⊢;refine J1a ⟨d0,e0⟩ Z Z Z ?_;refine y1a G7b Z (fun w1 hw=>hw.1.cells 1 Z) Z Z ?_;refine n0a ?_;refine J1a ⟨d0,e0⟩ Z Z Z ?_;refine y1a H0c Z (fun w1 hw=>hw.1.cells 0 Z) Z Z ?_;refine n0a ?_;refine H2a ⟨d0,e0⟩ Z Z Z ?_;refine f0a d0 W0c Z Z (M0b p a M _ [.slice Ac nc cc,.slice Am nm cm,.slice Al nl cl,.slice At nt ct] _ As ns cS (hP.keep (d0.keep0 M)) (I0a.keep (d0.keep0 M) _ _ hA) ha) (fun h7 w7 S7 X7=>?_) (fun h7 w7 S7 X7=>?_)
 ·have a0:=e0.trans X7;refine A0a ⟨Z,?_⟩;refine J1a ⟨S7,a0⟩ Z Z Z ?_;refine K1a (hv:=Z) (v:=.bool _) Z ?_;refine n0a ?_;refine J1a ⟨S7,a0⟩ Z Z Z ?_;refine c2a Z Z ?_;refine K0a e3b Z Z ?_;refine n0a ?_;refine J1a ⟨S7,a0⟩ Z Z Z ?_;refine c2a Z Z ?_;refine y1a k0a Z (cs:=[_,_,_,_]) (fun w1 hw=>hw.1.cellsAt 0 1 4 Z) Z Z ?_;refine n0a ?_;refine J1a ⟨S7,a0⟩ Z Z Z ?_;refine c2a Z Z ?_;refine K0a a9a Z Z ?_;refine n0a ?_;refine J1a ⟨S7,a0⟩ Z Z Z ?_;refine c2a Z Z ?_;refine m0a h7a Z (fun w1 hw=>by exact hw.1.cell 1 Z Z) Z ?_;refine n0a ?_;refine J1a ⟨S7,a0⟩ Z Z Z ?_;refine c2a Z Z ?_;refine K0a a9a Z Z ?_;refine n0a ?_;refine J1a ⟨S7,a0⟩ Z Z Z ?_;refine c2a Z Z ?_;refine m0a h7a Z (fun w1 hw=>by exact hw.1.cell 1 Z Z) Z ?_;refine n0a ?_;refine J1a ⟨S7,a0⟩ Z Z Z ?_;refine c2a Z Z ?_;refine K0a a9a Z Z ?_;refine n0a ?_;refine J1a ⟨S7,a0⟩ Z Z Z ?_;refine c2a Z Z ?_;refine m0a h7a Z (fun w1 hw=>by exact hw.1.cell 1 Z Z) Z ?_;refine n0a ?_;refine J1a ⟨S7,a0⟩ Z Z Z ?_;refine c2a Z Z ?_;refine K0a z3b Z Z ?_;refine n0a ?_;refine J1a ⟨S7,a0⟩ Z Z Z ?_;refine c2a Z Z ?_;refine m0a B0a Z (fun w1 hw=>by exact hw.1.cell 0 Z Z) Z ?_;refine n0a ?_;refine J1a ⟨S7,a0⟩ Z Z Z ?_;refine c2a Z Z ?_;obtain⟨_,_,_,_,j0,_,_,_,g0,i0⟩:=RdS.get (hS) (a.cell.toNat) (by omega);obtain⟨rfl,_⟩:=id i0;refine s0a Y0a.slT Z (by assumption) Z Z ?_;refine n0a ?_;refine J1a ⟨S7,a0⟩ Z Z Z ?_;refine c2a Z Z ?_;refine m0a B0a Z (fun w1 hw=>by exact hw.1.old (g0 0 _ Z)) Z ?_;refine n0a ?_;refine H2a ⟨S7,a0⟩ Z Z Z ?_;refine k5a Z Z Z ?_;refine U0a S7 Q3b Z Z (t0b a.to M _ _ _ _ sg sg (RdE.keep (S7.keep0 M) _ _ hE) (hK.keep (S7.keep0 M)) (hS.keep (S7.keep0 M)) (hS.keep (S7.keep0 M))) ?_;intro p0 c0 m0;have b0:=a0.trans m0;refine A0a ⟨Z,?_⟩;refine J1a ⟨c0,b0⟩ Z Z Z ?_;refine c2a Z Z ?_;refine K2d Z Z Z (fun f0=>?_) fun f0=>?_
  ·refine n0a ?_;refine J1a ⟨c0,b0⟩ Z Z Z ?_;refine n7a Z (v:=.bool _) Z Z ?_;refine n0a ?_;refine J1a ⟨c0,b0⟩ Z Z Z ?_;refine o5a (v:=.bool _) Z Z ?_;refine n0a ?_;refine t3a ⟨c0,b0⟩ ?_;refine fR0 Z U (w0a Z ?_);refine⟨congrArg Value.bool ?_,c0.fin⟩;unfold chA;rw[h7,List.getD_eq_getElem?_getD,j0,Bool.true_and];(rw[decide_eq_true];exact f0)
  refine n0a ?_;refine J1a ⟨c0,b0⟩ Z Z Z ?_;refine n7a Z (v:=.bool _) Z Z ?_;refine n0a ?_;refine J1a ⟨c0,b0⟩ Z Z Z ?_;refine o5a (v:=.bool _) Z Z ?_;refine n0a ?_;refine t3a ⟨c0,b0⟩ ?_;refine fR0 Z U (w0a Z ?_);refine⟨congrArg Value.bool ?_,c0.fin⟩;unfold chA;rw[h7,List.getD_eq_getElem?_getD,j0,Bool.true_and];(rw[decide_eq_false];exact fun h=>h f0)
 have a0:=e0.trans X7;refine A0a ⟨Z,?_⟩;refine J1a ⟨S7,a0⟩ Z Z Z ?_;refine K1a (hv:=Z) (v:=.bool _) Z ?_;refine n0a ?_;refine J1a ⟨S7,a0⟩ Z Z Z ?_;refine W4a Z Z Z ?_;refine n0a ?_;refine J1a ⟨S7,a0⟩ Z Z Z ?_;refine W4a Z Z Z ?_;refine n0a ?_;refine J1a ⟨S7,a0⟩ Z Z Z ?_;refine W4a Z Z Z ?_;refine n0a ?_;refine J1a ⟨S7,a0⟩ Z Z Z ?_;refine W4a Z Z Z ?_;refine n0a ?_;refine J1a ⟨S7,a0⟩ Z Z Z ?_;refine W4a Z Z Z ?_;refine n0a ?_;refine J1a ⟨S7,a0⟩ Z Z Z ?_;refine W4a Z Z Z ?_;refine n0a ?_;refine J1a ⟨S7,a0⟩ Z Z Z ?_;refine W4a Z Z Z ?_;refine n0a ?_;refine J1a ⟨S7,a0⟩ Z Z Z ?_;refine W4a Z Z Z ?_;refine n0a ?_;refine J1a ⟨S7,a0⟩ Z Z Z ?_;refine W4a Z Z Z ?_;refine n0a ?_;refine J1a ⟨S7,a0⟩ Z Z Z ?_;refine W4a Z Z Z ?_;refine n0a ?_;refine J1a ⟨S7,a0⟩ Z Z Z ?_;refine W4a Z Z Z ?_;refine n0a ?_;refine J1a ⟨S7,a0⟩ Z Z Z ?_;refine W4a Z Z Z ?_;refine n0a ?_;refine H2a ⟨S7,a0⟩ Z Z Z ?_;refine n2d Z Z Z Z ?_;refine A0a ⟨Z,?_⟩;refine J1a ⟨S7,a0⟩ Z Z Z ?_;refine W4a Z Z Z ?_;refine n0a ?_;refine J1a ⟨S7,a0⟩ Z Z Z ?_;refine n7a Z (v:=.bool _) Z Z ?_;refine n0a ?_;refine J1a ⟨S7,a0⟩ Z Z Z ?_;refine o5a (v:=.bool _) Z Z ?_;refine n0a ?_;refine t3a ⟨S7,a0⟩ ?_;refine fR0 Z U (w0a Z ?_);refine⟨congrArg Value.bool ?_,S7.fin⟩;unfold chA;rw[h7];rfl
theorem j2b(M:List Nat)(w0:World)(v vf:Value)(l:List p1a)(q:p1a→Bool)(ok:p1a→Prop)(hR:I7c M w0 v l)(hp:L7a prog M w0 vf q ok)(hok:∀a∈l,ok a):
 O0a prog 181 #[v,vf] w0 fun v w'=>(∃n,v=.int .i64 n∧(0≤n↔l.any q=true))∧Below w0.heap.size w0 w':=by
 obtain⟨A,n,c,rfl⟩:=hR.form;obtain⟨_,_⟩:=hR.len;have S:=St.refl w0;refine a0a func181 Z ntmps181 Z ?_;refine wC0 Z U (wL (fun μk D ε w=>D=[]∧∃k:Nat,(k+μk=(l.length))∧(f1a (l) k (fun x=>q x=false))∧St [] w0 w []∧Sl ε [(0,.slice A n c),(1,vf),(7,.int .i64 n),(8,.int .i64 k)]) (μ:=(l.length)) ⟨Z,0,by omega,f1a.zero,S,Z⟩ ?_);rintro μk D ε w ⟨rfl,k,_,ha,S,eZ⟩;refine wK eZ (wB0 Z U (fun h9=>?_) fun h9=>?_)
 ·refine lOn 16 S.k [] Z U (L0a Z ?_);obtain⟨x,j0,m0,_,g0,d0,_,f0,e0,a0⟩:=RdS.get (hR) (k) (by omega);obtain⟨_,_,_,rfl,_⟩:=I0a.open_ a0;refine lO (S.k.a e0) [.x j0 m0,.v 0] Z ⟨⟨Z,f0⟩,⟨d0,by omega⟩,U⟩ (P3c S (hp.keep (S.keep0 M)) Z Z (hok x (e0a g0)) (I0a.keep (S.keep0 M) _ _ a0) Z (fun c0 n0 b0 i0=>?_) (fun c0 n0 b0 i0=>?_))
  ·exact lT Z U Z ⟨⟨_,Z,⟨fun _=>List.any_eq_true.2 ⟨x,e0a g0,c0⟩,fun _=>by omega⟩⟩,b0.fin⟩
  refine lP0 Z ⟨by omega,U⟩ ⟨μk-1,by omega,Z,(k+1),(by omega),(ha.succ g0 (c0)),b0,Z⟩
 refine lT Z U Z ?_;refine⟨⟨_,Z,⟨fun h=>by omega,fun h=>?_⟩⟩,S.fin⟩;obtain⟨x,h1,h2⟩:=List.any_eq_true.1 h;rw[ha.all (by omega) x h1] at h2;cases h2
theorem s8a(M:List Nat)(w0:World)(v vf:Value)(l:List p1a)(q:p1a→Bool)(ok:p1a→Prop)(hR:I7c M w0 v l)(hp:L7a prog M w0 vf q ok)(hok:∀a∈l,ok a):
 O0a prog 128 #[v,vf] w0 fun v w'=>v=.bool (l.any q)∧Below w0.heap.size w0 w':=by
 obtain⟨_,_,_,rfl⟩:=hR.form;have S:=St.refl w0;refine a0a func128 Z ntmps128 Z ?_;refine wOn 8 S.k [] Z U (L0a Z ?_);refine p0a S q6c Z Z (j2b M _ _ _ l q ok (RdS.keepW hR (S.keep0 M) (I0a.keep (S.keep0 M))) (hp.keep (S.keep0 M)) hok) ?_;rintro v7 w7 ⟨_,rfl,hm⟩ S7 X7;refine lB0 Z U (fun h8=>?_) fun h8=>?_
 ·refine lR0 Z U (w0a Z ?_);exact⟨by rw[hm.1 (by omega)],S7.fin⟩
 refine lT Z U Z ?_;refine⟨congrArg Value.bool ?_,S7.fin⟩;cases hq:l.any q with|false=>rfl|true=>exact absurd (hm.2 hq) (by omega)
theorem St.laterW{w0 w w':World}{L:List Ent}{M:List Nat}(S:St M w0 w L)(hb:C0a M w w')(hL:∀b∈L,∀g,b.1=some g→g∉M):St M w0 w' L :=
 S.keeps (S.below.trans hb) fun b hm g hg=>hb.block g (S.own b hm g hg).2.lt (hL b hm g hg)
theorem I8a{M G:List Nat}{w0 w w':World}(a:C0a M w0 w)(b:C0a M w0 w')(k:z0a G w w')(hG:∀g∈G,w0.heap.size≤g:=by simp):Below w0.heap.size w w' :=
 ⟨b.os.trans a.os.symm,b.tape.trans a.tape.symm,b.output.trans a.output.symm,k.size,fun i hi=>k.same i (Nat.lt_of_lt_of_le hi a.size) (fun h=>by have:=hG i h;omega)⟩
theorem St.laterN{M:List Nat}{n:Nat}{w0 w w':World}{L:List Ent}(S:St M w0 w L)(h:Below n w w')(h0:w0.heap.size≤n)(hL:∀b∈L,∀g,b.1=some g→g<n):St M w0 w' L :=
 S.keeps ⟨h.os.trans S.below.os,h.tape.trans S.below.tape,h.output.trans S.below.output,Nat.le_trans S.below.size h.size,fun k hk hm=>(h.block k (by omega)).trans (S.below.block k hk hm)⟩ (fun b hb g hg=>h.block g (hL b hb g hg))
theorem X3c(As:Option Addr)(ns cS:Nat)(w0:World):
 O0a prog 133 #[.slice As ns cS] w0 fun v w'=>(∃g,v=.func (.func 183) #[] #[.pointer (some ⟨g,0,none⟩)]∧w0.heap.size≤g∧o0a w' (g,48,[.slice As ns cS]))∧Below w0.heap.size w0 w':=by
 have S:=St.refl w0;refine a0a func133 Z ntmps133 Z ?_;refine wO0 Z U (e1b S (v:=.slice _ _ _) Z Z Z ?_);intro g1 w1 S1 X1 G1;refine lO0 Z U (S1a Z Z ?_);refine lR0 Z U (w0a Z ?_);exact⟨⟨g1,Z,by simpa using S1.new 0 Z,S1.blk 0 Z⟩,S1.fin⟩
theorem n6b{n i:Nat}{L:List Int}{v:List Int}(h:v=List.replicate i 0++(dgL L n).drop i)(hi:i≤L.length:=by omega):v.length=L.length∧∀j,i≤j→v[j]?=(dgL L n)[j]?:=by
 have hl:=r5a L n;subst h;refine⟨by simp;omega,fun j hj=>?_⟩;rw[List.getElem?_append_right (by simp;omega),List.getElem?_drop]
 congr 1
 simp;omega
theorem B1c{n i:Nat}{L:List Int}(hi:i<L.length):(List.replicate i 0++(dgL L n).drop i).set i 0=List.replicate (i+1) 0++(dgL L n).drop (i+1):=by
 have hl:=r5a L n;rw[List.set_append_right _ _ (by simp)];simp only[List.length_replicate,Nat.sub_self];rw[List.drop_eq_getElem_cons (by omega),List.set_cons_zero,List.replicate_succ',List.append_assoc];rfl
theorem e0c(M:List Nat)(w0:World)(l gL:Nat)(vl:Value)(L:List Int)(J:World→Prop)(p:Nat→Bool)(Q:Nat→World→Prop)
 (mL:gL∉M) (cL:w0.cell? ⟨gL,0,none⟩=some vl) (hL:RdI M w0 vl L) (hM:∀g∈M,g<w0.heap.size) (h1:∀x∈L,1≤x∧x≤256) (Y0:L.length≤1000)
 (hJ:J w0) (g0:∀w w',J w→Below w0.heap.size w w'→J w')
 (hY:∀(n gb:Nat) (w:World),n<V2a L→w0.heap.size≤gb→J w →
   St M w0 w [(some gb,3,(dgL L n).map (Value.int .i64))] →
   Yld prog l #[.slice (some ⟨gb,0,none⟩) L.length L.length] w fun v w' =>
    C0a M w w'∧((v=.bool true∧p n=false∧J w')∨(v=.bool false∧p n=true∧Q n w'))) :
 O0a prog 183 #[.func (.yield l) #[] #[],.pointer (some ⟨gL,0,none⟩)] w0 fun _ w' =>
  C0a M w0 w'∧((J w'∧∀n,n<V2a L→p n=false)∨∃n,n<V2a L∧p n=true∧Q n w'):=by
 obtain⟨_,ns,_,rfl⟩:=hL.form;obtain⟨O0,_,_,_,a1⟩:=hL.at;have f0:∀x∈L,1≤x:=fun x hx=>(h1 x hx).1;have Z0:=p4b L f0;have S:St M w0 w0 []:=⟨C0a.refl _ _,by simp,by simp⟩;refine a0a func183 Z ntmps183 Z ?_;refine wO0 Z U (J0a h7a Z (by exact S.oldM mL cL) Z ?_);refine lO0 Z U (s8b (n:=ns) (c:=ns) S Y0a Z Z Z Z ?_);intro g7 w7 S7 X7 G7;refine lC0 Z U ?_;refine wL (fun μ D ε w=>D=[]∧∃n:Nat,(n+μ+1=V2a L)∧(∀m,m<n→p m=false)∧(J w)∧St M w0 w [(some g7,3,(dgL L n).map (Value.int .i64))]∧ε 0=.func (.yield l) #[] #[]∧ε 1=.pointer (some ⟨gL,0,none⟩)∧ε 3=.slice (some ⟨g7,0,none⟩) ns ns) (μ:=V2a L-1) ⟨Z,0,by omega,fun m h=>absurd h (by omega),g0 _ _ hJ (I8a (C0a.refl _ _) S7.below X7),by rw[T7b,List.map_replicate,←O0];exact S7,Z,Z,Z⟩ ?_;rintro μ D ε w ⟨rfl,n,_,hp,hJ,S,e0,e1,e3⟩;refine r0a 0 e0 (r0a 1 e1 (r0a 3 e3 ?_));clear e0 e1 e3;refine wO0 Z U ?_;have I0:=S;have n0:=hY n g7 _ (by omega) G7 hJ I0;rw[←O0] at n0;refine i7c Z Z Z n0 ?_;rintro d1 f1 ⟨S0,b1⟩;have H0:=I0.laterW S0 (fun b hb g hg=>by
  intro hm;have:=hM g hm;simp only[List.mem_cons,List.not_mem_nil,or_false] at hb;subst hb;cases hg;omega)
 rcases b1 with⟨rfl,s0,B0⟩|⟨rfl,s0,D0⟩
 ·refine lC0 Z U (wL (fun μ D ε w=>D=[]∧∃i:Nat,∃vs:List Int,(i+μ=L.length)∧(vs=List.replicate i 0++(dgL L n).drop i)∧(∀(j:Nat) (y e:Int),j<i→L[j]?=some y→(dgL L n)[j]?=some e→e=y-1)∧(J w)∧St M w0 w [(some g7,3,vs.map (Value.int .i64))]∧ε 0=.func (.yield l) #[] #[]∧ε 1=.pointer (some ⟨gL,0,none⟩)∧ε 3=.slice (some ⟨g7,0,none⟩) ns ns∧ε 4=.int .i64 i) (μ:=L.length) ⟨Z,0,dgL L n,by omega,Z,fun j y e hj=>absurd hj (by omega),B0,H0,Z,Z,Z,Z⟩ ?_);rintro μ D ε w ⟨rfl,i,vs,_,hv,x0,v0,S,e0,e1,e3,e4⟩;refine r0a 0 e0 (r0a 1 e1 (r0a 3 e3 (r0a 4 e4 ?_)));clear e0 e1 e3 e4;refine wC0 Z U (H0a c0a [0,1,2,3,4,5,6,7,8,9,10,11,12,13,14,15] [] [] Z (Cl _ _ _ _) (Cl.start S) ?_);refine qB0 Z U (fun T0=>?_) fun T0=>?_
  ·have b0:i<L.length:=by omega
   have L0:=r5a L n;obtain⟨d,hd⟩:∃d,(dgL L n)[i]?=some d:=⟨_,List.getElem?_eq_getElem (by omega)⟩;obtain⟨P0,u0⟩:=n6b hv;have t0:vs[i]?=some d:=by rw[u0 i (Nat.le_refl _)];exact hd
   have Q0:=h1 L[i] (List.getElem_mem b0);have K0:=I0b L n i L[i] d f0 (List.getElem?_eq_getElem b0) hd;obtain⟨bo,oo,_,U0,W0⟩:=a1 (by omega);obtain⟨_,_,E0,F0⟩:=W0 i L[i] (List.getElem?_eq_getElem b0);have V0:w0.cell? ⟨bo,oo+i*1,none⟩=some (.int .i64 L[i]):=E0 0 _ (by rw[F0.1];rfl);have o0:(vs.map (Value.int .i64))[0+(i:Int).toNat*1]?=some (.int .i64 d):=by rw[List.getElem?_map,show 0+(i:Int).toNat*1=i by omega,t0];rfl
   refine qO S.q [.i] Z ⟨by omega,U⟩ (m0a B0a Z (fun w1 hw=>hw.1.cell 0 Z o0) Z ?_);refine qO0 Z U (m0a h7a Z (fun w1 hw=>by exact hw.1.oldM mL cL) Z ?_);refine qO0 Z U (s0a Y0a.slT Z (by assumption) Z Z ?_);refine qO0 Z U (m0a B0a Z (fun w1 hw=>by exact hw.1.oldM U0 V0) Z ?_);refine qB0 Z ⟨by omega,U⟩ (fun z0=>?_) fun z0=>?_
   ·refine qD Z U ?_;rintro R0 ⟨a0,j0⟩;refine lO a0.k [.i] Z ⟨by omega,U⟩ ?_
    first|refine T0a (kk:=0) a0 R2c Z Z Z (by(simp;omega)) ?_
    intro c1 m0 y0;refine lP0 Z ⟨by omega,U⟩ ⟨μ-1,by omega,Z,i+1,vs.set i 0,by omega,?_,?_,?_,?_,Z,Z,Z,Z⟩
    ·rw[hv];exact B1c b0
    ·intro j y e hj hy he;by_cases X0:j=i
     ·subst X0;rw[hd] at he;cases he;rw[List.getElem?_eq_getElem b0] at hy;cases hy;exact z0
     ·exact x0 j y e (by omega) hy he
    ·exact g0 _ _ (g0 _ _ v0 (I8a S.below a0.below j0)) (I8a (hG:=(by simp;exact G7)) a0.below m0.below y0)
    ·simpa[List.map_set] using m0
   refine qD Z U ?_;rintro R0 ⟨a0,j0⟩;refine lB0 Z U (fun A0=>?_) fun A0=>?_
   ·refine lR0 Z U (H1a Z ?_);exfalso;omega
   refine lOn 8 a0.k [] Z U ?_;have b0:i<L.length:=by omega
   have r0:∀d,(dgL L n)[i]?=some d→d≠L[i]-1:=by
    intro d' J0;rw[hd] at J0;cases J0;exact z0
   have L0:=r5a L n;obtain⟨d,hd⟩:∃d,(dgL L n)[i]?=some d:=⟨_,List.getElem?_eq_getElem (by omega)⟩;obtain⟨P0,u0⟩:=n6b hv;have t0:vs[i]?=some d:=by rw[u0 i (Nat.le_refl _)];exact hd
   have Q0:=h1 L[i] (List.getElem_mem b0);have K0:=I0b L n i L[i] d f0 (List.getElem?_eq_getElem b0) hd;have o0:(vs.map (Value.int .i64))[0+(i:Int).toNat*1]?=some (.int .i64 d):=by rw[List.getElem?_map,show 0+(i:Int).toNat*1=i by omega,t0];rfl
   have d0:=m3b L n i L[i] d f0 x0 (List.getElem?_eq_getElem b0) hd (r0 d hd);have q0:=d8b f0 (List.getElem?_eq_getElem b0) hd (r0 d hd);have C0:=g0 _ _ v0 (I8a S.below a0.below j0);refine lO a0.k [.i] Z ⟨by omega,U⟩ (J0a B0a Z (a0.cell 0 Z o0) Z ?_);refine lO a0.k [.i] Z ⟨by omega,by omega,U⟩ ?_
   first|refine T0a (kk:=0) a0 R2c Z Z Z (by(simp;omega)) ?_
   intro G0 c0 i0;refine lP0 Z U ?_;refine⟨V2a L-(n+2),by omega,Z,n+1,by omega,fun m hm=>(by by_cases p0:m=n;(subst p0;exact s0);exact hp m (by omega)),?_,?_,Z,Z,Z⟩
   ·exact g0 _ _ C0 (I8a (hG:=(by simp;exact G7)) a0.below c0.below i0)
   ·rw[d0,←hv];simpa[List.map_set] using c0
  refine qD Z U ?_;rintro R0 ⟨a0,j0⟩;refine lB0 Z U (fun A0=>?_) fun A0=>?_
  ·refine lR0 Z U (H1a Z ?_);have N0:=M7b L n f0 (by omega) (fun j y e hy he=>x0 j y e (by have:=t4a hy;omega) hy he);exact⟨a0.below,.inl ⟨g0 _ _ v0 (I8a S.below a0.below j0),fun m hm=>(by by_cases p0:m=n;(subst p0;exact s0);exact hp m (by omega))⟩⟩
  refine lOn 8 a0.k [] Z U ?_;have b0:i<L.length:=by omega
  have r0:∀d,(dgL L n)[i]?=some d→d≠L[i]-1:=by
   exfalso;omega
  have L0:=r5a L n;obtain⟨d,hd⟩:∃d,(dgL L n)[i]?=some d:=⟨_,List.getElem?_eq_getElem (by omega)⟩;obtain⟨P0,u0⟩:=n6b hv;have t0:vs[i]?=some d:=by rw[u0 i (Nat.le_refl _)];exact hd
  have Q0:=h1 L[i] (List.getElem_mem b0);have K0:=I0b L n i L[i] d f0 (List.getElem?_eq_getElem b0) hd;have o0:(vs.map (Value.int .i64))[0+(i:Int).toNat*1]?=some (.int .i64 d):=by rw[List.getElem?_map,show 0+(i:Int).toNat*1=i by omega,t0];rfl
  have d0:=m3b L n i L[i] d f0 x0 (List.getElem?_eq_getElem b0) hd (r0 d hd);have q0:=d8b f0 (List.getElem?_eq_getElem b0) hd (r0 d hd);have C0:=g0 _ _ v0 (I8a S.below a0.below j0);refine lO a0.k [.i] Z ⟨by omega,U⟩ (J0a B0a Z (a0.cell 0 Z o0) Z ?_);refine lO a0.k [.i] Z ⟨by omega,by omega,U⟩ ?_
  first|refine T0a (kk:=0) a0 R2c Z Z Z (by(simp;omega)) ?_
  intro G0 c0 i0;refine lP0 Z U ?_;refine⟨V2a L-(n+2),by omega,Z,n+1,by omega,fun m hm=>(by by_cases p0:m=n;(subst p0;exact s0);exact hp m (by omega)),?_,?_,Z,Z,Z⟩
  ·exact g0 _ _ C0 (I8a (hG:=(by simp;exact G7)) a0.below c0.below i0)
  ·rw[d0,←hv];simpa[List.map_set] using c0
 refine lR0 Z U (H1a Z ?_);exact⟨H0.below,.inr ⟨n,by omega,s0,D0⟩⟩
section
variable {P:Program} {fn:Func} {R:Value→World→Prop} {D:List Deferred} {e:Env} {w:World}
theorem c6a{a1 t1 g1:Nat}{v1:Value}(h:fn.results=#[.cell a1 t1])(o1:One P t1)(e1:e a1=.pointer (some ⟨g1,0,none⟩))(rs:List Nat)(hD:D=rs.map W0b)(hn:rs.Nodup)(hO:NC w (L6b rs))(hc:w.cell? ⟨g1,0,none⟩=some v1)(hg:g1∉rs)(hR:∀w',C0a rs w w'→R v1 w'):p9a P fn R D e w :=
 ⟨rs,hD,hn,hO,fun w' hb _ tmps he=>by
  have hk:z0a rs w w':=⟨hb.size,hb.block⟩;have c2:=hk.cell (a:=⟨g1,0,none⟩) hg hc;subst he;simp only[V0a,Array.getD_eq_getD_getElem?] at e1;have h2:(loadVar t1 ⟨g1,0,none⟩).run P w'=.ok v1 w':=by rw[o1 w'];simp[load,Sem.run,c2]
  exact⟨_,by simp[results,h,asAddr,e1,h2],hR w' hb⟩⟩
end
theorem Z3a.rdI3{M':List Nat}{w0 w:World}{L:List Ent}{k:Nat}{G:Option Nat}{el n:Nat}{cs:List Value}{v:Value}{M:List Nat}{l:List Int}(hR:Z3a G 1 n cs v (l.map (Value.int .i64)))(S:St M' w0 w L)(hk:L[k]?=some (G,el,cs))
 (hM:∀g,G=some g→g∉M) (hl:∀x∈l,i64 x) (a0:l.length≤140737488355328):RdI M w v l:=by
 have hn:n=l.length:=by have:=hR.1;simp at this;omega
 subst hn;refine hR.rd S hk hM Z a0 (fun i x hi=>?_);have b0:i<l.length:=(List.getElem?_eq_some_iff.1 hi).1;have hx:l[i]=x:=(List.getElem?_eq_some_iff.1 hi).2;have e1:((l.map (Value.int .i64)).drop (i*1)).take 1=[.int .i64 x]:=by
  rw[Nat.mul_one,List.drop_eq_getElem_cons (by simpa using b0)];simp[hx]
 rw[e1];exact⟨Z,Z,hl x (List.mem_of_getElem? hi)⟩
theorem B2c{rc:Loop}(b0:rc.state=.ready)(a0:rc.pending=none):({ ({ rc with state:=.busy }:Loop) with state:=if(none:Option Code).isNone then .ready else .done,pending:=none }:Loop)=rc:=by
 cases rc;simp at b0 a0 ⊢;exact⟨b0.symm,a0.symm⟩
theorem k1c{M Ms:List Nat}{w0 w w':World}(a:C0a M w0 w)(b:C0a M w0 w')(k:z0a Ms w w'):C0a Ms w w' :=
 ⟨b.os.trans a.os.symm,b.tape.trans a.tape.symm,b.output.trans a.output.symm,k.size,k.same⟩
theorem NC.laterN{n:Nat}{w w':World}{rs:List (Nat×Obj)}(h:NC w rs)(hb:Below n w w')(hl:∀x∈rs,x.1<n):NC w' rs:=fun x hx=>⟨(hb.block x.1 (hl x hx)).trans (h x hx).1,(h x hx).2⟩
def s2a(s:h1a):List Int:=ddI (Q1a s++e1a s)
def a8c(p:i0a)(c:Int):Int:=((2 ^ (wAt p.cells c).toNat:Nat):Int)
def T8a(p:i0a)(s:h1a):List Int:=(s2a s).map (a8c p)
def G4c(p:i0a)(s:h1a):List Int:=(s2a s).map (wAt p.cells)
theorem k8b{p:i0a}(hw:∀c∈p.cells,1≤c.w∧c.w≤8){c:Int}(hc:0≤c∧c<p.cells.length):1≤a8c p c∧a8c p c≤256:=by
 have h1:=r5c hc hw;have h2:2 ^ (wAt p.cells c).toNat≤2 ^ 8:=Nat.pow_le_pow_right (by omega) (by omega);have h3:0<2 ^ (wAt p.cells c).toNat:=Nat.two_pow_pos _;unfold a8c;omega
def stC(p:i0a)(s:h1a)(n:Nat):List Int:=N0b (s2a s) (dgL (T8a p s) n) (List.replicate p.cells.length 0)
def C6c(p:i0a)(s:h1a)(n:Nat):Bool:=decide (s.guard.evl (stC p s n) (stC p s n)=1)&&s.set.any (chA p (stC p s n))
def Chg(p:i0a)(s:h1a):Prop:=s.set.any (shA p)=true∧(12<h9a (G4c p s)∨∃n,n<V2a (T8a p s)∧C6c p s n=true)
theorem N0d{p:i0a}{c:Int}{cl:z1a}(h0:0≤c)(h:p.cells[c.toNat]?=some cl):wAt p.cells c=cl.w:=by
 unfold wAt;rw[if_pos h0,h];rfl
def ZSt(p:i0a)(s:h1a)(sg:List Int):Prop:=sg.length=p.cells.length∧(∀x∈sg,i64 x)∧∀V,V.length=(s2a s).length→N0b (s2a s) V sg=N0b (s2a s) V (List.replicate p.cells.length 0)
theorem ZSt.zero(p:i0a)(s:h1a):ZSt p s (List.replicate p.cells.length 0):=⟨by simp,fun x hx=>by rw[(List.mem_replicate.1 hx).2];unfold i64;omega,fun V _=>rfl⟩
theorem C1c{C:List Int}(h:C.Pairwise (·<·))(h0:∀c∈C,0≤c):(C.map Int.toNat).Nodup:=by
 rw[List.Nodup,List.pairwise_map];exact List.Pairwise.imp_of_mem (fun {a b} ha hb a0=>by have:=h0 a ha;have:=h0 b hb;omega) h
theorem ZSt.lay{p:i0a}{s:h1a}{sg V:List Int}(h:ZSt p s sg)(hC:∀c∈s2a s,0≤c)(hV:V.length=(s2a s).length)(hi:∀x∈V,i64 x):ZSt p s (N0b (s2a s) V sg) :=
 ⟨by rw[q3b];exact h.1,fun x hx=>(a8b _ _ _ _ hx).elim (hi x) (h.2.1 x),fun V' a0=>by rw[o1b (s2a s) V' V sg (C1c (o5b _) hC) a0 hV];exact h.2.2 V' a0⟩
theorem b7b(p:i0a)(s:h1a)(V1:∀c∈Q1a s,0≤c∧c<p.cells.length)(hok:∀a∈s.set,0≤a.cell∧a.cell<p.cells.length)(j5:s.set.length≤32)(M:List Nat)(w0:World)(cs ss:List Value)(hI:InP p M w0 cs)(hR:v1a M w0 ss s):
 O0a prog 72 #[.agg cs.toArray,.agg ss.toArray] w0 fun v w'=>(∃b:Bool,v=.bool b∧(b=true↔Chg p s))∧Below w0.heap.size w0 w':=by
 obtain⟨Ac,nc,cc,Am,nm,cm,Al,nl,cl,At,nt,ct,rfl,hC,_,_,_,x4,_⟩:=hI.rd.open_;obtain⟨Ag,ng,cg,As,ns,W0,rfl,⟨_,_⟩,hG,A1,_⟩:=hR.open_;have hM:=hI.lt;have hp:=hI.ok;have hK:=hI.msk;have hP:=hI.rd;have n1:=hp.ncells;have F1:∀c∈e1a s,0≤c∧c<p.cells.length:=fun c hc=>by
  obtain⟨a,ha,rfl⟩:=List.mem_map.1 (J7a.1 hc);exact hok a ha
 have a1:∀c∈s2a s,0≤c∧c<p.cells.length:=fun c hc=>(List.mem_append.1 (J7a.1 hc)).elim (V1 c) (F1 c);have l1:(Q1a s).length≤32:=f6b (o5b _) fun c hc=>by have:=V1 c hc;omega
 have l2:(e1a s).length≤32:=f6b (o5b _) fun c hc=>by have:=F1 c hc;omega
 have l3:(s2a s).length≤32:=f6b (o5b _) fun c hc=>by have:=a1 c hc;omega
 have p4:∀c∈s2a s,i64 c:=fun c hc=>by have:=a1 c hc;unfold i64;omega
 have T1:∀c∈p.cells,1≤c.w∧c.w≤8:=fun c hc=>(hp.cells c hc).w;have a3:∀x∈G4c p s,1≤x∧x≤8:=fun x hx=>by
  obtain⟨c,h,rfl⟩:=List.mem_map.1 hx;exact r5c (a1 c h) T1
 have S:=(St.refl w0).nilEnt 3;refine r6b func72 Z ntmps72 Z (wI ?_);refine wO0 Z U (q0a S Z ?_);intro g2 w2 S2 X2 G2;refine q0a S2 Z ?_;intro g3 w3 S3 X3 G3;refine h0a S3 C2d Z Z ?_;intro g4 w4 S4 X4 G4;refine lC0 Z U (b5c c0a [0,1,2,3,4,5,6] 7 (Cl _ _ _ _) (Cl.start S4) _ Z ?_);refine N8a Z Z ?_;refine y1a G3a Z (fun w1 hw=>hw.1.cells 2 Z) Z Z ?_;refine n0a ?_;refine N8a Z Z ?_;refine K0a P6b Z Z ?_;refine n0a ?_;refine N8a Z Z ?_;refine m0a y9a Z (fun w1 hw=>by exact hw.1.cell 2 Z Z) Z ?_;refine n0a ?_;refine r8b Z z3a.slT Z Z ?_;refine P2b (n:=nc) (c:=nc) Z Z Z Y0a Z Z Z ?_;intro g18 J3 I1;refine N8a Z Z ?_;refine r3a D6c (vs:=[(0,.agg _),(1,.slice _ _ _)]) (cs:=[_,_,_,_,_]) Z Z Z Z ?_;refine n0a ?_;refine i3b Z Z Z v1d Z ?_;intro g5 G5 L4;refine A7b ?_;rintro y5 ⟨q1,_⟩ ⟨⟨-,L2⟩,s4⟩;clear I1;replace q1:=q1.push_new S4 L2 J3;replace q1:=q1.push_more (L1:=[_]) S4 s4 G5 (by simpa[eq_comm] using L4);refine b0a (kk:=0) (vs:=[_,_,_,_,_]) q1 p1d Z Z Z Z Z Z Z ?_;intro T4 A0 O3;dsimp only[d0a,List.set] at A0;refine A0a ⟨Z,?_⟩;refine fO A0.k [.o 3,.w 0] Z ⟨⟨Z,Z⟩,Z,U⟩ (h2a Z Z Z ?_);refine f0a A0 t2c Z Z (s8a M _ _ _ s.set (shA p) (fun a=>0≤a.cell∧a.cell<p.cells.length) (RdS.keepW A1 (A0.keep0 M) (I0a.keep (A0.keep0 M))) ⟨_,_,_,Z,W0c,fun w' hk a ca hok hr=>M0b p a M w' [.slice Ac nc cc,.slice Am nm cm,.slice Al nl cl,.slice At nt ct] ca (some ⟨g18,0,none⟩) nc nc (hP.keep ((A0.keep0 M).trans hk)) hr hok⟩ hok) (fun Q1 Y1 m1 P3=>?_) (fun Q1 Y1 m1 P3=>?_)
 ·refine lCn 6 m1.k [] Z U (wX (fun D ε w=>D=[]∧∃g6:Nat,∃n0:Nat,∃G:Option Nat,∃v0:List Value,∃z0:Option Addr,∃D0:Nat,∃B0:Nat,∃f2:List Value,(Z3a G 1 (Q1a s++e1a s).length v0 (.slice z0 D0 B0) ((Q1a s++e1a s).map (Value.int .i64)))∧St [] w0 w [(some g6,48,[.slice z0 D0 B0]),(G,3,v0),(some n0,48,f2),(some g5,192,[.slice Ac nc cc,.slice Am nm cm,.slice Al nl cl,.slice At nt ct,.slice (some ⟨g18,0,none⟩) nc nc]),(some g18,3,List.replicate nc (.int .i64 0)),(some g4,4,[.bool false]),(some g3,61,[.int .i64 s.kind,.int .i64 s.frm,.int .i64 s.to,.int .i64 s.guard.op,.int .i64 s.guard.w,.int .i64 s.guard.n,.slice Ag ng cg,.slice As ns W0,.bool s.release,.int .i64 s.target,.int .i64 s.module_]),(some g2,27,[.slice Ac nc cc,.slice Am nm cm,.slice Al nl cl,.slice At nt ct]),(none,3,[])]∧Sl ε [(2,.pointer (some ⟨g2,0,none⟩)),(3,.pointer (some ⟨g3,0,none⟩)),(4,.pointer (some ⟨g4,0,none⟩)),(5,.pointer (some ⟨g5,0,none⟩)),(6,.pointer (some ⟨g6,0,none⟩))]) ?_ ?_)
  ·refine B1b c0a (fun i=>[0,2].contains i) (.op 0 (.op 2 (.two (.op 1 (.two (.op 3 (.two (.op 4 (.two (.op 5 (.op 6 (.op 7 .nil))) (.op 6 (.op 5 (.op 7 .nil))))) (.op 6 (.op 4 (.op 5 (.op 7 .nil)))))) (.op 6 (.op 3 (.op 4 (.op 5 (.op 7 .nil))))))) (.op 6 (.op 1 (.op 3 (.op 4 (.op 5 (.op 7 .nil))))))))) (d9c m1) ?_;have H0:=m1.drew;have V0:z0a [] Y1 Y1.drew:=B2a _ _;generalize Y1.drew=z5 at H0 V0 ⊢;refine J1a ⟨H0,V0⟩ Z Z Z ?_;refine y1a x6b Z (fun w1 hw=>hw.1.cells 3 Z) Z Z ?_;refine n0a ?_;refine J1a ⟨H0,V0⟩ Z Z Z ?_;refine y1a x6b Z (fun w1 hw=>hw.1.cells 3 Z) Z Z ?_;refine n0a ?_;refine v6a ?_ ?_
   ·refine H2a ⟨H0,V0⟩ Z Z Z ?_;refine p0a H0 V0c Z Z (z8a (M:=M) (u8b s M _ _ (v1a.keep (H0.keep0 M) _ _ hR) (hK.keep (H0.keep0 M)) (fun g hg=>Nat.lt_of_lt_of_le (hM g hg) H0.size)) (fun g hg=>Nat.lt_of_lt_of_le (hM g hg) H0.size) (fun c hc=>by have:=V1 c hc;unfold i64;omega)) ?_;rintro R4 V4 g0 G0 i2;have i0:=V0.trans i2;obtain⟨f1,j1,g1,rfl⟩:=g0.form;refine A0a ⟨Z,?_⟩;refine v6a ?_ ?_
    ·refine H2a ⟨G0,i0⟩ Z Z Z ?_;refine p0a G0 g7b Z Z (z8a (M:=M) (x7a s M _ _ (v1a.keep (G0.keep0 M) _ _ hR)) (fun g hg=>Nat.lt_of_lt_of_le (hM g hg) G0.size) (fun c hc=>by have:=F1 c hc;unfold i64;omega)) ?_;rintro A3 D3 o0 L0 U0;have c0:=i0.trans U0;replace g0:=g0.keep (U0.of_nil);obtain⟨X0,d1,Z0,rfl⟩:=o0.form;refine A0a ⟨Z,?_⟩;refine v6a ?_ ?_
     ·refine H2a ⟨L0,c0⟩ Z Z Z ?_;refine y0a L0 J9a (vs:=[.slice _ _ _,.slice _ _ _]) (cs:=[_,_]) Z Z Z Z Z Z ?_;intro n0 K0 j0 u0 b2;have a0:=c0.trans u0;replace g0:=g0.keep (u0.of_nil);replace o0:=o0.keep (u0.of_nil);refine A0a ⟨Z,?_⟩;refine v6a ?_ ?_
      ·refine H2a ⟨j0.tail,a0⟩ Z Z Z ?_;have Sb:=j0;have s0:∀(k:Nat) (h:k<([Q1a s,e1a s]:List (List Int)).length),∃A n c,K0.cell? ⟨n0,0+k*1,none⟩=some (.slice A n c)∧RdI M K0 (.slice A n c) ([Q1a s,e1a s]:List (List Int))[k]:=by
        intro k hk;rcases(show k=0∨k=1 by simp at hk;omega) with rfl|rfl
        ·exact⟨f1,j1,g1,by exact j0.cell 0 Z Z,g0⟩
        ·exact⟨X0,d1,Z0,by exact j0.cell 0 Z Z,o0⟩
       refine p0a j0 L0b Z Z (Q5a M _ n0 [Q1a s,e1a s] (by simp;omega) (by simp) s0) ?_;rintro X1 Z1 ⟨G,v0,p0,P0⟩ N0 O0;have e0:=N0.pushO Sb P0;have d0:=a0.trans O0.of_nil;obtain⟨z0,D0,B0,rfl⟩:=p0.form;rw[show([Q1a s,e1a s]:List (List Int)).flatten=Q1a s++e1a s by simp] at p0;refine A0a ⟨Z,?_⟩;refine H2a ⟨e0.tail.tail,d0⟩ Z Z Z ?_;refine h0a e0 y2c Z Z ?_;intro g6 w6 S6 X6 G6;have f0:=d0.trans X6;refine A0a ⟨Z,?_⟩;refine H2a ⟨S6.tail.tail.tail,f0⟩ Z Z Z ?_;refine T0a (hy:=Z) (kk:=0) S6 R4b Z Z Z (Nat.le_of_ble_eq_true Z) ?_;intro Q0 b0 q0;dsimp only[List.set] at b0;have r0:=f0.freshL q0 (fun g hg=>.inl (by rw[List.mem_singleton.1 hg];exact Nat.le_trans d0.size G6));refine A0a ⟨Z,?_⟩;refine t3a ⟨b0.tail.tail.tail,r0⟩ ?_;refine fP0 Z U ⟨Z,(g6),(n0),(G),(v0),(z0),(D0),(B0),(_),(p0),(b0.perm (by exact .refl _)),Z⟩
      refine H2a ⟨j0.tail,a0⟩ Z Z Z ?_;refine h0a j0 y2c Z Z ?_;intro g6 w6 S6 X6 G6;have f0:=a0.trans X6;replace g0:=g0.keep (X6.of_nil);replace o0:=o0.keep (X6.of_nil);refine A0a ⟨Z,?_⟩;refine H2a ⟨S6.tail.tail,f0⟩ Z Z Z ?_;have Sb:=S6;have s0:∀(k:Nat) (h:k<([Q1a s,e1a s]:List (List Int)).length),∃A n c,w6.cell? ⟨n0,0+k*1,none⟩=some (.slice A n c)∧RdI M w6 (.slice A n c) ([Q1a s,e1a s]:List (List Int))[k]:=by
       intro k hk;rcases(show k=0∨k=1 by simp at hk;omega) with rfl|rfl
       ·exact⟨f1,j1,g1,by exact S6.cell 1 Z Z,g0⟩
       ·exact⟨X0,d1,Z0,by exact S6.cell 1 Z Z,o0⟩
      refine p0a S6 L0b Z Z (Q5a M _ n0 [Q1a s,e1a s] (by simp;omega) (by simp) s0) ?_;rintro X1 Z1 ⟨G,v0,p0,P0⟩ N0 O0;have e0:=N0.pushO Sb P0;have d0:=f0.trans O0.of_nil;obtain⟨z0,D0,B0,rfl⟩:=p0.form;rw[show([Q1a s,e1a s]:List (List Int)).flatten=Q1a s++e1a s by simp] at p0;refine A0a ⟨Z,?_⟩;refine H2a ⟨e0.tail.tail.tail,d0⟩ Z Z Z ?_;refine T0a (hy:=Z) (kk:=1) e0 R4b Z Z Z (Nat.le_of_ble_eq_true Z) ?_;intro Q0 b0 q0;dsimp only[List.set] at b0;have r0:=d0.freshL q0 (fun g hg=>.inl (by rw[List.mem_singleton.1 hg];exact Nat.le_trans a0.size G6));refine A0a ⟨Z,?_⟩;refine t3a ⟨b0.tail.tail.tail,r0⟩ ?_;refine fP0 Z U ⟨Z,(g6),(n0),(G),(v0),(z0),(D0),(B0),(_),(p0),(b0.perm (by exact .swap _ _ _)),Z⟩
     refine H2a ⟨L0,c0⟩ Z Z Z ?_;refine h0a L0 y2c Z Z ?_;intro g6 w6 S6 X6 G6;have f0:=c0.trans X6;replace g0:=g0.keep (X6.of_nil);replace o0:=o0.keep (X6.of_nil);refine A0a ⟨Z,?_⟩;refine H2a ⟨S6.tail,f0⟩ Z Z Z ?_;refine y0a S6 J9a (vs:=[.slice _ _ _,.slice _ _ _]) (cs:=[_,_]) Z Z Z Z Z Z ?_;intro n0 K0 j0 u0 b2;have a0:=f0.trans u0;replace g0:=g0.keep (u0.of_nil);replace o0:=o0.keep (u0.of_nil);refine A0a ⟨Z,?_⟩;refine H2a ⟨j0.tail.tail,a0⟩ Z Z Z ?_;have Sb:=j0;have s0:∀(k:Nat) (h:k<([Q1a s,e1a s]:List (List Int)).length),∃A n c,K0.cell? ⟨n0,0+k*1,none⟩=some (.slice A n c)∧RdI M K0 (.slice A n c) ([Q1a s,e1a s]:List (List Int))[k]:=by
      intro k hk;rcases(show k=0∨k=1 by simp at hk;omega) with rfl|rfl
      ·exact⟨f1,j1,g1,by exact j0.cell 0 Z Z,g0⟩
      ·exact⟨X0,d1,Z0,by exact j0.cell 0 Z Z,o0⟩
     refine p0a j0 L0b Z Z (Q5a M _ n0 [Q1a s,e1a s] (by simp;omega) (by simp) s0) ?_;rintro X1 Z1 ⟨G,v0,p0,P0⟩ N0 O0;have e0:=N0.pushO Sb P0;have d0:=a0.trans O0.of_nil;obtain⟨z0,D0,B0,rfl⟩:=p0.form;rw[show([Q1a s,e1a s]:List (List Int)).flatten=Q1a s++e1a s by simp] at p0;refine A0a ⟨Z,?_⟩;refine H2a ⟨e0.tail.tail.tail,d0⟩ Z Z Z ?_;refine T0a (hy:=Z) (kk:=2) e0 R4b Z Z Z (Nat.le_of_ble_eq_true Z) ?_;intro Q0 b0 q0;dsimp only[List.set] at b0;have r0:=d0.freshL q0 (fun g hg=>.inl (by rw[List.mem_singleton.1 hg];exact Nat.le_trans c0.size G6));refine A0a ⟨Z,?_⟩;refine t3a ⟨b0.tail.tail.tail,r0⟩ ?_;refine fP0 Z U ⟨Z,(g6),(n0),(G),(v0),(z0),(D0),(B0),(_),(p0),(b0.perm (by exact(List.Perm.trans ((List.Perm.swap _ _ _).cons _) (.swap _ _ _)))),Z⟩
    refine H2a ⟨G0,i0⟩ Z Z Z ?_;refine h0a G0 y2c Z Z ?_;intro g6 w6 S6 X6 G6;have f0:=i0.trans X6;replace g0:=g0.keep (X6.of_nil);refine A0a ⟨Z,?_⟩;refine H2a ⟨S6.tail,f0⟩ Z Z Z ?_;refine p0a S6 g7b Z Z (z8a (M:=M) (x7a s M _ _ (v1a.keep (S6.keep0 M) _ _ hR)) (fun g hg=>Nat.lt_of_lt_of_le (hM g hg) S6.size) (fun c hc=>by have:=F1 c hc;unfold i64;omega)) ?_;rintro A3 D3 o0 L0 U0;have c0:=f0.trans U0;replace g0:=g0.keep (U0.of_nil);obtain⟨X0,d1,Z0,rfl⟩:=o0.form;refine A0a ⟨Z,?_⟩;refine H2a ⟨L0.tail,c0⟩ Z Z Z ?_;refine y0a L0 J9a (vs:=[.slice _ _ _,.slice _ _ _]) (cs:=[_,_]) Z Z Z Z Z Z ?_;intro n0 K0 j0 u0 b2;have a0:=c0.trans u0;replace g0:=g0.keep (u0.of_nil);replace o0:=o0.keep (u0.of_nil);refine A0a ⟨Z,?_⟩;refine H2a ⟨j0.tail.tail,a0⟩ Z Z Z ?_;have Sb:=j0;have s0:∀(k:Nat) (h:k<([Q1a s,e1a s]:List (List Int)).length),∃A n c,K0.cell? ⟨n0,0+k*1,none⟩=some (.slice A n c)∧RdI M K0 (.slice A n c) ([Q1a s,e1a s]:List (List Int))[k]:=by
     intro k hk;rcases(show k=0∨k=1 by simp at hk;omega) with rfl|rfl
     ·exact⟨f1,j1,g1,by exact j0.cell 0 Z Z,g0⟩
     ·exact⟨X0,d1,Z0,by exact j0.cell 0 Z Z,o0⟩
    refine p0a j0 L0b Z Z (Q5a M _ n0 [Q1a s,e1a s] (by simp;omega) (by simp) s0) ?_;rintro X1 Z1 ⟨G,v0,p0,P0⟩ N0 O0;have e0:=N0.pushO Sb P0;have d0:=a0.trans O0.of_nil;obtain⟨z0,D0,B0,rfl⟩:=p0.form;rw[show([Q1a s,e1a s]:List (List Int)).flatten=Q1a s++e1a s by simp] at p0;refine A0a ⟨Z,?_⟩;refine H2a ⟨e0.tail.tail.tail,d0⟩ Z Z Z ?_;refine T0a (hy:=Z) (kk:=2) e0 R4b Z Z Z (Nat.le_of_ble_eq_true Z) ?_;intro Q0 b0 q0;dsimp only[List.set] at b0;have r0:=d0.freshL q0 (fun g hg=>.inl (by rw[List.mem_singleton.1 hg];exact Nat.le_trans i0.size G6));refine A0a ⟨Z,?_⟩;refine t3a ⟨b0.tail.tail.tail,r0⟩ ?_;refine fP0 Z U ⟨Z,(g6),(n0),(G),(v0),(z0),(D0),(B0),(_),(p0),(b0.perm (by exact(List.Perm.trans ((List.Perm.swap _ _ _).cons _) (.swap _ _ _)))),Z⟩
   refine H2a ⟨H0,V0⟩ Z Z Z ?_;refine h0a H0 y2c Z Z ?_;intro g6 w6 S6 X6 G6;have f0:=V0.trans X6;refine A0a ⟨Z,?_⟩;refine H2a ⟨S6.tail,f0⟩ Z Z Z ?_;refine p0a S6 V0c Z Z (z8a (M:=M) (u8b s M _ _ (v1a.keep (S6.keep0 M) _ _ hR) (hK.keep (S6.keep0 M)) (fun g hg=>Nat.lt_of_lt_of_le (hM g hg) S6.size)) (fun g hg=>Nat.lt_of_lt_of_le (hM g hg) S6.size) (fun c hc=>by have:=V1 c hc;unfold i64;omega)) ?_;rintro R4 V4 g0 G0 i2;have i0:=f0.trans i2;obtain⟨f1,j1,g1,rfl⟩:=g0.form;refine A0a ⟨Z,?_⟩;refine H2a ⟨G0.tail,i0⟩ Z Z Z ?_;refine p0a G0 g7b Z Z (z8a (M:=M) (x7a s M _ _ (v1a.keep (G0.keep0 M) _ _ hR)) (fun g hg=>Nat.lt_of_lt_of_le (hM g hg) G0.size) (fun c hc=>by have:=F1 c hc;unfold i64;omega)) ?_;rintro A3 D3 o0 L0 U0;have c0:=i0.trans U0;replace g0:=g0.keep (U0.of_nil);obtain⟨X0,d1,Z0,rfl⟩:=o0.form;refine A0a ⟨Z,?_⟩;refine H2a ⟨L0.tail,c0⟩ Z Z Z ?_;refine y0a L0 J9a (vs:=[.slice _ _ _,.slice _ _ _]) (cs:=[_,_]) Z Z Z Z Z Z ?_;intro n0 K0 j0 u0 b2;have a0:=c0.trans u0;replace g0:=g0.keep (u0.of_nil);replace o0:=o0.keep (u0.of_nil);refine A0a ⟨Z,?_⟩;refine H2a ⟨j0.tail.tail,a0⟩ Z Z Z ?_;have Sb:=j0;have s0:∀(k:Nat) (h:k<([Q1a s,e1a s]:List (List Int)).length),∃A n c,K0.cell? ⟨n0,0+k*1,none⟩=some (.slice A n c)∧RdI M K0 (.slice A n c) ([Q1a s,e1a s]:List (List Int))[k]:=by
    intro k hk;rcases(show k=0∨k=1 by simp at hk;omega) with rfl|rfl
    ·exact⟨f1,j1,g1,by exact j0.cell 0 Z Z,g0⟩
    ·exact⟨X0,d1,Z0,by exact j0.cell 0 Z Z,o0⟩
   refine p0a j0 L0b Z Z (Q5a M _ n0 [Q1a s,e1a s] (by simp;omega) (by simp) s0) ?_;rintro X1 Z1 ⟨G,v0,p0,P0⟩ N0 O0;have e0:=N0.pushO Sb P0;have d0:=a0.trans O0.of_nil;obtain⟨z0,D0,B0,rfl⟩:=p0.form;rw[show([Q1a s,e1a s]:List (List Int)).flatten=Q1a s++e1a s by simp] at p0;refine A0a ⟨Z,?_⟩;refine H2a ⟨e0.tail.tail.tail,d0⟩ Z Z Z ?_;refine T0a (hy:=Z) (kk:=2) e0 R4b Z Z Z (Nat.le_of_ble_eq_true Z) ?_;intro Q0 b0 q0;dsimp only[List.set] at b0;have r0:=d0.freshL q0 (fun g hg=>.inl (by rw[List.mem_singleton.1 hg];exact Nat.le_trans V0.size G6));refine A0a ⟨Z,?_⟩;refine t3a ⟨b0.tail.tail.tail,r0⟩ ?_;refine fP0 Z U ⟨Z,(g6),(n0),(G),(v0),(z0),(D0),(B0),(_),(p0),(b0.perm (by exact(List.Perm.trans ((List.Perm.swap _ _ _).cons _) (.swap _ _ _)))),Z⟩
  rintro D ε w ⟨rfl,g6,n0,G,v0,z0,D0,B0,f2,p0,S,eZ⟩;refine wK eZ (wO S.k [.o 0] Z ⟨Z,U⟩ ?_);refine V1a Y0c Z Z (v2b _ G _ v0 _ _ p0 (fun g hg=>by subst hg;exact S.blk 1 Z) (by simp;omega)) ?_;rintro q5 u5 ⟨m2,F3,z2,Q2⟩;have N1:=S.changedO 1 Z F3 z2;dsimp only[List.set] at N1;refine lO N1.k [.o 0] Z ⟨Z,U⟩ ?_;have D1:(h3a (Q1a s++e1a s)).length≤1000000:=by simp[h3a];omega
  refine V1a S0c Z Z (i0b _ G _ m2 _ _ Q2 (fun g hg=>by subst hg;exact N1.blk 1 Z) D1) ?_;rintro r5 v5 ⟨y1,H3,A2,b1⟩;have h3:=N1.changedO 1 Z H3 A2;dsimp only[List.set] at h3;obtain⟨E0,y0,F0,rfl⟩:=b1.form;rw[←i6b] at b1;have C1:Z3a G 1 (s2a s).length y1 (.slice E0 y0 F0) ((s2a s).map (Value.int .i64)):=b1;refine T0a (kk:=0) h3 R4b Z Z Z (by exact Nat.le_of_ble_eq_true Z) ?_;intro M1 t0 U3;refine lOn 9 t0.k [] Z U (D0a Z ?_);refine lCn 4 t0.k [] Z U ?_;obtain⟨a2,z3⟩:∃x:World,x=M1:=⟨_,Z⟩;have KC:z0a [g18,g4] a2 M1:=z3▸z0a.refl _ _;have H2:RdI [g18,g4] a2 (.slice E0 y0 F0) (s2a s):=by
   rw[z3];refine Z3a.rdI3 C1 t0 (k:=1) Z (fun g hg hh=>?_) p4 (by omega);subst hg;simp only[List.mem_cons,List.not_mem_nil,or_false] at hh;rcases hh with hh|hh
   ·exact t0.ne 1 4 Z Z (by omega) hh
   ·exact t0.ne 1 5 Z Z (by omega) hh
  have v4:=H2.len.1;refine wC t0.k [.o 0] Z ⟨Z,U⟩ (wL (fun μk D ε w=>D=[]∧∃k:Nat,∃ex:Int,∃G8:Option Nat,∃n2:List Value,∃v8:Value,(k+μk=((s2a s).length))∧(ex=h9a ((G4c p s).take k))∧(w1a H6b 1 [] w0 G8 n2 v8 (((s2a s).take k).map (a8c p)))∧(∀g∈G8.toList,a2.heap.size≤g)∧(z0a [g18,g4] a2 w)∧St [] w0 w [(some g6,48,[.slice E0 y0 F0]),(G,3,y1),(some n0,48,f2),(some g5,192,[.slice Ac nc cc,.slice Am nm cm,.slice Al nl cl,.slice At nt ct,.slice (some ⟨g18,0,none⟩) nc nc]),(some g18,3,List.replicate nc (.int .i64 0)),(some g4,4,[.bool false]),(some g3,61,[.int .i64 s.kind,.int .i64 s.frm,.int .i64 s.to,.int .i64 s.guard.op,.int .i64 s.guard.w,.int .i64 s.guard.n,.slice Ag ng cg,.slice As ns W0,.bool s.release,.int .i64 s.target,.int .i64 s.module_]),(some g2,27,[.slice Ac nc cc,.slice Am nm cm,.slice Al nl cl,.slice At nt ct]),(G8,3,n2)]∧Sl ε [(2,.pointer (some ⟨g2,0,none⟩)),(3,.pointer (some ⟨g3,0,none⟩)),(4,.pointer (some ⟨g4,0,none⟩)),(5,.pointer (some ⟨g5,0,none⟩)),(6,.pointer (some ⟨g6,0,none⟩)),(7,.int .i64 ex),(8,v8),(36,.slice E0 y0 F0),(37,.int .i64 y0),(38,.int .i64 k)]) (μ:=((s2a s).length)) ⟨Z,0,0,none,[],.slice none 0 0,by omega,Z,w1a.nil,by simp,KC,t0,Z⟩ ?_);rintro μk D ε w ⟨rfl,k,ex,G8,n2,v8,hk,s3,I0,t3,KC,S,eZ⟩;refine wK eZ (wB0 Z U (fun d4=>?_) fun d4=>?_)
  ·obtain⟨c,W3,M4,_,d3,q2,_,_,B2,R2⟩:=RdS.get (H2.keep KC) (k) (by omega);obtain⟨rfl,_⟩:=id R2;have r3:=a1 c (e0a d3);obtain⟨x1,Y3,N4,_,J0,r2,_,_,C2,T2⟩:=RdS.get (hC) (c.toNat) (by omega);obtain⟨rfl,_⟩:=t2a.open_ T2;have H4:=T1 x1 (e0a J0);have E1:=N0d r3.1 J0;have I4:(G4c p s)[k]?=some x1.w:=by unfold G4c;rw[List.getElem?_map,d3,←E1];rfl
   have A4:=P0c I4;have B4:=c4b a3 k;have C4:=c4b a3 (k+1);have D4:=(s6b a3).2;have E4:(G4c p s).length=(s2a s).length:=by simp[G4c]
   refine lOn 29 ((S.k.a C2).b B2) [.x W3 M4,.f 0 0,.o 7,.x Y3 N4,.f 1 1] Z ⟨by omega,Z,⟨r2,by omega⟩,Z,Z,⟨q2,by omega⟩,U⟩ (L0a Z ?_);obtain⟨_,Z3,O4,_,b3,s2,_,_,D2,U2⟩:=RdS.get (hC) (c.toNat) (by omega);obtain rfl:=Option.some.inj (J0.symm.trans b3);obtain⟨rfl,_⟩:=t2a.open_ U2;refine lO (S.k.a D2) [.o 7,.x Z3 O4,.f 0 1] Z ⟨Z,⟨s2,by omega⟩,Z,U⟩ (z5c (n:=x1.w.toNat) Z (congrArg (Value.int .i64) (show x1.w=((x1.w.toNat:Nat):Int) by omega)) Z ?_);refine y0a S Y0a (vs:=[.int .i64 _]) (cs:=[_]) Z Z Z Z Z Z ?_;intro c5 w5 i3 R3 a5;replace KC:=KC.trans (R3.of_nil);have i5:=k8b T1 r3;refine E1a U7a (k:=9) (M2:=[]) (e1:=a8c p c) i3 Y0a Z I0 Z Z (i3.cells 0 Z) ⟨by unfold a8c;rw[E1],by unfold i64;omega⟩ (by rw[List.length_map,List.length_take];omega) Z ?_;intro s5 b5 c4 x5 M3 c1 T3 I3;have V3:=KC.size;replace KC:=KC.freshL T3 (fun g hg=>.inl (t3 g hg));refine D0a Z ?_;refine lP0 Z ⟨by omega,U⟩ ⟨μk-1,by omega,Z,(k+1),(_),(_),(_),(_),(by omega),?_,?_,?_,(KC),M3.tail,Z⟩
   ·rw[A4,s3]
   ·rw[t0a d3,List.map_append];exact c1
   ·intro g hg;rcases I3 g hg with h|h;exact t3 g h;exact Nat.le_trans V3 h
  have r4:ex=h9a (G4c p s):=by rw[s3,List.take_of_length_le (by unfold G4c;rw[List.length_map];omega)]
  refine lB0 Z U (fun e4=>?_) fun e4=>?_
  ·refine lO0 Z U (T0a (kk:=5) S O8b Z Z Z (by exact Nat.le_of_ble_eq_true Z) ?_);intro B3 R0 s1;replace KC:=KC.fresh2 s1 (by first  | exact .inr (by simp));exact lR0 Z U (c6a Z L2a Z [] Z List.nodup_nil NC.nil (R0.cell 5 Z Z) (by simp) (fun w' hb=>⟨⟨true,Z,fun _=>⟨Q1,.inl (by omega)⟩,fun _=>rfl⟩,(R0.below.trans hb).nil⟩))
  refine lCn 7 S.k [] Z U ?_;obtain⟨A8,n8,c8,rfl⟩:∃A n c,v8=.slice A n c:=by obtain⟨A,c,h⟩:=w1a.form I0;exact⟨_,_,_,h⟩
  have U1:∀x∈T8a p s,1≤x∧x≤256:=fun x hx=>by
   obtain⟨c,h,rfl⟩:=List.mem_map.1 hx;exact k8b T1 (a1 c h)
  have u4:(T8a p s).length=(s2a s).length:=by simp[T8a]
  have x2:RdI [g18,g4] w (.slice A8 n8 c8) (T8a p s):=by
   have y3:=I0.toV;rw[List.take_of_length_le (by omega)] at y3;refine Z3a.rdI3 y3 S (k:=8) Z (fun g hg hh=>?_) (fun x hx=>by have:=U1 x hx;unfold i64;omega) (by show(T8a p s).length≤_;omega);subst hg;simp only[List.mem_cons,List.not_mem_nil,or_false] at hh;rcases hh with hh|hh
   ·exact S.ne 4 8 Z Z (by omega) hh.symm
   ·exact S.ne 5 8 Z Z (by omega) hh.symm
  have f3:=S;refine wOn 1 S.k [] Z U (L0a Z ?_);refine p0a S z9c Z Z (X3c A8 n8 c8 _) ?_;rintro t5 K1 ⟨gL,rfl,_,q3⟩ O1 m3;replace KC:=KC.trans (m3.of_nil);refine lC0 Z U (wJ ?_);refine y6b (vs:=fun y=>#[y,_]) Y8c Z (fun _=>rfl) (fun rc wi W1 P2 F4 K2 z4 i4 j4 q4 hl hB m5=>?_);obtain⟨l,v3⟩:∃l,l=K1.heap.size+1:=⟨_,Z⟩;obtain⟨mk,O2⟩:∃mk,mk=K1.heap.size:=⟨_,Z⟩;have o3:=c7b (NC.nil (w:=K1)) q4 hl hB;rw[←v3,←O2] at o3;rw[←v3] at hl ⊢;have N3:=(O1.later hB).sublist (.cons_cons _ (.cons _ (.cons _ (.cons_cons _ (.cons_cons _ (.cons_cons _ (.cons_cons _ (.cons _ (.cons _ .slnil)))))))));have Si:St [] w0 wi [(some g6,48,[.slice E0 y0 F0]),(some g5,192,[.slice Ac nc cc,.slice Am nm cm,.slice Al nl cl,.slice At nt ct,.slice (some ⟨g18,0,none⟩) nc nc]),(some g18,3,(List.replicate p.cells.length 0).map (Value.int .i64)),(some g4,4,[.bool false]),(some g3,61,[.int .i64 s.kind,.int .i64 s.frm,.int .i64 s.to,.int .i64 s.guard.op,.int .i64 s.guard.w,.int .i64 s.guard.n,.slice Ag ng cg,.slice As ns W0,.bool s.release,.int .i64 s.target,.int .i64 s.module_])]:=by
   rw[List.map_replicate,←x4];exact N3
  have Ki:z0a [] K1 wi:=z0a.of_below hB;have Zw:=O1.size;have l6:=Si.lt 0 Z;have l5:=Si.lt 1 Z;have J4:=Si.lt 2 Z;have l4:=Si.lt 3 Z;have n5:=Si.lt 4 Z;have o5:=f3.lt 4 Z;have m4:=f3.lt 5 Z;have I1:w0.heap.size≤g18:=by simpa using O1.new 4 Z
  have p5:w0.heap.size≤g4:=by simpa using O1.new 5 Z
  have K4:=q3.lt;simp only at K4;have v2:∀(sg:List Int) (b:Bool),∀x∈([(some g6,48,[.slice E0 y0 F0]),(some g5,192,[.slice Ac nc cc,.slice Am nm cm,.slice Al nl cl,.slice At nt ct,.slice (some ⟨g18,0,none⟩) nc nc]),(some g18,3,sg.map (Value.int .i64)),(some g4,4,[.bool b]),(some g3,61,[.int .i64 s.kind,.int .i64 s.frm,.int .i64 s.to,.int .i64 s.guard.op,.int .i64 s.guard.w,.int .i64 s.guard.n,.slice Ag ng cg,.slice As ns W0,.bool s.release,.int .i64 s.target,.int .i64 s.module_])]:List Ent),∀g,x.1=some g→g<wi.heap.size:=by
   intro sg b x hx g hg;simp only[List.mem_cons,List.not_mem_nil,or_false] at hx;rcases hx with rfl|rfl|rfl|rfl|rfl<;>(simp only[Option.some.injEq] at hg;subst hg;assumption)
  have n3:∀g∈[l,g18,g4],g∈[g18,g4]∨K1.heap.size≤g:=fun g hg=>by
   simp only[List.mem_cons,List.not_mem_nil,or_false] at hg ⊢;rcases hg with rfl|rfl|rfl
   ·right;omega
   ·exact .inl (.inl Z)
   ·exact .inl (.inr Z)
  have x3:∀g∈[l,g18,g4],g<wi.heap.size:=fun g hg=>by
   simp only[List.mem_cons,List.not_mem_nil,or_false] at hg;rcases hg with rfl|rfl|rfl
   ·omega
   ·exact J4
   ·exact l4
  have C0:∀x∈[(mk,Obj.deferred (some []))],x.1≠l:=fun x hx=>by
   rw[List.mem_singleton] at hx;subst hx;show mk≠l;omega
  have I2:RdI [l,g18,g4] wi (.slice E0 y0 F0) (s2a s):=((H2.keep KC).more (by omega) n3).keep Ki.of_nil;have h4:RdI [l,g18,g4] wi (.slice A8 n8 c8) (T8a p s):=((x2.keep m3.of_nil).more (by omega) n3).keep Ki.of_nil;have t4:gL∉[l,g18,g4]:=fun hh=>by
   simp only[List.mem_cons,List.not_mem_nil,or_false] at hh;rcases hh with h|h|h<;>omega
  have k4:wi.cell? ⟨gL,0,none⟩=some (.slice A8 n8 c8):=Ki.cell (a:=⟨gL,0,none⟩) (by simp) (q3.cell Z);refine O0a.mono (e0c [l,g18,g4] wi l gL _ (T8a p s) (fun w=>NC w [(l,.loop rc),(mk,.deferred (some []))]∧z0a [l,g18,g4] wi w∧∃sg:List Int,ZSt p s sg∧St [] w0 w [(some g6,48,[.slice E0 y0 F0]),(some g5,192,[.slice Ac nc cc,.slice Am nm cm,.slice Al nl cl,.slice At nt ct,.slice (some ⟨g18,0,none⟩) nc nc]),(some g18,3,sg.map (Value.int .i64)),(some g4,4,[.bool false]),(some g3,61,[.int .i64 s.kind,.int .i64 s.frm,.int .i64 s.to,.int .i64 s.guard.op,.int .i64 s.guard.w,.int .i64 s.guard.n,.slice Ag ng cg,.slice As ns W0,.bool s.release,.int .i64 s.target,.int .i64 s.module_])]) (C6c p s) (fun _ w=>NC w [(l,.loop { rc with state:=.done,pending:=some .ret }),(mk,.deferred (some []))]∧∃sg:List Int,St [] w0 w [(some g6,48,[.slice E0 y0 F0]),(some g5,192,[.slice Ac nc cc,.slice Am nm cm,.slice Al nl cl,.slice At nt ct,.slice (some ⟨g18,0,none⟩) nc nc]),(some g18,3,sg.map (Value.int .i64)),(some g4,4,[.bool true]),(some g3,61,[.int .i64 s.kind,.int .i64 s.frm,.int .i64 s.to,.int .i64 s.guard.op,.int .i64 s.guard.w,.int .i64 s.guard.n,.slice Ag ng cg,.slice As ns W0,.bool s.release,.int .i64 s.target,.int .i64 s.module_])]) t4 k4 h4 x3 U1 (by omega) ⟨o3,z0a.refl _ _,_,ZSt.zero p s,Si⟩ (fun w w' hJ R1=>?_) (fun n gb wr hn e5 hJ SY=>?_)) ?_
  ·obtain⟨x0,K3,sg,hz,S3⟩:=hJ;exact⟨x0.laterN R1 (fun x hx=>by simp only[List.mem_cons,List.not_mem_nil,or_false] at hx;rcases hx with rfl|rfl<;>(simp only;omega)),⟨Nat.le_trans K3.size R1.size,fun i hi hm=>(R1.block i hi).trans (K3.same i hi hm)⟩,sg,hz,S3.laterN R1 (by omega) (v2 sg false)⟩
  ·obtain⟨x0,K3,sg,hz,S3⟩:=hJ;have y2:(dgL (T8a p s) n).length=(s2a s).length:=by rw[r5a,u4]
   have p3:∀x∈dgL (T8a p s) n,i64 x:=fun x hx=>by
    obtain⟨j,hj,rfl⟩:=List.getElem_of_mem hx;have u3:j<(T8a p s).length:=by rw[r5a] at hj;exact hj
    have h1:=I0b (T8a p s) n j (T8a p s)[j] _ (fun x hx=>(U1 x hx).1) (List.getElem?_eq_getElem u3) (List.getElem?_eq_getElem hj);have h2:=U1 _ (List.getElem_mem u3);unfold i64;omega
   have hV:RdI [l,g18,g4] wr (.slice (some ⟨gb,0,none⟩) (T8a p s).length (T8a p s).length) (dgL (T8a p s) n):=X3a (hM:=(fun hh=>by have:=x3 gb hh;omega)) (k:=0) SY Z (by rw[r5a]) p3;have J2:=I2.keep K3;refine G7c (x0 (l,.loop rc) (by simp)).1 W1 F4 K2 z4 i4 j4 Z ?_;refine wI ?_;refine wF0 Z U ?_;refine⟨(x0 (l,.loop rc) (by simp)).1,?_⟩;have Sb:=S3.putObj (.loop { rc with state:=.busy }) x0 (List.mem_cons_self) (.inl (by omega));have m0:=x0.put (o':=.loop { rc with state:=.busy }) C0 (by simp);have Kw:z0a [l,g18,g4] wr (wr.putObj l (.loop { rc with state:=.busy })):=(h5a wr l (.loop { rc with state:=.busy })).mono (by simp);generalize wr.putObj l (.loop { rc with state:=.busy })=wb at Sb m0 Kw ⊢;refine wI ?_;refine wO0 Z U (J0a h7a Z (by exact Sb.cell 0 Z Z) Z ?_);refine lC0 Z U (wL (fun μi D ε w=>D=[]∧∃i:Nat,∃sk:List Int,(i+μi=((s2a s).length))∧(sk=N0b ((s2a s).take i) ((dgL (T8a p s) n).take i) sg)∧(z0a [l,g18,g4] wr w)∧(NC w [(l,.loop { rc with state:=.busy }),(mk,.deferred (some []))])∧St [] w0 w [(some g6,48,[.slice E0 y0 F0]),(some g5,192,[.slice Ac nc cc,.slice Am nm cm,.slice Al nl cl,.slice At nt ct,.slice (some ⟨g18,0,none⟩) nc nc]),(some g18,3,sk.map (Value.int .i64)),(some g4,4,[.bool false]),(some g3,61,[.int .i64 s.kind,.int .i64 s.frm,.int .i64 s.to,.int .i64 s.guard.op,.int .i64 s.guard.w,.int .i64 s.guard.n,.slice Ag ng cg,.slice As ns W0,.bool s.release,.int .i64 s.target,.int .i64 s.module_])]∧Sl ε [(3,.pointer (some ⟨g3,0,none⟩)),(4,.pointer (some ⟨g4,0,none⟩)),(5,.pointer (some ⟨g5,0,none⟩)),(11,.slice (some ⟨gb,0,none⟩) (T8a p s).length (T8a p s).length),(66,.slice E0 y0 F0),(67,.int .i64 y0),(68,.int .i64 i)]) (μ:=((s2a s).length)) ⟨Z,0,sg,by omega,(by simp[N0b]),Kw,m0,Sb,Z⟩ ?_);rintro μi D ε w ⟨rfl,i,sk,hi,Y2,Kw,m0,S,eZ⟩;refine wK eZ (wB0 Z U (fun f4=>?_) fun f4=>?_)
   ·obtain⟨c2,a4,P4,_,G1,t2,_,_,E2,V2⟩:=RdS.get (J2.keep Kw) (i) (by omega);obtain⟨rfl,_⟩:=id V2;have n4:=a1 c2 (e0a G1);refine lC (S.k.b E2) [.x a4 P4,.f 0 0] Z ⟨Z,⟨t2,by omega⟩,U⟩ (H0a c0a [0,1,2,3,4,5,6,7] [] [8] Z (Cl _ _ _ _) (Cl.start S) ?_);obtain⟨d2,b4,Q4,_,e3,u2,_,_,F2,W2⟩:=RdS.get (hV.keep Kw) (i) (by omega);obtain⟨rfl,_⟩:=id W2;refine qO (S.q.b F2) [.o 1,.x b4 Q4,.f 0 0] Z ⟨Z,⟨u2,by omega⟩,Z,U⟩ (s0a Y0a.slT Z (by rfl) Z Z ?_);refine qD Z U ?_;rintro Z4 ⟨r1,v1⟩;replace Kw:=Kw.trans (v1.of_nil);replace m0:=m0.keep v1;have h5:sk.length=nc:=by rw[Y2,q3b,hz.1];omega
    refine T0a (hy:=Z) (kk:=2) (v:=.int .i64 d2) r1 R2c Z Z Z (by rw[List.length_map];omega) ?_;intro U4 e2 j3;have L3:St [] w0 U4 [(some g6,48,[.slice E0 y0 F0]),(some g5,192,[.slice Ac nc cc,.slice Am nm cm,.slice Al nl cl,.slice At nt ct,.slice (some ⟨g18,0,none⟩) nc nc]),(some g18,3,(sk.set c2.toNat d2).map (Value.int .i64)),(some g4,4,[.bool false]),(some g3,61,[.int .i64 s.kind,.int .i64 s.frm,.int .i64 s.to,.int .i64 s.guard.op,.int .i64 s.guard.w,.int .i64 s.guard.n,.slice Ag ng cg,.slice As ns W0,.bool s.release,.int .i64 s.target,.int .i64 s.module_])]:=by
     simpa[List.map_set] using e2
    replace Kw:=Kw.trans (j3.mono (by simp));replace m0:=m0.keepS j3 (r1.blk 2 Z);refine lP0 Z ⟨by omega,U⟩ ⟨μi-1,by omega,Z,(i+1),(_),(by omega),?_,(Kw),(m0),L3,Z⟩;rw[Y2];exact(I4b _ _ _ _ _ _ G1 e3).symm
   refine lCn 7 S.k [] Z U ?_;have Z2:sk=stC p s n:=by
    rw[Y2,List.take_of_length_le (by omega),List.take_of_length_le (by omega)];exact hz.2.2 _ y2
   have H1:ZSt p s (stC p s n):=by
    have h:=hz.lay (V:=dgL (T8a p s) n) (fun c hc=>(a1 c hc).1) y2 p3;rw[hz.2.2 _ y2] at h;exact h
   rw[Z2] at S;have B1:RdI M w (.slice (some ⟨g18,0,none⟩) nc nc) (stC p s n):=X3a (hM:=(p3a S (k:=2) Z hM)) S (k:=2) Z (by rw[H1.1];omega) H1.2.1;refine wO S.k [.o 4,.o 1,.o 1] Z ⟨Z,Z,Z,U⟩ (U0a S Q3b Z Z (t0b s.guard M _ _ _ _ (stC p s n) (stC p s n) (RdE.keep (S.keep0 M) _ _ hG) (hK.keep (S.keep0 M)) B1 B1) ?_);intro Y4 Y0 j2;replace Kw:=Kw.trans (j2.of_nil);replace m0:=m0.keep j2;replace B1:=B1.keep (j2.of_nil);refine lB0 Z U (fun o2=>?_) fun o2=>?_
   ·refine lO Y0.k [.o 4,.w 1] Z ⟨⟨Z,Z⟩,Z,U⟩ (h2a Z Z Z ?_);refine lO0 Z U (f0a Y0 t2c Z Z (s8a M _ _ _ s.set (chA p (stC p s n)) (fun a=>0≤a.cell∧a.cell<p.cells.length) (RdS.keepW A1 (Y0.keep0 M) (I0a.keep (Y0.keep0 M))) ⟨_,_,_,Z,y7c,fun w' hk a ca hok hr=>K3b p a (stC p s n) M w' [.slice Ac nc cc,.slice Am nm cm,.slice Al nl cl,.slice At nt ct] ca (some ⟨g18,0,none⟩) nc nc (hP.keep ((Y0.keep0 M).trans hk)) hr hok (hK.keep ((Y0.keep0 M).trans hk)) (B1.keep hk) H1.1⟩ hok) (fun p2 E3 P1 u1=>?_) (fun p2 E3 P1 u1=>?_))
    ·replace Kw:=Kw.trans (u1.of_nil);replace m0:=m0.keep u1;refine lO0 Z U (T0a (kk:=3) P1 O8b Z Z Z (by exact Nat.le_of_ble_eq_true Z) ?_);intro J1 o1 T0;replace Kw:=Kw.fresh2 T0 (by first  | exact .inr (by simp));replace m0:=by exact m0.keepS T0 (P1.blk 3 Z)
     refine lR0 Z U ?_;refine⟨{ rc with state:=.busy },(m0 (l,_) (by simp)).1,?_⟩;have z1:=m0.put (o':=.loop { rc with state:=.done,pending:=some .ret }) C0 (by simp);have Sn:=o1.putObj (.loop { rc with state:=.done,pending:=some .ret }) m0 (List.mem_cons_self) (.inl (by omega));have Kn:=Kw.trans ((h5a J1 l (.loop { rc with state:=.done,pending:=some .ret })).mono (by simp));exact⟨k1c S3.below Sn.below Kn,.inr ⟨Z,by unfold C6c;rw[decide_eq_true o2,p2];rfl,z1,_,Sn⟩⟩
    replace Kw:=Kw.trans (u1.of_nil);replace m0:=m0.keep u1;refine lF0 Z U ?_;refine⟨{ rc with state:=.busy },(m0 (l,_) (by simp)).1,?_⟩;have z1:=m0.put (o':=.loop rc) C0 (by simp);have Sn:=P1.putObj (.loop rc) m0 (List.mem_cons_self) (.inl (by omega));have Kn:=Kw.trans ((h5a E3 l (.loop rc)).mono (by simp));rw[B2c W1 P2];exact⟨k1c S3.below Sn.below Kn,.inl ⟨Z,by unfold C6c;rw[p2,Bool.and_false],z1,K3.trans Kn,_,H1,Sn⟩⟩
   refine lF0 Z U ?_;refine⟨{ rc with state:=.busy },(m0 (l,_) (by simp)).1,?_⟩;have z1:=m0.put (o':=.loop rc) C0 (by simp);have Sn:=Y0.putObj (.loop rc) m0 (List.mem_cons_self) (.inl (by omega));have Kn:=Kw.trans ((h5a Y4 l (.loop rc)).mono (by simp));rw[B2c W1 P2];exact⟨k1c S3.below Sn.below Kn,.inl ⟨Z,by unfold C6c;(rw[decide_eq_false o2];rfl),z1,K3.trans Kn,_,H1,Sn⟩⟩
  rintro v w3 ⟨d5,(⟨⟨x0,K3,sg,hz,S3⟩,y4⟩|⟨n,hn,N2,x0,sg,S3⟩)⟩
  rotate_left
  ·refine⟨{ rc with state:=.done,pending:=some .ret },(x0 (l,_) List.mem_cons_self).1,by simp,.inr ⟨Z,?_⟩⟩;have Sa:=S3.putObj (.loop { rc with state:=.exhausted,pending:=some .ret }) x0 (List.mem_cons_self) (.inl (by omega));have i1:=(x0.put (o':=.loop { rc with state:=.exhausted,pending:=some .ret }) C0 (by simp)).tail;exact c6a Z L2a Z [mk] (by rw[O2];rfl) (by simp) i1 (Sa.cell 3 Z Z) (by rw[List.mem_singleton];omega) (fun w' hb=>⟨⟨true,Z,⟨fun _=>⟨Q1,.inr ⟨n,hn,N2⟩⟩,fun _=>rfl⟩⟩,(C0a.step Sa.below hb (by simp;omega)).nil⟩)
  refine⟨rc,(x0 (l,.loop rc) (by simp)).1,by rw[W1];simp,.inl ⟨P2,?_⟩⟩;have Sa:=S3.putObj (.loop { rc with state:=.exhausted }) x0 (List.mem_cons_self) (.inl (by omega));have i1:=(x0.put (o':=.loop { rc with state:=.exhausted }) C0 (by simp)).tail;generalize w3.putObj l (.loop { rc with state:=.exhausted })=wa at Sa i1 ⊢;refine fO0 Z U (T0a (kk:=3) Sa O8b Z Z Z (by exact Nat.le_of_ble_eq_true Z) ?_);intro C3 S0 t1;replace i1:=by exact i1.keepS t1 (Sa.blk 3 Z)
  refine lR0 Z U ?_;exact c6a Z L2a Z [mk] (by rw[O2];rfl) (by simp) i1 (S0.cell 3 Z Z) (by rw[List.mem_singleton];omega) (fun w' hb=>⟨⟨false,Z,(fun h=>by cases h),(fun h=>by rcases h.2 with h|⟨n,hn,hh⟩;omega;rw[y4 n hn] at hh;cases hh)⟩,(C0a.step S0.below hb (by simp;omega)).nil⟩)
 refine lO0 Z U (T0a (kk:=2) m1 O8b Z Z Z (by exact Nat.le_of_ble_eq_true Z) ?_);intro W4 p1 Q3;refine lR0 Z U ?_;exact c6a Z L2a Z [] Z List.nodup_nil NC.nil (p1.cell 2 Z Z) (by simp) (fun w' hb=>⟨⟨false,Z,(fun h=>by cases h),(fun h=>by have:=h.1;rw[Q1] at this;cases this)⟩,(p1.below.trans hb).nil⟩)
section
variable {P:Program} {r:Option Nat} {N:Nat} {D:List Deferred} {e:Env} {w w0:World} {ops:Array Oper} {rest:List Oper} {K:List Deferred→Env→World→Prop} {L:List Ent} {M:List Nat}
variable {d:Nat} {t:TypeId} {p:String} {af:Array Edge} {x y z:Operand} {α:Type} {enc:α→Value}
theorem s0c{k el:TypeId}{ty b:Nat}{l:List α}{a:α}{q:Lit}(Kd:Keyed P k)(ht:P.underlying ty=some (.map k el))(hz:∀w,(zeroValue el).run P w=.ok (.bool false) w)(b0:∀a b,enc a=enc b→a=b)(c0:∀a∈l,∃q,keyOf P k (enc a)=some q)(d0:keyOf P k (enc a)=some q)(h:u7a enc w b l)
 (hx:ev e x=.map (some b)) (hy:ev e y=enc a) (hd:Nat.ble (d+1) N=true) (h1:a∈l→WL P r N ops rest K D (upd e d (.bool true)) w) (h2:a∉l→WL P r N ops rest K D (upd e d (.bool false)) w) :
 WL P r N ops (⟨some d,.lookup ty x y false,t,p,af,none⟩::rest) K D e w:=by
 obtain⟨es,a0,q1,q2,_⟩:=h;refine b2c (l:=l.map fun a=>(enc a,Value.bool true)) Kd ht hz ⟨es,a0,q1,q2,fun x hx=>?_⟩ hx hy d0 hd (fun v hv=>?_) (fun hn=>h2 fun ha=>hn _ (List.mem_map.2 ⟨a,ha,Z⟩) Z)
 ·obtain⟨a,ha,rfl⟩:=List.mem_map.1 hx;exact c0 a ha
 ·obtain⟨_,ha,he⟩:=List.mem_map.1 hv;simp only[Prod.mk.injEq] at he;obtain⟨he,rfl⟩:=he;exact h1 (b0 _ _ he▸ha)
end
open Classical in
noncomputable def chgB(p:i0a)(s:h1a):Bool:=decide (Chg p s)
open Classical in
theorem d1d{p:i0a}{s:h1a}(h:chgB p s=true):Chg p s:=of_decide_eq_true h
open Classical in
theorem L0d{p:i0a}{s:h1a}(h:chgB p s=false):¬Chg p s:=of_decide_eq_false h
open Classical in
theorem n9c{p:i0a}{s:h1a}{b:Bool}(h:b=true↔Chg p s):b=chgB p s:=by
 unfold chgB;cases b
 ·exact(decide_eq_false (fun hc=>by cases h.2 hc)).symm
 ·exact(decide_eq_true (h.1 Z)).symm
theorem z3c{p:i0a}{t n:Int}{s:h1a}(h:T6a p t n s){x:Int}(hx:x∈Q1a s):0≤x∧x<p.cells.length:=by
 have h1:=J7a.1 hx;unfold w4a at h1;rw[List.take_of_length_le (Nat.le_refl _)] at h1;rcases List.mem_append.1 h1 with h1|h1
 ·exact M5a h.guard.1 x (List.mem_append_right _ h1)
 ·obtain⟨_,hl,h1⟩:=List.mem_flatten.1 h1;obtain⟨a,ha,rfl⟩:=List.mem_map.1 hl;exact M5a (h.set a ha).2.1 x (List.mem_append_right _ h1)
def Y3d(p:i0a)(x:Int):Prop:=∃th∈p.threads,∃s∈th.steps,s.module_=x∧Chg p s
def M5c(p:i0a)(l:List Int):Prop:=l.Pairwise (·<·)∧∀x,x∈l↔(0≤x∧x<p.modules.length)∧¬Y3d p x
theorem B0c(p:i0a)(M:List Nat)(w0:World)(cs:List Value)(hI:InP p M w0 cs):
 O0a prog 34 #[.agg cs.toArray] w0 fun v w'=>(∃l,M5c p l∧v3a 3 w0 w' v l)∧Below w0.heap.size w0 w':=by
 obtain⟨Ac,nc,cc,Am,nm,cm,Al,nl,cl,At,nt,ct,rfl,_,_,_,C1,_⟩:=hI.rd.open_;have S:=(St.refl w0).nilEnt 3;have hM:=hI.lt;have hp:=hI.ok;have n1:=hp.ncells;have n2:=hp.nthreads;have n3:=hp.nmodules;refine a0a func34 Z ntmps34 Z ?_;refine wO0 Z U (q0a S Z ?_);intro g1 w1 S1 X1 G1;refine lO S1.k [.w 0] Z ⟨⟨Z,Z⟩,U⟩ (U0a S1 d5b Z Z (h6a p M _ _ (hI.keep (S1.keep0 M))) ?_);intro V1 f1 O1;refine lO0 Z U (n3a (k:=3) f1 Z ?_);intro e0 W1 i1 P1 K1 E0;have S0:w0.heap.size≤e0:=by have:=f1.size;omega
 have Ms:=u7a.mk_ (enc:=Value.int .i64) E0;refine lC i1.k [.o 0] Z ⟨Z,U⟩ (wL (fun μk D ε w=>D=[]∧∃k:Nat,∃l:List Int,(k+μk=(p.threads.length))∧(u7a (Value.int .i64) w e0 l)∧(∀x,x∈l↔∃th∈p.threads.take k,∃s∈th.steps,s.module_=x∧Chg p s)∧(∀x∈l,i64 x)∧St [] w0 w [(some g1,27,[.slice Ac nc cc,.slice Am nm cm,.slice Al nl cl,.slice At nt ct]),(none,3,[])]∧Sl ε [(1,.pointer (some ⟨g1,0,none⟩)),(3,.map (some e0)),(15,.slice At nt ct),(16,.int .i64 nt),(17,.int .i64 k)]) (μ:=(p.threads.length)) ⟨Z,0,[],by omega,Ms,(by simp),(by simp),i1,Z⟩ ?_);rintro μk D ε w ⟨rfl,k,l,_,Ms,hl,hok,S,eZ⟩;refine wK eZ (wB0 Z U (fun z1=>?_) fun z1=>?_)
 ·obtain⟨th,v1,D1,_,j0,O0,_,W0,Q0,Z0⟩:=RdS.get (C1) (k) (by omega);obtain⟨B0,b1,J0,D0,d1,L0,o0,m0,q0,C0,c1,K0,rfl,_,_,_,r0,_⟩:=M0a.open_ Z0;have R1:=(hp.thread j0).nsteps;refine lO (S.k.a Q0) [.x v1 D1,.v 0] Z ⟨⟨Z,W0⟩,⟨O0,by omega⟩,U⟩ (h0a S e7a Z Z ?_);intro g5 w5 S5 X5 G5;replace Ms:=Ms.keep X5 (List.not_mem_nil);refine b0a (kk:=0) (vs:=[_,_,_,_,_,_,_]) S5 Y6a Z Z Z Z Z Z Z ?_;intro H1 f0 H0;dsimp only[d0a,List.set] at f0;replace Ms:=Ms.keep H0 (fun hh=>by rw[List.mem_singleton] at hh;exact Ms.ne (S5.blk 0 Z) hh);refine lC f0.k [.o 0] Z ⟨Z,U⟩ (wL (fun μj D ε w=>D=[]∧∃j:Nat,∃l2:List Int,(j+μj=(th.steps.length))∧(u7a (Value.int .i64) w e0 l2)∧(∀x,x∈l2↔x∈l∨∃s∈th.steps.take j,s.module_=x∧Chg p s)∧(∀x∈l2,i64 x)∧St [] w0 w [(some g5,58,[.string th.name,.int .i64 th.points,.slice B0 b1 J0,.slice D0 d1 L0,.slice o0 m0 q0,.slice C0 c1 K0,.bool th.asleep]),(some g1,27,[.slice Ac nc cc,.slice Am nm cm,.slice Al nl cl,.slice At nt ct]),(none,3,[])]∧Sl ε [(1,.pointer (some ⟨g1,0,none⟩)),(3,.map (some e0)),(15,.slice At nt ct),(16,.int .i64 nt),(17,.int .i64 k),(22,.slice o0 m0 q0),(23,.int .i64 m0),(24,.int .i64 j)]) (μ:=(th.steps.length)) ⟨Z,0,l,by omega,Ms,(by simp),hok,f0,Z⟩ ?_);rintro μj D ε w ⟨rfl,j,l2,_,b0,y0,c0,S,eZ⟩;refine wK eZ (wB0 Z U (fun A1=>?_) fun A1=>?_)
  ·obtain⟨s,x1,E1,_,A0,P0,_,X0,R0,v0⟩:=RdS.get (r0) (j) (by omega);obtain⟨_,_,_,_,_,_,rfl,⟨_,_⟩,_⟩:=v1a.open_ v0;have z0:=(hp.thread j0).steps s (e0a A0);have T1:=N0c z0;have Y0:=z0.mod;have T0:i64 s.module_:=by unfold O1a at Y0;unfold i64;omega
   refine lO (S.k.a R0) [.x x1 E1,.v 0] Z ⟨⟨Z,X0⟩,⟨P0,by omega⟩,U⟩ (h0a S e6b Z Z ?_);intro g7 w7 S7 X7 G7;replace b0:=b0.keep X7 (List.not_mem_nil);refine b0a (kk:=0) (vs:=[_,_,_,_,_,_,_,_,_,_,_]) S7 U6b Z Z Z Z Z Z Z ?_;intro I1 a0 I0;dsimp only[d0a,List.set] at a0;replace b0:=b0.keep I0 (fun hh=>by rw[List.mem_singleton] at hh;exact b0.ne (S7.blk 0 Z) hh);refine lO a0.k [.o 0] Z ⟨Z,U⟩ ?_;have U0:=x5a T0;refine s0c (k:=3) (Go.Maps.int_keyed Tryz.underlying3) Tryz.underlying108 C2d b4b (fun a ha=>⟨_,x5a (c0 a ha)⟩) U0 b0 Z Z Z (fun s0=>?_) fun p1=>?_
   ·refine lP0 Z ⟨by omega,U⟩ ⟨μj-1,by omega,Z,(j+1),?_,(by omega),?_,?_,?_,a0.tail,Z⟩;exact l2
    ·exact b0
    ·intro x;rw[Q2a A0 (fun s=>s.module_=x∧Chg p s),←or_assoc,←y0];exact⟨.inl,fun h=>h.elim id (fun h=>h.1▸s0)⟩
    ·exact c0
   refine lO a0.k [.w 2,.w 0] Z ⟨⟨Z,Z⟩,⟨Z,Z⟩,U⟩ (f0a a0 i1d Z Z ((b7b p s (fun c hc=>z3c z0 hc) (fun a ha=>(z0.set a ha).1) (by omega) M _ _ _ (hI.keep (a0.keep0 M)) (v1a.keep (a0.keep0 M) _ _ v0)).mono (fun v w' ⟨⟨b,hv,hb⟩,hB⟩=>⟨hv.trans (congrArg Value.bool (n9c hb)),hB⟩)) (fun N0 F1 x0 G0=>?_) (fun N0 F1 x0 G0=>?_))
   ·replace b0:=b0.keep G0 (List.not_mem_nil);refine lO x0.k [.o 0] Z ⟨Z,U⟩ (y2b (k:=3) x0 (Go.Maps.int_keyed Tryz.underlying3) Tryz.underlying108 b4b (fun a ha=>⟨_,x5a (c0 a ha)⟩) ⟨_,x5a T0⟩ b0 Z Z Z (.inl S0) ?_);intro q1 p0 m1 r1;refine lP0 Z ⟨by omega,U⟩ ⟨μj-1,by omega,Z,(j+1),?_,(by omega),?_,?_,?_,p0.tail,Z⟩;exact insL l2 s.module_
    ·exact r1
    ·intro x;rw[E4a,y0,Q2a A0 (fun s=>s.module_=x∧Chg p s),or_assoc];exact⟨fun h=>h.imp id (fun h=>h.imp id (fun h=>⟨h.symm,d1d N0⟩)),fun h=>h.imp id (fun h=>h.imp id (fun h=>h.1.symm))⟩
    ·intro x hx;rcases E4a.1 hx with h|h;exact c0 x h;subst h;exact T0
   replace b0:=b0.keep G0 (List.not_mem_nil);refine lP0 Z ⟨by omega,U⟩ ⟨μj-1,by omega,Z,(j+1),?_,(by omega),?_,?_,?_,x0.tail,Z⟩;exact l2
   ·exact b0
   ·intro x;rw[Q2a A0 (fun s=>s.module_=x∧Chg p s),←or_assoc,←y0];exact⟨.inl,fun h=>h.elim id (fun h=>absurd h.2 (L0d N0))⟩
   ·exact c0
  refine lP0 Z ⟨by omega,U⟩ ⟨μk-1,by omega,Z,(k+1),(l2),(by omega),(b0),?_,(c0),S.tail,Z⟩;intro x;rw[y0,hl,Q2a j0 (fun th=>∃s∈th.steps,s.module_=x∧Chg p s),show j=th.steps.length by omega,List.take_length]
 refine lOn 8 S.k [] Z U (D0a Z ?_);refine lC S.k [.o 0] Z ⟨Z,U⟩ ?_;refine wL (fun μq D ε w=>D=[]∧∃q:Nat,∃G:Option Nat,∃cs2:List Value,∃v:Value,∃li:List Int,(q+μq=(p.modules.length))∧(w1a H6b 1 [] w0 G cs2 v li)∧(li.Pairwise (·<·))∧(∀x,x∈li↔(0≤x∧x<(q:Int))∧x∉l)∧(li.length≤q)∧(u7a (Value.int .i64) w e0 l)∧St [] w0 w [(some g1,27,[.slice Ac nc cc,.slice Am nm cm,.slice Al nl cl,.slice At nt ct]),(G,3,cs2)]∧Sl ε [(3,.map (some e0)),(8,v),(45,.int .i64 nm),(46,.int .i64 q)]) (μ:=(p.modules.length)) ⟨Z,0,none,[],.slice none 0 0,[],by omega,w1a.nil,List.Pairwise.nil,(by intro x;simp;omega),by simp,Ms,S,Z⟩ ?_;rintro μq D ε w ⟨rfl,q,G,cs2,v,li,_,g0,a1,d0,_,n0,S,eZ⟩;refine wK eZ (wB0 Z U (fun B1=>?_) fun B1=>?_)
 ·have o1:i64 (q:Int):=by unfold i64;omega
  refine lO0 Z U ?_;have V0:=x5a o1;refine s0c (k:=3) (Go.Maps.int_keyed Tryz.underlying3) Tryz.underlying108 C2d b4b (fun a ha=>⟨_,x5a (hok a ha)⟩) V0 n0 Z Z Z (fun t0=>?_) fun u0=>?_
  ·refine lOn 8 S.k [] Z U ?_;refine m2d Z Z (by unfold i64;omega) Z ?_;refine L0a (hv:=Z) (v:=.int .i64 _) Z ?_;refine lP0 Z U ⟨μq-1,by omega,Z,(q+1),(_),(_),(_),?_,(by omega),?_,?_,?_,?_,?_,S,Z⟩;exact li
   ·exact g0
   ·exact a1
   ·intro x;rw[d0];constructor
    ·rintro⟨h1,h2⟩;exact⟨by omega,h2⟩
    ·rintro⟨h1,h2⟩;refine⟨?_,h2⟩;by_cases hx:x=q
     ·subst hx;exact absurd t0 h2
     ·omega
   ·omega
   ·exact n0
  refine lOn 5 S.k [] Z U (L0a Z ?_);refine lO0 Z U (y0a S Y0a (vs:=[.int .i64 _]) (cs:=[_]) Z Z Z Z Z Z ?_);intro Q1 Y1 F0 t1 M1;replace n0:=n0.keep t1 (List.not_mem_nil);have Sb:=F0;refine E1a U7a (k:=2) (M2:=[]) (e1:=(q:Int)) F0 Y0a Z g0 Z Z (F0.cells 0 Z) ⟨Z,o1⟩ (by omega) Z ?_;intro U1 N1 y1 Z1 j1 i0 u1 J1;have s1:=n0.keep u1 (fun hh=>by
   have hG:G=some e0:=by simpa using hh
   subst hG;exact n0.ne (Sb.blk 2 Z) Z)
  refine D0a Z ?_;refine lOn 4 j1.k [] Z U ?_;refine m2d Z Z (by unfold i64;omega) Z ?_;refine L0a (hv:=Z) (v:=.int .i64 _) Z ?_;refine lP0 Z U ⟨μq-1,by omega,Z,(q+1),(_),(_),(_),?_,(by omega),?_,?_,?_,?_,?_,j1.tail,Z⟩;exact li++[(q:Int)]
  ·exact i0
  ·rw[List.pairwise_append];refine⟨a1,List.pairwise_singleton _ _,fun a ha b hb=>?_⟩;rw[List.mem_singleton] at hb;subst hb;exact((d0 a).1 ha).1.2
  ·intro x;rw[List.mem_append,List.mem_singleton,d0];constructor
   ·rintro(⟨h1,h2⟩|rfl)
    ·exact⟨by omega,h2⟩
    ·exact⟨by omega,u0⟩
   ·rintro⟨h1,h2⟩;by_cases hx:x=q
    ·exact .inr hx
    ·exact .inl ⟨by omega,h2⟩
  ·rw[List.length_append];simp;omega
  ·exact s1
 refine lOn 8 S.k [] Z U (L0a Z ?_);refine D0a Z ?_;refine lR0 Z U (w0a Z ?_);refine⟨⟨li,⟨a1,fun x=>?_⟩,G,cs2,g0.toV,fun g hg=>by subst hg;exact⟨by simpa using S.new 1 Z,S.blk 1 Z⟩⟩,S.fin⟩;rw[d0,hl,show k=p.threads.length by omega,List.take_length,show q=p.modules.length by omega];rfl
theorem H8b{e:E}{a0:Int}(h:e.good a0=true):e.kids.length≤3∧∀k∈e.kids,k.good (a0-1)=true:=by
 obtain⟨d0,c0⟩:=Z0a h;have e0:=(I1a d0).2.2.1;have b0:=c1a e.op;exact⟨by omega,c0⟩
theorem E8b:∀(e:E) (M:List Nat) (w0:World) (cs:List Value) (s0:Int),RdE M w0 e cs→(e.kids.length≤3∧∀k∈e.kids,k.good (s0-1)=true)→(∀g∈M,g<w0.heap.size) →
 O0a prog 144 #[.agg cs.toArray] w0 fun v w'=>(∃cs:List Value,v=.agg cs.toArray∧RdE M w' e cs)∧Below w0.heap.size w0 w':=by
 intro e
 induction e using E.induct with
 | _ e ih =>
 intro M w0 cs s0 hR hg hM;obtain⟨A,n,c,rfl,o1,o2,o3,hn,hc,hm,o0,F0⟩:=hR.open_;obtain⟨_,E0⟩:=hg;have hK:RdS M w0 4 (RX M w0) (.slice A n c) e.kids:=(RdL.made hn hc hm o0 F0).rdS;have S:=(St.refl w0).nilEnt 38;refine a0a func144 Z ntmps144 Z ?_;refine wO0 Z U (q0a S Z ?_);intro g1 w1 S1 X1 G1;refine h0a S1 r1a Z Z ?_;intro g2 w2 S2 X2 G2;refine lOn 4 S2.k [] Z U (D0a Z ?_);refine lC S2.k [.o 1] Z ⟨Z,U⟩ (wL (fun μk D ε w=>D=[]∧∃k:Nat,∃G:Option Nat,∃m0:List Value,∃v:Value,(k+μk=(e.kids.length))∧(V2b (g2::M) w G m0 v (e.kids.take k))∧St [] w0 w [(some g2,38,[.int .i64 0,.int .i64 0,.int .i64 0,.slice none 0 0]),(some g1,38,[.int .i64 e.op,.int .i64 e.w,.int .i64 e.n,.slice A n c]),(G,38,m0)]∧Sl ε [(1,.pointer (some ⟨g1,0,none⟩)),(2,.pointer (some ⟨g2,0,none⟩)),(3,v),(7,.slice A n c),(8,.int .i64 n),(9,.int .i64 k)]) (μ:=(e.kids.length)) ⟨Z,0,none,[],.slice none 0 0,by omega,V2b.nil,S2,Z⟩ ?_);rintro μk D ε w ⟨rfl,k,G,m0,v,_,d0,S,eZ⟩;refine wK eZ ?_;have KQ:=z0a.refl (G.toList++g2::M) w;refine wB0 Z U (fun D0=>?_) fun D0=>?_
 ·obtain⟨y,B0,G0,_,r0,n0,_,q0,p0,e0⟩:=RdS.get (hK) (k) (by omega);obtain⟨_,_,_,rfl,_⟩:=RdE.cells e0;refine lO (S.k.a p0) [.x B0 G0,.v 0] Z ⟨⟨Z,q0⟩,⟨n0,by omega⟩,U⟩ (h0a S r1a Z Z ?_);intro g5 w5 S5 X5 G5;have g0:=Nat.le_trans KQ.size G5;replace KQ:=KQ.trans (X5.of_nil);refine b0a (kk:=0) (vs:=[_,_,_,_]) S5 v0a Z Z Z Z Z Z Z ?_;intro H0 a0 i0;dsimp only[d0a,List.set] at a0;replace KQ:=KQ.fresh2 i0 (by exact .inl g0);refine lOn 3 a0.k [] Z U (L0a Z ?_);refine lO a0.k [.w 0] Z ⟨⟨Z,by rfl⟩,U⟩ ?_;have x0:=F4a (M:=M) a0 hM;refine p0a a0 a8a Z Z (ih y (e0a r0) _ _ _ (s0-1) (RdE.keep (a0.keep0 _) _ _ (RdE.more (C3a a0) _ _ e0)) (H8b (E0 _ (e0a r0))) x0) ?_;rintro P0 R0 ⟨_,rfl,f0⟩ y0 A0;replace KQ:=KQ.trans (A0.of_nil);obtain⟨_,_,_,rfl,-⟩:=f0.open_;refine y0a y0 Q0a (vs:=[.agg _]) (cs:=[_,_,_,_]) Z Z Z Z Z Z ?_;intro O0 S0 t0 u0 K0;replace f0:=RdE.keep (u0.of_nil) _ _ f0;replace KQ:=KQ.trans (u0.of_nil);have b0:=d0.keep KQ;refine E1a V3a (k:=4) (M2:=g2::M) (e1:=y) t0 Q0a Z b0 Z Z (t0.cells 0 Z) (RdE.less (fun x hx=>by cases G<;>simp[O0b] at hx ⊢<;>grind) _ _ f0) (by rw[List.length_take];omega) Z ?_;intro Q0 L0 C0 T0 z0 b0 N0 J0;refine D0a Z ?_;refine lP0 Z ⟨by omega,U⟩ ⟨μk-1,by omega,Z,(k+1),(_),(_),(_),(by omega),?_,z0.tail.tail,Z⟩;rw[t0a r0];exact b0
 refine lCn 7 S.k [] Z U ?_;obtain⟨Av,cv,rfl⟩:=w1a.form d0;have v0:RdL (g2::M) w (.slice Av (e.kids.take k).length cv) (e.kids.take k):=d0.rdL S (k:=2) Z (fun g hg=>by
  subst hg;intro hh;rcases List.mem_cons.1 hh with hh|hh
  ·exact S.ne 0 2 Z Z (by omega) hh.symm
  ·exact p3a S (k:=2) Z hM hh) (by rw[List.length_take];omega)
 rw[show e.kids.take k=e.kids from List.take_of_length_le (by omega)] at v0 ⊢;refine wOn 7 S.k [.o 1,.o 1,.o 1] Z ⟨Z,Z,Z,U⟩ (L0a Z ?_);refine i1a J2a (vs:=[(0,.int .i64 _),(1,.int .i64 _),(2,.int .i64 _),(3,.slice _ _ _)]) (cs:=[_,_,_,_]) Z Z Z Z ?_;refine b0a (kk:=0) (vs:=[_,_,_,_]) S v0a Z Z Z Z Z Z Z ?_;intro I0 c0 j0;dsimp only[d0a,List.set] at c0;refine lR0 Z U (g0a Z k0a Z (c0.cells 0 Z) Z ⟨⟨_,Z,?_⟩,c0.fin⟩);have he:(⟨e.op,e.w,e.n,e.kids⟩:E)=e:=by cases e;rfl
 have hq:=RdE.less (M':=M) (fun g hg=>List.mem_cons_of_mem _ hg) _ _ (RdE.keep (j0.mono (by simp)) _ _ (v0.node o1 o2 o3));rw[he] at hq;exact hq
theorem m8a:L4a I0a 5 where
 len h:=by obtain⟨ce,rfl,-,h⟩:=h;simp[RdE.length h]
 one h u hu:=by
  obtain⟨ce,rfl,-,h⟩:=h;obtain⟨_,_,_,rfl,-⟩:=RdE.open_ h;simp at hu;rcases hu with rfl|rfl|rfl|rfl|rfl<;>rfl
 keep hk h:=I0a.keep hk _ _ h
 more hm h:=I0a.more hm _ _ h
theorem c9a:L4a v1a 11 where
 len h:=by obtain⟨_,_,_,_,_,_,rfl,-⟩:=v1a.open_ h;rfl
 one h u hu:=by
  obtain⟨_,_,_,_,_,_,rfl,-⟩:=v1a.open_ h;simp at hu;rcases hu with rfl|rfl|rfl|rfl|rfl|rfl|rfl|rfl|rfl|rfl|rfl<;>rfl
 keep hk h:=v1a.keep hk _ _ h
 more hm h:=v1a.more hm _ _ h
theorem k6a:L4a M0a 7 where
 len h:=by obtain⟨_,_,_,_,_,_,_,_,_,_,_,_,rfl,-⟩:=M0a.open_ h;rfl
 one h u hu:=by
  obtain⟨_,_,_,_,_,_,_,_,_,_,_,_,rfl,-⟩:=M0a.open_ h;simp at hu;rcases hu with rfl|rfl|rfl|rfl|rfl|rfl|rfl<;>rfl
 keep hk h:=M0a.keep hk _ _ h
 more hm h:=M0a.more hm _ _ h
theorem Y1a:L4a G0a 11 where
 len h:=by obtain⟨_,_,_,_,_,_,_,_,_,rfl,-⟩:=G0a.open_ h;rfl
 one h u hu:=by
  obtain⟨_,_,_,_,_,_,_,_,_,rfl,-⟩:=G0a.open_ h;simp at hu;rcases hu with rfl|rfl|rfl|rfl|rfl|rfl|rfl|rfl|rfl|rfl|rfl<;>rfl
 keep hk h:=G0a.keep hk _ _ h
 more hm h:=G0a.more hm _ _ h
def Small(e:E):Prop:=∃lim:Int,e.kids.length≤3∧∀k∈e.kids,k.good (lim-1)=true
theorem R5a(e:E)(hs:Small e)(M:List Nat)(w0:World)(cs:List Value)(hR:RdE M w0 e cs)(hM:∀g∈M,g<w0.heap.size):
 O0a prog 144 #[.agg cs.toArray] w0 fun v w'=>(∃cs:List Value,v=.agg cs.toArray∧RdE M w' e cs)∧Below w0.heap.size w0 w' :=
 hs.elim fun a0 h=>E8b e M w0 cs a0 hR h hM
theorem Y0b(th:G1a)(M:List Nat)(w0:World)(cs:List Value)(hM:∀g∈M,g<w0.heap.size)(hT:M0a M w0 cs th)(hl:th.loops=[])(ha:∀e∈th.asserts,Small e)(hg:∀s∈th.steps,Small s.guard∧(∀a∈s.set,Small a.to)∧s.set.length≤1000)(O3:th.asserts.length≤1000)(R3:th.modules.length≤1000)(T3:th.steps.length≤1000):
 O0a prog 146 #[.agg cs.toArray] w0 fun v w'=>(∃cs:List Value,v=.agg cs.toArray∧M0a M w' cs th)∧Below w0.heap.size w0 w':=by
 obtain⟨Aa,na,ca,Am,nm,cm,As,ns,Y0,Al,nl,cl,rfl,ip,K3,M3,N3,_,_,_,_,P3,_⟩:=hT.open_;have Q3:nl=0:=by rw[P3,hl];rfl
 have S:=((St.refl w0).nilEnt 61).nilEnt 38;refine a0a func146 Z ntmps146 Z ?_;refine wO0 Z U (q0a S Z ?_);intro g1 w1 S1 X1 G1;refine h0a S1 e7a Z Z ?_;intro g2 w2 S2 X2 G2;refine lO S2.k [.w 1] Z ⟨⟨Z,Z⟩,U⟩ (h0a S2 e7a Z Z ?_);intro g3 w3 S3 X3 G3;refine b0a (kk:=0) (vs:=[_,_,_,_,_,_,_]) S3 Y6a Z Z Z Z Z Z Z ?_;intro Y3 e0 r3;dsimp only[d0a,List.set] at e0;refine lO e0.k [.o 2] Z ⟨Z,U⟩ ?_;refine p0a e0 w2c Z Z (a5b (g3::g2::M) M _ _ th.modules (M3.keep (e0.keep0 M)) (by omega) (fun x hx=>by simp at hx;rcases hx with rfl|rfl|hx;exact e0.lt 0 Z;exact e0.lt 1 Z;have:=hM x hx;have:=e0.size;omega)) ?_;rintro t4 I0 P2 o3 m4;obtain⟨Ac,nc,cc,rfl⟩:=P2.form;have KM:=z0a.refl (g3::g2::M) I0;refine lO0 Z U (T0a (kk:=0) o3 R4b Z Z Z (by exact Nat.le_of_ble_eq_true Z) ?_);intro Z3 J1 U1;replace KM:=KM.fresh2 U1 (by first  | exact .inr (by simp));refine lO0 Z U (T0a (kk:=0) J1 Y1d Z Z Z (by exact Nat.le_of_ble_eq_true Z) ?_);intro a4 N1 W1;replace KM:=KM.fresh2 W1 (by first  | exact .inr (by simp));refine lO0 Z U (T0a (kk:=0) N1 x1d Z Z Z (by exact Nat.le_of_ble_eq_true Z) ?_);intro b4 O1 Y1;replace KM:=KM.fresh2 Y1 (by first  | exact .inr (by simp));refine lO0 Z U (T0a (kk:=0) O1 g3d Z Z Z (by exact Nat.le_of_ble_eq_true Z) ?_);intro c4 i1 Z1;replace KM:=KM.fresh2 Z1 (by first  | exact .inr (by simp));refine lC i1.k [.o 2] Z ⟨Z,U⟩ (wL (fun μk D ε w=>D=[]∧∃k:Nat,∃G:Option Nat,∃X0:List Value,∃v:Value,(k+μk=(th.asserts.length))∧(V2b (g3::g2::M) w G X0 v (th.asserts.take k))∧(∀g∈G.toList,I0.heap.size≤g∨g∈g3::g2::M)∧(z0a (g3::g2::M) I0 w)∧St [] w0 w [(some g3,58,[.string th.name,.int .i64 th.points,v,.slice Ac nc cc,.slice none 0 0,.slice none 0 0,.bool th.asleep]),(some g2,58,[.string ByteArray.empty,.int .i64 0,.slice none 0 0,.slice none 0 0,.slice none 0 0,.slice none 0 0,.bool false]),(some g1,58,[.string th.name,.int .i64 th.points,.slice Aa na ca,.slice Am nm cm,.slice As ns Y0,.slice Al nl cl,.bool th.asleep]),(G,38,X0),(none,61,[])]∧Sl ε [(1,.pointer (some ⟨g1,0,none⟩)),(2,.pointer (some ⟨g2,0,none⟩)),(3,.pointer (some ⟨g3,0,none⟩)),(22,.slice Aa na ca),(23,.int .i64 na),(24,.int .i64 k)]) (μ:=(th.asserts.length)) ⟨Z,0,none,[],.slice none 0 0,by omega,V2b.nil,by simp,KM,i1,Z⟩ ?_);rintro μk D ε w ⟨rfl,k,G,X0,v,_,Q0,Q2,KM,S,eZ⟩;refine wK eZ ?_;have KQ:=z0a.refl (G.toList++g3::g2::M) w;refine wB0 Z U (fun E3=>?_) fun E3=>?_
 ·obtain⟨e1,x3,U3,_,v1,h2,_,t2,q2,t1⟩:=RdS.get (K3) (k) (by omega);obtain⟨_,_,_,rfl,_⟩:=RdE.cells t1;refine lO (S.k.a q2) [.x x3 U3,.v 0] Z ⟨⟨Z,t2⟩,⟨h2,by omega⟩,U⟩ (h0a S r1a Z Z ?_);intro g5 w5 S5 X5 G5;have I1:=Nat.le_trans KQ.size G5;have H1:=Nat.le_trans KM.size G5;replace KQ:=KQ.trans (X5.of_nil);replace KM:=KM.trans (X5.of_nil);refine b0a (kk:=0) (vs:=[_,_,_,_]) S5 v0a Z Z Z Z Z Z Z ?_;intro V0 N0 n1;dsimp only[d0a,List.set] at N0;replace KQ:=KQ.fresh2 n1 (by exact .inl I1);replace KM:=KM.fresh2 n1 (by exact .inl H1);refine lC0 Z U (j0c c0a (fun i=>[0,1,2,6].contains i) [0,1,2,3,4,5,6] 7 (clE N0 4 G.toList) _ Z ?_);have A0:=N0.drew;have C1:z0a [] V0 V0.drew:=B2a _ _;generalize V0.drew=H4 at A0 C1 ⊢;have r1:z0a (G.toList) _ _:=C1.of_nil;replace KQ:=KQ.trans C1.of_nil;replace KM:=KM.trans C1.of_nil;refine J8a ⟨St.er (A0) 4,r1⟩ Z Z Z ?_;refine K0a D5b Z Z ?_;refine n0a ?_;refine J8a ⟨St.er (A0) 4,r1⟩ Z Z Z ?_;refine m0a n1a Z (fun w1 hw=>by exact hw.1.cell 1 Z Z) Z ?_;refine n0a ?_;refine J8a ⟨St.er (A0) 4,r1⟩ Z Z Z ?_;refine y1a k0a Z (fun w1 hw=>hw.1.cells 0 Z) Z Z ?_;refine n0a ?_;refine T2c ⟨St.er (A0) 4,r1⟩ Z Z Z Z ?_;refine p0a A0 a8a Z Z (R5a e1 (ha _ (e0a v1)) _ _ _ (RdE.keep (A0.keep0 _) _ _ (RdE.more (C3a A0) _ _ t1)) (F4a A0 hM)) ?_;rintro u4 z4 ⟨_,rfl,D1⟩ K2 V1;have E0:=r1.trans (V1.mono (by simp));replace KQ:=KQ.trans (V1.of_nil);replace KM:=KM.trans (V1.of_nil);obtain⟨_,_,_,rfl,-⟩:=D1.open_;refine A0a ⟨Z,?_⟩;refine T2c ⟨St.er (K2) 4,E0⟩ Z Z Z Z ?_;refine y0a K2 Q0a (vs:=[.agg _]) (cs:=[_,_,_,_]) Z Z Z Z Z Z ?_;intro p4 A4 K1 z1 f4;have F0:=E0.trans (z1.mono (by simp));replace D1:=RdE.keep (z1.of_nil) _ _ D1;replace KQ:=KQ.trans (z1.of_nil);replace KM:=KM.trans (z1.of_nil);refine A0a ⟨Z,?_⟩;refine T2c ⟨St.er (K1.tail) 4,F0⟩ Z Z Z Z ?_;have R0:=Q0.keep KQ;refine E1a V3a (k:=5) (M2:=g3::g2::M) (e1:=e1) K1 Q0a Z R0 Z Z (K1.cells 0 Z) (RdE.less (fun x hx=>by cases G<;>simp[O0b] at hx ⊢<;>grind) _ _ D1) (by rw[List.length_take];omega) Z ?_;intro v4 g4 B3 B4 M1 i0 N2 h3;have p1:=F0.trans N2;obtain⟨_,_,rfl⟩:=w1a.form i0;have s3:=KM.size;replace KM:=KM.freshL N2 Q2;refine A0a ⟨Z,?_⟩;refine J8a ⟨St.er (M1.tail) 4,p1⟩ Z Z Z ?_;refine K0a D5b Z Z ?_;refine n0a ?_;refine u7b ⟨St.er (M1.tail) 4,p1⟩ ?_;refine T0a (kk:=2) M1 Y1d Z Z Z (by exact Nat.le_of_ble_eq_true Z) ?_;intro d4 T1 o1;replace KM:=KM.fresh2 o1 (by exact .inr (by simp));refine A0a ⟨Z,?_⟩;refine fP0 Z ⟨by omega,U⟩ ⟨μk-1,by omega,Z,(k+1),(_),(_),(_),(by omega),?_,?_,(KM),T1.tail.tail,Z⟩
  ·rw[t0a v1];exact V2b.keep i0 (o1.mono (by simp))
  ·intro g hg;rcases h3 g hg with h|h;exact Q2 g h;exact .inl (Nat.le_trans s3 h)
 refine lCn 8 S.k [] Z U ?_;obtain⟨wA,T2⟩:∃x,x=w:=⟨_,Z⟩;have KA:z0a (g3::g2::M) wA w:=T2▸z0a.refl _ _;have s4:∀g∈G.toList,g<w.heap.size:=H0d S (k:=3) Z;have J3:RdS (g3::g2::M) wA 4 (RX (g3::g2::M) wA) v th.asserts:=by
  rw[T2];have hr:=Q0;rw[List.take_of_length_le (by omega)] at hr;exact w1a.rd V3a hr S (k:=3) Z (fun g hg hh=>by
   subst hg;rcases List.mem_cons.1 hh with hh|hh
   ·exact S.ne 0 3 Z Z (by omega) hh.symm
   rcases List.mem_cons.1 hh with hh|hh
   ·exact S.ne 1 3 Z Z (by omega) hh.symm
   ·exact p3a S (k:=3) Z hM hh) (by omega)
 obtain⟨Av,nv,cv,rfl⟩:∃A n c,v=.slice A n c:=by obtain⟨A,c,h⟩:=w1a.form Q0;exact⟨_,_,_,h⟩
 refine wC S.k [.o 2] Z ⟨Z,U⟩ (wL (fun μj D ε w=>D=[]∧∃j:Nat,∃G2:Option Nat,∃cs2:List Value,∃v2:Value,(j+μj=(th.steps.length))∧(w1a v1a 11 (g3::g2::M) w G2 cs2 v2 (th.steps.take j))∧(∀g∈G2.toList,I0.heap.size≤g∧wA.heap.size≤g)∧(z0a (g3::g2::M) I0 w)∧(z0a (g3::g2::M) wA w)∧St [] w0 w [(some g3,58,[.string th.name,.int .i64 th.points,.slice Av nv cv,.slice Ac nc cc,v2,.slice none 0 0,.bool th.asleep]),(some g2,58,[.string ByteArray.empty,.int .i64 0,.slice none 0 0,.slice none 0 0,.slice none 0 0,.slice none 0 0,.bool false]),(some g1,58,[.string th.name,.int .i64 th.points,.slice Aa na ca,.slice Am nm cm,.slice As ns Y0,.slice Al nl cl,.bool th.asleep]),(G,38,X0),(G2,61,cs2)]∧Sl ε [(1,.pointer (some ⟨g1,0,none⟩)),(2,.pointer (some ⟨g2,0,none⟩)),(3,.pointer (some ⟨g3,0,none⟩)),(37,.slice As ns Y0),(38,.int .i64 ns),(39,.int .i64 j)]) (μ:=(th.steps.length)) ⟨Z,0,none,[],.slice none 0 0,by omega,w1a.nil,by simp,KM,KA,S,Z⟩ ?_);rintro μj D ε w ⟨rfl,j,G2,cs2,v2,_,x0,P0,KM,KA,S,eZ⟩;refine wK eZ ?_;obtain⟨wR,U2⟩:∃x,x=w:=⟨_,Z⟩;have KR:z0a (G2.toList++g3::g2::M) wR w:=U2▸z0a.refl _ _;have u1:w1a v1a 11 (g3::g2::M) wR G2 cs2 v2 (th.steps.take j):=U2▸x0;refine wB0 Z U (fun F3=>?_) fun F3=>?_
 ·obtain⟨s,y3,V3,_,Y2,i2,_,u2,r2,y2⟩:=RdS.get (N3) (j) (by omega);obtain⟨F1,J2,e2,Z0,U0,s1,rfl,⟨C2,D2,E2,F2,H2⟩,o2,O0,_⟩:=v1a.open_ y2;have R2:=hg s (e0a Y2);refine lO (S.k.a r2) [.x y3 V3,.v 0] Z ⟨⟨Z,u2⟩,⟨i2,by omega⟩,U⟩ (h0a S e6b Z Z ?_);intro g7 w7 S7 X7 G7;have L0:=Nat.le_trans KR.size G7;have K0:=Nat.le_trans KM.size G7;have J0:=Nat.le_trans KA.size G7;replace KR:=KR.trans (X7.of_nil);replace KM:=KM.trans (X7.of_nil);replace KA:=KA.trans (X7.of_nil);refine b0a (kk:=0) (vs:=[_,_,_,_,_,_,_,_,_,_,_]) S7 U6b Z Z Z Z Z Z Z ?_;intro Z2 o0 s0;dsimp only[d0a,List.set] at o0;have C0:=o0.nilEnt 63;replace KR:=KR.fresh2 s0 (.inl L0);replace KM:=KM.fresh2 s0 (.inl K0);replace KA:=KA.fresh2 s0 (.inl J0);refine lC C0.k [.o 1] Z ⟨Z,U⟩ (wL (fun μi D ε w=>D=[]∧∃i:Nat,∃G3:Option Nat,∃f2:List Value,∃v3:Value,(i+μi=(s.set.length))∧(w1a I0a 5 (G2.toList++g7::g3::g2::M) w G3 f2 v3 (s.set.take i))∧(∀g∈G3.toList,I0.heap.size≤g∧wA.heap.size≤g∧wR.heap.size≤g)∧(z0a (g3::g2::M) I0 w)∧(z0a (g3::g2::M) wA w)∧(z0a (G2.toList++g3::g2::M) wR w)∧St [] w0 w [(G3,63,f2),(some g7,61,[.int .i64 s.kind,.int .i64 s.frm,.int .i64 s.to,.int .i64 s.guard.op,.int .i64 s.guard.w,.int .i64 s.guard.n,.slice F1 J2 e2,.slice Z0 U0 s1,.bool s.release,.int .i64 s.target,.int .i64 s.module_]),(some g3,58,[.string th.name,.int .i64 th.points,.slice Av nv cv,.slice Ac nc cc,v2,.slice none 0 0,.bool th.asleep]),(some g2,58,[.string ByteArray.empty,.int .i64 0,.slice none 0 0,.slice none 0 0,.slice none 0 0,.slice none 0 0,.bool false]),(some g1,58,[.string th.name,.int .i64 th.points,.slice Aa na ca,.slice Am nm cm,.slice As ns Y0,.slice Al nl cl,.bool th.asleep]),(G,38,X0),(G2,61,cs2)]∧Sl ε [(1,.pointer (some ⟨g1,0,none⟩)),(2,.pointer (some ⟨g2,0,none⟩)),(3,.pointer (some ⟨g3,0,none⟩)),(7,.pointer (some ⟨g7,0,none⟩)),(8,v3),(37,.slice As ns Y0),(38,.int .i64 ns),(39,.int .i64 j),(44,.slice Z0 U0 s1),(45,.int .i64 U0),(46,.int .i64 i)]) (μ:=(s.set.length)) ⟨Z,0,none,[],.slice none 0 0,by omega,w1a.nil,by simp,KM,KA,KR,C0,Z⟩ ?_);rintro μi D ε w ⟨rfl,i,G3,f2,v3,_,y0,B0,KM,KA,KR,S,eZ⟩;refine wK eZ ?_;have KQ:=z0a.refl (G3.toList++(G2.toList++g7::g3::g2::M)) w;refine wB0 Z U (fun H3=>?_) fun H3=>?_
  ·obtain⟨a,z3,W3,_,W2,j2,_,x2,s2,z2⟩:=RdS.get (O0) (i) (by omega);obtain⟨_,_,_,rfl,I2,m2⟩:=I0a.open_ z2;refine lO (S.k.a s2) [.x z3 W3,.v 0] Z ⟨⟨Z,x2⟩,⟨j2,by omega⟩,U⟩ (h0a S j5b Z Z ?_);intro n4 y4 m3 y1 x1;have c1:=Nat.le_trans KQ.size x1;have b1:=Nat.le_trans KM.size x1;have a1:=Nat.le_trans KA.size x1;have d1:=Nat.le_trans KR.size x1;replace KQ:=KQ.trans (y1.of_nil);replace KM:=KM.trans (y1.of_nil);replace KA:=KA.trans (y1.of_nil);replace KR:=KR.trans (y1.of_nil);refine b0a (kk:=0) (vs:=[_,_,_,_,_]) m3 M4b Z Z Z Z Z Z Z ?_;intro z0 p0 g0;dsimp only[d0a,List.set] at p0;replace KQ:=KQ.fresh2 g0 (by exact .inl c1);replace KM:=KM.fresh2 g0 (by exact .inl b1);replace KA:=KA.fresh2 g0 (by exact .inl a1);replace KR:=KR.fresh2 g0 (by exact .inl d1);refine lC0 Z U (e0d c0a (fun i=>[0,1,2,3,4,6,9].contains i) [0,1,2,3,4,5,6,7,8,9] (by kernel_rfl) (by kernel_rfl) (clE p0 1 G3.toList) ?_);have a0:=p0.drew;have n0:z0a [] z0 z0.drew:=B2a _ _;generalize z0.drew=e4 at a0 n0 ⊢;have f0:z0a (G3.toList) _ _:=n0.of_nil;replace KQ:=KQ.trans n0.of_nil;replace KM:=KM.trans n0.of_nil;replace KA:=KA.trans n0.of_nil;replace KR:=KR.trans n0.of_nil;refine J8a ⟨St.er (a0) 1,f0⟩ Z Z Z ?_;refine K1a Z ?_;refine n0a ?_;refine J8a ⟨St.er (a0) 1,f0⟩ Z Z Z ?_;refine K0a z3b Z Z ?_;refine n0a ?_;refine J8a ⟨St.er (a0) 1,f0⟩ Z Z Z ?_;refine m0a B0a Z (fun w1 hw=>by exact hw.1.cell 0 Z Z) Z ?_;refine n0a ?_;refine J8a ⟨St.er (a0) 1,f0⟩ Z Z Z ?_;refine K0a e3b Z Z ?_;refine n0a ?_;refine J8a ⟨St.er (a0) 1,f0⟩ Z Z Z ?_;refine y1a k0a Z (cs:=[_,_,_,_]) (fun w1 hw=>hw.1.cellsAt 0 1 4 Z) Z Z ?_;refine n0a ?_;refine T2c ⟨St.er (a0) 1,f0⟩ Z Z Z Z ?_;refine p0a a0 a8a Z Z (R5a a.to (R2.2.1 a (e0a W2)) _ _ _ (RdE.keep (a0.keep0 _) _ _ (RdE.more (C3a a0) _ _ m2)) (F4a a0 hM)) ?_;rintro v55 C4 ⟨_,rfl,E1⟩ P1 j1;have v0:=f0.trans (j1.mono (by simp));replace KQ:=KQ.trans (j1.of_nil);replace KM:=KM.trans (j1.of_nil);replace KA:=KA.trans (j1.of_nil);replace KR:=KR.trans (j1.of_nil);obtain⟨_,_,_,rfl,-⟩:=E1.open_;refine A0a ⟨Z,?_⟩;refine J8a ⟨St.er (P1) 1,v0⟩ Z Z Z ?_;refine r3a e5c (vs:=[(0,.int .i64 _),(1,.agg _)]) (cs:=[_,_,_,_,_]) Z Z Z Z ?_;refine n0a ?_;refine T2c ⟨St.er (P1) 1,v0⟩ Z Z Z Z ?_;refine y0a P1 w6a (vs:=[.agg _]) (cs:=[_,_,_,_,_]) Z Z Z Z Z Z ?_;intro q4 D4 Q1 W0 h4;have G0:=v0.trans (W0.mono (by simp));replace E1:=RdE.keep (W0.of_nil) _ _ E1;replace KQ:=KQ.trans (W0.of_nil);replace KM:=KM.trans (W0.of_nil);replace KA:=KA.trans (W0.of_nil);replace KR:=KR.trans (W0.of_nil);refine A0a ⟨Z,?_⟩;refine T2c ⟨St.er (Q1.tail) 1,G0⟩ Z Z Z Z ?_;have S0:=w1a.keep m8a y0 KQ;refine E1a m8a (k:=2) (M2:=G2.toList++g7::g3::g2::M) (e1:=a) Q1 w6a Z S0 Z Z (Q1.cells 0 Z) ⟨_,Z,I2,RdE.less (fun x hx=>by cases G3<;>cases G2<;>simp[O0b] at hx ⊢<;>grind) _ _ E1⟩ (by rw[List.length_take];omega) Z ?_;intro w4 i4 C3 E4 R1 j0 A1 i3;have q1:=G0.trans A1;obtain⟨_,_,rfl⟩:=w1a.form j0;have t3:=KA.size;have a2:=KM.size;have b2:=KR.size;replace KM:=KM.freshL A1 (fun g hg=>.inl (B0 g hg).1);replace KA:=KA.freshL A1 (fun g hg=>.inl (B0 g hg).2.1);replace KR:=KR.freshL A1 (fun g hg=>.inl (B0 g hg).2.2);refine A0a ⟨Z,?_⟩;refine J8a ⟨St.er (R1.tail) 1,q1⟩ Z Z Z ?_;refine o5a (by conv=>lhs;whnf) Z ?_;refine n0a ?_;refine u7b ⟨St.er (R1.tail) 1,q1⟩ ?_;refine fP0 Z ⟨by omega,U⟩ ⟨μi-1,by omega,Z,(i+1),(_),(_),(_),(by omega),?_,?_,(KM),(KA),(KR),R1.tail.tail,Z⟩
   ·rw[t0a W2];exact j0
   ·intro g hg;rcases i3 g hg with h|h;exact B0 g h;exact⟨Nat.le_trans a2 h,Nat.le_trans t3 h,Nat.le_trans b2 h⟩
  refine lCn 7 S.k [] Z U ?_;have hZ:RdS (G2.toList++g7::g3::g2::M) w 5 (I0a (G2.toList++g7::g3::g2::M) w) v3 s.set:=by
   have hr:=y0;rw[List.take_of_length_le (by omega)] at hr;exact w1a.rd m8a hr S (k:=0) Z (fun g hg hh=>by
    subst hg;rcases List.mem_append.1 hh with hh|hh
    ·have L3:G2=some g:=by cases G2<;>simp at hh ⊢;exact hh.symm
     subst L3;exact S.ne 0 6 Z Z (by omega) Z
    rcases List.mem_cons.1 hh with hh|hh
    ·exact S.ne 0 1 Z Z (by omega) hh
    rcases List.mem_cons.1 hh with hh|hh
    ·exact S.ne 0 2 Z Z (by omega) hh
    rcases List.mem_cons.1 hh with hh|hh
    ·exact S.ne 0 3 Z Z (by omega) hh
    ·exact p3a S (k:=0) Z hM hh) (by omega)
  have KZ:=z0a.refl (G2.toList++g7::g3::g2::M) w;obtain⟨A3,n3,c3,rfl⟩:∃A n c,v3=.slice A n c:=by obtain⟨A,c,h⟩:=w1a.form y0;exact⟨_,_,_,h⟩
  refine wO S.k [.o 1] Z ⟨Z,U⟩ (p0a S a8a Z Z (R5a s.guard R2.1 (G2.toList++g7::g3::g2::M) _ _ (RdE.keep (S.keep0 _) _ _ (RdE.more (fun x hx=>C3a S x ((A5a 6 Z (A5a (G:=some g7) 1 Z (A5a (G:=some g3) 2 Z (n3b 3 Z)))) x hx)) _ _ o2)) (fun x hx=>F4a S hM x ((A5a 6 Z (A5a (G:=some g7) 1 Z (A5a (G:=some g3) 2 Z (n3b 3 Z)))) x hx))) ?_);rintro x4 F4 ⟨_,rfl,H0⟩ p3 B1;replace KM:=KM.trans (B1.of_nil);replace KA:=KA.trans (B1.of_nil);replace KR:=KR.trans (B1.of_nil);replace KZ:=KZ.trans (B1.of_nil);obtain⟨_,_,_,rfl,-⟩:=H0.open_;refine L0a Z ?_;refine lO0 Z U (b0a (kk:=1) (vs:=[_,_,_,_]) p3 v0a Z Z Z Z Z Z Z ?_);intro a3 D0 b0;dsimp only[d0a,List.set] at D0;replace H0:=RdE.keep (b0.mono (by simp)) _ _ H0;replace KM:=KM.fresh2 b0 (by exact .inl K0);replace KA:=KA.fresh2 b0 (by exact .inl J0);replace KR:=KR.fresh2 b0 (by exact .inl L0);replace KZ:=KZ.fresh2 b0 (by exact .inr (by simp));refine lO0 Z U (T0a (kk:=1) D0 a3d Z Z Z (by exact Nat.le_of_ble_eq_true Z) ?_);intro b3 q0 c0;replace H0:=RdE.keep (c0.mono (by simp)) _ _ H0;replace KM:=KM.fresh2 c0 (by exact .inl K0);replace KA:=KA.fresh2 c0 (by exact .inl J0);replace KR:=KR.fresh2 c0 (by exact .inl L0);replace KZ:=KZ.fresh2 c0 (by exact .inr (by simp));refine lO0 Z U (J0a s1c Z (by exact q0.cell 2 Z Z) Z ?_);refine lO q0.k [.w 1] Z ⟨⟨Z,Z⟩,U⟩ (y0a q0 M3b (vs:=[.agg _]) (cs:=[_,_,_,_,_,_,_,_,_,_,_]) Z Z Z Z Z Z ?_);intro r4 f3 L2 m1 j4;replace H0:=RdE.keep (m1.of_nil) _ _ H0;replace KM:=KM.trans (m1.of_nil);replace KA:=KA.trans (m1.of_nil);replace KR:=KR.trans (m1.of_nil);replace KZ:=KZ.trans (m1.of_nil);have T0:=w1a.keep c9a u1 KR;have B2:RdS (G2.toList++g3::g2::M) f3 5 (I0a (G2.toList++g3::g2::M) f3) (.slice A3 n3 c3) s.set:=RdS.lessW (RdS.keepW hZ KZ (I0a.keep KZ)) (fun x hx=>by simp at hx ⊢;grind) (I0a.less (fun x hx=>by simp at hx ⊢;grind));refine E1a c9a (k:=7) (M2:=g3::g2::M) (e1:=s) L2 M3b Z T0 Z Z (L2.cells 0 Z) ⟨_,_,_,_,_,Z,C2,D2,E2,F2,H2,RdE.less (fun x hx=>by simp at hx ⊢;grind) _ _ H0,B2⟩ (by rw[List.length_take];omega) Z ?_;intro v70 k4 D3 G4 q3 m0 O2 j3;obtain⟨_,_,rfl⟩:=w1a.form m0;have u3:=KA.size;have d2:=KM.size;replace KM:=KM.freshL O2 (fun g hg=>.inl (P0 g hg).1);replace KA:=KA.freshL O2 (fun g hg=>.inl (P0 g hg).2);refine lO0 Z U (T0a (kk:=3) q3 x1d Z Z Z (by exact Nat.le_of_ble_eq_true Z) ?_);intro d3 f1 t0;replace KM:=KM.fresh2 t0 (by exact .inr (by simp));replace KA:=KA.fresh2 t0 (by exact .inr (by simp));refine lP0 Z ⟨by omega,U⟩ ⟨μj-1,by omega,Z,(j+1),(_),(_),(_),(by omega),?_,?_,(KM),(KA),f1.tail.tail.tail,Z⟩
  ·rw[t0a Y2];exact w1a.keep c9a m0 (t0.mono (by simp))
  ·intro g hg;rcases j3 g hg with h|h;exact P0 g h;exact⟨Nat.le_trans d2 h,Nat.le_trans u3 h⟩
 refine lCn 8 S.k [] Z U ?_;obtain⟨wS,V2⟩:∃x,x=w:=⟨_,Z⟩;have KS:z0a (g3::g2::M) wS w:=V2▸z0a.refl _ _;have p2:RdS (g3::g2::M) wS 11 (v1a (g3::g2::M) wS) v2 th.steps:=by
  rw[V2];have hr:=x0;rw[List.take_of_length_le (by omega)] at hr;exact w1a.rd c9a hr S (k:=4) Z (fun g hg hh=>by
   subst hg;rcases List.mem_cons.1 hh with hh|hh
   ·exact S.ne 0 4 Z Z (by omega) hh.symm
   rcases List.mem_cons.1 hh with hh|hh
   ·exact S.ne 1 4 Z Z (by omega) hh.symm
   ·exact p3a S (k:=4) Z hM hh) (by omega)
 obtain⟨A2,n2,c2,rfl⟩:∃A n c,v2=.slice A n c:=by obtain⟨A,c,h⟩:=w1a.form x0;exact⟨_,_,_,h⟩
 refine wC S.k [.o 2] Z ⟨Z,U⟩ (wL (fun μq D ε w=>D=[]∧∃q:Nat,(q+μq=(th.loops.length))∧(z0a (g3::g2::M) I0 w)∧(z0a (g3::g2::M) wA w)∧(z0a (g3::g2::M) wS w)∧St [] w0 w [(some g3,58,[.string th.name,.int .i64 th.points,.slice Av nv cv,.slice Ac nc cc,.slice A2 n2 c2,.slice none 0 0,.bool th.asleep]),(some g2,58,[.string ByteArray.empty,.int .i64 0,.slice none 0 0,.slice none 0 0,.slice none 0 0,.slice none 0 0,.bool false]),(some g1,58,[.string th.name,.int .i64 th.points,.slice Aa na ca,.slice Am nm cm,.slice As ns Y0,.slice Al nl cl,.bool th.asleep]),(G,38,X0),(G2,61,cs2)]∧Sl ε [(2,.pointer (some ⟨g2,0,none⟩)),(3,.pointer (some ⟨g3,0,none⟩)),(74,.slice Al nl cl),(75,.int .i64 nl),(76,.int .i64 q)]) (μ:=(th.loops.length)) ⟨Z,0,by omega,KM,KA,KS,S,Z⟩ ?_);rintro μq D ε w ⟨rfl,q,_,KM,KA,KS,S,eZ⟩;refine wK eZ ?_;refine wB0 Z U (fun I3=>by exfalso;omega) fun I3=>?_;refine lO S.k [.w 0] Z ⟨⟨Z,Z⟩,U⟩ (b0a (kk:=1) (vs:=[_,_,_,_,_,_,_]) S Y6a Z Z Z Z Z Z Z ?_);intro e3 r0 u0;dsimp only[d0a,List.set] at r0;replace KM:=KM.fresh2 u0 (by first  | exact .inr (by simp));replace KA:=KA.fresh2 u0 (by first  | exact .inr (by simp));replace KS:=KS.fresh2 u0 (by first  | exact .inr (by simp));refine lR0 Z U (g0a Z S2b Z (r0.cells 1 Z) Z ⟨⟨_,Z,?_⟩,r0.fin⟩);have d0:∀g∈M,g∈g3::g2::M:=fun g hg=>by simp[hg]
 refine⟨_,_,_,_,Z,ip,?_,?_,?_,?_⟩
 ·exact RdS.lessW (RdS.keepW J3 KA (fun _ _=>RdE.keep KA _ _)) d0 (fun _ _=>RdE.less d0 _ _)
 ·exact(P2.keep KM).less d0
 ·exact RdS.lessW (RdS.keepW p2 KS (v1a.keep KS)) d0 (v1a.less d0)
 ·rw[hl];exact⟨none,0,0,Z,Z,Nat.le_refl _,by unfold maxLen;omega,by omega,fun h=>absurd h (by omega)⟩
theorem r9a:L4a (fun(_:List Nat) (_:World)=>t2a) 6 where
 len h:=by rw[h.1];rfl
 one h u hu:=by rw[h.1] at hu;simp at hu;rcases hu with rfl|rfl|rfl|rfl|rfl|rfl<;>rfl
 keep _ h:=h
 more _ h:=h
theorem w4c{α:Type}{M:List Nat}{w:World}{size:Nat}{R:List Value→α→Prop}:RdS M w size R (.slice none 0 0) []:=⟨none,0,0,Z,Z,Nat.le_refl _,by unfold maxLen;omega,by omega,fun h=>absurd h (by omega)⟩
theorem n9b(M Mx:List Nat)(w0:World)(v:Value)(l:List z1a)(hR:S2c M w0 v l)(hl:l.length≤1000)(hM:∀g∈Mx,g<w0.heap.size):
 O0a prog 143 #[v] w0 fun v w'=>S2c Mx w' v l∧Below w0.heap.size w0 w':=by
 obtain⟨_,n,_,rfl⟩:=hR.form;obtain⟨_,_⟩:=hR.len;have S:=St.refl w0;refine a0a func143 Z ntmps143 Z ?_;refine wOn 9 S.k [] Z U (n8b z3a.slT Z Z Z (fun h4=>?_) fun h4=>?_)
 ·refine lR0 Z U (w0a Z ?_);subst h4;obtain⟨A',n',c',he,h1,h2,h3,h5,h6⟩:=hR;cases he;have h0:l.length=0:=by
   rcases Nat.eq_zero_or_pos n with h|h
   ·omega
   ·obtain⟨_,_,h7,_⟩:=h6 h;cases h7
  obtain rfl:=List.length_eq_zero_iff.1 h0;exact⟨w4c,S.fin⟩
 refine lO0 Z U (e9a S z3a Z ?_);intro g5 w5 S5 X5 G5;refine lO0 Z U ?_;refine O4b r9a (M2:=[]) (k:=0) S5 z3a Z w1a.new Z Z (hR.keep (S5.keep0 M)) (by simp;omega) Z ?_;intro v7 G7 a0 w7 S7 R7 X7 F7;refine D0a Z ?_;refine lR0 Z U (w0a Z ?_);rw[List.nil_append] at R7;refine⟨w1a.rd r9a (M:=Mx) R7 S7 (k:=0) Z (fun g hg hh=>?_) (by omega),S7.fin⟩;subst hg;have h1:=S7.new 0 Z;have h2:=hM g hh;simp at h1;omega
structure z0c (p:i0a):Prop where
 nl:p.locks=[]
 nc:p.cells.length≤1000
 nm:p.modules.length≤1000
 nt:p.threads.length≤1000
 mods:∀m∈p.modules,Small m.rely∧Small m.guar∧m.frame.length≤1000
 thr:∀th∈p.threads,th.loops=[]∧(∀e∈th.asserts,Small e)∧(∀s∈th.steps,Small s.guard∧(∀a∈s.set,Small a.to)∧s.set.length≤1000)∧th.asserts.length≤1000∧th.modules.length≤1000∧th.steps.length≤1000
theorem Y9b(p:i0a)(hc:z0c p)(M:List Nat)(w0:World)(cs:List Value)(hM:∀g∈M,g<w0.heap.size)(hP:X0a M w0 p cs):
 O0a prog 91 #[.agg cs.toArray] w0 fun v w'=>(∃vc vm vt G h2,v=.agg #[vc,vm,.slice none 0 0,vt]∧(∀g,G=some g→w0.heap.size≤g∧o0a w' (g,66,h2))∧w1a G0a 11 M w' G h2 vm p.modules∧S2c (G.toList++M) w' vc p.cells∧H2d (G.toList++M) w' vt p.threads)∧Below w0.heap.size w0 w':=by
 obtain⟨Ac,nc,cc,Am,nm,cm,Al,nl,cl,At,nt,ct,rfl,hC,K2,_,L2,_,_,N2,_⟩:=hP.open_;have O2:nl=0:=by rw[N2,hc.nl];rfl
 have k1:=hc.nc;have k2:=hc.nm;have k3:=hc.nt;have S:=((St.refl w0).nilEnt 58).nilEnt 66;refine a0a func91 Z ntmps91 Z ?_;refine wO0 Z U (q0a S Z ?_);intro g1 w1 S1 X1 G1;refine h0a S1 G7a Z Z ?_;intro g2 w2 S2 X2 G2;refine lO S2.k [.o 1] Z ⟨Z,U⟩ (p0a S2 W8c Z Z (n9b M (g2::M) _ _ p.cells (hC.keep (S2.keep0 M)) (by omega) (s1b S2 0 Z hM)) ?_);rintro n3 S0 i2 u2 e3;obtain⟨O0,R0,P0,rfl⟩:=i2.form;have KC:=z0a.refl (g2::M) S0;refine i1a G2c (vs:=[(0,.slice _ _ _)]) (cs:=[_,_,_,_]) Z Z Z Z ?_;refine h0a u2 G7a Z Z ?_;intro g3 w3 S3 X3 G3;have D0:=Nat.le_trans KC.size G3;replace KC:=KC.trans (X3.of_nil);refine b0a (kk:=0) (vs:=[_,_,_,_]) S3 s6a Z Z Z Z Z Z Z ?_;intro R2 E0 A1;dsimp only[d0a,List.set] at E0;replace KC:=KC.fresh2 A1 (by exact .inl D0);refine lC E0.k [.o 2] Z ⟨Z,U⟩ (wL (fun μk D ε w=>D=[]∧∃k:Nat,∃G:Option Nat,∃t0:List Value,∃v:Value,(k+μk=(p.modules.length))∧(w1a G0a 11 (g3::g2::M) w G t0 v (p.modules.take k))∧(∀g∈G.toList,S0.heap.size≤g)∧(z0a (g2::M) S0 w)∧St [] w0 w [(some g3,27,[.slice O0 R0 P0,v,.slice none 0 0,.slice none 0 0]),(some g2,27,[.slice none 0 0,.slice none 0 0,.slice none 0 0,.slice none 0 0]),(some g1,27,[.slice Ac nc cc,.slice Am nm cm,.slice Al nl cl,.slice At nt ct]),(G,66,t0),(none,58,[])]∧Sl ε [(1,.pointer (some ⟨g1,0,none⟩)),(2,.pointer (some ⟨g2,0,none⟩)),(3,.pointer (some ⟨g3,0,none⟩)),(15,.slice Am nm cm),(16,.int .i64 nm),(17,.int .i64 k)]) (μ:=(p.modules.length)) ⟨Z,0,none,[],.slice none 0 0,by omega,w1a.nil,by simp,KC,E0,Z⟩ ?_);rintro μk D ε w ⟨rfl,k,G,t0,v,_,A0,P1,KC,S,eZ⟩;refine wK eZ ?_;have KR:=z0a.refl (G.toList++g3::g2::M) w;refine wB0 Z U (fun H2=>?_) fun H2=>?_
 ·obtain⟨m,C2,P2,_,j2,E1,_,Q1,N1,T1⟩:=RdS.get (K2) (k) (by omega);obtain⟨_,_,_,r1,W1,D1,T0,j1,c1,rfl,K1,I1,H1,_⟩:=G0a.open_ T1;have U1:=hc.mods m (e0a j2);refine lO (S.k.a N1) [.x C2 P2,.v 0] Z ⟨⟨Z,Q1⟩,⟨E1,by omega⟩,U⟩ (h0a S y1c Z Z ?_);intro g5 w5 S5 X5 G5;have y0:=Nat.le_trans KC.size G5;have z0:=Nat.le_trans KR.size G5;replace KC:=KC.trans (X5.of_nil);replace KR:=KR.trans (X5.of_nil);refine b0a (kk:=0) (vs:=[_,_,_,_,_,_,_,_,_,_,_]) S5 H2c Z Z Z Z Z Z Z ?_;intro T2 F0 Y0;dsimp only[d0a,List.set] at F0;replace KC:=KC.fresh2 Y0 (by exact .inl y0);replace KR:=KR.fresh2 Y0 (by exact .inl z0);refine lC0 Z U (H0a c0a [0,1,3,4,6,7,9] [2,5,8] [10,11,12,13,14] Z (Cl _ _ _ _) (Cl.start F0) ?_);refine qN F0.q [.o 0,.o 0,.o 0] Z ⟨Z,Z,Z,U⟩ (Q3a ?_);refine e4a (fun v w=>∃cs:List Value,v=.agg cs.toArray∧RdE (G.toList++g5::g3::g2::M) w m.rely cs) Z Z a8a Z (fun v w w' ⟨cs,h,hr⟩ k=>⟨cs,h,RdE.keep k.of_nil _ _ hr⟩) (fun w1 S1 X1=>R5a m.rely U1.1 (G.toList++g5::g3::g2::M) _ _ (RdE.keep (S1.keep0 _) _ _ (RdE.more (fun x hx=>C3a S1 x ((A5a 4 Z (A5a (G:=some g5) 0 Z (A5a (G:=some g3) 1 Z (n3b 2 Z)))) x hx)) _ _ K1)) (fun x hx=>F4a S1 hM x ((A5a 4 Z (A5a (G:=some g5) 0 Z (A5a (G:=some g3) 1 Z (n3b 2 Z)))) x hx))) ?_;refine e4a (fun v w=>∃cs:List Value,v=.agg cs.toArray∧RdE (G.toList++g5::g3::g2::M) w m.guar cs) Z Z a8a Z (fun v w w' ⟨cs,h,hr⟩ k=>⟨cs,h,RdE.keep k.of_nil _ _ hr⟩) (fun w1 S1 X1=>R5a m.guar U1.2.1 (G.toList++g5::g3::g2::M) _ _ (RdE.keep (S1.keep0 _) _ _ (RdE.more (fun x hx=>C3a S1 x ((A5a 4 Z (A5a (G:=some g5) 0 Z (A5a (G:=some g3) 1 Z (n3b 2 Z)))) x hx)) _ _ I1)) (fun x hx=>F4a S1 hM x ((A5a 4 Z (A5a (G:=some g5) 0 Z (A5a (G:=some g3) 1 Z (n3b 2 Z)))) x hx))) ?_;refine e4a (fun v w=>RdI (G.toList++g5::g3::g2::M) w v m.frame) Z Z w2c Z (fun v w w' h k=>h.keep k.of_nil) (fun w1 S1 X1=>a5b (G.toList++g5::g3::g2::M) M _ _ m.frame (H1.keep (S1.keep0 M)) (by have:=U1.2.2;omega) (fun x hx=>F4a S1 hM x ((A5a 4 Z (A5a (G:=some g5) 0 Z (A5a (G:=some g3) 1 Z (n3b 2 Z)))) x hx))) ?_;refine M1a ?_;rintro y3 ⟨y2,e2⟩;rintro q3 x0;rintro p3 ⟨_,rfl,v0⟩;rintro o3 ⟨_,rfl,u0⟩;dsimp only[x3a];replace KC:=KC.trans (e2.of_nil);replace KR:=KR.trans (e2.of_nil);obtain⟨q1,V1,Y1,rfl,-⟩:=u0.open_;obtain⟨Z1,m2,o2,rfl,-⟩:=v0.open_;obtain⟨a2,n2,f2,rfl⟩:=x0.form;refine b0a (kk:=0) (vs:=[_,_,_,_]) y2 v0a Z Z Z Z Z Z Z ?_;intro m1 G0 c0;have V0:St [] w0 m1 [(some g5,66,[.string m.name,.string m.owner,.int .i64 m.rely.op,.int .i64 m.rely.w,.int .i64 m.rely.n,.slice q1 V1 Y1,.int .i64 m.guar.op,.int .i64 m.guar.w,.int .i64 m.guar.n,.slice r1 W1 D1,.slice T0 j1 c1]),(some g3,27,[.slice O0 R0 P0,v,.slice none 0 0,.slice none 0 0]),(some g2,27,[.slice none 0 0,.slice none 0 0,.slice none 0 0,.slice none 0 0]),(some g1,27,[.slice Ac nc cc,.slice Am nm cm,.slice Al nl cl,.slice At nt ct]),(G,66,t0),(none,58,[])]:=G0;replace u0:=RdE.keep (c0.mono (by simp)) _ _ u0;replace v0:=RdE.keep (c0.mono (by simp)) _ _ v0;replace x0:=x0.keep (c0.mono (by simp));replace KC:=KC.fresh2 c0 (.inl y0);replace KR:=KR.fresh2 c0 (.inl z0);refine lO0 Z U (b0a (kk:=0) (vs:=[_,_,_,_]) V0 v0a Z Z Z Z Z Z Z ?_);intro n1 H0 d0;have W0:St [] w0 n1 [(some g5,66,[.string m.name,.string m.owner,.int .i64 m.rely.op,.int .i64 m.rely.w,.int .i64 m.rely.n,.slice q1 V1 Y1,.int .i64 m.guar.op,.int .i64 m.guar.w,.int .i64 m.guar.n,.slice Z1 m2 o2,.slice T0 j1 c1]),(some g3,27,[.slice O0 R0 P0,v,.slice none 0 0,.slice none 0 0]),(some g2,27,[.slice none 0 0,.slice none 0 0,.slice none 0 0,.slice none 0 0]),(some g1,27,[.slice Ac nc cc,.slice Am nm cm,.slice Al nl cl,.slice At nt ct]),(G,66,t0),(none,58,[])]:=H0;replace u0:=RdE.keep (d0.mono (by simp)) _ _ u0;replace v0:=RdE.keep (d0.mono (by simp)) _ _ v0;replace x0:=x0.keep (d0.mono (by simp));replace KC:=KC.fresh2 d0 (.inl y0);replace KR:=KR.fresh2 d0 (.inl z0);refine lO0 Z U (T0a (hy:=Z) (kk:=0) W0 R4b Z (v:=.slice a2 n2 f2) Z Z (Nat.le_of_ble_eq_true Z) ?_);intro o1 I0 e0;have j0:St [] w0 o1 [(some g5,66,[.string m.name,.string m.owner,.int .i64 m.rely.op,.int .i64 m.rely.w,.int .i64 m.rely.n,.slice q1 V1 Y1,.int .i64 m.guar.op,.int .i64 m.guar.w,.int .i64 m.guar.n,.slice Z1 m2 o2,.slice a2 n2 f2]),(some g3,27,[.slice O0 R0 P0,v,.slice none 0 0,.slice none 0 0]),(some g2,27,[.slice none 0 0,.slice none 0 0,.slice none 0 0,.slice none 0 0]),(some g1,27,[.slice Ac nc cc,.slice Am nm cm,.slice Al nl cl,.slice At nt ct]),(G,66,t0),(none,58,[])]:=I0;replace u0:=RdE.keep (e0.mono (by simp)) _ _ u0;replace v0:=RdE.keep (e0.mono (by simp)) _ _ v0;replace x0:=x0.keep (e0.mono (by simp));replace KC:=KC.fresh2 e0 (.inl y0);replace KR:=KR.fresh2 e0 (.inl z0);refine lO0 Z U (J0a N1b Z (by exact j0.cell 1 Z Z) Z ?_);refine lO j0.k [.w 0] Z ⟨⟨Z,Z⟩,U⟩ (y0a j0 H8a (vs:=[.agg _]) (cs:=[_,_,_,_,_,_,_,_,_,_,_]) Z Z Z Z Z Z ?_);intro h3 t3 b2 X0 Z2;replace u0:=RdE.keep (X0.of_nil) _ _ u0;replace v0:=RdE.keep (X0.of_nil) _ _ v0;replace KC:=KC.trans (X0.of_nil);replace KR:=KR.trans (X0.of_nil);replace x0:=x0.keep (X0.of_nil);have K0:=w1a.keep Y1a A0 KR;refine E1a Y1a (k:=5) (M2:=g3::g2::M) (e1:=m) b2 H8a Z K0 Z Z (b2.cells 0 Z) ⟨_,_,_,_,_,_,_,_,_,Z,RdE.less (fun x hx=>by simp at hx ⊢;grind) _ _ u0,RdE.less (fun x hx=>by simp at hx ⊢;grind) _ _ v0,x0.less (fun x hx=>by simp at hx ⊢;grind)⟩ (by rw[List.length_take];omega) Z ?_;intro v37 a3 E2 u3 x2 f0 z2 s2;obtain⟨_,_,rfl⟩:=w1a.form f0;have A2:=KC.size;replace KC:=KC.freshL z2 (fun g hg=>.inl (P1 g hg));refine lO0 Z U (T0a (kk:=2) x2 b3d Z Z Z (by exact Nat.le_of_ble_eq_true Z) ?_);intro U2 x1 Z0;replace KC:=KC.fresh2 Z0 (by exact .inl D0);refine lP0 Z ⟨by omega,U⟩ ⟨μk-1,by omega,Z,(k+1),(_),(_),(_),(by omega),?_,?_,(KC),x1.tail.tail,Z⟩
  ·rw[t0a j2];exact w1a.keep Y1a f0 (Z0.mono (by simp))
  ·intro g hg;rcases s2 g hg with h|h;exact P1 g h;exact Nat.le_trans A2 h
 refine lCn 8 S.k [] Z U ?_;obtain⟨wD,N0⟩:∃x,x=w:=⟨_,Z⟩;have KD:z0a (g3::g2::M) wD w:=N0▸z0a.refl _ _;have J1:w1a G0a 11 (g3::g2::M) wD G t0 v p.modules:=by
  rw[N0];have hr:=A0;rw[List.take_of_length_le (by omega)] at hr;exact hr
 have j3:RdS (g3::g2::M) wD 11 (G0a (g3::g2::M) wD) v p.modules:=by
  rw[N0];have hr:=A0;rw[List.take_of_length_le (by omega)] at hr;exact w1a.rd Y1a hr S (k:=3) Z (fun g hg hh=>by
   subst hg;rcases List.mem_cons.1 hh with hh|hh
   ·exact S.ne 0 3 Z Z (by omega) hh.symm
   rcases List.mem_cons.1 hh with hh|hh
   ·exact S.ne 1 3 Z Z (by omega) hh.symm
   ·exact p3a S (k:=3) Z hM hh) (by omega)
 obtain⟨Av,nv,cv,rfl⟩:∃A n c,v=.slice A n c:=by obtain⟨A,c,h⟩:=w1a.form A0;exact⟨_,_,_,h⟩
 refine wC S.k [.o 2] Z ⟨Z,U⟩ (wL (fun μq D ε w=>D=[]∧∃q:Nat,(q+μq=(p.locks.length))∧(z0a (g2::M) S0 w)∧(z0a (g3::g2::M) wD w)∧St [] w0 w [(some g3,27,[.slice O0 R0 P0,.slice Av nv cv,.slice none 0 0,.slice none 0 0]),(some g2,27,[.slice none 0 0,.slice none 0 0,.slice none 0 0,.slice none 0 0]),(some g1,27,[.slice Ac nc cc,.slice Am nm cm,.slice Al nl cl,.slice At nt ct]),(G,66,t0),(none,58,[])]∧Sl ε [(1,.pointer (some ⟨g1,0,none⟩)),(2,.pointer (some ⟨g2,0,none⟩)),(3,.pointer (some ⟨g3,0,none⟩)),(41,.slice Al nl cl),(42,.int .i64 nl),(43,.int .i64 q)]) (μ:=(p.locks.length)) ⟨Z,0,by omega,KC,KD,S,Z⟩ ?_);rintro μq D ε w ⟨rfl,q,_,KC,KD,S,eZ⟩;refine wK eZ ?_;refine wB0 Z U (fun I2=>by exfalso;omega) fun I2=>?_;refine lC S.k [.o 2] Z ⟨Z,U⟩ (wL (fun μj D ε w=>D=[]∧∃j:Nat,∃G2:Option Nat,∃cs2:List Value,∃v2:Value,(j+μj=(p.threads.length))∧(w1a M0a 7 (G.toList++g3::g2::M) w G2 cs2 v2 (p.threads.take j))∧(∀g∈G2.toList,S0.heap.size≤g∧wD.heap.size≤g)∧(z0a (g2::M) S0 w)∧(z0a (g3::g2::M) wD w)∧St [] w0 w [(some g3,27,[.slice O0 R0 P0,.slice Av nv cv,.slice none 0 0,v2]),(some g2,27,[.slice none 0 0,.slice none 0 0,.slice none 0 0,.slice none 0 0]),(some g1,27,[.slice Ac nc cc,.slice Am nm cm,.slice Al nl cl,.slice At nt ct]),(G,66,t0),(G2,58,cs2)]∧Sl ε [(2,.pointer (some ⟨g2,0,none⟩)),(3,.pointer (some ⟨g3,0,none⟩)),(62,.slice At nt ct),(63,.int .i64 nt),(64,.int .i64 j)]) (μ:=(p.threads.length)) ⟨Z,0,none,[],.slice none 0 0,by omega,w1a.nil,by simp,KC,KD,S,Z⟩ ?_);rintro μj D ε w ⟨rfl,j,G2,cs2,v2,_,r0,J0,KC,KD,S,eZ⟩;refine wK eZ ?_;have KQ:=z0a.refl (G2.toList++(G.toList++g3::g2::M)) w;refine wB0 Z U (fun J2=>?_) fun J2=>?_
 ·obtain⟨th,D2,Q2,_,i1,F1,_,R1,O1,d1⟩:=RdS.get (L2) (j) (by omega);obtain⟨_,_,_,_,_,_,_,_,_,_,_,_,rfl,_⟩:=M0a.open_ d1;have Q0:=hc.thr th (e0a i1);refine lO (S.k.a O1) [.x D2 Q2,.v 0] Z ⟨⟨Z,R1⟩,⟨F1,by omega⟩,U⟩ (h0a S e7a Z Z ?_);intro g9 w9 S9 X9 G9;have s1:=Nat.le_trans KC.size G9;have t1:=Nat.le_trans KD.size G9;have u1:=Nat.le_trans KQ.size G9;replace KC:=KC.trans (X9.of_nil);replace KD:=KD.trans (X9.of_nil);replace KQ:=KQ.trans (X9.of_nil);refine b0a (kk:=0) (vs:=[_,_,_,_,_,_,_]) S9 Y6a Z Z Z Z Z Z Z ?_;intro s0 i0 m0;dsimp only[d0a,List.set] at i0;replace KC:=KC.fresh2 m0 (by exact .inl s1);replace KD:=KD.fresh2 m0 (by exact .inl t1);replace KQ:=KQ.fresh2 m0 (by exact .inl u1);refine lC0 Z U (j0c c0a (fun i=>[0,1,2,6].contains i) [0,1,2,3,4,5,6] 7 (clE i0 5 G2.toList) _ Z ?_);have a0:=i0.drew;have q0:z0a [] s0 s0.drew:=B2a _ _;generalize s0.drew=W2 at a0 q0 ⊢;have p0:z0a (G2.toList) _ _:=q0.of_nil;replace KC:=KC.trans q0.of_nil;replace KD:=KD.trans q0.of_nil;replace KQ:=KQ.trans q0.of_nil;refine J8a ⟨St.er (a0) 5,p0⟩ Z Z Z ?_;refine K0a X9a Z Z ?_;refine n0a ?_;refine J8a ⟨St.er (a0) 5,p0⟩ Z Z Z ?_;refine m0a D7b Z (fun w1 hw=>by exact hw.1.cell 1 Z Z) Z ?_;refine n0a ?_;refine J8a ⟨St.er (a0) 5,p0⟩ Z Z Z ?_;refine y1a S2b Z (fun w1 hw=>hw.1.cells 0 Z) Z Z ?_;refine n0a ?_;refine T2c ⟨St.er (a0) 5,p0⟩ Z Z Z Z ?_;refine p0a a0 a9c Z Z (Y0b th (G2.toList++(G.toList++g3::g2::M)) _ _ (fun x hx=>F4a a0 hM x ((A5a 5 Z (A5a 4 Z (A5a (G:=some g3) 1 Z (n3b 2 Z)))) x hx)) (M0a.keep (a0.keep0 _) _ _ (M0a.more (fun x hx=>C3a a0 x ((A5a 5 Z (A5a 4 Z (A5a (G:=some g3) 1 Z (n3b 2 Z)))) x hx)) _ _ d1)) Q0.1 Q0.2.1 Q0.2.2.1 Q0.2.2.2.1 Q0.2.2.2.2.1 Q0.2.2.2.2.2) ?_;rintro r3 V2 ⟨_,rfl,p2⟩ d2 p1;have B0:=p0.trans (p1.mono (by simp));replace KC:=KC.trans (p1.of_nil);replace KD:=KD.trans (p1.of_nil);replace KQ:=KQ.trans (p1.of_nil);obtain⟨_,_,_,_,_,_,_,_,_,_,_,_,rfl,-⟩:=p2.open_;have v1:=z0a.refl (G2.toList++(G.toList++g3::g2::M)) V2;refine A0a ⟨Z,?_⟩;refine T2c ⟨St.er (d2) 5,B0⟩ Z Z Z Z ?_;refine y0a d2 v8a (vs:=[.agg _]) (cs:=[_,_,_,_,_,_,_]) Z Z Z Z Z Z ?_;intro i3 v3 y1 a1 b3;have C0:=B0.trans (a1.mono (by simp));replace KC:=KC.trans (a1.of_nil);replace KD:=KD.trans (a1.of_nil);replace KQ:=KQ.trans (a1.of_nil);replace v1:=v1.trans (a1.of_nil);refine A0a ⟨Z,?_⟩;refine T2c ⟨St.er (y1.tail) 5,C0⟩ Z Z Z Z ?_;have L0:=w1a.keep k6a r0 KQ;refine E1a k6a (k:=6) (M2:=G.toList++g3::g2::M) (e1:=th) y1 v8a Z L0 Z Z (y1.cells 0 Z) (M0a.keep v1 _ _ p2) (by rw[List.length_take];omega) Z ?_;intro s3 d3 F2 x3 z1 g0 B1 t2;have b1:=C0.trans B1;obtain⟨_,_,rfl⟩:=w1a.form g0;have B2:=KC.size;have C1:=KD.size;replace KC:=KC.freshL B1 (fun g hg=>.inl (J0 g hg).1);replace KD:=KD.freshL B1 (fun g hg=>.inl (J0 g hg).2);refine A0a ⟨Z,?_⟩;refine J8a ⟨St.er (z1.tail) 5,b1⟩ Z Z Z ?_;refine K0a X9a Z Z ?_;refine n0a ?_;refine u7b ⟨St.er (z1.tail) 5,b1⟩ ?_;refine T0a (kk:=2) z1 M1d Z Z Z (by exact Nat.le_of_ble_eq_true Z) ?_;intro q2 U0 n0;replace KC:=KC.fresh2 n0 (by exact .inl D0);replace KD:=KD.fresh2 n0 (by exact .inr (by simp));refine A0a ⟨Z,?_⟩;refine fP0 Z ⟨by omega,U⟩ ⟨μj-1,by omega,Z,(j+1),(_),(_),(_),(by omega),?_,?_,(KC),(KD),U0.tail.tail,Z⟩
  ·rw[t0a i1];exact w1a.keep k6a g0 (n0.mono (by simp))
  ·intro g hg;rcases t2 g hg with h|h;exact J0 g h;exact⟨Nat.le_trans B2 h,Nat.le_trans C1 h⟩
 refine lCn 7 S.k [] Z U ?_;obtain⟨wT,f1⟩:∃x,x=w:=⟨_,Z⟩;have KT:z0a (G.toList++g3::g2::M) wT w:=f1▸z0a.refl _ _;have M1:RdS (G.toList++g3::g2::M) wT 7 (M0a (G.toList++g3::g2::M) wT) v2 p.threads:=by
  rw[f1];have hr:=r0;rw[List.take_of_length_le (by omega)] at hr;exact w1a.rd k6a hr S (k:=4) Z (fun g hg hh=>by
   subst hg;rcases List.mem_append.1 hh with hh|hh
   ·have hG:G=some g:=by cases G<;>simp at hh ⊢;exact hh.symm
    subst hG;exact S.ne 3 4 Z Z (by omega) Z
   rcases List.mem_cons.1 hh with hh|hh
   ·exact S.ne 0 4 Z Z (by omega) hh.symm
   rcases List.mem_cons.1 hh with hh|hh
   ·exact S.ne 1 4 Z Z (by omega) hh.symm
   ·exact p3a S (k:=4) Z hM hh) (by omega)
 obtain⟨Y2,m3,f3,rfl⟩:∃A n c,v2=.slice A n c:=by obtain⟨A,c,h⟩:=w1a.form r0;exact⟨_,_,_,h⟩
 refine wO S.k [.w 0] Z ⟨⟨Z,Z⟩,U⟩ (b0a (kk:=1) (vs:=[_,_,_,_]) S s6a Z Z Z Z Z Z Z ?_);intro r2 b0 o0;dsimp only[d0a,List.set] at b0;replace KC:=KC.fresh2 o0 (by exact .inr (by simp));replace KD:=KD.fresh2 o0 (by exact .inr (by simp));replace KT:=KT.fresh2 o0 (by exact .inr (by simp));refine lR0 Z U (g0a Z G3a Z (b0.cells 1 Z) Z ⟨⟨_,_,_,G,t0,Z,fun g hg=>?_,?_,?_,?_⟩,b0.fin⟩)
 ·subst hg;exact⟨by simpa using b0.new 3 Z,b0.blk 3 Z⟩
 ·exact w1a.more Y1a (w1a.keep Y1a J1 (KD.mono (fun g hg=>List.mem_append_right _ hg))) (fun g hg=>.inl (.inr (by simp[hg])))
 ·exact((i2.more (M':=G.toList++g2::M) (by omega) (fun g hg=>by rcases List.mem_append.1 hg with h|h;exact .inr (P1 g h);exact .inl h)).keep (KC.mono (fun g hg=>by simp at hg ⊢;grind))).less (fun g hg=>by simp at hg ⊢;grind)
 ·exact RdS.lessW (RdS.keepW M1 KT (M0a.keep KT)) (fun g hg=>by simp at hg ⊢;grind) (M0a.less (fun g hg=>by simp at hg ⊢;grind))
theorem T5b(p:i0a)(hn:¬L1a p)(M:List Nat)(w0:World)(cs:List Value)(hP:X0a M w0 p cs)(hN:c5a p)(hK:f2a M w0)(hM:∀g∈M,g<w0.heap.size):
 O0a prog 49 #[.agg cs.toArray] w0 fun v w'=>v=.bool false∧Below w0.heap.size w0 w':=by
 obtain⟨_,_,_,_,_,_,_,_,_,_,_,_,rfl,_⟩:=hP.open_;have S:=St.refl w0;refine a0a func49 Z ntmps49 Z ?_;refine wO0 Z U (q0a S Z ?_);intro g1 w1 S1 X1 G1;refine lO S1.k [.w 0] Z ⟨⟨Z,by rfl⟩,U⟩ (p0a S1 C4b Z Z (i4b p M _ _ (hP.keep (S1.keep0 M)) hN (hK.keep (S1.keep0 M)) (fun g hg=>Nat.lt_of_lt_of_le (hM g hg) S1.size)) ?_);rintro v8 w8 ⟨a,_,_,rfl,b0,-⟩ S8 X8;have c0:a≠0:=fun h=>hn (b0.1 h);refine lB0 Z U (fun a0=>by exfalso;omega) fun a0=>?_;exact lT Z U Z ⟨Z,S8.fin⟩
theorem W8b(p:i0a)(hn:¬L1a p)(M:List Nat)(w0:World)(cs:List Value)(hP:X0a M w0 p cs)(hN:c5a p)(hK:f2a M w0)(hM:∀g∈M,g<w0.heap.size):
 O0a prog 46 #[.agg cs.toArray] w0 fun v w'=>(∃ys:List Value,v=.tuple #[.agg ys.toArray,.int .i64 1])∧Below w0.heap.size w0 w':=by
 obtain⟨_,_,_,_,_,_,_,_,_,_,_,_,rfl,_⟩:=hP.open_;have S:=St.refl w0;refine a0a func46 Z ntmps46 Z ?_;refine wO0 Z U (q0a S Z ?_);intro g1 w1 S1 X1 G1;refine h0a S1 G7a Z Z ?_;intro g2 w2 S2 X2 G2;refine lO S2.k [.w 1] Z ⟨⟨Z,by rfl⟩,U⟩ (U0a S2 d5b Z Z (T5b p hn M _ _ (hP.keep (S2.keep0 M)) hN (hK.keep (S2.keep0 M)) (fun g hg=>Nat.lt_of_lt_of_le (hM g hg) S2.size)) ?_);intro f0 b0 e0;refine lO0 Z U (i1a G2c (vs:=[]) (cs:=[_,_,_,_]) Z Z Z Z ?_);refine b0a (kk:=0) (vs:=[_,_,_,_]) b0 s6a Z Z Z Z Z Z Z ?_;intro d0 a0 c0;dsimp only[d0a,List.set] at a0;exact lR0 Z U (a2a (v:=.int .i64 1) Z G3a Z (a0.cells 0 Z) Z Z ⟨⟨_,Z⟩,a0.fin⟩)
theorem w1a.put{α:Type}{R:List Nat→World→List Value→α→Prop}{size:Nat}(hL:L4a R size){M:List Nat}{w w':World}{G:Option Nat}{cs us:List Value}{v:Value}{l:List α}{i j o:Nat}{x x':α}(h:w1a R size M w G cs v l)(hi:l[i]?=some x)(ho:o=i*size+j)(hj:j+us.length≤size)(h1:∀u∈us,u.oneCell'=true)
 (hR:∀c,R (G.toList++M) w c x→R (G.toList++M) w' (d0a c j us) x') (hk:z0a (G.toList++M) w w'):w1a R size M w' G (d0a cs o us) v (l.set i x'):=by
 obtain⟨css,q1,q2,q3,q4⟩:=h;have a0:w9b size w G cs v css:=⟨css,Z,q2,by rw[q1];exact q3,fun k c hk=>by
  have b0:=(List.getElem?_eq_some_iff.1 hk).1;obtain⟨c',h5,h6⟩:=q4 k l[k] (List.getElem?_eq_getElem (by omega));rw[hk] at h5;cases h5;exact⟨c,hk,Z,hL.len h6,hL.one h6⟩⟩
 obtain⟨c,h5,h6⟩:=q4 i x hi;obtain⟨xs,_,r2,r3,r4⟩:=a0.put h5 ho hj h1;have hx:xs=css.set i (d0a c j us):=by
  refine List.ext_getElem? fun k=>?_;cases hk:(css.set i (d0a c j us))[k]? with
  | none=>rw[List.getElem?_eq_none_iff] at hk ⊢;omega
  | some x=>obtain⟨y,h5,h6⟩:=r4 k x hk;rw[h5,h6.1]
 subst hx;refine⟨_,by simp[q1],r2,by rw[List.length_set] at r3 ⊢;rw[←q1];exact r3,fun k y hy=>?_⟩;by_cases e:k=i
 ·subst e;rw[List.getElem?_set_self (t4a hi)] at hy;cases hy;exact⟨_,List.getElem?_set_self (t4a h5),hR c h6⟩
 ·rw[List.getElem?_set_ne (fun h=>e h.symm)] at hy;obtain⟨c',h7,h8⟩:=q4 k y hy;exact⟨c',by rw[List.getElem?_set_ne (fun h=>e h.symm)];exact h7,hL.keep hk h8⟩
theorem w1a.at{α:Type}{R:List Nat→World→List Value→α→Prop}{size:Nat}{M:List Nat}{w:World}{G:Option Nat}{cs:List Value}{A:Option Addr}{n c:Nat}{l:List α}(h:w1a R size M w G cs (.slice A n c) l)(h0:0<l.length):∃g,G=some g∧A=some ⟨g,0,none⟩∧n=l.length∧l.length*size≤cs.length:=by
 obtain⟨_,_,_,⟨_,hr⟩,_⟩:=h;rcases hr with⟨rfl,he,h5⟩|⟨g,a0,rfl,he,r1,r2,r3,r4⟩
 ·omega
 ·simp only[Value.slice.injEq] at he;exact⟨g,Z,he.1,he.2.1,by rw[r3];exact Nat.mul_le_mul_right _ r1⟩
def Z7b(m:u1a)(e:E):u1a:=⟨m.name,m.owner,e,m.guar,m.frame⟩
def g2b(p:i0a)(k:Nat)(ms:List u1a):Prop:=ms.length=p.modules.length∧(∀(i:Nat) (m:u1a),i<k→p.modules[i]?=some m→∃s,D5a p i s∧ms[i]?=some (Z7b m (w2a p s).1))∧∀i:Nat,k≤i→ms[i]?=p.modules[i]?
theorem g2b.zero(p:i0a):g2b p 0 p.modules:=⟨Z,fun i m h=>absurd h (by omega),fun i _=>rfl⟩
theorem g2b.next{p:i0a}{k:Nat}{ms:List u1a}(h:g2b p k ms){m:u1a}(hm:p.modules[k]?=some m){s:List Int}(hs:D5a p k s):g2b p (k+1) (ms.set k (Z7b m (w2a p s).1)):=by
 obtain⟨h1,h2,h3⟩:=h;have hk:=t4a hm;refine⟨by simpa using h1,fun i m' hi a0=>?_,fun i hi=>?_⟩
 ·by_cases e:i=k
  ·subst e;rw[hm] at a0;cases a0;exact⟨s,hs,List.getElem?_set_self (by omega)⟩
  ·obtain⟨s',h4,h5⟩:=h2 i m' (by omega) a0;exact⟨s',h4,by rw[List.getElem?_set_ne (fun h=>e h.symm)];exact h5⟩
 ·rw[List.getElem?_set_ne (by omega)];exact h3 i (by omega)
theorem k4c{M:List Nat}{w w':World}{c es:List Value}{m:u1a}{e:E}(h:G0a M w c m)(hk:z0a M w w')(he:RdE M w' e es):G0a M w' (d0a c 2 es) (Z7b m e):=by
 obtain⟨_,_,_,rfl,-⟩:=he.open_;obtain⟨_,_,_,_,k0,k1,k2,k3,vf,rfl,_,h2,h3⟩:=G0a.keep hk _ _ h;exact⟨_,_,_,_,k0,k1,k2,k3,vf,Z,he,h2,h3⟩
theorem D9c(p:i0a)(hc:z0c p)(hz:∀m∈p.modules,m.rely.op=0)(he:∀i,i<p.modules.length→∀s,D5a p i s→(w2a p s).2=0)(M:List Nat)(w0:World)(cs:List Value)(hI:InP p M w0 cs):
 O0a prog 46 #[.agg cs.toArray] w0 fun v w'=>(∃Bc mc dc Av nv cv Bt mt dt ms,v=.tuple #[.agg #[.slice Bc mc dc,.slice Av nv cv,.slice none 0 0,.slice Bt mt dt],.int .i64 0]∧RdS M w' 11 (G0a M w') (.slice Av nv cv) ms∧g2b p p.modules.length ms)∧Below w0.heap.size w0 w':=by
 obtain⟨Ac,nc,cc,Am,nm,cm,Al,nl,cl,At,nt,ct,rfl,_,W0,_⟩:=hI.rd.open_;have hM:=hI.lt;have hp:=hI.ok;have Y0:=hp.nmodules;have S:=St.refl w0;refine a0a func46 Z ntmps46 Z ?_;refine wO0 Z U (q0a S Z ?_);intro g1 w1 S1 X1 G1;refine h0a S1 G7a Z Z ?_;intro g2 w2 S2 X2 G2;refine lO S2.k [.w 1] Z ⟨⟨Z,Z⟩,U⟩ (U0a S2 d5b Z Z (h6a p M _ _ (hI.keep (S2.keep0 M))) ?_);intro q1 i0 j1;refine lO i0.k [.w 1] Z ⟨⟨Z,Z⟩,U⟩ ?_;have Sb:=i0;refine p0a i0 t1d Z Z (Y9b p hc (g2::M) _ _ (s1b i0 0 Z hM) ((hI.rd.more (i5a i0 (k:=0) Z)).keep (i0.keep0 _))) ?_;rintro o1 b1 ⟨_,_,_,G,R0,rfl,V0,c0,A0,C0⟩ L0 m1;have u0:=L0.pushO Sb V0;obtain⟨Av,cv,rfl⟩:=c0.form;obtain⟨Bc,mc,dc,rfl⟩:=A0.form;obtain⟨Bt,mt,dt,rfl⟩:=C0.form;have KR:=z0a.refl (G.toList++g2::M) b1;refine h0a u0 G7a Z Z ?_;intro g4 w4 S4 X4 G4;have q0:=Nat.le_trans KR.size G4;replace KR:=KR.trans (X4.of_nil);refine b0a (kk:=0) (vs:=[_,_,_,_]) S4 s6a Z Z Z Z Z Z Z ?_;intro d1 d0 v0;dsimp only[d0a,List.set] at d0;replace KR:=KR.fresh2 v0 (by exact .inl q0);refine lC d0.k [.o 3] Z ⟨Z,U⟩ (wL (fun μk D ε w=>D=[]∧∃k:Nat,∃y0:List Value,∃ms:List u1a,(k+μk=(p.modules.length))∧(w1a G0a 11 (g2::M) w G y0 (.slice Av p.modules.length cv) ms)∧(g2b p k ms)∧St [] w0 w [(some g4,27,[.slice Bc mc dc,.slice Av p.modules.length cv,.slice none 0 0,.slice Bt mt dt]),(G,66,y0),(some g2,27,[.slice none 0 0,.slice none 0 0,.slice none 0 0,.slice none 0 0]),(some g1,27,[.slice Ac nc cc,.slice Am nm cm,.slice Al nl cl,.slice At nt ct])]∧Sl ε [(1,.pointer (some ⟨g1,0,none⟩)),(2,.pointer (some ⟨g2,0,none⟩)),(4,.pointer (some ⟨g4,0,none⟩)),(16,.slice Am nm cm),(17,.int .i64 nm),(18,.int .i64 k)]) (μ:=(p.modules.length)) ⟨Z,0,R0,p.modules,by omega,w1a.keep Y1a c0 KR,g2b.zero p,d0,Z⟩ ?_);rintro μk D ε w ⟨rfl,k,y0,ms,_,f0,p0,S,eZ⟩;refine wK eZ ?_;have KR:=z0a.refl (G.toList++g2::M) w;have n1:=p0.1;refine wB0 Z U (fun S0=>?_) fun S0=>?_
 ·obtain⟨m,Q0,a1,_,G0,z0,_,E0,D0,F0⟩:=RdS.get (W0) (k) (by omega);obtain⟨_,_,_,_,_,_,_,_,_,rfl,_⟩:=G0a.open_ F0;have Z0:=hz m (e0a G0);refine lO (S.k.a D0) [.x Q0 a1,.v 0] Z ⟨⟨Z,E0⟩,⟨z0,by omega⟩,U⟩ (h0a S y1c Z Z ?_);intro g6 w6 S6 X6 G6;have r0:=Nat.le_trans KR.size G6;replace KR:=KR.trans (X6.of_nil);refine lO0 Z U (b0a (kk:=0) (vs:=[_,_,_,_,_,_,_,_,_,_,_]) S6 H2c Z Z Z Z Z Z Z ?_);intro f1 b0 x0;dsimp only[d0a,List.set] at b0;replace KR:=KR.fresh2 x0 (by exact .inl r0);refine lB b0.k [.o 0] Z ⟨Z,U⟩ (fun T0=>by exfalso;omega) fun T0=>?_;refine lO b0.k [.w 4] Z ⟨⟨Z,Z⟩,U⟩ (p0a b0 s5b Z Z (K5a p k (by omega) (G.toList++g2::M) _ _ (hI.newL (b0.keep0 _) (fun x hx=>C3a b0 x (A5a 2 Z (n3b 3 Z) x hx)) (fun x hx=>F4a b0 hM x (A5a 2 Z (n3b 3 Z) x hx)))) ?_);rintro p1 c1 ⟨s,_,hs,rfl,I0⟩ N0 P0;replace KR:=KR.trans (P0.of_nil);obtain⟨_,_,_,rfl,-⟩:=I0.open_;have KY:=z0a.refl (G.toList++g2::M) c1;have X0:=he k (by omega) s hs;refine lO0 Z U (h0a N0 r1a Z Z ?_);intro g7 w7 S7 X7 G7;have s0:=Nat.le_trans KR.size G7;have t0:=Nat.le_trans KY.size G7;replace KR:=KR.trans (X7.of_nil);replace KY:=KY.trans (X7.of_nil);refine b0a (kk:=0) (vs:=[_,_,_,_]) S7 v0a Z Z Z Z Z Z Z ?_;intro i1 e0 n0;dsimp only[d0a,List.set] at e0;replace KR:=KR.fresh2 n0 (by exact .inl s0);replace KY:=KY.fresh2 n0 (by exact .inl t0);refine lB0 Z U (fun U0=>by exfalso;omega) fun U0=>?_;obtain⟨_,B0,_,-,_⟩:=w1a.at f0 (by omega);refine lO e0.k [.o 2,.w 0] Z ⟨⟨Z,by rfl⟩,Z,U⟩ (N0a H8a.slT Z (by assumption) Z Z ?_);refine lO0 Z U ?_;refine b0a (kk:=3) (vs:=[_,_,_,_]) e0 v0a Z Z Z Z Z (by rw[←B0];rfl) (by rw[Nat.ble_eq];omega) ?_;intro H0 j0 O0;rw[←B0] at j0;have K0:=j0;have KX:z0a (G.toList++g2::M) _ H0:=O0.mono (fun g hg=>by rw[B0];simp at hg ⊢;exact .inl hg);have g0:=w1a.put Y1a f0 (i:=k) (j:=2) (o:=0+(k:Int).toNat*11+2) (x':=Z7b m (w2a p s).1) (by rw[p0.2.2 k (Nat.le_refl _)];exact G0) (by omega) (by simp) (by simp[Value.oneCell']) (fun c hc=>k4c hc (KR.trans KX) (RdE.keep (KY.trans KX) _ _ I0)) (KR.trans KX);replace KR:=z0a.refl (G.toList++g2::M) H0;replace KY:=z0a.refl (G.toList++g2::M) H0;refine lP0 Z ⟨by omega,U⟩ ⟨μk-1,by omega,Z,(k+1),(_),(_),(by omega),(g0),(p0.next G0 hs),K0.tail.tail,Z⟩
 refine lO S.k [.w 0] Z ⟨⟨Z,Z⟩,U⟩ (b0a (kk:=2) (vs:=[_,_,_,_]) S s6a Z Z Z Z Z Z Z ?_);intro o0 a0 m0;dsimp only[d0a,List.set] at a0;refine lR0 Z U (a2a (v:=.int .i64 0) Z G3a Z (a0.cells 2 Z) Z Z ⟨⟨Bc,mc,dc,_,_,_,Bt,mt,dt,ms,Z,?_,?_⟩,a0.fin⟩)
 ·have J0:z0a (G.toList++g2::M) _ o0:=m0.mono (by simp);exact RdS.lessW (w1a.rd Y1a (w1a.keep Y1a f0 J0) a0 (k:=1) Z (fun g hg hh=>by
   subst hg;rcases List.mem_cons.1 hh with hh|hh
   ·exact a0.ne 1 2 Z Z (by omega) hh
   ·exact p3a a0 (k:=1) Z hM hh) (by omega)) (fun g hg=>by simp[hg]) (G0a.less (fun g hg=>by simp[hg]))
 ·rw[show p.modules.length=k by omega];exact p0
def q9b(w v:Int):E:=⟨1,w,v,[]⟩
def b4a(nm:ByteArray)(k v:Int)(e:E):G1a:=⟨nm,2,[n4a,n4a],[k,k],[⟨3,0,1,n4a,[⟨v,e⟩],false,0,k⟩],[],false⟩
def Z0b(e:E):i0a:=⟨[⟨⟨#[120]⟩,1,0,-1,false,0⟩,⟨⟨#[121]⟩,1,0,-1,false,0⟩],[⟨⟨#[65]⟩,⟨#[65,110,110]⟩,zE,p1c,[0]⟩,⟨⟨#[66]⟩,⟨#[66,111,98]⟩,zE,n4a,[1]⟩],[],[b4a ⟨#[116]⟩ 0 0 (q9b 1 1),b4a ⟨#[117]⟩ 1 1 e]⟩
abbrev e3a:i0a:=Z0b (q9b 1 0)
theorem D2b:L1a e3a:=U4c (by kernel_rfl)
theorem C3c:¬L1a (Z0b (q9b 2 0)):=fun h=>by
 have h1:=((h.threads 1 (by decide)).steps _ (show _∈[_] from List.mem_cons_self)).set _ (show _∈[_] from List.mem_cons_self);have h2:(2:Int)=1:=h1.2.2;omega
def J0d(c:Int):E:=⟨11,1,0,[⟨3,1,c,[]⟩,⟨2,1,c,[]⟩]⟩
def L5c:E:=J0d 0
def G5c:E:=⟨5,1,0,[p1c,J0d 1]⟩
theorem A5b:w2a e3a [1]=(L5c,0):=by kernel_rfl
theorem A6b:w2a e3a [0]=(G5c,0):=by kernel_rfl
theorem U7b:L5c.txt=[101,113,40,111,48,58,49,44,99,48,58,49,41]:=by kernel_rfl
theorem V8c:L5c.wf=true:=by kernel_rfl
theorem b3c:L5c.txB=true:=by kernel_rfl
theorem R7b:G5c.txt=[97,110,100,40,108,101,40,111,48,58,49,44,99,48,58,49,41,44,101,113,40,111,49,58,49,44,99,49,58,49,41,41]:=by kernel_rfl
theorem q7c:G5c.wf=true:=by kernel_rfl
theorem v3c:G5c.txB=true:=by kernel_rfl
theorem M7a(x:Int×Int):V5a e3a 2 x↔x=(0,1)∨x=(1,0):=by
 constructor
 ·rintro⟨t,_,u,_,_,_,_,hu,_,h1,h2,h3,h4,rfl⟩;have a0:u<2:=hu;rcases(show(t=0∧u=1)∨(t=1∧u=0) by omega) with⟨rfl,rfl⟩|⟨rfl,rfl⟩<;>cases h1<;>cases h2<;>simp[b4a] at h3 h4<;>subst h3<;>subst h4<;>simp
 ·rintro(rfl|rfl)
  ·exact⟨0,by omega,1,_,_,_,1,by decide,by omega,Z,Z,List.mem_cons_self,by simp[b4a],Z⟩
  ·exact⟨1,by omega,0,_,_,_,0,by decide,by omega,Z,Z,List.mem_cons_self,by simp[b4a],Z⟩
theorem F8c{l:List (Int×Int)}(hu:l.Pairwise lt2)(h:∀x,x∈l↔V5a e3a 2 x):l=[(0,1),(1,0)] :=
 h5b _ _ hu (by simp[lt2]) fun p=>(h p).trans ((M7a p).trans (by simp))
theorem q4a:∀(a b:List Int),a.Pairwise (·<·)→b.Pairwise (·<·)→(∀x,x∈a↔x∈b)→a=b
 | [],[],_,_,_=>rfl
 | [],y::b,_,_,h=>by have:=(h y).2 (by simp);cases this
 | x::a,[],_,_,h=>by have:=(h x).1 (by simp);cases this
 | x::a,y::b,ha,hb,h=>by
   rw[List.pairwise_cons] at ha hb;have a0:x=y:=by
    rcases List.mem_cons.1 ((h x).1 (by simp)) with h1|h1
    ·exact h1
    ·rcases List.mem_cons.1 ((h y).2 (by simp)) with h2|h2
     ·exact h2.symm
     ·have:=hb.1 x h1;have:=ha.1 y h2;omega
   subst a0
   congr 1
   refine q4a a b ha.2 hb.2 fun z=>⟨fun hz=>?_,fun hz=>?_⟩
   ·rcases List.mem_cons.1 ((h z).1 (List.mem_cons_of_mem _ hz)) with h1|h1
    ·subst h1;have:=ha.1 z hz;omega
    ·exact h1
   ·rcases List.mem_cons.1 ((h z).2 (List.mem_cons_of_mem _ hz)) with h1|h1
    ·subst h1;have:=hb.1 z hz;omega
    ·exact h1
theorem k6b{s:List Int}(h:D5a e3a 0 s):s=[1]:=q4a _ _ h.1 (by simp) fun x=>(h.2 x).trans ((M7a _).trans (by simp))
theorem C6b{s:List Int}(h:D5a e3a 1 s):s=[0]:=q4a _ _ h.1 (by simp) fun x=>(h.2 x).trans ((M7a _).trans (by simp))
theorem p6b{l:List Int}(h:a1c e3a 1 l):l=[1]:=q4a _ _ h.1 (by simp) fun x=>(h.2 x).trans (by
 constructor
 ·rintro⟨_,a0,_,hs,h1,h2,_⟩;obtain⟨_,ha,rfl⟩:=j5a.1 h2;simp only[Z0b,List.mem_cons,List.not_mem_nil,or_false] at a0;rcases a0 with rfl|rfl<;>simp[b4a] at hs<;>subst hs<;>simp at h1 ha;subst ha;simp
 ·intro hx;rw[List.mem_singleton] at hx;subst hx;exact⟨_,List.mem_cons_of_mem _ List.mem_cons_self,_,List.mem_cons_self,Z,j5a.2 ⟨_,List.mem_cons_self,Z⟩,Z⟩)
theorem j1c{l:List Int}{x:Int}(h:∀y,y∈l↔y=x):ddI l=[x]:=q4a _ _ (o5b _) (by simp) fun y=>J7a.trans ((h y).trans (by simp))
theorem v2c(k v:Int)(e:E)(t:Int)(he:e.sup 2=[]:=by kernel_rfl):s2a ⟨3,0,1,n4a,[⟨v,e⟩],false,t,k⟩=[v]:=by
 refine j1c fun y=>?_;rw[List.mem_append];have h1:y∉Q1a ⟨3,0,1,n4a,[⟨v,e⟩],false,t,k⟩:=fun h=>by
  have h2:=J7a.1 h;have h3:w4a (⟨3,0,1,n4a,[⟨v,e⟩],false,t,k⟩:h1a) 1=[]:=by
   have:n4a.sup 2=[]:=by kernel_rfl
   simp[w4a,this,he]
  rw[show(⟨3,0,1,n4a,[⟨v,e⟩],false,t,k⟩:h1a).set.length=1 from rfl,h3] at h2;cases h2
 rw[j5a];constructor
 ·rintro(h|⟨a,ha,rfl⟩)
  ·exact absurd h h1
  ·simp at ha;subst ha;rfl
 ·rintro rfl;exact .inr ⟨_,List.mem_cons_self,Z⟩
theorem A8c:Chg e3a ⟨3,0,1,n4a,[⟨0,q9b 1 1⟩],false,0,0⟩:=by
 have hc:=v2c 0 0 (q9b 1 1) 0;refine⟨by decide,.inr ⟨0,?_,?_⟩⟩
 ·unfold T8a;rw[hc];decide
 ·unfold C6c stC T8a;rw[hc];decide +kernel
theorem S7c:Chg e3a ⟨3,0,1,n4a,[⟨1,q9b 1 0⟩],false,0,1⟩:=by
 have hc:=v2c 1 1 (q9b 1 0) 0;refine⟨by decide,.inr ⟨1,?_,?_⟩⟩
 ·unfold T8a;rw[hc];decide
 ·unfold C6c stC T8a;rw[hc];decide +kernel
theorem J0b{l:List Int}(h:M5c e3a l):l=[]:=by
 refine List.eq_nil_iff_forall_not_mem.2 fun x hx=>?_;obtain⟨h1,h2⟩:=(h.2 x).1 hx;have h3:x<2:=h1.2;refine h2 ?_;rcases(show x=0∨x=1 by omega) with rfl|rfl
 ·exact⟨_,List.mem_cons_self,_,List.mem_cons_self,Z,A8c⟩
 ·exact⟨_,List.mem_cons_of_mem _ List.mem_cons_self,_,List.mem_cons_self,Z,S7c⟩
theorem w2b:∀e∈[zE,p1c,n4a,q9b 1 1,q9b 1 0],Small e:=by
 intro e he;simp only[List.mem_cons,List.not_mem_nil,or_false] at he;rcases he with rfl|rfl|rfl|rfl|rfl
 ·exact⟨0,by decide,by intro k hk;cases hk⟩
 ·refine⟨40,by decide,?_⟩;intro k hk;simp only[p1c,List.mem_cons,List.not_mem_nil,or_false] at hk;rcases hk with rfl|rfl<;>kernel_rfl
 ·exact⟨0,by decide,by intro k hk;cases hk⟩
 ·exact⟨0,by decide,by intro k hk;cases hk⟩
 ·exact⟨0,by decide,by intro k hk;cases hk⟩
theorem e3c(nm:ByteArray)(k v:Int)(e:E)(he:Small e):(b4a nm k v e).loops=[]∧(∀x∈(b4a nm k v e).asserts,Small x)∧(∀s∈(b4a nm k v e).steps,Small s.guard∧(∀a∈s.set,Small a.to)∧s.set.length≤1000)∧(b4a nm k v e).asserts.length≤1000∧(b4a nm k v e).modules.length≤1000∧(b4a nm k v e).steps.length≤1000:=by
 have h1:Small n4a:=w2b _ (by simp);refine⟨Z,fun x hx=>?_,fun s hs=>?_,(by show 2≤1000;omega),(by show 2≤1000;omega),(by show 1≤1000;omega)⟩
 ·simp only[b4a,List.mem_cons,List.not_mem_nil,or_false] at hx;rcases hx with rfl|rfl<;>exact h1
 ·simp only[b4a,List.mem_singleton] at hs;subst hs;refine⟨h1,fun a ha=>?_,(by show 1≤1000;omega)⟩;simp only[List.mem_singleton] at ha;subst ha;exact he
theorem h6b:z0c e3a:=by
 refine⟨Z,by decide,by decide,by decide,fun m hm=>?_,fun th a0=>?_⟩
 ·simp only[Z0b,List.mem_cons,List.not_mem_nil,or_false] at hm;rcases hm with rfl|rfl<;>exact⟨w2b _ (by simp),w2b _ (by simp),by simp⟩
 ·simp only[Z0b,List.mem_cons,List.not_mem_nil,or_false] at a0;rcases a0 with rfl|rfl<;>exact e3c _ _ _ _ (w2b _ (by simp))
theorem I0d:∀m∈e3a.modules,m.rely.op=0:=by
 intro m hm;simp only[Z0b,List.mem_cons,List.not_mem_nil,or_false] at hm;rcases hm with rfl|rfl<;>rfl
theorem a2d:∀i,i<e3a.modules.length→∀s,D5a e3a i s→(w2a e3a s).2=0:=by
 intro i hi s hs;have a0:i<2:=hi;rcases(show i=0∨i=1 by omega) with rfl|rfl
 ·rw[k6b hs,A5b]
 ·rw[C6b hs,A6b]
theorem L9b{ms:List u1a}(h:g2b e3a 2 ms):∃m0 m1,ms=[m0,m1]∧m0.rely=L5c∧m1.rely=G5c:=by
 obtain⟨h1,h2,-⟩:=h;obtain⟨_,i0,e0⟩:=h2 0 _ (by omega) Z;obtain⟨_,i1,e1⟩:=h2 1 _ (by omega) Z;rw[k6b i0,A5b] at e0;rw[C6b i1,A6b] at e1
 match ms,h1,e0,e1 with
 | [a,b],_,e0,e1 =>
   simp at e0 e1;exact⟨a,b,Z,by rw[e0];rfl,by rw[e1];rfl⟩
section
variable {P:Program} {r:Option Nat} {N:Nat} {ops:Array Oper} {rest:List Oper} {C:World→Prop} {KQ:Env→Prop} {K:List Deferred→Env→World→Prop} {D:List Deferred} {e:Env} {w:World} {d:Nat} {t:TypeId} {p:String} {af:Array Edge} {x y:Operand} {yt:TypeId}
theorem Eq2.neq{ty:TypeId}(hE:Eq2 P ty)(w:World)(a b:Int×Int):(binOp .neq ty (.agg (pc a).toArray) (.agg (pc b).toArray)).run P w=.ok (.bool (!decide (a=b))) w:=by
 have:=hE.2 w a.1 a.2 b.1 b.2;have hd:decide (a=b)=decide (a.1=b.1∧a.2=b.2):=decide_eq_decide.2 Prod.ext_iff;rw[hd];show(binOp .neq ty (.agg #[.int .i64 a.1,.int .i64 a.2]) (.agg #[.int .i64 b.1,.int .i64 b.2])).run P w=_;rw[run_eql_struct] at this;rw[run_neq_struct]
 revert this
 generalize (Op.equalIn 10000 ty _ _).run P w=a0;intro this;cases a0 with
 | ok z w'=>simp only[Result.andThen_ok] at this ⊢;cases this;rfl
 | halt z w'=>simp[Result.andThen] at this
theorem Eq2.guard{ty:TypeId}(hE:Eq2 P ty)(w:World)(op:BinOp)(x y:Operand)(a b:Int×Int):(eqGuard op ty x y (.agg (pc a).toArray) (.agg (pc b).toArray)).run P w=.ok () w:=run_eqGuard_agg w _ _ _ _ _ _ hE.1
theorem Eq2.eql{ty:TypeId}(hE:Eq2 P ty)(w:World)(a b:Int×Int):(binOp .eql ty (.agg (pc a).toArray) (.agg (pc b).toArray)).run P w=.ok (.bool (decide (a=b))) w:=by
 have hd:decide (a=b)=decide (a.1=b.1∧a.2=b.2):=decide_eq_decide.2 Prod.ext_iff;rw[hd];exact hE.2 w a.1 a.2 b.1 b.2
end
theorem Q4c(n wd:Int)(w0:World):O0a prog 85 #[.int .i64 n,.int .i64 wd] w0 fun v w'=>v=.agg #[.int .i64 3,.int .i64 wd,.int .i64 n,.slice none 0 0]∧Below w0.heap.size w0 w':=by
 have S:=St.refl w0;refine a0a func85 Z ntmps85 Z ?_;refine wO0 Z U (h0a S r1a Z Z ?_);intro g4 w4 S4 X4 G4;refine lO0 Z U (i1a J2a (vs:=[(0,.int .i64 _),(1,.int .i64 _),(2,.int .i64 _)]) (cs:=[_,_,_,_]) Z Z Z Z ?_)
 first|refine b0a (kk:=0) (vs:=[_,_,_,_]) S4 v0a Z Z Z Z Z Z Z ?_
 intro c0 a0 b0;dsimp only[d0a,List.set] at a0;exact lR0 Z U (g0a Z k0a Z (a0.cells 0 Z) Z ⟨Z,a0.fin⟩)
theorem U9b(n wd:Int)(w0:World):O0a prog 75 #[.int .i64 n,.int .i64 wd] w0 fun v w'=>v=.agg #[.int .i64 2,.int .i64 wd,.int .i64 n,.slice none 0 0]∧Below w0.heap.size w0 w':=by
 have S:=St.refl w0;refine a0a func75 Z ntmps75 Z ?_;refine wO0 Z U (h0a S r1a Z Z ?_);intro g4 w4 S4 X4 G4;refine lO0 Z U (i1a J2a (vs:=[(0,.int .i64 _),(1,.int .i64 _),(2,.int .i64 _)]) (cs:=[_,_,_,_]) Z Z Z Z ?_)
 first|refine b0a (kk:=0) (vs:=[_,_,_,_]) S4 v0a Z Z Z Z Z Z Z ?_
 intro c0 a0 b0;dsimp only[d0a,List.set] at a0;exact lR0 Z U (g0a Z k0a Z (a0.cells 0 Z) Z ⟨Z,a0.fin⟩)
theorem w1b(n wd:Int)(w0:World):O0a prog 48 #[.int .i64 n,.int .i64 wd] w0 fun v w'=>v=.agg #[.int .i64 1,.int .i64 wd,.int .i64 n,.slice none 0 0]∧Below w0.heap.size w0 w':=by
 have S:=St.refl w0;refine a0a func48 Z ntmps48 Z ?_;refine wO0 Z U (h0a S r1a Z Z ?_);intro g4 w4 S4 X4 G4;refine lO0 Z U (i1a J2a (vs:=[(0,.int .i64 _),(1,.int .i64 _),(2,.int .i64 _)]) (cs:=[_,_,_,_]) Z Z Z Z ?_)
 first|refine b0a (kk:=0) (vs:=[_,_,_,_]) S4 v0a Z Z Z Z Z Z Z ?_
 intro c0 a0 b0;dsimp only[d0a,List.set] at a0;exact lR0 Z U (g0a Z k0a Z (a0.cells 0 Z) Z ⟨Z,a0.fin⟩)
theorem W2a{w:World}{g t:Nat}{cs:List Value}(h:o0a w (g,t,cs)):Cells w g 0 cs:=fun j v hj=>by rw[Nat.zero_add];exact h.cell hj
theorem E4b{M:List Nat}{w w':World}{b:Blk}(hk:z0a M w w')(hm:b.1∉M)(h:o0a w b):o0a w' b:=by
 have:=h.lt;unfold o0a at *;rw[hk.same _ this hm];exact h
theorem o8b{w:World}{g t t':Nat}{cs a0:List Value}(h1:o0a w (g,t,cs))(h2:o0a w (g,t',a0)):t=t'∧cs=a0:=by
 unfold o0a at h1 h2;rw[h1] at h2;simp only[Option.some.injEq,Obj.cells.injEq,Array.mk.injEq] at h2;exact⟨h2.2.1,by simpa using h2.1⟩
theorem E5c{w:World}{g g' t t':Nat}{cs a0:List Value}(h1:o0a w (g,t,cs))(h2:o0a w (g',t',a0))(h:t≠t'):g≠g':=fun e=>by
 subst e;exact h (o8b h1 h2).1
abbrev o4:List Value:=[.int .i64 1,.int .i64 1,.int .i64 1,.slice none 0 0]
def thC(nm:ByteArray)(gA gM gT:Nat):List Value:=[.string nm,.int .i64 2,.slice (some ⟨gA,0,none⟩) 2 2,.slice (some ⟨gM,0,none⟩) 2 2,.slice (some ⟨gT,0,none⟩) 1 1,.slice none 0 0,.bool false]
def ThX(k v:Int)(gA gM gT gS:Nat)(ce:List Value)(w:World):Prop :=
 o0a w (gA,38,o4++o4)∧o0a w (gM,3,[.int .i64 k,.int .i64 k]) ∧
 o0a w (gT,61,[.int .i64 3,.int .i64 0,.int .i64 1,.int .i64 1,.int .i64 1,.int .i64 1,.slice none 0 0,.slice (some ⟨gS,0,none⟩) 1 1,.bool false,.int .i64 0,.int .i64 k])∧o0a w (gS,63,.int .i64 v::ce)
theorem ThX.keep{k v:Int}{gA gM gT gS:Nat}{ce:List Value}{w w':World}(h:ThX k v gA gM gT gS ce w)(hk:z0a [] w w'):ThX k v gA gM gT gS ce w' :=
 ⟨s1a hk h.1,s1a hk h.2.1,s1a hk h.2.2.1,s1a hk h.2.2.2⟩
def H3c:Value→Prop:=fun u=>∃a0 a1 a2 a3 a4 a5 a6,u=.agg #[a0,a1,a2,a3,a4,a5,a6]
def thQ(b:Nat)(nm:ByteArray)(k v n:Int):Value→World→Prop:=fun u w=>∃gA gM gT gS,u=.agg (thC nm gA gM gT).toArray∧ThX k v gA gM gT gS [.int .i64 1,.int .i64 1,.int .i64 n,.slice none 0 0] w∧b≤gS
theorem n1b:∃u,H3c u:=⟨_,undef,undef,undef,undef,undef,undef,undef,Z⟩
theorem s7b(b:Nat)(nm:ByteArray)(k v n:Int):∀u w w',z0a [] w w'→thQ b nm k v n u w→thQ b nm k v n u w':=fun _ _ _ hk ⟨gA,gM,gT,gS,h,hr,h0⟩=>⟨gA,gM,gT,gS,h,hr.keep hk,h0⟩
theorem Q0c{b:Nat}{nm:ByteArray}{k v n:Int}{u:Value}{w:World}(h:thQ b nm k v n u w):H3c u:=by
 obtain⟨_,_,_,_,rfl,-⟩:=h;exact⟨_,_,_,_,_,_,_,Z⟩
theorem ThX.rd{nm:ByteArray}{k v:Int}{gA gM gT gS:Nat}{ce:List Value}{w:World}{e:E}(h:ThX k v gA gM gT gS ce w)(he:RdE [] w e ce)(ik:i64 k)(iv:i64 v):M0a [] w (thC nm gA gM gT) (b4a nm k v e):=by
 obtain⟨h1,h2,h3,h4⟩:=h;have i0:i64 0:=by unfold i64;omega
 have i1:i64 1:=by unfold i64;omega
 have i2:i64 2:=by unfold i64;omega
 have i3:i64 3:=by unfold i64;omega
 have a0:RdE [] w n4a o4:=P1a i1 i1 i1;obtain⟨_,_,_,rfl,-⟩:=id he.open_;exact⟨_,_,_,_,Z,i2,G0c (c:=[_,_,_,_]) (c2:=[_,_,_,_]) (W2a h1) Z Z a0 a0,G0c (c:=[_]) (c2:=[_]) (W2a h2) Z Z ⟨Z,ik⟩ ⟨Z,ik⟩,
  p4c (W2a h3) Z ⟨_,_,_,_,_,Z,i3,i0,i1,i0,ik,a0,p4c (W2a h4) Z ⟨_,Z,iv,he⟩⟩,O5b⟩
def Z7c:Value→Prop:=fun u=>∃a b c d,u=.agg #[a,b,c,d]
def twC(gk:Nat):List Value:=[.int .i64 13,.int .i64 1,.int .i64 0,.slice (some ⟨gk,0,none⟩) 2 2]
def twK:List Value:=[.int .i64 3,.int .i64 1,.int .i64 0,.slice none 0 0,.int .i64 2,.int .i64 1,.int .i64 0,.slice none 0 0]
def twQ:Value→World→Prop:=fun u w=>∃gk,u=.agg (twC gk).toArray∧o0a w (gk,38,twK)
theorem C8b:∃u,Z7c u:=⟨_,undef,undef,undef,undef,Z⟩
theorem Y2c:∀u w w',z0a [] w w'→twQ u w→twQ u w':=fun _ _ _ hk ⟨gk,h,hr⟩=>⟨gk,h,s1a hk hr⟩
theorem e6c{u:Value}{w:World}(h:twQ u w):Z7c u:=by
 obtain⟨_,rfl,-⟩:=h;exact⟨_,_,_,_,Z⟩
def C4c(cs:List Value)(gS:Nat)(w:World):Prop:=∃gc gm gf0 gf1 gk gt gA gM gT gS0 hA hM hT,
 cs=[.slice (some ⟨gc,0,none⟩) 2 2,.slice (some ⟨gm,0,none⟩) 2 2,.slice none 0 0,.slice (some ⟨gt,0,none⟩) 2 2] ∧
 o0a w (gc,82,[.string ⟨#[120]⟩,.int .i64 1,.int .i64 0,.int .i64 (-1),.bool false,.int .i64 0,.string ⟨#[121]⟩,.int .i64 1,.int .i64 0,.int .i64 (-1),.bool false,.int .i64 0]) ∧
 o0a w (gk,38,twK)∧o0a w (gf0,3,[.int .i64 0])∧o0a w (gf1,3,[.int .i64 1]) ∧
 o0a w (gm,66,[.string ⟨#[65]⟩,.string ⟨#[65,110,110]⟩,.int .i64 0,.int .i64 0,.int .i64 0,.slice none 0 0,.int .i64 13,.int .i64 1,.int .i64 0,.slice (some ⟨gk,0,none⟩) 2 2,.slice (some ⟨gf0,0,none⟩) 1 1,.string ⟨#[66]⟩,.string ⟨#[66,111,98]⟩,.int .i64 0,.int .i64 0,.int .i64 0,.slice none 0 0,.int .i64 1,.int .i64 1,.int .i64 1,.slice none 0 0,.slice (some ⟨gf1,0,none⟩) 1 1]) ∧
 ThX 0 0 gA gM gT gS0 [.int .i64 1,.int .i64 1,.int .i64 1,.slice none 0 0] w ∧
 o0a w (hA,38,o4++o4)∧o0a w (hM,3,[.int .i64 1,.int .i64 1]) ∧
 o0a w (hT,61,[.int .i64 3,.int .i64 0,.int .i64 1,.int .i64 1,.int .i64 1,.int .i64 1,.slice none 0 0,.slice (some ⟨gS,0,none⟩) 1 1,.bool false,.int .i64 0,.int .i64 1]) ∧
 o0a w (gt,58,thC ⟨#[116]⟩ gA gM gT++thC ⟨#[117]⟩ hA hM hT)
theorem C4c.keepS{cs:List Value}{gS:Nat}{w w':World}{xs:List Value}(h:C4c cs gS w)(hs:o0a w (gS,63,.int .i64 1::xs))(hk:z0a [gS] w w'):C4c cs gS w':=by
 obtain⟨gc,gm,b0,c0,gk,gt,gA,gM,gT,a0,hA,hM,hT,h0,h1,h2,h3,h4,h5,⟨a1,a2,a3,a4⟩,b1,b2,b3,h6⟩:=h;have kk:∀{g t:Nat} {cs:List Value},g≠gS→o0a w (g,t,cs)→o0a w' (g,t,cs):=fun hn h=>E4b hk (by rw[List.mem_singleton];exact hn) h;have kt:∀{g t:Nat} {cs:List Value},t≠63→o0a w (g,t,cs)→o0a w' (g,t,cs):=fun ht h=>kk (E5c h hs ht) h;exact⟨gc,gm,b0,c0,gk,gt,gA,gM,gT,a0,hA,hM,hT,h0,kt (by decide) h1,kt (by decide) h2,kt (by decide) h3,kt (by decide) h4,kt (by decide) h5,⟨kt (by decide) a1,kt (by decide) a2,kt (by decide) a3,kk (fun e=>by
  subst e;have:=(o8b a4 hs).2;simp at this) a4⟩,kt (by decide) b1,kt (by decide) b2,kt (by decide) b3,kt (by decide) h6⟩
theorem C4c.keep{cs:List Value}{gS:Nat}{w w':World}(h:C4c cs gS w)(hk:z0a [] w w'):C4c cs gS w':=by
 obtain⟨gc,gm,b0,c0,gk,gt,gA,gM,gT,a0,hA,hM,hT,h0,h1,h2,h3,h4,h5,a,b1,b2,b3,h6⟩:=h;exact⟨gc,gm,b0,c0,gk,gt,gA,gM,gT,a0,hA,hM,hT,h0,s1a hk h1,s1a hk h2,s1a hk h3,s1a hk h4,s1a hk h5,a.keep hk,s1a hk b1,s1a hk b2,s1a hk b3,s1a hk h6⟩
theorem C4c.rd{cs:List Value}{gS:Nat}{w:World}{ce:List Value}{e:E}(h:C4c cs gS w)(hs:o0a w (gS,63,.int .i64 1::ce))(he:RdE [] w e ce):X0a [] w (Z0b e) cs:=by
 obtain⟨_,_,_,_,gk,_,_,_,_,_,_,_,_,rfl,h1,h2,h3,h4,h5,a,b1,b2,b3,h6⟩:=h;have i0:i64 0:=by unfold i64;omega
 have i1:i64 1:=by unfold i64;omega
 have i2:i64 2:=by unfold i64;omega
 have i3:i64 3:=by unfold i64;omega
 have b0:i64 13:=by unfold i64;omega
 have im:i64 (-1):=by unfold i64;omega
 have a0:RdE [] w n4a o4:=P1a i1 i1 i1;have hz:RdE [] w zE [.int .i64 0,.int .i64 0,.int .i64 0,.slice none 0 0]:=P1a i0 i0 i0;have hu:RdE [] w p1c (twC gk):=u6b b0 i1 (by simp) (W2a h2) (P1a i3 i1 i0) (P1a i2 i1 i0);refine⟨_,_,_,_,Z,?_,?_,O5b,?_⟩
 ·exact G0c (c:=[_,_,_,_,_,_]) (c2:=[_,_,_,_,_,_]) (W2a h1) Z Z ⟨Z,i1,i0,im,i0⟩ ⟨Z,i1,i0,im,i0⟩
 ·exact G0c (c:=[_,_,_,_,_,_,_,_,_,_,_]) (c2:=[_,_,_,_,_,_,_,_,_,_,_]) (W2a h5) Z Z ⟨_,_,_,_,_,_,_,_,_,Z,hz,hu,p4c (c:=[_]) (W2a h3) Z ⟨Z,i0⟩⟩ ⟨_,_,_,_,_,_,_,_,_,Z,hz,a0,p4c (c:=[_]) (W2a h4) Z ⟨Z,i1⟩⟩
 ·exact G0c (c:=thC _ _ _ _) (c2:=thC _ _ _ _) (W2a h6) Z Z (a.rd (P1a i1 i1 i1) i0 i0) (ThX.rd ⟨b1,b2,b3,hs⟩ he i1 i1)
theorem D9a(b:Nat)(nm:ByteArray)(k v n:Int)(g:Nat)(w0:World)(hb:b≤w0.heap.size)(hc:Cells w0 g 0 o4):
 O0a prog 84 #[.string nm,.int .i64 k,.int .i64 v,.int .i64 n,.pointer (some ⟨g,0,none⟩)] w0 fun u w'=>thQ b nm k v n u w'∧Below w0.heap.size w0 w':=by
 have S:=St.refl w0;refine a0a func84 Z ntmps84 Z ?_;refine wO0 Z U (h0a S e7a Z Z ?_);intro g9 w9 S9 X9 G9;refine lC0 Z U (B6b c0a [0,1,2,3,4,5,6,7,8] 9 (Cl _ _ _ _) (Cl.start S9) (fun i=>if i=3 then some (48,#[.int .i64 n,.int .i64 1],eqQ (.agg #[.int .i64 1,.int .i64 1,.int .i64 n,.slice none 0 0]),noQ) else none) ?_ _ Z ?_)
 ·intro i f a Qp Qw hi;by_cases m0:i=3
  ·subst m0;cases hi;exact⟨⟨_,Z⟩,fun _ _ _ _ _=>trivial,fun w hC=>(w1b _ _ _).mono fun u w' hr=>⟨⟨hr.1,trivial⟩,hC.later hr.2⟩⟩
  ·simp only[m0,if_false] at hi;cases hi
 refine N8a Z Z ?_;refine y1a k0a Z (fun w1 hw=>hc.keep (hw.1.keep0 []) (by simp)) (by rfl) Z ?_;refine n0a ?_;refine N8a Z Z ?_;refine K1a (hv:=Z) (v:=.int .i64 _) Z ?_;refine n0a ?_;refine N8a Z Z ?_;refine K1a (hv:=Z) (v:=.int .i64 _) Z ?_;refine n0a ?_;refine I6b J9b Z Z Z Z Z ?_;refine N8a Z Z ?_;refine r3a e5c (vs:=[(0,.int .i64 _),(1,.agg _)]) (cs:=[_,_,_,_,_]) Z Z Z Z ?_;refine n0a ?_;refine m6a Z Z Z w6a (vs:=[.agg _]) (cs:=[_,_,_,_,_]) Z Z Z Z Z ?_;intro t0 p0 g0;refine N8a Z Z ?_;refine K1a (hv:=Z) (v:=.int .i64 _) Z ?_;refine n0a ?_;refine N8a Z Z ?_;refine r3a j1d (vs:=[(0,.int .i64 _),(1,.int .i64 _),(2,.int .i64 _),(3,.agg _),(4,.slice _ _ _),(7,.int .i64 _)]) (cs:=[_,_,_,_,_,_,_,_,_,_,_]) Z Z Z Z ?_;refine n0a ?_;refine i3b Z Z Z e6b Z ?_;intro G0 o0 f0;refine A7b ?_;rintro K0 ⟨c0,_⟩ ⟨⟨-,e0⟩,d0⟩;clear g0;replace c0:=c0.push_new S9 e0 p0;replace c0:=c0.push_more (L1:=[_]) S9 d0 o0 (by simpa[eq_comm] using f0);refine b0a (kk:=0) (vs:=[_,_,_,_,_,_,_,_,_,_,_]) c0 U6b Z Z Z Z Z Z Z ?_;intro z0 a0 s0;dsimp only[d0a,List.set] at a0;refine A0a ⟨Z,?_⟩;refine fO0 Z U (O2a k0a Z (hc.keep (a0.keep0 []) (by simp)) Z ?_);refine O2a k0a Z (hc.keep (a0.keep0 []) (by simp)) Z ?_;refine y0a a0 Q0a (vs:=[.agg _,.agg _]) (cs:=[_,_,_,_,_,_,_,_]) Z Z Z Z Z Z ?_;intro u0 H0 q0 D0 A0;refine lO0 Z U (y0a q0 Y0a (vs:=[.int .i64 _,.int .i64 _]) (cs:=[_,_]) Z Z Z Z Z Z ?_);intro v0 I0 i0 E0 B0;refine lO i0.k [.w 2] Z ⟨⟨Z,by rfl⟩,U⟩ (y0a i0 M3b (vs:=[.agg _]) (cs:=[_,_,_,_,_,_,_,_,_,_,_]) Z Z Z Z Z Z ?_);intro x0 J0 r0 F0 C0;refine i1a m0d (vs:=[(0,.string _),(1,.int .i64 _),(2,.slice _ _ _),(3,.slice _ _ _),(4,.slice _ _ _)]) (cs:=[_,_,_,_,_,_,_]) Z Z Z Z ?_;refine b0a (kk:=5) (vs:=[_,_,_,_,_,_,_]) r0 Y6a Z Z Z Z Z Z Z ?_;intro n0 b0 j0;dsimp only[d0a,List.set] at b0;refine lR0 Z U ?_;have SF:=b0;refine g0a Z S2b Z (SF.cells 5 Z) Z ⟨⟨u0,v0,x0,t0,Z,⟨SF.blk 2 Z,SF.blk 1 Z,SF.blk 0 Z,SF.blk 4 Z⟩,?_⟩,SF.fin⟩;have y0:=SF.new 4 Z;simp at y0;omega
theorem n4c(w0:World):
 O0a prog 74 #[.int .i64 13,.int .i64 1,.agg #[.int .i64 3,.int .i64 1,.int .i64 0,.slice none 0 0],.agg #[.int .i64 2,.int .i64 1,.int .i64 0,.slice none 0 0]] w0 fun u w'=>twQ u w'∧Below w0.heap.size w0 w':=by
 have S:=St.refl w0;refine a0a func74 Z ntmps74 Z ?_;refine wO0 Z U (q0a S Z ?_);intro g6 w6 S6 X6 G6;refine q0a S6 Z ?_;intro g7 w7 S7 X7 G7;refine h0a S7 r1a Z Z ?_;intro g8 w8 S8 X8 G8;refine lO S8.k [.w 2,.w 1] Z ⟨⟨Z,by rfl⟩,⟨Z,by rfl⟩,U⟩ (y0a S8 Q0a (vs:=[.agg _,.agg _]) (cs:=[_,_,_,_,_,_,_,_]) Z Z Z Z Z Z ?_);intro g0 i0 b0 f0 e0;refine i1a J2a (vs:=[(0,.int .i64 _),(1,.int .i64 _),(3,.slice _ _ _)]) (cs:=[_,_,_,_]) Z Z Z Z ?_;refine b0a (kk:=1) (vs:=[_,_,_,_]) b0 v0a Z Z Z Z Z Z Z ?_;intro d0 a0 c0;dsimp only[d0a,List.set] at a0;refine lR0 Z U (g0a Z k0a Z (a0.cells 1 Z) Z ⟨⟨_,Z,a0.blk 0 Z⟩,a0.fin⟩)
theorem N4b(wS:World):
 O0a prog 43 #[] wS fun v w'=>(∃cs gS,v=.agg cs.toArray∧C4c cs gS w'∧wS.heap.size≤gS∧o0a w' (gS,63,[.int .i64 1,.int .i64 1,.int .i64 1,.int .i64 0,.slice none 0 0]))∧Below wS.heap.size wS w':=by
 have S:=St.refl wS;refine a0a func43 Z ntmps43 Z ?_;refine wO0 Z U (h0a S G7a Z Z ?_);intro g0 w0 S0 X0 G0;refine lO0 Z U (U0a S0 X4c Z Z (f8b _) ?_);intro w3 S3 X3;refine h0a S3 r1a Z Z ?_;intro g1 w1 S1 X1 G1;refine b0a (kk:=0) (vs:=[_,_,_,_]) S1 v0a Z Z Z Z Z Z Z ?_;intro T0 a0 O0;dsimp only[d0a,List.set] at a0;refine lO0 Z U (S1a Z Z ?_);refine lC0 Z U (B6b c0a [0,1,2,3,4,5,6,7,8,9,10,11,12,13,14,15,16,17] 18 (Cl _ _ _ _) (Cl.start a0) (fun i=>if i=3 then some (85,#[.int .i64 0,.int .i64 1],eqQ (.agg #[.int .i64 3,.int .i64 1,.int .i64 0,.slice none 0 0]),noQ) else if i=4 then some (75,#[.int .i64 0,.int .i64 1],eqQ (.agg #[.int .i64 2,.int .i64 1,.int .i64 0,.slice none 0 0]),noQ) else if i=5 then some (74,#[.int .i64 13,.int .i64 1,.agg #[.int .i64 3,.int .i64 1,.int .i64 0,.slice none 0 0],.agg #[.int .i64 2,.int .i64 1,.int .i64 0,.slice none 0 0]],Z7c,twQ) else if i=13 then some (84,#[.string ⟨#[116]⟩,.int .i64 0,.int .i64 0,.int .i64 1,.pointer (some ⟨g1,0,none⟩)],H3c,thQ wS.heap.size ⟨#[116]⟩ 0 0 1) else if i=15 then some (84,#[.string ⟨#[117]⟩,.int .i64 1,.int .i64 1,.int .i64 0,.pointer (some ⟨g1,0,none⟩)],H3c,thQ wS.heap.size ⟨#[117]⟩ 1 1 0) else none) ?_ _ Z ?_)
 ·intro i f a Qp Qw hi;by_cases D0:i=3
  ·subst D0;cases hi;exact⟨⟨_,Z⟩,fun _ _ _ _ _=>trivial,fun w hC=>(Q4c _ _ _).mono fun u w' hr=>⟨⟨hr.1,trivial⟩,hC.later hr.2⟩⟩
  by_cases E0:i=4
  ·subst E0;cases hi;exact⟨⟨_,Z⟩,fun _ _ _ _ _=>trivial,fun w hC=>(U9b _ _ _).mono fun u w' hr=>⟨⟨hr.1,trivial⟩,hC.later hr.2⟩⟩
  by_cases F0:i=5
  ·subst F0;cases hi;exact⟨C8b,Y2c,fun w hC=>(n4c w).mono (fun u w' hr=>⟨⟨e6c hr.1,hr.1⟩,hC.later hr.2⟩)⟩
  by_cases i0:i=13
  ·subst i0;cases hi;exact⟨n1b,s7b _ _ _ _ _,fun w hC=>(D9a wS.heap.size ⟨#[116]⟩ 0 0 1 g1 w hC.1.size (hC.1.cells 0 Z)).mono (fun u w' hr=>⟨⟨Q0c hr.1,hr.1⟩,hC.later hr.2⟩)⟩
  by_cases j0:i=15
  ·subst j0;cases hi;exact⟨n1b,s7b _ _ _ _ _,fun w hC=>(D9a wS.heap.size ⟨#[117]⟩ 1 1 0 g1 w hC.1.size (hC.1.cells 0 Z)).mono (fun u w' hr=>⟨⟨Q0c hr.1,hr.1⟩,hC.later hr.2⟩)⟩
  ·simp only[D0,E0,F0,i0,j0,if_false] at hi;cases hi
 refine N8a Z Z ?_;refine r3a P5c (vs:=[(0,.string _),(1,.int .i64 _),(3,.int .i64 _)]) (cs:=[_,_,_,_,_,_]) Z Z Z Z ?_;refine n0a ?_;refine N8a Z Z ?_;refine r3a P5c (vs:=[(0,.string _),(1,.int .i64 _),(3,.int .i64 _)]) (cs:=[_,_,_,_,_,_]) Z Z Z Z ?_;refine n0a ?_;refine m6a Z Z Z z3a (vs:=[.agg _,.agg _]) (cs:=[_,_,_,_,_,_,_,_,_,_,_,_]) Z Z Z Z Z ?_;intro g7 G7 R0;refine I6b B1d Z Z Z Z Z ?_;refine I6b b0d Z Z Z Z Z ?_;refine d9a (caps:=#[]) w0d Z Z Z Z Z Z ?_;rintro Z0 ⟨_,_,_,_,rfl⟩;refine m6a Z Z Z Y0a (vs:=[.int .i64 _]) (cs:=[_]) Z Z Z Z Z ?_;intro U0 H0 v0;refine N8a Z Z ?_;refine r3a h5c (vs:=[(0,.string _),(1,.string _),(3,.agg _),(4,.slice _ _ _)]) (cs:=[_,_,_,_,_,_,_,_,_,_,_]) Z Z Z Z ?_;refine n0a ?_;refine N8a Z Z ?_;refine y1a k0a Z (fun w1 hw=>hw.1.cells 0 Z) Z Z ?_;refine n0a ?_;refine m6a Z Z Z Y0a (vs:=[.int .i64 _]) (cs:=[_]) Z Z Z Z Z ?_;intro V0 I0 x0;refine N8a Z Z ?_;refine r3a h5c (vs:=[(0,.string _),(1,.string _),(3,.agg _),(4,.slice _ _ _)]) (cs:=[_,_,_,_,_,_,_,_,_,_,_]) Z Z Z Z ?_;refine n0a ?_;refine m6a Z Z Z H8a (vs:=[.agg _,.agg _]) (cs:=[_,_,_,_,_,_,_,_,_,_,_,_,_,_,_,_,_,_,_,_,_,_]) Z Z Z Z Z ?_;intro W0 J0 y0;refine N8a Z Z ?_;refine K1a (hv:=Z) (v:=.func _ _ _) Z ?_;refine n0a ?_;refine d9a (caps:=#[.pointer (some ⟨g1,0,none⟩)]) i5c Z Z Z Z Z Z ?_;rintro c1 ⟨_,a1,a2,a3,a4,_,_,rfl⟩;refine N8a Z Z ?_;refine K1a (hv:=Z) (v:=.func _ _ _) Z ?_;refine n0a ?_;refine d9a (caps:=#[.pointer (some ⟨g1,0,none⟩)]) i5c Z Z Z Z Z Z ?_;rintro d1 ⟨b0,b1,b2,b3,b4,_,_,rfl⟩;refine m6a Z Z Z v8a (vs:=[.agg _,.agg _]) (cs:=[_,_,_,_,_,_,_,_,_,_,_,_,_,_]) Z Z Z Z Z ?_;intro Y0 K0 z0;refine N8a Z Z ?_;refine r3a G2c (vs:=[(0,.slice _ _ _),(1,.slice _ _ _),(3,.slice _ _ _)]) (cs:=[_,_,_,_]) Z Z Z Z ?_;refine n0a ?_;refine A7b ?_;rintro n0 ⟨c0,_⟩ ⟨⟨⟨⟨⟨⟨⟨⟨-,P0⟩,s0⟩,o0⟩,p0⟩,q0⟩,t0⟩,u0⟩,r0⟩;have e0:=z0a.refl [g0] n0;have L0:=z0a.refl [g0] n0;have N0:=z0a.refl [g0] n0;clear R0;replace c0:=c0.push_new a0 P0 G7;replace c0:=c0.push_more (L1:=[_]) a0 o0 H0 (by simpa[eq_comm] using v0);replace c0:=c0.push_more (L1:=[_,_]) a0 p0 I0 (by simpa[eq_comm] using x0);replace c0:=c0.push_more (L1:=[_,_,_]) a0 q0 J0 (by simpa[eq_comm] using y0);replace c0:=c0.push_more (L1:=[_,_,_,_]) a0 r0 K0 (by simpa[eq_comm] using z0);refine b0a (kk:=6) (vs:=[_,_,_,_]) c0 s6a Z Z Z Z Z Z Z ?_;intro m0 d0 f0;dsimp only[d0a,List.set] at d0;replace e0:=e0.fresh2 f0 (by first  | exact .inr (by simp));refine A0a ⟨Z,?_⟩;refine fR0 Z U ?_;have SF:=d0;obtain⟨_,C0,hk⟩:=s0;obtain⟨_,_,_,_,A0,hA,-⟩:=t0;obtain⟨_,_,_,gS,B0,hB,Q0⟩:=u0;simp only[twC,thC,Value.agg.injEq,List.toArray_eq_iff,List.cons.injEq,and_true] at C0 A0 B0;obtain⟨rfl,rfl,rfl,rfl⟩:=C0;obtain⟨rfl,rfl,rfl,rfl,rfl,rfl,rfl⟩:=A0;obtain⟨rfl,rfl,rfl,rfl,rfl,rfl,rfl⟩:=B0;have b0:o0a n0 (g0,27,_):=c0.blk 6 Z;have kk:∀{g t:Nat} {cs:List Value},t≠27→o0a n0 (g,t,cs)→o0a m0 (g,t,cs):=fun ht h=>E4b e0 (by rw[List.mem_singleton];exact E5c h b0 ht) h;obtain⟨a1,a2,a3,a4⟩:=hA;obtain⟨b1,b2,b3,b4⟩:=hB;exact g0a Z G3a Z (SF.cells 6 Z) Z ⟨⟨_,gS,Z,⟨_,_,_,_,_,_,_,_,_,_,_,_,_,Z,SF.blk 4 Z,kk (by decide) hk,SF.blk 3 Z,SF.blk 2 Z,SF.blk 1 Z,⟨kk (by decide) a1,kk (by decide) a2,kk (by decide) a3,kk (by decide) a4⟩,kk (by decide) b1,kk (by decide) b2,kk (by decide) b3,SF.blk 0 Z⟩,Q0,kk (by decide) b4⟩,SF.fin⟩
theorem N7a{B g t n:Nat}{w:World}{vb:Value}{bs:List Value}(h:w.ownsRow B t 1 vb n bs):∀x∈g::vb.ownBlock.toList,x=g∨B≤x:=fun x hx=>by
 rcases List.mem_cons.1 hx with h1|h1
 ·exact .inl h1
 ·cases hv:vb.ownBlock with
  | none=>rw[hv] at h1;simp at h1
  | some y =>
    rw[hv] at h1;simp at h1;subst h1;exact .inr (o7a h hv).1
theorem m5a{B t n:Nat}{w:World}{vb:Value}{bs:List Value}{a l:List UInt8}(h:w.ownsRow B t 1 vb (n+a.length+(r6a l).size) (bs++Lib.byteCells a++Lib.strCells (r6a l))):w.ownsRow B t 1 vb (n+(a++l).length) (bs++Lib.byteCells (a++l)):=by
 rw[U2a,Nat.add_assoc,←List.length_append] at h;have e:bs++Lib.byteCells a++Lib.strCells (r6a l)=bs++Lib.byteCells (a++l):=by
  rw[List.append_assoc]
  congr 1
  show Lib.byteCells a++Lib.byteCells l=_
  simp[Lib.byteCells]
 rw[e] at h;exact h
theorem C7c{B t n:Nat}{w:World}{vb:Value}{bs:List Value}{a l:List UInt8}(h:w.ownsRow B t 1 vb (n+a.length+l.length) (bs++Lib.byteCells a++Lib.byteCells l)):w.ownsRow B t 1 vb (n+(a++l).length) (bs++Lib.byteCells (a++l)) :=
 m5a (by rw[U2a];exact h)
theorem B2b{B t n:Nat}{w:World}{vb:Value}{bs:List Value}(h:w.ownsRow B t 1 vb n bs):w.ownsRow B t 1 vb (n+([]:List UInt8).length) (bs++Lib.byteCells []):=by
 have e:bs++Lib.byteCells []=bs:=by simp[Lib.byteCells]
 rw[e];exact h
theorem p3c:∀(e:E) (B g gw:Nat) (w0:World) (b o:Nat) (pv vb:Value) (n:Nat) (bs:List Value),g<B→gw<B→gw≠g→B≤w0.heap.size→RB B g w0 e b o→NB B g w0 →
 w0.cell? ⟨gw,0,none⟩=some (.func (.func 86) #[] #[.pointer (some ⟨g,0,none⟩),.pointer (some ⟨gw,0,none⟩)])→(pv=.pointer none∨pv=.pointer (some ⟨g,0,none⟩)) →
 o0a w0 (g,148,[pv,vb])→w0.ownsRow B 5 1 vb n bs→e.txB=true→n+e.txt.length≤900000 →
 O0a prog 86 #[.pointer (some ⟨b,o,none⟩),.pointer (some ⟨g,0,none⟩),.pointer (some ⟨gw,0,none⟩)] w0 fun _ w' =>
  (∃i1,o0a w' (g,148,[.pointer (some ⟨g,0,none⟩),i1])∧w'.ownsRow B 5 1 i1 (n+e.txt.length) (bs++Lib.byteCells e.txt))∧BX B g w0 w':=by
 intro e
 induction e using E.induct with
 | _ e ih =>
 intro B g gw w0 b o pv vb n bs y0 A1 B1 hB hE hN a1 J0 U0 r0 K0 n0;obtain⟨j0,_,_,_,c0,c1,c2,_,nk,_,c3,hn,_,_,_,-,-⟩:=(hE (MB B g w0) s1d).open_;have f1:gw∉MB B g w0:=fun h=>by rcases m7a.1 h with h|h<;>omega
 have Y0:=hN (MB B g w0) s1d;have S:St (MB B g w0) w0 w0 [(some g,148,[pv,vb])]:=(St.reflM _ w0).push U0 (.inr (m7a.2 (.inl Z))) (by simp);have V0:=fun k hk=>hE.kid c3 hn k hk;by_cases s0:e.op=1∨e.op=2∨e.op=3;refine a0a func86 Z ntmps86 Z ?_;refine wO0 Z U (J0a B0a Z (by exact S.oldM j0 c0) Z ?_);refine lB0 Z U (fun O0=>?_) fun O0=>?_
 ·obtain⟨t0,u0,v0,x0⟩:=E.txB_leaf s0 K0;have KC:=z0a.refl [] w0;have l1:=c3b e.op;have l2:=d6a t0 u0;have l3:=d6a v0 x0;have o0:=E.txt_leaf s0;rw[o0] at n0;simp only[List.length_append,List.length_cons,List.length_nil] at n0;refine lC0 Z U (H0a c0a [0,1,2,3,4,5,6,7,8,9,10,11,12,13,14,15,16,17] [] [18] Z (Cl _ _ _ _) (Cl.start S) ?_);refine qO0 Z U (m0a B0a Z (fun w1 hw=>by exact hw.1.oldM j0 c0) Z ?_);refine X1a g2c Z Z (fun w1 S1 X1=>y0b e.op _) ?_;refine qO0 Z U (m0a B0a Z (fun w1 hw=>by exact hw.1.oldM j0 c2) Z ?_);refine X1a q1b Z Z (fun w1 S1 X1=>e6a e.n t0 u0 _) ?_;refine V6a Z Z (by omega) Z ?_;refine V6a (b:=[58]) Z Z (by simp;omega) Z ?_;refine qO0 Z U (m0a B0a Z (fun w1 hw=>by exact hw.1.oldM j0 c1) Z ?_);refine X1a q1b Z Z (fun w1 S1 X1=>e6a e.w v0 x0 _) ?_;refine V6a Z Z (by simp;omega) Z ?_;refine qD Z U ?_;rintro m1 ⟨i0,C0⟩;replace KC:=KC.trans C0;have d0:=Z1a (B2b r0) KC;refine V1a C1b Z Z (C2a B g y0 pv vb J0 _ _ (r6a (T1c e.op++G8b e.n++[58]++G8b e.w)) _ (Nat.le_trans hB i0.size) (i0.blk 0 Z) d0 (by rw[U2a];simp;omega)) ?_;rintro g1 j1 ⟨⟨q0,b0,a0⟩,A0⟩;have B0:=St.wrote i0 (BX.ofB A0 (N7a d0) (Nat.le_trans hB i0.size)) b0;refine lR0 Z U (H1a Z ?_);rw[o0];exact⟨⟨q0,b0,by simpa using m5a a0⟩,B0.bx hB⟩
 refine lB0 Z U (fun P0=>?_) fun P0=>?_
 ·obtain⟨t0,u0,v0,x0⟩:=E.txB_leaf s0 K0;have KC:=z0a.refl [] w0;have l1:=c3b e.op;have l2:=d6a t0 u0;have l3:=d6a v0 x0;have o0:=E.txt_leaf s0;rw[o0] at n0;simp only[List.length_append,List.length_cons,List.length_nil] at n0;refine lC0 Z U (H0a c0a [0,1,2,3,4,5,6,7,8,9,10,11,12,13,14,15,16,17] [] [18] Z (Cl _ _ _ _) (Cl.start S) ?_);refine qO0 Z U (m0a B0a Z (fun w1 hw=>by exact hw.1.oldM j0 c0) Z ?_);refine X1a g2c Z Z (fun w1 S1 X1=>y0b e.op _) ?_;refine qO0 Z U (m0a B0a Z (fun w1 hw=>by exact hw.1.oldM j0 c2) Z ?_);refine X1a q1b Z Z (fun w1 S1 X1=>e6a e.n t0 u0 _) ?_;refine V6a Z Z (by omega) Z ?_;refine V6a (b:=[58]) Z Z (by simp;omega) Z ?_;refine qO0 Z U (m0a B0a Z (fun w1 hw=>by exact hw.1.oldM j0 c1) Z ?_);refine X1a q1b Z Z (fun w1 S1 X1=>e6a e.w v0 x0 _) ?_;refine V6a Z Z (by simp;omega) Z ?_;refine qD Z U ?_;rintro m1 ⟨i0,C0⟩;replace KC:=KC.trans C0;have d0:=Z1a (B2b r0) KC;refine V1a C1b Z Z (C2a B g y0 pv vb J0 _ _ (r6a (T1c e.op++G8b e.n++[58]++G8b e.w)) _ (Nat.le_trans hB i0.size) (i0.blk 0 Z) d0 (by rw[U2a];simp;omega)) ?_;rintro g1 j1 ⟨⟨q0,b0,a0⟩,A0⟩;have B0:=St.wrote i0 (BX.ofB A0 (N7a d0) (Nat.le_trans hB i0.size)) b0;refine lR0 Z U (H1a Z ?_);rw[o0];exact⟨⟨q0,b0,by simpa using m5a a0⟩,B0.bx hB⟩
 refine lB0 Z U (fun Q0=>?_) (fun Q0=>by exfalso;omega);obtain⟨t0,u0,v0,x0⟩:=E.txB_leaf s0 K0;have KC:=z0a.refl [] w0;have l1:=c3b e.op;have l2:=d6a t0 u0;have l3:=d6a v0 x0;have o0:=E.txt_leaf s0;rw[o0] at n0;simp only[List.length_append,List.length_cons,List.length_nil] at n0;refine lC0 Z U (H0a c0a [0,1,2,3,4,5,6,7,8,9,10,11,12,13,14,15,16,17] [] [18] Z (Cl _ _ _ _) (Cl.start S) ?_);refine qO0 Z U (m0a B0a Z (fun w1 hw=>by exact hw.1.oldM j0 c0) Z ?_);refine X1a g2c Z Z (fun w1 S1 X1=>y0b e.op _) ?_;refine qO0 Z U (m0a B0a Z (fun w1 hw=>by exact hw.1.oldM j0 c2) Z ?_);refine X1a q1b Z Z (fun w1 S1 X1=>e6a e.n t0 u0 _) ?_;refine V6a Z Z (by omega) Z ?_;refine V6a (b:=[58]) Z Z (by simp;omega) Z ?_;refine qO0 Z U (m0a B0a Z (fun w1 hw=>by exact hw.1.oldM j0 c1) Z ?_);refine X1a q1b Z Z (fun w1 S1 X1=>e6a e.w v0 x0 _) ?_;refine V6a Z Z (by simp;omega) Z ?_;refine qD Z U ?_;rintro m1 ⟨i0,C0⟩;replace KC:=KC.trans C0;have d0:=Z1a (B2b r0) KC;refine V1a C1b Z Z (C2a B g y0 pv vb J0 _ _ (r6a (T1c e.op++G8b e.n++[58]++G8b e.w)) _ (Nat.le_trans hB i0.size) (i0.blk 0 Z) d0 (by rw[U2a];simp;omega)) ?_;rintro g1 j1 ⟨⟨q0,b0,a0⟩,A0⟩;have B0:=St.wrote i0 (BX.ofB A0 (N7a d0) (Nat.le_trans hB i0.size)) b0;refine lR0 Z U (H1a Z ?_);rw[o0];exact⟨⟨q0,b0,by simpa using m5a a0⟩,B0.bx hB⟩;refine a0a func86 Z ntmps86 Z ?_;refine wO0 Z U (J0a B0a Z (by exact S.oldM j0 c0) Z ?_);refine lB0 Z U (fun O0=>by exfalso;omega) fun O0=>?_;refine lB0 Z U (fun P0=>by exfalso;omega) fun P0=>?_;refine lB0 Z U (fun Q0=>by exfalso;omega) fun Q0=>?_;obtain⟨_,x1⟩:=E.txB_node s0 K0;have o0:=E.txt_node s0;obtain⟨nm,b1⟩:∃x,x=Q1b.getD (e.op-4).toNat []:=⟨_,Z⟩;rw[←b1] at o0;have v1:(e.op-4).toNat<Q1b.length:=by show _<11;omega
 have y1:Q1b[(e.op-4).toNat]?=some nm:=by rw[b1,List.getD_eq_getElem?_getD,List.getElem?_eq_getElem v1];rfl
 have cN:=Y0.2 _ _ y1;have H1:e.txt.length=nm.length+(E.txts e.kids 40).length+1:=by rw[o0];simp;omega
 refine lO0 Z U (J0a B0a Z (by exact S.oldM j0 c0) Z ?_);refine lO0 Z ⟨by omega,U⟩ (A3a d6c Z Z Z ?_);refine J0a t2d Z (S.oldM Y0.1 (by simpa using cN)) Z ?_;have E0:=B2b r0;refine V1a C1b Z Z (C2a B g y0 pv vb J0 _ _ (r6a nm) _ (Nat.le_trans hB S.size) (S.blk 0 Z) E0 (by rw[U2a];simp;omega)) ?_;rintro I1 D1 ⟨⟨q0,R0,e0⟩,n1⟩;have X0:=St.wrote S (BX.ofB n1 (N7a E0) (Nat.le_trans hB S.size)) R0;have e0:=m5a e0;have KD:=z0a.refl [] D1;refine lO0 Z U (J0a n1a Z (by exact X0.oldM j0 c3) Z ?_);refine lC0 Z U (wL (fun μk D ε w=>D=[]∧∃k:Nat,∃I0:Value,(k+μk=(e.kids.length))∧(w.ownsRow B 5 1 I0 (n+(nm++E.txts (e.kids.take k) 40).length) (bs++Lib.byteCells (nm++E.txts (e.kids.take k) 40)))∧St (MB B g w0) w0 w [(some g,148,[.pointer (some ⟨g,0,none⟩),I0])]∧Sl ε [(0,.pointer (some ⟨b,o,none⟩)),(1,.pointer (some ⟨g,0,none⟩)),(2,.pointer (some ⟨gw,0,none⟩)),(4,.string (r6a (if k=0 then[40] else[44]))),(45,.int .i64 nk),(46,.int .i64 k)]) (μ:=(e.kids.length)) ⟨Z,0,_,by omega,(by simpa[E.txts] using Z1a e0 KD),X0,Z⟩ ?_);rintro μk D ε w ⟨rfl,k,I0,hk,p0,S,eZ⟩;refine wK eZ ?_;have KL:=z0a.refl [] w;refine wB0 Z U (fun u1=>?_) fun u1=>?_
 ·refine lO0 Z U ?_;obtain⟨x,H0⟩:∃x,e.kids[k]?=some x:=⟨e.kids[k]'(by omega),List.getElem?_eq_getElem _⟩;have z1:=E.txts_pre e.kids 40 (k+1);rw[E.txts_take 40 H0,List.length_append,List.length_cons] at z1;have d1:(if k=0 then[(40:UInt8)] else[44]).length=1:=by split<;>rfl
  have F0:=Z1a p0 KL;refine V1a C1b Z Z (C2a B g y0 _ I0 (.inr Z) _ _ (r6a (if k=0 then[40] else[44])) _ (Nat.le_trans hB S.size) (S.blk 0 Z) F0 (by rw[U2a,d1,List.length_append];omega)) ?_;rintro v50 E1 ⟨⟨q0,S0,f0⟩,o1⟩;have r1:=St.wrote S (BX.ofB o1 (N7a F0) (Nat.le_trans hB S.size)) S0;have f0:=m5a f0;have L0:=z0a.refl [] E1;obtain⟨bk,ok,_,Z0⟩:=V0 k (by omega);have C1:e.kids[k]'(by omega)=x:=by have:=List.getElem?_eq_getElem (l:=e.kids) (i:=k) (by omega);rw[H0] at this;exact(Option.some.inj this).symm
  rw[C1] at Z0;refine lC0 Z U (H0a c0a [0,1,2,3,4,5,6] [] [7] Z (Cl _ _ _ _) (Cl.start r1) ?_);refine m0a u1c Z (fun w1 hw=>by exact hw.1.oldM f1 a1) Z ?_;refine qO0 Z U (m0a n1a Z (fun w1 hw=>by exact hw.1.oldM j0 c3) Z ?_);refine qO0 Z U (s0a Q0a.slT Z (by assumption) Z Z ?_);refine qD Z U ?_;rintro G1 ⟨m0,N0⟩;replace L0:=L0.trans N0;have W0:=Z1a f0 L0;refine H6a a6c Z Z Z (ih x (List.mem_of_getElem? H0) B g gw _ bk (ok+k*4) _ q0 _ _ y0 A1 B1 (Nat.le_trans hB m0.size) (Z0.keep m0.keepM) (hN.keep m0.keepM) (m0.oldM f1 a1) (.inr Z) (m0.blk 0 Z) W0 (x1 x (List.mem_of_getElem? H0)) (by rw[List.length_append,List.length_append,d1];omega)) ?_;rintro J1 F1 ⟨⟨_,T0,z0⟩,p1⟩;have s1:=St.wrote m0 p1 T0;have KQ:=z0a.refl [] F1;refine lP0 Z ⟨by omega,U⟩ ⟨μk-1,by omega,Z,(k+1),(_),(by omega),?_,s1,Z⟩;rw[E.txts_take 40 H0];have z:=Z1a z0 KQ;have e1:nm++(E.txts (e.kids.take k) 40++((if k=0 then 40 else 44)::x.txt))=nm++E.txts (e.kids.take k) 40++(if k=0 then[40] else[44])++x.txt:=by split<;>simp
  rw[e1];exact C7c z
 refine lO0 Z U ?_;obtain rfl:k=e.kids.length:=by omega
 rw[List.take_length] at p0;have G0:=Z1a p0 KL;refine V1a C1b Z Z (C2a B g y0 _ I0 (.inr Z) _ _ (r6a [41]) _ (Nat.le_trans hB S.size) (S.blk 0 Z) G0 (by rw[U2a,List.length_append];simp;omega)) ?_;rintro K1 M1 ⟨⟨q0,D0,g0⟩,q1⟩;have t1:=St.wrote S (BX.ofB q1 (N7a G0) (Nat.le_trans hB S.size)) D0;have g0:=m5a g0;refine lF0 Z U (H1a Z ?_);rw[o0];exact⟨⟨q0,D0,g0⟩,t1.bx hB⟩
theorem a3b{w:World}{B C e n:Nat}{v:Value}{xs:List Value}(h:w.ownsRow B e 1 v n xs)(hc:C≤B):w.ownsRow C e 1 v n xs:=by
 obtain⟨h1,h2⟩:=h;refine⟨h1,h2.imp id ?_⟩;rintro⟨g,a0,b0,q1,q2,q3⟩;exact⟨g,a0,b0,q1,Nat.le_trans hc q2,q3⟩
theorem N7b(e:E)(w0:World)(cs:List Value)(hR:RdE [] w0 e cs)(hK:f2a [] w0)(hN:D7a [] w0)(y0:e.wf=true)(x0:e.txB=true)(u0:e.txt.length≤800000):
 O0a prog 44 #[.agg cs.toArray] w0 fun v w'=>v=.string (r6a e.txt)∧Below w0.heap.size w0 w':=by
 obtain⟨_,_,_,rfl,-⟩:=hR.open_;have S:=St.refl w0;refine a0a func44 Z ntmps44 Z ?_;refine wO0 Z U (q0a S Z ?_);intro g1 w1 S1 X1 G1;refine lO S1.k [.w 0] Z ⟨⟨Z,Z⟩,U⟩ (U0a S1 t8a Z Z (d7a (k2a e [] _ _ (RdE.keep (S1.keep0 []) _ _ hR) (hK.keep (S1.keep0 []))) y0) ?_);intro w6 S6 X6;refine lO0 Z U (h0a S6 O1d Z Z ?_);intro g3 w3 S3 X3 G3;refine lO0 Z U (h0a S3 k0d Z Z ?_);intro g4 w4 S4 X4 G4;refine lO0 Z U (S1a Z Z ?_);refine T0a (kk:=0) S4 J1d Z Z Z (by exact Nat.le_of_ble_eq_true Z) ?_;intro b0 a0 p0;refine lO a0.k [.o 0] Z ⟨Z,U⟩ ?_;have f0:∀M:List Nat,(∀x∈M,x=g3∨b0.heap.size≤x)→∀g∈M,g∈([]:List Nat)∨w0.heap.size≤g:=fun M hM g hg=>.inr (by
  rcases hM g hg with rfl|h
  ·simpa using a0.new 1 Z
  ·have:=a0.size;omega)
 have s0:RB b0.heap.size g3 b0 e g1 0:=fun M hM=>⟨fun hh=>by
  rcases hM g1 hh with h|h
  ·exact a0.ne 1 2 Z Z (by decide) h.symm
  ·have:=a0.lt 2 Z;omega,_,a0.cells 2 Z,RdE.keep (a0.keep0 M) _ _ (RdE.more (f0 M hM) _ _ hR)⟩
 have r0:NB b0.heap.size g3 b0:=fun M hM=>(hN.more (f0 M hM)).keep (a0.keep0 M);have g0:b0.ownsRow b0.heap.size 5 1 (.slice none 0 0) 0 []:=⟨Z,.inl ⟨Z,Z⟩⟩;refine H6a a6c Z Z Z (p3c e b0.heap.size g3 g4 b0 g1 0 (.pointer none) (.slice none 0 0) 0 [] (a0.lt 1 Z) (a0.lt 0 Z) (a0.ne 0 1 Z Z (by decide)) (Nat.le_refl _) s0 r0 (a0.cell 0 Z Z) (.inl Z) (a0.blk 1 Z) g0 x0 (by omega)) ?_;have t0:=a0.size;rintro z0 i0 ⟨⟨vb,m0,c0⟩,e0⟩;have o0:C0a [g3] b0 i0:=⟨e0.os,e0.tape,e0.output,e0.size,fun k h1 h2=>e0.block k h1 fun h=>h2 (by rw[h];simp)⟩;have d0:=a0.changed1 1 Z o0 m0;dsimp only[List.set] at d0;refine lO0 Z U ?_;have q0:Lib.IsBuilder 148 5 w0.heap.size g3 (Lib.byteCells e.txt) i0:=by
  have n0:i0.heap[g3]?=some (.cells #[.pointer (some ⟨g3,0,none⟩),vb] 148 (0,0)):=d0.blk 1 Z;have v0:vb.ownBlock≠some g3:=Lib.ownBlock_ne c0 n0 (by decide);have hz:=a3b c0 t0;rw[Nat.zero_add,List.nil_append] at hz;exact .inr ⟨by simpa using d0.new 1 Z,vb,n0,by rw[Lib.byteCells_length];exact hz,v0⟩
 refine V1a (R:=fun v w'=>v=.string (r6a e.txt)∧Below w0.heap.size i0 w') r2d Z Z (Calls.mono (Tryz.Builder_String_any w0.heap.size g3 e.txt i0 q0 d0.size) (fun e w' h=>⟨_,h.1,Z,h.2⟩)) ?_;rintro A0 B0 ⟨rfl,j0⟩;exact lT Z U Z ⟨Z,d0.fin.trans j0⟩
theorem Clo.inv{R Q:Nat→Nat→Prop}{n x y:Nat}(h:Clo R n x y)(hr:∀x,Q x x)(ht:∀x y z,Q x y→R y z→Q x z):Q x y:=by
 induction h with
 | refl h=>exact hr _
 | tail h h2 h3 ih=>exact ht _ _ _ ih h2
theorem O4c:(X6a e3a 0 (e2a e3a)).length=2:=by kernel_rfl
theorem a7c(e:E):c5a (Z0b e):=by
 obtain⟨h1,h2,h3⟩:=L1a.named D2b;refine⟨h1,h2,fun t ht=>?_⟩;simp only[Z0b,List.mem_cons,List.not_mem_nil,or_false] at ht;rcases ht with rfl|rfl
 ·exact h3 _ List.mem_cons_self
 ·exact h3 (b4a ⟨#[117]⟩ 1 1 (q9b 1 0)) (List.mem_cons_of_mem _ List.mem_cons_self)
theorem D4c:H2b (e2a e3a):=fun b hb=>by
 obtain⟨_,-,rfl⟩:=List.mem_map.1 hb;rfl
theorem p0c(M:List Nat)(w0:World)(va vb:Value)(a b:List Int)(ha:RdI M w0 va a)(hb:RdI M w0 vb b):
 O0a prog 45 #[va,vb] w0 fun v w'=>v=.bool (decide (a=b))∧Below w0.heap.size w0 w':=by
 obtain⟨Aa,na,ca,rfl⟩:=ha.form;obtain⟨_,-,-,_,f0⟩:=ha.at;obtain⟨Ab,nb,cb,rfl⟩:=hb.form;obtain⟨_,-,-,_,g0⟩:=hb.at;have S:=St.refl w0;refine a0a func45 Z ntmps45 Z ?_;refine wB0 Z U (fun q0=>?_) fun q0=>?_
 ·refine lT Z U Z ⟨congrArg Value.bool ?_,S.fin⟩;exact(decide_eq_false (fun h=>by subst h;omega)).symm
 refine lC0 Z U (wL (fun μ D ε w=>D=[]∧∃k:Nat,(k+μ=a.length)∧(∀j:Nat,j<k→a[j]?=b[j]?)∧St [] w0 w []∧ε 0=.slice Aa na ca∧ε 1=.slice Ab nb cb∧ε 5=.int .i64 k) (μ:=a.length) ⟨Z,0,by omega,fun j h=>absurd h (by omega),S,Z,Z,Z⟩ ?_);rintro μ D ε w ⟨rfl,k,_,hs,S,e0,e1,e5⟩;refine r0a 0 e0 (r0a 1 e1 (r0a 5 e5 ?_));clear e0 e1 e5;refine wB0 Z U (fun r0=>?_) fun r0=>?_
 ·have o0:k<a.length:=by omega
  have a0:k<b.length:=by omega
  obtain⟨ba,oa,_,_,c0⟩:=f0 (by omega);obtain⟨_,-,i0,j0⟩:=c0 k a[k] (List.getElem?_eq_getElem o0);have t0:w0.cell? ⟨ba,oa+k*1,none⟩=some (.int .i64 a[k]):=i0 0 _ (by rw[j0.1];rfl);obtain⟨bb,ob,_,_,d0⟩:=g0 (by omega);obtain⟨_,-,m0,n0⟩:=d0 k b[k] (List.getElem?_eq_getElem a0);have u0:w0.cell? ⟨bb,ob+k*1,none⟩=some (.int .i64 b[k]):=m0 0 _ (by rw[n0.1];rfl);refine lC0 Z U (H0a c0a [0,1,2,3,4,5,6,7,8] [] [] Z (Cl _ _ _ _) (Cl.start S) ?_);refine qO0 Z U (s0a Y0a.slT Z (by assumption) Z Z ?_);refine m0a B0a Z (fun w1 hw=>by exact hw.1.old t0) Z ?_;refine qO0 Z U (s0a Y0a.slT Z (by assumption) Z Z ?_);refine m0a B0a Z (fun w1 hw=>by exact hw.1.old u0) Z ?_;refine qB0 Z U (fun s0=>?_) fun s0=>?_
  ·refine qD Z U ?_;rintro x0 ⟨b0,p0⟩;refine lT Z U Z ⟨congrArg Value.bool ?_,b0.fin⟩;exact(decide_eq_false (fun h=>by subst h;omega)).symm
  refine qD Z U ?_;rintro x0 ⟨b0,p0⟩;refine lP0 Z ⟨by omega,U⟩ ⟨μ-1,by omega,Z,k+1,by omega,fun j hj=>?_,b0,Z,Z,Z⟩;by_cases v0:j=k
  ·subst v0;rw[List.getElem?_eq_getElem o0,List.getElem?_eq_getElem a0];exact congrArg some (by omega)
  ·exact hs j (by omega)
 refine lT Z U Z ⟨congrArg Value.bool ?_,S.fin⟩;exact(decide_eq_true (List.ext_getElem? (fun j=>by
  by_cases hj:j<k
  ·exact hs j hj
  ·rw[List.getElem?_eq_none (by omega),List.getElem?_eq_none (by omega)]))).symm
theorem J0c(wS:World)(hK:f2a [] wS)(hN:D7a [] wS):
 O0a prog 15 #[] wS fun v w'=>v=.bool true∧Below wS.heap.size wS w':=by
 have S:=St.refl wS;have i0:i64 0:=by unfold i64;omega
 have i1:i64 1:=by unfold i64;omega
 have i2:i64 2:=by unfold i64;omega
 refine a0a func15 Z ntmps15 Z ?_;refine wO0 Z U ?_;have Sb:=S;refine p0a S E1d Z Z (N4b _) ?_;rintro q3 o2 ⟨cs,_,rfl,hE,I2,m2⟩ R1 m3;have n1:=R1.push_new Sb m2 I2;have T2:=hE.rd m2 (e:=q9b 1 0) (P1a i1 i1 i0);have G2:=hE;obtain⟨_,_,_,_,_,_,_,_,_,_,_,_,_,rfl,-⟩:=G2;have a0:=z0a.refl [] o2;have hI:InP e3a [] o2 _:=⟨T2,D2b,hK.keep (R1.keep0 []),by simp⟩;refine h0a n1 G7a Z Z ?_;intro g1 w1 S1 X1 G1;have L0:=Nat.le_trans a0.size G1;replace a0:=a0.trans X1;refine b0a (kk:=0) (vs:=[_,_,_,_]) S1 s6a Z Z Z Z Z Z Z ?_;intro Z2 C0 q1;dsimp only[d0a,List.set] at C0;replace a0:=a0.fresh q1 (by first|exact L0);refine lO C0.k [.w 0] Z ⟨⟨Z,by rfl⟩,U⟩ (U0a C0 C4b Z Z (q7a e3a [] _ _ (hI.keep a0).rd D2b (hI.keep a0).msk (by simp)) ?_);intro Q1 T1 v2;replace a0:=a0.trans v2;refine lC0 Z U (B1b c0a (fun i=>[0,1,2,3,6,7,8,9,10,14,15,16].contains i) (.op 0 (.op 1 (.op 2 (.op 3 (.op 4 (.op 5 (.op 6 (.op 7 (.op 8 (.op 9 (.op 10 (.op 11 (.op 12 (.op 13 (.op 14 (.op 15 (.op 16 .nil))))))))))))))))) (d9c T1) ?_);have G0:=T1.drew;have u0:z0a [] Q1 Q1.drew:=B2a _ _;generalize Q1.drew=G3 at G0 u0 ⊢;replace a0:=a0.trans u0;refine J1a ⟨G0,u0⟩ Z Z Z ?_;refine K1a (hv:=Z) (v:=.int .i64 _) Z ?_;refine n0a ?_;refine J1a ⟨G0,u0⟩ Z Z Z ?_;refine h2c Z Z Z (fun y2=>?_) fun y2=>?_
 ·refine n0a ?_;refine J1a ⟨G0,u0⟩ Z Z Z ?_;refine K1a (hv:=Z) (v:=.bool _) Z ?_;refine n0a ?_;refine J1a ⟨G0,u0⟩ Z Z Z ?_;refine c2a Z Z ?_;refine y1a G3a Z (fun w1 hw=>hw.1.cells 0 Z) Z Z ?_;refine n0a ?_;refine H2a ⟨G0,u0⟩ Z Z Z ?_;refine k5a Z Z Z ?_;refine p0a G0 R5c Z Z (i1b e3a [] _ _ (hI.keep a0)) ?_;rintro r3 y3 ⟨_,f2,M1,H1,-⟩ s0 a2;have e0:=u0.trans a2;replace a0:=a0.trans a2;obtain rfl:=F8c M1 H1;obtain⟨_,P2,_,rfl⟩:=f2.form;have L2:P2=2:=f2.len.1;refine A0a ⟨Z,?_⟩;refine H2a ⟨s0,e0⟩ Z Z Z ?_;refine k5a Z Z Z ?_;refine B8c E8a.slT Z Z ?_;refine A0a ⟨Z,?_⟩;refine J1a ⟨s0,e0⟩ Z Z Z ?_;refine c2a Z Z ?_;refine h2c Z Z Z (fun z2=>?_) fun z2=>?_
  ·refine n0a ?_;refine J1a ⟨s0,e0⟩ Z Z Z ?_;refine n7a Z (v:=.bool _) Z Z ?_;refine n0a ?_;refine J1a ⟨s0,e0⟩ Z Z Z ?_;refine K1a (hv:=Z) (v:=.bool _) Z ?_;refine n0a ?_;refine J1a ⟨s0,e0⟩ Z Z Z ?_;refine c2a Z Z ?_;refine y1a G3a Z (fun w1 hw=>hw.1.cells 0 Z) Z Z ?_;refine n0a ?_;refine J1a ⟨s0,e0⟩ Z Z Z ?_;refine c2a Z Z ?_;refine y1a G3a Z (fun w1 hw=>hw.1.cells 0 Z) Z Z ?_;refine n0a ?_;refine H2a ⟨s0,e0⟩ Z Z Z ?_;refine k5a Z Z Z ?_;refine p0a s0 b1d Z Z (J3b e3a [] _ _ (hI.keep a0)) ?_;rintro s3 a3 ⟨_,rfl,g2⟩ U1 b2;have t0:=e0.trans b2;replace a0:=a0.trans b2;obtain⟨_,_,_,_,xa,_,_,xb,_,rfl,-⟩:=g2.open_;have p2:=z0a.refl [] a3;refine A0a ⟨Z,?_⟩;refine H2a ⟨U1,t0⟩ Z Z Z ?_;refine k5a Z Z Z ?_;refine p0a U1 C0d Z Z (Y7a e3a (e2a e3a) [] _ _ _ (hI.keep a0) (i2a.keep p2 g2) (H4b D2b) D4c) ?_;rintro t3 z3 h2 D0 d2;have n0:=t0.trans d2;replace a0:=a0.trans d2;obtain⟨_,Q2,_,rfl⟩:=h2.form;have N2:Q2=2:=h2.len.1.trans O4c;refine A0a ⟨Z,?_⟩;refine H2a ⟨D0,n0⟩ Z Z Z ?_;refine k5a Z Z Z ?_;refine B8c t7b.slT Z Z ?_;refine A0a ⟨Z,?_⟩;refine J1a ⟨D0,n0⟩ Z Z Z ?_;refine c2a Z Z ?_;refine h2c Z Z Z (fun A2=>?_) fun A2=>?_
   ·refine n0a ?_;refine J1a ⟨D0,n0⟩ Z Z Z ?_;refine n7a Z (v:=.bool _) Z Z ?_;refine n0a ?_;refine J1a ⟨D0,n0⟩ Z Z Z ?_;refine o5a (v:=.bool _) Z Z ?_;refine n0a ?_;refine t3a ⟨D0,n0⟩ ?_;refine fO D0.k [.w 0] Z ⟨⟨Z,by rfl⟩,U⟩ (p0a D0 s5b Z Z (K5a e3a 0 (by decide) [] _ _ (hI.keep a0)) ?_);rintro v37 d3 ⟨_,_,J1,rfl,a1⟩ q2 w2;replace a0:=a0.trans w2;obtain rfl:=k6b J1;rw[A5b] at a1 ⊢;dsimp only at a1 ⊢;obtain⟨_,_,_,rfl,-⟩:=a1.open_;have c0:=z0a.refl [] d3;refine lO0 Z U (h0a q2 r1a Z Z ?_);intro g6 w6 S6 X6 G6;have N0:=Nat.le_trans a0.size G6;have P0:=Nat.le_trans c0.size G6;replace a0:=a0.trans X6;replace c0:=c0.trans X6;refine b0a (kk:=0) (vs:=[_,_,_,_]) S6 v0a Z Z Z Z Z Z Z ?_;intro f3 E0 U0;dsimp only[d0a,List.set] at E0;replace a0:=a0.fresh U0 (by exact N0);replace c0:=c0.fresh U0 (by exact P0);refine lO E0.k [.w 1] Z ⟨⟨Z,by rfl⟩,U⟩ (p0a E0 s5b Z Z (K5a e3a 1 (by decide) [] _ _ (hI.keep a0)) ?_);rintro u3 e3 ⟨_,_,K1,rfl,b1⟩ r2 e2;replace a0:=a0.trans e2;replace c0:=c0.trans e2;obtain rfl:=C6b K1;rw[A6b] at b1 ⊢;dsimp only at b1 ⊢;obtain⟨_,_,_,rfl,-⟩:=b1.open_;have d0:=z0a.refl [] e3;refine lO0 Z U (h0a r2 r1a Z Z ?_);intro g8 w8 S8 X8 G8;have O0:=Nat.le_trans a0.size G8;have Q0:=Nat.le_trans c0.size G8;have R0:=Nat.le_trans d0.size G8;replace a0:=a0.trans X8;replace c0:=c0.trans X8;replace d0:=d0.trans X8;refine b0a (kk:=0) (vs:=[_,_,_,_]) S8 v0a Z Z Z Z Z Z Z ?_;intro g3 q0 I0;dsimp only[d0a,List.set] at q0;replace a0:=a0.fresh I0 (by exact O0);replace c0:=c0.fresh I0 (by exact Q0);replace d0:=d0.fresh I0 (by exact R0);refine lB0 Z U (fun B2=>?_) (fun B2=>by exfalso;omega);refine lB0 Z U (fun C2=>?_) (fun C2=>by exfalso;omega);refine lO q0.k [.w 1] Z ⟨⟨Z,by rfl⟩,U⟩ ?_;refine U0a q0 F5c Z Z (N7b L5c _ _ (RdE.keep c0 _ _ a1) (hI.keep a0).msk (hN.keep (q0.keep0 [])) V8c b3c (by rw[U7b];decide)) ?_;intro A3 o1 r1;replace a0:=a0.trans r1;replace c0:=c0.trans r1;replace d0:=d0.trans r1;refine k5a Z Z Z ?_;refine V5c Z Z Z (fun _=>?_) (fun h=>absurd (by rw[U7b];rfl) h);refine lO o1.k [.w 0] Z ⟨⟨Z,by rfl⟩,U⟩ ?_;refine U0a o1 F5c Z Z (N7b G5c _ _ (RdE.keep d0 _ _ b1) (hI.keep a0).msk (hN.keep (o1.keep0 [])) q7c v3c (by rw[R7b];decide)) ?_;intro B3 V1 s1;replace a0:=a0.trans s1;replace c0:=c0.trans s1;replace d0:=d0.trans s1;refine k5a Z Z Z ?_;refine V5c Z Z Z (fun _=>?_) (fun h=>absurd (by rw[R7b];rfl) h);refine lO V1.k [.w 2] Z ⟨⟨Z,by rfl⟩,U⟩ ?_;refine p0a V1 Z1d Z Z ((V8b e3a 1 (by decide) [] _ _ (hI.keep a0)).mono (fun v w' ⟨⟨l,hl,hN⟩,hB⟩=>show RdI [] w' v [1]∧_ from⟨(p6b hl)▸hN.rd (M:=[]) (by simp) (fun x hx=>by rw[p6b hl] at hx;simp at hx;subst hx;exact i1) hB (by rw[p6b hl];decide),hB⟩)) ?_;rintro v3 C3 f1 s2 t1;replace a0:=a0.trans t1;replace c0:=c0.trans t1;replace d0:=d0.trans t1;obtain⟨_,_,_,rfl⟩:=f1.form;refine lO0 Z U (y0a s2 Y0a (vs:=[.int .i64 _]) (cs:=[_]) Z Z Z Z Z Z ?_);intro o3 D3 W1 d1 j3;replace a0:=a0.trans d1;replace c0:=c0.trans d1;replace d0:=d0.trans d1;replace f1:=f1.keep (d1.of_nil);refine lO0 Z U (U0a W1 S1d Z Z (d7a (p0c [] _ _ _ [1] [1] f1 (X3a W1 (k:=0) (l:=[1]) Z Z (by simp[i1]))) (decide_eq_true Z)) ?_);intro E3 Y1 u1;replace a0:=a0.trans u1;replace c0:=c0.trans u1;replace d0:=d0.trans u1;refine lO Y1.k [.w 3] Z ⟨⟨Z,by rfl⟩,U⟩ ?_;refine p0a Y1 p0d Z Z ((B0c e3a [] _ _ (hI.keep a0)).mono (fun v w' ⟨⟨l,hl,hN⟩,hB⟩=>show RdI [] w' v []∧_ from⟨(J0b hl)▸hN.rd (M:=[]) (by simp) (fun x hx=>by rw[J0b hl] at hx;cases hx) hB (by rw[J0b hl];decide),hB⟩)) ?_;rintro w3 F3 j2 Z1 v1;replace a0:=a0.trans v1;replace c0:=c0.trans v1;replace d0:=d0.trans v1;obtain⟨_,R2,_,rfl⟩:=j2.form;have O2:R2=0:=j2.len.1;refine lB0 Z U (fun D2=>?_) (fun D2=>by exfalso;omega);refine lO Z1.k [.w 3] Z ⟨⟨Z,by rfl⟩,U⟩ (p0a Z1 N5c Z Z (D9c e3a h6b I0d a2d [] _ _ (hI.keep a0)) ?_);rintro x3 h3 ⟨_,_,_,_,nv,_,_,_,_,_,rfl,n2,H2⟩ t2 x1;replace a0:=a0.trans x1;replace c0:=c0.trans x1;replace d0:=d0.trans x1;obtain⟨m0,m1,rfl,J2,K2⟩:=L9b H2;have p3:nv=2:=n2.len.1;have A0:=z0a.refl [] h3;refine lO0 Z U (h0a t2 G7a Z Z ?_);intro n3 V2 B0 K0 c1;have v0:=Nat.le_trans a0.size c1;have x0:=Nat.le_trans c0.size c1;have y0:=Nat.le_trans d0.size c1;have z0:=Nat.le_trans A0.size c1;replace a0:=a0.trans K0;replace c0:=c0.trans K0;replace d0:=d0.trans K0;replace A0:=A0.trans K0;refine b0a (kk:=0) (vs:=[_,_,_,_]) B0 s6a Z Z Z Z Z Z Z ?_;intro J0 F0 r0;dsimp only[d0a,List.set] at F0;replace a0:=a0.fresh r0 (by exact v0);replace c0:=c0.fresh r0 (by exact x0);replace d0:=d0.fresh r0 (by exact y0);replace A0:=A0.fresh r0 (by exact z0);have Y0:=RdS.keepW n2 A0 (G0a.keep A0);obtain⟨xa,x2,S2,_,N1,B1,_,_,F1,I1⟩:=RdS.get Y0 0 (show 0<2 by omega);obtain⟨xb,z1,P1,_,O1,V0,_,_,X0,Z0⟩:=RdS.get Y0 1 (show 1<2 by omega);subst B1;obtain⟨rfl,rfl⟩:x2=z1∧S2=P1:=by simpa using V0
    obtain rfl:m0=xa:=by simpa using N1
    obtain rfl:m1=xb:=by simpa using O1
    obtain⟨_,_,_,_,_,_,_,_,_,rfl,E1,_⟩:=G0a.open_ I1;obtain⟨_,_,_,_,_,_,_,_,_,rfl,W0,_⟩:=G0a.open_ Z0;refine lC0 Z U (B1b c0a (fun i=>[0,1,2,3,4,5,6,7,9,10,11,12,13,14,15,16,17,19,20,21,22,23,24,25,26,28,29].contains i) (.op 0 (.op 1 (.op 2 (.op 3 (.op 4 (.op 5 (.op 6 (.op 7 (.op 8 (.op 9 (.op 10 (.op 11 (.op 12 (.op 13 (.op 14 (.op 15 (.op 16 (.op 17 (.op 18 (.op 19 (.op 20 (.op 21 (.op 22 (.op 23 (.op 24 (.op 25 (.op 26 (.op 27 (.op 28 (.op 29 .nil)))))))))))))))))))))))))))))) (d9c F0) ?_);have j0:=F0.drew;have f0:z0a [] J0 J0.drew:=B2a _ _;generalize J0.drew=H3 at j0 f0 ⊢;replace a0:=a0.trans f0;replace c0:=c0.trans f0;replace d0:=d0.trans f0;refine J1a ⟨j0,f0⟩ Z Z Z ?_;refine K1a (hv:=Z) (v:=.bool _) Z ?_;refine n0a ?_;refine J1a ⟨j0,f0⟩ Z Z Z ?_;refine K1a (hv:=Z) (v:=.bool _) Z ?_;refine n0a ?_;refine J1a ⟨j0,f0⟩ Z Z Z ?_;refine c2a Z Z ?_;refine K1a (hv:=Z) (v:=.int .i64 _) Z ?_;refine n0a ?_;refine J1a ⟨j0,f0⟩ Z Z Z ?_;refine c2a Z Z ?_;refine h2c Z Z Z (fun E2=>?_) fun E2=>?_
    ·refine n0a ?_;refine J1a ⟨j0,f0⟩ Z Z Z ?_;refine n7a Z (v:=.bool _) Z Z ?_;refine n0a ?_;refine J1a ⟨j0,f0⟩ Z Z Z ?_;refine K1a (hv:=Z) (v:=.bool _) Z ?_;refine n0a ?_;refine J1a ⟨j0,f0⟩ Z Z Z ?_;refine c2a Z Z ?_;refine K0a u2b Z Z ?_;refine n0a ?_;refine J1a ⟨j0,f0⟩ Z Z Z ?_;refine c2a Z Z ?_;refine m0a N1b Z (fun w1 hw=>by exact hw.1.cell 0 Z Z) Z ?_;refine n0a ?_;refine H2a ⟨j0,f0⟩ Z Z Z ?_;refine k5a Z Z Z ?_;refine B8c H8a.slT Z Z ?_;refine A0a ⟨Z,?_⟩;refine J1a ⟨j0,f0⟩ Z Z Z ?_;refine c2a Z Z ?_;refine h2c Z Z Z (fun F2=>?_) fun F2=>?_
     ·refine n0a ?_;refine J1a ⟨j0,f0⟩ Z Z Z ?_;refine n7a Z (v:=.bool _) Z Z ?_;refine n0a ?_;refine J1a ⟨j0,f0⟩ Z Z Z ?_;refine K1a (hv:=Z) (v:=.bool _) Z ?_;refine n0a ?_;refine J1a ⟨j0,f0⟩ Z Z Z ?_;refine c2a Z Z ?_;refine K0a u2b Z Z ?_;refine n0a ?_;refine J1a ⟨j0,f0⟩ Z Z Z ?_;refine c2a Z Z ?_;refine m0a N1b Z (fun w1 hw=>by exact hw.1.cell 0 Z Z) Z ?_;refine n0a ?_;refine J1a ⟨j0,f0⟩ Z Z Z ?_;refine c2a Z Z ?_;refine s0a H8a.slT Z (by rfl) Z Z ?_;refine n0a ?_;refine J1a ⟨j0,f0⟩ Z Z Z ?_;refine c2a Z Z ?_;refine K0a D6b Z Z ?_;refine n0a ?_;refine J1a ⟨j0,f0⟩ Z Z Z ?_;refine c2a Z Z ?_;refine y1a k0a Z (fun w1 hw=>(Cells.sub F1 2 4).keep hw.2 List.not_mem_nil) Z Z ?_;refine n0a ?_;refine J1a ⟨j0,f0⟩ Z Z Z ?_;refine c2a Z Z ?_;refine y1a k0a Z (fun w1 hw=>hw.1.cells 3 Z) Z Z ?_;refine n0a ?_;refine H2a ⟨j0,f0⟩ Z Z Z ?_;refine k5a Z Z Z ?_;refine U0a j0 k7b Z Z (d7a (o0b L5c L5c [] _ _ _ (by rw[←J2];exact RdE.keep f0 _ _ E1) (RdE.keep c0 _ _ a1)) (c9c Z)) ?_;intro W2 g0 H0;have b0:=f0.trans H0;replace a0:=a0.trans H0;replace d0:=d0.trans H0;refine A0a ⟨Z,?_⟩;refine J1a ⟨g0,b0⟩ Z Z Z ?_;refine n7a Z (v:=.bool _) Z Z ?_;refine n0a ?_;refine J1a ⟨g0,b0⟩ Z Z Z ?_;refine K1a (hv:=Z) (v:=.bool _) Z ?_;refine n0a ?_;refine J1a ⟨g0,b0⟩ Z Z Z ?_;refine c2a Z Z ?_;refine K0a u2b Z Z ?_;refine n0a ?_;refine J1a ⟨g0,b0⟩ Z Z Z ?_;refine c2a Z Z ?_;refine m0a N1b Z (fun w1 hw=>by exact hw.1.cell 0 Z Z) Z ?_;refine n0a ?_;refine J1a ⟨g0,b0⟩ Z Z Z ?_;refine c2a Z Z ?_;refine s0a H8a.slT Z (by rfl) Z Z ?_;refine n0a ?_;refine J1a ⟨g0,b0⟩ Z Z Z ?_;refine c2a Z Z ?_;refine K0a D6b Z Z ?_;refine n0a ?_;refine J1a ⟨g0,b0⟩ Z Z Z ?_;refine c2a Z Z ?_;refine y1a k0a Z (fun w1 hw=>(Cells.sub X0 2 4).keep hw.2 List.not_mem_nil) Z Z ?_;refine n0a ?_;refine J1a ⟨g0,b0⟩ Z Z Z ?_;refine c2a Z Z ?_;refine y1a k0a Z (fun w1 hw=>hw.1.cells 2 Z) Z Z ?_;refine n0a ?_;refine H2a ⟨g0,b0⟩ Z Z Z ?_;refine k5a Z Z Z ?_;refine U0a g0 k7b Z Z (d7a (o0b G5c G5c [] _ _ _ (by rw[←K2];exact RdE.keep b0 _ _ W0) (RdE.keep d0 _ _ b1)) (c9c Z)) ?_;intro X2 p0 T0;have o0:=b0.trans T0;replace a0:=a0.trans T0;refine A0a ⟨Z,?_⟩;refine J1a ⟨p0,o0⟩ Z Z Z ?_;refine n7a Z (v:=.bool _) Z Z ?_;refine n0a ?_;refine J1a ⟨p0,o0⟩ Z Z Z ?_;refine o5a (v:=.bool _) Z Z ?_;refine n0a ?_;refine t3a ⟨p0,o0⟩ ?_;have C1:=hE.keep a0;obtain⟨_,_,_,_,_,_,_,_,_,_,_,_,_,he,-,-,-,-,-,-,-,-,b3,h6⟩:=C1;simp only[List.cons.injEq,Value.slice.injEq,Option.some.injEq,Addr.mk.injEq,and_true] at he;obtain⟨-,-,-,rfl⟩:=he;have ct:=h6.cell (o:=11) Z;have cT:=b3.cell (o:=7) Z;refine fC0 Z U (H0a c0a [0,1,2,3,4,5,6,7,8,9,10] [] [11] Z (Cl _ _ _ _) (Cl.start p0) ?_);refine qO p0.q [.o 4] Z ⟨Z,U⟩ (s0a v8a.slT Z (by rfl) Z Z ?_);refine qO0 Z U (m0a s1c Z (fun w1 hw=>by exact hw.2.cell List.not_mem_nil ct) Z ?_);refine s0a M3b.slT Z (by rfl) Z Z ?_;refine qO0 Z U (m0a W7b Z (fun w1 hw=>by exact hw.2.cell List.not_mem_nil cT) Z ?_);refine X1a J9b Z Z (fun w1 S1 X1=>w1b _ _ _) ?_;refine s0a w6a.slT Z (by rfl) Z Z ?_;refine qD Z U ?_;rintro i3 ⟨S0,y1⟩;replace a0:=a0.trans y1;have p1:=S0;refine b0a (kk:=5) (vs:=[_,_,_,_]) S0 v0a Z Z Z Z Z Z Z ?_;intro V2 B0 K0;dsimp only[d0a,List.set] at B0;have D1:=(hE.keep a0).keepS (p1.blk 5 Z) K0;have rB:=D1.rd (B0.blk 5 Z) (e:=q9b 2 0) (P1a i1 i2 i0);refine lO B0.k [.w 4] Z ⟨⟨Z,by rfl⟩,U⟩ (p0a B0 N5c Z Z (W8b (Z0b (q9b 2 0)) C3c [] _ _ rB (a7c _) (hK.keep (B0.keep0 [])) (by simp)) ?_);rintro U2 Y2 ⟨_,rfl⟩ j1 u2;refine lB0 Z U (fun A1=>?_) (fun A1=>by exfalso;omega);exact lT Z U Z ⟨Z,j1.fin⟩
     exfalso;omega
    exfalso;omega
   exfalso;omega
  exfalso;omega
 exfalso;omega
def Y9a(C:List Int)(n:Nat):Prop:=C.Pairwise (·<·)∧∀c∈C,0≤c∧c<n
theorem Y9a.tail{c:Int}{C:List Int}{n:Nat}(h:Y9a (c::C) n):Y9a C n:=⟨(List.pairwise_cons.1 h.1).2,fun x hx=>h.2 x (List.mem_cons_of_mem _ hx)⟩
theorem Y9a.ne{c:Int}{C:List Int}{n:Nat}(h:Y9a (c::C) n):∀x∈C,x.toNat≠c.toNat:=fun x hx=>by
 have h1:=(List.pairwise_cons.1 h.1).1 x hx;have h2:=h.2 c (by simp);omega
end Go.Fw
