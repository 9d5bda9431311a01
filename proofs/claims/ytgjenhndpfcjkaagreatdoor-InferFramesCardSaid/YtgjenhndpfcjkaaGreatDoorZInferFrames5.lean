/-
  Part 5 of 9 of the proof of InferFrames: what it leans on. No conditions.
-/
import Derived.Test.YtgjenhndpfcjkaaGreatDoorZInferFrames4
set_option maxRecDepth 100000
set_option maxHeartbeats 4000000
namespace Go.Proofs.YtgjenhndpfcjkaaGreatDoor
end Go.Proofs.YtgjenhndpfcjkaaGreatDoor
namespace Go.Fw
open Go.Proofs.YtgjenhndpfcjkaaGreatDoor Go.Proofs Go.RowKit Go.Maps Tryz
variable {P:Program} {r:Option Nat} {N:Nat} {D:List Deferred} {e:Env} {w w0:World} {ops:Array Oper} {rest:List Oper} {K:List Deferred→Env→World→Prop} {L:List Ent} {M:List Nat}
theorem RdE.kidC{M:List Nat}{w:World}{n a:E}{A:Option Addr}{m c:Nat}(h:RdE M w n [.int .i64 n.op,.int .i64 n.w,.int .i64 n.n,.slice A m c])(i:Nat)(hi:n.kids[i]?=some a):∃b o cs,A=some ⟨b,o,none⟩∧b∉M∧Cells w b (o+i*4) cs∧RdE M w a cs:=by
 obtain⟨_,_,_,he,-,-,-,_,-,-,-,a0⟩:=h.open_;cases he;obtain⟨b0,rfl⟩:=List.getElem?_eq_some_iff.1 hi;obtain⟨b,o,h1,h2,h3⟩:=a0 (by omega);obtain⟨cs,h4,h5⟩:=h3 i b0;exact⟨b,o,cs,h1,h2,h4,h5⟩
theorem RdE.leafAny{M M':List Nat}{w w':World}{op wd n:Int}{cs:List Value}(h:RdE M w ⟨op,wd,n,[]⟩ cs):RdE M' w' ⟨op,wd,n,[]⟩ cs:=by
 rw[RdE] at h ⊢;obtain⟨A,m,c,h1,h2,h3,h4,h5,h6,h7,h8,-⟩:=h;exact⟨A,m,c,h1,h2,h3,h4,h5,h6,h7,h8,fun h0=>by rw[h5] at h0;simp at h0⟩
theorem O4b(n a b:E)(M:List Nat)(w0:World)(cs:List Value)(hR:RdE M w0 n cs)(hK:k2a M w0)(hk:n.kids=[a,b])(hw:1≤n.w∧n.w≤8)(wa:a.w=n.w)(wb:b.w=n.w)(ho:5≤n.op∧n.op≤10):
 O0a prog 159 #[.agg cs.toArray] w0 fun v w'=>(∃cs:List Value,v=.agg cs.toArray∧RdE M w' (opS n a b) cs)∧Bw w0 w':=by
 obtain⟨_,m,_,rfl,_,o2,_,hn,_⟩:=hR.open_;obtain⟨_,_,_,rfl,_,b3,q0⟩:=hR.kidC 0 (a:=a) (by rw[hk];rfl);obtain⟨_,_,_,a3,-,d3,s0⟩:=hR.kidC 1 (a:=b) (by rw[hk];rfl);cases a3;obtain⟨_,_,_,rfl,-⟩:=q0.open_;obtain⟨_,_,_,rfl,-⟩:=s0.open_;have h3:m=2:=by rw[hn,hk];rfl
 subst h3;have i0:i64 0:=by unfold i64;omega
 have S:=St.refl w0;refine a0a func159 Z ntmps159 Z ?_;refine wO0 Z U (r0a S Z ?_);intro g1 w1 S1 X1 G1;refine h0a S1 w1a Z Z ?_;intro g2 w2 S2 X2 G2;refine lC0 Z U (H0a c0a [0,1,2,3,4,5,6,7] [8,9] [10,11] Z (Cl _ _ _ _) (Cl.start S2) ?_);refine qO S2.q [.o 1] Z ⟨Z,U⟩ (q0a R0a.slT Z (by rfl) Z Z ?_);refine C1a m0a Z (fun w1 hw=>(fun j v hj=>hw.1.old (b3 j v hj))) (by rfl) Z ?_;refine qO S2.q [.o 1] Z ⟨Z,U⟩ (q0a R0a.slT Z (by rfl) Z Z ?_);refine C1a m0a Z (fun w1 hw=>(fun j v hj=>hw.1.old (d3 j v hj))) (by rfl) Z ?_;refine qN0 Z U (R3a ?_);refine g6a Z Z w1a Z ?_;refine g6a Z Z w1a Z ?_;refine O1a ?_;rintro I3 ⟨j1,_⟩;intro g4 f3 G4 j3;intro g3 e3 G3 u2;dsimp only[y3a];clear j3;replace j1:=j1.push_new S2 f3 G4;simp only[List.mem_cons,List.not_mem_nil,or_false] at u2;replace j1:=j1.push_more (L1:=[_]) S2 e3 G3 (by simpa[eq_comm] using u2);refine b0a (kk:=0) (vs:=[_,_,_,_]) j1 w0a Z Z Z Z Z Z Z ?_;intro y2 H0 n2;dsimp only[d0a,List.set] at H0;refine b0a (kk:=1) (vs:=[_,_,_,_]) H0 w0a Z Z Z Z Z Z Z ?_;intro A2 p0 p2;dsimp only[d0a,List.set] at p0;refine lO0 Z U (W0a p0 d3b Z Z (f0b a b _ g3 0 g4 0 ⟨by simp,_,p0.cells 0 Z,RdE.less (by simp) _ _ (RdE.keep (p0.keep0 M) _ _ q0)⟩ ⟨by simp,_,p0.cells 1 Z,RdE.less (by simp) _ _ (RdE.keep (p0.keep0 M) _ _ s0)⟩) ?_);intro F3 i2 C3;refine lO i2.k [.o 3] Z ⟨Z,U⟩ (o0a i2 r4a Z Z (R1a 0 n.w i0 o2 M _) ?_);rintro E3 H3 ⟨_,rfl,W0⟩ H2 D3;obtain⟨_,_,_,rfl,-⟩:=W0.open_;refine h0a H2 w1a Z Z ?_;intro g6 w6 S6 X6 G6;refine b0a (kk:=0) (vs:=[_,_,_,_]) S6 w0a Z Z Z Z Z Z Z ?_;intro r3 b0 N2;dsimp only[d0a,List.set] at b0;refine lB b0.k [.o 4] Z ⟨Z,U⟩ (fun S0=>?_) fun S0=>?_
 ·refine lO b0.k [.w 1] Z ⟨⟨Z,by rfl⟩,U⟩ (f0a b0 c1a Z Z (v0a a 0 M _ _ (RdE.keep (b0.keep0 M) _ _ q0)) (fun T0 n3 X0 I2=>?_) (fun T0 n3 X0 I2=>?_))
  ·refine lO X0.k [.w 0] Z ⟨⟨Z,by rfl⟩,U⟩ (b0a (kk:=3) (vs:=[_,_,_,_]) X0 w0a Z Z Z Z Z Z Z ?_);intro f2 t0 Y1;dsimp only[d0a,List.set] at t0;refine lR0 Z U ?_;have z0:=S0;have z1:isC a 0=true:=T0;refine g0a Z m0a Z (t0.cells 3 Z) Z ⟨⟨_,Z,?_⟩,t0.fin⟩;suffices z:opS n a b=⟨1,n.w,0,[]⟩ by rw[z];exact RdE.leafAny W0
   unfold opS;simp[z0,z1];done
  refine lO X0.k [.w 2] Z ⟨⟨Z,by rfl⟩,U⟩ (f0a X0 c1a Z Z (v0a b 0 M _ _ (RdE.keep (X0.keep0 M) _ _ s0)) (fun c1 o3 N0 J2=>?_) (fun c1 o3 N0 J2=>?_))
  ·refine lO N0.k [.w 0] Z ⟨⟨Z,by rfl⟩,U⟩ (b0a (kk:=3) (vs:=[_,_,_,_]) N0 w0a Z Z Z Z Z Z Z ?_);intro f2 t0 Y1;dsimp only[d0a,List.set] at t0;refine lR0 Z U ?_;have z0:=S0;have z1:isC a 0=false:=T0;have z2:isC b 0=true:=c1;refine g0a Z m0a Z (t0.cells 3 Z) Z ⟨⟨_,Z,?_⟩,t0.fin⟩;suffices z:opS n a b=⟨1,n.w,0,[]⟩ by rw[z];exact RdE.leafAny W0
   unfold opS;simp[z0,z1,z2];done
  refine lO N0.k [.w 1] Z ⟨⟨Z,by rfl⟩,U⟩ (f0a N0 T9a Z Z (J5a a M _ _ (RdE.keep (N0.keep0 M) _ _ q0) (hK.keep (N0.keep0 M))) (fun t1 p3 O0 K2=>?_) (fun t1 p3 O0 K2=>?_))
  ·refine lO O0.k [.w 2] Z ⟨⟨Z,by rfl⟩,U⟩ (b0a (kk:=3) (vs:=[_,_,_,_]) O0 w0a Z Z Z Z Z Z Z ?_);intro v2 u0 j2;dsimp only[d0a,List.set] at u0;refine lR0 Z U ?_;have z0:=S0;have z1:isC a 0=false:=T0;have z2:isC b 0=false:=c1;have z3:isO a=true:=t1;refine g0a Z m0a Z (u0.cells 3 Z) Z ⟨⟨_,Z,?_⟩,u0.fin⟩;suffices z:opS n a b=b by rw[z];exact RdE.keep (u0.keep0 M) _ _ s0
   unfold opS;simp[z0,z1,z2,z3];done
  refine lO O0.k [.w 2] Z ⟨⟨Z,by rfl⟩,U⟩ (f0a O0 T9a Z Z (J5a b M _ _ (RdE.keep (O0.keep0 M) _ _ s0) (hK.keep (O0.keep0 M))) (fun N1 q3 I0 L2=>?_) (fun N1 q3 I0 L2=>?_))
  ·refine lO I0.k [.w 1] Z ⟨⟨Z,by rfl⟩,U⟩ (b0a (kk:=3) (vs:=[_,_,_,_]) I0 w0a Z Z Z Z Z Z Z ?_);intro E1 c0 m1;dsimp only[d0a,List.set] at c0;refine lR0 Z U ?_;have z0:=S0;have z1:isC a 0=false:=T0;have z2:isC b 0=false:=c1;have z3:isO a=false:=t1;have z4:isO b=true:=N1;refine g0a Z m0a Z (c0.cells 3 Z) Z ⟨⟨_,Z,?_⟩,c0.fin⟩;suffices z:opS n a b=a by rw[z];exact RdE.keep (c0.keep0 M) _ _ q0
   unfold opS;simp[z0,z1,z2,z3,z4];done
  refine lOn 5 I0.k [] Z U ?_;cases A1:E.beq a b
  ·refine N0a (hv:=Z) (v:=.bool _) Z ?_;refine lO I0.k [.w 4] Z ⟨⟨Z,by rfl⟩,U⟩ (b0a (kk:=3) (vs:=[_,_,_,_]) I0 w0a Z Z Z Z Z Z Z ?_);intro j0 a0 g0;dsimp only[d0a,List.set] at a0;refine lR0 Z U ?_;have z0:=S0;have z1:isC a 0=false:=T0;have z2:isC b 0=false:=c1;have z3:isO a=false:=t1;have z4:isO b=false:=N1;have z5:E.beq a b=false:=A1;refine g0a Z m0a Z (a0.cells 3 Z) Z ⟨⟨_,Z,?_⟩,a0.fin⟩;suffices z:opS n a b=n by rw[z];exact RdE.keep (a0.keep0 M) _ _ hR
   unfold opS;simp[z0,z1,z2,z3,z4,z5];done
  refine N0a (hv:=Z) (v:=.bool _) Z ?_;refine lO I0.k [.w 1] Z ⟨⟨Z,by rfl⟩,U⟩ (b0a (kk:=3) (vs:=[_,_,_,_]) I0 w0a Z Z Z Z Z Z Z ?_);intro E1 c0 m1;dsimp only[d0a,List.set] at c0;refine lR0 Z U ?_;have z0:=S0;have z1:isC a 0=false:=T0;have z2:isC b 0=false:=c1;have z3:isO a=false:=t1;have z4:isO b=false:=N1;have z5:E.beq a b=true:=A1;refine g0a Z m0a Z (c0.cells 3 Z) Z ⟨⟨_,Z,?_⟩,c0.fin⟩;suffices z:opS n a b=a by rw[z];exact RdE.keep (c0.keep0 M) _ _ q0
  unfold opS;simp[z0,z1,z2,z3,z4,z5];done
 refine lB0 Z U (fun U0=>?_) fun U0=>?_
 ·refine lO b0.k [.w 1] Z ⟨⟨Z,by rfl⟩,U⟩ (f0a b0 T9a Z Z (J5a a M _ _ (RdE.keep (b0.keep0 M) _ _ q0) (hK.keep (b0.keep0 M))) (fun V0 s3 J0 O2=>?_) (fun V0 s3 J0 O2=>?_))
  ·refine lC0 Z U (H0a c0a [0,1,2,3,4,5] [] [6,7] Z (Cl _ _ _ _) (Cl.start J0) ?_);refine qO J0.q [.o 4] Z ⟨Z,U⟩ (e2a W6a Z Z Z ?_);refine k0a D0a Z (fun w1 hw=>by exact hw.1.old (hK.at (by omega) (by omega))) Z ?_;refine qN J0.q [.o 4] Z ⟨Z,U⟩ (R3a ?_);refine O1a ?_;rintro h2 ⟨Q0,Z1⟩;refine o0a Q0 r4a Z Z (R1a (m2a n.w.toNat-1) n.w (by have:=h0b n.w.toNat 8;have:=m5a n.w.toNat;have e8:m2a 8=256:=(by decide);unfold i64;omega) o2 M _) ?_;rintro v51 u3 ⟨Z2,rfl,D1⟩ T1 Q2;obtain⟨F2,i3,m3,rfl,-⟩:=D1.open_;refine b0a (kk:=3) (vs:=[_,_,_,_]) T1 w0a Z Z Z Z Z Z Z ?_;intro F1 m0 n1;dsimp only[d0a,List.set] at m0;refine lR0 Z U ?_;have z0:=U0;have z1:isO a=true:=V0;refine g0a Z m0a Z (m0.cells 3 Z) Z ⟨⟨_,Z,?_⟩,m0.fin⟩;suffices z:opS n a b=⟨1,n.w,m2a n.w.toNat-1,[]⟩ by rw[z];exact RdE.leafAny D1
   unfold opS;simp[z0,z1];done
  refine lO J0.k [.w 2] Z ⟨⟨Z,by rfl⟩,U⟩ (f0a J0 T9a Z Z (J5a b M _ _ (RdE.keep (J0.keep0 M) _ _ s0) (hK.keep (J0.keep0 M))) (fun d1 t3 P0 P2=>?_) (fun d1 t3 P0 P2=>?_))
  ·refine lC0 Z U (H0a c0a [0,1,2,3,4,5] [] [6,7] Z (Cl _ _ _ _) (Cl.start P0) ?_);refine qO P0.q [.o 4] Z ⟨Z,U⟩ (e2a W6a Z Z Z ?_);refine k0a D0a Z (fun w1 hw=>by exact hw.1.old (hK.at (by omega) (by omega))) Z ?_;refine qN P0.q [.o 4] Z ⟨Z,U⟩ (R3a ?_);refine O1a ?_;rintro h2 ⟨Q0,Z1⟩;refine o0a Q0 r4a Z Z (R1a (m2a n.w.toNat-1) n.w (by have:=h0b n.w.toNat 8;have:=m5a n.w.toNat;have e8:m2a 8=256:=(by decide);unfold i64;omega) o2 M _) ?_;rintro v51 u3 ⟨Z2,rfl,D1⟩ T1 Q2;obtain⟨F2,i3,m3,rfl,-⟩:=D1.open_;refine b0a (kk:=3) (vs:=[_,_,_,_]) T1 w0a Z Z Z Z Z Z Z ?_;intro F1 m0 n1;dsimp only[d0a,List.set] at m0;refine lR0 Z U ?_;have z0:=U0;have z1:isO a=false:=V0;have z2:isO b=true:=d1;refine g0a Z m0a Z (m0.cells 3 Z) Z ⟨⟨_,Z,?_⟩,m0.fin⟩;suffices z:opS n a b=⟨1,n.w,m2a n.w.toNat-1,[]⟩ by rw[z];exact RdE.leafAny D1
   unfold opS;simp[z0,z1,z2];done
  refine lO P0.k [.w 1] Z ⟨⟨Z,by rfl⟩,U⟩ (f0a P0 c1a Z Z (v0a a 0 M _ _ (RdE.keep (P0.keep0 M) _ _ q0)) (fun u1 v3 Y0 R2=>?_) (fun u1 v3 Y0 R2=>?_))
  ·refine lO Y0.k [.w 2] Z ⟨⟨Z,by rfl⟩,U⟩ (b0a (kk:=3) (vs:=[_,_,_,_]) Y0 w0a Z Z Z Z Z Z Z ?_);intro x2 v0 m2;dsimp only[d0a,List.set] at v0;refine lR0 Z U ?_;have z0:=U0;have z1:isO a=false:=V0;have z2:isO b=false:=d1;have z3:isC a 0=true:=u1;refine g0a Z m0a Z (v0.cells 3 Z) Z ⟨⟨_,Z,?_⟩,v0.fin⟩;suffices z:opS n a b=b by rw[z];exact RdE.keep (v0.keep0 M) _ _ s0
   unfold opS;simp[z0,z1,z2,z3];done
  refine lO Y0.k [.w 2] Z ⟨⟨Z,by rfl⟩,U⟩ (f0a Y0 c1a Z Z (v0a b 0 M _ _ (RdE.keep (Y0.keep0 M) _ _ s0)) (fun O1 w3 K0 T2=>?_) (fun O1 w3 K0 T2=>?_))
  ·refine lO K0.k [.w 1] Z ⟨⟨Z,by rfl⟩,U⟩ (b0a (kk:=3) (vs:=[_,_,_,_]) K0 w0a Z Z Z Z Z Z Z ?_);intro H1 d0 o1;dsimp only[d0a,List.set] at d0;refine lR0 Z U ?_;have z0:=U0;have z1:isO a=false:=V0;have z2:isO b=false:=d1;have z3:isC a 0=false:=u1;have z4:isC b 0=true:=O1;refine g0a Z m0a Z (d0.cells 3 Z) Z ⟨⟨_,Z,?_⟩,d0.fin⟩;suffices z:opS n a b=a by rw[z];exact RdE.keep (d0.keep0 M) _ _ q0
   unfold opS;simp[z0,z1,z2,z3,z4];done
  refine lOn 5 K0.k [] Z U ?_;cases B1:E.beq a b
  ·refine N0a (hv:=Z) (v:=.bool _) Z ?_;refine lO K0.k [.w 4] Z ⟨⟨Z,by rfl⟩,U⟩ (b0a (kk:=3) (vs:=[_,_,_,_]) K0 w0a Z Z Z Z Z Z Z ?_);intro j0 a0 g0;dsimp only[d0a,List.set] at a0;refine lR0 Z U ?_;have z0:=U0;have z1:isO a=false:=V0;have z2:isO b=false:=d1;have z3:isC a 0=false:=u1;have z4:isC b 0=false:=O1;have z5:E.beq a b=false:=B1;refine g0a Z m0a Z (a0.cells 3 Z) Z ⟨⟨_,Z,?_⟩,a0.fin⟩;suffices z:opS n a b=n by rw[z];exact RdE.keep (a0.keep0 M) _ _ hR
   unfold opS;simp[z0,z1,z2,z3,z4,z5];done
  refine N0a (hv:=Z) (v:=.bool _) Z ?_;refine lO K0.k [.w 1] Z ⟨⟨Z,by rfl⟩,U⟩ (b0a (kk:=3) (vs:=[_,_,_,_]) K0 w0a Z Z Z Z Z Z Z ?_);intro H1 d0 o1;dsimp only[d0a,List.set] at d0;refine lR0 Z U ?_;have z0:=U0;have z1:isO a=false:=V0;have z2:isO b=false:=d1;have z3:isC a 0=false:=u1;have z4:isC b 0=false:=O1;have z5:E.beq a b=true:=B1;refine g0a Z m0a Z (d0.cells 3 Z) Z ⟨⟨_,Z,?_⟩,d0.fin⟩;suffices z:opS n a b=a by rw[z];exact RdE.keep (d0.keep0 M) _ _ q0
  unfold opS;simp[z0,z1,z2,z3,z4,z5];done
 refine lB0 Z U (fun v1=>?_) fun v1=>?_
 ·refine lO b0.k [.w 1] Z ⟨⟨Z,by rfl⟩,U⟩ (f0a b0 c1a Z Z (v0a a 0 M _ _ (RdE.keep (b0.keep0 M) _ _ q0)) (fun E0 d2 B0 V1=>?_) (fun E0 d2 B0 V1=>?_))
  ·refine lO B0.k [.w 2] Z ⟨⟨Z,by rfl⟩,U⟩ (b0a (kk:=3) (vs:=[_,_,_,_]) B0 w0a Z Z Z Z Z Z Z ?_);intro I1 e0 p1;dsimp only[d0a,List.set] at e0;refine lR0 Z U ?_;have z0:=v1;have z1:isC a 0=true:=E0;refine g0a Z m0a Z (e0.cells 3 Z) Z ⟨⟨_,Z,?_⟩,e0.fin⟩;suffices z:opS n a b=b by rw[z];exact RdE.keep (e0.keep0 M) _ _ s0
   unfold opS;simp[z0,z1];done
  refine lO B0.k [.w 2] Z ⟨⟨Z,by rfl⟩,U⟩ (f0a B0 c1a Z Z (v0a b 0 M _ _ (RdE.keep (B0.keep0 M) _ _ s0)) (fun G0 e2 o0 W1=>?_) (fun G0 e2 o0 W1=>?_))
  ·refine lO o0.k [.w 1] Z ⟨⟨Z,by rfl⟩,U⟩ (b0a (kk:=3) (vs:=[_,_,_,_]) o0 w0a Z Z Z Z Z Z Z ?_);intro J1 f0 q1;dsimp only[d0a,List.set] at f0;refine lR0 Z U ?_;have z0:=v1;have z1:isC a 0=false:=E0;have z2:isC b 0=true:=G0;refine g0a Z m0a Z (f0.cells 3 Z) Z ⟨⟨_,Z,?_⟩,f0.fin⟩;suffices z:opS n a b=a by rw[z];exact RdE.keep (f0.keep0 M) _ _ q0
   unfold opS;simp[z0,z1,z2];done
  refine lOn 6 o0.k [] Z U ?_;cases F0:E.beq a b
  ·refine N0a (hv:=Z) (v:=.bool _) Z ?_;refine lO o0.k [.w 4] Z ⟨⟨Z,by rfl⟩,U⟩ (b0a (kk:=3) (vs:=[_,_,_,_]) o0 w0a Z Z Z Z Z Z Z ?_);intro j0 a0 g0;dsimp only[d0a,List.set] at a0;refine lR0 Z U ?_;have z0:=v1;have z1:isC a 0=false:=E0;have z2:isC b 0=false:=G0;have z3:E.beq a b=false:=F0;refine g0a Z m0a Z (a0.cells 3 Z) Z ⟨⟨_,Z,?_⟩,a0.fin⟩;suffices z:opS n a b=n by rw[z];exact RdE.keep (a0.keep0 M) _ _ hR
   unfold opS;simp[z0,z1,z2,z3];done
  refine N0a (hv:=Z) (v:=.bool _) Z ?_;refine lB o0.k [.o 4] Z ⟨Z,U⟩ (fun a2=>?_) fun a2=>?_
  ·refine lO o0.k [.w 0] Z ⟨⟨Z,by rfl⟩,U⟩ (b0a (kk:=3) (vs:=[_,_,_,_]) o0 w0a Z Z Z Z Z Z Z ?_);intro K1 r0 r1;dsimp only[d0a,List.set] at r0;refine lR0 Z U ?_;have z0:=v1;have z1:isC a 0=false:=E0;have z2:isC b 0=false:=G0;have z3:E.beq a b=true:=F0;refine g0a Z m0a Z (r0.cells 3 Z) Z ⟨⟨_,Z,?_⟩,r0.fin⟩;suffices z:opS n a b=⟨1,n.w,0,[]⟩ by rw[z];exact RdE.leafAny W0
   unfold opS;simp[z0,z1,z2,z3];done
  refine lO o0.k [.w 4] Z ⟨⟨Z,by rfl⟩,U⟩ (b0a (kk:=3) (vs:=[_,_,_,_]) o0 w0a Z Z Z Z Z Z Z ?_);intro j0 a0 g0;dsimp only[d0a,List.set] at a0;refine lR0 Z U ?_;exfalso;omega
 refine lB0 Z U (fun x1=>?_) fun x1=>?_
 ·refine lO b0.k [.w 1] Z ⟨⟨Z,by rfl⟩,U⟩ (f0a b0 c1a Z Z (v0a a 0 M _ _ (RdE.keep (b0.keep0 M) _ _ q0)) (fun E0 d2 B0 V1=>?_) (fun E0 d2 B0 V1=>?_))
  ·refine lO B0.k [.w 2] Z ⟨⟨Z,by rfl⟩,U⟩ (b0a (kk:=3) (vs:=[_,_,_,_]) B0 w0a Z Z Z Z Z Z Z ?_);intro I1 e0 p1;dsimp only[d0a,List.set] at e0;refine lR0 Z U ?_;have z0:=x1;have z1:isC a 0=true:=E0;refine g0a Z m0a Z (e0.cells 3 Z) Z ⟨⟨_,Z,?_⟩,e0.fin⟩;suffices z:opS n a b=b by rw[z];exact RdE.keep (e0.keep0 M) _ _ s0
   unfold opS;simp[z0,z1];done
  refine lO B0.k [.w 2] Z ⟨⟨Z,by rfl⟩,U⟩ (f0a B0 c1a Z Z (v0a b 0 M _ _ (RdE.keep (B0.keep0 M) _ _ s0)) (fun G0 e2 o0 W1=>?_) (fun G0 e2 o0 W1=>?_))
  ·refine lO o0.k [.w 1] Z ⟨⟨Z,by rfl⟩,U⟩ (b0a (kk:=3) (vs:=[_,_,_,_]) o0 w0a Z Z Z Z Z Z Z ?_);intro J1 f0 q1;dsimp only[d0a,List.set] at f0;refine lR0 Z U ?_;have z0:=x1;have z1:isC a 0=false:=E0;have z2:isC b 0=true:=G0;refine g0a Z m0a Z (f0.cells 3 Z) Z ⟨⟨_,Z,?_⟩,f0.fin⟩;suffices z:opS n a b=a by rw[z];exact RdE.keep (f0.keep0 M) _ _ q0
   unfold opS;simp[z0,z1,z2];done
  refine lOn 6 o0.k [] Z U ?_;cases F0:E.beq a b
  ·refine N0a (hv:=Z) (v:=.bool _) Z ?_;refine lO o0.k [.w 4] Z ⟨⟨Z,by rfl⟩,U⟩ (b0a (kk:=3) (vs:=[_,_,_,_]) o0 w0a Z Z Z Z Z Z Z ?_);intro j0 a0 g0;dsimp only[d0a,List.set] at a0;refine lR0 Z U ?_;have z0:=x1;have z1:isC a 0=false:=E0;have z2:isC b 0=false:=G0;have z3:E.beq a b=false:=F0;refine g0a Z m0a Z (a0.cells 3 Z) Z ⟨⟨_,Z,?_⟩,a0.fin⟩;suffices z:opS n a b=n by rw[z];exact RdE.keep (a0.keep0 M) _ _ hR
   unfold opS;simp[z0,z1,z2,z3];done
  refine N0a (hv:=Z) (v:=.bool _) Z ?_;refine lB o0.k [.o 4] Z ⟨Z,U⟩ (fun a2=>?_) fun a2=>?_
  ·refine lO o0.k [.w 0] Z ⟨⟨Z,by rfl⟩,U⟩ (b0a (kk:=3) (vs:=[_,_,_,_]) o0 w0a Z Z Z Z Z Z Z ?_);intro K1 r0 r1;dsimp only[d0a,List.set] at r0;refine lR0 Z U ?_;exfalso;omega
  refine lO o0.k [.w 4] Z ⟨⟨Z,by rfl⟩,U⟩ (b0a (kk:=3) (vs:=[_,_,_,_]) o0 w0a Z Z Z Z Z Z Z ?_);intro j0 a0 g0;dsimp only[d0a,List.set] at a0;refine lR0 Z U ?_;have z0:=x1;have z1:isC a 0=false:=E0;have z2:isC b 0=false:=G0;have z3:E.beq a b=true:=F0;refine g0a Z m0a Z (a0.cells 3 Z) Z ⟨⟨_,Z,?_⟩,a0.fin⟩;suffices z:opS n a b=n by rw[z];exact RdE.keep (a0.keep0 M) _ _ hR
  unfold opS;simp[z0,z1,z2,z3];done
 refine lB0 Z U (fun P1=>?_) fun P1=>?_
 ·refine lO b0.k [.w 2] Z ⟨⟨Z,by rfl⟩,U⟩ (f0a b0 c1a Z Z (v0a b 0 M _ _ (RdE.keep (b0.keep0 M) _ _ s0)) (fun Q1 x3 L0 U2=>?_) (fun Q1 x3 L0 U2=>?_))
  ·refine lO L0.k [.w 1] Z ⟨⟨Z,by rfl⟩,U⟩ (b0a (kk:=3) (vs:=[_,_,_,_]) L0 w0a Z Z Z Z Z Z Z ?_);intro B2 x0 q2;dsimp only[d0a,List.set] at x0;refine lR0 Z U ?_;have z0:=P1;have z1:isC b 0=true:=Q1;refine g0a Z m0a Z (x0.cells 3 Z) Z ⟨⟨_,Z,?_⟩,x0.fin⟩;suffices z:opS n a b=a by rw[z];exact RdE.keep (x0.keep0 M) _ _ q0
   unfold opS;simp[z0,z1];done
  refine lOn 6 L0.k [] Z U ?_;cases C1:E.beq a b
  ·refine N0a (hv:=Z) (v:=.bool _) Z ?_;refine lO L0.k [.w 4] Z ⟨⟨Z,by rfl⟩,U⟩ (b0a (kk:=3) (vs:=[_,_,_,_]) L0 w0a Z Z Z Z Z Z Z ?_);intro j0 a0 g0;dsimp only[d0a,List.set] at a0;refine lR0 Z U ?_;have z0:=P1;have z1:isC b 0=false:=Q1;have z2:E.beq a b=false:=C1;refine g0a Z m0a Z (a0.cells 3 Z) Z ⟨⟨_,Z,?_⟩,a0.fin⟩;suffices z:opS n a b=n by rw[z];exact RdE.keep (a0.keep0 M) _ _ hR
   unfold opS;simp[z0,z1,z2];done
  refine N0a (hv:=Z) (v:=.bool _) Z ?_;refine lO L0.k [.w 0] Z ⟨⟨Z,by rfl⟩,U⟩ (b0a (kk:=3) (vs:=[_,_,_,_]) L0 w0a Z Z Z Z Z Z Z ?_);intro C2 D0 r2;dsimp only[d0a,List.set] at D0;refine lR0 Z U ?_;have z0:=P1;have z1:isC b 0=false:=Q1;have z2:E.beq a b=true:=C1;refine g0a Z m0a Z (D0.cells 3 Z) Z ⟨⟨_,Z,?_⟩,D0.fin⟩;suffices z:opS n a b=⟨1,n.w,0,[]⟩ by rw[z];exact RdE.leafAny W0
  unfold opS;simp[z0,z1,z2];done
 refine lB0 Z U (fun f1=>?_) fun f1=>?_
 ·refine lO b0.k [.w 1] Z ⟨⟨Z,by rfl⟩,U⟩ (f0a b0 c1a Z Z (v0a a 0 M _ _ (RdE.keep (b0.keep0 M) _ _ q0)) (fun i1 y3 Z0 V2=>?_) (fun i1 y3 Z0 V2=>?_))
  ·refine lO Z0.k [.w 0] Z ⟨⟨Z,by rfl⟩,U⟩ (b0a (kk:=3) (vs:=[_,_,_,_]) Z0 w0a Z Z Z Z Z Z Z ?_);intro M1 n0 s1;dsimp only[d0a,List.set] at n0;refine lR0 Z U ?_;have z0:=f1;have z1:isC a 0=true:=i1;refine g0a Z m0a Z (n0.cells 3 Z) Z ⟨⟨_,Z,?_⟩,n0.fin⟩;suffices z:opS n a b=⟨1,n.w,0,[]⟩ by rw[z];exact RdE.leafAny W0
   unfold opS;simp[z0,z1];done
  refine lO Z0.k [.w 2] Z ⟨⟨Z,by rfl⟩,U⟩ (f0a Z0 c1a Z Z (v0a b 0 M _ _ (RdE.keep (Z0.keep0 M) _ _ s0)) (fun y1 A3 a1 W2=>?_) (fun y1 A3 a1 W2=>?_))
  ·refine lO a1.k [.w 0] Z ⟨⟨Z,by rfl⟩,U⟩ (b0a (kk:=3) (vs:=[_,_,_,_]) a1 w0a Z Z Z Z Z Z Z ?_);intro M1 n0 s1;dsimp only[d0a,List.set] at n0;refine lR0 Z U ?_;have z0:=f1;have z1:isC a 0=false:=i1;have z2:isC b 0=true:=y1;refine g0a Z m0a Z (n0.cells 3 Z) Z ⟨⟨_,Z,?_⟩,n0.fin⟩;suffices z:opS n a b=⟨1,n.w,0,[]⟩ by rw[z];exact RdE.leafAny W0
   unfold opS;simp[z0,z1,z2];done
  refine lO a1.k [.w 1] Z ⟨⟨Z,by rfl⟩,U⟩ (f0a a1 c1a Z Z (v0a a 1 M _ _ (RdE.keep (a1.keep0 M) _ _ q0)) (fun R1 B3 b1 Y2=>?_) (fun R1 B3 b1 Y2=>?_))
  ·refine lO b1.k [.w 2] Z ⟨⟨Z,by rfl⟩,U⟩ (b0a (kk:=3) (vs:=[_,_,_,_]) b1 w0a Z Z Z Z Z Z Z ?_);intro D2 y0 s2;dsimp only[d0a,List.set] at y0;refine lR0 Z U ?_;have z0:=f1;have z1:isC a 0=false:=i1;have z2:isC b 0=false:=y1;have z3:isC a 1=true:=R1;refine g0a Z m0a Z (y0.cells 3 Z) Z ⟨⟨_,Z,?_⟩,y0.fin⟩;suffices z:opS n a b=b by rw[z];exact RdE.keep (y0.keep0 M) _ _ s0
   unfold opS;simp[z0,z1,z2,z3];done
  refine lO b1.k [.w 2] Z ⟨⟨Z,by rfl⟩,U⟩ (f0a b1 c1a Z Z (v0a b 1 M _ _ (RdE.keep (b1.keep0 M) _ _ s0)) (fun R0 b2 C0 U1=>?_) (fun R0 b2 C0 U1=>?_))
  ·refine lO C0.k [.w 1] Z ⟨⟨Z,by rfl⟩,U⟩ (b0a (kk:=3) (vs:=[_,_,_,_]) C0 w0a Z Z Z Z Z Z Z ?_);intro E2 A0 t2;dsimp only[d0a,List.set] at A0;refine lR0 Z U ?_;have z0:=f1;have z1:isC a 0=false:=i1;have z2:isC b 0=false:=y1;have z3:isC a 1=false:=R1;have z4:isC b 1=true:=R0;refine g0a Z m0a Z (A0.cells 3 Z) Z ⟨⟨_,Z,?_⟩,A0.fin⟩;suffices z:opS n a b=a by rw[z];exact RdE.keep (A0.keep0 M) _ _ q0
   unfold opS;simp[z0,z1,z2,z3,z4];done
  refine lO C0.k [.w 4] Z ⟨⟨Z,by rfl⟩,U⟩ (b0a (kk:=3) (vs:=[_,_,_,_]) C0 w0a Z Z Z Z Z Z Z ?_);intro j0 a0 g0;dsimp only[d0a,List.set] at a0;refine lR0 Z U ?_;have z0:=f1;have z1:isC a 0=false:=i1;have z2:isC b 0=false:=y1;have z3:isC a 1=false:=R1;have z4:isC b 1=false:=R0;refine g0a Z m0a Z (a0.cells 3 Z) Z ⟨⟨_,Z,?_⟩,a0.fin⟩;suffices z:opS n a b=n by rw[z];exact RdE.keep (a0.keep0 M) _ _ hR
  unfold opS;simp[z0,z1,z2,z3,z4];done
 refine lO b0.k [.w 4] Z ⟨⟨Z,by rfl⟩,U⟩ (b0a (kk:=3) (vs:=[_,_,_,_]) b0 w0a Z Z Z Z Z Z Z ?_);intro j0 a0 g0;dsimp only[d0a,List.set] at a0;refine lR0 Z U ?_;exfalso;omega
theorem v5a(n a b:E)(M:List Nat)(w0:World)(cs:List Value)(hM:∀g∈M,g<w0.heap.size)(hR:RdE M w0 n cs)(hK:k2a M w0)(hk:n.kids=[a,b])(wb:1≤b.w∧b.w≤8)(U1:a.op=4→∃x,a.kids=[x])(V1:b.op=4→∃x,b.kids=[x]):
 O0a prog 157 #[.agg cs.toArray] w0 fun v w'=>(∃cs:List Value,v=.agg cs.toArray∧RdE M w' (z6a n a b) cs)∧Bw w0 w':=by
 obtain⟨_,m,_,rfl,_,_,_,hn,_⟩:=hR.open_;obtain⟨_,_,_,rfl,_,W1,A0⟩:=hR.kidC 0 (a:=a) (by rw[hk];rfl);obtain⟨_,_,_,T1,-,Y1,v0⟩:=hR.kidC 1 (a:=b) (by rw[hk];rfl);cases T1;obtain⟨_,_,_,rfl,-⟩:=A0.open_;obtain⟨_,_,_,rfl,-⟩:=v0.open_;have b2:m=2:=by rw[hn,hk];rfl
 subst b2;have i0:i64 0:=by unfold i64;omega
 have i1:i64 1:=by unfold i64;omega
 have S:=St.refl w0;refine a0a func157 Z ntmps157 Z ?_;refine wO0 Z U (r0a S Z ?_);intro g1 w1 S1 X1 G1;refine h0a S1 w1a Z Z ?_;intro g2 w2 S2 X2 G2;refine lC0 Z U (H0a c0a [0,1,2,3,4,5,6,7] [8,9] [10,11] Z (Cl _ _ _ _) (Cl.start S2) ?_);refine qO S2.q [.o 1] Z ⟨Z,U⟩ (q0a R0a.slT Z (by rfl) Z Z ?_);refine C1a m0a Z (fun w1 hw=>(fun j v hj=>hw.1.old (W1 j v hj))) (by rfl) Z ?_;refine qO S2.q [.o 1] Z ⟨Z,U⟩ (q0a R0a.slT Z (by rfl) Z Z ?_);refine C1a m0a Z (fun w1 hw=>(fun j v hj=>hw.1.old (Y1 j v hj))) (by rfl) Z ?_;refine qN0 Z U (R3a ?_);refine g6a Z Z w1a Z ?_;refine g6a Z Z w1a Z ?_;refine O1a ?_;rintro K2 ⟨F0,_⟩;intro g4 a2 G4 f2;intro g3 Z1 G3 n1;dsimp only[y3a];clear f2;replace F0:=F0.push_new S2 a2 G4;simp only[List.mem_cons,List.not_mem_nil,or_false] at n1;replace F0:=F0.push_more (L1:=[_]) S2 Z1 G3 (by simpa[eq_comm] using n1);refine b0a (kk:=0) (vs:=[_,_,_,_]) F0 w0a Z Z Z Z Z Z Z ?_;intro v1 t0 d1;dsimp only[d0a,List.set] at t0;refine b0a (kk:=1) (vs:=[_,_,_,_]) t0 w0a Z Z Z Z Z Z Z ?_;intro x1 c0 f1;dsimp only[d0a,List.set] at c0;have m1:∀g∈g2::M,g∈M∨w0.heap.size≤g:=fun g hg=>by rcases List.mem_cons.1 hg with rfl|hg;exact .inr (by simpa using c0.new 2 Z);exact .inl hg
 refine lO0 Z U (W0a c0 d3b Z Z (f0b a b _ g3 0 g4 0 ⟨by simp,_,c0.cells 0 Z,RdE.less (by simp) _ _ (RdE.keep (c0.keep0 M) _ _ A0)⟩ ⟨by simp,_,c0.cells 1 Z,RdE.less (by simp) _ _ (RdE.keep (c0.keep0 M) _ _ v0)⟩) ?_);intro F2 e0 y2;refine lB e0.k [.o 3] Z ⟨Z,U⟩ (fun p0=>?_) fun p0=>?_
 ·refine lOn 7 e0.k [] Z U ?_;cases y0:E.beq a b
  ·refine N0a (hv:=Z) (v:=.bool _) Z ?_;refine lO e0.k [.w 1] Z ⟨⟨Z,by rfl⟩,U⟩ (f0a e0 c1a Z Z (v0a b 0 M _ _ (RdE.keep (e0.keep0 M) _ _ v0)) (fun V0 n2 O0 E1=>?_) (fun V0 n2 O0 E1=>?_))
   ·refine lO0 Z U (o0a O0 r4a Z Z (R1a 0 1 i0 i1 M _) ?_);rintro j2 o2 ⟨Q1,rfl,K0⟩ S0 F1;obtain⟨y1,d2,h2,rfl,-⟩:=K0.open_;refine b0a (kk:=2) (vs:=[_,_,_,_]) S0 w0a Z Z Z Z Z Z Z ?_;intro a1 f0 U0;dsimp only[d0a,List.set] at f0;refine lR0 Z U ?_;have z0:=p0;have z1:E.beq a b=false:=y0;have z2:isC b 0=true:=V0;refine g0a Z m0a Z (f0.cells 2 Z) Z ⟨⟨_,Z,?_⟩,f0.fin⟩;suffices z:z6a n a b=⟨1,1,0,[]⟩ by rw[z];exact RdE.leafAny K0
    unfold z6a;simp[z0,z1,z2];done
   refine lO O0.k [.w 3] Z ⟨⟨Z,by rfl⟩,U⟩ (b0a (kk:=2) (vs:=[_,_,_,_]) O0 w0a Z Z Z Z Z Z Z ?_);intro q0 a0 o0;dsimp only[d0a,List.set] at a0;refine lR0 Z U ?_;have z0:=p0;have z1:E.beq a b=false:=y0;have z2:isC b 0=false:=V0;refine g0a Z m0a Z (a0.cells 2 Z) Z ⟨⟨_,Z,?_⟩,a0.fin⟩;suffices z:z6a n a b=n by rw[z];exact RdE.keep (a0.keep0 M) _ _ hR
   unfold z6a;simp[z0,z1,z2];done
  refine N0a (hv:=Z) (v:=.bool _) Z ?_;refine lO0 Z U (o0a e0 r4a Z Z (R1a 0 1 i0 i1 M _) ?_);rintro j2 o2 ⟨Q1,rfl,K0⟩ S0 F1;obtain⟨y1,d2,h2,rfl,-⟩:=K0.open_;refine b0a (kk:=2) (vs:=[_,_,_,_]) S0 w0a Z Z Z Z Z Z Z ?_;intro a1 f0 U0;dsimp only[d0a,List.set] at f0;refine lR0 Z U ?_;have z0:=p0;have z1:E.beq a b=true:=y0;refine g0a Z m0a Z (f0.cells 2 Z) Z ⟨⟨_,Z,?_⟩,f0.fin⟩;suffices z:z6a n a b=⟨1,1,0,[]⟩ by rw[z];exact RdE.leafAny K0
  unfold z6a;simp[z0,z1];done
 refine lOn 6 e0.k [] Z U ?_;cases d0:E.beq a b
 ·refine N0a (hv:=Z) (v:=.bool _) Z ?_;refine lB e0.k [.o 3] Z ⟨Z,U⟩ (fun r0=>?_) fun r0=>?_
  ·refine lO e0.k [.w 0] Z ⟨⟨Z,by rfl⟩,U⟩ (f0a e0 c1a Z Z (v0a a 0 M _ _ (RdE.keep (e0.keep0 M) _ _ A0)) (fun Q0 p2 B0 H1=>?_) (fun Q0 p2 B0 H1=>?_))
   ·refine lO0 Z U (o0a B0 r4a Z Z (R1a 1 1 i1 i1 M _) ?_);rintro m2 r2 ⟨R1,rfl,L0⟩ T0 J1;obtain⟨A1,e2,i2,rfl,-⟩:=L0.open_;refine b0a (kk:=2) (vs:=[_,_,_,_]) T0 w0a Z Z Z Z Z Z Z ?_;intro N0 b0 G0;dsimp only[d0a,List.set] at b0;refine lR0 Z U ?_;have z0:E.beq a b=false:=d0;have z1:n.op=13:=r0;have z2:isC a 0=true:=Q0;refine g0a Z m0a Z (b0.cells 2 Z) Z ⟨⟨_,Z,?_⟩,b0.fin⟩;suffices z:z6a n a b=⟨1,1,1,[]⟩ by rw[z];exact RdE.leafAny L0
    unfold z6a;simp[z0,z1,z2];done
   refine lO B0.k [.w 1] Z ⟨⟨Z,by rfl⟩,U⟩ (f0a B0 T9a Z Z (J5a (hw:=wb) b M _ _ (RdE.keep (B0.keep0 M) _ _ v0) (hK.keep (B0.keep0 M))) (fun W0 q2 P0 I1=>?_) (fun W0 q2 P0 I1=>?_))
   ·refine lO0 Z U (o0a P0 r4a Z Z (R1a 1 1 i1 i1 M _) ?_);rintro m2 r2 ⟨R1,rfl,L0⟩ T0 J1;obtain⟨A1,e2,i2,rfl,-⟩:=L0.open_;refine b0a (kk:=2) (vs:=[_,_,_,_]) T0 w0a Z Z Z Z Z Z Z ?_;intro N0 b0 G0;dsimp only[d0a,List.set] at b0;refine lR0 Z U ?_;have z0:E.beq a b=false:=d0;have z1:n.op=13:=r0;have z2:isC a 0=false:=Q0;have z3:isO b=true:=W0;refine g0a Z m0a Z (b0.cells 2 Z) Z ⟨⟨_,Z,?_⟩,b0.fin⟩;suffices z:z6a n a b=⟨1,1,1,[]⟩ by rw[z];exact RdE.leafAny L0
    unfold z6a;simp[z0,z1,z2,z3];done
   refine lO P0.k [.w 3] Z ⟨⟨Z,by rfl⟩,U⟩ (b0a (kk:=2) (vs:=[_,_,_,_]) P0 w0a Z Z Z Z Z Z Z ?_);intro q0 a0 o0;dsimp only[d0a,List.set] at a0;refine lR0 Z U ?_;have z0:E.beq a b=false:=d0;have z1:n.op=13:=r0;have z2:isC a 0=false:=Q0;have z3:isO b=false:=W0;refine g0a Z m0a Z (a0.cells 2 Z) Z ⟨⟨_,Z,?_⟩,a0.fin⟩;suffices z:z6a n a b=n by rw[z];exact RdE.keep (a0.keep0 M) _ _ hR
   unfold z6a;simp[z0,z1,z2,z3];done
  refine lB e0.k [.o 0] Z ⟨Z,U⟩ (fun j1=>?_) fun j1=>?_
  ·refine lO e0.k [.w 3] Z ⟨⟨Z,by rfl⟩,U⟩ (b0a (kk:=2) (vs:=[_,_,_,_]) e0 w0a Z Z Z Z Z Z Z ?_);intro q0 a0 o0;dsimp only[d0a,List.set] at a0;refine lR0 Z U ?_;have z0:=p0;have z1:E.beq a b=false:=d0;have z2:=r0;have z3:=j1;refine g0a Z m0a Z (a0.cells 2 Z) Z ⟨⟨_,Z,?_⟩,a0.fin⟩;suffices z:z6a n a b=n by rw[z];exact RdE.keep (a0.keep0 M) _ _ hR
   unfold z6a;simp[z0,z1,z2,z3];done
  refine lO e0.k [.w 0] Z ⟨⟨Z,by rfl⟩,U⟩ (f0a e0 c1a Z Z (v0a a 1 M _ _ (RdE.keep (e0.keep0 M) _ _ A0)) (fun E0 s2 C0 K1=>?_) (fun E0 s2 C0 K1=>?_))
  ·refine lO C0.k [.w 1] Z ⟨⟨Z,by rfl⟩,U⟩ (b0a (kk:=2) (vs:=[_,_,_,_]) C0 w0a Z Z Z Z Z Z Z ?_);intro r1 g0 b1;dsimp only[d0a,List.set] at g0;refine lR0 Z U ?_;have z0:=p0;have z1:E.beq a b=false:=d0;have z2:=r0;have z3:¬1<a.w:=(show ¬(1<a.w) by omega);have z4:isC a 1=true:=E0;refine g0a Z m0a Z (g0.cells 2 Z) Z ⟨⟨_,Z,?_⟩,g0.fin⟩;suffices z:z6a n a b=b by rw[z];exact RdE.keep (g0.keep0 M) _ _ v0
   unfold z6a;simp[z0,z1,z2,z3,z4];done
  refine lO C0.k [.w 1] Z ⟨⟨Z,by rfl⟩,U⟩ (f0a C0 c1a Z Z (v0a b 1 M _ _ (RdE.keep (C0.keep0 M) _ _ v0)) (fun J0 t2 D0 M1=>?_) (fun J0 t2 D0 M1=>?_))
  ·refine lO D0.k [.w 0] Z ⟨⟨Z,by rfl⟩,U⟩ (b0a (kk:=2) (vs:=[_,_,_,_]) D0 w0a Z Z Z Z Z Z Z ?_);intro s1 j0 c1;dsimp only[d0a,List.set] at j0;refine lR0 Z U ?_;have z0:=p0;have z1:E.beq a b=false:=d0;have z2:=r0;have z3:¬1<a.w:=(show ¬(1<a.w) by omega);have z4:isC a 1=false:=E0;have z5:isC b 1=true:=J0;refine g0a Z m0a Z (j0.cells 2 Z) Z ⟨⟨_,Z,?_⟩,j0.fin⟩;suffices z:z6a n a b=a by rw[z];exact RdE.keep (j0.keep0 M) _ _ A0
   unfold z6a;simp[z0,z1,z2,z3,z4,z5];done
  refine lO D0.k [.w 0] Z ⟨⟨Z,by rfl⟩,U⟩ (f0a D0 c1a Z Z (v0a a 0 M _ _ (RdE.keep (D0.keep0 M) _ _ A0)) (fun R0 u2 s0 N1=>?_) (fun R0 u2 s0 N1=>?_))
  ·refine lO s0.k [.w 1] Z ⟨⟨Z,by rfl⟩,U⟩ ?_;refine o0a s0 T5a Z Z (O5a b (g2::M) _ _ (RdE.keep (s0.keep0 _) _ _ (RdE.more m1 _ _ v0)) (fun g hg=>by rcases List.mem_cons.1 hg with rfl|hg;exact s0.lt 2 Z;have:=hM g hg;have:=s0.size;omega) V1) ?_;rintro v55 I2 ⟨_,rfl,p1⟩ C1 B2;have Y0:=p1;obtain⟨_,_,_,rfl,-⟩:=p1.open_;refine b0a (kk:=2) (vs:=[_,_,_,_]) C1 w0a Z Z Z Z Z Z Z ?_;intro t1 m0 H0;dsimp only[d0a,List.set] at m0;refine lR0 Z U ?_;have z0:=p0;have z1:E.beq a b=false:=d0;have z2:=r0;have z3:¬1<a.w:=(show ¬(1<a.w) by omega);have z4:isC a 1=false:=E0;have z5:isC b 1=false:=J0;have z6:isC a 0=true:=R0;refine g0a Z m0a Z (m0.cells 2 Z) Z ⟨⟨_,Z,?_⟩,m0.fin⟩;suffices z:z6a n a b=z7b b by rw[z];exact RdE.less (fun g hg=>List.mem_cons_of_mem _ hg) _ _ (RdE.keep (H0.mono (by simp)) _ _ Y0)
   unfold z6a;simp[z0,z1,z2,z3,z4,z5,z6];done
  refine lO s0.k [.w 1] Z ⟨⟨Z,by rfl⟩,U⟩ (f0a s0 c1a Z Z (v0a b 0 M _ _ (RdE.keep (s0.keep0 M) _ _ v0)) (fun X0 v2 u0 O1=>?_) (fun X0 v2 u0 O1=>?_))
  ·refine lO u0.k [.w 0] Z ⟨⟨Z,by rfl⟩,U⟩ ?_;refine o0a u0 T5a Z Z (O5a a (g2::M) _ _ (RdE.keep (u0.keep0 _) _ _ (RdE.more m1 _ _ A0)) (fun g hg=>by rcases List.mem_cons.1 hg with rfl|hg;exact u0.lt 2 Z;have:=hM g hg;have:=u0.size;omega) U1) ?_;rintro E2 J2 ⟨_,rfl,q1⟩ D1 C2;have Z0:=q1;obtain⟨_,_,_,rfl,-⟩:=q1.open_;refine b0a (kk:=2) (vs:=[_,_,_,_]) D1 w0a Z Z Z Z Z Z Z ?_;intro u1 n0 I0;dsimp only[d0a,List.set] at n0;refine lR0 Z U ?_;have z0:=p0;have z1:E.beq a b=false:=d0;have z2:=r0;have z3:¬1<a.w:=(show ¬(1<a.w) by omega);have z4:isC a 1=false:=E0;have z5:isC b 1=false:=J0;have z6:isC a 0=false:=R0;have z7:isC b 0=true:=X0;refine g0a Z m0a Z (n0.cells 2 Z) Z ⟨⟨_,Z,?_⟩,n0.fin⟩;suffices z:z6a n a b=z7b a by rw[z];exact RdE.less (fun g hg=>List.mem_cons_of_mem _ hg) _ _ (RdE.keep (I0.mono (by simp)) _ _ Z0)
   unfold z6a;simp[z0,z1,z2,z3,z4,z5,z6,z7];done
  refine lO u0.k [.w 3] Z ⟨⟨Z,by rfl⟩,U⟩ (b0a (kk:=2) (vs:=[_,_,_,_]) u0 w0a Z Z Z Z Z Z Z ?_);intro q0 a0 o0;dsimp only[d0a,List.set] at a0;refine lR0 Z U ?_;have z0:=p0;have z1:E.beq a b=false:=d0;have z2:=r0;have z3:¬1<a.w:=(show ¬(1<a.w) by omega);have z4:isC a 1=false:=E0;have z5:isC b 1=false:=J0;have z6:isC a 0=false:=R0;have z7:isC b 0=false:=X0;refine g0a Z m0a Z (a0.cells 2 Z) Z ⟨⟨_,Z,?_⟩,a0.fin⟩;suffices z:z6a n a b=n by rw[z];exact RdE.keep (a0.keep0 M) _ _ hR
  unfold z6a;simp[z0,z1,z2,z3,z4,z5,z6,z7];done
 refine N0a (hv:=Z) (v:=.bool _) Z ?_;refine lO0 Z U (o0a e0 r4a Z Z (R1a 1 1 i1 i1 M _) ?_);rintro D2 H2 ⟨_,rfl,o1⟩ B1 A2;obtain⟨_,_,_,rfl,-⟩:=o1.open_;refine b0a (kk:=2) (vs:=[_,_,_,_]) B1 w0a Z Z Z Z Z Z Z ?_;intro x2 x0 P1;dsimp only[d0a,List.set] at x0;refine lR0 Z U ?_;have z0:=p0;have z1:E.beq a b=true:=d0;refine g0a Z m0a Z (x0.cells 2 Z) Z ⟨⟨_,Z,?_⟩,x0.fin⟩;suffices z:z6a n a b=⟨1,1,1,[]⟩ by rw[z];exact RdE.leafAny o1
 unfold z6a;simp[z0,z1];done
theorem H2c(n t a b:E)(M:List Nat)(w0:World)(cs:List Value)(hM:∀g∈M,g<w0.heap.size)(hR:RdE M w0 n cs)(hk:n.kids=[t,a,b])(n1:t.op=4→∃x,t.kids=[x]):
 O0a prog 158 #[.agg cs.toArray] w0 fun v w'=>(∃cs:List Value,v=.agg cs.toArray∧RdE M w' (n7a n t a b) cs)∧Bw w0 w':=by
 obtain⟨_,m,c,rfl,_,_,_,hn,_⟩:=hR.open_;obtain⟨ba,oa,_,rfl,_,R1,Y0⟩:=hR.kidC 0 (a:=t) (by rw[hk];rfl);obtain⟨_,_,_,N1,-,P1,W0⟩:=hR.kidC 1 (a:=a) (by rw[hk];rfl);cases N1;obtain⟨_,_,_,O1,-,Q1,X0⟩:=hR.kidC 2 (a:=b) (by rw[hk];rfl);cases O1;obtain⟨At,nt,qt,rfl,-⟩:=Y0.open_;obtain⟨Aa,na,qa,rfl,-⟩:=W0.open_;obtain⟨Ab,nb,qb,rfl,-⟩:=X0.open_;have T1:m=3:=by rw[hn,hk];rfl
 subst T1;have S:=St.refl w0;refine a0a func158 Z ntmps158 Z ?_;refine wO0 Z U (r0a S Z ?_);intro g1 w1 S1 X1 G1;refine h0a S1 w1a Z Z ?_;intro g2 w2 S2 X2 G2;refine lCn 2 S2.k [] Z U (wX (fun D ε w=>D=[]∧∃g1:Nat,∃g2:Nat,∃g3:Nat,∃g4:Nat,∃g5:Nat,St [] w0 w [(some g5,38,[.int .i64 b.op,.int .i64 b.w,.int .i64 b.n,.slice Ab nb qb]),(some g4,38,[.int .i64 a.op,.int .i64 a.w,.int .i64 a.n,.slice Aa na qa]),(some g3,38,[.int .i64 t.op,.int .i64 t.w,.int .i64 t.n,.slice At nt qt]),(some g2,38,[.int .i64 0,.int .i64 0,.int .i64 0,.slice none 0 0]),(some g1,38,[.int .i64 n.op,.int .i64 n.w,.int .i64 n.n,.slice (some ⟨ba,oa,none⟩) 3 c])]∧Sl ε [(1,.pointer (some ⟨g1,0,none⟩)),(2,.pointer (some ⟨g2,0,none⟩)),(3,.pointer (some ⟨g3,0,none⟩)),(4,.pointer (some ⟨g4,0,none⟩)),(5,.pointer (some ⟨g5,0,none⟩))]) ?_ ?_)
 ·refine U8a c0a (fun i=>[0,1,2,3,4,5,6,7,8,9,10,11].contains i) (.op 0 (.op 1 (.op 2 (.op 3 (.op 4 (.op 5 (.op 6 (.op 7 (.op 8 (.op 9 (.op 10 (.op 11 (.two (.op 12 (.two (.op 13 (.op 14 (.op 15 (.op 16 (.op 17 .nil))))) (.op 14 (.op 13 (.op 15 (.op 16 (.op 17 .nil))))))) (.two (.op 13 (.two (.op 12 (.op 14 (.op 15 (.op 16 (.op 17 .nil))))) (.op 14 (.op 12 (.op 15 (.op 16 (.op 17 .nil))))))) (.op 14 (.two (.op 12 (.op 13 (.op 15 (.op 16 (.op 17 .nil))))) (.op 13 (.op 12 (.op 15 (.op 16 (.op 17 .nil))))))))))))))))))))) (b6c S2) ?_;have O0:=S2.drew;have F0:y0a [] w2 w2.drew:=o2a _ _;generalize w2.drew=Z1 at O0 F0 ⊢;refine B1a ⟨O0,F0⟩ Z Z Z ?_;refine u0a I0b Z Z ?_;refine i0a ?_;refine B1a ⟨O0,F0⟩ Z Z Z ?_;refine k0a r1a Z (fun w1 hw=>by exact hw.1.cell 1 Z Z) Z ?_;refine i0a ?_;refine B1a ⟨O0,F0⟩ Z Z Z ?_;refine q0a R0a.slT Z (by rfl) Z Z ?_;refine i0a ?_;refine B1a ⟨O0,F0⟩ Z Z Z ?_;refine C1a m0a Z (fun w1 hw=>(fun j v hj=>hw.1.old (R1 j v hj))) (by rfl) Z ?_;refine i0a ?_;refine B1a ⟨O0,F0⟩ Z Z Z ?_;refine u0a I0b Z Z ?_;refine i0a ?_;refine B1a ⟨O0,F0⟩ Z Z Z ?_;refine k0a r1a Z (fun w1 hw=>by exact hw.1.cell 1 Z Z) Z ?_;refine i0a ?_;refine B1a ⟨O0,F0⟩ Z Z Z ?_;refine q0a R0a.slT Z (by rfl) Z Z ?_;refine i0a ?_;refine B1a ⟨O0,F0⟩ Z Z Z ?_;refine C1a m0a Z (fun w1 hw=>(fun j v hj=>hw.1.old (P1 j v hj))) (by rfl) Z ?_;refine i0a ?_;refine B1a ⟨O0,F0⟩ Z Z Z ?_;refine u0a I0b Z Z ?_;refine i0a ?_;refine B1a ⟨O0,F0⟩ Z Z Z ?_;refine k0a r1a Z (fun w1 hw=>by exact hw.1.cell 1 Z Z) Z ?_;refine i0a ?_;refine B1a ⟨O0,F0⟩ Z Z Z ?_;refine q0a R0a.slT Z (by rfl) Z Z ?_;refine i0a ?_;refine B1a ⟨O0,F0⟩ Z Z Z ?_;refine C1a m0a Z (fun w1 hw=>(fun j v hj=>hw.1.old (Q1 j v hj))) (by rfl) Z ?_;refine i0a ?_;refine Z5a ?_ ?_
  ·refine u2a ⟨O0,F0⟩ Z Z Z ?_;refine h0a O0 w1a Z Z ?_;intro g3 w3 S3 X3 G3;have n0:=F0.trans X3;refine B0a ⟨Z,?_⟩;refine Z5a ?_ ?_
   ·refine u2a ⟨S3.tail,n0⟩ Z Z Z ?_;refine h0a S3 w1a Z Z ?_;intro g4 w4 S4 X4 G4;have o0:=n0.trans X4;refine B0a ⟨Z,?_⟩;refine u2a ⟨S4.tail.tail,o0⟩ Z Z Z ?_;refine h0a S4 w1a Z Z ?_;intro g5 w5 S5 X5 G5;have p0:=o0.trans X5;refine B0a ⟨Z,?_⟩;refine u2a ⟨S5.tail.tail.tail,p0⟩ Z Z Z ?_;refine b0a (kk:=2) (vs:=[_,_,_,_]) S5 w0a Z Z Z Z Z Z Z ?_;intro R0 b0 q0;dsimp only[d0a,List.set] at b0;have t0:=p0.freshL q0 (fun g hg=>.inl (by rw[List.mem_singleton.1 hg];exact Nat.le_trans F0.size G3));refine B0a ⟨Z,?_⟩;refine u2a ⟨b0.tail.tail.tail,t0⟩ Z Z Z ?_;refine b0a (kk:=1) (vs:=[_,_,_,_]) b0 w0a Z Z Z Z Z Z Z ?_;intro S0 c0 r0;dsimp only[d0a,List.set] at c0;have u0:=t0.freshL r0 (fun g hg=>.inl (by rw[List.mem_singleton.1 hg];exact Nat.le_trans n0.size G4));refine B0a ⟨Z,?_⟩;refine u2a ⟨c0.tail.tail.tail,u0⟩ Z Z Z ?_;refine b0a (kk:=0) (vs:=[_,_,_,_]) c0 w0a Z Z Z Z Z Z Z ?_;intro T0 d0 s0;dsimp only[d0a,List.set] at d0;have I0:=u0.freshL s0 (fun g hg=>.inl (by rw[List.mem_singleton.1 hg];exact Nat.le_trans o0.size G5));refine B0a ⟨Z,?_⟩;refine e3a ⟨d0.tail.tail.tail,I0⟩ ?_;refine fP0 Z U ⟨Z,(g1),(g2),(g3),(g4),(g5),(d0.perm (by exact .refl _)),Z⟩
   refine u2a ⟨S3.tail,n0⟩ Z Z Z ?_;refine h0a S3 w1a Z Z ?_;intro g5 w5 S5 X5 G5;have p0:=n0.trans X5;refine B0a ⟨Z,?_⟩;refine u2a ⟨S5.tail.tail,p0⟩ Z Z Z ?_;refine h0a S5 w1a Z Z ?_;intro g4 w4 S4 X4 G4;have o0:=p0.trans X4;refine B0a ⟨Z,?_⟩;refine u2a ⟨S4.tail.tail.tail,o0⟩ Z Z Z ?_;refine b0a (kk:=2) (vs:=[_,_,_,_]) S4 w0a Z Z Z Z Z Z Z ?_;intro R0 b0 q0;dsimp only[d0a,List.set] at b0;have t0:=o0.freshL q0 (fun g hg=>.inl (by rw[List.mem_singleton.1 hg];exact Nat.le_trans F0.size G3));refine B0a ⟨Z,?_⟩;refine u2a ⟨b0.tail.tail.tail,t0⟩ Z Z Z ?_;refine b0a (kk:=0) (vs:=[_,_,_,_]) b0 w0a Z Z Z Z Z Z Z ?_;intro S0 c0 r0;dsimp only[d0a,List.set] at c0;have u0:=t0.freshL r0 (fun g hg=>.inl (by rw[List.mem_singleton.1 hg];exact Nat.le_trans p0.size G4));refine B0a ⟨Z,?_⟩;refine u2a ⟨c0.tail.tail.tail,u0⟩ Z Z Z ?_;refine b0a (kk:=1) (vs:=[_,_,_,_]) c0 w0a Z Z Z Z Z Z Z ?_;intro T0 d0 s0;dsimp only[d0a,List.set] at d0;have I0:=u0.freshL s0 (fun g hg=>.inl (by rw[List.mem_singleton.1 hg];exact Nat.le_trans n0.size G5));refine B0a ⟨Z,?_⟩;refine e3a ⟨d0.tail.tail.tail,I0⟩ ?_;refine fP0 Z U ⟨Z,(g1),(g2),(g3),(g4),(g5),(d0.perm (by exact .swap _ _ _)),Z⟩
  refine Z5a ?_ ?_
  ·refine u2a ⟨O0,F0⟩ Z Z Z ?_;refine h0a O0 w1a Z Z ?_;intro g4 w4 S4 X4 G4;have o0:=F0.trans X4;refine B0a ⟨Z,?_⟩;refine Z5a ?_ ?_
   ·refine u2a ⟨S4.tail,o0⟩ Z Z Z ?_;refine h0a S4 w1a Z Z ?_;intro g3 w3 S3 X3 G3;have n0:=o0.trans X3;refine B0a ⟨Z,?_⟩;refine u2a ⟨S3.tail.tail,n0⟩ Z Z Z ?_;refine h0a S3 w1a Z Z ?_;intro g5 w5 S5 X5 G5;have p0:=n0.trans X5;refine B0a ⟨Z,?_⟩;refine u2a ⟨S5.tail.tail.tail,p0⟩ Z Z Z ?_;refine b0a (kk:=1) (vs:=[_,_,_,_]) S5 w0a Z Z Z Z Z Z Z ?_;intro R0 b0 q0;dsimp only[d0a,List.set] at b0;have t0:=p0.freshL q0 (fun g hg=>.inl (by rw[List.mem_singleton.1 hg];exact Nat.le_trans o0.size G3));refine B0a ⟨Z,?_⟩;refine u2a ⟨b0.tail.tail.tail,t0⟩ Z Z Z ?_;refine b0a (kk:=2) (vs:=[_,_,_,_]) b0 w0a Z Z Z Z Z Z Z ?_;intro S0 c0 r0;dsimp only[d0a,List.set] at c0;have u0:=t0.freshL r0 (fun g hg=>.inl (by rw[List.mem_singleton.1 hg];exact Nat.le_trans F0.size G4));refine B0a ⟨Z,?_⟩;refine u2a ⟨c0.tail.tail.tail,u0⟩ Z Z Z ?_;refine b0a (kk:=0) (vs:=[_,_,_,_]) c0 w0a Z Z Z Z Z Z Z ?_;intro T0 d0 s0;dsimp only[d0a,List.set] at d0;have I0:=u0.freshL s0 (fun g hg=>.inl (by rw[List.mem_singleton.1 hg];exact Nat.le_trans n0.size G5));refine B0a ⟨Z,?_⟩;refine e3a ⟨d0.tail.tail.tail,I0⟩ ?_;refine fP0 Z U ⟨Z,(g1),(g2),(g3),(g4),(g5),(d0.perm (by exact((List.Perm.swap _ _ _).cons _))),Z⟩
   refine u2a ⟨S4.tail,o0⟩ Z Z Z ?_;refine h0a S4 w1a Z Z ?_;intro g5 w5 S5 X5 G5;have p0:=o0.trans X5;refine B0a ⟨Z,?_⟩;refine u2a ⟨S5.tail.tail,p0⟩ Z Z Z ?_;refine h0a S5 w1a Z Z ?_;intro g3 w3 S3 X3 G3;have n0:=p0.trans X3;refine B0a ⟨Z,?_⟩;refine u2a ⟨S3.tail.tail.tail,n0⟩ Z Z Z ?_;refine b0a (kk:=0) (vs:=[_,_,_,_]) S3 w0a Z Z Z Z Z Z Z ?_;intro R0 b0 q0;dsimp only[d0a,List.set] at b0;have t0:=n0.freshL q0 (fun g hg=>.inl (by rw[List.mem_singleton.1 hg];exact Nat.le_trans p0.size G3));refine B0a ⟨Z,?_⟩;refine u2a ⟨b0.tail.tail.tail,t0⟩ Z Z Z ?_;refine b0a (kk:=2) (vs:=[_,_,_,_]) b0 w0a Z Z Z Z Z Z Z ?_;intro S0 c0 r0;dsimp only[d0a,List.set] at c0;have u0:=t0.freshL r0 (fun g hg=>.inl (by rw[List.mem_singleton.1 hg];exact Nat.le_trans F0.size G4));refine B0a ⟨Z,?_⟩;refine u2a ⟨c0.tail.tail.tail,u0⟩ Z Z Z ?_;refine b0a (kk:=1) (vs:=[_,_,_,_]) c0 w0a Z Z Z Z Z Z Z ?_;intro T0 d0 s0;dsimp only[d0a,List.set] at d0;have I0:=u0.freshL s0 (fun g hg=>.inl (by rw[List.mem_singleton.1 hg];exact Nat.le_trans o0.size G5));refine B0a ⟨Z,?_⟩;refine e3a ⟨d0.tail.tail.tail,I0⟩ ?_;refine fP0 Z U ⟨Z,(g1),(g2),(g3),(g4),(g5),(d0.perm (by exact(List.Perm.trans (.swap _ _ _) ((List.Perm.swap _ _ _).cons _)))),Z⟩
  refine u2a ⟨O0,F0⟩ Z Z Z ?_;refine h0a O0 w1a Z Z ?_;intro g5 w5 S5 X5 G5;have p0:=F0.trans X5;refine B0a ⟨Z,?_⟩;refine Z5a ?_ ?_
  ·refine u2a ⟨S5.tail,p0⟩ Z Z Z ?_;refine h0a S5 w1a Z Z ?_;intro g3 w3 S3 X3 G3;have n0:=p0.trans X3;refine B0a ⟨Z,?_⟩;refine u2a ⟨S3.tail.tail,n0⟩ Z Z Z ?_;refine h0a S3 w1a Z Z ?_;intro g4 w4 S4 X4 G4;have o0:=n0.trans X4;refine B0a ⟨Z,?_⟩;refine u2a ⟨S4.tail.tail.tail,o0⟩ Z Z Z ?_;refine b0a (kk:=1) (vs:=[_,_,_,_]) S4 w0a Z Z Z Z Z Z Z ?_;intro R0 b0 q0;dsimp only[d0a,List.set] at b0;have t0:=o0.freshL q0 (fun g hg=>.inl (by rw[List.mem_singleton.1 hg];exact Nat.le_trans p0.size G3));refine B0a ⟨Z,?_⟩;refine u2a ⟨b0.tail.tail.tail,t0⟩ Z Z Z ?_;refine b0a (kk:=0) (vs:=[_,_,_,_]) b0 w0a Z Z Z Z Z Z Z ?_;intro S0 c0 r0;dsimp only[d0a,List.set] at c0;have u0:=t0.freshL r0 (fun g hg=>.inl (by rw[List.mem_singleton.1 hg];exact Nat.le_trans n0.size G4));refine B0a ⟨Z,?_⟩;refine u2a ⟨c0.tail.tail.tail,u0⟩ Z Z Z ?_;refine b0a (kk:=2) (vs:=[_,_,_,_]) c0 w0a Z Z Z Z Z Z Z ?_;intro T0 d0 s0;dsimp only[d0a,List.set] at d0;have I0:=u0.freshL s0 (fun g hg=>.inl (by rw[List.mem_singleton.1 hg];exact Nat.le_trans F0.size G5));refine B0a ⟨Z,?_⟩;refine e3a ⟨d0.tail.tail.tail,I0⟩ ?_;refine fP0 Z U ⟨Z,(g1),(g2),(g3),(g4),(g5),(d0.perm (by exact(List.Perm.trans ((List.Perm.swap _ _ _).cons _) (.swap _ _ _)))),Z⟩
  refine u2a ⟨S5.tail,p0⟩ Z Z Z ?_;refine h0a S5 w1a Z Z ?_;intro g4 w4 S4 X4 G4;have o0:=p0.trans X4;refine B0a ⟨Z,?_⟩;refine u2a ⟨S4.tail.tail,o0⟩ Z Z Z ?_;refine h0a S4 w1a Z Z ?_;intro g3 w3 S3 X3 G3;have n0:=o0.trans X3;refine B0a ⟨Z,?_⟩;refine u2a ⟨S3.tail.tail.tail,n0⟩ Z Z Z ?_;refine b0a (kk:=0) (vs:=[_,_,_,_]) S3 w0a Z Z Z Z Z Z Z ?_;intro R0 b0 q0;dsimp only[d0a,List.set] at b0;have t0:=n0.freshL q0 (fun g hg=>.inl (by rw[List.mem_singleton.1 hg];exact Nat.le_trans o0.size G3));refine B0a ⟨Z,?_⟩;refine u2a ⟨b0.tail.tail.tail,t0⟩ Z Z Z ?_;refine b0a (kk:=1) (vs:=[_,_,_,_]) b0 w0a Z Z Z Z Z Z Z ?_;intro S0 c0 r0;dsimp only[d0a,List.set] at c0;have u0:=t0.freshL r0 (fun g hg=>.inl (by rw[List.mem_singleton.1 hg];exact Nat.le_trans p0.size G4));refine B0a ⟨Z,?_⟩;refine u2a ⟨c0.tail.tail.tail,u0⟩ Z Z Z ?_;refine b0a (kk:=2) (vs:=[_,_,_,_]) c0 w0a Z Z Z Z Z Z Z ?_;intro T0 d0 s0;dsimp only[d0a,List.set] at d0;have I0:=u0.freshL s0 (fun g hg=>.inl (by rw[List.mem_singleton.1 hg];exact Nat.le_trans F0.size G5));refine B0a ⟨Z,?_⟩;refine e3a ⟨d0.tail.tail.tail,I0⟩ ?_;refine fP0 Z U ⟨Z,(g1),(g2),(g3),(g4),(g5),(d0.perm (by exact(List.Perm.trans (.swap _ _ _) (List.Perm.trans ((List.Perm.swap _ _ _).cons _) (.swap _ _ _))))),Z⟩
 rintro D ε w ⟨rfl,g1,g2,g3,g4,g5,S,eZ⟩;refine wK eZ ?_;have m1:∀g∈g2::M,g∈M∨w0.heap.size≤g:=fun g hg=>by rcases List.mem_cons.1 hg with rfl|hg;exact .inr (by simpa using S.new 3 Z);exact .inl hg
 refine wO S.k [.w 2] Z ⟨⟨Z,by rfl⟩,U⟩ (f0a S c1a Z Z (v0a t 1 M _ _ (RdE.keep (S.keep0 M) _ _ Y0)) (fun G0 U1 f1 K1=>?_) (fun G0 U1 f1 K1=>?_))
 ·refine lO f1.k [.w 1] Z ⟨⟨Z,by rfl⟩,U⟩ (b0a (kk:=3) (vs:=[_,_,_,_]) f1 w0a Z Z Z Z Z Z Z ?_);intro H1 L0 A1;dsimp only[d0a,List.set] at L0;refine lR0 Z U ?_;refine g0a Z m0a Z (L0.cells 3 Z) Z ⟨⟨_,Z,?_⟩,L0.fin⟩;suffices z:n7a n t a b=a by rw[z];exact RdE.keep (L0.keep0 M) _ _ W0
  unfold n7a;(try simp only[show isC t 1=true from G0]);(try simp only[show isC t 1=false from G0]);(try simp only[show E.beq a b=true from i0]);(try simp only[show E.beq a b=false from i0]);(try simp only[show isC t 0=true from A0]);(try simp only[show isC t 0=false from A0]);(try simp only[show isC t 0=true from v0]);(try simp only[show isC t 0=false from v0]);(try simp only[show isC a 1=true from D0]);(try simp only[show isC a 1=false from D0]);(try simp only[show isC b 0=true from E0]);(try simp only[show isC b 0=false from E0]);(try simp only[show isC a 0=true from y0]);(try simp only[show isC a 0=false from y0]);(try simp only[show isC b 1=true from z0]);(try simp only[show isC b 1=false from z0]);(try simp only[show(n.w=1)=True from eq_true C0]);(try simp only[show(n.w=1)=False from eq_false C0]);(try simp only[show(n.w=1)=True from eq_true x0]);(try simp only[show(n.w=1)=False from eq_false x0]);(try simp);done
 refine lO0 Z U (W0a f1 d3b Z Z (f0b a b _ g4 0 g5 0 ⟨by simp,_,f1.cells 1 Z,RdE.less (by simp) _ _ (RdE.keep (f1.keep0 M) _ _ W0)⟩ ⟨by simp,_,f1.cells 0 Z,RdE.less (by simp) _ _ (RdE.keep (f1.keep0 M) _ _ X0)⟩) ?_);intro Y1 i1 W1;cases i0:E.beq a b
 ·refine N0a (hv:=Z) (v:=.bool _) Z ?_;refine lO i1.k [.w 2] Z ⟨⟨Z,by rfl⟩,U⟩ (f0a i1 c1a Z Z (v0a t 0 M _ _ (RdE.keep (i1.keep0 M) _ _ Y0)) (fun v0 D1 B0 v1=>?_) (fun v0 D1 B0 v1=>?_))
  ·refine lO B0.k [.w 0] Z ⟨⟨Z,by rfl⟩,U⟩ (b0a (kk:=3) (vs:=[_,_,_,_]) B0 w0a Z Z Z Z Z Z Z ?_);intro I1 N0 B1;dsimp only[d0a,List.set] at N0;refine lR0 Z U ?_;refine g0a Z m0a Z (N0.cells 3 Z) Z ⟨⟨_,Z,?_⟩,N0.fin⟩;suffices z:n7a n t a b=b by rw[z];exact RdE.keep (N0.keep0 M) _ _ X0
   unfold n7a;(try simp only[show isC t 1=true from G0]);(try simp only[show isC t 1=false from G0]);(try simp only[show E.beq a b=true from i0]);(try simp only[show E.beq a b=false from i0]);(try simp only[show isC t 0=true from A0]);(try simp only[show isC t 0=false from A0]);(try simp only[show isC t 0=true from v0]);(try simp only[show isC t 0=false from v0]);(try simp only[show isC a 1=true from D0]);(try simp only[show isC a 1=false from D0]);(try simp only[show isC b 0=true from E0]);(try simp only[show isC b 0=false from E0]);(try simp only[show isC a 0=true from y0]);(try simp only[show isC a 0=false from y0]);(try simp only[show isC b 1=true from z0]);(try simp only[show isC b 1=false from z0]);(try simp only[show(n.w=1)=True from eq_true C0]);(try simp only[show(n.w=1)=False from eq_false C0]);(try simp only[show(n.w=1)=True from eq_true x0]);(try simp only[show(n.w=1)=False from eq_false x0]);(try simp);done
  refine lB B0.k [.o 4] Z ⟨Z,U⟩ (fun C0=>?_) fun C0=>?_
  ·refine lO B0.k [.w 1] Z ⟨⟨Z,by rfl⟩,U⟩ (f0a B0 c1a Z Z (v0a a 1 M _ _ (RdE.keep (B0.keep0 M) _ _ W0)) (fun D0 E1 J0 x1=>?_) (fun D0 E1 J0 x1=>?_))
   ·refine lO J0.k [.w 0] Z ⟨⟨Z,by rfl⟩,U⟩ (f0a J0 c1a Z Z (v0a b 0 M _ _ (RdE.keep (J0.keep0 M) _ _ X0)) (fun E0 F1 K0 y1=>?_) (fun E0 F1 K0 y1=>?_))
    ·refine lO K0.k [.w 2] Z ⟨⟨Z,by rfl⟩,U⟩ (b0a (kk:=3) (vs:=[_,_,_,_]) K0 w0a Z Z Z Z Z Z Z ?_);intro J1 V0 C1;dsimp only[d0a,List.set] at V0;refine lR0 Z U ?_;refine g0a Z m0a Z (V0.cells 3 Z) Z ⟨⟨_,Z,?_⟩,V0.fin⟩;suffices z:n7a n t a b=t by rw[z];exact RdE.keep (V0.keep0 M) _ _ Y0
     unfold n7a;(try simp only[show isC t 1=true from G0]);(try simp only[show isC t 1=false from G0]);(try simp only[show E.beq a b=true from i0]);(try simp only[show E.beq a b=false from i0]);(try simp only[show isC t 0=true from A0]);(try simp only[show isC t 0=false from A0]);(try simp only[show isC t 0=true from v0]);(try simp only[show isC t 0=false from v0]);(try simp only[show isC a 1=true from D0]);(try simp only[show isC a 1=false from D0]);(try simp only[show isC b 0=true from E0]);(try simp only[show isC b 0=false from E0]);(try simp only[show isC a 0=true from y0]);(try simp only[show isC a 0=false from y0]);(try simp only[show isC b 1=true from z0]);(try simp only[show isC b 1=false from z0]);(try simp only[show(n.w=1)=True from eq_true C0]);(try simp only[show(n.w=1)=False from eq_false C0]);(try simp only[show(n.w=1)=True from eq_true x0]);(try simp only[show(n.w=1)=False from eq_false x0]);(try simp);done
    refine lB K0.k [.o 4] Z ⟨Z,U⟩ (fun x0=>?_) fun x0=>?_
    ·refine lO K0.k [.w 1] Z ⟨⟨Z,by rfl⟩,U⟩ (f0a K0 c1a Z Z (v0a a 0 M _ _ (RdE.keep (K0.keep0 M) _ _ W0)) (fun y0 c1 m0 a1=>?_) (fun y0 c1 m0 a1=>?_))
     ·refine lO m0.k [.w 0] Z ⟨⟨Z,by rfl⟩,U⟩ (f0a m0 c1a Z Z (v0a b 1 M _ _ (RdE.keep (m0.keep0 M) _ _ X0)) (fun z0 d1 e0 b1=>?_) (fun z0 d1 e0 b1=>?_))
      ·refine lO e0.k [.w 2] Z ⟨⟨Z,by rfl⟩,U⟩ ?_;refine o0a e0 T5a Z Z (O5a t (g2::M) _ _ (RdE.keep (e0.keep0 _) _ _ (RdE.more m1 _ _ Y0)) (fun g hg=>by rcases List.mem_cons.1 hg with rfl|hg;exact e0.lt 3 Z;have:=hM g hg;have:=e0.size;omega) n1) ?_;rintro t1 u1 ⟨q1,rfl,P0⟩ Z0 p1;have U0:=P0;obtain⟨o1,r1,s1,rfl,-⟩:=P0.open_;refine b0a (kk:=3) (vs:=[_,_,_,_]) Z0 w0a Z Z Z Z Z Z Z ?_;intro Q0 j0 H0;dsimp only[d0a,List.set] at j0;refine lR0 Z U ?_;refine g0a Z m0a Z (j0.cells 3 Z) Z ⟨⟨_,Z,?_⟩,j0.fin⟩;suffices z:n7a n t a b=(z7b t) by rw[z];exact RdE.less (fun g hg=>List.mem_cons_of_mem _ hg) _ _ (RdE.keep (H0.mono (by simp)) _ _ U0)
       unfold n7a;(try simp only[show isC t 1=true from G0]);(try simp only[show isC t 1=false from G0]);(try simp only[show E.beq a b=true from i0]);(try simp only[show E.beq a b=false from i0]);(try simp only[show isC t 0=true from A0]);(try simp only[show isC t 0=false from A0]);(try simp only[show isC t 0=true from v0]);(try simp only[show isC t 0=false from v0]);(try simp only[show isC a 1=true from D0]);(try simp only[show isC a 1=false from D0]);(try simp only[show isC b 0=true from E0]);(try simp only[show isC b 0=false from E0]);(try simp only[show isC a 0=true from y0]);(try simp only[show isC a 0=false from y0]);(try simp only[show isC b 1=true from z0]);(try simp only[show isC b 1=false from z0]);(try simp only[show(n.w=1)=True from eq_true C0]);(try simp only[show(n.w=1)=False from eq_false C0]);(try simp only[show(n.w=1)=True from eq_true x0]);(try simp only[show(n.w=1)=False from eq_false x0]);(try simp);done
      refine lO e0.k [.w 4] Z ⟨⟨Z,by rfl⟩,U⟩ (b0a (kk:=3) (vs:=[_,_,_,_]) e0 w0a Z Z Z Z Z Z Z ?_);intro g0 a0 f0;dsimp only[d0a,List.set] at a0;refine lR0 Z U ?_;refine g0a Z m0a Z (a0.cells 3 Z) Z ⟨⟨_,Z,?_⟩,a0.fin⟩;suffices z:n7a n t a b=n by rw[z];exact RdE.keep (a0.keep0 M) _ _ hR
      unfold n7a;(try simp only[show isC t 1=true from G0]);(try simp only[show isC t 1=false from G0]);(try simp only[show E.beq a b=true from i0]);(try simp only[show E.beq a b=false from i0]);(try simp only[show isC t 0=true from A0]);(try simp only[show isC t 0=false from A0]);(try simp only[show isC t 0=true from v0]);(try simp only[show isC t 0=false from v0]);(try simp only[show isC a 1=true from D0]);(try simp only[show isC a 1=false from D0]);(try simp only[show isC b 0=true from E0]);(try simp only[show isC b 0=false from E0]);(try simp only[show isC a 0=true from y0]);(try simp only[show isC a 0=false from y0]);(try simp only[show isC b 1=true from z0]);(try simp only[show isC b 1=false from z0]);(try simp only[show(n.w=1)=True from eq_true C0]);(try simp only[show(n.w=1)=False from eq_false C0]);(try simp only[show(n.w=1)=True from eq_true x0]);(try simp only[show(n.w=1)=False from eq_false x0]);(try simp);done
     refine lO m0.k [.w 4] Z ⟨⟨Z,by rfl⟩,U⟩ (b0a (kk:=3) (vs:=[_,_,_,_]) m0 w0a Z Z Z Z Z Z Z ?_);intro g0 a0 f0;dsimp only[d0a,List.set] at a0;refine lR0 Z U ?_;refine g0a Z m0a Z (a0.cells 3 Z) Z ⟨⟨_,Z,?_⟩,a0.fin⟩;suffices z:n7a n t a b=n by rw[z];exact RdE.keep (a0.keep0 M) _ _ hR
     unfold n7a;(try simp only[show isC t 1=true from G0]);(try simp only[show isC t 1=false from G0]);(try simp only[show E.beq a b=true from i0]);(try simp only[show E.beq a b=false from i0]);(try simp only[show isC t 0=true from A0]);(try simp only[show isC t 0=false from A0]);(try simp only[show isC t 0=true from v0]);(try simp only[show isC t 0=false from v0]);(try simp only[show isC a 1=true from D0]);(try simp only[show isC a 1=false from D0]);(try simp only[show isC b 0=true from E0]);(try simp only[show isC b 0=false from E0]);(try simp only[show isC a 0=true from y0]);(try simp only[show isC a 0=false from y0]);(try simp only[show isC b 1=true from z0]);(try simp only[show isC b 1=false from z0]);(try simp only[show(n.w=1)=True from eq_true C0]);(try simp only[show(n.w=1)=False from eq_false C0]);(try simp only[show(n.w=1)=True from eq_true x0]);(try simp only[show(n.w=1)=False from eq_false x0]);(try simp);done
    refine lO K0.k [.w 4] Z ⟨⟨Z,by rfl⟩,U⟩ (b0a (kk:=3) (vs:=[_,_,_,_]) K0 w0a Z Z Z Z Z Z Z ?_);intro g0 a0 f0;dsimp only[d0a,List.set] at a0;refine lR0 Z U ?_;exfalso;omega
   refine lB J0.k [.o 4] Z ⟨Z,U⟩ (fun x0=>?_) fun x0=>?_
   ·refine lO J0.k [.w 1] Z ⟨⟨Z,by rfl⟩,U⟩ (f0a J0 c1a Z Z (v0a a 0 M _ _ (RdE.keep (J0.keep0 M) _ _ W0)) (fun y0 c1 m0 a1=>?_) (fun y0 c1 m0 a1=>?_))
    ·refine lO m0.k [.w 0] Z ⟨⟨Z,by rfl⟩,U⟩ (f0a m0 c1a Z Z (v0a b 1 M _ _ (RdE.keep (m0.keep0 M) _ _ X0)) (fun z0 d1 e0 b1=>?_) (fun z0 d1 e0 b1=>?_))
     ·refine lO e0.k [.w 2] Z ⟨⟨Z,by rfl⟩,U⟩ ?_;refine o0a e0 T5a Z Z (O5a t (g2::M) _ _ (RdE.keep (e0.keep0 _) _ _ (RdE.more m1 _ _ Y0)) (fun g hg=>by rcases List.mem_cons.1 hg with rfl|hg;exact e0.lt 3 Z;have:=hM g hg;have:=e0.size;omega) n1) ?_;rintro t1 u1 ⟨q1,rfl,P0⟩ Z0 p1;have U0:=P0;obtain⟨o1,r1,s1,rfl,-⟩:=P0.open_;refine b0a (kk:=3) (vs:=[_,_,_,_]) Z0 w0a Z Z Z Z Z Z Z ?_;intro Q0 j0 H0;dsimp only[d0a,List.set] at j0;refine lR0 Z U ?_;refine g0a Z m0a Z (j0.cells 3 Z) Z ⟨⟨_,Z,?_⟩,j0.fin⟩;suffices z:n7a n t a b=(z7b t) by rw[z];exact RdE.less (fun g hg=>List.mem_cons_of_mem _ hg) _ _ (RdE.keep (H0.mono (by simp)) _ _ U0)
      unfold n7a;(try simp only[show isC t 1=true from G0]);(try simp only[show isC t 1=false from G0]);(try simp only[show E.beq a b=true from i0]);(try simp only[show E.beq a b=false from i0]);(try simp only[show isC t 0=true from A0]);(try simp only[show isC t 0=false from A0]);(try simp only[show isC t 0=true from v0]);(try simp only[show isC t 0=false from v0]);(try simp only[show isC a 1=true from D0]);(try simp only[show isC a 1=false from D0]);(try simp only[show isC b 0=true from E0]);(try simp only[show isC b 0=false from E0]);(try simp only[show isC a 0=true from y0]);(try simp only[show isC a 0=false from y0]);(try simp only[show isC b 1=true from z0]);(try simp only[show isC b 1=false from z0]);(try simp only[show(n.w=1)=True from eq_true C0]);(try simp only[show(n.w=1)=False from eq_false C0]);(try simp only[show(n.w=1)=True from eq_true x0]);(try simp only[show(n.w=1)=False from eq_false x0]);(try simp);done
     refine lO e0.k [.w 4] Z ⟨⟨Z,by rfl⟩,U⟩ (b0a (kk:=3) (vs:=[_,_,_,_]) e0 w0a Z Z Z Z Z Z Z ?_);intro g0 a0 f0;dsimp only[d0a,List.set] at a0;refine lR0 Z U ?_;refine g0a Z m0a Z (a0.cells 3 Z) Z ⟨⟨_,Z,?_⟩,a0.fin⟩;suffices z:n7a n t a b=n by rw[z];exact RdE.keep (a0.keep0 M) _ _ hR
     unfold n7a;(try simp only[show isC t 1=true from G0]);(try simp only[show isC t 1=false from G0]);(try simp only[show E.beq a b=true from i0]);(try simp only[show E.beq a b=false from i0]);(try simp only[show isC t 0=true from A0]);(try simp only[show isC t 0=false from A0]);(try simp only[show isC t 0=true from v0]);(try simp only[show isC t 0=false from v0]);(try simp only[show isC a 1=true from D0]);(try simp only[show isC a 1=false from D0]);(try simp only[show isC b 0=true from E0]);(try simp only[show isC b 0=false from E0]);(try simp only[show isC a 0=true from y0]);(try simp only[show isC a 0=false from y0]);(try simp only[show isC b 1=true from z0]);(try simp only[show isC b 1=false from z0]);(try simp only[show(n.w=1)=True from eq_true C0]);(try simp only[show(n.w=1)=False from eq_false C0]);(try simp only[show(n.w=1)=True from eq_true x0]);(try simp only[show(n.w=1)=False from eq_false x0]);(try simp);done
    refine lO m0.k [.w 4] Z ⟨⟨Z,by rfl⟩,U⟩ (b0a (kk:=3) (vs:=[_,_,_,_]) m0 w0a Z Z Z Z Z Z Z ?_);intro g0 a0 f0;dsimp only[d0a,List.set] at a0;refine lR0 Z U ?_;refine g0a Z m0a Z (a0.cells 3 Z) Z ⟨⟨_,Z,?_⟩,a0.fin⟩;suffices z:n7a n t a b=n by rw[z];exact RdE.keep (a0.keep0 M) _ _ hR
    unfold n7a;(try simp only[show isC t 1=true from G0]);(try simp only[show isC t 1=false from G0]);(try simp only[show E.beq a b=true from i0]);(try simp only[show E.beq a b=false from i0]);(try simp only[show isC t 0=true from A0]);(try simp only[show isC t 0=false from A0]);(try simp only[show isC t 0=true from v0]);(try simp only[show isC t 0=false from v0]);(try simp only[show isC a 1=true from D0]);(try simp only[show isC a 1=false from D0]);(try simp only[show isC b 0=true from E0]);(try simp only[show isC b 0=false from E0]);(try simp only[show isC a 0=true from y0]);(try simp only[show isC a 0=false from y0]);(try simp only[show isC b 1=true from z0]);(try simp only[show isC b 1=false from z0]);(try simp only[show(n.w=1)=True from eq_true C0]);(try simp only[show(n.w=1)=False from eq_false C0]);(try simp only[show(n.w=1)=True from eq_true x0]);(try simp only[show(n.w=1)=False from eq_false x0]);(try simp);done
   refine lO J0.k [.w 4] Z ⟨⟨Z,by rfl⟩,U⟩ (b0a (kk:=3) (vs:=[_,_,_,_]) J0 w0a Z Z Z Z Z Z Z ?_);intro g0 a0 f0;dsimp only[d0a,List.set] at a0;refine lR0 Z U ?_;exfalso;omega
  refine lB B0.k [.o 4] Z ⟨Z,U⟩ (fun x0=>?_) fun x0=>?_
  ·refine lO B0.k [.w 1] Z ⟨⟨Z,by rfl⟩,U⟩ (f0a B0 c1a Z Z (v0a a 0 M _ _ (RdE.keep (B0.keep0 M) _ _ W0)) (fun y0 c1 m0 a1=>?_) (fun y0 c1 m0 a1=>?_))
   ·refine lO m0.k [.w 0] Z ⟨⟨Z,by rfl⟩,U⟩ (f0a m0 c1a Z Z (v0a b 1 M _ _ (RdE.keep (m0.keep0 M) _ _ X0)) (fun z0 d1 e0 b1=>?_) (fun z0 d1 e0 b1=>?_))
    ·refine lO e0.k [.w 2] Z ⟨⟨Z,by rfl⟩,U⟩ ?_;refine o0a e0 T5a Z Z (O5a t (g2::M) _ _ (RdE.keep (e0.keep0 _) _ _ (RdE.more m1 _ _ Y0)) (fun g hg=>by rcases List.mem_cons.1 hg with rfl|hg;exact e0.lt 3 Z;have:=hM g hg;have:=e0.size;omega) n1) ?_;rintro t1 u1 ⟨q1,rfl,P0⟩ Z0 p1;have U0:=P0;obtain⟨o1,r1,s1,rfl,-⟩:=P0.open_;refine b0a (kk:=3) (vs:=[_,_,_,_]) Z0 w0a Z Z Z Z Z Z Z ?_;intro Q0 j0 H0;dsimp only[d0a,List.set] at j0;refine lR0 Z U ?_;exfalso;omega
    refine lO e0.k [.w 4] Z ⟨⟨Z,by rfl⟩,U⟩ (b0a (kk:=3) (vs:=[_,_,_,_]) e0 w0a Z Z Z Z Z Z Z ?_);intro g0 a0 f0;dsimp only[d0a,List.set] at a0;refine lR0 Z U ?_;exfalso;omega
   refine lO m0.k [.w 4] Z ⟨⟨Z,by rfl⟩,U⟩ (b0a (kk:=3) (vs:=[_,_,_,_]) m0 w0a Z Z Z Z Z Z Z ?_);intro g0 a0 f0;dsimp only[d0a,List.set] at a0;refine lR0 Z U ?_;exfalso;omega
  refine lO B0.k [.w 4] Z ⟨⟨Z,by rfl⟩,U⟩ (b0a (kk:=3) (vs:=[_,_,_,_]) B0 w0a Z Z Z Z Z Z Z ?_);intro g0 a0 f0;dsimp only[d0a,List.set] at a0;refine lR0 Z U ?_;refine g0a Z m0a Z (a0.cells 3 Z) Z ⟨⟨_,Z,?_⟩,a0.fin⟩;suffices z:n7a n t a b=n by rw[z];exact RdE.keep (a0.keep0 M) _ _ hR
  unfold n7a;(try simp only[show isC t 1=true from G0]);(try simp only[show isC t 1=false from G0]);(try simp only[show E.beq a b=true from i0]);(try simp only[show E.beq a b=false from i0]);(try simp only[show isC t 0=true from A0]);(try simp only[show isC t 0=false from A0]);(try simp only[show isC t 0=true from v0]);(try simp only[show isC t 0=false from v0]);(try simp only[show isC a 1=true from D0]);(try simp only[show isC a 1=false from D0]);(try simp only[show isC b 0=true from E0]);(try simp only[show isC b 0=false from E0]);(try simp only[show isC a 0=true from y0]);(try simp only[show isC a 0=false from y0]);(try simp only[show isC b 1=true from z0]);(try simp only[show isC b 1=false from z0]);(try simp only[show(n.w=1)=True from eq_true C0]);(try simp only[show(n.w=1)=False from eq_false C0]);(try simp only[show(n.w=1)=True from eq_true x0]);(try simp only[show(n.w=1)=False from eq_false x0]);(try simp);done
 refine N0a (hv:=Z) (v:=.bool _) Z ?_;refine lO i1.k [.w 2] Z ⟨⟨Z,by rfl⟩,U⟩ (f0a i1 c1a Z Z (v0a t 0 M _ _ (RdE.keep (i1.keep0 M) _ _ Y0)) (fun A0 V1 j1 M1=>?_) (fun A0 V1 j1 M1=>?_))
 ·refine lO j1.k [.w 2] Z ⟨⟨Z,by rfl⟩,U⟩ (f0a j1 c1a Z Z (v0a t 0 M _ _ (RdE.keep (j1.keep0 M) _ _ Y0)) (fun v0 D1 B0 v1=>?_) (fun v0 D1 B0 v1=>?_))
  ·refine lO B0.k [.w 0] Z ⟨⟨Z,by rfl⟩,U⟩ (b0a (kk:=3) (vs:=[_,_,_,_]) B0 w0a Z Z Z Z Z Z Z ?_);intro I1 N0 B1;dsimp only[d0a,List.set] at N0;refine lR0 Z U ?_;refine g0a Z m0a Z (N0.cells 3 Z) Z ⟨⟨_,Z,?_⟩,N0.fin⟩;suffices z:n7a n t a b=b by rw[z];exact RdE.keep (N0.keep0 M) _ _ X0
   unfold n7a;(try simp only[show isC t 1=true from G0]);(try simp only[show isC t 1=false from G0]);(try simp only[show E.beq a b=true from i0]);(try simp only[show E.beq a b=false from i0]);(try simp only[show isC t 0=true from A0]);(try simp only[show isC t 0=false from A0]);(try simp only[show isC t 0=true from v0]);(try simp only[show isC t 0=false from v0]);(try simp only[show isC a 1=true from D0]);(try simp only[show isC a 1=false from D0]);(try simp only[show isC b 0=true from E0]);(try simp only[show isC b 0=false from E0]);(try simp only[show isC a 0=true from y0]);(try simp only[show isC a 0=false from y0]);(try simp only[show isC b 1=true from z0]);(try simp only[show isC b 1=false from z0]);(try simp only[show(n.w=1)=True from eq_true C0]);(try simp only[show(n.w=1)=False from eq_false C0]);(try simp only[show(n.w=1)=True from eq_true x0]);(try simp only[show(n.w=1)=False from eq_false x0]);(try simp);done
  refine lB B0.k [.o 4] Z ⟨Z,U⟩ (fun C0=>?_) fun C0=>?_
  ·refine lO B0.k [.w 1] Z ⟨⟨Z,by rfl⟩,U⟩ (f0a B0 c1a Z Z (v0a a 1 M _ _ (RdE.keep (B0.keep0 M) _ _ W0)) (fun D0 E1 J0 x1=>?_) (fun D0 E1 J0 x1=>?_))
   ·refine lO J0.k [.w 0] Z ⟨⟨Z,by rfl⟩,U⟩ (f0a J0 c1a Z Z (v0a b 0 M _ _ (RdE.keep (J0.keep0 M) _ _ X0)) (fun E0 F1 K0 y1=>?_) (fun E0 F1 K0 y1=>?_))
    ·refine lO K0.k [.w 2] Z ⟨⟨Z,by rfl⟩,U⟩ (b0a (kk:=3) (vs:=[_,_,_,_]) K0 w0a Z Z Z Z Z Z Z ?_);intro J1 V0 C1;dsimp only[d0a,List.set] at V0;refine lR0 Z U ?_;exfalso;have z1:isC t 0=true:=A0;have z2:isC t 0=false:=v0;rw[z1] at z2;exact Bool.noConfusion z2
    refine lB K0.k [.o 4] Z ⟨Z,U⟩ (fun x0=>?_) fun x0=>?_
    ·refine lO K0.k [.w 1] Z ⟨⟨Z,by rfl⟩,U⟩ (f0a K0 c1a Z Z (v0a a 0 M _ _ (RdE.keep (K0.keep0 M) _ _ W0)) (fun y0 c1 m0 a1=>?_) (fun y0 c1 m0 a1=>?_))
     ·refine lO m0.k [.w 0] Z ⟨⟨Z,by rfl⟩,U⟩ (f0a m0 c1a Z Z (v0a b 1 M _ _ (RdE.keep (m0.keep0 M) _ _ X0)) (fun z0 d1 e0 b1=>?_) (fun z0 d1 e0 b1=>?_))
      ·refine lO e0.k [.w 2] Z ⟨⟨Z,by rfl⟩,U⟩ ?_;refine o0a e0 T5a Z Z (O5a t (g2::M) _ _ (RdE.keep (e0.keep0 _) _ _ (RdE.more m1 _ _ Y0)) (fun g hg=>by rcases List.mem_cons.1 hg with rfl|hg;exact e0.lt 3 Z;have:=hM g hg;have:=e0.size;omega) n1) ?_;rintro t1 u1 ⟨q1,rfl,P0⟩ Z0 p1;have U0:=P0;obtain⟨o1,r1,s1,rfl,-⟩:=P0.open_;refine b0a (kk:=3) (vs:=[_,_,_,_]) Z0 w0a Z Z Z Z Z Z Z ?_;intro Q0 j0 H0;dsimp only[d0a,List.set] at j0;refine lR0 Z U ?_;exfalso;have z1:isC t 0=true:=A0;have z2:isC t 0=false:=v0;rw[z1] at z2;exact Bool.noConfusion z2
      refine lO e0.k [.w 4] Z ⟨⟨Z,by rfl⟩,U⟩ (b0a (kk:=3) (vs:=[_,_,_,_]) e0 w0a Z Z Z Z Z Z Z ?_);intro g0 a0 f0;dsimp only[d0a,List.set] at a0;refine lR0 Z U ?_;exfalso;have z1:isC t 0=true:=A0;have z2:isC t 0=false:=v0;rw[z1] at z2;exact Bool.noConfusion z2
     refine lO m0.k [.w 4] Z ⟨⟨Z,by rfl⟩,U⟩ (b0a (kk:=3) (vs:=[_,_,_,_]) m0 w0a Z Z Z Z Z Z Z ?_);intro g0 a0 f0;dsimp only[d0a,List.set] at a0;refine lR0 Z U ?_;exfalso;have z1:isC t 0=true:=A0;have z2:isC t 0=false:=v0;rw[z1] at z2;exact Bool.noConfusion z2
    refine lO K0.k [.w 4] Z ⟨⟨Z,by rfl⟩,U⟩ (b0a (kk:=3) (vs:=[_,_,_,_]) K0 w0a Z Z Z Z Z Z Z ?_);intro g0 a0 f0;dsimp only[d0a,List.set] at a0;refine lR0 Z U ?_;exfalso;omega
   refine lB J0.k [.o 4] Z ⟨Z,U⟩ (fun x0=>?_) fun x0=>?_
   ·refine lO J0.k [.w 1] Z ⟨⟨Z,by rfl⟩,U⟩ (f0a J0 c1a Z Z (v0a a 0 M _ _ (RdE.keep (J0.keep0 M) _ _ W0)) (fun y0 c1 m0 a1=>?_) (fun y0 c1 m0 a1=>?_))
    ·refine lO m0.k [.w 0] Z ⟨⟨Z,by rfl⟩,U⟩ (f0a m0 c1a Z Z (v0a b 1 M _ _ (RdE.keep (m0.keep0 M) _ _ X0)) (fun z0 d1 e0 b1=>?_) (fun z0 d1 e0 b1=>?_))
     ·refine lO e0.k [.w 2] Z ⟨⟨Z,by rfl⟩,U⟩ ?_;refine o0a e0 T5a Z Z (O5a t (g2::M) _ _ (RdE.keep (e0.keep0 _) _ _ (RdE.more m1 _ _ Y0)) (fun g hg=>by rcases List.mem_cons.1 hg with rfl|hg;exact e0.lt 3 Z;have:=hM g hg;have:=e0.size;omega) n1) ?_;rintro t1 u1 ⟨q1,rfl,P0⟩ Z0 p1;have U0:=P0;obtain⟨o1,r1,s1,rfl,-⟩:=P0.open_;refine b0a (kk:=3) (vs:=[_,_,_,_]) Z0 w0a Z Z Z Z Z Z Z ?_;intro Q0 j0 H0;dsimp only[d0a,List.set] at j0;refine lR0 Z U ?_;exfalso;have z1:isC t 0=true:=A0;have z2:isC t 0=false:=v0;rw[z1] at z2;exact Bool.noConfusion z2
     refine lO e0.k [.w 4] Z ⟨⟨Z,by rfl⟩,U⟩ (b0a (kk:=3) (vs:=[_,_,_,_]) e0 w0a Z Z Z Z Z Z Z ?_);intro g0 a0 f0;dsimp only[d0a,List.set] at a0;refine lR0 Z U ?_;exfalso;have z1:isC t 0=true:=A0;have z2:isC t 0=false:=v0;rw[z1] at z2;exact Bool.noConfusion z2
    refine lO m0.k [.w 4] Z ⟨⟨Z,by rfl⟩,U⟩ (b0a (kk:=3) (vs:=[_,_,_,_]) m0 w0a Z Z Z Z Z Z Z ?_);intro g0 a0 f0;dsimp only[d0a,List.set] at a0;refine lR0 Z U ?_;exfalso;have z1:isC t 0=true:=A0;have z2:isC t 0=false:=v0;rw[z1] at z2;exact Bool.noConfusion z2
   refine lO J0.k [.w 4] Z ⟨⟨Z,by rfl⟩,U⟩ (b0a (kk:=3) (vs:=[_,_,_,_]) J0 w0a Z Z Z Z Z Z Z ?_);intro g0 a0 f0;dsimp only[d0a,List.set] at a0;refine lR0 Z U ?_;exfalso;omega
  refine lB B0.k [.o 4] Z ⟨Z,U⟩ (fun x0=>?_) fun x0=>?_
  ·refine lO B0.k [.w 1] Z ⟨⟨Z,by rfl⟩,U⟩ (f0a B0 c1a Z Z (v0a a 0 M _ _ (RdE.keep (B0.keep0 M) _ _ W0)) (fun y0 c1 m0 a1=>?_) (fun y0 c1 m0 a1=>?_))
   ·refine lO m0.k [.w 0] Z ⟨⟨Z,by rfl⟩,U⟩ (f0a m0 c1a Z Z (v0a b 1 M _ _ (RdE.keep (m0.keep0 M) _ _ X0)) (fun z0 d1 e0 b1=>?_) (fun z0 d1 e0 b1=>?_))
    ·refine lO e0.k [.w 2] Z ⟨⟨Z,by rfl⟩,U⟩ ?_;refine o0a e0 T5a Z Z (O5a t (g2::M) _ _ (RdE.keep (e0.keep0 _) _ _ (RdE.more m1 _ _ Y0)) (fun g hg=>by rcases List.mem_cons.1 hg with rfl|hg;exact e0.lt 3 Z;have:=hM g hg;have:=e0.size;omega) n1) ?_;rintro t1 u1 ⟨q1,rfl,P0⟩ Z0 p1;have U0:=P0;obtain⟨o1,r1,s1,rfl,-⟩:=P0.open_;refine b0a (kk:=3) (vs:=[_,_,_,_]) Z0 w0a Z Z Z Z Z Z Z ?_;intro Q0 j0 H0;dsimp only[d0a,List.set] at j0;refine lR0 Z U ?_;exfalso;omega
    refine lO e0.k [.w 4] Z ⟨⟨Z,by rfl⟩,U⟩ (b0a (kk:=3) (vs:=[_,_,_,_]) e0 w0a Z Z Z Z Z Z Z ?_);intro g0 a0 f0;dsimp only[d0a,List.set] at a0;refine lR0 Z U ?_;exfalso;omega
   refine lO m0.k [.w 4] Z ⟨⟨Z,by rfl⟩,U⟩ (b0a (kk:=3) (vs:=[_,_,_,_]) m0 w0a Z Z Z Z Z Z Z ?_);intro g0 a0 f0;dsimp only[d0a,List.set] at a0;refine lR0 Z U ?_;exfalso;omega
  refine lO B0.k [.w 4] Z ⟨⟨Z,by rfl⟩,U⟩ (b0a (kk:=3) (vs:=[_,_,_,_]) B0 w0a Z Z Z Z Z Z Z ?_);intro g0 a0 f0;dsimp only[d0a,List.set] at a0;refine lR0 Z U ?_;exfalso;have z1:isC t 0=true:=A0;have z2:isC t 0=false:=v0;rw[z1] at z2;exact Bool.noConfusion z2
 refine lO j1.k [.w 1] Z ⟨⟨Z,by rfl⟩,U⟩ (b0a (kk:=3) (vs:=[_,_,_,_]) j1 w0a Z Z Z Z Z Z Z ?_);intro H1 L0 A1;dsimp only[d0a,List.set] at L0;refine lR0 Z U ?_;refine g0a Z m0a Z (L0.cells 3 Z) Z ⟨⟨_,Z,?_⟩,L0.fin⟩;suffices z:n7a n t a b=a by rw[z];exact RdE.keep (L0.keep0 M) _ _ W0
 unfold n7a;(try simp only[show isC t 1=true from G0]);(try simp only[show isC t 1=false from G0]);(try simp only[show E.beq a b=true from i0]);(try simp only[show E.beq a b=false from i0]);(try simp only[show isC t 0=true from A0]);(try simp only[show isC t 0=false from A0]);(try simp only[show isC t 0=true from v0]);(try simp only[show isC t 0=false from v0]);(try simp only[show isC a 1=true from D0]);(try simp only[show isC a 1=false from D0]);(try simp only[show isC b 0=true from E0]);(try simp only[show isC b 0=false from E0]);(try simp only[show isC a 0=true from y0]);(try simp only[show isC a 0=false from y0]);(try simp only[show isC b 1=true from z0]);(try simp only[show isC b 1=false from z0]);(try simp only[show(n.w=1)=True from eq_true C0]);(try simp only[show(n.w=1)=False from eq_false C0]);(try simp only[show(n.w=1)=True from eq_true x0]);(try simp only[show(n.w=1)=False from eq_false x0]);(try simp);done
theorem A0d{e:E}(h:e.kids.length≠0):d1b e=B4a ⟨e.op,e.w,e.n,e.kids.map d1b⟩:=by
 rw[E8b,if_neg];intro hh;rw[List.isEmpty_iff] at hh;rw[hh] at h;exact h Z
theorem j7c{e:E}(h:e.kids.length=0):d1b e=e:=by
 obtain⟨_,_,_,ks⟩:=e;have hk:ks=[]:=List.length_eq_zero_iff.1 h;subst hk;rfl
theorem z5a{α:Type}{l:List α}{k:Nat}{f:α→Bool}(h:k<l.length):(l.take (k+1)).all f=((l.take k).all f&&f l[k]):=by
 rw[List.take_add_one,List.all_append,List.getElem?_eq_getElem h];simp
theorem U6b:∀(e:E) (M:List Nat) (w0:World) (b o:Nat) (Z0:Int),RdP M w0 e b o→k2a M w0→e.good Z0=true→(∀g∈M,g<w0.heap.size) →
 O0a prog 94 #[.pointer (some ⟨b,o,none⟩)] w0 fun v w'=>(∃cs:List Value,v=.agg cs.toArray∧RdE M w' (d1b e) cs)∧Bw w0 w':=by
 intro e
 induction e using E.induct with
 | _ e ih =>
 intro M w0 b o Z0 hR hK hg hM;obtain⟨_,o1,o2,o3,c0,c1,c2,_,n,c,c3,hn,_,hm,_,O2,_⟩:=hR.open_;obtain⟨U2,O1⟩:=b1a hg;have i3:=(M1a U2).2.2.1;have I2:=h1a e.op;have h3:e.kids.length≤3:=by omega
 subst hn;obtain⟨N,hN⟩:∃N:E,N=⟨e.op,e.w,e.n,e.kids.map d1b⟩:=⟨_,Z⟩;have y1:N.good Z0=true:=by rw[hN];exact(I7b hg fun k hk=>r8c k (Z0-1) (O1 k hk)).good
 obtain⟨J0,J1⟩:=b1a y1;have Y2:N.op=e.op:=by rw[hN]
 have nw:N.w=e.w:=by rw[hN]
 have nn:N.n=e.n:=by rw[hN]
 have nk:N.kids=e.kids.map d1b:=by rw[hN]
 have r0:e.kids.length≠0→d1b e=B4a N:=fun h=>by rw[A0d h,hN]
 have P0:∀x∈N.kids,x.op=4→∃y,x.kids=[y]:=fun x hx h4=>B4c ((U6a h4).1 (b1a (J1 x hx)).1).2.2.1;have X0:∀x∈N.kids,1≤x.w∧x.w≤8:=fun x hx=>by have:=M1a (b1a (J1 x hx)).1;omega
 have S:=St.refl w0;refine a0a func94 Z ntmps94 Z ?_;refine wO0 Z U (h0a S w1a Z Z ?_);intro g2 w2 S2 X2 G2;refine lO0 Z U (L0a r1a Z (by exact S2.old c3) Z ?_);refine lB0 Z U (fun y0=>?_) fun y0=>?_
 ·refine lO0 Z U (o0a S2 k1c Z Z (N8b e M _ b o (hR.keep (S2.keep0 M))) ?_);rintro m3 t3 ⟨_,rfl,V1⟩ r2 d3;obtain⟨_,_,_,rfl,-⟩:=(V1 []).open_
  first|refine b0a (kk:=0) (vs:=[_,_,_,_]) r2 w0a Z Z Z Z Z Z Z ?_
  intro Z2 U0 t1;dsimp only[d0a,List.set] at U0;refine lR0 Z U ?_;exact g0a Z m0a Z (U0.cells 0 Z) Z ⟨⟨_,Z,by rw[j7c (by omega)];exact RdE.more (fun g hg=>.inl (by simp[hg])) _ _ (RdE.keep (t1.mono (by simp)) _ _ (V1 (g2::M)))⟩,U0.fin⟩
 refine lCn 5 S2.k [] Z U (wX (fun D ε w=>D=[]∧∃f0:Nat,∃g3:Nat,∃g2:Nat,∃v0:List Value,(v0.length=e.kids.length*4)∧(e.kids.length≠0)∧St [] w0 w [(some f0,38,v0),(some g3,38,[.int .i64 e.op,.int .i64 e.w,.int .i64 e.n,.slice (some ⟨f0,0,none⟩) e.kids.length e.kids.length]),(some g2,38,[.int .i64 0,.int .i64 0,.int .i64 0,.slice none 0 0])]∧Sl ε [(0,.pointer (some ⟨b,o,none⟩)),(2,.pointer (some ⟨g2,0,none⟩)),(3,.pointer (some ⟨g3,0,none⟩))]) ?_ ?_)
 ·refine U8a c0a (fun i=>[0,1,2,3,4,5,6,7,8,9,10,11,12,13,14,15,16,18].contains i) (.op 0 (.op 1 (.op 2 (.op 3 (.op 4 (.op 5 (.op 6 (.op 7 (.op 8 (.op 9 (.op 10 (.op 11 (.op 12 (.op 13 (.op 14 (.op 15 (.op 16 (.two (.op 17 (.op 18 (.op 19 (.op 20 .nil)))) (.op 19 (.op 17 (.op 18 (.op 20 .nil)))))))))))))))))))))) (b6c S2) ?_;have m0:=S2.drew;have i0:y0a [] w2 w2.drew:=o2a _ _;generalize w2.drew=y3 at m0 i0 ⊢;refine B1a ⟨m0,i0⟩ Z Z Z ?_;refine F1a Z ?_;refine i0a ?_;refine B1a ⟨m0,i0⟩ Z Z Z ?_;refine w6a Z Z ?_;refine i0a ?_;refine B1a ⟨m0,i0⟩ Z Z Z ?_;refine u0a L1c Z Z ?_;refine i0a ?_;refine B1a ⟨m0,i0⟩ Z Z Z ?_;refine k0a D0a Z (fun w1 hw=>by exact hw.1.old c0) Z ?_;refine i0a ?_;refine B1a ⟨m0,i0⟩ Z Z Z ?_;refine F1a Z ?_;refine i0a ?_;refine B1a ⟨m0,i0⟩ Z Z Z ?_;refine w6a Z Z ?_;refine i0a ?_;refine B1a ⟨m0,i0⟩ Z Z Z ?_;refine u0a V2c Z Z ?_;refine i0a ?_;refine B1a ⟨m0,i0⟩ Z Z Z ?_;refine k0a D0a Z (fun w1 hw=>by exact hw.1.old c1) Z ?_;refine i0a ?_;refine B1a ⟨m0,i0⟩ Z Z Z ?_;refine F1a Z ?_;refine i0a ?_;refine B1a ⟨m0,i0⟩ Z Z Z ?_;refine w6a Z Z ?_;refine i0a ?_;refine B1a ⟨m0,i0⟩ Z Z Z ?_;refine u0a Z1c Z Z ?_;refine i0a ?_;refine B1a ⟨m0,i0⟩ Z Z Z ?_;refine k0a D0a Z (fun w1 hw=>by exact hw.1.old c2) Z ?_;refine i0a ?_;refine B1a ⟨m0,i0⟩ Z Z Z ?_;refine F1a Z ?_;refine i0a ?_;refine B1a ⟨m0,i0⟩ Z Z Z ?_;refine w6a Z Z ?_;refine i0a ?_;refine B1a ⟨m0,i0⟩ Z Z Z ?_;refine u0a I0b Z Z ?_;refine i0a ?_;refine B1a ⟨m0,i0⟩ Z Z Z ?_;refine k0a r1a Z (fun w1 hw=>by exact hw.1.old c3) Z ?_;refine i0a ?_;refine B1a ⟨m0,i0⟩ Z Z Z ?_;refine Y3d R0a.slT Z Z ?_;refine i0a ?_;refine Z5a ?_ ?_
  ·refine u2a ⟨m0,i0⟩ Z Z Z ?_;refine p6b (n:=e.kids.length) m0 R0a Z Z Z ?_;intro f0 a3 v0 u0 V0 u1 p2;have p0:=i0.trans u1;refine B0a ⟨Z,?_⟩;refine B1a ⟨V0.tail,p0⟩ Z Z Z ?_;refine m3a I2a (vs:=[(0,.int .i64 _),(1,.int .i64 _),(2,.int .i64 _),(3,.slice _ _ _)]) (cs:=[_,_,_,_]) Z Z Z Z ?_;refine i0a ?_;refine u2a ⟨V0.tail,p0⟩ Z Z Z ?_;refine h0a V0 w1a Z Z ?_;intro g3 w3 S3 X3 G3;have G0:=p0.trans X3;refine B0a ⟨Z,?_⟩;refine u2a ⟨S3.tail.tail,G0⟩ Z Z Z ?_;refine b0a (kk:=0) (vs:=[_,_,_,_]) S3 w0a Z Z Z Z Z Z Z ?_;intro i1 g0 E0;dsimp only[d0a,List.set] at g0;have F0:=G0.freshL E0 (fun g hg=>.inl (by rw[List.mem_singleton.1 hg];exact Nat.le_trans p0.size G3));refine B0a ⟨Z,?_⟩;refine e3a ⟨g0.tail.tail,F0⟩ ?_;refine fP0 Z U ⟨Z,(f0),(g3),(g2),(_),(u0),((by omega)),(g0.perm (by exact .swap _ _ _)),Z⟩
  refine u2a ⟨m0,i0⟩ Z Z Z ?_;refine h0a m0 w1a Z Z ?_;intro g3 w3 S3 X3 G3;have G0:=i0.trans X3;refine B0a ⟨Z,?_⟩;refine u2a ⟨S3.tail,G0⟩ Z Z Z ?_;refine p6b (n:=e.kids.length) S3 R0a Z Z Z ?_;intro f0 a3 v0 u0 V0 u1 p2;have p0:=G0.trans u1;refine B0a ⟨Z,?_⟩;refine B1a ⟨V0.tail.tail,p0⟩ Z Z Z ?_;refine m3a I2a (vs:=[(0,.int .i64 _),(1,.int .i64 _),(2,.int .i64 _),(3,.slice _ _ _)]) (cs:=[_,_,_,_]) Z Z Z Z ?_;refine i0a ?_;refine u2a ⟨V0.tail.tail,p0⟩ Z Z Z ?_;refine b0a (kk:=1) (vs:=[_,_,_,_]) V0 w0a Z Z Z Z Z Z Z ?_;intro i1 g0 E0;dsimp only[d0a,List.set] at g0;have F0:=p0.freshL E0 (fun g hg=>.inl (by rw[List.mem_singleton.1 hg];exact Nat.le_trans i0.size G3));refine B0a ⟨Z,?_⟩;refine e3a ⟨g0.tail.tail,F0⟩ ?_;refine fP0 Z U ⟨Z,(f0),(g3),(g2),(_),(u0),((by omega)),(g0.perm (by exact .refl _)),Z⟩
 rintro D ε w ⟨rfl,f0,g3,g2,v0,u0,y0,S,eZ⟩;refine wK eZ (wCn 5 S.k [] Z U ?_);refine wX (fun D ε w=>D=[]∧∃f0:Nat,∃g3:Nat,∃g2:Nat,∃row:List Value,∃kb:Bool,(kb=N.kids.all (fun x=>decide (x.op=1)))∧(RdE (g2::M) w N [.int .i64 e.op,.int .i64 e.w,.int .i64 e.n,.slice (some ⟨f0,0,none⟩) e.kids.length e.kids.length])∧(e.kids.length≠0)∧St [] w0 w [(some f0,38,row),(some g3,38,[.int .i64 e.op,.int .i64 e.w,.int .i64 e.n,.slice (some ⟨f0,0,none⟩) e.kids.length e.kids.length]),(some g2,38,[.int .i64 0,.int .i64 0,.int .i64 0,.slice none 0 0])]∧Sl ε [(2,.pointer (some ⟨g2,0,none⟩)),(3,.pointer (some ⟨g3,0,none⟩)),(4,.bool kb)]) ?_ ?_
 ·refine wC S.k [.o 1] Z ⟨Z,U⟩ (wL (fun μ D ε w=>D=[]∧∃k:Nat,∃kb:Bool,∃css:List (List Value),∃rest:List Value,(k+μ=e.kids.length)∧(kb=(e.kids.take k).all (fun x=>decide ((d1b x).op=1)))∧(css.length=k)∧(∀x∈css,x.length=4)∧(rest.length=μ*4)∧(∀(i:Nat) (h:i<e.kids.length),i<k→∃c,css[i]?=some c∧RdE (f0::g3::g2::M) w (d1b e.kids[i]) c)∧St [] w0 w [(some f0,38,css.flatten++rest),(some g3,38,[.int .i64 e.op,.int .i64 e.w,.int .i64 e.n,.slice (some ⟨f0,0,none⟩) e.kids.length e.kids.length]),(some g2,38,[.int .i64 0,.int .i64 0,.int .i64 0,.slice none 0 0])]∧ε 0=.pointer (some ⟨b,o,none⟩)∧ε 2=.pointer (some ⟨g2,0,none⟩)∧ε 3=.pointer (some ⟨g3,0,none⟩)∧ε 4=.bool kb∧ε 35=.int .i64 e.kids.length∧ε 36=.int .i64 k) (μ:=e.kids.length) ⟨Z,0,true,[],v0,by omega,Z,Z,by simp,by omega,fun i h h0=>absurd h0 (by omega),S,Z,Z,Z,Z,Z,Z⟩ ?_);rintro μ D ε w ⟨rfl,k,kb,css,rest,hk,x0,hl,h4,R2,n1,S,e0,e2,e3,e4,G1,H1⟩;refine s0a 0 e0 (s0a 2 e2 (s0a 3 e3 (s0a 4 e4 (s0a 35 G1 (s0a 36 H1 ?_)))));clear e0 e2 e3 e4 G1 H1;have I1:∀g∈f0::g3::g2::M,g∈M∨w0.heap.size≤g:=by
   intro g hg;simp at hg;rcases hg with rfl|rfl|rfl|hg
   ·right;simpa using S.new 0 Z
   ·right;simpa using S.new 1 Z
   ·right;simpa using S.new 2 Z
   ·exact .inl hg
  have F2:∀g∈f0::g3::g2::M,g<w.heap.size:=by
   intro g hg;simp at hg;rcases hg with rfl|rfl|rfl|hg
   ·exact S.lt 0 Z
   ·exact S.lt 1 Z
   ·exact S.lt 2 Z
   ·have:=hM g hg;have:=S.size;omega
  refine wB0 Z U (fun z2=>?_) fun z2=>?_
  ·refine lC0 Z U (H0a c0a [0,1,2,3,4,5,6,7,8] [9] [10,11] Z (Cl _ _ _ _) (Cl.start S) ?_);refine qO S.q [.o 1] Z ⟨Z,U⟩ ?_;have Y0:k<e.kids.length:=by omega
   obtain⟨bk,ok,_,z1,N2⟩:=O2 (by omega);refine k0a r1a Z (fun w1 hw=>by exact hw.1.old c3) Z ?_;refine qO0 Z U (q0a R0a.slT Z (by assumption) Z Z ?_);refine qN0 Z U (R3a ?_);refine E4a (fun v w=>∃cs:List Value,v=.agg cs.toArray∧RdE (f0::g3::g2::M) w (d1b e.kids[k]) cs) Z Z L6c Z (fun v w w' ⟨cs,h,hr⟩ k=>⟨cs,h,RdE.keep k.of_nil _ _ hr⟩) (fun w1 S1 X1=>ih e.kids[k] (List.getElem_mem Y0) (f0::g3::g2::M) _ bk (ok+k*4) (Z0-1) (((RdP.kid z1 N2 k Y0).more I1).keep (S1.keep0 _)) ((hK.more I1).keep (S1.keep0 _)) (O1 _ (List.getElem_mem Y0)) (fun g hg=>Nat.lt_of_lt_of_le (F2 g hg) X1.size)) ?_;refine O1a ?_;rintro z3 ⟨v2,v1⟩;rintro n3 ⟨t0,rfl,g1⟩;dsimp only[y3a];have s0:=g1.length;obtain⟨_,_,_,R0,-⟩:=g1.open_;refine M0a R0a.slT Z (by rfl) Z Z ?_;refine b0a (kk:=0) (vs:=t0) v2 w0a Z Z (by simp) s0 (by rw[R0];rfl) Z (by rw[Nat.ble_eq,List.length_append,v3a css h4,hl,R2];simp;omega) ?_;intro j1 S8 o0;have M1:css.flatten.length=k*4:=by rw[v3a css h4,hl]
   have T2:d0a (css.flatten++rest) (0+(k:Int).toNat*4) t0=(css++[t0]).flatten++rest.drop 4:=by
    rw[show(0+(k:Int).toNat*4)=css.flatten.length by simp[M1],H7a t0 css.flatten rest (by omega),s0];simp
   have n0:St [] w0 j1 [(some f0,38,(css++[t0]).flatten++rest.drop 4),(some g3,38,[.int .i64 e.op,.int .i64 e.w,.int .i64 e.n,.slice (some ⟨f0,0,none⟩) e.kids.length e.kids.length]),(some g2,38,[.int .i64 0,.int .i64 0,.int .i64 0,.slice none 0 0])]:=by rw[←T2];exact S8
   have C1:((css++[t0]).flatten++rest.drop 4)[0+(k:Int).toNat*4+0]?=some (.int .i64 (d1b e.kids[k]).op):=by
    rw[List.getElem?_append_left (by simp[M1,s0])];have:=o9b (css++[t0]) k t0 (fun x hx=>by rcases List.mem_append.1 hx with hx|hx;exact h4 x hx;simp at hx;subst hx;exact s0) (by rw[List.getElem?_append_right (by omega),hl];simp) 0 (.int .i64 (d1b e.kids[k]).op) (by rw[R0];rfl);simpa using this
   refine lOn 3 n0.k [] Z U ?_;cases W0:kb
   ·refine N0a (hv:=Z) (v:=.bool _) Z ?_;refine lP0 Z ⟨by omega,U⟩ ?_;refine⟨μ-1,by omega,Z,k+1,_,css++[t0],rest.drop 4,by omega,?_,by simp[hl],fun x hx=>?_,by rw[List.length_drop];omega,fun i hi N1=>?_,?_,Z,Z,Z,Z,Z,Z⟩
    ·rw[z5a Y0,←x0];(simp[W0];done)
    ·rcases List.mem_append.1 hx with hx|hx
     ·exact h4 x hx
     ·simp at hx;subst hx;exact s0
    ·by_cases H0:i<k
     ·obtain⟨q,q1,q2⟩:=n1 i hi H0;exact⟨q,by rw[List.getElem?_append_left (by omega)];exact q1,RdE.keep (o0.mono (by simp)) _ _ (RdE.keep v1.of_nil _ _ q2)⟩
     ·obtain rfl:i=k:=by omega
      exact⟨t0,by rw[List.getElem?_append_right (by omega),hl];simp,RdE.keep (o0.mono (by simp)) _ _ g1⟩
    ·exact n0
   refine N0a (hv:=Z) (v:=.bool _) Z ?_;refine lO n0.k [.o 1] Z ⟨Z,U⟩ (M0a R0a.slT Z (by rfl) Z Z ?_);refine lO0 Z U (L0a D0a Z (n0.cell 0 Z C1) Z ?_);refine lB0 Z U (fun x1=>?_) fun x1=>?_
   ·refine lP0 Z ⟨by omega,U⟩ ?_;refine⟨μ-1,by omega,Z,k+1,_,css++[t0],rest.drop 4,by omega,?_,by simp[hl],fun x hx=>?_,by rw[List.length_drop];omega,fun i hi N1=>?_,?_,Z,Z,Z,Z,Z,Z⟩
    ·rw[z5a Y0,←x0];(simp[W0,x1];done)
    ·rcases List.mem_append.1 hx with hx|hx
     ·exact h4 x hx
     ·simp at hx;subst hx;exact s0
    ·by_cases H0:i<k
     ·obtain⟨q,q1,q2⟩:=n1 i hi H0;exact⟨q,by rw[List.getElem?_append_left (by omega)];exact q1,RdE.keep (o0.mono (by simp)) _ _ (RdE.keep v1.of_nil _ _ q2)⟩
     ·obtain rfl:i=k:=by omega
      exact⟨t0,by rw[List.getElem?_append_right (by omega),hl];simp,RdE.keep (o0.mono (by simp)) _ _ g1⟩
    ·exact n0
   refine lP0 Z ⟨by omega,U⟩ ?_;refine⟨μ-1,by omega,Z,k+1,_,css++[t0],rest.drop 4,by omega,?_,by simp[hl],fun x hx=>?_,by rw[List.length_drop];omega,fun i hi N1=>?_,?_,Z,Z,Z,Z,Z,Z⟩
   ·rw[z5a Y0,←x0];(simp[W0,x1];done)
   ·rcases List.mem_append.1 hx with hx|hx
    ·exact h4 x hx
    ·simp at hx;subst hx;exact s0
   ·by_cases H0:i<k
    ·obtain⟨q,q1,q2⟩:=n1 i hi H0;exact⟨q,by rw[List.getElem?_append_left (by omega)];exact q1,RdE.keep (o0.mono (by simp)) _ _ (RdE.keep v1.of_nil _ _ q2)⟩
    ·obtain rfl:i=k:=by omega
     exact⟨t0,by rw[List.getElem?_append_right (by omega),hl];simp,RdE.keep (o0.mono (by simp)) _ _ g1⟩
   ·exact n0
  refine lP0 Z U ?_;have I0:∀g∈g2::M,g∈f0::g3::g2::M:=fun g hg=>by simp at hg;rcases hg with rfl|hg<;>simp[*]
  have b0:RdE (g2::M) w N [.int .i64 e.op,.int .i64 e.w,.int .i64 e.n,.slice (some ⟨f0,0,none⟩) e.kids.length e.kids.length]:=by
   rw[hN];have P1:(e.kids.map d1b).length=e.kids.length:=by simp
   rw[←P1];refine F2c (css:=css) (rest:=rest) o1 o2 o3 (fun hm=>?_) (S.cells 0 Z) (by simp;omega) h4 (fun i hi=>?_) (by simp;omega)
   ·rcases List.mem_cons.1 hm with hm|hm
    ·exact S.ne 0 2 Z Z (by omega) hm
    ·have h1:=hM _ hm;have h2:=S.new 0 Z;simp at h2;omega
   ·rw[P1] at hi;obtain⟨q,q1,q2⟩:=n1 i hi (by omega);exact⟨q,q1,by rw[List.getElem_map];exact RdE.less I0 _ _ q2⟩
  refine⟨Z,(f0),(g3),(g2),(_),(kb),((by rw[x0,nk,List.all_map,show k=e.kids.length by omega,List.take_length];rfl)),(b0),(y0),S,Z⟩
 rintro D ε w ⟨rfl,f0,g3,g2,row,kb,x0,b0,y0,S,eZ⟩;refine wK eZ ?_;have I0:∀g∈M,g∈g2::M:=fun g hg=>by simp[hg]
 have L2:g3∉M:=fun hm=>by have h1:=hM _ hm;have h2:=S.new 1 Z;simp at h2;omega
 have K0:∀g∈g2::M,g∈M∨w0.heap.size≤g:=fun g hg=>by rcases List.mem_cons.1 hg with rfl|hg;exact .inr (by simpa using S.new 2 Z);exact .inl hg
 refine wOn 3 S.k [] Z U ?_;cases q0:kb
 ·refine N0a (hv:=Z) (v:=.bool _) Z ?_;refine lB S.k [.o 1] Z ⟨Z,U⟩ (fun A2=>?_) fun A2=>?_
  ·obtain⟨a,p1⟩:=B4c (n:=N) (by have:=M1a J0;have:=h1a N.op;omega);have H2:RdE (g2::M) w N [.int .i64 N.op,.int .i64 N.w,.int .i64 N.n,.slice (some ⟨f0,0,none⟩) e.kids.length e.kids.length]:=by rw[Y2,nw,nn];exact b0
   obtain⟨_,_,_,hA,_,K1,B1⟩:=H2.kidC 0 (a:=a) (by rw[p1];rfl);cases hA;obtain⟨_,na,_,rfl,-⟩:=B1.open_;refine lO S.k [.o 1] Z ⟨Z,U⟩ (M0a R0a.slT Z (by rfl) Z Z ?_);refine lO0 Z U (L0a D0a Z (K1 0 _ Z) Z ?_);refine lB0 Z U (fun m1=>?_) fun m1=>?_
   ·obtain⟨y,A1⟩:=P0 a (by rw[p1];simp) m1;obtain⟨_,_,_,rfl,_,J2,R1⟩:=B1.kidC 0 (a:=y) (by rw[A1];rfl);obtain⟨_,_,_,K2,-,-,-,P2,-⟩:=B1.open_;cases K2;have Q2:na=1:=by rw[P2,A1];rfl
    obtain⟨_,_,_,rfl,-⟩:=R1.open_;refine lO S.k [.o 1] Z ⟨Z,U⟩ (M0a R0a.slT Z (by rfl) Z Z ?_);refine lO0 Z U (L0a r1a Z (K1 3 _ Z) Z ?_);refine M0a R0a.slT Z (by rfl) Z Z ?_;refine L2a (hn:=Z) m0a Z J2 Z ?_;refine b0a (kk:=2) (vs:=[_,_,_,_]) S w0a Z Z Z Z Z Z Z ?_;intro f2 A0 L0;dsimp only[d0a,List.set] at A0;replace b0:=RdE.keep (L0.mono (by simp)) _ _ b0;refine lR0 Z U ?_;refine g0a Z m0a Z (A0.cells 2 Z) Z ⟨⟨_,Z,?_⟩,A0.fin⟩;rw[r0 y0,show B4a N=y by unfold B4a;rw[if_neg (by rw[←x0,q0];simp),if_pos (by omega),show N.kids.getD 0 zE=a by rw[p1];rfl,if_pos m1,A1];rfl];exact RdE.less I0 _ _ (RdE.keep (L0.mono (by simp)) _ _ R1)
   refine lO S.k [.w 1] Z ⟨⟨Z,by rfl⟩,U⟩ (b0a (kk:=2) (vs:=[_,_,_,_]) S w0a Z Z Z Z Z Z Z ?_);intro i2 B0 b1;dsimp only[d0a,List.set] at B0;replace b0:=RdE.keep (b1.mono (by simp)) _ _ b0;refine lR0 Z U ?_;refine g0a Z m0a Z (B0.cells 2 Z) Z ⟨⟨_,Z,?_⟩,B0.fin⟩;rw[r0 y0,show B4a N=N by unfold B4a;rw[if_neg (by rw[←x0,q0];simp),if_pos (by omega),show N.kids.getD 0 zE=a by rw[p1];rfl,if_neg m1]];exact RdE.less I0 _ _ b0
  refine lB0 Z U (fun B2=>?_) fun B2=>?_
  ·obtain⟨a,b2,j0⟩:=f9b (n:=N) (by have:=M1a J0;have:=h1a N.op;omega);have f1:a∈N.kids:=by rw[j0];simp
   have Q0:b2∈N.kids:=by rw[j0];simp
   refine lO S.k [.w 1] Z ⟨⟨Z,by rfl⟩,U⟩ ?_;refine o0a S L6b Z Z (v5a N a b2 (g2::M) _ _ (fun g hg=>by rcases List.mem_cons.1 hg with rfl|hg;exact S.lt 2 Z;have:=hM g hg;have:=S.size;omega) b0 ((hK.more K0).keep (S.keep0 _)) j0 (X0 b2 Q0) (P0 a f1) (P0 b2 Q0)) ?_;rintro a2 n2 ⟨F1,rfl,S0⟩ a1 d1;replace b0:=RdE.keep (d1.of_nil) _ _ b0;have rr:=S0;obtain⟨D1,T1,U1,rfl,-⟩:=S0.open_;refine b0a (kk:=2) (vs:=[_,_,_,_]) a1 w0a Z Z Z Z Z Z Z ?_;intro T0 a0 d0;dsimp only[d0a,List.set] at a0;replace b0:=RdE.keep (d0.mono (by simp)) _ _ b0;refine lR0 Z U ?_;refine g0a Z m0a Z (a0.cells 2 Z) Z ⟨⟨_,Z,?_⟩,a0.fin⟩;rw[r0 y0,show B4a N=z6a N a b2 by unfold B4a;rw[if_neg (by rw[←x0,q0];simp),if_neg (by omega),if_pos (by omega),j0];rfl];exact RdE.less I0 _ _ (RdE.keep (d0.mono (by simp)) _ _ rr)
  refine lB0 Z U (fun C2=>?_) fun C2=>?_
  ·obtain⟨a,b2,j0⟩:=f9b (n:=N) (by have:=M1a J0;have:=h1a N.op;omega);have f1:a∈N.kids:=by rw[j0];simp
   have Q0:b2∈N.kids:=by rw[j0];simp
   refine lO S.k [.w 1] Z ⟨⟨Z,by rfl⟩,U⟩ ?_;refine o0a S L6b Z Z (v5a N a b2 (g2::M) _ _ (fun g hg=>by rcases List.mem_cons.1 hg with rfl|hg;exact S.lt 2 Z;have:=hM g hg;have:=S.size;omega) b0 ((hK.more K0).keep (S.keep0 _)) j0 (X0 b2 Q0) (P0 a f1) (P0 b2 Q0)) ?_;rintro a2 n2 ⟨F1,rfl,S0⟩ a1 d1;replace b0:=RdE.keep (d1.of_nil) _ _ b0;have rr:=S0;obtain⟨D1,T1,U1,rfl,-⟩:=S0.open_;refine b0a (kk:=2) (vs:=[_,_,_,_]) a1 w0a Z Z Z Z Z Z Z ?_;intro T0 a0 d0;dsimp only[d0a,List.set] at a0;replace b0:=RdE.keep (d0.mono (by simp)) _ _ b0;refine lR0 Z U ?_;refine g0a Z m0a Z (a0.cells 2 Z) Z ⟨⟨_,Z,?_⟩,a0.fin⟩;rw[r0 y0,show B4a N=z6a N a b2 by unfold B4a;rw[if_neg (by rw[←x0,q0];simp),if_neg (by omega),if_pos (by omega),j0];rfl];exact RdE.less I0 _ _ (RdE.keep (d0.mono (by simp)) _ _ rr)
  refine lB0 Z U (fun D2=>?_) fun D2=>?_
  ·obtain⟨a,b2,j0⟩:=f9b (n:=N) (by have:=M1a J0;have:=h1a N.op;omega);have f1:a∈N.kids:=by rw[j0];simp
   have Q0:b2∈N.kids:=by rw[j0];simp
   refine lO S.k [.w 1] Z ⟨⟨Z,by rfl⟩,U⟩ ?_;refine o0a S L6b Z Z (v5a N a b2 (g2::M) _ _ (fun g hg=>by rcases List.mem_cons.1 hg with rfl|hg;exact S.lt 2 Z;have:=hM g hg;have:=S.size;omega) b0 ((hK.more K0).keep (S.keep0 _)) j0 (X0 b2 Q0) (P0 a f1) (P0 b2 Q0)) ?_;rintro a2 n2 ⟨F1,rfl,S0⟩ a1 d1;replace b0:=RdE.keep (d1.of_nil) _ _ b0;have rr:=S0;obtain⟨D1,T1,U1,rfl,-⟩:=S0.open_;refine b0a (kk:=2) (vs:=[_,_,_,_]) a1 w0a Z Z Z Z Z Z Z ?_;intro T0 a0 d0;dsimp only[d0a,List.set] at a0;replace b0:=RdE.keep (d0.mono (by simp)) _ _ b0;refine lR0 Z U ?_;refine g0a Z m0a Z (a0.cells 2 Z) Z ⟨⟨_,Z,?_⟩,a0.fin⟩;rw[r0 y0,show B4a N=z6a N a b2 by unfold B4a;rw[if_neg (by rw[←x0,q0];simp),if_neg (by omega),if_pos (by omega),j0];rfl];exact RdE.less I0 _ _ (RdE.keep (d0.mono (by simp)) _ _ rr)
  refine lB0 Z U (fun E2=>?_) fun E2=>?_
  ·obtain⟨t,a,b2,j0⟩:=z1d (n:=N) (by have:=M1a J0;have:=h1a N.op;omega);have V2:t∈N.kids:=by rw[j0];simp
   refine lO S.k [.w 1] Z ⟨⟨Z,by rfl⟩,U⟩ ?_;refine o0a S p7c Z Z (H2c N t a b2 (g2::M) _ _ (fun g hg=>by rcases List.mem_cons.1 hg with rfl|hg;exact S.lt 2 Z;have:=hM g hg;have:=S.size;omega) b0 j0 (P0 t V2)) ?_;rintro r3 v3 ⟨_,rfl,Y1⟩ t2 x2;replace b0:=RdE.keep (x2.of_nil) _ _ b0;have rr:=Y1;obtain⟨_,_,_,rfl,-⟩:=Y1.open_;refine b0a (kk:=2) (vs:=[_,_,_,_]) t2 w0a Z Z Z Z Z Z Z ?_;intro j2 C0 N0;dsimp only[d0a,List.set] at C0;replace b0:=RdE.keep (N0.mono (by simp)) _ _ b0;refine lR0 Z U ?_;refine g0a Z m0a Z (C0.cells 2 Z) Z ⟨⟨_,Z,?_⟩,C0.fin⟩;rw[r0 y0,show B4a N=n7a N t a b2 by unfold B4a;rw[if_neg (by rw[←x0,q0];simp),if_neg (by omega),if_neg (by omega),if_pos (by omega),j0];rfl];exact RdE.less I0 _ _ (RdE.keep (N0.mono (by simp)) _ _ rr)
  have Q1:5≤N.op∧N.op≤10:=by have:=M1a J0;have:=h1a N.op;omega
  obtain⟨a,b2,j0⟩:=f9b (n:=N) (by have:=M1a J0;have:=h1a N.op;omega);have r1:=(E9a Q1).1 J0;refine lO S.k [.w 1] Z ⟨⟨Z,by rfl⟩,U⟩ ?_;refine o0a S A8c Z Z (O4b N a b2 (g2::M) _ _ b0 ((hK.more K0).keep (S.keep0 _)) j0 ⟨r1.1,r1.2.1⟩ (by have:=r1.2.2.2.2.1;rw[E.kw,j0] at this;simpa using this) (by have:=r1.2.2.2.2.2;rw[E.kw,j0] at this;simpa using this) Q1) ?_;rintro s3 x3 ⟨_,rfl,Z1⟩ u2 y2;replace b0:=RdE.keep (y2.of_nil) _ _ b0;have rr:=Z1;obtain⟨_,_,_,rfl,-⟩:=Z1.open_;refine b0a (kk:=2) (vs:=[_,_,_,_]) u2 w0a Z Z Z Z Z Z Z ?_;intro m2 D0 O0;dsimp only[d0a,List.set] at D0;replace b0:=RdE.keep (O0.mono (by simp)) _ _ b0;refine lR0 Z U ?_;refine g0a Z m0a Z (D0.cells 2 Z) Z ⟨⟨_,Z,?_⟩,D0.fin⟩;rw[r0 y0,show B4a N=opS N a b2 by unfold B4a;rw[if_neg (by rw[←x0,q0];simp),if_neg (by omega),if_neg (by omega),if_neg (by omega),j0];rfl];exact RdE.less I0 _ _ (RdE.keep (O0.mono (by simp)) _ _ rr)
 refine N0a (hv:=Z) (v:=.bool _) Z ?_;refine lC0 Z U (H0a c0a [1,2] [0] [3,4] Z (Cl _ _ _ _) (Cl.start S) ?_);refine qN S.q [.o 1] Z ⟨Z,U⟩ (R3a ?_);refine E4a (_) Z Z J2c Z (fun _ _ _ h _=>h) (fun w1 S1 X1=>D7b N M _ g3 0 (.slice none 0 0) (.slice none 0 0) [] [] Z0 ⟨L2,_,S1.cells 1 Z,RdE.keep X1.of_nil _ _ (RdE.less I0 _ _ b0)⟩ (hK.keep (S1.keep0 M)) F9a F9a y1) ?_;refine O1a ?_;rintro b3 ⟨s1,_⟩;rintro p3 rfl;dsimp only[y3a];have j3:=i2a y1 [] [];have W2:i64 (N.val [] []):=by have:=h0b (h:=(by have:=M1a J0;omega)) N.w.toNat 8;have e8:m2a 8=256:=(by decide);unfold i64;omega
 refine o0a s1 r4a Z Z (R1a (N.val [] []) e.w W2 o2 M _) ?_;rintro q3 u3 ⟨_,rfl,W1⟩ s2 f3;obtain⟨_,_,_,rfl,-⟩:=W1.open_;refine b0a (kk:=2) (vs:=[_,_,_,_]) s2 w0a Z Z Z Z Z Z Z ?_;intro d2 z0 E1;dsimp only[d0a,List.set] at z0;refine lR0 Z U ?_;refine g0a Z m0a Z (z0.cells 2 Z) Z ⟨⟨_,Z,?_⟩,z0.fin⟩;rw[r0 y0,show B4a N=⟨1,e.w,N.val [] [],[]⟩ by unfold B4a;rw[if_pos (x0.symm.trans q0),nw]];exact RdE.leafAny W1
theorem S5b(e:E)(M:List Nat)(w0:World)(cs:List Value)(hR:RdE M w0 e cs)(hK:k2a M w0)(hM:∀g∈M,g<w0.heap.size):
 O0a prog 52 #[.agg cs.toArray] w0 fun v w'=>(∃cs:List Value,v=.agg cs.toArray∧RdE M w' (D0d e) cs)∧Bw w0 w':=by
 obtain⟨_,k,_,rfl,-⟩:=hR.open_;have S:=St.refl w0;refine a0a func52 Z ntmps52 Z ?_;refine wO0 Z U (r0a S Z ?_);intro g1 w1 S1 X1 G1;refine h0a S1 w1a Z Z ?_;intro g2 w2 S2 X2 G2;refine lO S2.k [.w 1] Z ⟨⟨Z,by rfl⟩,U⟩ (f0a S2 I8a Z Z (p2a e M _ _ (RdE.keep (S2.keep0 M) _ _ hR) (hK.keep (S2.keep0 M))) (fun h4 w4 S4 X4=>?_) (fun h4 w4 S4 X4=>?_))
 ·refine lO0 Z U ?_;have d0:∀g∈g2::M,g∈M∨w0.heap.size≤g:=fun g hg=>by rcases List.mem_cons.1 hg with rfl|hg;exact .inr (by simpa using S4.new 0 Z);exact .inl hg
  have f0:g1∉g2::M:=fun hm=>by
   rcases List.mem_cons.1 hm with hm|hm
   ·exact S4.ne 0 1 Z Z (by omega) hm.symm
   ·have h1:=hM _ hm;have h2:=S4.new 1 Z;simp at h2;omega
  refine o0a S4 L6c Z Z (U6b e (g2::M) _ g1 0 40 ⟨f0,_,S4.cells 1 Z,RdE.keep (S4.keep0 _) _ _ (RdE.more d0 _ _ hR)⟩ ((hK.more d0).keep (S4.keep0 _)) (t5a h4) (fun g hg=>by rcases List.mem_cons.1 hg with rfl|hg;exact S4.lt 0 Z;have:=hM g hg;have:=S4.size;omega)) ?_;rintro v7 w7 ⟨_,rfl,r7⟩ S7 X7;have rr:=r7;obtain⟨_,_,_,rfl,-⟩:=r7.open_;refine b0a (kk:=0) (vs:=[_,_,_,_]) S7 w0a Z Z Z Z Z Z Z ?_;intro i0 b0 c0;dsimp only[d0a,List.set] at b0;refine lR0 Z U ?_;exact g0a Z m0a Z (b0.cells 0 Z) Z ⟨⟨_,Z,by rw[show D0d e=d1b e from if_pos h4];exact RdE.less (fun g hg=>List.mem_cons_of_mem _ hg) _ _ (RdE.keep (c0.mono (by simp)) _ _ rr)⟩,b0.fin⟩
 refine lO0 Z U (j1a I2a (vs:=[]) (cs:=[_,_,_,_]) Z Z Z Z ?_);refine b0a (kk:=0) (vs:=[_,_,_,_]) S4 w0a Z Z Z Z Z Z Z ?_;intro g0 a0 e0;dsimp only[d0a,List.set] at a0;refine lR0 Z U ?_;exact g0a Z m0a Z (a0.cells 0 Z) Z ⟨⟨_,Z,by rw[show D0d e=zE from if_neg (by rw[h4];simp)];exact L1a (by unfold i64;omega) (by unfold i64;omega) (by unfold i64;omega)⟩,a0.fin⟩
theorem t0c{l acc s:List Int}(hs:s.Pairwise (·<·))(hm:∀x,x∈s↔x∈l)(hn:l.Nodup)(a0:acc.Perm l):o3a acc=s:=by
 have hp:(o3a acc).Perm acc:=List.mergeSort_perm acc _;refine B2b _ _ ?_ hs fun x=>?_
 ·have h1:(o3a acc).Pairwise fun x y=>decide (x≤y)=true:=List.pairwise_mergeSort (fun a b c h1 h2=>by simp at *;omega) (fun a b=>by simp;omega) acc;have h2:(o3a acc).Nodup:=(hp.trans a0).nodup_iff.2 hn;exact(h1.and h2).imp fun⟨h3,h4⟩=>by simp at h3;omega
 ·rw[hm];exact(hp.trans a0).mem_iff
theorem i6a(p:j0a)(M:List Nat)(w0:World)(cs:List Value)(hI:InP p M w0 cs):
 O0a prog 49 #[.agg cs.toArray] w0 fun v w'=>v=.bool true∧Bw w0 w':=by
 obtain⟨_,_,_,_,_,_,_,_,_,_,_,_,rfl,_⟩:=hI.rd.open_;have S:=St.refl w0;refine a0a func49 Z ntmps49 Z ?_;refine wO0 Z U (r0a S Z ?_);intro g1 w1 S1 X1 G1;refine lO S1.k [.w 0] Z ⟨⟨Z,by rfl⟩,U⟩ (W0a S1 p2b Z Z (M5a p M _ _ (hI.keep (S1.keep0 M)).rd hI.ok (hI.keep (S1.keep0 M)).msk (hI.keep (S1.keep0 M)).lt) ?_);intro w8 S8 X8;refine lB0 Z U (fun a0=>?_) (fun a0=>by exfalso;omega);exact lT Z U Z ⟨Z,S8.fin⟩
theorem p0b(b:Nat)(l s:List Int)(hs:s.Pairwise (·<·))(hm:∀x,x∈s↔x∈l)(hn:l.Nodup)(hok:∀x∈l,i64 x)(w0:World)(Ms:x7a (Value.int .i64) w0 b l)(J0:l.length≤100000:=by omega):
 O0a prog 50 #[.map (some b)] w0 fun v w'=>z3a 3 w0 w' v s∧Bw w0 w':=by
 have S:=(St.refl w0).nilEnt 3;have I0:=Ms.lt;refine a0a func50 Z ntmps50 Z ?_;refine wOn 7 S.k [] Z U (G0a Z ?_);refine lO0 Z U ?_;have r0:=Ms.keep (S.keep0 []) List.not_mem_nil;refine A8b S Tryz.underlying108 r0 Z Z ?_;intro q6 w6 S6 X6 G6 It;have B0:w0.heap.size≤q6:=Nat.le_trans S.size G6;refine lC0 Z U (wL (fun μ D ε w=>D=[]∧∃G:Option Nat,∃g0:List Value,∃v:Value,∃acc:List Int,∃a0:List Int,∃p0:Option Int,(a0.length=μ)∧(z7a (Value.int .i64) w b q6 a0 p0)∧((acc++a0).Perm l)∧(y1a u7b 1 [] w0 G g0 v acc)∧St [] w0 w [(G,3,g0)]∧Sl ε [(3,v),(6,.pointer (some ⟨q6,0,none⟩))]) (μ:=l.length) ⟨Z,none,[],.slice none 0 0,[],l,none,Z,It,List.Perm.refl _,y1a.nil,S6,Z⟩ ?_);rintro μ D ε w ⟨rfl,G,g0,v,acc,a0,p0,_,It,c0,e0,S,eZ⟩;refine wK eZ (wO0 Z U ?_);refine h1c S It (.inl B0) Z Z (fun hz=>?_) (fun a f0 v7 w7 j0 S7 X7 n0=>?_)
 ·have D0:=t0c (acc:=acc) hs hm hn (by rw[hz,List.append_nil] at c0;exact c0);have C0:=e0.toV;have A0:=c0.length_eq;rw[List.length_append] at A0;have K0:(o3a acc).length=acc.length:=by simp[o3a]
  refine lOn 9 S.k [] Z U (N0a Z ?_);refine a2a P0c Z Z (q3b _ G _ g0 v acc C0 (fun g hg=>by subst hg;exact S.blk 0 Z) (by omega)) ?_;rintro N0 Q0 ⟨cs2,q0,i0,m0⟩;have d0:=S.changedO 0 Z q0 i0;dsimp only[List.set] at d0;refine lOn 4 d0.k [] Z U (N0a Z ?_);refine G0a Z ?_;refine lR0 Z U (A0a Z ?_);rw[←D0];exact⟨⟨G,cs2,m0,fun g hg=>by subst hg;exact⟨by simpa using d0.new 0 Z,d0.blk 0 Z⟩⟩,d0.fin⟩
 refine lO0 Z U ?_;have z0:=c0.length_eq;rw[List.length_append] at z0;have x0:=j0.length_eq;rw[List.length_cons] at x0;have y0:i64 a:=hok a (c0.subset (List.mem_append_right _ (j0.symm.subset (by simp))));refine w7b n0 Z Z (fun v9=>?_);have KI:=y0a.refl G.toList w7;refine lOn 5 S7.k [] Z U (N0a Z ?_);refine lO0 Z U (C0a S7 T0a (vs:=[.int .i64 _]) (cs:=[_]) Z Z Z Z Z Z ?_);intro H0 O0 o0 t0 F0;replace KI:=KI.trans (t0.of_nil);refine P1a p8a (k:=1) (M2:=[]) (e1:=a) o0 T0a Z e0 Z Z (o0.cells 0 Z) ⟨Z,y0⟩ (by omega) Z ?_;intro L0 G0 v0 P0 s0 b0 u0 E0;refine G0a Z ?_;refine lP0 Z U ⟨μ-1,by omega,Z,(_),(_),(_),(acc++[a]),(f0),(some a),?_,?_,?_,?_,s0.tail,Z⟩
 ·omega
 ·exact n0.keepC (KI.trans u0) (S7.optBlk 0 Z)
 ·rw[List.append_assoc];exact(j0.symm.append_left acc).trans c0
 ·exact b0
def Y8a(p:j0a)(m:Nat)(s:List Int):Prop:=s.Pairwise (·<·)∧∀x,x∈s↔d7a p p.threads.length (x,(m:Int))
def d6a(p:j0a)(s:List Int):E×Int :=
 if s.all (fun x=>decide ((q2a p x).op≠0)) then
  (if(d3a 6 0 (s.map (q2a p))).op=0 then(zE,2) else if(D0d (d3a 6 0 (s.map (q2a p)))).op=0 then(zE,2) else(D0d (d3a 6 0 (s.map (q2a p))),0))
 else(zE,2)
theorem k5c{p:j0a}(hp:p1a p){x:Int×Int}(h:d7a p p.threads.length x):0≤x.1∧x.1<p.modules.length:=by
 obtain⟨_,_,_,_,_,s,_,_,_,h3,_,h5,_,rfl⟩:=h;exact((hp.thread h3).steps s h5).mod
theorem w7a{l:List Int}(hn:l.Nodup):∃s:List Int,s.Pairwise (·<·)∧(∀x,x∈s↔x∈l)∧s.length=l.length:=by
 have hp:(o3a l).Perm l:=List.mergeSort_perm l _;refine⟨o3a l,?_,fun x=>hp.mem_iff,hp.length_eq⟩;have h1:(o3a l).Pairwise fun x y=>decide (x≤y)=true:=List.pairwise_mergeSort (fun a b c h1 h2=>by simp at *;omega) (fun a b=>by simp;omega) l;exact(h1.and (hp.nodup_iff.2 hn)).imp fun⟨h3,h4⟩=>by simp at h3;omega
theorem InP.newL{p:j0a}{M M':List Nat}{w0 w:World}{cs:List Value}(h:InP p M w0 cs)(hk:y0a M' w0 w)(hM:∀g∈M',g∈M∨w0.heap.size≤g)(hl:∀g∈M',g<w.heap.size):InP p M' w cs :=
 ⟨(h.rd.more hM).keep hk,h.ok,(h.msk.more hM).keep hk,hl⟩
theorem E0b(p:j0a)(m:Nat)(M:List Nat)(w0:World)(cs:List Value)(hI:InP p M w0 cs)(hm:m<p.modules.length:=by decide):
 O0a prog 17 #[.agg cs.toArray,.int .i64 m] w0 fun v w'=>(∃s ys,Y8a p m s∧v=.tuple #[.agg ys.toArray,.int .i64 (d6a p s).2]∧RdE M w' (d6a p s).1 ys)∧Bw w0 w':=by
 obtain⟨Ac,nc,cc,Am,nm,cm,Al,nl,cl,At,nt,ct,rfl,_⟩:=hI.rd.open_;have S:=(St.refl w0).nilEnt 38;have hM:=hI.lt;have hp:=hI.ok;have n3:=hp.nmodules;refine a0a func17 Z ntmps17 Z ?_;refine wO0 Z U (r0a S Z ?_);intro g2 w2 S2 X2 G2;refine h0a S2 w1a Z Z ?_;intro g4 w4 S4 X4 G4;refine lB0 Z U (fun b2=>by exfalso;omega) fun b2=>?_;refine lB S4.k [.o 1] Z ⟨Z,U⟩ (fun d2=>by exfalso;omega) fun d2=>?_;refine lO S4.k [.w 1] Z ⟨⟨Z,Z⟩,U⟩ (W0a S4 r4b Z Z (i6a p M _ _ (hI.keep (S4.keep0 M))) ?_);intro O2 m1 u2;refine lO0 Z U (s3a (k:=3) m1 Z ?_);intro t0 P2 H0 v2 r2 N0;have D0:w0.heap.size≤t0:=by have:=m1.size;omega
 have Ms:=x7a.mk_ (enc:=Value.int .i64) N0;refine lO H0.k [.w 1] Z ⟨⟨Z,Z⟩,U⟩ ?_;refine o0a H0 Y5c Z Z (x2b p (t0::M) _ _ (hI.newL (H0.keep0 _) (fun x hx=>by rcases List.mem_cons.1 hx with rfl|hx;exact .inr D0;exact .inl hx) (fun x hx=>by rcases List.mem_cons.1 hx with rfl|hx;exact Ms.lt;have:=hM x hx;have:=H0.size;omega))) ?_;rintro F2 E1 ⟨lp,hP,_,h2,_⟩ K1 T1;replace Ms:=Ms.keep T1 (List.not_mem_nil);obtain⟨Ap,np,cp,rfl⟩:=hP.form;have E2:=hP.len.1;have KP:=y0a.refl [t0] E1;refine lC0 Z U (wL (fun μk D ε w=>D=[]∧∃k:Nat,∃l1:List Int,(k+μk=(lp.length))∧(x7a (Value.int .i64) w t0 l1)∧(∀y,y∈l1↔(y,(m:Int))∈lp.take k)∧(l1.Nodup)∧(∀y∈l1,i64 y)∧(l1.length≤k)∧(y0a [t0] E1 w)∧St [] w0 w [(some g4,38,[.int .i64 0,.int .i64 0,.int .i64 0,.slice none 0 0]),(some g2,27,[.slice Ac nc cc,.slice Am nm cm,.slice Al nl cl,.slice At nt ct]),(none,38,[])]∧Sl ε [(1,.int .i64 m),(2,.pointer (some ⟨g2,0,none⟩)),(4,.pointer (some ⟨g4,0,none⟩)),(6,.map (some t0)),(31,.slice Ap np cp),(32,.int .i64 np),(33,.int .i64 k)]) (μ:=(lp.length)) ⟨Z,0,[],by omega,Ms,(by simp),List.nodup_nil,(by simp),by simp,KP,K1,Z⟩ ?_);rintro μk D ε w ⟨rfl,k,l1,hk,Ms,c1,J0,q0,_,KP,S,eZ⟩;refine wK eZ (wB0 Z U (fun e2=>?_) fun e2=>?_)
 ·obtain⟨x,W1,i2,Y1,u1,W0,_,b1,Z0,f1⟩:=RdS.get (hP.keep (KP.mono (by simp))) (k) (by omega);obtain⟨a2,G0,_⟩:=f1;obtain rfl:Y1=[Value.int .i64 x.1,.int .i64 x.2]:=a2;refine lO (S.k.b Z0) [.x W1 i2,.v 0] Z ⟨⟨Z,b1⟩,⟨W0,by omega⟩,U⟩ (h0a S W0d Z Z ?_);intro g8 w8 S8 X8 G8;have L0:=Nat.le_trans KP.size G8;replace KP:=KP.trans (X8.of_nil);replace Ms:=Ms.keep X8 (List.not_mem_nil);refine b0a (kk:=0) (vs:=[_,_]) S8 m9c Z Z Z Z Z Z Z ?_;intro p2 n0 C0;dsimp only[d0a,List.set] at n0;replace KP:=KP.fresh2 C0 (by exact .inl L0);replace Ms:=Ms.keep C0 (fun hh=>by rw[List.mem_singleton] at hh;exact Ms.ne (S8.blk 0 Z) hh);refine lO0 Z U (G3a t2b Z Z Z ?_);refine L0a D0a Z (by exact n0.cell 0 Z Z) Z ?_;refine lB0 Z U (fun T0=>?_) fun T0=>?_
  ·refine lO0 Z U (G3a t2b Z Z Z ?_);refine L0a D0a Z (by exact n0.cell 0 Z Z) Z ?_;refine F3b (k:=3) n0 (Go.Maps.int_keyed Tryz.underlying3) Tryz.underlying108 u5b (fun a ha=>⟨_,C5a (q0 a ha)⟩) ⟨_,C5a G0⟩ Ms Z Z Z (.inl D0) ?_;intro q2 O0 R0 H1;replace KP:=KP.trans R0;refine lP0 Z ⟨by omega,U⟩ ⟨μk-1,by omega,Z,(k+1),?_,(by omega),?_,?_,?_,?_,?_,(KP),O0.tail,Z⟩;exact insL l1 x.1
   ·exact H1
   ·intro y;rw[J4a,c1,t0a u1,List.mem_append,List.mem_singleton,←T0,show(y,x.2)=x↔y=x.1 from⟨fun h=>by rw[←h],fun h=>by rw[h]⟩]
   ·exact T7a J0
   ·intro y hy;rcases J4a.1 hy with h|h;exact q0 y h;subst h;exact G0
   ·exact Nat.le_trans W2b (by omega)
  refine lP0 Z ⟨by omega,U⟩ ⟨μk-1,by omega,Z,(k+1),?_,(by omega),?_,?_,?_,?_,?_,(KP),n0.tail,Z⟩;exact l1
  ·exact Ms
  ·intro y;rw[c1,t0a u1,List.mem_append,List.mem_singleton];exact⟨.inl,fun h=>h.elim id (fun h=>absurd (by rw[←h]) T0)⟩
  ·exact J0
  ·exact q0
  ·omega
 obtain⟨s,hs,t1,_⟩:=w7a J0;have E0:Y8a p m s:=⟨hs,fun y=>by rw[t1,c1,show k=lp.length by omega,List.take_length,h2]⟩;have s1:∀y∈s,0≤y∧y<p.modules.length:=fun y hy=>k5c hp ((E0.2 y).1 hy);refine lOn 8 S.k [] Z U (G0a Z ?_);refine lO0 Z U ?_;refine o0a S i6c Z Z (H8a (M:=g4::M) (p0b t0 l1 s hs t1 J0 q0 _ Ms) (e2b S 0 Z hM) (fun y hy=>by have:=s1 y hy;unfold i64;omega)) ?_;rintro v46 j1 d1 M1 x2;obtain⟨Ao,no,co,rfl⟩:=d1.form;have D2:=d1.len.1;have KS:=y0a.refl [] j1;refine lC0 Z U (wL (fun μk D ε w=>D=[]∧∃k:Nat,∃G:Option Nat,∃cs2:List Value,∃v:Value,(k+μk=(s.length))∧(R2b (g4::M) w G cs2 v ((s.take k).map (q2a p)))∧(∀g∈G.toList,j1.heap.size≤g∨g∈([]:List Nat))∧(∀x∈s.take k,(q2a p x).op≠0)∧(y0a [] j1 w)∧St [] w0 w [(some g4,38,[.int .i64 0,.int .i64 0,.int .i64 0,.slice none 0 0]),(some g2,27,[.slice Ac nc cc,.slice Am nm cm,.slice Al nl cl,.slice At nt ct]),(G,38,cs2)]∧Sl ε [(2,.pointer (some ⟨g2,0,none⟩)),(4,.pointer (some ⟨g4,0,none⟩)),(9,v),(46,.slice Ao no co),(47,.int .i64 no),(48,.int .i64 k)]) (μ:=(s.length)) ⟨Z,0,none,[],.slice none 0 0,by omega,R2b.nil,by simp,by simp,KS,M1,Z⟩ ?_);rintro μk D ε w ⟨rfl,k,G,cs2,v,hk,F0,r1,hz,KS,S,eZ⟩;refine wK eZ ?_;have KQ:=y0a.refl (G.toList++g4::M) w;refine wB0 Z U (fun f2=>?_) fun f2=>?_
 ·obtain⟨m2,X1,j2,_,r0,X0,_,_,a1,g1⟩:=RdS.get (d1.keep KS.of_nil) (k) (by omega);obtain⟨rfl,_⟩:=id g1;have C2:=s1 m2 (e0a r0);obtain⟨md,i1⟩:∃md,p.modules[m2.toNat]?=some md:=⟨_,List.getElem?_eq_getElem (by omega)⟩;refine lO (S.k.b a1) [.x X1 j2,.f 0 0,.w 1] Z ⟨⟨Z,Z⟩,Z,⟨X0,by omega⟩,U⟩ (o0a S Z9b Z Z ((show((m2.toNat:Nat):Int)=m2 by omega)▸w8a p m2.toNat md i1 (G.toList++g4::M) _ _ ⟨(hI.rd.more (fun x hx=>F3a S x (D5a 2 Z (S1b 0 Z) x hx))).keep (S.keep0 _),hp,(hI.msk.more (fun x hx=>F3a S x (D5a 2 Z (S1b 0 Z) x hx))).keep (S.keep0 _),fun x hx=>A4a S hM x (D5a 2 Z (S1b 0 Z) x hx)⟩) ?_);rintro H2 n2 ⟨_,rfl,v1⟩ N1 q1;replace KS:=KS.trans (q1.of_nil);replace KQ:=KQ.trans (q1.of_nil);obtain⟨_,_,_,rfl,-⟩:=v1.open_;have KR:=y0a.refl (G.toList++g4::M) n2;refine h0a N1 w1a Z Z ?_;intro A2 L2 I1 P0 K0;have x0:=Nat.le_trans KS.size K0;have u0:=Nat.le_trans KQ.size K0;have v0:=Nat.le_trans KR.size K0;replace KS:=KS.trans (P0.of_nil);replace KQ:=KQ.trans (P0.of_nil);replace KR:=KR.trans (P0.of_nil);refine b0a (kk:=0) (vs:=[_,_,_,_]) I1 w0a Z Z Z Z Z Z Z ?_;intro x1 b0 o0;dsimp only[d0a,List.set] at b0;replace KS:=KS.fresh2 o0 (by exact .inl x0);replace KQ:=KQ.fresh2 o0 (by exact .inl u0);replace KR:=KR.fresh2 o0 (by exact .inl v0);refine lB b0.k [.o 0] Z ⟨Z,U⟩ (fun U0=>?_) fun U0=>?_
  ·refine lO0 Z U (j1a I2a (vs:=[]) (cs:=[_,_,_,_]) Z Z Z Z ?_);refine b0a (kk:=1) (vs:=[_,_,_,_]) b0 w0a Z Z Z Z Z Z Z ?_;intro y1 g0 o1;dsimp only[d0a,List.set] at g0;refine lR0 Z U ?_;have hv:d6a p s=(zE,2):=by unfold d6a;rw[if_neg];intro hh;exact(of_decide_eq_true (List.all_eq_true.1 hh m2 (e0a r0))) U0
   exact Q2a (v:=.int .i64 2) Z m0a Z (g0.cells 1 Z) Z Z ⟨⟨s,[.int .i64 0,.int .i64 0,.int .i64 0,.slice none 0 0],E0,by rw[hv],by rw[hv];exact L1a (by unfold i64;omega) (by unfold i64;omega) (by unfold i64;omega)⟩,g0.nil.fin⟩
  refine lOn 6 b0.k [] Z U (N0a Z ?_);refine lO b0.k [.w 0] Z ⟨⟨Z,by rfl⟩,U⟩ (C0a b0 R0a (vs:=[.agg _]) (cs:=[_,_,_,_]) Z Z Z Z Z Z ?_);intro B2 Q2 n1 Q0 s2;replace KS:=KS.trans (Q0.of_nil);replace KQ:=KQ.trans (Q0.of_nil);replace KR:=KR.trans (Q0.of_nil);have d0:=F0.keep KQ;refine P1a V3a (k:=4) (M2:=g4::M) (e1:=q2a p m2) n1 R0a Z d0 Z Z (n1.cells 0 Z) (RdE.keep KR _ _ v1) (by simp;omega) Z ?_;intro I2 t2 Z1 R2 O1 d0 U1 F1;have V1:=KS.size;replace KS:=KS.freshL U1 r1;refine G0a Z ?_;refine lP0 Z ⟨by omega,U⟩ ⟨μk-1,by omega,Z,(k+1),(_),(_),(_),(by omega),?_,?_,?_,(KS),O1.tail.tail,Z⟩
  ·rw[t0a r0,List.map_append];exact d0
  ·intro g hg;rcases F1 g hg with h|h;exact r1 g h;exact .inl (Nat.le_trans V1 h)
  ·intro y hy;rw[t0a r0] at hy;rcases List.mem_append.1 hy with h|h;exact hz y h;rw[List.mem_singleton.1 h];exact U0
 refine lOn 8 S.k [] Z U (N0a Z ?_);have Y0:RdL (g4::M) w v (s.map (q2a p)):=by
  have hr:=F0;rw[List.take_of_length_le (by omega)] at hr;exact hr.rdL S (k:=2) Z (fun g hg hh=>by
   subst hg;rcases List.mem_cons.1 hh with hh|hh
   ·exact S.ne 0 2 Z Z (by omega) hh.symm
   ·exact Y3a S (k:=2) Z hM hh) (by simp;omega)
 refine o0a S n2d Z Z (I1d (s.map (q2a p)) (g4::M) _ _ Y0 (e2b S 0 Z hM) ((hI.msk.more (o5a S (k:=0) Z)).keep (S.keep0 _))) ?_;rintro J2 o2 ⟨_,rfl,w1⟩ P1 y2;obtain⟨_,_,_,rfl,-⟩:=w1.open_;have f0:=y0a.refl (g4::M) o2;refine h0a P1 w1a Z Z ?_;intro S0 N2 J1 R1 G1;have e0:=Nat.le_trans f0.size G1;replace f0:=f0.trans (R1.of_nil);refine b0a (kk:=0) (vs:=[_,_,_,_]) J1 w0a Z Z Z Z Z Z Z ?_;intro z1 a0 y0;dsimp only[d0a,List.set] at a0;replace f0:=f0.fresh2 y0 (by exact .inl e0);refine lB a0.k [.o 0] Z ⟨Z,U⟩ (fun I0=>?_) fun I0=>?_
 ·refine lO0 Z U (j1a I2a (vs:=[]) (cs:=[_,_,_,_]) Z Z Z Z ?_);refine b0a (kk:=1) (vs:=[_,_,_,_]) a0 w0a Z Z Z Z Z Z Z ?_;intro A1 i0 p1;dsimp only[d0a,List.set] at i0;refine lR0 Z U ?_;have hv:d6a p s=(zE,2):=by have p0:s.all (fun x=>decide ((q2a p x).op≠0))=true:=List.all_eq_true.2 (fun x hx=>decide_eq_true (hz x (by rw[List.take_of_length_le (by omega)];exact hx)));unfold d6a;rw[if_pos p0,if_pos I0]
  exact Q2a (v:=.int .i64 2) Z m0a Z (i0.cells 1 Z) Z Z ⟨⟨s,[.int .i64 0,.int .i64 0,.int .i64 0,.slice none 0 0],E0,by rw[hv],by rw[hv];exact L1a (by unfold i64;omega) (by unfold i64;omega) (by unfold i64;omega)⟩,i0.nil.fin⟩
 refine lO a0.k [.w 0] Z ⟨⟨Z,by rfl⟩,U⟩ (o0a a0 H0d Z Z (S5b (d3a 6 0 (s.map (q2a p))) (S0::g4::M) _ _ (w1.addKeep f0 e0) ((hI.msk.more (fun x hx=>F3a a0 x (D5a (G:=some S0) 0 Z (S1b 1 Z) x hx))).keep (a0.keep0 _)) (fun x hx=>A4a a0 hM x (D5a (G:=some S0) 0 Z (S1b 1 Z) x hx))) ?_);rintro K2 T2 ⟨_,rfl,s0⟩ Q1 z2;obtain⟨_,_,_,rfl,-⟩:=s0.open_;refine b0a (kk:=0) (vs:=[_,_,_,_]) Q1 w0a Z Z Z Z Z Z Z ?_;intro B1 c0 z0;dsimp only[d0a,List.set] at c0;replace s0:=RdE.keep (z0.mono (by simp)) _ _ s0;refine lB c0.k [.o 0] Z ⟨Z,U⟩ (fun V0=>?_) fun V0=>?_
 ·refine lO0 Z U (j1a I2a (vs:=[]) (cs:=[_,_,_,_]) Z Z Z Z ?_);refine b0a (kk:=1) (vs:=[_,_,_,_]) c0 w0a Z Z Z Z Z Z Z ?_;intro C1 j0 A0;dsimp only[d0a,List.set] at j0;replace s0:=RdE.keep (A0.mono (by simp)) _ _ s0;refine lR0 Z U ?_;have hv:d6a p s=(zE,2):=by have p0:s.all (fun x=>decide ((q2a p x).op≠0))=true:=List.all_eq_true.2 (fun x hx=>decide_eq_true (hz x (by rw[List.take_of_length_le (by omega)];exact hx)));unfold d6a;rw[if_pos p0,if_neg I0,if_pos V0]
  exact Q2a (v:=.int .i64 2) Z m0a Z (j0.cells 1 Z) Z Z ⟨⟨s,[.int .i64 0,.int .i64 0,.int .i64 0,.slice none 0 0],E0,by rw[hv],by rw[hv];exact L1a (by unfold i64;omega) (by unfold i64;omega) (by unfold i64;omega)⟩,j0.nil.fin⟩
 refine lO c0.k [.w 0] Z ⟨⟨Z,by rfl⟩,U⟩ (b0a (kk:=1) (vs:=[_,_,_,_]) c0 w0a Z Z Z Z Z Z Z ?_);intro D1 m0 B0;dsimp only[d0a,List.set] at m0;replace s0:=RdE.keep (B0.mono (by simp)) _ _ s0;refine lR0 Z U ?_;have p0:s.all (fun x=>decide ((q2a p x).op≠0))=true:=List.all_eq_true.2 (fun x hx=>decide_eq_true (hz x (by rw[List.take_of_length_le (by omega)];exact hx)));have hv:d6a p s=(D0d (d3a 6 0 (s.map (q2a p))),0):=by unfold d6a;rw[if_pos p0,if_neg I0,if_neg V0]
 exact Q2a (v:=.int .i64 0) Z m0a Z (m0.cells 1 Z) Z Z ⟨⟨s,_,E0,by rw[hv],by rw[hv];exact RdE.less (fun x hx=>by simp[hx]) _ _ s0⟩,m0.nil.fin⟩
def ddI(l:List Int):List Int:=V1b l []
theorem x4b(l:List Int):(ddI l).Pairwise (·<·):=(v0b l []).1
theorem n8a{l:List Int}{x:Int}:x∈ddI l↔x∈l:=by
 rw[ddI,(v0b l []).2];simp
theorem Q6b(l:List Int):ddI l=Lib.compact (o3a l):=by rw[ddI,V1b,List.append_nil]
theorem P7c(l:List Int):(ddI l).length≤l.length:=by
 rw[Q6b];refine Nat.le_trans (Lib.compact_length_le _) ?_;simp[o3a]
def g1a(s:Z0a):List Int:=ddI (s.set.map (·.cell))
theorem St.borrowO{w:World}{G:Option Nat}{t:Nat}{cs:List Value}(h:∀g,G=some g→p0a w (g,t,cs)):St G.toList w w [(G,t,cs)]:=by
 refine⟨E0a.refl _ _,fun b hb g hg=>?_,by simp⟩;rw[List.mem_singleton.1 hb] at hg ⊢;exact⟨.inr (by simp[show G=some g from hg]),h g hg⟩
theorem a0b(w0:World)(G:Option Nat)(el:Nat)(cs:List Value)(v:Value)(l:List Int)(hR:b4a G 1 l.length cs v (l.map (Value.int .i64)))(hb:∀g,G=some g→p0a w0 (g,el,cs))(hz:l.length≤1000000):
 O0a prog 113 #[v] w0 fun v' w'=>∃a0,E0a G.toList w0 w'∧(∀g,G=some g→p0a w' (g,el,a0))∧b4a G 1 (ddI l).length a0 v' ((ddI l).map (Value.int .i64)):=by
 have S:=St.borrowO hb;have i0:(o3a l).length=l.length:=by simp[o3a]
 refine a0a func113 Z ntmps113 Z ?_;refine wOn 7 S.k [] Z U (N0a Z ?_);refine a2a P0c Z Z (q3b _ G _ cs v l hR (fun g hg=>by subst hg;exact S.blk 0 Z) hz) ?_;rintro v4 w4 ⟨c0,B4,e0,g0⟩;have S4:=S.changedO 0 Z B4 e0;dsimp only[List.set] at S4;refine lOn 4 S4.k [] Z U (N0a Z ?_);refine a2a h0c Z Z (y0b _ G _ c0 v _ g0 (fun g hg=>by subst hg;exact S4.blk 0 Z) (by omega)) ?_;rintro v6 w6 ⟨d0,B6,f0,b0⟩;have S6:=S4.changedO 0 Z B6 f0;dsimp only[List.set] at S6;obtain⟨_,_,_,rfl⟩:=b0.form;refine lR0 Z U (A0a Z ?_);rw[Q6b];exact⟨d0,S6.below,fun g hg=>by subst hg;exact S6.blk 0 Z,b0⟩
theorem u7a(s:Z0a)(M:List Nat)(w0:World)(ss:List Value)(hS:z1a M w0 ss s)(hl:s.set.length≤10000:=by omega):
 O0a prog 62 #[.agg ss.toArray] w0 fun v w'=>z3a 3 w0 w' v (g1a s)∧Bw w0 w':=by
 obtain⟨Ag,ng,cg,As,ns,r0,rfl,⟨_,_⟩,_,i0,_⟩:=hS.open_;have S:=(St.refl w0).nilEnt 3;refine a0a func62 Z ntmps62 Z ?_;refine wO0 Z U (r0a S Z ?_);intro g1 w1 S1 X1 G1;refine lOn 5 S1.k [] Z U (G0a Z ?_);refine lC S1.k [.o 0] Z ⟨Z,U⟩ (wL (fun μk D ε w=>D=[]∧∃k:Nat,∃G:Option Nat,∃cs2:List Value,∃v:Value,(k+μk=(s.set.length))∧(y1a u7b 1 [] w0 G cs2 v ((s.set.take k).map (·.cell)))∧St [] w0 w [(some g1,61,[.int .i64 s.kind,.int .i64 s.frm,.int .i64 s.to,.int .i64 s.guard.op,.int .i64 s.guard.w,.int .i64 s.guard.n,.slice Ag ng cg,.slice As ns r0,.bool s.release,.int .i64 s.target,.int .i64 s.module_]),(G,3,cs2)]∧Sl ε [(3,v),(7,.slice As ns r0),(8,.int .i64 ns),(9,.int .i64 k)]) (μ:=(s.set.length)) ⟨Z,0,none,[],.slice none 0 0,by omega,y1a.nil,S1,Z⟩ ?_);rintro μk D ε w ⟨rfl,k,G,cs2,v,_,d0,S,eZ⟩;refine wK eZ (wB0 Z U (fun z0=>?_) fun z0=>?_)
 ·obtain⟨a,x0,B0,_,A0,g0,_,n0,m0,o0⟩:=RdS.get (i0) (k) (by omega);obtain⟨_,_,_,rfl,p0,_⟩:=J0a.open_ o0;refine lO (S.k.a m0) [.x x0 B0,.v 0] Z ⟨⟨Z,n0⟩,⟨g0,by omega⟩,U⟩ (h0a S I3b Z Z ?_);intro g5 w5 S5 X5 G5;refine b0a (kk:=0) (vs:=[_,_,_,_,_]) S5 x3b Z Z Z Z Z Z Z ?_;intro C0 a0 v0;dsimp only[d0a,List.set] at a0;refine lOn 3 a0.k [] Z U (N0a Z ?_);refine lO a0.k [.o 0] Z ⟨Z,U⟩ (C0a a0 T0a (vs:=[.int .i64 _]) (cs:=[_]) Z Z Z Z Z Z ?_);intro I0 K0 q0 G0 E0;refine P1a p8a (k:=3) (M2:=[]) (e1:=a.cell) q0 T0a Z d0 Z Z (q0.cells 0 Z) ⟨Z,p0⟩ (by rw[List.length_map,List.length_take];omega) Z ?_;intro J0 F0 y0 L0 u0 b0 H0 D0;refine G0a Z ?_;refine lP0 Z ⟨by omega,U⟩ ⟨μk-1,by omega,Z,(k+1),(_),(_),(_),(by omega),?_,u0.tail.tail,Z⟩;rw[t0a A0,List.map_append];exact b0
 have s0:=d0.toV;rw[List.take_of_length_le (by omega)] at s0;refine lOn 8 S.k [] Z U (N0a Z ?_);refine a2a v0c Z Z (a0b _ G _ cs2 v _ s0 (fun g hg=>by subst hg;exact S.blk 1 Z) (by rw[List.length_map];omega)) ?_;rintro v20 N0 ⟨f0,t0,j0,c0⟩;have e0:=S.changedO 1 Z t0 j0;dsimp only[List.set] at e0;obtain⟨_,_,_,rfl⟩:=c0.form;refine lR0 Z U (A0a Z ?_);exact⟨⟨G,f0,c0,fun g hg=>by subst hg;exact⟨by simpa using e0.new 1 Z,e0.blk 1 Z⟩⟩,e0.fin⟩
theorem d7b(w0:World)(bs:List Bool)(e0:bs.length=32):
 O0a prog 237 #[.agg (bs.map Value.bool).toArray] w0 fun v' w'=>z3a 3 w0 w' v' (u3a bs)∧Bw w0 w':=by
 have S:=(St.refl w0).nilEnt 3;have x0:(bs.map Value.bool).length=32:=by simpa using e0
 refine a0a func237 Z ntmps237 Z ?_;refine wO0 Z U (r0a S Z ?_);intro g1 w1 S1 X1 G1;refine lC S1.k [.w 0] Z ⟨⟨Z,by assumption⟩,U⟩ (wL (fun μ D ε w=>D=[]∧∃k:Nat,∃G:Option Nat,∃cs:List Value,∃v:Value,(k+μ=32)∧(b4a G 1 (s2a bs k).length cs v ((s2a bs k).map (Value.int .i64)))∧St [] w0 w [(G,3,cs)]∧ε 3=v∧ε 6=.agg (bs.map Value.bool).toArray∧ε 7=.int .i64 k) (μ:=32) ⟨Z,0,none,[],_,by omega,b4a.nil 1,S1.tail,Z,Z,Z⟩ ?_);rintro μ D ε w ⟨rfl,k,G,cs,v,_,b0,S,e3,e6,e7⟩;refine s0a 3 e3 (s0a 6 e6 (s0a 7 e7 ?_));clear e3 e6 e7;refine wB0 Z U (fun h8=>?_) fun h8=>?_
 ·refine lO0 Z U ?_;have c0:k<bs.length:=by omega
  have f0:((bs.map Value.bool).toArray)[((k:Nat):Int).toNat]?=some (.bool bs[k]):=by simp[c0]
  have g0:bs.getD k false=bs[k]:=by simp[c0]
  have n0:=d2a bs k;cases a0:bs[k]
  ·have c0:k<bs.length:=by omega
   have f0:((bs.map Value.bool).toArray)[((k:Nat):Int).toNat]?=some (.bool bs[k]):=by simp[c0]
   have g0:bs.getD k false=bs[k]:=by simp[c0]
   have n0:=d2a bs k;refine o0b C8a Z Z (f0.trans (by rw[a0])) Z ?_;refine lP0 Z ⟨by omega,U⟩ ⟨μ-1,by omega,Z,k+1,G,cs,v,by omega,?_,S,Z,Z,Z⟩;rw[T2a,g0,a0];simpa using b0
  have c0:k<bs.length:=by omega
  have f0:((bs.map Value.bool).toArray)[((k:Nat):Int).toNat]?=some (.bool bs[k]):=by simp[c0]
  have g0:bs.getD k false=bs[k]:=by simp[c0]
  have n0:=d2a bs k;refine o0b C8a Z Z (f0.trans (by rw[a0])) Z ?_;refine lOn 11 S.k [] Z U (N0a Z ?_);refine lO0 Z U (C0a S T0a (vs:=[.int .i64 _]) (cs:=[_]) Z Z Z Z Z Z ?_);intro v0 y0 m0 t0 s0;refine x9a (k:=1) m0 T0a Z b0 Z Z (m0.cells 0 Z) Z (by simp[Value.oneCell']) Z ?_;intro r0 o0 j0 z0 i0 d0 u0;have p0:=i0.tail;refine G0a Z ?_;refine lP0 Z ⟨by omega,U⟩ ⟨μ-1,by omega,Z,k+1,o0,j0,r0,by omega,?_,p0,Z,Z,Z⟩;rw[T2a,g0,a0];simpa using d0
 refine lOn 8 S.k [] Z U (N0a Z ?_);refine G0a Z ?_;refine lR0 Z U (A0a Z ?_);obtain rfl:k=32:=by omega
 have q0:s2a bs 32=u3a bs:=by unfold u3a;rw[e0]
 rw[q0] at b0;exact⟨⟨G,cs,b0,fun g hg=>by subst hg;exact⟨by simpa using S.new 0 Z,S.blk 0 Z⟩⟩,S.nil.fin⟩
theorem O6b(e:E)(M:List Nat)(w0:World)(cs:List Value)(hR:RdE M w0 e cs)(hK:k2a M w0)(hM:∀g∈M,g<w0.heap.size):
 O0a prog 180 #[.agg cs.toArray] w0 fun v w'=>(∃a b,v=.tuple #[a,b]∧RdI M w' a (e.sup 3)∧z3a 3 w0 w' b (e.sup 2))∧Bw w0 w':=by
 obtain⟨_,_,_,rfl,_⟩:=hR.open_;have S:=St.refl w0;refine a0a func180 Z ntmps180 Z ?_;refine wO0 Z U (r0a S Z ?_);intro g1 w1 S1 X1 G1;refine lO S1.k [.w 0] Z ⟨⟨Z,by rfl⟩,U⟩ (f0a S1 I8a Z Z (p2a e M _ _ (RdE.keep (S1.keep0 M) _ _ hR) (hK.keep (S1.keep0 M))) (fun h7 w7 S7 X7=>?_) (fun h7 w7 S7 X7=>?_))
 ·refine lO0 Z U (h0a S7 R7b Z Z ?_);intro g4 w4 S4 X4 G4;refine h0a S4 R7b Z Z ?_;intro g5 w5 S5 X5 G5;refine lO0 Z U (U1a Z Z ?_);have p0:∀g∈[g4,g5] ,g∈M∨w0.heap.size≤g:=fun g hg=>by
   simp at hg;rcases hg with rfl|rfl
   ·right;have:=S5.new 1 Z;simp at this;exact this
   ·right;have:=S5.new 0 Z;simp at this;exact this
  have a0:e.good 40=true:=by unfold E.wf at h7;simp only[Bool.and_eq_true] at h7;exact h7.2
  have q0:=(S5.ne 0 1 Z Z (by omega)).symm;refine a2a G8b Z Z (V9a [g4,g5] (S8c g4 g5) j5a _ _ w3c (fun e s w b o h1 _ h3 h4=>N0b g4 g5 q0 e s w b o h1 h3 h4) e _ g1 0 (List.replicate 32 false,List.replicate 32 false) 40
   ⟨by simpa using⟨(S5.ne 1 2 Z Z (by omega)).symm,(S5.ne 0 2 Z Z (by omega)).symm⟩,_,S5.cells 2 Z,RdE.keep (S5.keep0 _) _ _ (RdE.more p0 _ _ hR)⟩
   ⟨Z,Z,S5.blk 1 Z,S5.blk 0 Z⟩ a0) ?_
  rintro t0 x0 ⟨⟨-,-,I1,I2⟩,i0⟩;rw[T5c e _ _ 40 a0] at I1 I2;dsimp only at I1 I2;have d0:=S5.changed2 1 0 Z Z i0 I1 I2;dsimp only[List.set] at d0;have q1:(e.mark 3 (List.replicate 32 false)).length=32:=by rw[E.mark_len];simp
  have q2:(e.mark 2 (List.replicate 32 false)).length=32:=by rw[E.mark_len];simp
  have r0:((e.mark 3 (List.replicate 32 false)).map Value.bool).length=32:=by simpa using q1
  have s0:((e.mark 2 (List.replicate 32 false)).map Value.bool).length=32:=by simpa using q2
  refine lC0 Z U (H0a c0a [0,2] [1] [3,4,5] Z (Cl _ _ _ _) (Cl.start d0) ?_);refine qN d0.q [.w 1,.w 0] Z ⟨⟨Z,by assumption⟩,⟨Z,by assumption⟩,U⟩ (R3a ?_);refine E4a (fun v w=>RdI M w v (u3a (e.mark 3 (List.replicate 32 false)))) Z Z D3b Z (fun v w w' h hk=>h.keep hk.of_nil) (fun w1 S1 X1=>b8a M _ _ q1 (fun g hg=>Nat.lt_of_lt_of_le (hM g hg) S1.size)) ?_;refine O1a ?_;rintro z0 ⟨g0,_⟩;rintro u0 f0;dsimp only[y3a];have o0:=g0.size;refine o0a g0 D3b Z Z (d7b _ _ q2) ?_;rintro v0 y0 ⟨j0,e0,c0,b0⟩ m0 n0;replace f0:=f0.keep (n0.of_nil);obtain⟨_,_,_,rfl⟩:=c0.form;refine G0a Z ?_;refine lT2 Z U Z ⟨⟨_,_,Z,?_⟩,m0.fin⟩;unfold E.sup;rw[if_pos h7,if_pos h7];exact⟨f0,j0,e0,c0,fun g hg=>⟨Nat.le_trans o0 (b0 g hg).1,(b0 g hg).2⟩⟩
 refine lT2 Z U Z ⟨⟨_,_,Z,?_⟩,S7.fin⟩;unfold E.sup;rw[if_neg (by simp[h7]),if_neg (by simp[h7])];exact⟨F9a,none,[],b4a.nil 1,fun g hg=>by cases hg⟩
theorem d1d{M:List Nat}{w:World}{G:Option Nat}{cs:List Value}{v:Value}{l:List Int}(h:b4a G 1 l.length cs v (l.map (Value.int .i64)))(hi:∀x∈l,i64 x):y1a u7b 1 M w G cs v l:=by
 refine⟨l.map fun x=>[Value.int .i64 x],by simp,fun x hx=>?_,?_,fun i x hx=>⟨[.int .i64 x],by rw[List.getElem?_map,hx];rfl,Z,hi x (List.mem_of_getElem? hx)⟩⟩
 ·obtain⟨_,-,rfl⟩:=List.mem_map.1 hx;rfl
 ·have:∀l:List Int,(l.map fun x=>[Value.int .i64 x]).flatten=l.map (Value.int .i64):=fun l=>by
   induction l with
   | nil=>rfl
   | cons a l ih=>simp only[List.map_cons,List.flatten_cons,ih];rfl
  rw[this];exact h
theorem b0d(e:E)(op:Int):∀x∈e.sup op,i64 x:=fun x hx=>by
 unfold E.sup at hx
 split at hx
 ·obtain⟨_,rfl,hi,-⟩:=(I4a _ _ _).1 hx;rw[E.mark_len] at hi;simp at hi;unfold i64;omega
 ·cases hx
def o4a(s:Z0a)(k:Nat):List Int:=s.guard.sup 2++((s.set.take k).map fun a=>a.to.sup 2).flatten
def X1a(s:Z0a):List Int:=ddI (o4a s s.set.length)
theorem H9a(s:Z0a)(k:Nat):(o4a s k).length≤32+k*32:=by
 unfold o4a;rw[List.length_append];have h1:=b0b s.guard 2;have h2:∀l:List i1a,((l.map fun a=>a.to.sup 2).flatten).length≤l.length*32:=fun l=>by
  induction l with
  | nil=>simp
  | cons a l ih=>simp only[List.map_cons,List.flatten_cons,List.length_append,List.length_cons];have:=b0b a.to 2;omega
 have h3:=h2 (s.set.take k);rw[List.length_take] at h3;have:min k s.set.length*32≤k*32:=Nat.mul_le_mul_right _ (Nat.min_le_left _ _);omega
theorem n4b{s:Z0a}{k:Nat}{a:i1a}(h:s.set[k]?=some a):o4a s (k+1)=o4a s k++a.to.sup 2:=by
 unfold o4a;rw[t0a h];simp
theorem G7b(s:Z0a)(M:List Nat)(w0:World)(ss:List Value)(hS:z1a M w0 ss s)(hK:k2a M w0)(hM:∀g∈M,g<w0.heap.size)(hl:s.set.length≤1000:=by omega):
 O0a prog 131 #[.agg ss.toArray] w0 fun v w'=>z3a 3 w0 w' v (X1a s)∧Bw w0 w':=by
 obtain⟨Ag,ng,cg,As,ns,A0,rfl,⟨_,_⟩,hG,q0,_⟩:=hS.open_;have S:=St.refl w0;refine a0a func131 Z ntmps131 Z ?_;refine wO0 Z U (r0a S Z ?_);intro g1 w1 S1 X1 G1;refine lO S1.k [.o 0] Z ⟨Z,U⟩ ?_;have Sb:=S1;refine o0a S1 N6b Z Z (O6b s.guard M _ _ (RdE.keep (S1.keep0 M) _ _ hG) (hK.keep (S1.keep0 M)) (fun g hg=>Nat.lt_of_lt_of_le (hM g hg) S1.size)) ?_;rintro X0 a1 ⟨_,_,rfl,r0,E0,m0,i0,v0⟩ F0 T0;have d0:=F0.pushO Sb v0;have b0:=d1d (M:=[]) (w:=w0) i0 (b0d s.guard 2);obtain⟨_,_,_,rfl⟩:=r0.form;obtain⟨C0,O0,K0,rfl⟩:=i0.form;refine lC d0.k [.o 1] Z ⟨Z,U⟩ ?_;refine wL (fun μk D ε w=>D=[]∧∃k:Nat,∃G:Option Nat,∃cs2:List Value,∃v:Value,(k+μk=(s.set.length))∧(y1a u7b 1 [] w0 G cs2 v (o4a s k))∧St [] w0 w [(G,3,cs2),(some g1,61,[.int .i64 s.kind,.int .i64 s.frm,.int .i64 s.to,.int .i64 s.guard.op,.int .i64 s.guard.w,.int .i64 s.guard.n,.slice Ag ng cg,.slice As ns A0,.bool s.release,.int .i64 s.target,.int .i64 s.module_])]∧Sl ε [(4,v),(16,.slice As ns A0),(17,.int .i64 ns),(18,.int .i64 k)]) (μ:=(s.set.length)) ⟨Z,0,E0,m0,.slice C0 O0 K0,by omega,(by unfold o4a;simpa using b0),d0,Z⟩ ?_;rintro μk D ε w ⟨rfl,k,G,cs2,v,_,g0,S,eZ⟩;refine wK eZ (wB0 Z U (fun L0=>?_) fun L0=>?_)
 ·obtain⟨a,I0,P0,_,N0,o0,_,x0,u0,y0⟩:=RdS.get (q0) (k) (by omega);obtain⟨_,_,_,rfl,_,p0⟩:=J0a.open_ y0;refine lO (S.k.a u0) [.x I0 P0,.v 0] Z ⟨⟨Z,x0⟩,⟨o0,by omega⟩,U⟩ (h0a S I3b Z Z ?_);intro g6 w6 S6 X6 G6;refine b0a (kk:=0) (vs:=[_,_,_,_,_]) S6 x3b Z Z Z Z Z Z Z ?_;intro Q0 a0 H0;dsimp only[d0a,List.set] at a0;refine lO a0.k [.o 0] Z ⟨Z,U⟩ (o0a a0 N6b Z Z (O8a a.to M _ _ (RdE.keep (a0.keep0 M) _ _ p0) (hK.keep (a0.keep0 M)) (fun g hg=>Nat.lt_of_lt_of_le (hM g hg) a0.size)) ?_);rintro v25 b1 ⟨_,_,rfl,s0,e0⟩ z0 U0;obtain⟨_,_,_,rfl⟩:=s0.form;obtain⟨_,_,_,rfl⟩:=e0.form;refine lOn 8 z0.k [] Z U (N0a Z ?_);refine lO0 Z U ?_;refine g0b p8a (M2:=[]) (k:=1) z0 T0a Z g0 Z Z e0 (by have:=H9a s k;have:=b0b a.to 2;omega) Z ?_;intro Y0 S0 J0 c1 G0 c0 V0 R0;refine G0a Z ?_;refine lP0 Z ⟨by omega,U⟩ ⟨μk-1,by omega,Z,(k+1),(_),(_),(_),(by omega),?_,G0.tail,Z⟩;rw[n4b N0];exact c0
 have B0:=g0.toV;rw[show k=s.set.length by omega] at B0;refine lOn 8 S.k [] Z U (N0a Z ?_);have W0:=H9a s s.set.length;refine a2a v0c Z Z (a0b _ G _ cs2 v _ B0 (fun g hg=>by subst hg;exact S.blk 0 Z) (by omega)) ?_;rintro Z0 d1 ⟨n0,D0,t0,f0⟩;have j0:=S.changedO 0 Z D0 t0;dsimp only[List.set] at j0;obtain⟨_,_,_,rfl⟩:=f0.form;refine lR0 Z U (A0a Z ?_);exact⟨⟨G,n0,f0,fun g hg=>by subst hg;exact⟨by simpa using j0.new 0 Z,j0.blk 0 Z⟩⟩,j0.fin⟩
def dgL:List Int→Nat→List Int
 | [],_=>[]
 | x::L,n=>((n % x.toNat:Nat):Int)::dgL L (n / x.toNat)
def Y2a:List Int→Nat
 | []=>1
 | x::L=>x.toNat*Y2a L
theorem u5a:∀(L:List Int) (n:Nat),(dgL L n).length=L.length
 | [],_=>rfl
 | x::L,n=>by simp[dgL,u5a L]
theorem n8b:∀(L:List Int),dgL L 0=List.replicate L.length 0
 | []=>rfl
 | x::L=>by simp[dgL,n8b L,List.replicate_succ]
theorem G0b:∀(L:List Int) (n i:Nat) (x d:Int),(∀x∈L,1≤x)→L[i]?=some x→(dgL L n)[i]?=some d→0≤d∧d<x
 | [],_,_,_,_,_,h,_=>by simp at h
 | y::L,n,0,x,d,hL,h,hd=>by
   simp[dgL] at h hd;subst h;subst hd;have h1:=hL y (by simp);have h2:n % y.toNat<y.toNat:=Nat.mod_lt _ (by omega);constructor
   ·exact Int.natCast_nonneg _
   ·have:((n % y.toNat:Nat):Int)<(y.toNat:Int):=Int.ofNat_lt.2 h2;simp at this ⊢;omega
 | y::L,n,i+1,x,d,hL,h,hd=>G0b L (n / y.toNat) i x d (fun z hz=>hL z (List.mem_cons_of_mem _ hz)) (by simpa using h) (by simpa[dgL] using hd)
theorem s2c{n x:Nat}(h:1≤x)(hd:n % x=x-1):(n+1) % x=0∧(n+1) / x=n / x+1:=by
 have h1:=Nat.div_add_mod n x;have h2:n+1=x*(n / x+1):=by rw[Nat.mul_add];omega
 rw[h2];exact⟨Nat.mul_mod_right _ _,Nat.mul_div_cancel_left _ (by omega)⟩
theorem A4c{n x:Nat}(h:1≤x)(hd:n % x≠x-1):(n+1) % x=n % x+1∧(n+1) / x=n / x:=by
 have h1:=Nat.div_add_mod n x;have h3:n % x<x:=Nat.mod_lt _ (by omega);have h2:n+1=(n % x+1)+x*(n / x):=by omega
 rw[h2,Nat.add_mul_mod_self_left,Nat.mod_eq_of_lt (by omega),Nat.add_mul_div_left _ _ (by omega:0<x),Nat.div_eq_of_lt (by omega)];omega
theorem Q2b:∀(L:List Int) (n i:Nat) (x d:Int),(∀x∈L,1≤x)→(∀j y e,j<i→L[j]?=some y→(dgL L n)[j]?=some e→e=y-1)→L[i]?=some x→(dgL L n)[i]?=some d→d≠x-1→dgL L (n+1)=(List.replicate i 0++(dgL L n).drop i).set i (d+1)
 | [],_,_,_,_,_,_,h,_,_=>by simp at h
 | y::L,n,0,x,d,hL,_,h,hd,a0=>by
   simp only[dgL,List.getElem?_cons_zero,Option.some.injEq] at h hd;subst h;subst hd;have h1:=hL y (by simp);obtain⟨h2,h3⟩:=A4c (n:=n) (x:=y.toNat) (by omega) (fun hh=>a0 (by rw[hh];omega));simp only[dgL,h2,h3,List.replicate_zero,List.nil_append,List.drop_zero,List.set_cons_zero];rfl
 | y::L,n,i+1,x,d,hL,hc,h,hd,a0=>by
   have h1:=hL y (by simp);have h0:=hc 0 y ((n % y.toNat:Nat):Int) (by omega) (by simp) (by simp[dgL]);obtain⟨h2,h3⟩:=s2c (n:=n) (x:=y.toNat) (by omega) (by omega);have ih:=Q2b L (n / y.toNat) i x d (fun z hz=>hL z (List.mem_cons_of_mem _ hz)) (fun j z e hj hz he=>hc (j+1) z e (by omega) (by simpa using hz) (by simpa[dgL] using he)) (by simpa using h) (by simpa[dgL] using hd) a0;simp only[dgL,h2,h3,ih,List.replicate_succ,List.cons_append,List.drop_succ_cons,List.set_cons_succ];rfl
theorem r8b:∀(L:List Int) (n:Nat),(∀x∈L,1≤x)→n<Y2a L→(∀(j:Nat) (y e:Int),L[j]?=some y→(dgL L n)[j]?=some e→e=y-1)→n+1=Y2a L
 | [],n,_,h,_=>by simp[Y2a] at h ⊢;exact h
 | y::L,n,hL,h,hc=>by
   have h1:=hL y (by simp);have h0:=hc 0 y ((n % y.toNat:Nat):Int) (by simp) (by simp[dgL]);have ih:=r8b L (n / y.toNat) (fun z hz=>hL z (List.mem_cons_of_mem _ hz)) (by
    unfold Y2a at h;exact Nat.div_lt_of_lt_mul h) (fun j z e hz he=>hc (j+1) z e (by simpa using hz) (by simpa[dgL] using he))
   unfold Y2a;rw[←ih,Nat.mul_add];have:=Nat.div_add_mod n y.toNat;omega
theorem z8b:∀(L:List Int) (j:Nat) (y e:Int),(∀x∈L,1≤x)→1≤Y2a L→L[j]?=some y→(dgL L (Y2a L-1))[j]?=some e→e=y-1
 | [],_,_,_,_,_,h,_=>by simp at h
 | z::L,j,y,e,hL,hp,h1,h2=>by
   have hz:=hL z (by simp);have hP:1≤Y2a L:=Nat.pos_of_ne_zero (fun h=>by unfold Y2a at hp;rw[h] at hp;simp at hp);have h3:Y2a (z::L)-1=(z.toNat-1)+z.toNat*(Y2a L-1):=by
    have:z.toNat*Y2a L=z.toNat*(Y2a L-1)+z.toNat:=by
     rw[Nat.mul_sub_one];exact(Nat.sub_add_cancel (Nat.le_mul_of_pos_right _ hP)).symm
    show z.toNat*Y2a L-1=_
    generalize z.toNat*Y2a L=A at this;generalize z.toNat*(Y2a L-1)=B at this;omega
   rw[h3] at h2;unfold dgL at h2;rw[Nat.add_mul_mod_self_left,Nat.mod_eq_of_lt (by omega),Nat.add_mul_div_left _ _ (by omega:0<z.toNat),Nat.div_eq_of_lt (by omega),Nat.zero_add] at h2;cases j with
   | zero =>
     simp only[List.getElem?_cons_zero,Option.some.injEq] at h1 h2;omega
   | succ j=>exact z8b L j y e (fun x hx=>hL x (List.mem_cons_of_mem _ hx)) hP (by simpa using h1) (by simpa using h2)
theorem F7b{L:List Int}{n j:Nat}{y e:Int}(hL:∀x∈L,1≤x)(h1:L[j]?=some y)(h2:(dgL L n)[j]?=some e)(a0:e≠y-1)(hn:n<Y2a L:=by omega):n+1<Y2a L:=by
 rcases Nat.lt_or_ge (n+1) (Y2a L) with h|h
 ·exact h
 ·exact absurd (z8b L j y e hL (by omega) h1 (by rw[show Y2a L-1=n by omega];exact h2)) a0
theorem t4b:∀(L:List Int),(∀x∈L,1≤x)→1≤Y2a L
 | [],_=>by simp[Y2a]
 | y::L,h=>by
   have h1:=h y (by simp);have h2:=t4b L fun z hz=>h z (List.mem_cons_of_mem _ hz);unfold Y2a;exact Nat.mul_pos (by omega) h2
def e1b:List Int→List Int→List Int→List Int
 | c::C,v::V,s=>e1b C V (s.set c.toNat v)
 | _,_,s=>s
theorem w3b:∀(C V s:List Int),(e1b C V s).length=s.length
 | [],_,_=>rfl
 | _::_,[],_=>rfl
 | c::C,v::V,s=>by unfold e1b;rw[w3b];simp
theorem H4b:∀(C V s:List Int) (k:Nat) (x:Int),(∀c∈C,c.toNat≠k)→e1b C V (s.set k x)=(e1b C V s).set k x
 | [],_,_,_,_,_=>rfl
 | _::_,[],_,_,_,_=>rfl
 | c::C,v::V,s,k,x,h=>by
   unfold e1b;rw[List.set_comm _ _ (fun e=>h c (by simp) e.symm),H4b C V _ k x (fun y hy=>h y (List.mem_cons_of_mem _ hy))]
theorem i2b:∀(C V V' s:List Int),(C.map Int.toNat).Nodup→V.length=C.length→V'.length=C.length→e1b C V (e1b C V' s)=e1b C V s
 | [],_,_,_,_,_,_=>rfl
 | c::C,[],_,_,_,h,_=>by simp at h
 | c::C,_::_,[],_,_,_,h=>by simp at h
 | c::C,v::V,v'::V',s,hn,h1,h2=>by
   rw[List.map_cons,List.nodup_cons] at hn;have a0:∀y∈C,y.toNat≠c.toNat:=fun y hy e=>hn.1 (e▸List.mem_map_of_mem hy);simp only[e1b];rw[←H4b C V' _ _ _ a0,List.set_set,i2b C V V' _ hn.2 (by simpa using h1) (by simpa using h2)]
theorem m4b:∀(C V s:List Int) (k:Nat) (c v:Int),C[k]?=some c→V[k]?=some v→e1b (C.take (k+1)) (V.take (k+1)) s=(e1b (C.take k) (V.take k) s).set c.toNat v
 | [],_,_,_,_,_,h,_=>by simp at h
 | _::_,[],_,_,_,_,_,h=>by simp at h
 | a::C,b::V,s,0,c,v,h1,h2=>by
   simp at h1 h2;subst h1;subst h2;cases C<;>cases V<;>simp[e1b]
 | a::C,b::V,s,k+1,c,v,h1,h2=>by
   simp only[List.take_succ_cons,e1b];exact m4b C V _ k c v (by simpa using h1) (by simpa using h2)
theorem E7b:∀(C V s:List Int) (x:Int),x∈e1b C V s→x∈V∨x∈s
 | [],_,_,_,h=>.inr h
 | _::_,[],_,_,h=>.inr h
 | c::C,v::V,s,x,h=>by
   unfold e1b at h;rcases E7b C V _ x h with h|h
   ·exact .inl (List.mem_cons_of_mem _ h)
   ·rcases List.mem_or_eq_of_mem_set h with h|rfl
    ·exact .inr h
    ·exact .inl (by simp)
def WrS(p:j0a)(m:Int)(s:Z0a)(x:Int):Prop:=s.module_=m∧x∈g1a s∧q1a p.cells x=-1
def r5a(p:j0a)(m:Int)(l:List Int):Prop:=l.Pairwise (·<·)∧∀x,x∈l↔∃th∈p.threads,∃s∈th.steps,WrS p m s x
theorem D3a{s:Z0a}{x:Int}:x∈g1a s↔∃a∈s.set,a.cell=x:=by rw[g1a,n8a,List.mem_map]
theorem u6a{p:j0a}{t n:Int}{s:Z0a}(h:G4a p t n s){x:Int}(hx:x∈g1a s):0≤x∧x<p.cells.length:=by
 obtain⟨a,ha,rfl⟩:=D3a.1 hx;exact(h.set a ha).1
theorem S7a{cells:List I1a}{x:Int}{c:I1a}(h:cells[x.toNat]?=some c):q1a cells x=c.thread:=by
 unfold q1a;rw[List.getD_eq_getElem?_getD,h];rfl
theorem P1b(p:j0a)(m:Nat)(hm:m<p.modules.length)(M:List Nat)(w0:World)(cs:List Value)(hI:InP p M w0 cs):
 O0a prog 28 #[.agg cs.toArray,.int .i64 m] w0 fun v w'=>(∃l,r5a p m l∧z3a 3 w0 w' v l)∧Bw w0 w':=by
 obtain⟨Ac,nc,cc,Am,nm,cm,Al,nl,cl,At,nt,ct,rfl,hC,_,_,P1,_⟩:=hI.rd.open_;have S:=St.refl w0;have hM:=hI.lt;have hp:=hI.ok;have n1:=hp.ncells;have n2:=hp.nthreads;have n3:=hp.nmodules;refine a0a func28 Z ntmps28 Z ?_;refine wO0 Z U (r0a S Z ?_);intro g2 w2 S2 X2 G2;refine lB0 Z U (fun J1=>by exfalso;omega) fun J1=>?_;refine lB S2.k [.o 0] Z ⟨Z,U⟩ (fun K1=>by exfalso;omega) fun K1=>?_;refine lO S2.k [.w 0] Z ⟨⟨Z,Z⟩,U⟩ (W0a S2 r4b Z Z (i6a p M _ _ (hI.keep (S2.keep0 M))) ?_);intro p2 p1 Z1;refine lO0 Z U (s3a (k:=3) p1 Z ?_);intro b0 q2 q1 a2 Y1 J0;have a1:w0.heap.size≤b0:=by have:=p1.size;omega
 have Ms:=x7a.mk_ (enc:=Value.int .i64) J0;refine lC q1.k [.o 0] Z ⟨Z,U⟩ (wL (fun μk D ε w=>D=[]∧∃k:Nat,∃l:List Int,(k+μk=(p.threads.length))∧(x7a (Value.int .i64) w b0 l)∧(∀x,x∈l↔∃th∈p.threads.take k,∃s∈th.steps,WrS p m s x)∧(l.Nodup)∧(∀x∈l,i64 x)∧(l.length≤2048*k)∧St [] w0 w [(some g2,27,[.slice Ac nc cc,.slice Am nm cm,.slice Al nl cl,.slice At nt ct])]∧Sl ε [(1,.int .i64 m),(2,.pointer (some ⟨g2,0,none⟩)),(5,.map (some b0)),(28,.slice At nt ct),(29,.int .i64 nt),(30,.int .i64 k)]) (μ:=(p.threads.length)) ⟨Z,0,[],by omega,Ms,(by simp),List.nodup_nil,(by simp),by simp,q1,Z⟩ ?_);rintro μk D ε w ⟨rfl,k,l,_,Ms,hl,hn,hok,_,S,eZ⟩;refine wK eZ (wB0 Z U (fun M1=>?_) fun M1=>?_)
 ·obtain⟨th,F1,R1,_,j0,S0,_,b1,W0,d1⟩:=RdS.get (P1) (k) (by omega);obtain⟨m0,A0,r0,o0,C0,t0,e0,a0,g0,n0,B0,s0,rfl,_,_,_,u0,_⟩:=K0a.open_ d1;have e2:=(hp.thread j0).nsteps;refine lO (S.k.a W0) [.x F1 R1,.v 0] Z ⟨⟨Z,b1⟩,⟨S0,by omega⟩,U⟩ (h0a S g7a Z Z ?_);intro g7 w7 S7 X7 G7;replace Ms:=Ms.keep X7 (List.not_mem_nil);refine b0a (kk:=0) (vs:=[_,_,_,_,_,_,_]) S7 r7a Z Z Z Z Z Z Z ?_;intro W1 i0 K0;dsimp only[d0a,List.set] at i0;replace Ms:=Ms.keep K0 (fun hh=>by rw[List.mem_singleton] at hh;exact Ms.ne (S7.blk 0 Z) hh);refine lC i0.k [.o 0] Z ⟨Z,U⟩ (wL (fun μj D ε w=>D=[]∧∃j:Nat,∃l2:List Int,(j+μj=(th.steps.length))∧(x7a (Value.int .i64) w b0 l2)∧(∀x,x∈l2↔x∈l∨∃s∈th.steps.take j,WrS p m s x)∧(l2.Nodup)∧(∀x∈l2,i64 x)∧(l2.length≤2048*k+32*j)∧St [] w0 w [(some g7,58,[.string th.name,.int .i64 th.points,.slice m0 A0 r0,.slice o0 C0 t0,.slice e0 a0 g0,.slice n0 B0 s0,.bool th.asleep]),(some g2,27,[.slice Ac nc cc,.slice Am nm cm,.slice Al nl cl,.slice At nt ct])]∧Sl ε [(1,.int .i64 m),(2,.pointer (some ⟨g2,0,none⟩)),(5,.map (some b0)),(28,.slice At nt ct),(29,.int .i64 nt),(30,.int .i64 k),(35,.slice e0 a0 g0),(36,.int .i64 a0),(37,.int .i64 j)]) (μ:=(th.steps.length)) ⟨Z,0,l,by omega,Ms,(by simp),hn,hok,by omega,i0,Z⟩ ?_);rintro μj D ε w ⟨rfl,j,l2,_,d0,u1,v1,x0,_,S,eZ⟩;refine wK eZ (wB0 Z U (fun N1=>?_) fun N1=>?_)
  ·obtain⟨s,G1,T1,_,x1,T0,_,c1,X0,y0⟩:=RdS.get (u0) (j) (by omega);obtain⟨H0,m1,N0,I0,o1,O0,rfl,⟨_,_⟩,_⟩:=z1a.open_ y0;have i1:=(hp.thread j0).steps s (e0a x1);have i2:=C6b i1;have j2:(g1a s).length≤s.set.length:=by have:=P7c (s.set.map (·.cell));rwa [List.length_map] at this
   refine lO (S.k.a X0) [.x G1 T1,.v 0] Z ⟨⟨Z,c1⟩,⟨T0,by omega⟩,U⟩ (h0a S J3b Z Z ?_);intro g9 w9 S9 X9 G9;replace d0:=d0.keep X9 (List.not_mem_nil);refine b0a (kk:=0) (vs:=[_,_,_,_,_,_,_,_,_,_,_]) S9 O3b Z Z Z Z Z Z Z ?_;intro X1 f0 L0;dsimp only[d0a,List.set] at f0;replace d0:=d0.keep L0 (fun hh=>by rw[List.mem_singleton] at hh;exact d0.ne (S9.blk 0 Z) hh);refine lO f0.k [.w 0] Z ⟨⟨Z,Z⟩,U⟩ ?_;refine o0a f0 d8b Z Z (H8a (M:=[b0]) (u7a s M _ _ (z1a.keep (f0.keep0 M) _ _ y0)) (fun x hx=>by rw[List.mem_singleton.1 hx];exact d0.lt) (fun x hx=>by have:=u6a i1 hx;unfold i64;omega)) ?_;rintro m2 z1 hW C1 E1;replace d0:=d0.keep E1 (List.not_mem_nil);obtain⟨Aw,nw,cw,rfl⟩:=hW.form;have f2:=hW.len.1;have KW:=y0a.refl [b0] z1;refine lC0 Z U (wL (fun μi D ε w=>D=[]∧∃i:Nat,∃l3:List Int,(i+μi=((g1a s).length))∧(x7a (Value.int .i64) w b0 l3)∧(∀x,x∈l3↔x∈l2∨(s.module_=m∧x∈(g1a s).take i∧q1a p.cells x=-1))∧(l3.Nodup)∧(∀x∈l3,i64 x)∧(l3.length≤2048*k+32*j+i)∧(y0a [b0] z1 w)∧St [] w0 w [(some g9,61,[.int .i64 s.kind,.int .i64 s.frm,.int .i64 s.to,.int .i64 s.guard.op,.int .i64 s.guard.w,.int .i64 s.guard.n,.slice H0 m1 N0,.slice I0 o1 O0,.bool s.release,.int .i64 s.target,.int .i64 s.module_]),(some g7,58,[.string th.name,.int .i64 th.points,.slice m0 A0 r0,.slice o0 C0 t0,.slice e0 a0 g0,.slice n0 B0 s0,.bool th.asleep]),(some g2,27,[.slice Ac nc cc,.slice Am nm cm,.slice Al nl cl,.slice At nt ct])]∧Sl ε [(1,.int .i64 m),(2,.pointer (some ⟨g2,0,none⟩)),(5,.map (some b0)),(9,.pointer (some ⟨g9,0,none⟩)),(28,.slice At nt ct),(29,.int .i64 nt),(30,.int .i64 k),(35,.slice e0 a0 g0),(36,.int .i64 a0),(37,.int .i64 j),(42,.slice Aw nw cw),(43,.int .i64 nw),(44,.int .i64 i)]) (μ:=((g1a s).length)) ⟨Z,0,l2,by omega,d0,(by simp),v1,x0,by omega,KW,C1,Z⟩ ?_);rintro μi D ε w ⟨rfl,i,l3,_,D0,E0,F0,c0,_,KW,S,eZ⟩;refine wK eZ (wB0 Z U (fun O1=>?_) fun O1=>?_)
   ·obtain⟨c,H1,U1,_,G0,U0,_,_,Y0,f1⟩:=RdS.get (hW.keep (KW.mono (by simp))) (i) (by omega);obtain⟨rfl,_⟩:=id f1;have Q1:=e0a G0;have d2:=u6a i1 Q1;have t1:i64 c:=by unfold i64;omega
    refine lB (S.k.b Y0) [.x H1 U1,.f 0 0,.o 0] Z ⟨Z,Z,⟨U0,by omega⟩,U⟩ (fun Q0=>?_) fun Q0=>?_
    ·obtain⟨cl,I1,V1,_,j1,V0,_,_,Z0,g1⟩:=RdS.get (hC) (c.toNat) (by omega);obtain⟨rfl,_⟩:=U2a.open_ g1;have w1:=S7a j1;refine lB (S.k.a Z0) [.o 2,.x I1 V1,.f 0 3] Z ⟨Z,⟨V0,by omega⟩,Z,U⟩ (fun R0=>?_) fun R0=>?_
     ·refine lO0 Z U (F3b (k:=3) S (Go.Maps.int_keyed Tryz.underlying3) Tryz.underlying108 u5b (fun a ha=>⟨_,C5a (c0 a ha)⟩) ⟨_,C5a t1⟩ D0 Z Z Z (.inl a1) ?_);intro y1 p0 q0 B1;replace KW:=KW.trans q0;refine lP0 Z ⟨by omega,U⟩ ⟨μi-1,by omega,Z,(i+1),?_,(by omega),?_,?_,?_,?_,?_,(KW),p0,Z⟩;exact insL l3 c
      ·exact B1
      ·intro x;rw[J4a,E0,t0a G0,List.mem_append,List.mem_singleton];constructor
       ·rintro((h|⟨h1,h2,h3⟩)|rfl)
        ·exact .inl h
        ·exact .inr ⟨h1,.inl h2,h3⟩
        ·exact .inr ⟨Q0,.inr Z,w1.trans R0⟩
       ·rintro(h|⟨h1,h2|h2,h3⟩)
        ·exact .inl (.inl h)
        ·exact .inl (.inr ⟨h1,h2,h3⟩)
        ·exact .inr h2
      ·exact T7a F0
      ·intro x hx;rcases J4a.1 hx with h|h;exact c0 x h;subst h;exact t1
      ·exact Nat.le_trans W2b (by omega)
     refine lP0 Z ⟨by omega,U⟩ ⟨μi-1,by omega,Z,(i+1),?_,(by omega),?_,?_,?_,?_,?_,(KW),S,Z⟩;exact l3
     ·exact D0
     ·intro x;rw[E0,t0a G0,List.mem_append,List.mem_singleton];constructor
      ·rintro(h|⟨h1,h2,h3⟩)
       ·exact .inl h
       ·exact .inr ⟨h1,.inl h2,h3⟩
      ·rintro(h|⟨h1,h2|h2,h3⟩)
       ·exact .inl h
       ·exact .inr ⟨h1,h2,h3⟩
       ·exfalso;subst h2;exact R0 (w1.symm.trans h3)
     ·exact F0
     ·exact c0
     ·omega
    refine lP0 Z ⟨by omega,U⟩ ⟨μi-1,by omega,Z,(i+1),?_,(by omega),?_,?_,?_,?_,?_,(KW),S,Z⟩;exact l3
    ·exact D0
    ·intro x;rw[E0,t0a G0,List.mem_append,List.mem_singleton];constructor
     ·rintro(h|⟨h1,h2,h3⟩)
      ·exact .inl h
      ·exact .inr ⟨h1,.inl h2,h3⟩
     ·rintro(h|⟨h1,h2|h2,h3⟩)
      ·exact .inl h
      ·exact .inr ⟨h1,h2,h3⟩
      ·exfalso;subst h2;exact Q0 h1
    ·exact F0
    ·exact c0
    ·omega
   refine lP0 Z ⟨by omega,U⟩ ⟨μj-1,by omega,Z,(j+1),(l3),(by omega),(D0),?_,(F0),(c0),(by omega),S.tail,Z⟩;intro x;rw[E0,u1,K2a x1 (fun s=>WrS p m s x),or_assoc,show i=(g1a s).length by omega,List.take_length];rfl
  refine lP0 Z ⟨by omega,U⟩ ⟨μk-1,by omega,Z,(k+1),(l2),(by omega),(d0),?_,(v1),(x0),(by omega),S.tail,Z⟩;intro x;rw[u1,hl,K2a j0 (fun th=>∃s∈th.steps,WrS p m s x),show j=th.steps.length by omega,List.take_length]
 refine lO0 Z U ?_;obtain⟨fl,r1,s1,_⟩:=w7a hn;refine o0a S i6c Z Z (p0b b0 l fl r1 s1 hn hok _ Ms) ?_;rintro o2 r2 ⟨A1,P0,z0,v0⟩ D1 b2;obtain⟨_,_,_,rfl⟩:=z0.form;refine lR0 Z U (A0a Z ?_);exact⟨⟨fl,⟨r1,fun x=>by rw[s1,hl,show k=p.threads.length by omega,List.take_length]⟩,A1,P0,z0,fun g hg=>⟨Nat.le_trans S.size (v0 g hg).1,(v0 g hg).2⟩⟩,D1.fin⟩
def Q7a(P:Program)(M:List Nat)(w:World)(v:Value)(q:i1a→Bool)(ok:i1a→Prop):Prop :=
 ∃f first caps,v=.func (.func f) first caps∧Has P f∧∀w',y0a M w w'→∀a ca,ok a→J0a M w' ca a→O0a P f (first.toList++[Value.agg ca.toArray]++caps.toList).toArray w' fun v w''=>v=.bool (q a)∧Below w'.heap.size w' w''
section
variable {d:Nat} {t:TypeId} {p:String} {af:Array Edge} {at_:Array TypeId}
theorem Q7a.keep{v:Value}{q:i1a→Bool}{ok:i1a→Prop}{w':World}(h:Q7a P M w v q ok)(hk:y0a M w w'):Q7a P M w' v q ok:=by
 obtain⟨f,first,caps,h1,h2,h3⟩:=h;exact⟨f,first,caps,h1,h2,fun b0 a0=>h3 b0 (hk.trans a0)⟩
theorem V3c{M':List Nat}{g x:Operand}{a:i1a}{ca:List Value}{q:i1a→Bool}{ok:i1a→Prop}{v:Value}(S:St M w0 w L)(hp:Q7a P M' w v q ok)(hg:ev e g=v)(ha:ev e x=.agg ca.toArray)(hok:ok a)(hr:J0a M' w ca a)(hd:Nat.ble (d+1) N=true)
 (h1:q a=true→∀w1,St M w0 w1 L→y0a [] w w1→WL P r N ops rest K D (upd e d (.bool true)) w1) (h2:q a=false→∀w1,St M w0 w1 L→y0a [] w w1→WL P r N ops rest K D (upd e d (.bool false)) w1) :
 WL P r N ops (⟨some d,.call { callee:=.value g,args:=#[x],argTypes:=at_ },t,p,af,none⟩::rest) K D e w:=by
 obtain⟨_,_,_,rfl,hH,hf⟩:=hp;refine X2b hH hg (by simp[ha]) hd (hf w (y0a.refl _ _) a ca hok hr) fun v w' ⟨hv,hb⟩=>?_;subst hv;cases hq:q a
 ·exact h2 hq w' (S.later hb) (y0a.of_below hb)
 ·exact h1 hq w' (S.later hb) (y0a.of_below hb)
end
def shA(p:j0a)(a:i1a):Bool:=decide (q1a p.cells a.cell=-1)
def chA(p:j0a)(sg:List Int)(a:i1a):Bool:=shA p a&&decide (a.to.evl sg sg≠sg.getD a.cell.toNat 0)
theorem j0b(p:j0a)(a:i1a)(M:List Nat)(w0:World)(cs ca:List Value)(As:Option Addr)(ns cS:Nat)(hP:a1a M w0 p cs)(hA:J0a M w0 ca a)(ha:0≤a.cell∧a.cell<p.cells.length):
 O0a prog 129 #[.agg (cs++[Value.slice As ns cS]).toArray,.agg ca.toArray] w0 fun v w'=>v=.bool (shA p a)∧Bw w0 w':=by
 obtain⟨_,_,_,_,_,_,_,_,_,_,_,_,rfl,hC,_⟩:=hP.open_;obtain⟨_,_,_,rfl,_⟩:=hA.open_;dsimp only[List.cons_append,List.nil_append];have S:=St.refl w0;refine a0a func129 Z ntmps129 Z ?_;refine wO0 Z U (r0a S Z ?_);intro g2 w2 S2 X2 G2;refine r0a S2 Z ?_;intro g3 w3 S3 X3 G3;obtain⟨x,e0,g0,_,d0,a0,_,_,b0,c0⟩:=RdS.get (hC) (a.cell.toNat) (by omega);obtain⟨rfl,_⟩:=U2a.open_ c0;refine lB (S3.k.a b0) [.o 1,.o 0,.x e0 g0,.f 0 3] Z ⟨Z,⟨a0,by omega⟩,Z,Z,U⟩ (fun f0=>?_) fun f0=>?_
 ·refine lT Z U Z ⟨congrArg Value.bool ?_,S3.fin⟩;unfold shA;rw[S7a d0];rw[decide_eq_true];omega
 refine lT Z U Z ⟨congrArg Value.bool ?_,S3.fin⟩;unfold shA;rw[S7a d0];rw[decide_eq_false];omega
theorem g4b(p:j0a)(a:i1a)(sg:List Int)(M:List Nat)(w0:World)(cs ca:List Value)(As:Option Addr)(ns cS:Nat)(hP:a1a M w0 p cs)(hA:J0a M w0 ca a)(ha:0≤a.cell∧a.cell<p.cells.length)(hK:k2a M w0)(hS:RdI M w0 (.slice As ns cS) sg)(n0:sg.length=p.cells.length):
 O0a prog 134 #[.agg (cs++[Value.slice As ns cS]).toArray,.agg ca.toArray] w0 fun v w'=>v=.bool (chA p sg a)∧Bw w0 w':=by
 obtain⟨Ac,nc,cc,Am,nm,cm,Al,nl,cl,At,nt,ct,rfl,_⟩:=hP.open_;obtain⟨_,_,_,rfl,_,hE⟩:=hA.open_;have o0:=hS.len.1;dsimp only[List.cons_append,List.nil_append];have S:=St.refl w0;refine a0a func134 Z ntmps134 Z ?_;refine wO0 Z U (r0a S Z ?_);intro g2 w2 S2 X2 G2;refine r0a S2 Z ?_;intro g3 w3 S3 X3 G3;refine lC0 Z U (U8a c0a (fun i=>[0,1,3,4,5,6,7,8,9,11,12,13,14,15,16,17,18,19].contains i) (.op 0 (.op 1 (.op 2 (.op 3 (.op 4 (.op 5 (.op 6 (.op 7 (.op 8 (.op 9 (.op 11 (.op 12 (.op 13 (.op 14 (.op 15 (.op 16 (.op 10 (.op 17 (.op 18 (.op 19 .nil)))))))))))))))))))) (b6c S3) ?_);have d0:=S3.drew;have e0:y0a [] w3 w3.drew:=o2a _ _;generalize w3.drew=q0 at d0 e0 ⊢;refine B1a ⟨d0,e0⟩ Z Z Z ?_;refine C1a H8b Z (fun w1 hw=>hw.1.cells 1 Z) Z Z ?_;refine i0a ?_;refine B1a ⟨d0,e0⟩ Z Z Z ?_;refine C1a N0c Z (fun w1 hw=>hw.1.cells 0 Z) Z Z ?_;refine i0a ?_;refine u2a ⟨d0,e0⟩ Z Z Z ?_;refine f0a d0 i2c Z Z (j0b p a M _ [.slice Ac nc cc,.slice Am nm cm,.slice Al nl cl,.slice At nt ct] _ As ns cS (hP.keep (d0.keep0 M)) (J0a.keep (d0.keep0 M) _ _ hA) ha) (fun h7 w7 S7 X7=>?_) (fun h7 w7 S7 X7=>?_)
 ·have a0:=e0.trans X7;refine B0a ⟨Z,?_⟩;refine B1a ⟨S7,a0⟩ Z Z Z ?_;refine F1a (hv:=Z) (v:=.bool _) Z ?_;refine i0a ?_;refine B1a ⟨S7,a0⟩ Z Z Z ?_;refine f2a Z Z ?_;refine u0a t3b Z Z ?_;refine i0a ?_;refine B1a ⟨S7,a0⟩ Z Z Z ?_;refine f2a Z Z ?_;refine C1a m0a Z (cs:=[_,_,_,_]) (fun w1 hw=>hw.1.cellsAt 0 1 4 Z) Z Z ?_;refine i0a ?_;refine B1a ⟨S7,a0⟩ Z Z Z ?_;refine f2a Z Z ?_;refine u0a y9a Z Z ?_;refine i0a ?_;refine B1a ⟨S7,a0⟩ Z Z Z ?_;refine f2a Z Z ?_;refine k0a L5a Z (fun w1 hw=>by exact hw.1.cell 1 Z Z) Z ?_;refine i0a ?_;refine B1a ⟨S7,a0⟩ Z Z Z ?_;refine f2a Z Z ?_;refine u0a y9a Z Z ?_;refine i0a ?_;refine B1a ⟨S7,a0⟩ Z Z Z ?_;refine f2a Z Z ?_;refine k0a L5a Z (fun w1 hw=>by exact hw.1.cell 1 Z Z) Z ?_;refine i0a ?_;refine B1a ⟨S7,a0⟩ Z Z Z ?_;refine f2a Z Z ?_;refine u0a y9a Z Z ?_;refine i0a ?_;refine B1a ⟨S7,a0⟩ Z Z Z ?_;refine f2a Z Z ?_;refine k0a L5a Z (fun w1 hw=>by exact hw.1.cell 1 Z Z) Z ?_;refine i0a ?_;refine B1a ⟨S7,a0⟩ Z Z Z ?_;refine f2a Z Z ?_;refine u0a S2b Z Z ?_;refine i0a ?_;refine B1a ⟨S7,a0⟩ Z Z Z ?_;refine f2a Z Z ?_;refine k0a D0a Z (fun w1 hw=>by exact hw.1.cell 0 Z Z) Z ?_;refine i0a ?_;refine B1a ⟨S7,a0⟩ Z Z Z ?_;refine f2a Z Z ?_;obtain⟨_,_,_,_,j0,_,_,_,g0,i0⟩:=RdS.get (hS) (a.cell.toNat) (by omega);obtain⟨rfl,_⟩:=id i0;refine q0a T0a.slT Z (by assumption) Z Z ?_;refine i0a ?_;refine B1a ⟨S7,a0⟩ Z Z Z ?_;refine f2a Z Z ?_;refine k0a D0a Z (fun w1 hw=>by exact hw.1.old (g0 0 _ Z)) Z ?_;refine i0a ?_;refine u2a ⟨S7,a0⟩ Z Z Z ?_;refine n5a Z Z Z ?_;refine W0a S7 d5b Z Z (S0b a.to M _ _ _ _ sg sg (RdE.keep (S7.keep0 M) _ _ hE) (hK.keep (S7.keep0 M)) (hS.keep (S7.keep0 M)) (hS.keep (S7.keep0 M))) ?_;intro p0 c0 m0;have b0:=a0.trans m0;refine B0a ⟨Z,?_⟩;refine B1a ⟨c0,b0⟩ Z Z Z ?_;refine f2a Z Z ?_;refine T3d Z Z Z (fun f0=>?_) fun f0=>?_
  ·refine i0a ?_;refine B1a ⟨c0,b0⟩ Z Z Z ?_;refine m7a Z (v:=.bool _) Z Z ?_;refine i0a ?_;refine B1a ⟨c0,b0⟩ Z Z Z ?_;refine x5a (v:=.bool _) Z Z ?_;refine i0a ?_;refine e3a ⟨c0,b0⟩ ?_;refine fR0 Z U (A0a Z ?_);refine⟨congrArg Value.bool ?_,c0.fin⟩;unfold chA;rw[h7,List.getD_eq_getElem?_getD,j0,Bool.true_and];(rw[decide_eq_true];exact f0)
  refine i0a ?_;refine B1a ⟨c0,b0⟩ Z Z Z ?_;refine m7a Z (v:=.bool _) Z Z ?_;refine i0a ?_;refine B1a ⟨c0,b0⟩ Z Z Z ?_;refine x5a (v:=.bool _) Z Z ?_;refine i0a ?_;refine e3a ⟨c0,b0⟩ ?_;refine fR0 Z U (A0a Z ?_);refine⟨congrArg Value.bool ?_,c0.fin⟩;unfold chA;rw[h7,List.getD_eq_getElem?_getD,j0,Bool.true_and];(rw[decide_eq_false];exact fun h=>h f0)
 have a0:=e0.trans X7;refine B0a ⟨Z,?_⟩;refine B1a ⟨S7,a0⟩ Z Z Z ?_;refine F1a (hv:=Z) (v:=.bool _) Z ?_;refine i0a ?_;refine B1a ⟨S7,a0⟩ Z Z Z ?_;refine f5a Z Z Z ?_;refine i0a ?_;refine B1a ⟨S7,a0⟩ Z Z Z ?_;refine f5a Z Z Z ?_;refine i0a ?_;refine B1a ⟨S7,a0⟩ Z Z Z ?_;refine f5a Z Z Z ?_;refine i0a ?_;refine B1a ⟨S7,a0⟩ Z Z Z ?_;refine f5a Z Z Z ?_;refine i0a ?_;refine B1a ⟨S7,a0⟩ Z Z Z ?_;refine f5a Z Z Z ?_;refine i0a ?_;refine B1a ⟨S7,a0⟩ Z Z Z ?_;refine f5a Z Z Z ?_;refine i0a ?_;refine B1a ⟨S7,a0⟩ Z Z Z ?_;refine f5a Z Z Z ?_;refine i0a ?_;refine B1a ⟨S7,a0⟩ Z Z Z ?_;refine f5a Z Z Z ?_;refine i0a ?_;refine B1a ⟨S7,a0⟩ Z Z Z ?_;refine f5a Z Z Z ?_;refine i0a ?_;refine B1a ⟨S7,a0⟩ Z Z Z ?_;refine f5a Z Z Z ?_;refine i0a ?_;refine B1a ⟨S7,a0⟩ Z Z Z ?_;refine f5a Z Z Z ?_;refine i0a ?_;refine B1a ⟨S7,a0⟩ Z Z Z ?_;refine f5a Z Z Z ?_;refine i0a ?_;refine u2a ⟨S7,a0⟩ Z Z Z ?_;refine N1d Z Z Z Z ?_;refine B0a ⟨Z,?_⟩;refine B1a ⟨S7,a0⟩ Z Z Z ?_;refine f5a Z Z Z ?_;refine i0a ?_;refine B1a ⟨S7,a0⟩ Z Z Z ?_;refine m7a Z (v:=.bool _) Z Z ?_;refine i0a ?_;refine B1a ⟨S7,a0⟩ Z Z Z ?_;refine x5a (v:=.bool _) Z Z ?_;refine i0a ?_;refine e3a ⟨S7,a0⟩ ?_;refine fR0 Z U (A0a Z ?_);refine⟨congrArg Value.bool ?_,S7.fin⟩;unfold chA;rw[h7];rfl
theorem E2b(M:List Nat)(w0:World)(v vf:Value)(l:List i1a)(q:i1a→Bool)(ok:i1a→Prop)(hR:c8c M w0 v l)(hp:Q7a prog M w0 vf q ok)(hok:∀a∈l,ok a):
 O0a prog 181 #[v,vf] w0 fun v w'=>(∃n,v=.int .i64 n∧(0≤n↔l.any q=true))∧Bw w0 w':=by
 obtain⟨A,n,c,rfl⟩:=hR.form;obtain⟨_,_⟩:=hR.len;have S:=St.refl w0;refine a0a func181 Z ntmps181 Z ?_;refine wC0 Z U (wL (fun μk D ε w=>D=[]∧∃k:Nat,(k+μk=(l.length))∧(e1a (l) k (fun x=>q x=false))∧St [] w0 w []∧Sl ε [(0,.slice A n c),(1,vf),(7,.int .i64 n),(8,.int .i64 k)]) (μ:=(l.length)) ⟨Z,0,by omega,e1a.zero,S,Z⟩ ?_);rintro μk D ε w ⟨rfl,k,_,ha,S,eZ⟩;refine wK eZ (wB0 Z U (fun h9=>?_) fun h9=>?_)
 ·refine lOn 16 S.k [] Z U (N0a Z ?_);obtain⟨x,j0,m0,_,g0,d0,_,f0,e0,a0⟩:=RdS.get (hR) (k) (by omega);obtain⟨_,_,_,rfl,_⟩:=J0a.open_ a0;refine lO (S.k.a e0) [.x j0 m0,.v 0] Z ⟨⟨Z,f0⟩,⟨d0,by omega⟩,U⟩ (V3c S (hp.keep (S.keep0 M)) Z Z (hok x (e0a g0)) (J0a.keep (S.keep0 M) _ _ a0) Z (fun c0 n0 b0 i0=>?_) (fun c0 n0 b0 i0=>?_))
  ·exact lT Z U Z ⟨⟨_,Z,⟨fun _=>List.any_eq_true.2 ⟨x,e0a g0,c0⟩,fun _=>by omega⟩⟩,b0.fin⟩
  refine lP0 Z ⟨by omega,U⟩ ⟨μk-1,by omega,Z,(k+1),(by omega),(ha.succ g0 (c0)),b0,Z⟩
 refine lT Z U Z ?_;refine⟨⟨_,Z,⟨fun h=>by omega,fun h=>?_⟩⟩,S.fin⟩;obtain⟨x,h1,h2⟩:=List.any_eq_true.1 h;rw[ha.all (by omega) x h1] at h2;cases h2
theorem R8a(M:List Nat)(w0:World)(v vf:Value)(l:List i1a)(q:i1a→Bool)(ok:i1a→Prop)(hR:c8c M w0 v l)(hp:Q7a prog M w0 vf q ok)(hok:∀a∈l,ok a):
 O0a prog 128 #[v,vf] w0 fun v w'=>v=.bool (l.any q)∧Bw w0 w':=by
 obtain⟨_,_,_,rfl⟩:=hR.form;have S:=St.refl w0;refine a0a func128 Z ntmps128 Z ?_;refine wOn 8 S.k [] Z U (N0a Z ?_);refine o0a S c9c Z Z (E2b M _ _ _ l q ok (RdS.keepW hR (S.keep0 M) (J0a.keep (S.keep0 M))) (hp.keep (S.keep0 M)) hok) ?_;rintro v7 w7 ⟨_,rfl,hm⟩ S7 X7;refine lB0 Z U (fun h8=>?_) fun h8=>?_
 ·refine lR0 Z U (A0a Z ?_);exact⟨by rw[hm.1 (by omega)],S7.fin⟩
 refine lT Z U Z ?_;refine⟨congrArg Value.bool ?_,S7.fin⟩;cases hq:l.any q with|false=>rfl|true=>exact absurd (hm.2 hq) (by omega)
theorem St.laterW{w0 w w':World}{L:List Ent}{M:List Nat}(S:St M w0 w L)(hb:E0a M w w')(hL:∀b∈L,∀g,b.1=some g→g∉M):St M w0 w' L :=
 S.keeps (S.below.trans hb) fun b hm g hg=>hb.block g (S.own b hm g hg).2.lt (hL b hm g hg)
theorem D8a{M G:List Nat}{w0 w w':World}(a:E0a M w0 w)(b:E0a M w0 w')(k:y0a G w w')(hG:∀g∈G,w0.heap.size≤g:=by simp):Below w0.heap.size w w' :=
 ⟨b.os.trans a.os.symm,b.tape.trans a.tape.symm,b.output.trans a.output.symm,k.size,fun i hi=>k.same i (Nat.lt_of_lt_of_le hi a.size) (fun h=>by have:=hG i h;omega)⟩
theorem St.laterN{M:List Nat}{n:Nat}{w0 w w':World}{L:List Ent}(S:St M w0 w L)(h:Below n w w')(h0:w0.heap.size≤n)(hL:∀b∈L,∀g,b.1=some g→g<n):St M w0 w' L :=
 S.keeps ⟨h.os.trans S.below.os,h.tape.trans S.below.tape,h.output.trans S.below.output,Nat.le_trans S.below.size h.size,fun k hk hm=>(h.block k (by omega)).trans (S.below.block k hk hm)⟩ (fun b hb g hg=>h.block g (hL b hb g hg))
theorem I4c(As:Option Addr)(ns cS:Nat)(w0:World):
 O0a prog 133 #[.slice As ns cS] w0 fun v w'=>(∃g,v=.func (.func 183) #[] #[.pointer (some ⟨g,0,none⟩)]∧w0.heap.size≤g∧p0a w' (g,48,[.slice As ns cS]))∧Bw w0 w':=by
 have S:=St.refl w0;refine a0a func133 Z ntmps133 Z ?_;refine wO0 Z U (U1b S (v:=.slice _ _ _) Z Z Z ?_);intro g1 w1 S1 X1 G1;refine lO0 Z U (U1a Z Z ?_);refine lR0 Z U (A0a Z ?_);exact⟨⟨g1,Z,by simpa using S1.new 0 Z,S1.blk 0 Z⟩,S1.fin⟩
theorem K6b{n i:Nat}{L:List Int}{v:List Int}(h:v=List.replicate i 0++(dgL L n).drop i)(hi:i≤L.length:=by omega):v.length=L.length∧∀j,i≤j→v[j]?=(dgL L n)[j]?:=by
 have hl:=u5a L n;subst h;refine⟨by simp;omega,fun j hj=>?_⟩;rw[List.getElem?_append_right (by simp;omega),List.getElem?_drop]
 congr 1
 simp;omega
theorem r0c{n i:Nat}{L:List Int}(hi:i<L.length):(List.replicate i 0++(dgL L n).drop i).set i 0=List.replicate (i+1) 0++(dgL L n).drop (i+1):=by
 have hl:=u5a L n;rw[List.set_append_right _ _ (by simp)];simp only[List.length_replicate,Nat.sub_self];rw[List.drop_eq_getElem_cons (by omega),List.set_cons_zero,List.replicate_succ',List.append_assoc];rfl
theorem X9b(M:List Nat)(w0:World)(l gL:Nat)(vl:Value)(L:List Int)(J:World→Prop)(p:Nat→Bool)(Q:Nat→World→Prop)
 (mL:gL∉M) (cL:w0.cell? ⟨gL,0,none⟩=some vl) (hL:RdI M w0 vl L) (hM:∀g∈M,g<w0.heap.size) (h1:∀x∈L,1≤x∧x≤256) (Y0:L.length≤1000)
 (hJ:J w0) (g0:∀w w',J w→Below w0.heap.size w w'→J w')
 (hY:∀(n gb:Nat) (w:World),n<Y2a L→w0.heap.size≤gb→J w →
   St M w0 w [(some gb,3,(dgL L n).map (Value.int .i64))] →
   Yld prog l #[.slice (some ⟨gb,0,none⟩) L.length L.length] w fun v w' =>
    E0a M w w'∧((v=.bool true∧p n=false∧J w')∨(v=.bool false∧p n=true∧Q n w'))) :
 O0a prog 183 #[.func (.yield l) #[] #[],.pointer (some ⟨gL,0,none⟩)] w0 fun _ w' =>
  E0a M w0 w'∧((J w'∧∀n,n<Y2a L→p n=false)∨∃n,n<Y2a L∧p n=true∧Q n w'):=by
 obtain⟨_,ns,_,rfl⟩:=hL.form;obtain⟨O0,_,_,_,a1⟩:=hL.at;have f0:∀x∈L,1≤x:=fun x hx=>(h1 x hx).1;have Z0:=t4b L f0;have S:St M w0 w0 []:=⟨E0a.refl _ _,by simp,by simp⟩;refine a0a func183 Z ntmps183 Z ?_;refine wO0 Z U (L0a L5a Z (by exact S.oldM mL cL) Z ?_);refine lO0 Z U (c0c (n:=ns) (c:=ns) S T0a Z Z Z Z ?_);intro g7 w7 S7 X7 G7;refine lC0 Z U ?_;refine wL (fun μ D ε w=>D=[]∧∃n:Nat,(n+μ+1=Y2a L)∧(∀m,m<n→p m=false)∧(J w)∧St M w0 w [(some g7,3,(dgL L n).map (Value.int .i64))]∧ε 0=.func (.yield l) #[] #[]∧ε 1=.pointer (some ⟨gL,0,none⟩)∧ε 3=.slice (some ⟨g7,0,none⟩) ns ns) (μ:=Y2a L-1) ⟨Z,0,by omega,fun m h=>absurd h (by omega),g0 _ _ hJ (D8a (E0a.refl _ _) S7.below X7),by rw[n8b,List.map_replicate,←O0];exact S7,Z,Z,Z⟩ ?_;rintro μ D ε w ⟨rfl,n,_,hp,hJ,S,e0,e1,e3⟩;refine s0a 0 e0 (s0a 1 e1 (s0a 3 e3 ?_));clear e0 e1 e3;refine wO0 Z U ?_;have I0:=S;have n0:=hY n g7 _ (by omega) G7 hJ I0;rw[←O0] at n0;refine Q6c Z Z Z n0 ?_;rintro d1 f1 ⟨S0,b1⟩;have H0:=I0.laterW S0 (fun b hb g hg=>by
  intro hm;have:=hM g hm;simp only[List.mem_cons,List.not_mem_nil,or_false] at hb;subst hb;cases hg;omega)
 rcases b1 with⟨rfl,s0,B0⟩|⟨rfl,s0,D0⟩
 ·refine lC0 Z U (wL (fun μ D ε w=>D=[]∧∃i:Nat,∃vs:List Int,(i+μ=L.length)∧(vs=List.replicate i 0++(dgL L n).drop i)∧(∀(j:Nat) (y e:Int),j<i→L[j]?=some y→(dgL L n)[j]?=some e→e=y-1)∧(J w)∧St M w0 w [(some g7,3,vs.map (Value.int .i64))]∧ε 0=.func (.yield l) #[] #[]∧ε 1=.pointer (some ⟨gL,0,none⟩)∧ε 3=.slice (some ⟨g7,0,none⟩) ns ns∧ε 4=.int .i64 i) (μ:=L.length) ⟨Z,0,dgL L n,by omega,Z,fun j y e hj=>absurd hj (by omega),B0,H0,Z,Z,Z,Z⟩ ?_);rintro μ D ε w ⟨rfl,i,vs,_,hv,x0,v0,S,e0,e1,e3,e4⟩;refine s0a 0 e0 (s0a 1 e1 (s0a 3 e3 (s0a 4 e4 ?_)));clear e0 e1 e3 e4;refine wC0 Z U (H0a c0a [0,1,2,3,4,5,6,7,8,9,10,11,12,13,14,15] [] [] Z (Cl _ _ _ _) (Cl.start S) ?_);refine qB0 Z U (fun T0=>?_) fun T0=>?_
  ·have b0:i<L.length:=by omega
   have L0:=u5a L n;obtain⟨d,hd⟩:∃d,(dgL L n)[i]?=some d:=⟨_,List.getElem?_eq_getElem (by omega)⟩;obtain⟨P0,u0⟩:=K6b hv;have t0:vs[i]?=some d:=by rw[u0 i (Nat.le_refl _)];exact hd
   have Q0:=h1 L[i] (List.getElem_mem b0);have K0:=G0b L n i L[i] d f0 (List.getElem?_eq_getElem b0) hd;obtain⟨bo,oo,_,U0,W0⟩:=a1 (by omega);obtain⟨_,_,E0,F0⟩:=W0 i L[i] (List.getElem?_eq_getElem b0);have V0:w0.cell? ⟨bo,oo+i*1,none⟩=some (.int .i64 L[i]):=E0 0 _ (by rw[F0.1];rfl);have o0:(vs.map (Value.int .i64))[0+(i:Int).toNat*1]?=some (.int .i64 d):=by rw[List.getElem?_map,show 0+(i:Int).toNat*1=i by omega,t0];rfl
   refine qO S.q [.i] Z ⟨by omega,U⟩ (k0a D0a Z (fun w1 hw=>hw.1.cell 0 Z o0) Z ?_);refine qO0 Z U (k0a L5a Z (fun w1 hw=>by exact hw.1.oldM mL cL) Z ?_);refine qO0 Z U (q0a T0a.slT Z (by assumption) Z Z ?_);refine qO0 Z U (k0a D0a Z (fun w1 hw=>by exact hw.1.oldM U0 V0) Z ?_);refine qB0 Z ⟨by omega,U⟩ (fun z0=>?_) fun z0=>?_
   ·refine qD Z U ?_;rintro R0 ⟨a0,j0⟩;refine lO a0.k [.i] Z ⟨by omega,U⟩ ?_
    first|refine U0a (kk:=0) a0 W9b Z Z Z (by(simp;omega)) ?_
    intro c1 m0 y0;refine lP0 Z ⟨by omega,U⟩ ⟨μ-1,by omega,Z,i+1,vs.set i 0,by omega,?_,?_,?_,?_,Z,Z,Z,Z⟩
    ·rw[hv];exact r0c b0
    ·intro j y e hj hy he;by_cases X0:j=i
     ·subst X0;rw[hd] at he;cases he;rw[List.getElem?_eq_getElem b0] at hy;cases hy;exact z0
     ·exact x0 j y e (by omega) hy he
    ·exact g0 _ _ (g0 _ _ v0 (D8a S.below a0.below j0)) (D8a (hG:=(by simp;exact G7)) a0.below m0.below y0)
    ·simpa[List.map_set] using m0
   refine qD Z U ?_;rintro R0 ⟨a0,j0⟩;refine lB0 Z U (fun A0=>?_) fun A0=>?_
   ·refine lR0 Z U (N1a Z ?_);exfalso;omega
   refine lOn 8 a0.k [] Z U ?_;have b0:i<L.length:=by omega
   have r0:∀d,(dgL L n)[i]?=some d→d≠L[i]-1:=by
    intro d' J0;rw[hd] at J0;cases J0;exact z0
   have L0:=u5a L n;obtain⟨d,hd⟩:∃d,(dgL L n)[i]?=some d:=⟨_,List.getElem?_eq_getElem (by omega)⟩;obtain⟨P0,u0⟩:=K6b hv;have t0:vs[i]?=some d:=by rw[u0 i (Nat.le_refl _)];exact hd
   have Q0:=h1 L[i] (List.getElem_mem b0);have K0:=G0b L n i L[i] d f0 (List.getElem?_eq_getElem b0) hd;have o0:(vs.map (Value.int .i64))[0+(i:Int).toNat*1]?=some (.int .i64 d):=by rw[List.getElem?_map,show 0+(i:Int).toNat*1=i by omega,t0];rfl
   have d0:=Q2b L n i L[i] d f0 x0 (List.getElem?_eq_getElem b0) hd (r0 d hd);have q0:=F7b f0 (List.getElem?_eq_getElem b0) hd (r0 d hd);have C0:=g0 _ _ v0 (D8a S.below a0.below j0);refine lO a0.k [.i] Z ⟨by omega,U⟩ (L0a D0a Z (a0.cell 0 Z o0) Z ?_);refine lO a0.k [.i] Z ⟨by omega,by omega,U⟩ ?_
   first|refine U0a (kk:=0) a0 W9b Z Z Z (by(simp;omega)) ?_
   intro G0 c0 i0;refine lP0 Z U ?_;refine⟨Y2a L-(n+2),by omega,Z,n+1,by omega,fun m hm=>(by by_cases p0:m=n;(subst p0;exact s0);exact hp m (by omega)),?_,?_,Z,Z,Z⟩
   ·exact g0 _ _ C0 (D8a (hG:=(by simp;exact G7)) a0.below c0.below i0)
   ·rw[d0,←hv];simpa[List.map_set] using c0
  refine qD Z U ?_;rintro R0 ⟨a0,j0⟩;refine lB0 Z U (fun A0=>?_) fun A0=>?_
  ·refine lR0 Z U (N1a Z ?_);have N0:=r8b L n f0 (by omega) (fun j y e hy he=>x0 j y e (by have:=M2a hy;omega) hy he);exact⟨a0.below,.inl ⟨g0 _ _ v0 (D8a S.below a0.below j0),fun m hm=>(by by_cases p0:m=n;(subst p0;exact s0);exact hp m (by omega))⟩⟩
  refine lOn 8 a0.k [] Z U ?_;have b0:i<L.length:=by omega
  have r0:∀d,(dgL L n)[i]?=some d→d≠L[i]-1:=by
   exfalso;omega
  have L0:=u5a L n;obtain⟨d,hd⟩:∃d,(dgL L n)[i]?=some d:=⟨_,List.getElem?_eq_getElem (by omega)⟩;obtain⟨P0,u0⟩:=K6b hv;have t0:vs[i]?=some d:=by rw[u0 i (Nat.le_refl _)];exact hd
  have Q0:=h1 L[i] (List.getElem_mem b0);have K0:=G0b L n i L[i] d f0 (List.getElem?_eq_getElem b0) hd;have o0:(vs.map (Value.int .i64))[0+(i:Int).toNat*1]?=some (.int .i64 d):=by rw[List.getElem?_map,show 0+(i:Int).toNat*1=i by omega,t0];rfl
  have d0:=Q2b L n i L[i] d f0 x0 (List.getElem?_eq_getElem b0) hd (r0 d hd);have q0:=F7b f0 (List.getElem?_eq_getElem b0) hd (r0 d hd);have C0:=g0 _ _ v0 (D8a S.below a0.below j0);refine lO a0.k [.i] Z ⟨by omega,U⟩ (L0a D0a Z (a0.cell 0 Z o0) Z ?_);refine lO a0.k [.i] Z ⟨by omega,by omega,U⟩ ?_
  first|refine U0a (kk:=0) a0 W9b Z Z Z (by(simp;omega)) ?_
  intro G0 c0 i0;refine lP0 Z U ?_;refine⟨Y2a L-(n+2),by omega,Z,n+1,by omega,fun m hm=>(by by_cases p0:m=n;(subst p0;exact s0);exact hp m (by omega)),?_,?_,Z,Z,Z⟩
  ·exact g0 _ _ C0 (D8a (hG:=(by simp;exact G7)) a0.below c0.below i0)
  ·rw[d0,←hv];simpa[List.map_set] using c0
 refine lR0 Z U (N1a Z ?_);exact⟨H0.below,.inr ⟨n,by omega,s0,D0⟩⟩
section
variable {P:Program} {fn:Func} {R:Value→World→Prop} {D:List Deferred} {e:Env} {w:World}
theorem x6a{a1 t1 g1:Nat}{v1:Value}(h:fn.results=#[.cell a1 t1])(o1:One P t1)(e1:e a1=.pointer (some ⟨g1,0,none⟩))(rs:List Nat)(hD:D=rs.map G1b)(hn:rs.Nodup)(hO:NC w (R5b rs))(hc:w.cell? ⟨g1,0,none⟩=some v1)(hg:g1∉rs)(hR:∀w',E0a rs w w'→R v1 w'):p9a P fn R D e w :=
 ⟨rs,hD,hn,hO,fun w' hb _ tmps he=>by
  have hk:y0a rs w w':=⟨hb.size,hb.block⟩;have c2:=hk.cell (a:=⟨g1,0,none⟩) hg hc;subst he;simp only[Y0a,Array.getD_eq_getD_getElem?] at e1;have h2:(loadVar t1 ⟨g1,0,none⟩).run P w'=.ok v1 w':=by rw[o1 w'];simp[load,Sem.run,c2]
  exact⟨_,by simp[results,h,asAddr,e1,h2],hR w' hb⟩⟩
end
theorem b4a.rdI3{M':List Nat}{w0 w:World}{L:List Ent}{k:Nat}{G:Option Nat}{el n:Nat}{cs:List Value}{v:Value}{M:List Nat}{l:List Int}(hR:b4a G 1 n cs v (l.map (Value.int .i64)))(S:St M' w0 w L)(hk:L[k]?=some (G,el,cs))
 (hM:∀g,G=some g→g∉M) (hl:∀x∈l,i64 x) (a0:l.length≤140737488355328):RdI M w v l:=by
 have hn:n=l.length:=by have:=hR.1;simp at this;omega
 subst hn;refine hR.rd S hk hM Z a0 (fun i x hi=>?_);have b0:i<l.length:=(List.getElem?_eq_some_iff.1 hi).1;have hx:l[i]=x:=(List.getElem?_eq_some_iff.1 hi).2;have e1:((l.map (Value.int .i64)).drop (i*1)).take 1=[.int .i64 x]:=by
  rw[Nat.mul_one,List.drop_eq_getElem_cons (by simpa using b0)];simp[hx]
 rw[e1];exact⟨Z,Z,hl x (List.mem_of_getElem? hi)⟩
theorem V1c{rc:Loop}(b0:rc.state=.ready)(a0:rc.pending=none):({ ({ rc with state:=.busy }:Loop) with state:=if(none:Option Code).isNone then .ready else .done,pending:=none }:Loop)=rc:=by
 cases rc;simp at b0 a0 ⊢;exact⟨b0.symm,a0.symm⟩
theorem d2c{M Ms:List Nat}{w0 w w':World}(a:E0a M w0 w)(b:E0a M w0 w')(k:y0a Ms w w'):E0a Ms w w' :=
 ⟨b.os.trans a.os.symm,b.tape.trans a.tape.symm,b.output.trans a.output.symm,k.size,k.same⟩
theorem NC.laterN{n:Nat}{w w':World}{rs:List (Nat×Obj)}(h:NC w rs)(hb:Below n w w')(hl:∀x∈rs,x.1<n):NC w' rs:=fun x hx=>⟨(hb.block x.1 (hl x hx)).trans (h x hx).1,(h x hx).2⟩
def w2a(s:Z0a):List Int:=ddI (X1a s++g1a s)
def V6c(p:j0a)(c:Int):Int:=((2 ^ (wAt p.cells c).toNat:Nat):Int)
def d9a(p:j0a)(s:Z0a):List Int:=(w2a s).map (V6c p)
def x4c(p:j0a)(s:Z0a):List Int:=(w2a s).map (wAt p.cells)
theorem Q7b{p:j0a}(hw:∀c∈p.cells,1≤c.w∧c.w≤8){c:Int}(hc:0≤c∧c<p.cells.length):1≤V6c p c∧V6c p c≤256:=by
 have h1:=p1c hc hw;have h2:2 ^ (wAt p.cells c).toNat≤2 ^ 8:=Nat.pow_le_pow_right (by omega) (by omega);have h3:0<2 ^ (wAt p.cells c).toNat:=Nat.two_pow_pos _;unfold V6c;omega
def stC(p:j0a)(s:Z0a)(n:Nat):List Int:=e1b (w2a s) (dgL (d9a p s) n) (List.replicate p.cells.length 0)
def H8c(p:j0a)(s:Z0a)(n:Nat):Bool:=decide (s.guard.evl (stC p s n) (stC p s n)=1)&&s.set.any (chA p (stC p s n))
def Chg(p:j0a)(s:Z0a):Prop:=s.set.any (shA p)=true∧(12<W1b (x4c p s)∨∃n,n<Y2a (d9a p s)∧H8c p s n=true)
theorem L2d{p:j0a}{c:Int}{cl:I1a}(h0:0≤c)(h:p.cells[c.toNat]?=some cl):wAt p.cells c=cl.w:=by
 unfold wAt;rw[if_pos h0,h];rfl
def ZSt(p:j0a)(s:Z0a)(sg:List Int):Prop:=sg.length=p.cells.length∧(∀x∈sg,i64 x)∧∀V,V.length=(w2a s).length→e1b (w2a s) V sg=e1b (w2a s) V (List.replicate p.cells.length 0)
theorem ZSt.zero(p:j0a)(s:Z0a):ZSt p s (List.replicate p.cells.length 0):=⟨by simp,fun x hx=>by rw[(List.mem_replicate.1 hx).2];unfold i64;omega,fun V _=>rfl⟩
theorem n1c{C:List Int}(h:C.Pairwise (·<·))(h0:∀c∈C,0≤c):(C.map Int.toNat).Nodup:=by
 rw[List.Nodup,List.pairwise_map];exact List.Pairwise.imp_of_mem (fun {a b} ha hb a0=>by have:=h0 a ha;have:=h0 b hb;omega) h
theorem ZSt.lay{p:j0a}{s:Z0a}{sg V:List Int}(h:ZSt p s sg)(hC:∀c∈w2a s,0≤c)(hV:V.length=(w2a s).length)(hi:∀x∈V,i64 x):ZSt p s (e1b (w2a s) V sg) :=
 ⟨by rw[w3b];exact h.1,fun x hx=>(E7b _ _ _ _ hx).elim (hi x) (h.2.1 x),fun V' a0=>by rw[i2b (w2a s) V' V sg (n1c (x4b _) hC) a0 hV];exact h.2.2 V' a0⟩
theorem G5b(p:j0a)(s:Z0a)(V1:∀c∈X1a s,0≤c∧c<p.cells.length)(hok:∀a∈s.set,0≤a.cell∧a.cell<p.cells.length)(i5:s.set.length≤32)(M:List Nat)(w0:World)(cs ss:List Value)(hI:InP p M w0 cs)(hR:z1a M w0 ss s):
 O0a prog 72 #[.agg cs.toArray,.agg ss.toArray] w0 fun v w'=>(∃b:Bool,v=.bool b∧(b=true↔Chg p s))∧Bw w0 w':=by
 obtain⟨Ac,nc,cc,Am,nm,cm,Al,nl,cl,At,nt,ct,rfl,hC,_,_,_,x4,_⟩:=hI.rd.open_;obtain⟨Ag,ng,cg,As,ns,W0,rfl,⟨_,_⟩,hG,A1,_⟩:=hR.open_;have hM:=hI.lt;have hp:=hI.ok;have hK:=hI.msk;have hP:=hI.rd;have n1:=hp.ncells;have F1:∀c∈g1a s,0≤c∧c<p.cells.length:=fun c hc=>by
  obtain⟨a,ha,rfl⟩:=List.mem_map.1 (n8a.1 hc);exact hok a ha
 have a1:∀c∈w2a s,0≤c∧c<p.cells.length:=fun c hc=>(List.mem_append.1 (n8a.1 hc)).elim (V1 c) (F1 c);have l1:(X1a s).length≤32:=b3b (x4b _) fun c hc=>by have:=V1 c hc;omega
 have l2:(g1a s).length≤32:=b3b (x4b _) fun c hc=>by have:=F1 c hc;omega
 have l3:(w2a s).length≤32:=b3b (x4b _) fun c hc=>by have:=a1 c hc;omega
 have p4:∀c∈w2a s,i64 c:=fun c hc=>by have:=a1 c hc;unfold i64;omega
 have T1:∀c∈p.cells,1≤c.w∧c.w≤8:=fun c hc=>(hp.cells c hc).w;have a3:∀x∈x4c p s,1≤x∧x≤8:=fun x hx=>by
  obtain⟨c,h,rfl⟩:=List.mem_map.1 hx;exact p1c (a1 c h) T1
 have S:=(St.refl w0).nilEnt 3;refine U5b func72 Z ntmps72 Z (wI ?_);refine wO0 Z U (r0a S Z ?_);intro g2 w2 S2 X2 G2;refine r0a S2 Z ?_;intro g3 w3 S3 X3 G3;refine h0a S3 c3d Z Z ?_;intro g4 w4 S4 X4 G4;refine lC0 Z U (d0c c0a [0,1,2,3,4,5,6] 7 (Cl _ _ _ _) (Cl.start S4) _ Z ?_);refine I6a Z Z ?_;refine C1a P4a Z (fun w1 hw=>hw.1.cells 2 Z) Z Z ?_;refine i0a ?_;refine I6a Z Z ?_;refine u0a c6b Z Z ?_;refine i0a ?_;refine I6a Z Z ?_;refine k0a Z0b Z (fun w1 hw=>by exact hw.1.cell 2 Z Z) Z ?_;refine i0a ?_;refine e0b Z c4a.slT Z Z ?_;refine Y6a (n:=nc) (c:=nc) Z Z Z T0a Z Z Z ?_;intro g18 J3 I1;refine I6a Z Z ?_;refine m3a T8c (vs:=[(0,.agg _),(1,.slice _ _ _)]) (cs:=[_,_,_,_,_]) Z Z Z Z ?_;refine i0a ?_;refine A9a Z Z Z K0d Z ?_;intro g5 G5 L4;refine M4b ?_;rintro x5 ⟨q1,_⟩ ⟨⟨-,L2⟩,s4⟩;clear I1;replace q1:=q1.push_new S4 L2 J3;replace q1:=q1.push_more (L1:=[_]) S4 s4 G5 (by simpa[eq_comm] using L4);refine b0a (kk:=0) (vs:=[_,_,_,_,_]) q1 d2d Z Z Z Z Z Z Z ?_;intro T4 A0 O3;dsimp only[d0a,List.set] at A0;refine B0a ⟨Z,?_⟩;refine fO A0.k [.o 3,.w 0] Z ⟨⟨Z,Z⟩,Z,U⟩ (h2a Z Z Z ?_);refine f0a A0 v1c Z Z (R8a M _ _ _ s.set (shA p) (fun a=>0≤a.cell∧a.cell<p.cells.length) (RdS.keepW A1 (A0.keep0 M) (J0a.keep (A0.keep0 M))) ⟨_,_,_,Z,i2c,fun w' hk a ca hok hr=>j0b p a M w' [.slice Ac nc cc,.slice Am nm cm,.slice Al nl cl,.slice At nt ct] ca (some ⟨g18,0,none⟩) nc nc (hP.keep ((A0.keep0 M).trans hk)) hr hok⟩ hok) (fun Q1 Y1 m1 P3=>?_) (fun Q1 Y1 m1 P3=>?_)
 ·refine lCn 6 m1.k [] Z U (wX (fun D ε w=>D=[]∧∃g6:Nat,∃n0:Nat,∃G:Option Nat,∃v0:List Value,∃z0:Option Addr,∃D0:Nat,∃B0:Nat,∃f2:List Value,(b4a G 1 (X1a s++g1a s).length v0 (.slice z0 D0 B0) ((X1a s++g1a s).map (Value.int .i64)))∧St [] w0 w [(some g6,48,[.slice z0 D0 B0]),(G,3,v0),(some n0,48,f2),(some g5,192,[.slice Ac nc cc,.slice Am nm cm,.slice Al nl cl,.slice At nt ct,.slice (some ⟨g18,0,none⟩) nc nc]),(some g18,3,List.replicate nc (.int .i64 0)),(some g4,4,[.bool false]),(some g3,61,[.int .i64 s.kind,.int .i64 s.frm,.int .i64 s.to,.int .i64 s.guard.op,.int .i64 s.guard.w,.int .i64 s.guard.n,.slice Ag ng cg,.slice As ns W0,.bool s.release,.int .i64 s.target,.int .i64 s.module_]),(some g2,27,[.slice Ac nc cc,.slice Am nm cm,.slice Al nl cl,.slice At nt ct]),(none,3,[])]∧Sl ε [(2,.pointer (some ⟨g2,0,none⟩)),(3,.pointer (some ⟨g3,0,none⟩)),(4,.pointer (some ⟨g4,0,none⟩)),(5,.pointer (some ⟨g5,0,none⟩)),(6,.pointer (some ⟨g6,0,none⟩))]) ?_ ?_)
  ·refine U8a c0a (fun i=>[0,2].contains i) (.op 0 (.op 2 (.two (.op 1 (.two (.op 3 (.two (.op 4 (.two (.op 5 (.op 6 (.op 7 .nil))) (.op 6 (.op 5 (.op 7 .nil))))) (.op 6 (.op 4 (.op 5 (.op 7 .nil)))))) (.op 6 (.op 3 (.op 4 (.op 5 (.op 7 .nil))))))) (.op 6 (.op 1 (.op 3 (.op 4 (.op 5 (.op 7 .nil))))))))) (b6c m1) ?_;have H0:=m1.drew;have V0:y0a [] Y1 Y1.drew:=o2a _ _;generalize Y1.drew=y5 at H0 V0 ⊢;refine B1a ⟨H0,V0⟩ Z Z Z ?_;refine C1a M6b Z (fun w1 hw=>hw.1.cells 3 Z) Z Z ?_;refine i0a ?_;refine B1a ⟨H0,V0⟩ Z Z Z ?_;refine C1a M6b Z (fun w1 hw=>hw.1.cells 3 Z) Z Z ?_;refine i0a ?_;refine Z5a ?_ ?_
   ·refine u2a ⟨H0,V0⟩ Z Z Z ?_;refine o0a H0 P2c Z Z (H8a (M:=M) (G7b s M _ _ (z1a.keep (H0.keep0 M) _ _ hR) (hK.keep (H0.keep0 M)) (fun g hg=>Nat.lt_of_lt_of_le (hM g hg) H0.size)) (fun g hg=>Nat.lt_of_lt_of_le (hM g hg) H0.size) (fun c hc=>by have:=V1 c hc;unfold i64;omega)) ?_;rintro R4 V4 g0 G0 i2;have i0:=V0.trans i2;obtain⟨f1,j1,g1,rfl⟩:=g0.form;refine B0a ⟨Z,?_⟩;refine Z5a ?_ ?_
    ·refine u2a ⟨G0,i0⟩ Z Z Z ?_;refine o0a G0 d8b Z Z (H8a (M:=M) (u7a s M _ _ (z1a.keep (G0.keep0 M) _ _ hR)) (fun g hg=>Nat.lt_of_lt_of_le (hM g hg) G0.size) (fun c hc=>by have:=F1 c hc;unfold i64;omega)) ?_;rintro A3 D3 o0 L0 U0;have c0:=i0.trans U0;replace g0:=g0.keep (U0.of_nil);obtain⟨X0,d1,Z0,rfl⟩:=o0.form;refine B0a ⟨Z,?_⟩;refine Z5a ?_ ?_
     ·refine u2a ⟨L0,c0⟩ Z Z Z ?_;refine C0a L0 B9a (vs:=[.slice _ _ _,.slice _ _ _]) (cs:=[_,_]) Z Z Z Z Z Z ?_;intro n0 K0 j0 u0 b2;have a0:=c0.trans u0;replace g0:=g0.keep (u0.of_nil);replace o0:=o0.keep (u0.of_nil);refine B0a ⟨Z,?_⟩;refine Z5a ?_ ?_
      ·refine u2a ⟨j0.tail,a0⟩ Z Z Z ?_;have Sb:=j0;have s0:∀(k:Nat) (h:k<([X1a s,g1a s]:List (List Int)).length),∃A n c,K0.cell? ⟨n0,0+k*1,none⟩=some (.slice A n c)∧RdI M K0 (.slice A n c) ([X1a s,g1a s]:List (List Int))[k]:=by
        intro k hk;rcases(show k=0∨k=1 by simp at hk;omega) with rfl|rfl
        ·exact⟨f1,j1,g1,by exact j0.cell 0 Z Z,g0⟩
        ·exact⟨X0,d1,Z0,by exact j0.cell 0 Z Z,o0⟩
       refine o0a j0 M9a Z Z (V5a M _ n0 [X1a s,g1a s] (by simp;omega) (by simp) s0) ?_;rintro X1 Z1 ⟨G,v0,p0,P0⟩ N0 O0;have e0:=N0.pushO Sb P0;have d0:=a0.trans O0.of_nil;obtain⟨z0,D0,B0,rfl⟩:=p0.form;rw[show([X1a s,g1a s]:List (List Int)).flatten=X1a s++g1a s by simp] at p0;refine B0a ⟨Z,?_⟩;refine u2a ⟨e0.tail.tail,d0⟩ Z Z Z ?_;refine h0a e0 z2c Z Z ?_;intro g6 w6 S6 X6 G6;have f0:=d0.trans X6;refine B0a ⟨Z,?_⟩;refine u2a ⟨S6.tail.tail.tail,f0⟩ Z Z Z ?_;refine U0a (hy:=Z) (kk:=0) S6 y3b Z Z Z (Nat.le_of_ble_eq_true Z) ?_;intro Q0 b0 q0;dsimp only[List.set] at b0;have r0:=f0.freshL q0 (fun g hg=>.inl (by rw[List.mem_singleton.1 hg];exact Nat.le_trans d0.size G6));refine B0a ⟨Z,?_⟩;refine e3a ⟨b0.tail.tail.tail,r0⟩ ?_;refine fP0 Z U ⟨Z,(g6),(n0),(G),(v0),(z0),(D0),(B0),(_),(p0),(b0.perm (by exact .refl _)),Z⟩
      refine u2a ⟨j0.tail,a0⟩ Z Z Z ?_;refine h0a j0 z2c Z Z ?_;intro g6 w6 S6 X6 G6;have f0:=a0.trans X6;replace g0:=g0.keep (X6.of_nil);replace o0:=o0.keep (X6.of_nil);refine B0a ⟨Z,?_⟩;refine u2a ⟨S6.tail.tail,f0⟩ Z Z Z ?_;have Sb:=S6;have s0:∀(k:Nat) (h:k<([X1a s,g1a s]:List (List Int)).length),∃A n c,w6.cell? ⟨n0,0+k*1,none⟩=some (.slice A n c)∧RdI M w6 (.slice A n c) ([X1a s,g1a s]:List (List Int))[k]:=by
       intro k hk;rcases(show k=0∨k=1 by simp at hk;omega) with rfl|rfl
       ·exact⟨f1,j1,g1,by exact S6.cell 1 Z Z,g0⟩
       ·exact⟨X0,d1,Z0,by exact S6.cell 1 Z Z,o0⟩
      refine o0a S6 M9a Z Z (V5a M _ n0 [X1a s,g1a s] (by simp;omega) (by simp) s0) ?_;rintro X1 Z1 ⟨G,v0,p0,P0⟩ N0 O0;have e0:=N0.pushO Sb P0;have d0:=f0.trans O0.of_nil;obtain⟨z0,D0,B0,rfl⟩:=p0.form;rw[show([X1a s,g1a s]:List (List Int)).flatten=X1a s++g1a s by simp] at p0;refine B0a ⟨Z,?_⟩;refine u2a ⟨e0.tail.tail.tail,d0⟩ Z Z Z ?_;refine U0a (hy:=Z) (kk:=1) e0 y3b Z Z Z (Nat.le_of_ble_eq_true Z) ?_;intro Q0 b0 q0;dsimp only[List.set] at b0;have r0:=d0.freshL q0 (fun g hg=>.inl (by rw[List.mem_singleton.1 hg];exact Nat.le_trans a0.size G6));refine B0a ⟨Z,?_⟩;refine e3a ⟨b0.tail.tail.tail,r0⟩ ?_;refine fP0 Z U ⟨Z,(g6),(n0),(G),(v0),(z0),(D0),(B0),(_),(p0),(b0.perm (by exact .swap _ _ _)),Z⟩
     refine u2a ⟨L0,c0⟩ Z Z Z ?_;refine h0a L0 z2c Z Z ?_;intro g6 w6 S6 X6 G6;have f0:=c0.trans X6;replace g0:=g0.keep (X6.of_nil);replace o0:=o0.keep (X6.of_nil);refine B0a ⟨Z,?_⟩;refine u2a ⟨S6.tail,f0⟩ Z Z Z ?_;refine C0a S6 B9a (vs:=[.slice _ _ _,.slice _ _ _]) (cs:=[_,_]) Z Z Z Z Z Z ?_;intro n0 K0 j0 u0 b2;have a0:=f0.trans u0;replace g0:=g0.keep (u0.of_nil);replace o0:=o0.keep (u0.of_nil);refine B0a ⟨Z,?_⟩;refine u2a ⟨j0.tail.tail,a0⟩ Z Z Z ?_;have Sb:=j0;have s0:∀(k:Nat) (h:k<([X1a s,g1a s]:List (List Int)).length),∃A n c,K0.cell? ⟨n0,0+k*1,none⟩=some (.slice A n c)∧RdI M K0 (.slice A n c) ([X1a s,g1a s]:List (List Int))[k]:=by
      intro k hk;rcases(show k=0∨k=1 by simp at hk;omega) with rfl|rfl
      ·exact⟨f1,j1,g1,by exact j0.cell 0 Z Z,g0⟩
      ·exact⟨X0,d1,Z0,by exact j0.cell 0 Z Z,o0⟩
     refine o0a j0 M9a Z Z (V5a M _ n0 [X1a s,g1a s] (by simp;omega) (by simp) s0) ?_;rintro X1 Z1 ⟨G,v0,p0,P0⟩ N0 O0;have e0:=N0.pushO Sb P0;have d0:=a0.trans O0.of_nil;obtain⟨z0,D0,B0,rfl⟩:=p0.form;rw[show([X1a s,g1a s]:List (List Int)).flatten=X1a s++g1a s by simp] at p0;refine B0a ⟨Z,?_⟩;refine u2a ⟨e0.tail.tail.tail,d0⟩ Z Z Z ?_;refine U0a (hy:=Z) (kk:=2) e0 y3b Z Z Z (Nat.le_of_ble_eq_true Z) ?_;intro Q0 b0 q0;dsimp only[List.set] at b0;have r0:=d0.freshL q0 (fun g hg=>.inl (by rw[List.mem_singleton.1 hg];exact Nat.le_trans c0.size G6));refine B0a ⟨Z,?_⟩;refine e3a ⟨b0.tail.tail.tail,r0⟩ ?_;refine fP0 Z U ⟨Z,(g6),(n0),(G),(v0),(z0),(D0),(B0),(_),(p0),(b0.perm (by exact(List.Perm.trans ((List.Perm.swap _ _ _).cons _) (.swap _ _ _)))),Z⟩
    refine u2a ⟨G0,i0⟩ Z Z Z ?_;refine h0a G0 z2c Z Z ?_;intro g6 w6 S6 X6 G6;have f0:=i0.trans X6;replace g0:=g0.keep (X6.of_nil);refine B0a ⟨Z,?_⟩;refine u2a ⟨S6.tail,f0⟩ Z Z Z ?_;refine o0a S6 d8b Z Z (H8a (M:=M) (u7a s M _ _ (z1a.keep (S6.keep0 M) _ _ hR)) (fun g hg=>Nat.lt_of_lt_of_le (hM g hg) S6.size) (fun c hc=>by have:=F1 c hc;unfold i64;omega)) ?_;rintro A3 D3 o0 L0 U0;have c0:=f0.trans U0;replace g0:=g0.keep (U0.of_nil);obtain⟨X0,d1,Z0,rfl⟩:=o0.form;refine B0a ⟨Z,?_⟩;refine u2a ⟨L0.tail,c0⟩ Z Z Z ?_;refine C0a L0 B9a (vs:=[.slice _ _ _,.slice _ _ _]) (cs:=[_,_]) Z Z Z Z Z Z ?_;intro n0 K0 j0 u0 b2;have a0:=c0.trans u0;replace g0:=g0.keep (u0.of_nil);replace o0:=o0.keep (u0.of_nil);refine B0a ⟨Z,?_⟩;refine u2a ⟨j0.tail.tail,a0⟩ Z Z Z ?_;have Sb:=j0;have s0:∀(k:Nat) (h:k<([X1a s,g1a s]:List (List Int)).length),∃A n c,K0.cell? ⟨n0,0+k*1,none⟩=some (.slice A n c)∧RdI M K0 (.slice A n c) ([X1a s,g1a s]:List (List Int))[k]:=by
     intro k hk;rcases(show k=0∨k=1 by simp at hk;omega) with rfl|rfl
     ·exact⟨f1,j1,g1,by exact j0.cell 0 Z Z,g0⟩
     ·exact⟨X0,d1,Z0,by exact j0.cell 0 Z Z,o0⟩
    refine o0a j0 M9a Z Z (V5a M _ n0 [X1a s,g1a s] (by simp;omega) (by simp) s0) ?_;rintro X1 Z1 ⟨G,v0,p0,P0⟩ N0 O0;have e0:=N0.pushO Sb P0;have d0:=a0.trans O0.of_nil;obtain⟨z0,D0,B0,rfl⟩:=p0.form;rw[show([X1a s,g1a s]:List (List Int)).flatten=X1a s++g1a s by simp] at p0;refine B0a ⟨Z,?_⟩;refine u2a ⟨e0.tail.tail.tail,d0⟩ Z Z Z ?_;refine U0a (hy:=Z) (kk:=2) e0 y3b Z Z Z (Nat.le_of_ble_eq_true Z) ?_;intro Q0 b0 q0;dsimp only[List.set] at b0;have r0:=d0.freshL q0 (fun g hg=>.inl (by rw[List.mem_singleton.1 hg];exact Nat.le_trans i0.size G6));refine B0a ⟨Z,?_⟩;refine e3a ⟨b0.tail.tail.tail,r0⟩ ?_;refine fP0 Z U ⟨Z,(g6),(n0),(G),(v0),(z0),(D0),(B0),(_),(p0),(b0.perm (by exact(List.Perm.trans ((List.Perm.swap _ _ _).cons _) (.swap _ _ _)))),Z⟩
   refine u2a ⟨H0,V0⟩ Z Z Z ?_;refine h0a H0 z2c Z Z ?_;intro g6 w6 S6 X6 G6;have f0:=V0.trans X6;refine B0a ⟨Z,?_⟩;refine u2a ⟨S6.tail,f0⟩ Z Z Z ?_;refine o0a S6 P2c Z Z (H8a (M:=M) (G7b s M _ _ (z1a.keep (S6.keep0 M) _ _ hR) (hK.keep (S6.keep0 M)) (fun g hg=>Nat.lt_of_lt_of_le (hM g hg) S6.size)) (fun g hg=>Nat.lt_of_lt_of_le (hM g hg) S6.size) (fun c hc=>by have:=V1 c hc;unfold i64;omega)) ?_;rintro R4 V4 g0 G0 i2;have i0:=f0.trans i2;obtain⟨f1,j1,g1,rfl⟩:=g0.form;refine B0a ⟨Z,?_⟩;refine u2a ⟨G0.tail,i0⟩ Z Z Z ?_;refine o0a G0 d8b Z Z (H8a (M:=M) (u7a s M _ _ (z1a.keep (G0.keep0 M) _ _ hR)) (fun g hg=>Nat.lt_of_lt_of_le (hM g hg) G0.size) (fun c hc=>by have:=F1 c hc;unfold i64;omega)) ?_;rintro A3 D3 o0 L0 U0;have c0:=i0.trans U0;replace g0:=g0.keep (U0.of_nil);obtain⟨X0,d1,Z0,rfl⟩:=o0.form;refine B0a ⟨Z,?_⟩;refine u2a ⟨L0.tail,c0⟩ Z Z Z ?_;refine C0a L0 B9a (vs:=[.slice _ _ _,.slice _ _ _]) (cs:=[_,_]) Z Z Z Z Z Z ?_;intro n0 K0 j0 u0 b2;have a0:=c0.trans u0;replace g0:=g0.keep (u0.of_nil);replace o0:=o0.keep (u0.of_nil);refine B0a ⟨Z,?_⟩;refine u2a ⟨j0.tail.tail,a0⟩ Z Z Z ?_;have Sb:=j0;have s0:∀(k:Nat) (h:k<([X1a s,g1a s]:List (List Int)).length),∃A n c,K0.cell? ⟨n0,0+k*1,none⟩=some (.slice A n c)∧RdI M K0 (.slice A n c) ([X1a s,g1a s]:List (List Int))[k]:=by
    intro k hk;rcases(show k=0∨k=1 by simp at hk;omega) with rfl|rfl
    ·exact⟨f1,j1,g1,by exact j0.cell 0 Z Z,g0⟩
    ·exact⟨X0,d1,Z0,by exact j0.cell 0 Z Z,o0⟩
   refine o0a j0 M9a Z Z (V5a M _ n0 [X1a s,g1a s] (by simp;omega) (by simp) s0) ?_;rintro X1 Z1 ⟨G,v0,p0,P0⟩ N0 O0;have e0:=N0.pushO Sb P0;have d0:=a0.trans O0.of_nil;obtain⟨z0,D0,B0,rfl⟩:=p0.form;rw[show([X1a s,g1a s]:List (List Int)).flatten=X1a s++g1a s by simp] at p0;refine B0a ⟨Z,?_⟩;refine u2a ⟨e0.tail.tail.tail,d0⟩ Z Z Z ?_;refine U0a (hy:=Z) (kk:=2) e0 y3b Z Z Z (Nat.le_of_ble_eq_true Z) ?_;intro Q0 b0 q0;dsimp only[List.set] at b0;have r0:=d0.freshL q0 (fun g hg=>.inl (by rw[List.mem_singleton.1 hg];exact Nat.le_trans V0.size G6));refine B0a ⟨Z,?_⟩;refine e3a ⟨b0.tail.tail.tail,r0⟩ ?_;refine fP0 Z U ⟨Z,(g6),(n0),(G),(v0),(z0),(D0),(B0),(_),(p0),(b0.perm (by exact(List.Perm.trans ((List.Perm.swap _ _ _).cons _) (.swap _ _ _)))),Z⟩
  rintro D ε w ⟨rfl,g6,n0,G,v0,z0,D0,B0,f2,p0,S,eZ⟩;refine wK eZ (wO S.k [.o 0] Z ⟨Z,U⟩ ?_);refine a2a P0c Z Z (q3b _ G _ v0 _ _ p0 (fun g hg=>by subst hg;exact S.blk 1 Z) (by simp;omega)) ?_;rintro p5 t5 ⟨m2,F3,z2,Q2⟩;have N1:=S.changedO 1 Z F3 z2;dsimp only[List.set] at N1;refine lO N1.k [.o 0] Z ⟨Z,U⟩ ?_;have D1:(o3a (X1a s++g1a s)).length≤1000000:=by simp[o3a];omega
  refine a2a h0c Z Z (y0b _ G _ m2 _ _ Q2 (fun g hg=>by subst hg;exact N1.blk 1 Z) D1) ?_;rintro q5 u5 ⟨y1,H3,A2,b1⟩;have h3:=N1.changedO 1 Z H3 A2;dsimp only[List.set] at h3;obtain⟨E0,y0,F0,rfl⟩:=b1.form;rw[←Q6b] at b1;have C1:b4a G 1 (w2a s).length y1 (.slice E0 y0 F0) ((w2a s).map (Value.int .i64)):=b1;refine U0a (kk:=0) h3 y3b Z Z Z (by exact Nat.le_of_ble_eq_true Z) ?_;intro M1 t0 U3;refine lOn 9 t0.k [] Z U (G0a Z ?_);refine lCn 4 t0.k [] Z U ?_;obtain⟨a2,z3⟩:∃x:World,x=M1:=⟨_,Z⟩;have KC:y0a [g18,g4] a2 M1:=z3▸y0a.refl _ _;have H2:RdI [g18,g4] a2 (.slice E0 y0 F0) (w2a s):=by
   rw[z3];refine b4a.rdI3 C1 t0 (k:=1) Z (fun g hg hh=>?_) p4 (by omega);subst hg;simp only[List.mem_cons,List.not_mem_nil,or_false] at hh;rcases hh with hh|hh
   ·exact t0.ne 1 4 Z Z (by omega) hh
   ·exact t0.ne 1 5 Z Z (by omega) hh
  have v4:=H2.len.1;refine wC t0.k [.o 0] Z ⟨Z,U⟩ (wL (fun μk D ε w=>D=[]∧∃k:Nat,∃ex:Int,∃G8:Option Nat,∃n2:List Value,∃v8:Value,(k+μk=((w2a s).length))∧(ex=W1b ((x4c p s).take k))∧(y1a u7b 1 [] w0 G8 n2 v8 (((w2a s).take k).map (V6c p)))∧(∀g∈G8.toList,a2.heap.size≤g)∧(y0a [g18,g4] a2 w)∧St [] w0 w [(some g6,48,[.slice E0 y0 F0]),(G,3,y1),(some n0,48,f2),(some g5,192,[.slice Ac nc cc,.slice Am nm cm,.slice Al nl cl,.slice At nt ct,.slice (some ⟨g18,0,none⟩) nc nc]),(some g18,3,List.replicate nc (.int .i64 0)),(some g4,4,[.bool false]),(some g3,61,[.int .i64 s.kind,.int .i64 s.frm,.int .i64 s.to,.int .i64 s.guard.op,.int .i64 s.guard.w,.int .i64 s.guard.n,.slice Ag ng cg,.slice As ns W0,.bool s.release,.int .i64 s.target,.int .i64 s.module_]),(some g2,27,[.slice Ac nc cc,.slice Am nm cm,.slice Al nl cl,.slice At nt ct]),(G8,3,n2)]∧Sl ε [(2,.pointer (some ⟨g2,0,none⟩)),(3,.pointer (some ⟨g3,0,none⟩)),(4,.pointer (some ⟨g4,0,none⟩)),(5,.pointer (some ⟨g5,0,none⟩)),(6,.pointer (some ⟨g6,0,none⟩)),(7,.int .i64 ex),(8,v8),(36,.slice E0 y0 F0),(37,.int .i64 y0),(38,.int .i64 k)]) (μ:=((w2a s).length)) ⟨Z,0,0,none,[],.slice none 0 0,by omega,Z,y1a.nil,by simp,KC,t0,Z⟩ ?_);rintro μk D ε w ⟨rfl,k,ex,G8,n2,v8,hk,s3,I0,t3,KC,S,eZ⟩;refine wK eZ (wB0 Z U (fun d4=>?_) fun d4=>?_)
  ·obtain⟨c,W3,M4,_,d3,q2,_,_,B2,R2⟩:=RdS.get (H2.keep KC) (k) (by omega);obtain⟨rfl,_⟩:=id R2;have r3:=a1 c (e0a d3);obtain⟨x1,Y3,N4,_,J0,r2,_,_,C2,T2⟩:=RdS.get (hC) (c.toNat) (by omega);obtain⟨rfl,_⟩:=U2a.open_ T2;have H4:=T1 x1 (e0a J0);have E1:=L2d r3.1 J0;have I4:(x4c p s)[k]?=some x1.w:=by unfold x4c;rw[List.getElem?_map,d3,←E1];rfl
   have A4:=y0c I4;have B4:=p4b a3 k;have C4:=p4b a3 (k+1);have D4:=(q7b a3).2;have E4:(x4c p s).length=(w2a s).length:=by simp[x4c]
   refine lOn 29 ((S.k.a C2).b B2) [.x W3 M4,.f 0 0,.o 7,.x Y3 N4,.f 1 1] Z ⟨by omega,Z,⟨r2,by omega⟩,Z,Z,⟨q2,by omega⟩,U⟩ (N0a Z ?_);obtain⟨_,Z3,O4,_,b3,s2,_,_,D2,U2⟩:=RdS.get (hC) (c.toNat) (by omega);obtain rfl:=Option.some.inj (J0.symm.trans b3);obtain⟨rfl,_⟩:=U2a.open_ U2;refine lO (S.k.a D2) [.o 7,.x Z3 O4,.f 0 1] Z ⟨Z,⟨s2,by omega⟩,Z,U⟩ (V5c (n:=x1.w.toNat) Z (congrArg (Value.int .i64) (show x1.w=((x1.w.toNat:Nat):Int) by omega)) Z ?_);refine C0a S T0a (vs:=[.int .i64 _]) (cs:=[_]) Z Z Z Z Z Z ?_;intro c5 v5 i3 R3 a5;replace KC:=KC.trans (R3.of_nil);have h5:=Q7b T1 r3;refine P1a p8a (k:=9) (M2:=[]) (e1:=V6c p c) i3 T0a Z I0 Z Z (i3.cells 0 Z) ⟨by unfold V6c;rw[E1],by unfold i64;omega⟩ (by rw[List.length_map,List.length_take];omega) Z ?_;intro r5 b5 c4 w5 M3 c1 T3 I3;have V3:=KC.size;replace KC:=KC.freshL T3 (fun g hg=>.inl (t3 g hg));refine G0a Z ?_;refine lP0 Z ⟨by omega,U⟩ ⟨μk-1,by omega,Z,(k+1),(_),(_),(_),(_),(by omega),?_,?_,?_,(KC),M3.tail,Z⟩
   ·rw[A4,s3]
   ·rw[t0a d3,List.map_append];exact c1
   ·intro g hg;rcases I3 g hg with h|h;exact t3 g h;exact Nat.le_trans V3 h
  have r4:ex=W1b (x4c p s):=by rw[s3,List.take_of_length_le (by unfold x4c;rw[List.length_map];omega)]
  refine lB0 Z U (fun e4=>?_) fun e4=>?_
  ·refine lO0 Z U (U0a (kk:=5) S t9b Z Z Z (by exact Nat.le_of_ble_eq_true Z) ?_);intro B3 R0 s1;replace KC:=KC.fresh2 s1 (by first  | exact .inr (by simp));exact lR0 Z U (x6a Z S2a Z [] Z List.nodup_nil NC.nil (R0.cell 5 Z Z) (by simp) (fun w' hb=>⟨⟨true,Z,fun _=>⟨Q1,.inl (by omega)⟩,fun _=>rfl⟩,(R0.below.trans hb).nil⟩))
  refine lCn 7 S.k [] Z U ?_;obtain⟨A8,n8,c8,rfl⟩:∃A n c,v8=.slice A n c:=by obtain⟨A,c,h⟩:=y1a.form I0;exact⟨_,_,_,h⟩
  have U1:∀x∈d9a p s,1≤x∧x≤256:=fun x hx=>by
   obtain⟨c,h,rfl⟩:=List.mem_map.1 hx;exact Q7b T1 (a1 c h)
  have u4:(d9a p s).length=(w2a s).length:=by simp[d9a]
  have x2:RdI [g18,g4] w (.slice A8 n8 c8) (d9a p s):=by
   have y3:=I0.toV;rw[List.take_of_length_le (by omega)] at y3;refine b4a.rdI3 y3 S (k:=8) Z (fun g hg hh=>?_) (fun x hx=>by have:=U1 x hx;unfold i64;omega) (by show(d9a p s).length≤_;omega);subst hg;simp only[List.mem_cons,List.not_mem_nil,or_false] at hh;rcases hh with hh|hh
   ·exact S.ne 4 8 Z Z (by omega) hh.symm
   ·exact S.ne 5 8 Z Z (by omega) hh.symm
  have f3:=S;refine wOn 1 S.k [] Z U (N0a Z ?_);refine o0a S X8c Z Z (I4c A8 n8 c8 _) ?_;rintro s5 K1 ⟨gL,rfl,_,q3⟩ O1 m3;replace KC:=KC.trans (m3.of_nil);refine lC0 Z U (wJ ?_);refine o6b (vs:=fun y=>#[y,_]) g9c Z (fun _=>rfl) (fun rc wi W1 P2 F4 K2 z4 i4 j4 q4 hl hB j5=>?_);obtain⟨l,v3⟩:∃l,l=K1.heap.size+1:=⟨_,Z⟩;obtain⟨mk,O2⟩:∃mk,mk=K1.heap.size:=⟨_,Z⟩;have o3:=c7b (NC.nil (w:=K1)) q4 hl hB;rw[←v3,←O2] at o3;rw[←v3] at hl ⊢;have N3:=(O1.later hB).sublist (.cons_cons _ (.cons _ (.cons _ (.cons_cons _ (.cons_cons _ (.cons_cons _ (.cons_cons _ (.cons _ (.cons _ .slnil)))))))));have Si:St [] w0 wi [(some g6,48,[.slice E0 y0 F0]),(some g5,192,[.slice Ac nc cc,.slice Am nm cm,.slice Al nl cl,.slice At nt ct,.slice (some ⟨g18,0,none⟩) nc nc]),(some g18,3,(List.replicate p.cells.length 0).map (Value.int .i64)),(some g4,4,[.bool false]),(some g3,61,[.int .i64 s.kind,.int .i64 s.frm,.int .i64 s.to,.int .i64 s.guard.op,.int .i64 s.guard.w,.int .i64 s.guard.n,.slice Ag ng cg,.slice As ns W0,.bool s.release,.int .i64 s.target,.int .i64 s.module_])]:=by
   rw[List.map_replicate,←x4];exact N3
  have Ki:y0a [] K1 wi:=y0a.of_below hB;have Zw:=O1.size;have l6:=Si.lt 0 Z;have l5:=Si.lt 1 Z;have J4:=Si.lt 2 Z;have l4:=Si.lt 3 Z;have m5:=Si.lt 4 Z;have n5:=f3.lt 4 Z;have m4:=f3.lt 5 Z;have I1:w0.heap.size≤g18:=by simpa using O1.new 4 Z
  have o5:w0.heap.size≤g4:=by simpa using O1.new 5 Z
  have K4:=q3.lt;simp only at K4;have v2:∀(sg:List Int) (b:Bool),∀x∈([(some g6,48,[.slice E0 y0 F0]),(some g5,192,[.slice Ac nc cc,.slice Am nm cm,.slice Al nl cl,.slice At nt ct,.slice (some ⟨g18,0,none⟩) nc nc]),(some g18,3,sg.map (Value.int .i64)),(some g4,4,[.bool b]),(some g3,61,[.int .i64 s.kind,.int .i64 s.frm,.int .i64 s.to,.int .i64 s.guard.op,.int .i64 s.guard.w,.int .i64 s.guard.n,.slice Ag ng cg,.slice As ns W0,.bool s.release,.int .i64 s.target,.int .i64 s.module_])]:List Ent),∀g,x.1=some g→g<wi.heap.size:=by
   intro sg b x hx g hg;simp only[List.mem_cons,List.not_mem_nil,or_false] at hx;rcases hx with rfl|rfl|rfl|rfl|rfl<;>(simp only[Option.some.injEq] at hg;subst hg;assumption)
  have n3:∀g∈[l,g18,g4],g∈[g18,g4]∨K1.heap.size≤g:=fun g hg=>by
   simp only[List.mem_cons,List.not_mem_nil,or_false] at hg ⊢;rcases hg with rfl|rfl|rfl
   ·right;omega
   ·exact .inl (.inl Z)
   ·exact .inl (.inr Z)
  have x3:∀g∈[l,g18,g4],g<wi.heap.size:=fun g hg=>by
   simp only[List.mem_cons,List.not_mem_nil,or_false] at hg;rcases hg with rfl|rfl|rfl
   ·omega
   ·exact J4
   ·exact l4
  have C0:∀x∈[(mk,Obj.deferred (some []))],x.1≠l:=fun x hx=>by
   rw[List.mem_singleton] at hx;subst hx;show mk≠l;omega
  have I2:RdI [l,g18,g4] wi (.slice E0 y0 F0) (w2a s):=((H2.keep KC).more (by omega) n3).keep Ki.of_nil;have h4:RdI [l,g18,g4] wi (.slice A8 n8 c8) (d9a p s):=((x2.keep m3.of_nil).more (by omega) n3).keep Ki.of_nil;have t4:gL∉[l,g18,g4]:=fun hh=>by
   simp only[List.mem_cons,List.not_mem_nil,or_false] at hh;rcases hh with h|h|h<;>omega
  have k4:wi.cell? ⟨gL,0,none⟩=some (.slice A8 n8 c8):=Ki.cell (a:=⟨gL,0,none⟩) (by simp) (q3.cell Z);refine O0a.mono (X9b [l,g18,g4] wi l gL _ (d9a p s) (fun w=>NC w [(l,.loop rc),(mk,.deferred (some []))]∧y0a [l,g18,g4] wi w∧∃sg:List Int,ZSt p s sg∧St [] w0 w [(some g6,48,[.slice E0 y0 F0]),(some g5,192,[.slice Ac nc cc,.slice Am nm cm,.slice Al nl cl,.slice At nt ct,.slice (some ⟨g18,0,none⟩) nc nc]),(some g18,3,sg.map (Value.int .i64)),(some g4,4,[.bool false]),(some g3,61,[.int .i64 s.kind,.int .i64 s.frm,.int .i64 s.to,.int .i64 s.guard.op,.int .i64 s.guard.w,.int .i64 s.guard.n,.slice Ag ng cg,.slice As ns W0,.bool s.release,.int .i64 s.target,.int .i64 s.module_])]) (H8c p s) (fun _ w=>NC w [(l,.loop { rc with state:=.done,pending:=some .ret }),(mk,.deferred (some []))]∧∃sg:List Int,St [] w0 w [(some g6,48,[.slice E0 y0 F0]),(some g5,192,[.slice Ac nc cc,.slice Am nm cm,.slice Al nl cl,.slice At nt ct,.slice (some ⟨g18,0,none⟩) nc nc]),(some g18,3,sg.map (Value.int .i64)),(some g4,4,[.bool true]),(some g3,61,[.int .i64 s.kind,.int .i64 s.frm,.int .i64 s.to,.int .i64 s.guard.op,.int .i64 s.guard.w,.int .i64 s.guard.n,.slice Ag ng cg,.slice As ns W0,.bool s.release,.int .i64 s.target,.int .i64 s.module_])]) t4 k4 h4 x3 U1 (by omega) ⟨o3,y0a.refl _ _,_,ZSt.zero p s,Si⟩ (fun w w' hJ R1=>?_) (fun n gb wr hn e5 hJ SY=>?_)) ?_
  ·obtain⟨x0,K3,sg,hz,S3⟩:=hJ;exact⟨x0.laterN R1 (fun x hx=>by simp only[List.mem_cons,List.not_mem_nil,or_false] at hx;rcases hx with rfl|rfl<;>(simp only;omega)),⟨Nat.le_trans K3.size R1.size,fun i hi hm=>(R1.block i hi).trans (K3.same i hi hm)⟩,sg,hz,S3.laterN R1 (by omega) (v2 sg false)⟩
  ·obtain⟨x0,K3,sg,hz,S3⟩:=hJ;have y2:(dgL (d9a p s) n).length=(w2a s).length:=by rw[u5a,u4]
   have p3:∀x∈dgL (d9a p s) n,i64 x:=fun x hx=>by
    obtain⟨j,hj,rfl⟩:=List.getElem_of_mem hx;have u3:j<(d9a p s).length:=by rw[u5a] at hj;exact hj
    have h1:=G0b (d9a p s) n j (d9a p s)[j] _ (fun x hx=>(U1 x hx).1) (List.getElem?_eq_getElem u3) (List.getElem?_eq_getElem hj);have h2:=U1 _ (List.getElem_mem u3);unfold i64;omega
   have hV:RdI [l,g18,g4] wr (.slice (some ⟨gb,0,none⟩) (d9a p s).length (d9a p s).length) (dgL (d9a p s) n):=s4a (hM:=(fun hh=>by have:=x3 gb hh;omega)) (k:=0) SY Z (by rw[u5a]) p3;have J2:=I2.keep K3;refine W8c (x0 (l,.loop rc) (by simp)).1 W1 F4 K2 z4 i4 j4 Z ?_;refine wI ?_;refine wF0 Z U ?_;refine⟨(x0 (l,.loop rc) (by simp)).1,?_⟩;have Sb:=S3.putObj (.loop { rc with state:=.busy }) x0 (List.mem_cons_self) (.inl (by omega));have m0:=x0.put (o':=.loop { rc with state:=.busy }) C0 (by simp);have Kw:y0a [l,g18,g4] wr (wr.putObj l (.loop { rc with state:=.busy })):=(q5a wr l (.loop { rc with state:=.busy })).mono (by simp);generalize wr.putObj l (.loop { rc with state:=.busy })=wb at Sb m0 Kw ⊢;refine wI ?_;refine wO0 Z U (L0a L5a Z (by exact Sb.cell 0 Z Z) Z ?_);refine lC0 Z U (wL (fun μi D ε w=>D=[]∧∃i:Nat,∃sk:List Int,(i+μi=((w2a s).length))∧(sk=e1b ((w2a s).take i) ((dgL (d9a p s) n).take i) sg)∧(y0a [l,g18,g4] wr w)∧(NC w [(l,.loop { rc with state:=.busy }),(mk,.deferred (some []))])∧St [] w0 w [(some g6,48,[.slice E0 y0 F0]),(some g5,192,[.slice Ac nc cc,.slice Am nm cm,.slice Al nl cl,.slice At nt ct,.slice (some ⟨g18,0,none⟩) nc nc]),(some g18,3,sk.map (Value.int .i64)),(some g4,4,[.bool false]),(some g3,61,[.int .i64 s.kind,.int .i64 s.frm,.int .i64 s.to,.int .i64 s.guard.op,.int .i64 s.guard.w,.int .i64 s.guard.n,.slice Ag ng cg,.slice As ns W0,.bool s.release,.int .i64 s.target,.int .i64 s.module_])]∧Sl ε [(3,.pointer (some ⟨g3,0,none⟩)),(4,.pointer (some ⟨g4,0,none⟩)),(5,.pointer (some ⟨g5,0,none⟩)),(11,.slice (some ⟨gb,0,none⟩) (d9a p s).length (d9a p s).length),(66,.slice E0 y0 F0),(67,.int .i64 y0),(68,.int .i64 i)]) (μ:=((w2a s).length)) ⟨Z,0,sg,by omega,(by simp[e1b]),Kw,m0,Sb,Z⟩ ?_);rintro μi D ε w ⟨rfl,i,sk,hi,Y2,Kw,m0,S,eZ⟩;refine wK eZ (wB0 Z U (fun f4=>?_) fun f4=>?_)
   ·obtain⟨c2,a4,P4,_,G1,t2,_,_,E2,V2⟩:=RdS.get (J2.keep Kw) (i) (by omega);obtain⟨rfl,_⟩:=id V2;have n4:=a1 c2 (e0a G1);refine lC (S.k.b E2) [.x a4 P4,.f 0 0] Z ⟨Z,⟨t2,by omega⟩,U⟩ (H0a c0a [0,1,2,3,4,5,6,7] [] [8] Z (Cl _ _ _ _) (Cl.start S) ?_);obtain⟨d2,b4,Q4,_,e3,u2,_,_,F2,W2⟩:=RdS.get (hV.keep Kw) (i) (by omega);obtain⟨rfl,_⟩:=id W2;refine qO (S.q.b F2) [.o 1,.x b4 Q4,.f 0 0] Z ⟨Z,⟨u2,by omega⟩,Z,U⟩ (q0a T0a.slT Z (by rfl) Z Z ?_);refine qD Z U ?_;rintro Z4 ⟨r1,v1⟩;replace Kw:=Kw.trans (v1.of_nil);replace m0:=m0.keep v1;have f5:sk.length=nc:=by rw[Y2,w3b,hz.1];omega
    refine U0a (hy:=Z) (kk:=2) (v:=.int .i64 d2) r1 W9b Z Z Z (by rw[List.length_map];omega) ?_;intro U4 e2 j3;have L3:St [] w0 U4 [(some g6,48,[.slice E0 y0 F0]),(some g5,192,[.slice Ac nc cc,.slice Am nm cm,.slice Al nl cl,.slice At nt ct,.slice (some ⟨g18,0,none⟩) nc nc]),(some g18,3,(sk.set c2.toNat d2).map (Value.int .i64)),(some g4,4,[.bool false]),(some g3,61,[.int .i64 s.kind,.int .i64 s.frm,.int .i64 s.to,.int .i64 s.guard.op,.int .i64 s.guard.w,.int .i64 s.guard.n,.slice Ag ng cg,.slice As ns W0,.bool s.release,.int .i64 s.target,.int .i64 s.module_])]:=by
     simpa[List.map_set] using e2
    replace Kw:=Kw.trans (j3.mono (by simp));replace m0:=m0.keepS j3 (r1.blk 2 Z);refine lP0 Z ⟨by omega,U⟩ ⟨μi-1,by omega,Z,(i+1),(_),(by omega),?_,(Kw),(m0),L3,Z⟩;rw[Y2];exact(m4b _ _ _ _ _ _ G1 e3).symm
   refine lCn 7 S.k [] Z U ?_;have Z2:sk=stC p s n:=by
    rw[Y2,List.take_of_length_le (by omega),List.take_of_length_le (by omega)];exact hz.2.2 _ y2
   have H1:ZSt p s (stC p s n):=by
    have h:=hz.lay (V:=dgL (d9a p s) n) (fun c hc=>(a1 c hc).1) y2 p3;rw[hz.2.2 _ y2] at h;exact h
   rw[Z2] at S;have B1:RdI M w (.slice (some ⟨g18,0,none⟩) nc nc) (stC p s n):=s4a (hM:=(Y3a S (k:=2) Z hM)) S (k:=2) Z (by rw[H1.1];omega) H1.2.1;refine wO S.k [.o 4,.o 1,.o 1] Z ⟨Z,Z,Z,U⟩ (W0a S d5b Z Z (S0b s.guard M _ _ _ _ (stC p s n) (stC p s n) (RdE.keep (S.keep0 M) _ _ hG) (hK.keep (S.keep0 M)) B1 B1) ?_);intro Y4 Y0 j2;replace Kw:=Kw.trans (j2.of_nil);replace m0:=m0.keep j2;replace B1:=B1.keep (j2.of_nil);refine lB0 Z U (fun o2=>?_) fun o2=>?_
   ·refine lO Y0.k [.o 4,.w 1] Z ⟨⟨Z,Z⟩,Z,U⟩ (h2a Z Z Z ?_);refine lO0 Z U (f0a Y0 v1c Z Z (R8a M _ _ _ s.set (chA p (stC p s n)) (fun a=>0≤a.cell∧a.cell<p.cells.length) (RdS.keepW A1 (Y0.keep0 M) (J0a.keep (Y0.keep0 M))) ⟨_,_,_,Z,x9c,fun w' hk a ca hok hr=>g4b p a (stC p s n) M w' [.slice Ac nc cc,.slice Am nm cm,.slice Al nl cl,.slice At nt ct] ca (some ⟨g18,0,none⟩) nc nc (hP.keep ((Y0.keep0 M).trans hk)) hr hok (hK.keep ((Y0.keep0 M).trans hk)) (B1.keep hk) H1.1⟩ hok) (fun p2 E3 P1 u1=>?_) (fun p2 E3 P1 u1=>?_))
    ·replace Kw:=Kw.trans (u1.of_nil);replace m0:=m0.keep u1;refine lO0 Z U (U0a (kk:=3) P1 t9b Z Z Z (by exact Nat.le_of_ble_eq_true Z) ?_);intro J1 o1 T0;replace Kw:=Kw.fresh2 T0 (by first  | exact .inr (by simp));replace m0:=by exact m0.keepS T0 (P1.blk 3 Z)
     refine lR0 Z U ?_;refine⟨{ rc with state:=.busy },(m0 (l,_) (by simp)).1,?_⟩;have z1:=m0.put (o':=.loop { rc with state:=.done,pending:=some .ret }) C0 (by simp);have Sn:=o1.putObj (.loop { rc with state:=.done,pending:=some .ret }) m0 (List.mem_cons_self) (.inl (by omega));have Kn:=Kw.trans ((q5a J1 l (.loop { rc with state:=.done,pending:=some .ret })).mono (by simp));exact⟨d2c S3.below Sn.below Kn,.inr ⟨Z,by unfold H8c;rw[decide_eq_true o2,p2];rfl,z1,_,Sn⟩⟩
    replace Kw:=Kw.trans (u1.of_nil);replace m0:=m0.keep u1;refine lF0 Z U ?_;refine⟨{ rc with state:=.busy },(m0 (l,_) (by simp)).1,?_⟩;have z1:=m0.put (o':=.loop rc) C0 (by simp);have Sn:=P1.putObj (.loop rc) m0 (List.mem_cons_self) (.inl (by omega));have Kn:=Kw.trans ((q5a E3 l (.loop rc)).mono (by simp));rw[V1c W1 P2];exact⟨d2c S3.below Sn.below Kn,.inl ⟨Z,by unfold H8c;rw[p2,Bool.and_false],z1,K3.trans Kn,_,H1,Sn⟩⟩
   refine lF0 Z U ?_;refine⟨{ rc with state:=.busy },(m0 (l,_) (by simp)).1,?_⟩;have z1:=m0.put (o':=.loop rc) C0 (by simp);have Sn:=Y0.putObj (.loop rc) m0 (List.mem_cons_self) (.inl (by omega));have Kn:=Kw.trans ((q5a Y4 l (.loop rc)).mono (by simp));rw[V1c W1 P2];exact⟨d2c S3.below Sn.below Kn,.inl ⟨Z,by unfold H8c;(rw[decide_eq_false o2];rfl),z1,K3.trans Kn,_,H1,Sn⟩⟩
  rintro v w3 ⟨d5,(⟨⟨x0,K3,sg,hz,S3⟩,y4⟩|⟨n,hn,N2,x0,sg,S3⟩)⟩
  rotate_left
  ·refine⟨{ rc with state:=.done,pending:=some .ret },(x0 (l,_) List.mem_cons_self).1,by simp,.inr ⟨Z,?_⟩⟩;have Sa:=S3.putObj (.loop { rc with state:=.exhausted,pending:=some .ret }) x0 (List.mem_cons_self) (.inl (by omega));have i1:=(x0.put (o':=.loop { rc with state:=.exhausted,pending:=some .ret }) C0 (by simp)).tail;exact x6a Z S2a Z [mk] (by rw[O2];rfl) (by simp) i1 (Sa.cell 3 Z Z) (by rw[List.mem_singleton];omega) (fun w' hb=>⟨⟨true,Z,⟨fun _=>⟨Q1,.inr ⟨n,hn,N2⟩⟩,fun _=>rfl⟩⟩,(E0a.step Sa.below hb (by simp;omega)).nil⟩)
  refine⟨rc,(x0 (l,.loop rc) (by simp)).1,by rw[W1];simp,.inl ⟨P2,?_⟩⟩;have Sa:=S3.putObj (.loop { rc with state:=.exhausted }) x0 (List.mem_cons_self) (.inl (by omega));have i1:=(x0.put (o':=.loop { rc with state:=.exhausted }) C0 (by simp)).tail;generalize w3.putObj l (.loop { rc with state:=.exhausted })=wa at Sa i1 ⊢;refine fO0 Z U (U0a (kk:=3) Sa t9b Z Z Z (by exact Nat.le_of_ble_eq_true Z) ?_);intro C3 S0 t1;replace i1:=by exact i1.keepS t1 (Sa.blk 3 Z)
  refine lR0 Z U ?_;exact x6a Z S2a Z [mk] (by rw[O2];rfl) (by simp) i1 (S0.cell 3 Z Z) (by rw[List.mem_singleton];omega) (fun w' hb=>⟨⟨false,Z,(fun h=>by cases h),(fun h=>by rcases h.2 with h|⟨n,hn,hh⟩;omega;rw[y4 n hn] at hh;cases hh)⟩,(E0a.step S0.below hb (by simp;omega)).nil⟩)
 refine lO0 Z U (U0a (kk:=2) m1 t9b Z Z Z (by exact Nat.le_of_ble_eq_true Z) ?_);intro W4 p1 Q3;refine lR0 Z U ?_;exact x6a Z S2a Z [] Z List.nodup_nil NC.nil (p1.cell 2 Z Z) (by simp) (fun w' hb=>⟨⟨false,Z,(fun h=>by cases h),(fun h=>by have:=h.1;rw[Q1] at this;cases this)⟩,(p1.below.trans hb).nil⟩)
section
variable {d:Nat} {t:TypeId} {p:String} {af:Array Edge} {x y z:Operand} {α:Type} {enc:α→Value}
theorem f0c{k el:TypeId}{ty b:Nat}{l:List α}{a:α}{q:Lit}(Kd:Keyed P k)(ht:P.underlying ty=some (.map k el))(hz:∀w,(zeroValue el).run P w=.ok (.bool false) w)(b0:∀a b,enc a=enc b→a=b)(c0:∀a∈l,∃q,keyOf P k (enc a)=some q)(d0:keyOf P k (enc a)=some q)(h:x7a enc w b l)
 (hx:ev e x=.map (some b)) (hy:ev e y=enc a) (hd:Nat.ble (d+1) N=true) (h1:a∈l→WL P r N ops rest K D (upd e d (.bool true)) w) (h2:a∉l→WL P r N ops rest K D (upd e d (.bool false)) w) :
 WL P r N ops (⟨some d,.lookup ty x y false,t,p,af,none⟩::rest) K D e w:=by
 obtain⟨es,a0,q1,q2,_⟩:=h;refine I1c (l:=l.map fun a=>(enc a,Value.bool true)) Kd ht hz ⟨es,a0,q1,q2,fun x hx=>?_⟩ hx hy d0 hd (fun v hv=>?_) (fun hn=>h2 fun ha=>hn _ (List.mem_map.2 ⟨a,ha,Z⟩) Z)
 ·obtain⟨a,ha,rfl⟩:=List.mem_map.1 hx;exact c0 a ha
 ·obtain⟨_,ha,he⟩:=List.mem_map.1 hv;simp only[Prod.mk.injEq] at he;obtain⟨he,rfl⟩:=he;exact h1 (b0 _ _ he▸ha)
end
open Classical in
noncomputable def chgB(p:j0a)(s:Z0a):Bool:=decide (Chg p s)
open Classical in
theorem A1d{p:j0a}{s:Z0a}(h:chgB p s=true):Chg p s:=of_decide_eq_true h
open Classical in
theorem Q0d{p:j0a}{s:Z0a}(h:chgB p s=false):¬Chg p s:=of_decide_eq_false h
open Classical in
theorem S9c{p:j0a}{s:Z0a}{b:Bool}(h:b=true↔Chg p s):b=chgB p s:=by
 unfold chgB;cases b
 ·exact(decide_eq_false (fun hc=>by cases h.2 hc)).symm
 ·exact(decide_eq_true (h.1 Z)).symm
theorem G4c{p:j0a}{t n:Int}{s:Z0a}(h:G4a p t n s){x:Int}(hx:x∈X1a s):0≤x∧x<p.cells.length:=by
 have h1:=n8a.1 hx;unfold o4a at h1;rw[List.take_of_length_le (Nat.le_refl _)] at h1;rcases List.mem_append.1 h1 with h1|h1
 ·exact K5a h.guard.1 x (List.mem_append_right _ h1)
 ·obtain⟨_,hl,h1⟩:=List.mem_flatten.1 h1;obtain⟨a,ha,rfl⟩:=List.mem_map.1 hl;exact K5a (h.set a ha).2.1 x (List.mem_append_right _ h1)
def t4d(p:j0a)(x:Int):Prop:=∃th∈p.threads,∃s∈th.steps,s.module_=x∧Chg p s
def L5c(p:j0a)(l:List Int):Prop:=l.Pairwise (·<·)∧∀x,x∈l↔(0≤x∧x<p.modules.length)∧¬t4d p x
theorem K1c(p:j0a)(M:List Nat)(w0:World)(cs:List Value)(hI:InP p M w0 cs):
 O0a prog 34 #[.agg cs.toArray] w0 fun v w'=>(∃l,L5c p l∧z3a 3 w0 w' v l)∧Bw w0 w':=by
 obtain⟨Ac,nc,cc,Am,nm,cm,Al,nl,cl,At,nt,ct,rfl,_,_,_,C1,_⟩:=hI.rd.open_;have S:=(St.refl w0).nilEnt 3;have hM:=hI.lt;have hp:=hI.ok;have n1:=hp.ncells;have n2:=hp.nthreads;have n3:=hp.nmodules;refine a0a func34 Z ntmps34 Z ?_;refine wO0 Z U (r0a S Z ?_);intro g1 w1 S1 X1 G1;refine lO S1.k [.w 0] Z ⟨⟨Z,Z⟩,U⟩ (W0a S1 r4b Z Z (i6a p M _ _ (hI.keep (S1.keep0 M))) ?_);intro V1 f1 O1;refine lO0 Z U (s3a (k:=3) f1 Z ?_);intro e0 W1 i1 P1 K1 E0;have S0:w0.heap.size≤e0:=by have:=f1.size;omega
 have Ms:=x7a.mk_ (enc:=Value.int .i64) E0;refine lC i1.k [.o 0] Z ⟨Z,U⟩ (wL (fun μk D ε w=>D=[]∧∃k:Nat,∃l:List Int,(k+μk=(p.threads.length))∧(x7a (Value.int .i64) w e0 l)∧(∀x,x∈l↔∃th∈p.threads.take k,∃s∈th.steps,s.module_=x∧Chg p s)∧(∀x∈l,i64 x)∧St [] w0 w [(some g1,27,[.slice Ac nc cc,.slice Am nm cm,.slice Al nl cl,.slice At nt ct]),(none,3,[])]∧Sl ε [(1,.pointer (some ⟨g1,0,none⟩)),(3,.map (some e0)),(15,.slice At nt ct),(16,.int .i64 nt),(17,.int .i64 k)]) (μ:=(p.threads.length)) ⟨Z,0,[],by omega,Ms,(by simp),(by simp),i1,Z⟩ ?_);rintro μk D ε w ⟨rfl,k,l,_,Ms,hl,hok,S,eZ⟩;refine wK eZ (wB0 Z U (fun z1=>?_) fun z1=>?_)
 ·obtain⟨th,v1,D1,_,j0,O0,_,W0,Q0,Z0⟩:=RdS.get (C1) (k) (by omega);obtain⟨B0,b1,J0,D0,d1,L0,o0,m0,q0,C0,c1,K0,rfl,_,_,_,r0,_⟩:=K0a.open_ Z0;have R1:=(hp.thread j0).nsteps;refine lO (S.k.a Q0) [.x v1 D1,.v 0] Z ⟨⟨Z,W0⟩,⟨O0,by omega⟩,U⟩ (h0a S g7a Z Z ?_);intro g5 w5 S5 X5 G5;replace Ms:=Ms.keep X5 (List.not_mem_nil);refine b0a (kk:=0) (vs:=[_,_,_,_,_,_,_]) S5 r7a Z Z Z Z Z Z Z ?_;intro H1 f0 H0;dsimp only[d0a,List.set] at f0;replace Ms:=Ms.keep H0 (fun hh=>by rw[List.mem_singleton] at hh;exact Ms.ne (S5.blk 0 Z) hh);refine lC f0.k [.o 0] Z ⟨Z,U⟩ (wL (fun μj D ε w=>D=[]∧∃j:Nat,∃l2:List Int,(j+μj=(th.steps.length))∧(x7a (Value.int .i64) w e0 l2)∧(∀x,x∈l2↔x∈l∨∃s∈th.steps.take j,s.module_=x∧Chg p s)∧(∀x∈l2,i64 x)∧St [] w0 w [(some g5,58,[.string th.name,.int .i64 th.points,.slice B0 b1 J0,.slice D0 d1 L0,.slice o0 m0 q0,.slice C0 c1 K0,.bool th.asleep]),(some g1,27,[.slice Ac nc cc,.slice Am nm cm,.slice Al nl cl,.slice At nt ct]),(none,3,[])]∧Sl ε [(1,.pointer (some ⟨g1,0,none⟩)),(3,.map (some e0)),(15,.slice At nt ct),(16,.int .i64 nt),(17,.int .i64 k),(22,.slice o0 m0 q0),(23,.int .i64 m0),(24,.int .i64 j)]) (μ:=(th.steps.length)) ⟨Z,0,l,by omega,Ms,(by simp),hok,f0,Z⟩ ?_);rintro μj D ε w ⟨rfl,j,l2,_,b0,y0,c0,S,eZ⟩;refine wK eZ (wB0 Z U (fun A1=>?_) fun A1=>?_)
  ·obtain⟨s,x1,E1,_,A0,P0,_,X0,R0,v0⟩:=RdS.get (r0) (j) (by omega);obtain⟨_,_,_,_,_,_,rfl,⟨_,_⟩,_⟩:=z1a.open_ v0;have z0:=(hp.thread j0).steps s (e0a A0);have T1:=C6b z0;have Y0:=z0.mod;have T0:i64 s.module_:=by unfold K1a at Y0;unfold i64;omega
   refine lO (S.k.a R0) [.x x1 E1,.v 0] Z ⟨⟨Z,X0⟩,⟨P0,by omega⟩,U⟩ (h0a S J3b Z Z ?_);intro g7 w7 S7 X7 G7;replace b0:=b0.keep X7 (List.not_mem_nil);refine b0a (kk:=0) (vs:=[_,_,_,_,_,_,_,_,_,_,_]) S7 O3b Z Z Z Z Z Z Z ?_;intro I1 a0 I0;dsimp only[d0a,List.set] at a0;replace b0:=b0.keep I0 (fun hh=>by rw[List.mem_singleton] at hh;exact b0.ne (S7.blk 0 Z) hh);refine lO a0.k [.o 0] Z ⟨Z,U⟩ ?_;have U0:=C5a T0;refine f0c (k:=3) (Go.Maps.int_keyed Tryz.underlying3) Tryz.underlying108 c3d u5b (fun a ha=>⟨_,C5a (c0 a ha)⟩) U0 b0 Z Z Z (fun s0=>?_) fun p1=>?_
   ·refine lP0 Z ⟨by omega,U⟩ ⟨μj-1,by omega,Z,(j+1),?_,(by omega),?_,?_,?_,a0.tail,Z⟩;exact l2
    ·exact b0
    ·intro x;rw[K2a A0 (fun s=>s.module_=x∧Chg p s),←or_assoc,←y0];exact⟨.inl,fun h=>h.elim id (fun h=>h.1▸s0)⟩
    ·exact c0
   refine lO a0.k [.w 2,.w 0] Z ⟨⟨Z,Z⟩,⟨Z,Z⟩,U⟩ (f0a a0 T1d Z Z ((G5b p s (fun c hc=>G4c z0 hc) (fun a ha=>(z0.set a ha).1) (by omega) M _ _ _ (hI.keep (a0.keep0 M)) (z1a.keep (a0.keep0 M) _ _ v0)).mono (fun v w' ⟨⟨b,hv,hb⟩,hB⟩=>⟨hv.trans (congrArg Value.bool (S9c hb)),hB⟩)) (fun N0 F1 x0 G0=>?_) (fun N0 F1 x0 G0=>?_))
   ·replace b0:=b0.keep G0 (List.not_mem_nil);refine lO x0.k [.o 0] Z ⟨Z,U⟩ (F3b (k:=3) x0 (Go.Maps.int_keyed Tryz.underlying3) Tryz.underlying108 u5b (fun a ha=>⟨_,C5a (c0 a ha)⟩) ⟨_,C5a T0⟩ b0 Z Z Z (.inl S0) ?_);intro q1 p0 m1 r1;refine lP0 Z ⟨by omega,U⟩ ⟨μj-1,by omega,Z,(j+1),?_,(by omega),?_,?_,?_,p0.tail,Z⟩;exact insL l2 s.module_
    ·exact r1
    ·intro x;rw[J4a,y0,K2a A0 (fun s=>s.module_=x∧Chg p s),or_assoc];exact⟨fun h=>h.imp id (fun h=>h.imp id (fun h=>⟨h.symm,A1d N0⟩)),fun h=>h.imp id (fun h=>h.imp id (fun h=>h.1.symm))⟩
    ·intro x hx;rcases J4a.1 hx with h|h;exact c0 x h;subst h;exact T0
   replace b0:=b0.keep G0 (List.not_mem_nil);refine lP0 Z ⟨by omega,U⟩ ⟨μj-1,by omega,Z,(j+1),?_,(by omega),?_,?_,?_,x0.tail,Z⟩;exact l2
   ·exact b0
   ·intro x;rw[K2a A0 (fun s=>s.module_=x∧Chg p s),←or_assoc,←y0];exact⟨.inl,fun h=>h.elim id (fun h=>absurd h.2 (Q0d N0))⟩
   ·exact c0
  refine lP0 Z ⟨by omega,U⟩ ⟨μk-1,by omega,Z,(k+1),(l2),(by omega),(b0),?_,(c0),S.tail,Z⟩;intro x;rw[y0,hl,K2a j0 (fun th=>∃s∈th.steps,s.module_=x∧Chg p s),show j=th.steps.length by omega,List.take_length]
 refine lOn 8 S.k [] Z U (G0a Z ?_);refine lC S.k [.o 0] Z ⟨Z,U⟩ ?_;refine wL (fun μq D ε w=>D=[]∧∃q:Nat,∃G:Option Nat,∃cs2:List Value,∃v:Value,∃li:List Int,(q+μq=(p.modules.length))∧(y1a u7b 1 [] w0 G cs2 v li)∧(li.Pairwise (·<·))∧(∀x,x∈li↔(0≤x∧x<(q:Int))∧x∉l)∧(li.length≤q)∧(x7a (Value.int .i64) w e0 l)∧St [] w0 w [(some g1,27,[.slice Ac nc cc,.slice Am nm cm,.slice Al nl cl,.slice At nt ct]),(G,3,cs2)]∧Sl ε [(3,.map (some e0)),(8,v),(45,.int .i64 nm),(46,.int .i64 q)]) (μ:=(p.modules.length)) ⟨Z,0,none,[],.slice none 0 0,[],by omega,y1a.nil,List.Pairwise.nil,(by intro x;simp;omega),by simp,Ms,S,Z⟩ ?_;rintro μq D ε w ⟨rfl,q,G,cs2,v,li,_,g0,a1,d0,_,n0,S,eZ⟩;refine wK eZ (wB0 Z U (fun B1=>?_) fun B1=>?_)
 ·have o1:i64 (q:Int):=by unfold i64;omega
  refine lO0 Z U ?_;have V0:=C5a o1;refine f0c (k:=3) (Go.Maps.int_keyed Tryz.underlying3) Tryz.underlying108 c3d u5b (fun a ha=>⟨_,C5a (hok a ha)⟩) V0 n0 Z Z Z (fun t0=>?_) fun u0=>?_
  ·refine lOn 8 S.k [] Z U ?_;refine m1d Z Z (by unfold i64;omega) Z ?_;refine N0a (hv:=Z) (v:=.int .i64 _) Z ?_;refine lP0 Z U ⟨μq-1,by omega,Z,(q+1),(_),(_),(_),?_,(by omega),?_,?_,?_,?_,?_,S,Z⟩;exact li
   ·exact g0
   ·exact a1
   ·intro x;rw[d0];constructor
    ·rintro⟨h1,h2⟩;exact⟨by omega,h2⟩
    ·rintro⟨h1,h2⟩;refine⟨?_,h2⟩;by_cases hx:x=q
     ·subst hx;exact absurd t0 h2
     ·omega
   ·omega
   ·exact n0
  refine lOn 5 S.k [] Z U (N0a Z ?_);refine lO0 Z U (C0a S T0a (vs:=[.int .i64 _]) (cs:=[_]) Z Z Z Z Z Z ?_);intro Q1 Y1 F0 t1 M1;replace n0:=n0.keep t1 (List.not_mem_nil);have Sb:=F0;refine P1a p8a (k:=2) (M2:=[]) (e1:=(q:Int)) F0 T0a Z g0 Z Z (F0.cells 0 Z) ⟨Z,o1⟩ (by omega) Z ?_;intro U1 N1 y1 Z1 j1 i0 u1 J1;have s1:=n0.keep u1 (fun hh=>by
   have hG:G=some e0:=by simpa using hh
   subst hG;exact n0.ne (Sb.blk 2 Z) Z)
  refine G0a Z ?_;refine lOn 4 j1.k [] Z U ?_;refine m1d Z Z (by unfold i64;omega) Z ?_;refine N0a (hv:=Z) (v:=.int .i64 _) Z ?_;refine lP0 Z U ⟨μq-1,by omega,Z,(q+1),(_),(_),(_),?_,(by omega),?_,?_,?_,?_,?_,j1.tail,Z⟩;exact li++[(q:Int)]
  ·exact i0
  ·rw[List.pairwise_append];refine⟨a1,List.pairwise_singleton _ _,fun a ha b hb=>?_⟩;rw[List.mem_singleton] at hb;subst hb;exact((d0 a).1 ha).1.2
  ·intro x;rw[List.mem_append,List.mem_singleton,d0];constructor
   ·rintro(⟨h1,h2⟩|rfl)
    ·exact⟨by omega,h2⟩
    ·exact⟨by omega,u0⟩
   ·rintro⟨h1,h2⟩;by_cases hx:x=q
    ·exact .inr hx
    ·exact .inl ⟨by omega,h2⟩
  ·rw[List.length_append];simp;omega
  ·exact s1
 refine lOn 8 S.k [] Z U (N0a Z ?_);refine G0a Z ?_;refine lR0 Z U (A0a Z ?_);refine⟨⟨li,⟨a1,fun x=>?_⟩,G,cs2,g0.toV,fun g hg=>by subst hg;exact⟨by simpa using S.new 1 Z,S.blk 1 Z⟩⟩,S.fin⟩;rw[d0,hl,show k=p.threads.length by omega,List.take_length,show q=p.modules.length by omega];rfl
theorem w9b{e:E}{a0:Int}(h:e.good a0=true):e.kids.length≤3∧∀k∈e.kids,k.good (a0-1)=true:=by
 obtain⟨d0,c0⟩:=b1a h;have e0:=(M1a d0).2.2.1;have b0:=h1a e.op;exact⟨by omega,c0⟩
theorem O9b:∀(e:E) (M:List Nat) (w0:World) (cs:List Value) (s0:Int),RdE M w0 e cs→(e.kids.length≤3∧∀k∈e.kids,k.good (s0-1)=true)→(∀g∈M,g<w0.heap.size) →
 O0a prog 144 #[.agg cs.toArray] w0 fun v w'=>(∃cs:List Value,v=.agg cs.toArray∧RdE M w' e cs)∧Bw w0 w':=by
 intro e
 induction e using E.induct with
 | _ e ih =>
 intro M w0 cs s0 hR hg hM;obtain⟨A,n,c,rfl,o1,o2,o3,hn,hc,hm,o0,F0⟩:=hR.open_;obtain⟨_,E0⟩:=hg;have hK:RdS M w0 4 (RX M w0) (.slice A n c) e.kids:=(RdL.made hn hc hm o0 F0).rdS;have S:=(St.refl w0).nilEnt 38;refine a0a func144 Z ntmps144 Z ?_;refine wO0 Z U (r0a S Z ?_);intro g1 w1 S1 X1 G1;refine h0a S1 w1a Z Z ?_;intro g2 w2 S2 X2 G2;refine lOn 4 S2.k [] Z U (G0a Z ?_);refine lC S2.k [.o 1] Z ⟨Z,U⟩ (wL (fun μk D ε w=>D=[]∧∃k:Nat,∃G:Option Nat,∃m0:List Value,∃v:Value,(k+μk=(e.kids.length))∧(R2b (g2::M) w G m0 v (e.kids.take k))∧St [] w0 w [(some g2,38,[.int .i64 0,.int .i64 0,.int .i64 0,.slice none 0 0]),(some g1,38,[.int .i64 e.op,.int .i64 e.w,.int .i64 e.n,.slice A n c]),(G,38,m0)]∧Sl ε [(1,.pointer (some ⟨g1,0,none⟩)),(2,.pointer (some ⟨g2,0,none⟩)),(3,v),(7,.slice A n c),(8,.int .i64 n),(9,.int .i64 k)]) (μ:=(e.kids.length)) ⟨Z,0,none,[],.slice none 0 0,by omega,R2b.nil,S2,Z⟩ ?_);rintro μk D ε w ⟨rfl,k,G,m0,v,_,d0,S,eZ⟩;refine wK eZ ?_;have KQ:=y0a.refl (G.toList++g2::M) w;refine wB0 Z U (fun D0=>?_) fun D0=>?_
 ·obtain⟨y,B0,G0,_,r0,n0,_,q0,p0,e0⟩:=RdS.get (hK) (k) (by omega);obtain⟨_,_,_,rfl,_⟩:=RdE.cells e0;refine lO (S.k.a p0) [.x B0 G0,.v 0] Z ⟨⟨Z,q0⟩,⟨n0,by omega⟩,U⟩ (h0a S w1a Z Z ?_);intro g5 w5 S5 X5 G5;have g0:=Nat.le_trans KQ.size G5;replace KQ:=KQ.trans (X5.of_nil);refine b0a (kk:=0) (vs:=[_,_,_,_]) S5 w0a Z Z Z Z Z Z Z ?_;intro H0 a0 i0;dsimp only[d0a,List.set] at a0;replace KQ:=KQ.fresh2 i0 (by exact .inl g0);refine lOn 3 a0.k [] Z U (N0a Z ?_);refine lO a0.k [.w 0] Z ⟨⟨Z,by rfl⟩,U⟩ ?_;have x0:=A4a (M:=M) a0 hM;refine o0a a0 y8a Z Z (ih y (e0a r0) _ _ _ (s0-1) (RdE.keep (a0.keep0 _) _ _ (RdE.more (F3a a0) _ _ e0)) (w9b (E0 _ (e0a r0))) x0) ?_;rintro P0 R0 ⟨_,rfl,f0⟩ y0 A0;replace KQ:=KQ.trans (A0.of_nil);obtain⟨_,_,_,rfl,-⟩:=f0.open_;refine C0a y0 R0a (vs:=[.agg _]) (cs:=[_,_,_,_]) Z Z Z Z Z Z ?_;intro O0 S0 t0 u0 K0;replace f0:=RdE.keep (u0.of_nil) _ _ f0;replace KQ:=KQ.trans (u0.of_nil);have b0:=d0.keep KQ;refine P1a V3a (k:=4) (M2:=g2::M) (e1:=y) t0 R0a Z b0 Z Z (t0.cells 0 Z) (RdE.less (fun x hx=>by cases G<;>simp[b1b] at hx ⊢<;>grind) _ _ f0) (by rw[List.length_take];omega) Z ?_;intro Q0 L0 C0 T0 z0 b0 N0 J0;refine G0a Z ?_;refine lP0 Z ⟨by omega,U⟩ ⟨μk-1,by omega,Z,(k+1),(_),(_),(_),(by omega),?_,z0.tail.tail,Z⟩;rw[t0a r0];exact b0
 refine lCn 7 S.k [] Z U ?_;obtain⟨Av,cv,rfl⟩:=y1a.form d0;have v0:RdL (g2::M) w (.slice Av (e.kids.take k).length cv) (e.kids.take k):=d0.rdL S (k:=2) Z (fun g hg=>by
  subst hg;intro hh;rcases List.mem_cons.1 hh with hh|hh
  ·exact S.ne 0 2 Z Z (by omega) hh.symm
  ·exact Y3a S (k:=2) Z hM hh) (by rw[List.length_take];omega)
 rw[show e.kids.take k=e.kids from List.take_of_length_le (by omega)] at v0 ⊢;refine wOn 7 S.k [.o 1,.o 1,.o 1] Z ⟨Z,Z,Z,U⟩ (N0a Z ?_);refine j1a I2a (vs:=[(0,.int .i64 _),(1,.int .i64 _),(2,.int .i64 _),(3,.slice _ _ _)]) (cs:=[_,_,_,_]) Z Z Z Z ?_;refine b0a (kk:=0) (vs:=[_,_,_,_]) S w0a Z Z Z Z Z Z Z ?_;intro I0 c0 j0;dsimp only[d0a,List.set] at c0;refine lR0 Z U (g0a Z m0a Z (c0.cells 0 Z) Z ⟨⟨_,Z,?_⟩,c0.fin⟩);have he:(⟨e.op,e.w,e.n,e.kids⟩:E)=e:=by cases e;rfl
 have hq:=RdE.less (M':=M) (fun g hg=>List.mem_cons_of_mem _ hg) _ _ (RdE.keep (j0.mono (by simp)) _ _ (v0.node o1 o2 o3));rw[he] at hq;exact hq
theorem U7a:M4a J0a 5 where
 len h:=by obtain⟨ce,rfl,-,h⟩:=h;simp[RdE.length h]
 one h u hu:=by
  obtain⟨ce,rfl,-,h⟩:=h;obtain⟨_,_,_,rfl,-⟩:=RdE.open_ h;simp at hu;rcases hu with rfl|rfl|rfl|rfl|rfl<;>rfl
 keep hk h:=J0a.keep hk _ _ h
 more hm h:=J0a.more hm _ _ h
theorem s9a:M4a z1a 11 where
 len h:=by obtain⟨_,_,_,_,_,_,rfl,-⟩:=z1a.open_ h;rfl
 one h u hu:=by
  obtain⟨_,_,_,_,_,_,rfl,-⟩:=z1a.open_ h;simp at hu;rcases hu with rfl|rfl|rfl|rfl|rfl|rfl|rfl|rfl|rfl|rfl|rfl<;>rfl
 keep hk h:=z1a.keep hk _ _ h
 more hm h:=z1a.more hm _ _ h
theorem k6a:M4a K0a 7 where
 len h:=by obtain⟨_,_,_,_,_,_,_,_,_,_,_,_,rfl,-⟩:=K0a.open_ h;rfl
 one h u hu:=by
  obtain⟨_,_,_,_,_,_,_,_,_,_,_,_,rfl,-⟩:=K0a.open_ h;simp at hu;rcases hu with rfl|rfl|rfl|rfl|rfl|rfl|rfl<;>rfl
 keep hk h:=K0a.keep hk _ _ h
 more hm h:=K0a.more hm _ _ h
theorem x1a:M4a x0a 11 where
 len h:=by obtain⟨_,_,_,_,_,_,_,_,_,rfl,-⟩:=x0a.open_ h;rfl
 one h u hu:=by
  obtain⟨_,_,_,_,_,_,_,_,_,rfl,-⟩:=x0a.open_ h;simp at hu;rcases hu with rfl|rfl|rfl|rfl|rfl|rfl|rfl|rfl|rfl|rfl|rfl<;>rfl
 keep hk h:=x0a.keep hk _ _ h
 more hm h:=x0a.more hm _ _ h
def Small(e:E):Prop:=∃lim:Int,e.kids.length≤3∧∀k∈e.kids,k.good (lim-1)=true
theorem a6a(e:E)(hs:Small e)(M:List Nat)(w0:World)(cs:List Value)(hR:RdE M w0 e cs)(hM:∀g∈M,g<w0.heap.size):
 O0a prog 144 #[.agg cs.toArray] w0 fun v w'=>(∃cs:List Value,v=.agg cs.toArray∧RdE M w' e cs)∧Below w0.heap.size w0 w' :=
 hs.elim fun a0 h=>O9b e M w0 cs a0 hR h hM
theorem B1b(th:s1a)(M:List Nat)(w0:World)(cs:List Value)(hM:∀g∈M,g<w0.heap.size)(hT:K0a M w0 cs th)(hl:th.loops=[])(ha:∀e∈th.asserts,Small e)(hg:∀s∈th.steps,Small s.guard∧(∀a∈s.set,Small a.to)∧s.set.length≤1000)(O3:th.asserts.length≤1000)(R3:th.modules.length≤1000)(T3:th.steps.length≤1000):
 O0a prog 146 #[.agg cs.toArray] w0 fun v w'=>(∃cs:List Value,v=.agg cs.toArray∧K0a M w' cs th)∧Bw w0 w':=by
 obtain⟨Aa,na,ca,Am,nm,cm,As,ns,Y0,Al,nl,cl,rfl,ip,K3,M3,N3,_,_,_,_,P3,_⟩:=hT.open_;have Q3:nl=0:=by rw[P3,hl];rfl
 have S:=((St.refl w0).nilEnt 61).nilEnt 38;refine a0a func146 Z ntmps146 Z ?_;refine wO0 Z U (r0a S Z ?_);intro g1 w1 S1 X1 G1;refine h0a S1 g7a Z Z ?_;intro g2 w2 S2 X2 G2;refine lO S2.k [.w 1] Z ⟨⟨Z,Z⟩,U⟩ (h0a S2 g7a Z Z ?_);intro g3 w3 S3 X3 G3;refine b0a (kk:=0) (vs:=[_,_,_,_,_,_,_]) S3 r7a Z Z Z Z Z Z Z ?_;intro Y3 e0 r3;dsimp only[d0a,List.set] at e0;refine lO e0.k [.o 2] Z ⟨Z,U⟩ ?_;refine o0a e0 G1c Z Z (y5b (g3::g2::M) M _ _ th.modules (M3.keep (e0.keep0 M)) (by omega) (fun x hx=>by simp at hx;rcases hx with rfl|rfl|hx;exact e0.lt 0 Z;exact e0.lt 1 Z;have:=hM x hx;have:=e0.size;omega)) ?_;rintro t4 I0 P2 o3 m4;obtain⟨Ac,nc,cc,rfl⟩:=P2.form;have KM:=y0a.refl (g3::g2::M) I0;refine lO0 Z U (U0a (kk:=0) o3 y3b Z Z Z (by exact Nat.le_of_ble_eq_true Z) ?_);intro Z3 J1 U1;replace KM:=KM.fresh2 U1 (by first  | exact .inr (by simp));refine lO0 Z U (U0a (kk:=0) J1 k2d Z Z Z (by exact Nat.le_of_ble_eq_true Z) ?_);intro a4 N1 W1;replace KM:=KM.fresh2 W1 (by first  | exact .inr (by simp));refine lO0 Z U (U0a (kk:=0) N1 w2d Z Z Z (by exact Nat.le_of_ble_eq_true Z) ?_);intro b4 O1 Y1;replace KM:=KM.fresh2 Y1 (by first  | exact .inr (by simp));refine lO0 Z U (U0a (kk:=0) O1 k3d Z Z Z (by exact Nat.le_of_ble_eq_true Z) ?_);intro c4 i1 Z1;replace KM:=KM.fresh2 Z1 (by first  | exact .inr (by simp));refine lC i1.k [.o 2] Z ⟨Z,U⟩ (wL (fun μk D ε w=>D=[]∧∃k:Nat,∃G:Option Nat,∃X0:List Value,∃v:Value,(k+μk=(th.asserts.length))∧(R2b (g3::g2::M) w G X0 v (th.asserts.take k))∧(∀g∈G.toList,I0.heap.size≤g∨g∈g3::g2::M)∧(y0a (g3::g2::M) I0 w)∧St [] w0 w [(some g3,58,[.string th.name,.int .i64 th.points,v,.slice Ac nc cc,.slice none 0 0,.slice none 0 0,.bool th.asleep]),(some g2,58,[.string ByteArray.empty,.int .i64 0,.slice none 0 0,.slice none 0 0,.slice none 0 0,.slice none 0 0,.bool false]),(some g1,58,[.string th.name,.int .i64 th.points,.slice Aa na ca,.slice Am nm cm,.slice As ns Y0,.slice Al nl cl,.bool th.asleep]),(G,38,X0),(none,61,[])]∧Sl ε [(1,.pointer (some ⟨g1,0,none⟩)),(2,.pointer (some ⟨g2,0,none⟩)),(3,.pointer (some ⟨g3,0,none⟩)),(22,.slice Aa na ca),(23,.int .i64 na),(24,.int .i64 k)]) (μ:=(th.asserts.length)) ⟨Z,0,none,[],.slice none 0 0,by omega,R2b.nil,by simp,KM,i1,Z⟩ ?_);rintro μk D ε w ⟨rfl,k,G,X0,v,_,Q0,Q2,KM,S,eZ⟩;refine wK eZ ?_;have KQ:=y0a.refl (G.toList++g3::g2::M) w;refine wB0 Z U (fun E3=>?_) fun E3=>?_
 ·obtain⟨e1,x3,U3,_,v1,h2,_,t2,q2,t1⟩:=RdS.get (K3) (k) (by omega);obtain⟨_,_,_,rfl,_⟩:=RdE.cells t1;refine lO (S.k.a q2) [.x x3 U3,.v 0] Z ⟨⟨Z,t2⟩,⟨h2,by omega⟩,U⟩ (h0a S w1a Z Z ?_);intro g5 w5 S5 X5 G5;have I1:=Nat.le_trans KQ.size G5;have H1:=Nat.le_trans KM.size G5;replace KQ:=KQ.trans (X5.of_nil);replace KM:=KM.trans (X5.of_nil);refine b0a (kk:=0) (vs:=[_,_,_,_]) S5 w0a Z Z Z Z Z Z Z ?_;intro V0 N0 n1;dsimp only[d0a,List.set] at N0;replace KQ:=KQ.fresh2 n1 (by exact .inl I1);replace KM:=KM.fresh2 n1 (by exact .inl H1);refine lC0 Z U (b0c c0a (fun i=>[0,1,2,6].contains i) [0,1,2,3,4,5,6] 7 (clE N0 4 G.toList) _ Z ?_);have A0:=N0.drew;have C1:y0a [] V0 V0.drew:=o2a _ _;generalize V0.drew=H4 at A0 C1 ⊢;have r1:y0a (G.toList) _ _:=C1.of_nil;replace KQ:=KQ.trans C1.of_nil;replace KM:=KM.trans C1.of_nil;refine J8a ⟨St.er (A0) 4,r1⟩ Z Z Z ?_;refine u0a I6b Z Z ?_;refine i0a ?_;refine J8a ⟨St.er (A0) 4,r1⟩ Z Z Z ?_;refine k0a r1a Z (fun w1 hw=>by exact hw.1.cell 1 Z Z) Z ?_;refine i0a ?_;refine J8a ⟨St.er (A0) 4,r1⟩ Z Z Z ?_;refine C1a m0a Z (fun w1 hw=>hw.1.cells 0 Z) Z Z ?_;refine i0a ?_;refine D3c ⟨St.er (A0) 4,r1⟩ Z Z Z Z ?_;refine o0a A0 y8a Z Z (a6a e1 (ha _ (e0a v1)) _ _ _ (RdE.keep (A0.keep0 _) _ _ (RdE.more (F3a A0) _ _ t1)) (A4a A0 hM)) ?_;rintro u4 z4 ⟨_,rfl,D1⟩ K2 V1;have E0:=r1.trans (V1.mono (by simp));replace KQ:=KQ.trans (V1.of_nil);replace KM:=KM.trans (V1.of_nil);obtain⟨_,_,_,rfl,-⟩:=D1.open_;refine B0a ⟨Z,?_⟩;refine D3c ⟨St.er (K2) 4,E0⟩ Z Z Z Z ?_;refine C0a K2 R0a (vs:=[.agg _]) (cs:=[_,_,_,_]) Z Z Z Z Z Z ?_;intro p4 A4 K1 z1 f4;have F0:=E0.trans (z1.mono (by simp));replace D1:=RdE.keep (z1.of_nil) _ _ D1;replace KQ:=KQ.trans (z1.of_nil);replace KM:=KM.trans (z1.of_nil);refine B0a ⟨Z,?_⟩;refine D3c ⟨St.er (K1.tail) 4,F0⟩ Z Z Z Z ?_;have R0:=Q0.keep KQ;refine P1a V3a (k:=5) (M2:=g3::g2::M) (e1:=e1) K1 R0a Z R0 Z Z (K1.cells 0 Z) (RdE.less (fun x hx=>by cases G<;>simp[b1b] at hx ⊢<;>grind) _ _ D1) (by rw[List.length_take];omega) Z ?_;intro v4 g4 B3 B4 M1 i0 N2 h3;have p1:=F0.trans N2;obtain⟨_,_,rfl⟩:=y1a.form i0;have s3:=KM.size;replace KM:=KM.freshL N2 Q2;refine B0a ⟨Z,?_⟩;refine J8a ⟨St.er (M1.tail) 4,p1⟩ Z Z Z ?_;refine u0a I6b Z Z ?_;refine i0a ?_;refine v8b ⟨St.er (M1.tail) 4,p1⟩ ?_;refine U0a (kk:=2) M1 k2d Z Z Z (by exact Nat.le_of_ble_eq_true Z) ?_;intro d4 T1 o1;replace KM:=KM.fresh2 o1 (by exact .inr (by simp));refine B0a ⟨Z,?_⟩;refine fP0 Z ⟨by omega,U⟩ ⟨μk-1,by omega,Z,(k+1),(_),(_),(_),(by omega),?_,?_,(KM),T1.tail.tail,Z⟩
  ·rw[t0a v1];exact R2b.keep i0 (o1.mono (by simp))
  ·intro g hg;rcases h3 g hg with h|h;exact Q2 g h;exact .inl (Nat.le_trans s3 h)
 refine lCn 8 S.k [] Z U ?_;obtain⟨wA,T2⟩:∃x,x=w:=⟨_,Z⟩;have KA:y0a (g3::g2::M) wA w:=T2▸y0a.refl _ _;have s4:∀g∈G.toList,g<w.heap.size:=i1d S (k:=3) Z;have J3:RdS (g3::g2::M) wA 4 (RX (g3::g2::M) wA) v th.asserts:=by
  rw[T2];have hr:=Q0;rw[List.take_of_length_le (by omega)] at hr;exact y1a.rd V3a hr S (k:=3) Z (fun g hg hh=>by
   subst hg;rcases List.mem_cons.1 hh with hh|hh
   ·exact S.ne 0 3 Z Z (by omega) hh.symm
   rcases List.mem_cons.1 hh with hh|hh
   ·exact S.ne 1 3 Z Z (by omega) hh.symm
   ·exact Y3a S (k:=3) Z hM hh) (by omega)
 obtain⟨Av,nv,cv,rfl⟩:∃A n c,v=.slice A n c:=by obtain⟨A,c,h⟩:=y1a.form Q0;exact⟨_,_,_,h⟩
 refine wC S.k [.o 2] Z ⟨Z,U⟩ (wL (fun μj D ε w=>D=[]∧∃j:Nat,∃G2:Option Nat,∃cs2:List Value,∃v2:Value,(j+μj=(th.steps.length))∧(y1a z1a 11 (g3::g2::M) w G2 cs2 v2 (th.steps.take j))∧(∀g∈G2.toList,I0.heap.size≤g∧wA.heap.size≤g)∧(y0a (g3::g2::M) I0 w)∧(y0a (g3::g2::M) wA w)∧St [] w0 w [(some g3,58,[.string th.name,.int .i64 th.points,.slice Av nv cv,.slice Ac nc cc,v2,.slice none 0 0,.bool th.asleep]),(some g2,58,[.string ByteArray.empty,.int .i64 0,.slice none 0 0,.slice none 0 0,.slice none 0 0,.slice none 0 0,.bool false]),(some g1,58,[.string th.name,.int .i64 th.points,.slice Aa na ca,.slice Am nm cm,.slice As ns Y0,.slice Al nl cl,.bool th.asleep]),(G,38,X0),(G2,61,cs2)]∧Sl ε [(1,.pointer (some ⟨g1,0,none⟩)),(2,.pointer (some ⟨g2,0,none⟩)),(3,.pointer (some ⟨g3,0,none⟩)),(37,.slice As ns Y0),(38,.int .i64 ns),(39,.int .i64 j)]) (μ:=(th.steps.length)) ⟨Z,0,none,[],.slice none 0 0,by omega,y1a.nil,by simp,KM,KA,S,Z⟩ ?_);rintro μj D ε w ⟨rfl,j,G2,cs2,v2,_,x0,P0,KM,KA,S,eZ⟩;refine wK eZ ?_;obtain⟨wR,U2⟩:∃x,x=w:=⟨_,Z⟩;have KR:y0a (G2.toList++g3::g2::M) wR w:=U2▸y0a.refl _ _;have u1:y1a z1a 11 (g3::g2::M) wR G2 cs2 v2 (th.steps.take j):=U2▸x0;refine wB0 Z U (fun F3=>?_) fun F3=>?_
 ·obtain⟨s,y3,V3,_,Y2,i2,_,u2,r2,y2⟩:=RdS.get (N3) (j) (by omega);obtain⟨F1,J2,e2,Z0,U0,s1,rfl,⟨C2,D2,E2,F2,H2⟩,o2,O0,_⟩:=z1a.open_ y2;have R2:=hg s (e0a Y2);refine lO (S.k.a r2) [.x y3 V3,.v 0] Z ⟨⟨Z,u2⟩,⟨i2,by omega⟩,U⟩ (h0a S J3b Z Z ?_);intro g7 w7 S7 X7 G7;have L0:=Nat.le_trans KR.size G7;have K0:=Nat.le_trans KM.size G7;have J0:=Nat.le_trans KA.size G7;replace KR:=KR.trans (X7.of_nil);replace KM:=KM.trans (X7.of_nil);replace KA:=KA.trans (X7.of_nil);refine b0a (kk:=0) (vs:=[_,_,_,_,_,_,_,_,_,_,_]) S7 O3b Z Z Z Z Z Z Z ?_;intro Z2 o0 s0;dsimp only[d0a,List.set] at o0;have C0:=o0.nilEnt 63;replace KR:=KR.fresh2 s0 (.inl L0);replace KM:=KM.fresh2 s0 (.inl K0);replace KA:=KA.fresh2 s0 (.inl J0);refine lC C0.k [.o 1] Z ⟨Z,U⟩ (wL (fun μi D ε w=>D=[]∧∃i:Nat,∃G3:Option Nat,∃f2:List Value,∃v3:Value,(i+μi=(s.set.length))∧(y1a J0a 5 (G2.toList++g7::g3::g2::M) w G3 f2 v3 (s.set.take i))∧(∀g∈G3.toList,I0.heap.size≤g∧wA.heap.size≤g∧wR.heap.size≤g)∧(y0a (g3::g2::M) I0 w)∧(y0a (g3::g2::M) wA w)∧(y0a (G2.toList++g3::g2::M) wR w)∧St [] w0 w [(G3,63,f2),(some g7,61,[.int .i64 s.kind,.int .i64 s.frm,.int .i64 s.to,.int .i64 s.guard.op,.int .i64 s.guard.w,.int .i64 s.guard.n,.slice F1 J2 e2,.slice Z0 U0 s1,.bool s.release,.int .i64 s.target,.int .i64 s.module_]),(some g3,58,[.string th.name,.int .i64 th.points,.slice Av nv cv,.slice Ac nc cc,v2,.slice none 0 0,.bool th.asleep]),(some g2,58,[.string ByteArray.empty,.int .i64 0,.slice none 0 0,.slice none 0 0,.slice none 0 0,.slice none 0 0,.bool false]),(some g1,58,[.string th.name,.int .i64 th.points,.slice Aa na ca,.slice Am nm cm,.slice As ns Y0,.slice Al nl cl,.bool th.asleep]),(G,38,X0),(G2,61,cs2)]∧Sl ε [(1,.pointer (some ⟨g1,0,none⟩)),(2,.pointer (some ⟨g2,0,none⟩)),(3,.pointer (some ⟨g3,0,none⟩)),(7,.pointer (some ⟨g7,0,none⟩)),(8,v3),(37,.slice As ns Y0),(38,.int .i64 ns),(39,.int .i64 j),(44,.slice Z0 U0 s1),(45,.int .i64 U0),(46,.int .i64 i)]) (μ:=(s.set.length)) ⟨Z,0,none,[],.slice none 0 0,by omega,y1a.nil,by simp,KM,KA,KR,C0,Z⟩ ?_);rintro μi D ε w ⟨rfl,i,G3,f2,v3,_,y0,B0,KM,KA,KR,S,eZ⟩;refine wK eZ ?_;have KQ:=y0a.refl (G3.toList++(G2.toList++g7::g3::g2::M)) w;refine wB0 Z U (fun H3=>?_) fun H3=>?_
  ·obtain⟨a,z3,W3,_,W2,j2,_,x2,s2,z2⟩:=RdS.get (O0) (i) (by omega);obtain⟨_,_,_,rfl,I2,m2⟩:=J0a.open_ z2;refine lO (S.k.a s2) [.x z3 W3,.v 0] Z ⟨⟨Z,x2⟩,⟨j2,by omega⟩,U⟩ (h0a S I3b Z Z ?_);intro n4 y4 m3 y1 x1;have c1:=Nat.le_trans KQ.size x1;have b1:=Nat.le_trans KM.size x1;have a1:=Nat.le_trans KA.size x1;have d1:=Nat.le_trans KR.size x1;replace KQ:=KQ.trans (y1.of_nil);replace KM:=KM.trans (y1.of_nil);replace KA:=KA.trans (y1.of_nil);replace KR:=KR.trans (y1.of_nil);refine b0a (kk:=0) (vs:=[_,_,_,_,_]) m3 x3b Z Z Z Z Z Z Z ?_;intro z0 p0 g0;dsimp only[d0a,List.set] at p0;replace KQ:=KQ.fresh2 g0 (by exact .inl c1);replace KM:=KM.fresh2 g0 (by exact .inl b1);replace KA:=KA.fresh2 g0 (by exact .inl a1);replace KR:=KR.fresh2 g0 (by exact .inl d1);refine lC0 Z U (E1d c0a (fun i=>[0,1,2,3,4,6,9].contains i) [0,1,2,3,4,5,6,7,8,9] (by kernel_rfl) (by kernel_rfl) (clE p0 1 G3.toList) ?_);have a0:=p0.drew;have n0:y0a [] z0 z0.drew:=o2a _ _;generalize z0.drew=e4 at a0 n0 ⊢;have f0:y0a (G3.toList) _ _:=n0.of_nil;replace KQ:=KQ.trans n0.of_nil;replace KM:=KM.trans n0.of_nil;replace KA:=KA.trans n0.of_nil;replace KR:=KR.trans n0.of_nil;refine J8a ⟨St.er (a0) 1,f0⟩ Z Z Z ?_;refine F1a Z ?_;refine i0a ?_;refine J8a ⟨St.er (a0) 1,f0⟩ Z Z Z ?_;refine u0a S2b Z Z ?_;refine i0a ?_;refine J8a ⟨St.er (a0) 1,f0⟩ Z Z Z ?_;refine k0a D0a Z (fun w1 hw=>by exact hw.1.cell 0 Z Z) Z ?_;refine i0a ?_;refine J8a ⟨St.er (a0) 1,f0⟩ Z Z Z ?_;refine u0a t3b Z Z ?_;refine i0a ?_;refine J8a ⟨St.er (a0) 1,f0⟩ Z Z Z ?_;refine C1a m0a Z (cs:=[_,_,_,_]) (fun w1 hw=>hw.1.cellsAt 0 1 4 Z) Z Z ?_;refine i0a ?_;refine D3c ⟨St.er (a0) 1,f0⟩ Z Z Z Z ?_;refine o0a a0 y8a Z Z (a6a a.to (R2.2.1 a (e0a W2)) _ _ _ (RdE.keep (a0.keep0 _) _ _ (RdE.more (F3a a0) _ _ m2)) (A4a a0 hM)) ?_;rintro v55 C4 ⟨_,rfl,E1⟩ P1 j1;have v0:=f0.trans (j1.mono (by simp));replace KQ:=KQ.trans (j1.of_nil);replace KM:=KM.trans (j1.of_nil);replace KA:=KA.trans (j1.of_nil);replace KR:=KR.trans (j1.of_nil);obtain⟨_,_,_,rfl,-⟩:=E1.open_;refine B0a ⟨Z,?_⟩;refine J8a ⟨St.er (P1) 1,v0⟩ Z Z Z ?_;refine m3a J6c (vs:=[(0,.int .i64 _),(1,.agg _)]) (cs:=[_,_,_,_,_]) Z Z Z Z ?_;refine i0a ?_;refine D3c ⟨St.er (P1) 1,v0⟩ Z Z Z Z ?_;refine C0a P1 F6a (vs:=[.agg _]) (cs:=[_,_,_,_,_]) Z Z Z Z Z Z ?_;intro q4 D4 Q1 W0 h4;have G0:=v0.trans (W0.mono (by simp));replace E1:=RdE.keep (W0.of_nil) _ _ E1;replace KQ:=KQ.trans (W0.of_nil);replace KM:=KM.trans (W0.of_nil);replace KA:=KA.trans (W0.of_nil);replace KR:=KR.trans (W0.of_nil);refine B0a ⟨Z,?_⟩;refine D3c ⟨St.er (Q1.tail) 1,G0⟩ Z Z Z Z ?_;have S0:=y1a.keep U7a y0 KQ;refine P1a U7a (k:=2) (M2:=G2.toList++g7::g3::g2::M) (e1:=a) Q1 F6a Z S0 Z Z (Q1.cells 0 Z) ⟨_,Z,I2,RdE.less (fun x hx=>by cases G3<;>cases G2<;>simp[b1b] at hx ⊢<;>grind) _ _ E1⟩ (by rw[List.length_take];omega) Z ?_;intro w4 i4 C3 E4 R1 j0 A1 i3;have q1:=G0.trans A1;obtain⟨_,_,rfl⟩:=y1a.form j0;have t3:=KA.size;have a2:=KM.size;have b2:=KR.size;replace KM:=KM.freshL A1 (fun g hg=>.inl (B0 g hg).1);replace KA:=KA.freshL A1 (fun g hg=>.inl (B0 g hg).2.1);replace KR:=KR.freshL A1 (fun g hg=>.inl (B0 g hg).2.2);refine B0a ⟨Z,?_⟩;refine J8a ⟨St.er (R1.tail) 1,q1⟩ Z Z Z ?_;refine x5a (by conv=>lhs;whnf) Z ?_;refine i0a ?_;refine v8b ⟨St.er (R1.tail) 1,q1⟩ ?_;refine fP0 Z ⟨by omega,U⟩ ⟨μi-1,by omega,Z,(i+1),(_),(_),(_),(by omega),?_,?_,(KM),(KA),(KR),R1.tail.tail,Z⟩
   ·rw[t0a W2];exact j0
   ·intro g hg;rcases i3 g hg with h|h;exact B0 g h;exact⟨Nat.le_trans a2 h,Nat.le_trans t3 h,Nat.le_trans b2 h⟩
  refine lCn 7 S.k [] Z U ?_;have hZ:RdS (G2.toList++g7::g3::g2::M) w 5 (J0a (G2.toList++g7::g3::g2::M) w) v3 s.set:=by
   have hr:=y0;rw[List.take_of_length_le (by omega)] at hr;exact y1a.rd U7a hr S (k:=0) Z (fun g hg hh=>by
    subst hg;rcases List.mem_append.1 hh with hh|hh
    ·have L3:G2=some g:=by cases G2<;>simp at hh ⊢;exact hh.symm
     subst L3;exact S.ne 0 6 Z Z (by omega) Z
    rcases List.mem_cons.1 hh with hh|hh
    ·exact S.ne 0 1 Z Z (by omega) hh
    rcases List.mem_cons.1 hh with hh|hh
    ·exact S.ne 0 2 Z Z (by omega) hh
    rcases List.mem_cons.1 hh with hh|hh
    ·exact S.ne 0 3 Z Z (by omega) hh
    ·exact Y3a S (k:=0) Z hM hh) (by omega)
  have KZ:=y0a.refl (G2.toList++g7::g3::g2::M) w;obtain⟨A3,n3,c3,rfl⟩:∃A n c,v3=.slice A n c:=by obtain⟨A,c,h⟩:=y1a.form y0;exact⟨_,_,_,h⟩
  refine wO S.k [.o 1] Z ⟨Z,U⟩ (o0a S y8a Z Z (a6a s.guard R2.1 (G2.toList++g7::g3::g2::M) _ _ (RdE.keep (S.keep0 _) _ _ (RdE.more (fun x hx=>F3a S x ((D5a 6 Z (D5a (G:=some g7) 1 Z (D5a (G:=some g3) 2 Z (S1b 3 Z)))) x hx)) _ _ o2)) (fun x hx=>A4a S hM x ((D5a 6 Z (D5a (G:=some g7) 1 Z (D5a (G:=some g3) 2 Z (S1b 3 Z)))) x hx))) ?_);rintro x4 F4 ⟨_,rfl,H0⟩ p3 B1;replace KM:=KM.trans (B1.of_nil);replace KA:=KA.trans (B1.of_nil);replace KR:=KR.trans (B1.of_nil);replace KZ:=KZ.trans (B1.of_nil);obtain⟨_,_,_,rfl,-⟩:=H0.open_;refine N0a Z ?_;refine lO0 Z U (b0a (kk:=1) (vs:=[_,_,_,_]) p3 w0a Z Z Z Z Z Z Z ?_);intro a3 D0 b0;dsimp only[d0a,List.set] at D0;replace H0:=RdE.keep (b0.mono (by simp)) _ _ H0;replace KM:=KM.fresh2 b0 (by exact .inl K0);replace KA:=KA.fresh2 b0 (by exact .inl J0);replace KR:=KR.fresh2 b0 (by exact .inl L0);replace KZ:=KZ.fresh2 b0 (by exact .inr (by simp));refine lO0 Z U (U0a (kk:=1) D0 y3d Z Z Z (by exact Nat.le_of_ble_eq_true Z) ?_);intro b3 q0 c0;replace H0:=RdE.keep (c0.mono (by simp)) _ _ H0;replace KM:=KM.fresh2 c0 (by exact .inl K0);replace KA:=KA.fresh2 c0 (by exact .inl J0);replace KR:=KR.fresh2 c0 (by exact .inl L0);replace KZ:=KZ.fresh2 c0 (by exact .inr (by simp));refine lO0 Z U (L0a I8b Z (by exact q0.cell 2 Z Z) Z ?_);refine lO q0.k [.w 1] Z ⟨⟨Z,Z⟩,U⟩ (C0a q0 q2b (vs:=[.agg _]) (cs:=[_,_,_,_,_,_,_,_,_,_,_]) Z Z Z Z Z Z ?_);intro r4 f3 L2 m1 j4;replace H0:=RdE.keep (m1.of_nil) _ _ H0;replace KM:=KM.trans (m1.of_nil);replace KA:=KA.trans (m1.of_nil);replace KR:=KR.trans (m1.of_nil);replace KZ:=KZ.trans (m1.of_nil);have T0:=y1a.keep s9a u1 KR;have B2:RdS (G2.toList++g3::g2::M) f3 5 (J0a (G2.toList++g3::g2::M) f3) (.slice A3 n3 c3) s.set:=RdS.lessW (RdS.keepW hZ KZ (J0a.keep KZ)) (fun x hx=>by simp at hx ⊢;grind) (J0a.less (fun x hx=>by simp at hx ⊢;grind));refine P1a s9a (k:=7) (M2:=g3::g2::M) (e1:=s) L2 q2b Z T0 Z Z (L2.cells 0 Z) ⟨_,_,_,_,_,Z,C2,D2,E2,F2,H2,RdE.less (fun x hx=>by simp at hx ⊢;grind) _ _ H0,B2⟩ (by rw[List.length_take];omega) Z ?_;intro v70 k4 D3 G4 q3 m0 O2 j3;obtain⟨_,_,rfl⟩:=y1a.form m0;have u3:=KA.size;have d2:=KM.size;replace KM:=KM.freshL O2 (fun g hg=>.inl (P0 g hg).1);replace KA:=KA.freshL O2 (fun g hg=>.inl (P0 g hg).2);refine lO0 Z U (U0a (kk:=3) q3 w2d Z Z Z (by exact Nat.le_of_ble_eq_true Z) ?_);intro d3 f1 t0;replace KM:=KM.fresh2 t0 (by exact .inr (by simp));replace KA:=KA.fresh2 t0 (by exact .inr (by simp));refine lP0 Z ⟨by omega,U⟩ ⟨μj-1,by omega,Z,(j+1),(_),(_),(_),(by omega),?_,?_,(KM),(KA),f1.tail.tail.tail,Z⟩
  ·rw[t0a Y2];exact y1a.keep s9a m0 (t0.mono (by simp))
  ·intro g hg;rcases j3 g hg with h|h;exact P0 g h;exact⟨Nat.le_trans d2 h,Nat.le_trans u3 h⟩
 refine lCn 8 S.k [] Z U ?_;obtain⟨wS,V2⟩:∃x,x=w:=⟨_,Z⟩;have KS:y0a (g3::g2::M) wS w:=V2▸y0a.refl _ _;have p2:RdS (g3::g2::M) wS 11 (z1a (g3::g2::M) wS) v2 th.steps:=by
  rw[V2];have hr:=x0;rw[List.take_of_length_le (by omega)] at hr;exact y1a.rd s9a hr S (k:=4) Z (fun g hg hh=>by
   subst hg;rcases List.mem_cons.1 hh with hh|hh
   ·exact S.ne 0 4 Z Z (by omega) hh.symm
   rcases List.mem_cons.1 hh with hh|hh
   ·exact S.ne 1 4 Z Z (by omega) hh.symm
   ·exact Y3a S (k:=4) Z hM hh) (by omega)
 obtain⟨A2,n2,c2,rfl⟩:∃A n c,v2=.slice A n c:=by obtain⟨A,c,h⟩:=y1a.form x0;exact⟨_,_,_,h⟩
 refine wC S.k [.o 2] Z ⟨Z,U⟩ (wL (fun μq D ε w=>D=[]∧∃q:Nat,(q+μq=(th.loops.length))∧(y0a (g3::g2::M) I0 w)∧(y0a (g3::g2::M) wA w)∧(y0a (g3::g2::M) wS w)∧St [] w0 w [(some g3,58,[.string th.name,.int .i64 th.points,.slice Av nv cv,.slice Ac nc cc,.slice A2 n2 c2,.slice none 0 0,.bool th.asleep]),(some g2,58,[.string ByteArray.empty,.int .i64 0,.slice none 0 0,.slice none 0 0,.slice none 0 0,.slice none 0 0,.bool false]),(some g1,58,[.string th.name,.int .i64 th.points,.slice Aa na ca,.slice Am nm cm,.slice As ns Y0,.slice Al nl cl,.bool th.asleep]),(G,38,X0),(G2,61,cs2)]∧Sl ε [(2,.pointer (some ⟨g2,0,none⟩)),(3,.pointer (some ⟨g3,0,none⟩)),(74,.slice Al nl cl),(75,.int .i64 nl),(76,.int .i64 q)]) (μ:=(th.loops.length)) ⟨Z,0,by omega,KM,KA,KS,S,Z⟩ ?_);rintro μq D ε w ⟨rfl,q,_,KM,KA,KS,S,eZ⟩;refine wK eZ ?_;refine wB0 Z U (fun I3=>by exfalso;omega) fun I3=>?_;refine lO S.k [.w 0] Z ⟨⟨Z,Z⟩,U⟩ (b0a (kk:=1) (vs:=[_,_,_,_,_,_,_]) S r7a Z Z Z Z Z Z Z ?_);intro e3 r0 u0;dsimp only[d0a,List.set] at r0;replace KM:=KM.fresh2 u0 (by first  | exact .inr (by simp));replace KA:=KA.fresh2 u0 (by first  | exact .inr (by simp));replace KS:=KS.fresh2 u0 (by first  | exact .inr (by simp));refine lR0 Z U (g0a Z N3b Z (r0.cells 1 Z) Z ⟨⟨_,Z,?_⟩,r0.fin⟩);have d0:∀g∈M,g∈g3::g2::M:=fun g hg=>by simp[hg]
 refine⟨_,_,_,_,Z,ip,?_,?_,?_,?_⟩
 ·exact RdS.lessW (RdS.keepW J3 KA (fun _ _=>RdE.keep KA _ _)) d0 (fun _ _=>RdE.less d0 _ _)
 ·exact(P2.keep KM).less d0
 ·exact RdS.lessW (RdS.keepW p2 KS (z1a.keep KS)) d0 (z1a.less d0)
 ·rw[hl];exact⟨none,0,0,Z,Z,Nat.le_refl _,by unfold maxLen;omega,by omega,fun h=>absurd h (by omega)⟩
theorem L7b:M4a (fun(_:List Nat) (_:World)=>U2a) 6 where
 len h:=by rw[h.1];rfl
 one h u hu:=by rw[h.1] at hu;simp at hu;rcases hu with rfl|rfl|rfl|rfl|rfl|rfl<;>rfl
 keep _ h:=h
 more _ h:=h
theorem S4c{α:Type}{M:List Nat}{w:World}{size:Nat}{R:List Value→α→Prop}:RdS M w size R (.slice none 0 0) []:=⟨none,0,0,Z,Z,Nat.le_refl _,by unfold maxLen;omega,by omega,fun h=>absurd h (by omega)⟩
theorem g9b(M Mx:List Nat)(w0:World)(v:Value)(l:List I1a)(hR:A3c M w0 v l)(hl:l.length≤1000)(hM:∀g∈Mx,g<w0.heap.size):
 O0a prog 143 #[v] w0 fun v w'=>A3c Mx w' v l∧Bw w0 w':=by
 obtain⟨_,n,_,rfl⟩:=hR.form;obtain⟨_,_⟩:=hR.len;have S:=St.refl w0;refine a0a func143 Z ntmps143 Z ?_;refine wOn 9 S.k [] Z U (i8b c4a.slT Z Z Z (fun h4=>?_) fun h4=>?_)
 ·refine lR0 Z U (A0a Z ?_);subst h4;obtain⟨A',n',c',he,h1,h2,h3,h5,h6⟩:=hR;cases he;have h0:l.length=0:=by
   rcases Nat.eq_zero_or_pos n with h|h
   ·omega
   ·obtain⟨_,_,h7,_⟩:=h6 h;cases h7
  obtain rfl:=List.length_eq_zero_iff.1 h0;exact⟨S4c,S.fin⟩
 refine lO0 Z U (D7a S c4a Z ?_);intro g5 w5 S5 X5 G5;refine lO0 Z U ?_;refine g0b L7b (M2:=[]) (k:=0) S5 c4a Z y1a.new Z Z (hR.keep (S5.keep0 M)) (by simp;omega) Z ?_;intro v7 G7 a0 w7 S7 R7 X7 F7;refine G0a Z ?_;refine lR0 Z U (A0a Z ?_);rw[List.nil_append] at R7;refine⟨y1a.rd L7b (M:=Mx) R7 S7 (k:=0) Z (fun g hg hh=>?_) (by omega),S7.fin⟩;subst hg;have h1:=S7.new 0 Z;have h2:=hM g hh;simp at h1;omega
structure V0c (p:j0a):Prop where
 nl:p.locks=[]
 nc:p.cells.length≤1000
 nm:p.modules.length≤1000
 nt:p.threads.length≤1000
 mods:∀m∈p.modules,Small m.rely∧Small m.guar∧m.frame.length≤1000
 thr:∀th∈p.threads,th.loops=[]∧(∀e∈th.asserts,Small e)∧(∀s∈th.steps,Small s.guard∧(∀a∈s.set,Small a.to)∧s.set.length≤1000)∧th.asserts.length≤1000∧th.modules.length≤1000∧th.steps.length≤1000
theorem d3c(p:j0a)(hc:V0c p)(M:List Nat)(w0:World)(cs:List Value)(hM:∀g∈M,g<w0.heap.size)(hP:a1a M w0 p cs):
 O0a prog 91 #[.agg cs.toArray] w0 fun v w'=>(∃vc vm vt G h2,v=.agg #[vc,vm,.slice none 0 0,vt]∧(∀g,G=some g→w0.heap.size≤g∧p0a w' (g,66,h2))∧y1a x0a 11 M w' G h2 vm p.modules∧A3c (G.toList++M) w' vc p.cells∧Z2d (G.toList++M) w' vt p.threads)∧Bw w0 w':=by
 obtain⟨Ac,nc,cc,Am,nm,cm,Al,nl,cl,At,nt,ct,rfl,hC,K2,_,L2,_,_,N2,_⟩:=hP.open_;have O2:nl=0:=by rw[N2,hc.nl];rfl
 have k1:=hc.nc;have k2:=hc.nm;have k3:=hc.nt;have S:=((St.refl w0).nilEnt 58).nilEnt 66;refine a0a func91 Z ntmps91 Z ?_;refine wO0 Z U (r0a S Z ?_);intro g1 w1 S1 X1 G1;refine h0a S1 A1b Z Z ?_;intro g2 w2 S2 X2 G2;refine lO S2.k [.o 1] Z ⟨Z,U⟩ (o0a S2 L9c Z Z (g9b M (g2::M) _ _ p.cells (hC.keep (S2.keep0 M)) (by omega) (e2b S2 0 Z hM)) ?_);rintro n3 S0 i2 u2 e3;obtain⟨O0,R0,P0,rfl⟩:=i2.form;have KC:=y0a.refl (g2::M) S0;refine j1a Y9b (vs:=[(0,.slice _ _ _)]) (cs:=[_,_,_,_]) Z Z Z Z ?_;refine h0a u2 A1b Z Z ?_;intro g3 w3 S3 X3 G3;have D0:=Nat.le_trans KC.size G3;replace KC:=KC.trans (X3.of_nil);refine b0a (kk:=0) (vs:=[_,_,_,_]) S3 u1b Z Z Z Z Z Z Z ?_;intro R2 E0 A1;dsimp only[d0a,List.set] at E0;replace KC:=KC.fresh2 A1 (by exact .inl D0);refine lC E0.k [.o 2] Z ⟨Z,U⟩ (wL (fun μk D ε w=>D=[]∧∃k:Nat,∃G:Option Nat,∃t0:List Value,∃v:Value,(k+μk=(p.modules.length))∧(y1a x0a 11 (g3::g2::M) w G t0 v (p.modules.take k))∧(∀g∈G.toList,S0.heap.size≤g)∧(y0a (g2::M) S0 w)∧St [] w0 w [(some g3,27,[.slice O0 R0 P0,v,.slice none 0 0,.slice none 0 0]),(some g2,27,[.slice none 0 0,.slice none 0 0,.slice none 0 0,.slice none 0 0]),(some g1,27,[.slice Ac nc cc,.slice Am nm cm,.slice Al nl cl,.slice At nt ct]),(G,66,t0),(none,58,[])]∧Sl ε [(1,.pointer (some ⟨g1,0,none⟩)),(2,.pointer (some ⟨g2,0,none⟩)),(3,.pointer (some ⟨g3,0,none⟩)),(15,.slice Am nm cm),(16,.int .i64 nm),(17,.int .i64 k)]) (μ:=(p.modules.length)) ⟨Z,0,none,[],.slice none 0 0,by omega,y1a.nil,by simp,KC,E0,Z⟩ ?_);rintro μk D ε w ⟨rfl,k,G,t0,v,_,A0,P1,KC,S,eZ⟩;refine wK eZ ?_;have KR:=y0a.refl (G.toList++g3::g2::M) w;refine wB0 Z U (fun H2=>?_) fun H2=>?_
 ·obtain⟨m,C2,P2,_,j2,E1,_,Q1,N1,T1⟩:=RdS.get (K2) (k) (by omega);obtain⟨_,_,_,r1,W1,D1,T0,j1,c1,rfl,K1,I1,H1,_⟩:=x0a.open_ T1;have U1:=hc.mods m (e0a j2);refine lO (S.k.a N1) [.x C2 P2,.v 0] Z ⟨⟨Z,Q1⟩,⟨E1,by omega⟩,U⟩ (h0a S m2c Z Z ?_);intro g5 w5 S5 X5 G5;have y0:=Nat.le_trans KC.size G5;have z0:=Nat.le_trans KR.size G5;replace KC:=KC.trans (X5.of_nil);replace KR:=KR.trans (X5.of_nil);refine b0a (kk:=0) (vs:=[_,_,_,_,_,_,_,_,_,_,_]) S5 p0c Z Z Z Z Z Z Z ?_;intro T2 F0 Y0;dsimp only[d0a,List.set] at F0;replace KC:=KC.fresh2 Y0 (by exact .inl y0);replace KR:=KR.fresh2 Y0 (by exact .inl z0);refine lC0 Z U (H0a c0a [0,1,3,4,6,7,9] [2,5,8] [10,11,12,13,14] Z (Cl _ _ _ _) (Cl.start F0) ?_);refine qN F0.q [.o 0,.o 0,.o 0] Z ⟨Z,Z,Z,U⟩ (R3a ?_);refine E4a (fun v w=>∃cs:List Value,v=.agg cs.toArray∧RdE (G.toList++g5::g3::g2::M) w m.rely cs) Z Z y8a Z (fun v w w' ⟨cs,h,hr⟩ k=>⟨cs,h,RdE.keep k.of_nil _ _ hr⟩) (fun w1 S1 X1=>a6a m.rely U1.1 (G.toList++g5::g3::g2::M) _ _ (RdE.keep (S1.keep0 _) _ _ (RdE.more (fun x hx=>F3a S1 x ((D5a 4 Z (D5a (G:=some g5) 0 Z (D5a (G:=some g3) 1 Z (S1b 2 Z)))) x hx)) _ _ K1)) (fun x hx=>A4a S1 hM x ((D5a 4 Z (D5a (G:=some g5) 0 Z (D5a (G:=some g3) 1 Z (S1b 2 Z)))) x hx))) ?_;refine E4a (fun v w=>∃cs:List Value,v=.agg cs.toArray∧RdE (G.toList++g5::g3::g2::M) w m.guar cs) Z Z y8a Z (fun v w w' ⟨cs,h,hr⟩ k=>⟨cs,h,RdE.keep k.of_nil _ _ hr⟩) (fun w1 S1 X1=>a6a m.guar U1.2.1 (G.toList++g5::g3::g2::M) _ _ (RdE.keep (S1.keep0 _) _ _ (RdE.more (fun x hx=>F3a S1 x ((D5a 4 Z (D5a (G:=some g5) 0 Z (D5a (G:=some g3) 1 Z (S1b 2 Z)))) x hx)) _ _ I1)) (fun x hx=>A4a S1 hM x ((D5a 4 Z (D5a (G:=some g5) 0 Z (D5a (G:=some g3) 1 Z (S1b 2 Z)))) x hx))) ?_;refine E4a (fun v w=>RdI (G.toList++g5::g3::g2::M) w v m.frame) Z Z G1c Z (fun v w w' h k=>h.keep k.of_nil) (fun w1 S1 X1=>y5b (G.toList++g5::g3::g2::M) M _ _ m.frame (H1.keep (S1.keep0 M)) (by have:=U1.2.2;omega) (fun x hx=>A4a S1 hM x ((D5a 4 Z (D5a (G:=some g5) 0 Z (D5a (G:=some g3) 1 Z (S1b 2 Z)))) x hx))) ?_;refine O1a ?_;rintro y3 ⟨y2,e2⟩;rintro q3 x0;rintro p3 ⟨_,rfl,v0⟩;rintro o3 ⟨_,rfl,u0⟩;dsimp only[y3a];replace KC:=KC.trans (e2.of_nil);replace KR:=KR.trans (e2.of_nil);obtain⟨q1,V1,Y1,rfl,-⟩:=u0.open_;obtain⟨Z1,m2,o2,rfl,-⟩:=v0.open_;obtain⟨a2,n2,f2,rfl⟩:=x0.form;refine b0a (kk:=0) (vs:=[_,_,_,_]) y2 w0a Z Z Z Z Z Z Z ?_;intro m1 G0 c0;have V0:St [] w0 m1 [(some g5,66,[.string m.name,.string m.owner,.int .i64 m.rely.op,.int .i64 m.rely.w,.int .i64 m.rely.n,.slice q1 V1 Y1,.int .i64 m.guar.op,.int .i64 m.guar.w,.int .i64 m.guar.n,.slice r1 W1 D1,.slice T0 j1 c1]),(some g3,27,[.slice O0 R0 P0,v,.slice none 0 0,.slice none 0 0]),(some g2,27,[.slice none 0 0,.slice none 0 0,.slice none 0 0,.slice none 0 0]),(some g1,27,[.slice Ac nc cc,.slice Am nm cm,.slice Al nl cl,.slice At nt ct]),(G,66,t0),(none,58,[])]:=G0;replace u0:=RdE.keep (c0.mono (by simp)) _ _ u0;replace v0:=RdE.keep (c0.mono (by simp)) _ _ v0;replace x0:=x0.keep (c0.mono (by simp));replace KC:=KC.fresh2 c0 (.inl y0);replace KR:=KR.fresh2 c0 (.inl z0);refine lO0 Z U (b0a (kk:=0) (vs:=[_,_,_,_]) V0 w0a Z Z Z Z Z Z Z ?_);intro n1 H0 d0;have W0:St [] w0 n1 [(some g5,66,[.string m.name,.string m.owner,.int .i64 m.rely.op,.int .i64 m.rely.w,.int .i64 m.rely.n,.slice q1 V1 Y1,.int .i64 m.guar.op,.int .i64 m.guar.w,.int .i64 m.guar.n,.slice Z1 m2 o2,.slice T0 j1 c1]),(some g3,27,[.slice O0 R0 P0,v,.slice none 0 0,.slice none 0 0]),(some g2,27,[.slice none 0 0,.slice none 0 0,.slice none 0 0,.slice none 0 0]),(some g1,27,[.slice Ac nc cc,.slice Am nm cm,.slice Al nl cl,.slice At nt ct]),(G,66,t0),(none,58,[])]:=H0;replace u0:=RdE.keep (d0.mono (by simp)) _ _ u0;replace v0:=RdE.keep (d0.mono (by simp)) _ _ v0;replace x0:=x0.keep (d0.mono (by simp));replace KC:=KC.fresh2 d0 (.inl y0);replace KR:=KR.fresh2 d0 (.inl z0);refine lO0 Z U (U0a (hy:=Z) (kk:=0) W0 y3b Z (v:=.slice a2 n2 f2) Z Z (Nat.le_of_ble_eq_true Z) ?_);intro o1 I0 e0;have j0:St [] w0 o1 [(some g5,66,[.string m.name,.string m.owner,.int .i64 m.rely.op,.int .i64 m.rely.w,.int .i64 m.rely.n,.slice q1 V1 Y1,.int .i64 m.guar.op,.int .i64 m.guar.w,.int .i64 m.guar.n,.slice Z1 m2 o2,.slice a2 n2 f2]),(some g3,27,[.slice O0 R0 P0,v,.slice none 0 0,.slice none 0 0]),(some g2,27,[.slice none 0 0,.slice none 0 0,.slice none 0 0,.slice none 0 0]),(some g1,27,[.slice Ac nc cc,.slice Am nm cm,.slice Al nl cl,.slice At nt ct]),(G,66,t0),(none,58,[])]:=I0;replace u0:=RdE.keep (e0.mono (by simp)) _ _ u0;replace v0:=RdE.keep (e0.mono (by simp)) _ _ v0;replace x0:=x0.keep (e0.mono (by simp));replace KC:=KC.fresh2 e0 (.inl y0);replace KR:=KR.fresh2 e0 (.inl z0);refine lO0 Z U (L0a K8a Z (by exact j0.cell 1 Z Z) Z ?_);refine lO j0.k [.w 0] Z ⟨⟨Z,Z⟩,U⟩ (C0a j0 B5a (vs:=[.agg _]) (cs:=[_,_,_,_,_,_,_,_,_,_,_]) Z Z Z Z Z Z ?_);intro h3 t3 b2 X0 Z2;replace u0:=RdE.keep (X0.of_nil) _ _ u0;replace v0:=RdE.keep (X0.of_nil) _ _ v0;replace KC:=KC.trans (X0.of_nil);replace KR:=KR.trans (X0.of_nil);replace x0:=x0.keep (X0.of_nil);have K0:=y1a.keep x1a A0 KR;refine P1a x1a (k:=5) (M2:=g3::g2::M) (e1:=m) b2 B5a Z K0 Z Z (b2.cells 0 Z) ⟨_,_,_,_,_,_,_,_,_,Z,RdE.less (fun x hx=>by simp at hx ⊢;grind) _ _ u0,RdE.less (fun x hx=>by simp at hx ⊢;grind) _ _ v0,x0.less (fun x hx=>by simp at hx ⊢;grind)⟩ (by rw[List.length_take];omega) Z ?_;intro v37 a3 E2 u3 x2 f0 z2 s2;obtain⟨_,_,rfl⟩:=y1a.form f0;have A2:=KC.size;replace KC:=KC.freshL z2 (fun g hg=>.inl (P1 g hg));refine lO0 Z U (U0a (kk:=2) x2 t1d Z Z Z (by exact Nat.le_of_ble_eq_true Z) ?_);intro U2 x1 Z0;replace KC:=KC.fresh2 Z0 (by exact .inl D0);refine lP0 Z ⟨by omega,U⟩ ⟨μk-1,by omega,Z,(k+1),(_),(_),(_),(by omega),?_,?_,(KC),x1.tail.tail,Z⟩
  ·rw[t0a j2];exact y1a.keep x1a f0 (Z0.mono (by simp))
  ·intro g hg;rcases s2 g hg with h|h;exact P1 g h;exact Nat.le_trans A2 h
 refine lCn 8 S.k [] Z U ?_;obtain⟨wD,N0⟩:∃x,x=w:=⟨_,Z⟩;have KD:y0a (g3::g2::M) wD w:=N0▸y0a.refl _ _;have J1:y1a x0a 11 (g3::g2::M) wD G t0 v p.modules:=by
  rw[N0];have hr:=A0;rw[List.take_of_length_le (by omega)] at hr;exact hr
 have j3:RdS (g3::g2::M) wD 11 (x0a (g3::g2::M) wD) v p.modules:=by
  rw[N0];have hr:=A0;rw[List.take_of_length_le (by omega)] at hr;exact y1a.rd x1a hr S (k:=3) Z (fun g hg hh=>by
   subst hg;rcases List.mem_cons.1 hh with hh|hh
   ·exact S.ne 0 3 Z Z (by omega) hh.symm
   rcases List.mem_cons.1 hh with hh|hh
   ·exact S.ne 1 3 Z Z (by omega) hh.symm
   ·exact Y3a S (k:=3) Z hM hh) (by omega)
 obtain⟨Av,nv,cv,rfl⟩:∃A n c,v=.slice A n c:=by obtain⟨A,c,h⟩:=y1a.form A0;exact⟨_,_,_,h⟩
 refine wC S.k [.o 2] Z ⟨Z,U⟩ (wL (fun μq D ε w=>D=[]∧∃q:Nat,(q+μq=(p.locks.length))∧(y0a (g2::M) S0 w)∧(y0a (g3::g2::M) wD w)∧St [] w0 w [(some g3,27,[.slice O0 R0 P0,.slice Av nv cv,.slice none 0 0,.slice none 0 0]),(some g2,27,[.slice none 0 0,.slice none 0 0,.slice none 0 0,.slice none 0 0]),(some g1,27,[.slice Ac nc cc,.slice Am nm cm,.slice Al nl cl,.slice At nt ct]),(G,66,t0),(none,58,[])]∧Sl ε [(1,.pointer (some ⟨g1,0,none⟩)),(2,.pointer (some ⟨g2,0,none⟩)),(3,.pointer (some ⟨g3,0,none⟩)),(41,.slice Al nl cl),(42,.int .i64 nl),(43,.int .i64 q)]) (μ:=(p.locks.length)) ⟨Z,0,by omega,KC,KD,S,Z⟩ ?_);rintro μq D ε w ⟨rfl,q,_,KC,KD,S,eZ⟩;refine wK eZ ?_;refine wB0 Z U (fun I2=>by exfalso;omega) fun I2=>?_;refine lC S.k [.o 2] Z ⟨Z,U⟩ (wL (fun μj D ε w=>D=[]∧∃j:Nat,∃G2:Option Nat,∃cs2:List Value,∃v2:Value,(j+μj=(p.threads.length))∧(y1a K0a 7 (G.toList++g3::g2::M) w G2 cs2 v2 (p.threads.take j))∧(∀g∈G2.toList,S0.heap.size≤g∧wD.heap.size≤g)∧(y0a (g2::M) S0 w)∧(y0a (g3::g2::M) wD w)∧St [] w0 w [(some g3,27,[.slice O0 R0 P0,.slice Av nv cv,.slice none 0 0,v2]),(some g2,27,[.slice none 0 0,.slice none 0 0,.slice none 0 0,.slice none 0 0]),(some g1,27,[.slice Ac nc cc,.slice Am nm cm,.slice Al nl cl,.slice At nt ct]),(G,66,t0),(G2,58,cs2)]∧Sl ε [(2,.pointer (some ⟨g2,0,none⟩)),(3,.pointer (some ⟨g3,0,none⟩)),(62,.slice At nt ct),(63,.int .i64 nt),(64,.int .i64 j)]) (μ:=(p.threads.length)) ⟨Z,0,none,[],.slice none 0 0,by omega,y1a.nil,by simp,KC,KD,S,Z⟩ ?_);rintro μj D ε w ⟨rfl,j,G2,cs2,v2,_,r0,J0,KC,KD,S,eZ⟩;refine wK eZ ?_;have KQ:=y0a.refl (G2.toList++(G.toList++g3::g2::M)) w;refine wB0 Z U (fun J2=>?_) fun J2=>?_
 ·obtain⟨th,D2,Q2,_,i1,F1,_,R1,O1,d1⟩:=RdS.get (L2) (j) (by omega);obtain⟨_,_,_,_,_,_,_,_,_,_,_,_,rfl,_⟩:=K0a.open_ d1;have Q0:=hc.thr th (e0a i1);refine lO (S.k.a O1) [.x D2 Q2,.v 0] Z ⟨⟨Z,R1⟩,⟨F1,by omega⟩,U⟩ (h0a S g7a Z Z ?_);intro g9 w9 S9 X9 G9;have s1:=Nat.le_trans KC.size G9;have t1:=Nat.le_trans KD.size G9;have u1:=Nat.le_trans KQ.size G9;replace KC:=KC.trans (X9.of_nil);replace KD:=KD.trans (X9.of_nil);replace KQ:=KQ.trans (X9.of_nil);refine b0a (kk:=0) (vs:=[_,_,_,_,_,_,_]) S9 r7a Z Z Z Z Z Z Z ?_;intro s0 i0 m0;dsimp only[d0a,List.set] at i0;replace KC:=KC.fresh2 m0 (by exact .inl s1);replace KD:=KD.fresh2 m0 (by exact .inl t1);replace KQ:=KQ.fresh2 m0 (by exact .inl u1);refine lC0 Z U (b0c c0a (fun i=>[0,1,2,6].contains i) [0,1,2,3,4,5,6] 7 (clE i0 5 G2.toList) _ Z ?_);have a0:=i0.drew;have q0:y0a [] s0 s0.drew:=o2a _ _;generalize s0.drew=W2 at a0 q0 ⊢;have p0:y0a (G2.toList) _ _:=q0.of_nil;replace KC:=KC.trans q0.of_nil;replace KD:=KD.trans q0.of_nil;replace KQ:=KQ.trans q0.of_nil;refine J8a ⟨St.er (a0) 5,p0⟩ Z Z Z ?_;refine u0a e8a Z Z ?_;refine i0a ?_;refine J8a ⟨St.er (a0) 5,p0⟩ Z Z Z ?_;refine k0a D4b Z (fun w1 hw=>by exact hw.1.cell 1 Z Z) Z ?_;refine i0a ?_;refine J8a ⟨St.er (a0) 5,p0⟩ Z Z Z ?_;refine C1a N3b Z (fun w1 hw=>hw.1.cells 0 Z) Z Z ?_;refine i0a ?_;refine D3c ⟨St.er (a0) 5,p0⟩ Z Z Z Z ?_;refine o0a a0 T6c Z Z (B1b th (G2.toList++(G.toList++g3::g2::M)) _ _ (fun x hx=>A4a a0 hM x ((D5a 5 Z (D5a 4 Z (D5a (G:=some g3) 1 Z (S1b 2 Z)))) x hx)) (K0a.keep (a0.keep0 _) _ _ (K0a.more (fun x hx=>F3a a0 x ((D5a 5 Z (D5a 4 Z (D5a (G:=some g3) 1 Z (S1b 2 Z)))) x hx)) _ _ d1)) Q0.1 Q0.2.1 Q0.2.2.1 Q0.2.2.2.1 Q0.2.2.2.2.1 Q0.2.2.2.2.2) ?_;rintro r3 V2 ⟨_,rfl,p2⟩ d2 p1;have B0:=p0.trans (p1.mono (by simp));replace KC:=KC.trans (p1.of_nil);replace KD:=KD.trans (p1.of_nil);replace KQ:=KQ.trans (p1.of_nil);obtain⟨_,_,_,_,_,_,_,_,_,_,_,_,rfl,-⟩:=p2.open_;have v1:=y0a.refl (G2.toList++(G.toList++g3::g2::M)) V2;refine B0a ⟨Z,?_⟩;refine D3c ⟨St.er (d2) 5,B0⟩ Z Z Z Z ?_;refine C0a d2 G8a (vs:=[.agg _]) (cs:=[_,_,_,_,_,_,_]) Z Z Z Z Z Z ?_;intro i3 v3 y1 a1 b3;have C0:=B0.trans (a1.mono (by simp));replace KC:=KC.trans (a1.of_nil);replace KD:=KD.trans (a1.of_nil);replace KQ:=KQ.trans (a1.of_nil);replace v1:=v1.trans (a1.of_nil);refine B0a ⟨Z,?_⟩;refine D3c ⟨St.er (y1.tail) 5,C0⟩ Z Z Z Z ?_;have L0:=y1a.keep k6a r0 KQ;refine P1a k6a (k:=6) (M2:=G.toList++g3::g2::M) (e1:=th) y1 G8a Z L0 Z Z (y1.cells 0 Z) (K0a.keep v1 _ _ p2) (by rw[List.length_take];omega) Z ?_;intro s3 d3 F2 x3 z1 g0 B1 t2;have b1:=C0.trans B1;obtain⟨_,_,rfl⟩:=y1a.form g0;have B2:=KC.size;have C1:=KD.size;replace KC:=KC.freshL B1 (fun g hg=>.inl (J0 g hg).1);replace KD:=KD.freshL B1 (fun g hg=>.inl (J0 g hg).2);refine B0a ⟨Z,?_⟩;refine J8a ⟨St.er (z1.tail) 5,b1⟩ Z Z Z ?_;refine u0a e8a Z Z ?_;refine i0a ?_;refine v8b ⟨St.er (z1.tail) 5,b1⟩ ?_;refine U0a (kk:=2) z1 D3d Z Z Z (by exact Nat.le_of_ble_eq_true Z) ?_;intro q2 U0 n0;replace KC:=KC.fresh2 n0 (by exact .inl D0);replace KD:=KD.fresh2 n0 (by exact .inr (by simp));refine B0a ⟨Z,?_⟩;refine fP0 Z ⟨by omega,U⟩ ⟨μj-1,by omega,Z,(j+1),(_),(_),(_),(by omega),?_,?_,(KC),(KD),U0.tail.tail,Z⟩
  ·rw[t0a i1];exact y1a.keep k6a g0 (n0.mono (by simp))
  ·intro g hg;rcases t2 g hg with h|h;exact J0 g h;exact⟨Nat.le_trans B2 h,Nat.le_trans C1 h⟩
 refine lCn 7 S.k [] Z U ?_;obtain⟨wT,f1⟩:∃x,x=w:=⟨_,Z⟩;have KT:y0a (G.toList++g3::g2::M) wT w:=f1▸y0a.refl _ _;have M1:RdS (G.toList++g3::g2::M) wT 7 (K0a (G.toList++g3::g2::M) wT) v2 p.threads:=by
  rw[f1];have hr:=r0;rw[List.take_of_length_le (by omega)] at hr;exact y1a.rd k6a hr S (k:=4) Z (fun g hg hh=>by
   subst hg;rcases List.mem_append.1 hh with hh|hh
   ·have hG:G=some g:=by cases G<;>simp at hh ⊢;exact hh.symm
    subst hG;exact S.ne 3 4 Z Z (by omega) Z
   rcases List.mem_cons.1 hh with hh|hh
   ·exact S.ne 0 4 Z Z (by omega) hh.symm
   rcases List.mem_cons.1 hh with hh|hh
   ·exact S.ne 1 4 Z Z (by omega) hh.symm
   ·exact Y3a S (k:=4) Z hM hh) (by omega)
 obtain⟨Y2,m3,f3,rfl⟩:∃A n c,v2=.slice A n c:=by obtain⟨A,c,h⟩:=y1a.form r0;exact⟨_,_,_,h⟩
 refine wO S.k [.w 0] Z ⟨⟨Z,Z⟩,U⟩ (b0a (kk:=1) (vs:=[_,_,_,_]) S u1b Z Z Z Z Z Z Z ?_);intro r2 b0 o0;dsimp only[d0a,List.set] at b0;replace KC:=KC.fresh2 o0 (by exact .inr (by simp));replace KD:=KD.fresh2 o0 (by exact .inr (by simp));replace KT:=KT.fresh2 o0 (by exact .inr (by simp));refine lR0 Z U (g0a Z P4a Z (b0.cells 1 Z) Z ⟨⟨_,_,_,G,t0,Z,fun g hg=>?_,?_,?_,?_⟩,b0.fin⟩)
 ·subst hg;exact⟨by simpa using b0.new 3 Z,b0.blk 3 Z⟩
 ·exact y1a.more x1a (y1a.keep x1a J1 (KD.mono (fun g hg=>List.mem_append_right _ hg))) (fun g hg=>.inl (.inr (by simp[hg])))
 ·exact((i2.more (M':=G.toList++g2::M) (by omega) (fun g hg=>by rcases List.mem_append.1 hg with h|h;exact .inr (P1 g h);exact .inl h)).keep (KC.mono (fun g hg=>by simp at hg ⊢;grind))).less (fun g hg=>by simp at hg ⊢;grind)
 ·exact RdS.lessW (RdS.keepW M1 KT (K0a.keep KT)) (fun g hg=>by simp at hg ⊢;grind) (K0a.less (fun g hg=>by simp at hg ⊢;grind))
theorem F6b(p:j0a)(hn:¬p1a p)(M:List Nat)(w0:World)(cs:List Value)(hP:a1a M w0 p cs)(hN:S5a p)(hK:k2a M w0)(hM:∀g∈M,g<w0.heap.size):
 O0a prog 49 #[.agg cs.toArray] w0 fun v w'=>v=.bool false∧Bw w0 w':=by
 obtain⟨_,_,_,_,_,_,_,_,_,_,_,_,rfl,_⟩:=hP.open_;have S:=St.refl w0;refine a0a func49 Z ntmps49 Z ?_;refine wO0 Z U (r0a S Z ?_);intro g1 w1 S1 X1 G1;refine lO S1.k [.w 0] Z ⟨⟨Z,by rfl⟩,U⟩ (o0a S1 p2b Z Z (a4b p M _ _ (hP.keep (S1.keep0 M)) hN (hK.keep (S1.keep0 M)) (fun g hg=>Nat.lt_of_lt_of_le (hM g hg) S1.size)) ?_);rintro v8 w8 ⟨a,_,_,rfl,b0,-⟩ S8 X8;have c0:a≠0:=fun h=>hn (b0.1 h);refine lB0 Z U (fun a0=>by exfalso;omega) fun a0=>?_;exact lT Z U Z ⟨Z,S8.fin⟩
theorem N9b(p:j0a)(hn:¬p1a p)(M:List Nat)(w0:World)(cs:List Value)(hP:a1a M w0 p cs)(hN:S5a p)(hK:k2a M w0)(hM:∀g∈M,g<w0.heap.size):
 O0a prog 46 #[.agg cs.toArray] w0 fun v w'=>(∃ys:List Value,v=.tuple #[.agg ys.toArray,.int .i64 1])∧Bw w0 w':=by
 obtain⟨_,_,_,_,_,_,_,_,_,_,_,_,rfl,_⟩:=hP.open_;have S:=St.refl w0;refine a0a func46 Z ntmps46 Z ?_;refine wO0 Z U (r0a S Z ?_);intro g1 w1 S1 X1 G1;refine h0a S1 A1b Z Z ?_;intro g2 w2 S2 X2 G2;refine lO S2.k [.w 1] Z ⟨⟨Z,by rfl⟩,U⟩ (W0a S2 r4b Z Z (F6b p hn M _ _ (hP.keep (S2.keep0 M)) hN (hK.keep (S2.keep0 M)) (fun g hg=>Nat.lt_of_lt_of_le (hM g hg) S2.size)) ?_);intro f0 b0 e0;refine lO0 Z U (j1a Y9b (vs:=[]) (cs:=[_,_,_,_]) Z Z Z Z ?_);refine b0a (kk:=0) (vs:=[_,_,_,_]) b0 u1b Z Z Z Z Z Z Z ?_;intro d0 a0 c0;dsimp only[d0a,List.set] at a0;exact lR0 Z U (Q2a (v:=.int .i64 1) Z P4a Z (a0.cells 0 Z) Z Z ⟨⟨_,Z⟩,a0.fin⟩)
theorem y1a.put{α:Type}{R:List Nat→World→List Value→α→Prop}{size:Nat}(hL:M4a R size){M:List Nat}{w w':World}{G:Option Nat}{cs us:List Value}{v:Value}{l:List α}{i j o:Nat}{x x':α}(h:y1a R size M w G cs v l)(hi:l[i]?=some x)(ho:o=i*size+j)(hj:j+us.length≤size)(h1:∀u∈us,u.oneCell'=true)
 (hR:∀c,R (G.toList++M) w c x→R (G.toList++M) w' (d0a c j us) x') (hk:y0a (G.toList++M) w w'):y1a R size M w' G (d0a cs o us) v (l.set i x'):=by
 obtain⟨css,q1,q2,q3,q4⟩:=h;have a0:M8b size w G cs v css:=⟨css,Z,q2,by rw[q1];exact q3,fun k c hk=>by
  have b0:=(List.getElem?_eq_some_iff.1 hk).1;obtain⟨c',h5,h6⟩:=q4 k l[k] (List.getElem?_eq_getElem (by omega));rw[hk] at h5;cases h5;exact⟨c,hk,Z,hL.len h6,hL.one h6⟩⟩
 obtain⟨c,h5,h6⟩:=q4 i x hi;obtain⟨xs,_,r2,r3,r4⟩:=a0.put h5 ho hj h1;have hx:xs=css.set i (d0a c j us):=by
  refine List.ext_getElem? fun k=>?_;cases hk:(css.set i (d0a c j us))[k]? with
  | none=>rw[List.getElem?_eq_none_iff] at hk ⊢;omega
  | some x=>obtain⟨y,h5,h6⟩:=r4 k x hk;rw[h5,h6.1]
 subst hx;refine⟨_,by simp[q1],r2,by rw[List.length_set] at r3 ⊢;rw[←q1];exact r3,fun k y hy=>?_⟩;by_cases e:k=i
 ·subst e;rw[List.getElem?_set_self (M2a hi)] at hy;cases hy;exact⟨_,List.getElem?_set_self (M2a h5),hR c h6⟩
 ·rw[List.getElem?_set_ne (fun h=>e h.symm)] at hy;obtain⟨c',h7,h8⟩:=q4 k y hy;exact⟨c',by rw[List.getElem?_set_ne (fun h=>e h.symm)];exact h7,hL.keep hk h8⟩
theorem y1a.at{α:Type}{R:List Nat→World→List Value→α→Prop}{size:Nat}{M:List Nat}{w:World}{G:Option Nat}{cs:List Value}{A:Option Addr}{n c:Nat}{l:List α}(h:y1a R size M w G cs (.slice A n c) l)(h0:0<l.length):∃g,G=some g∧A=some ⟨g,0,none⟩∧n=l.length∧l.length*size≤cs.length:=by
 obtain⟨_,_,_,⟨_,hr⟩,_⟩:=h;rcases hr with⟨rfl,he,h5⟩|⟨g,a0,rfl,he,r1,r2,r3,r4⟩
 ·omega
 ·simp only[Value.slice.injEq] at he;exact⟨g,Z,he.1,he.2.1,by rw[r3];exact Nat.mul_le_mul_right _ r1⟩
def C8b(m:P0a)(e:E):P0a:=⟨m.name,m.owner,e,m.guar,m.frame⟩
def T2b(p:j0a)(k:Nat)(ms:List P0a):Prop:=ms.length=p.modules.length∧(∀(i:Nat) (m:P0a),i<k→p.modules[i]?=some m→∃s,Y8a p i s∧ms[i]?=some (C8b m (d6a p s).1))∧∀i:Nat,k≤i→ms[i]?=p.modules[i]?
theorem T2b.zero(p:j0a):T2b p 0 p.modules:=⟨Z,fun i m h=>absurd h (by omega),fun i _=>rfl⟩
theorem T2b.next{p:j0a}{k:Nat}{ms:List P0a}(h:T2b p k ms){m:P0a}(hm:p.modules[k]?=some m){s:List Int}(hs:Y8a p k s):T2b p (k+1) (ms.set k (C8b m (d6a p s).1)):=by
 obtain⟨h1,h2,h3⟩:=h;have hk:=M2a hm;refine⟨by simpa using h1,fun i m' hi a0=>?_,fun i hi=>?_⟩
 ·by_cases e:i=k
  ·subst e;rw[hm] at a0;cases a0;exact⟨s,hs,List.getElem?_set_self (by omega)⟩
  ·obtain⟨s',h4,h5⟩:=h2 i m' (by omega) a0;exact⟨s',h4,by rw[List.getElem?_set_ne (fun h=>e h.symm)];exact h5⟩
 ·rw[List.getElem?_set_ne (by omega)];exact h3 i (by omega)
theorem K4c{M:List Nat}{w w':World}{c es:List Value}{m:P0a}{e:E}(h:x0a M w c m)(hk:y0a M w w')(he:RdE M w' e es):x0a M w' (d0a c 2 es) (C8b m e):=by
 obtain⟨_,_,_,rfl,-⟩:=he.open_;obtain⟨_,_,_,_,k0,k1,k2,k3,vf,rfl,_,h2,h3⟩:=x0a.keep hk _ _ h;exact⟨_,_,_,_,k0,k1,k2,k3,vf,Z,he,h2,h3⟩
theorem T7c(p:j0a)(hc:V0c p)(hz:∀m∈p.modules,m.rely.op=0)(he:∀i,i<p.modules.length→∀s,Y8a p i s→(d6a p s).2=0)(M:List Nat)(w0:World)(cs:List Value)(hI:InP p M w0 cs):
 O0a prog 46 #[.agg cs.toArray] w0 fun v w'=>(∃Bc mc dc Av nv cv Bt mt dt ms,v=.tuple #[.agg #[.slice Bc mc dc,.slice Av nv cv,.slice none 0 0,.slice Bt mt dt],.int .i64 0]∧RdS M w' 11 (x0a M w') (.slice Av nv cv) ms∧T2b p p.modules.length ms)∧Bw w0 w':=by
 obtain⟨Ac,nc,cc,Am,nm,cm,Al,nl,cl,At,nt,ct,rfl,_,W0,_⟩:=hI.rd.open_;have hM:=hI.lt;have hp:=hI.ok;have Y0:=hp.nmodules;have S:=St.refl w0;refine a0a func46 Z ntmps46 Z ?_;refine wO0 Z U (r0a S Z ?_);intro g1 w1 S1 X1 G1;refine h0a S1 A1b Z Z ?_;intro g2 w2 S2 X2 G2;refine lO S2.k [.w 1] Z ⟨⟨Z,Z⟩,U⟩ (W0a S2 r4b Z Z (i6a p M _ _ (hI.keep (S2.keep0 M))) ?_);intro q1 i0 j1;refine lO i0.k [.w 1] Z ⟨⟨Z,Z⟩,U⟩ ?_;have Sb:=i0;refine o0a i0 r1d Z Z (d3c p hc (g2::M) _ _ (e2b i0 0 Z hM) ((hI.rd.more (o5a i0 (k:=0) Z)).keep (i0.keep0 _))) ?_;rintro o1 b1 ⟨_,_,_,G,R0,rfl,V0,c0,A0,C0⟩ L0 m1;have u0:=L0.pushO Sb V0;obtain⟨Av,cv,rfl⟩:=c0.form;obtain⟨Bc,mc,dc,rfl⟩:=A0.form;obtain⟨Bt,mt,dt,rfl⟩:=C0.form;have KR:=y0a.refl (G.toList++g2::M) b1;refine h0a u0 A1b Z Z ?_;intro g4 w4 S4 X4 G4;have q0:=Nat.le_trans KR.size G4;replace KR:=KR.trans (X4.of_nil);refine b0a (kk:=0) (vs:=[_,_,_,_]) S4 u1b Z Z Z Z Z Z Z ?_;intro d1 d0 v0;dsimp only[d0a,List.set] at d0;replace KR:=KR.fresh2 v0 (by exact .inl q0);refine lC d0.k [.o 3] Z ⟨Z,U⟩ (wL (fun μk D ε w=>D=[]∧∃k:Nat,∃y0:List Value,∃ms:List P0a,(k+μk=(p.modules.length))∧(y1a x0a 11 (g2::M) w G y0 (.slice Av p.modules.length cv) ms)∧(T2b p k ms)∧St [] w0 w [(some g4,27,[.slice Bc mc dc,.slice Av p.modules.length cv,.slice none 0 0,.slice Bt mt dt]),(G,66,y0),(some g2,27,[.slice none 0 0,.slice none 0 0,.slice none 0 0,.slice none 0 0]),(some g1,27,[.slice Ac nc cc,.slice Am nm cm,.slice Al nl cl,.slice At nt ct])]∧Sl ε [(1,.pointer (some ⟨g1,0,none⟩)),(2,.pointer (some ⟨g2,0,none⟩)),(4,.pointer (some ⟨g4,0,none⟩)),(16,.slice Am nm cm),(17,.int .i64 nm),(18,.int .i64 k)]) (μ:=(p.modules.length)) ⟨Z,0,R0,p.modules,by omega,y1a.keep x1a c0 KR,T2b.zero p,d0,Z⟩ ?_);rintro μk D ε w ⟨rfl,k,y0,ms,_,f0,p0,S,eZ⟩;refine wK eZ ?_;have KR:=y0a.refl (G.toList++g2::M) w;have n1:=p0.1;refine wB0 Z U (fun S0=>?_) fun S0=>?_
 ·obtain⟨m,Q0,a1,_,G0,z0,_,E0,D0,F0⟩:=RdS.get (W0) (k) (by omega);obtain⟨_,_,_,_,_,_,_,_,_,rfl,_⟩:=x0a.open_ F0;have Z0:=hz m (e0a G0);refine lO (S.k.a D0) [.x Q0 a1,.v 0] Z ⟨⟨Z,E0⟩,⟨z0,by omega⟩,U⟩ (h0a S m2c Z Z ?_);intro g6 w6 S6 X6 G6;have r0:=Nat.le_trans KR.size G6;replace KR:=KR.trans (X6.of_nil);refine lO0 Z U (b0a (kk:=0) (vs:=[_,_,_,_,_,_,_,_,_,_,_]) S6 p0c Z Z Z Z Z Z Z ?_);intro f1 b0 x0;dsimp only[d0a,List.set] at b0;replace KR:=KR.fresh2 x0 (by exact .inl r0);refine lB b0.k [.o 0] Z ⟨Z,U⟩ (fun T0=>by exfalso;omega) fun T0=>?_;refine lO b0.k [.w 4] Z ⟨⟨Z,Z⟩,U⟩ (o0a b0 r2c Z Z (E0b (hm:=(by omega)) p k (G.toList++g2::M) _ _ (hI.newL (b0.keep0 _) (fun x hx=>F3a b0 x (D5a 2 Z (S1b 3 Z) x hx)) (fun x hx=>A4a b0 hM x (D5a 2 Z (S1b 3 Z) x hx)))) ?_);rintro p1 c1 ⟨s,_,hs,rfl,I0⟩ N0 P0;replace KR:=KR.trans (P0.of_nil);obtain⟨_,_,_,rfl,-⟩:=I0.open_;have KY:=y0a.refl (G.toList++g2::M) c1;have X0:=he k (by omega) s hs;refine lO0 Z U (h0a N0 w1a Z Z ?_);intro g7 w7 S7 X7 G7;have s0:=Nat.le_trans KR.size G7;have t0:=Nat.le_trans KY.size G7;replace KR:=KR.trans (X7.of_nil);replace KY:=KY.trans (X7.of_nil);refine b0a (kk:=0) (vs:=[_,_,_,_]) S7 w0a Z Z Z Z Z Z Z ?_;intro i1 e0 n0;dsimp only[d0a,List.set] at e0;replace KR:=KR.fresh2 n0 (by exact .inl s0);replace KY:=KY.fresh2 n0 (by exact .inl t0);refine lB0 Z U (fun U0=>by exfalso;omega) fun U0=>?_;obtain⟨_,B0,_,-,_⟩:=y1a.at f0 (by omega);refine lO e0.k [.o 2,.w 0] Z ⟨⟨Z,by rfl⟩,Z,U⟩ (M0a B5a.slT Z (by assumption) Z Z ?_);refine lO0 Z U ?_;refine b0a (kk:=3) (vs:=[_,_,_,_]) e0 w0a Z Z Z Z Z (by rw[←B0];rfl) (by rw[Nat.ble_eq];omega) ?_;intro H0 j0 O0;rw[←B0] at j0;have K0:=j0;have KX:y0a (G.toList++g2::M) _ H0:=O0.mono (fun g hg=>by rw[B0];simp at hg ⊢;exact .inl hg);have g0:=y1a.put x1a f0 (i:=k) (j:=2) (o:=0+(k:Int).toNat*11+2) (x':=C8b m (d6a p s).1) (by rw[p0.2.2 k (Nat.le_refl _)];exact G0) (by omega) (by simp) (by simp[Value.oneCell']) (fun c hc=>K4c hc (KR.trans KX) (RdE.keep (KY.trans KX) _ _ I0)) (KR.trans KX);replace KR:=y0a.refl (G.toList++g2::M) H0;replace KY:=y0a.refl (G.toList++g2::M) H0;refine lP0 Z ⟨by omega,U⟩ ⟨μk-1,by omega,Z,(k+1),(_),(_),(by omega),(g0),(p0.next G0 hs),K0.tail.tail,Z⟩
 refine lO S.k [.w 0] Z ⟨⟨Z,Z⟩,U⟩ (b0a (kk:=2) (vs:=[_,_,_,_]) S u1b Z Z Z Z Z Z Z ?_);intro o0 a0 m0;dsimp only[d0a,List.set] at a0;refine lR0 Z U (Q2a (v:=.int .i64 0) Z P4a Z (a0.cells 2 Z) Z Z ⟨⟨Bc,mc,dc,_,_,_,Bt,mt,dt,ms,Z,?_,?_⟩,a0.fin⟩)
 ·have J0:y0a (G.toList++g2::M) _ o0:=m0.mono (by simp);exact RdS.lessW (y1a.rd x1a (y1a.keep x1a f0 J0) a0 (k:=1) Z (fun g hg hh=>by
   subst hg;rcases List.mem_cons.1 hh with hh|hh
   ·exact a0.ne 1 2 Z Z (by omega) hh
   ·exact Y3a a0 (k:=1) Z hM hh) (by omega)) (fun g hg=>by simp[hg]) (x0a.less (fun g hg=>by simp[hg]))
 ·rw[show p.modules.length=k by omega];exact p0
def x9b(w v:Int):E:=⟨1,w,v,[]⟩
def e4a(nm:ByteArray)(k v:Int)(e:E):s1a:=⟨nm,2,[v2a,v2a],[k,k],[⟨3,0,1,v2a,[⟨v,e⟩],false,0,k⟩],[],false⟩
def E1b(e:E):j0a:=⟨[⟨⟨#[120]⟩,1,0,-1,false,0⟩,⟨⟨#[121]⟩,1,0,-1,false,0⟩],[⟨⟨#[65]⟩,⟨#[65,110,110]⟩,zE,y1c,[0]⟩,⟨⟨#[66]⟩,⟨#[66,111,98]⟩,zE,v2a,[1]⟩],[],[e4a ⟨#[116]⟩ 0 0 (x9b 1 1),e4a ⟨#[117]⟩ 1 1 e]⟩
abbrev j3a:j0a:=E1b (x9b 1 0)
theorem n3b:p1a j3a:=p4c (by kernel_rfl)
theorem M3c:¬p1a (E1b (x9b 2 0)):=fun h=>by
 have h1:=((h.threads 1 (by decide)).steps _ (show _∈[_] from List.mem_cons_self)).set _ (show _∈[_] from List.mem_cons_self);have h2:(2:Int)=1:=h1.2.2;omega
def z2d(c:Int):E:=⟨11,1,0,[⟨3,1,c,[]⟩,⟨2,1,c,[]⟩]⟩
def W5c:E:=z2d 0
def D6c:E:=⟨5,1,0,[y1c,z2d 1]⟩
theorem Y5b:d6a j3a [1]=(W5c,0):=by kernel_rfl
theorem M5b:d6a j3a [0]=(D6c,0):=by kernel_rfl
theorem C7b:W5c.txt=[101,113,40,111,48,58,49,44,99,48,58,49,41]:=by kernel_rfl
theorem q0d:W5c.wf=true:=by kernel_rfl
theorem H4c:W5c.txB=true:=by kernel_rfl
theorem g8b:D6c.txt=[97,110,100,40,108,101,40,111,48,58,49,44,99,48,58,49,41,44,101,113,40,111,49,58,49,44,99,49,58,49,41,41]:=by kernel_rfl
theorem k8c:D6c.wf=true:=by kernel_rfl
theorem n5c:D6c.txB=true:=by kernel_rfl
theorem c8a(x:Int×Int):d7a j3a 2 x↔x=(0,1)∨x=(1,0):=by
 constructor
 ·rintro⟨t,_,u,_,_,_,_,hu,_,h1,h2,h3,h4,rfl⟩;have a0:u<2:=hu;rcases(show(t=0∧u=1)∨(t=1∧u=0) by omega) with⟨rfl,rfl⟩|⟨rfl,rfl⟩<;>cases h1<;>cases h2<;>simp[e4a] at h3 h4<;>subst h3<;>subst h4<;>simp
 ·rintro(rfl|rfl)
  ·exact⟨0,by omega,1,_,_,_,1,by decide,by omega,Z,Z,List.mem_cons_self,by simp[e4a],Z⟩
  ·exact⟨1,by omega,0,_,_,_,0,by decide,by omega,Z,Z,List.mem_cons_self,by simp[e4a],Z⟩
theorem h7c{l:List (Int×Int)}(hu:l.Pairwise lt2)(h:∀x,x∈l↔d7a j3a 2 x):l=[(0,1),(1,0)] :=
 X4b _ _ hu (by simp[lt2]) fun p=>(h p).trans ((c8a p).trans (by simp))
theorem u4a:∀(a b:List Int),a.Pairwise (·<·)→b.Pairwise (·<·)→(∀x,x∈a↔x∈b)→a=b
 | [],[],_,_,_=>rfl
 | [],y::b,_,_,h=>by have:=(h y).2 (by simp);cases this
 | x::a,[],_,_,h=>by have:=(h x).1 (by simp);cases this
 | x::a,y::b,ha,hb,h=>by
   rw[List.pairwise_cons] at ha hb;have a0:x=y:=by
    rcases List.mem_cons.1 ((h x).1 (by simp)) with h1|h1
    ·exact h1
    ·rcases List.mem_cons.1 ((h y).2 (by simp)) with h2|h2
     ·exact h2.symm
     ·have:=hb.1 x h1;have:=ha.1 y h2;omega
   subst a0
   congr 1
   refine u4a a b ha.2 hb.2 fun z=>⟨fun hz=>?_,fun hz=>?_⟩
   ·rcases List.mem_cons.1 ((h z).1 (List.mem_cons_of_mem _ hz)) with h1|h1
    ·subst h1;have:=ha.1 z hz;omega
    ·exact h1
   ·rcases List.mem_cons.1 ((h z).2 (List.mem_cons_of_mem _ hz)) with h1|h1
    ·subst h1;have:=hb.1 z hz;omega
    ·exact h1
theorem Y6b{s:List Int}(h:Y8a j3a 0 s):s=[1]:=u4a _ _ h.1 (by simp) fun x=>(h.2 x).trans ((c8a _).trans (by simp))
theorem X5b{s:List Int}(h:Y8a j3a 1 s):s=[0]:=u4a _ _ h.1 (by simp) fun x=>(h.2 x).trans ((c8a _).trans (by simp))
theorem s6b{l:List Int}(h:r5a j3a 1 l):l=[1]:=u4a _ _ h.1 (by simp) fun x=>(h.2 x).trans (by
 constructor
 ·rintro⟨_,a0,_,hs,h1,h2,_⟩;obtain⟨_,ha,rfl⟩:=D3a.1 h2;simp only[E1b,List.mem_cons,List.not_mem_nil,or_false] at a0;rcases a0 with rfl|rfl<;>simp[e4a] at hs<;>subst hs<;>simp at h1 ha;subst ha;simp
 ·intro hx;rw[List.mem_singleton] at hx;subst hx;exact⟨_,List.mem_cons_of_mem _ List.mem_cons_self,_,List.mem_cons_self,Z,D3a.2 ⟨_,List.mem_cons_self,Z⟩,Z⟩)
theorem f2c{l:List Int}{x:Int}(h:∀y,y∈l↔y=x):ddI l=[x]:=u4a _ _ (x4b _) (by simp) fun y=>n8a.trans ((h y).trans (by simp))
theorem t3c(k v:Int)(e:E)(t:Int)(he:e.sup 2=[]:=by kernel_rfl):w2a ⟨3,0,1,v2a,[⟨v,e⟩],false,t,k⟩=[v]:=by
 refine f2c fun y=>?_;rw[List.mem_append];have h1:y∉X1a ⟨3,0,1,v2a,[⟨v,e⟩],false,t,k⟩:=fun h=>by
  have h2:=n8a.1 h;have h3:o4a (⟨3,0,1,v2a,[⟨v,e⟩],false,t,k⟩:Z0a) 1=[]:=by
   have:v2a.sup 2=[]:=by kernel_rfl
   simp[o4a,this,he]
  rw[show(⟨3,0,1,v2a,[⟨v,e⟩],false,t,k⟩:Z0a).set.length=1 from rfl,h3] at h2;cases h2
 rw[D3a];constructor
 ·rintro(h|⟨a,ha,rfl⟩)
  ·exact absurd h h1
  ·simp at ha;subst ha;rfl
 ·rintro rfl;exact .inr ⟨_,List.mem_cons_self,Z⟩
theorem W7c:Chg j3a ⟨3,0,1,v2a,[⟨0,x9b 1 1⟩],false,0,0⟩:=by
 have hc:=t3c 0 0 (x9b 1 1) 0;refine⟨by decide,.inr ⟨0,?_,?_⟩⟩
 ·unfold d9a;rw[hc];decide
 ·unfold H8c stC d9a;rw[hc];decide +kernel
theorem N9c:Chg j3a ⟨3,0,1,v2a,[⟨1,x9b 1 0⟩],false,0,1⟩:=by
 have hc:=t3c 1 1 (x9b 1 0) 0;refine⟨by decide,.inr ⟨1,?_,?_⟩⟩
 ·unfold d9a;rw[hc];decide
 ·unfold H8c stC d9a;rw[hc];decide +kernel
theorem U0b{l:List Int}(h:L5c j3a l):l=[]:=by
 refine List.eq_nil_iff_forall_not_mem.2 fun x hx=>?_;obtain⟨h1,h2⟩:=(h.2 x).1 hx;have h3:x<2:=h1.2;refine h2 ?_;rcases(show x=0∨x=1 by omega) with rfl|rfl
 ·exact⟨_,List.mem_cons_self,_,List.mem_cons_self,Z,W7c⟩
 ·exact⟨_,List.mem_cons_of_mem _ List.mem_cons_self,_,List.mem_cons_self,Z,N9c⟩
theorem h3b:∀e∈[zE,y1c,v2a,x9b 1 1,x9b 1 0],Small e:=by
 intro e he;simp only[List.mem_cons,List.not_mem_nil,or_false] at he;rcases he with rfl|rfl|rfl|rfl|rfl
 ·exact⟨0,by decide,by intro k hk;cases hk⟩
 ·refine⟨40,by decide,?_⟩;intro k hk;simp only[y1c,List.mem_cons,List.not_mem_nil,or_false] at hk;rcases hk with rfl|rfl<;>kernel_rfl
 ·exact⟨0,by decide,by intro k hk;cases hk⟩
 ·exact⟨0,by decide,by intro k hk;cases hk⟩
 ·exact⟨0,by decide,by intro k hk;cases hk⟩
theorem v4c(nm:ByteArray)(k v:Int)(e:E)(he:Small e):(e4a nm k v e).loops=[]∧(∀x∈(e4a nm k v e).asserts,Small x)∧(∀s∈(e4a nm k v e).steps,Small s.guard∧(∀a∈s.set,Small a.to)∧s.set.length≤1000)∧(e4a nm k v e).asserts.length≤1000∧(e4a nm k v e).modules.length≤1000∧(e4a nm k v e).steps.length≤1000:=by
 have h1:Small v2a:=h3b _ (by simp);refine⟨Z,fun x hx=>?_,fun s hs=>?_,(by show 2≤1000;omega),(by show 2≤1000;omega),(by show 1≤1000;omega)⟩
 ·simp only[e4a,List.mem_cons,List.not_mem_nil,or_false] at hx;rcases hx with rfl|rfl<;>exact h1
 ·simp only[e4a,List.mem_singleton] at hs;subst hs;refine⟨h1,fun a ha=>?_,(by show 1≤1000;omega)⟩;simp only[List.mem_singleton] at ha;subst ha;exact he
theorem p7b:V0c j3a:=by
 refine⟨Z,by decide,by decide,by decide,fun m hm=>?_,fun th a0=>?_⟩
 ·simp only[E1b,List.mem_cons,List.not_mem_nil,or_false] at hm;rcases hm with rfl|rfl<;>exact⟨h3b _ (by simp),h3b _ (by simp),by simp⟩
 ·simp only[E1b,List.mem_cons,List.not_mem_nil,or_false] at a0;rcases a0 with rfl|rfl<;>exact v4c _ _ _ _ (h3b _ (by simp))
theorem u2d:∀m∈j3a.modules,m.rely.op=0:=by
 intro m hm;simp only[E1b,List.mem_cons,List.not_mem_nil,or_false] at hm;rcases hm with rfl|rfl<;>rfl
theorem e2d:∀i,i<j3a.modules.length→∀s,Y8a j3a i s→(d6a j3a s).2=0:=by
 intro i hi s hs;have a0:i<2:=hi;rcases(show i=0∨i=1 by omega) with rfl|rfl
 ·rw[Y6b hs,Y5b]
 ·rw[X5b hs,M5b]
theorem U2c{ms:List P0a}(h:T2b j3a 2 ms):∃m0 m1,ms=[m0,m1]∧m0.rely=W5c∧m1.rely=D6c:=by
 obtain⟨h1,h2,-⟩:=h;obtain⟨_,i0,e0⟩:=h2 0 _ (by omega) Z;obtain⟨_,i1,e1⟩:=h2 1 _ (by omega) Z;rw[Y6b i0,Y5b] at e0;rw[X5b i1,M5b] at e1
 match ms,h1,e0,e1 with
 | [a,b],_,e0,e1 =>
   simp at e0 e1;exact⟨a,b,Z,by rw[e0];rfl,by rw[e1];rfl⟩
section
variable {P:Program} {r:Option Nat} {N:Nat} {ops:Array Oper} {rest:List Oper} {C:World→Prop} {KQ:Env→Prop} {K:List Deferred→Env→World→Prop} {D:List Deferred} {e:Env} {w:World} {d:Nat} {t:TypeId} {p:String} {af:Array Edge} {x y:Operand} {yt:TypeId}
theorem Eq2.neq{ty:TypeId}(hE:Eq2 P ty)(w:World)(a b:Int×Int):(binOp .neq ty (.agg (pc a).toArray) (.agg (pc b).toArray)).run P w=.ok (.bool (!decide (a=b))) w:=by
 have:=hE.2 w a.1 a.2 b.1 b.2;have hd:decide (a=b)=decide (a.1=b.1∧a.2=b.2):=decide_eq_decide.2 Prod.ext_iff;rw[hd];show(binOp .neq ty (.agg #[.int .i64 a.1,.int .i64 a.2]) (.agg #[.int .i64 b.1,.int .i64 b.2])).run P w=_;rw[run_eql_struct] at this;rw[run_neq_struct]
 revert this
 generalize (Op.equalIn 10000 ty _ _).run P w=a0;intro this;cases a0 with
 | ok z w'=>simp only[Result.andThen_ok] at this ⊢;cases this;rfl
 | halt z w'=>simp[Result.andThen] at this
theorem Eq2.guard{ty:TypeId}(hE:Eq2 P ty)(w:World)(op:BinOp)(x y:Operand)(a b:Int×Int):(eqGuard op ty x y (.agg (pc a).toArray) (.agg (pc b).toArray)).run P w=.ok () w:=run_eqGuard_agg w _ _ _ _ _ _ hE.1
theorem Eq2.eql{ty:TypeId}(hE:Eq2 P ty)(w:World)(a b:Int×Int):(binOp .eql ty (.agg (pc a).toArray) (.agg (pc b).toArray)).run P w=.ok (.bool (decide (a=b))) w:=by
 have hd:decide (a=b)=decide (a.1=b.1∧a.2=b.2):=decide_eq_decide.2 Prod.ext_iff;rw[hd];exact hE.2 w a.1 a.2 b.1 b.2
end
theorem C4c(n wd:Int)(w0:World):O0a prog 85 #[.int .i64 n,.int .i64 wd] w0 fun v w'=>v=.agg #[.int .i64 3,.int .i64 wd,.int .i64 n,.slice none 0 0]∧Bw w0 w':=by
 have S:=St.refl w0;refine a0a func85 Z ntmps85 Z ?_;refine wO0 Z U (h0a S w1a Z Z ?_);intro g4 w4 S4 X4 G4;refine lO0 Z U (j1a I2a (vs:=[(0,.int .i64 _),(1,.int .i64 _),(2,.int .i64 _)]) (cs:=[_,_,_,_]) Z Z Z Z ?_)
 first|refine b0a (kk:=0) (vs:=[_,_,_,_]) S4 w0a Z Z Z Z Z Z Z ?_
 intro c0 a0 b0;dsimp only[d0a,List.set] at a0;exact lR0 Z U (g0a Z m0a Z (a0.cells 0 Z) Z ⟨Z,a0.fin⟩)
theorem M1c(n wd:Int)(w0:World):O0a prog 75 #[.int .i64 n,.int .i64 wd] w0 fun v w'=>v=.agg #[.int .i64 2,.int .i64 wd,.int .i64 n,.slice none 0 0]∧Bw w0 w':=by
 have S:=St.refl w0;refine a0a func75 Z ntmps75 Z ?_;refine wO0 Z U (h0a S w1a Z Z ?_);intro g4 w4 S4 X4 G4;refine lO0 Z U (j1a I2a (vs:=[(0,.int .i64 _),(1,.int .i64 _),(2,.int .i64 _)]) (cs:=[_,_,_,_]) Z Z Z Z ?_)
 first|refine b0a (kk:=0) (vs:=[_,_,_,_]) S4 w0a Z Z Z Z Z Z Z ?_
 intro c0 a0 b0;dsimp only[d0a,List.set] at a0;exact lR0 Z U (g0a Z m0a Z (a0.cells 0 Z) Z ⟨Z,a0.fin⟩)
theorem o2b(n wd:Int)(w0:World):O0a prog 48 #[.int .i64 n,.int .i64 wd] w0 fun v w'=>v=.agg #[.int .i64 1,.int .i64 wd,.int .i64 n,.slice none 0 0]∧Bw w0 w':=by
 have S:=St.refl w0;refine a0a func48 Z ntmps48 Z ?_;refine wO0 Z U (h0a S w1a Z Z ?_);intro g4 w4 S4 X4 G4;refine lO0 Z U (j1a I2a (vs:=[(0,.int .i64 _),(1,.int .i64 _),(2,.int .i64 _)]) (cs:=[_,_,_,_]) Z Z Z Z ?_)
 first|refine b0a (kk:=0) (vs:=[_,_,_,_]) S4 w0a Z Z Z Z Z Z Z ?_
 intro c0 a0 b0;dsimp only[d0a,List.set] at a0;exact lR0 Z U (g0a Z m0a Z (a0.cells 0 Z) Z ⟨Z,a0.fin⟩)
theorem c3a{w:World}{g t:Nat}{cs:List Value}(h:p0a w (g,t,cs)):Cells w g 0 cs:=fun j v hj=>by rw[Nat.zero_add];exact h.cell hj
theorem C5b{M:List Nat}{w w':World}{b:Blk}(hk:y0a M w w')(hm:b.1∉M)(h:p0a w b):p0a w' b:=by
 have:=h.lt;unfold p0a at *;rw[hk.same _ this hm];exact h
theorem s8b{w:World}{g t t':Nat}{cs a0:List Value}(h1:p0a w (g,t,cs))(h2:p0a w (g,t',a0)):t=t'∧cs=a0:=by
 unfold p0a at h1 h2;rw[h1] at h2;simp only[Option.some.injEq,Obj.cells.injEq,Array.mk.injEq] at h2;exact⟨h2.2.1,by simpa using h2.1⟩
theorem K6c{w:World}{g g' t t':Nat}{cs a0:List Value}(h1:p0a w (g,t,cs))(h2:p0a w (g',t',a0))(h:t≠t'):g≠g':=fun e=>by
 subst e;exact h (s8b h1 h2).1
abbrev o4:List Value:=[.int .i64 1,.int .i64 1,.int .i64 1,.slice none 0 0]
def thC(nm:ByteArray)(gA gM gT:Nat):List Value:=[.string nm,.int .i64 2,.slice (some ⟨gA,0,none⟩) 2 2,.slice (some ⟨gM,0,none⟩) 2 2,.slice (some ⟨gT,0,none⟩) 1 1,.slice none 0 0,.bool false]
def ThX(k v:Int)(gA gM gT gS:Nat)(ce:List Value)(w:World):Prop :=
 p0a w (gA,38,o4++o4)∧p0a w (gM,3,[.int .i64 k,.int .i64 k]) ∧
 p0a w (gT,61,[.int .i64 3,.int .i64 0,.int .i64 1,.int .i64 1,.int .i64 1,.int .i64 1,.slice none 0 0,.slice (some ⟨gS,0,none⟩) 1 1,.bool false,.int .i64 0,.int .i64 k])∧p0a w (gS,63,.int .i64 v::ce)
theorem ThX.keep{k v:Int}{gA gM gT gS:Nat}{ce:List Value}{w w':World}(h:ThX k v gA gM gT gS ce w)(hk:y0a [] w w'):ThX k v gA gM gT gS ce w' :=
 ⟨v1a hk h.1,v1a hk h.2.1,v1a hk h.2.2.1,v1a hk h.2.2.2⟩
def h5c:Value→Prop:=fun u=>∃a0 a1 a2 a3 a4 a5 a6,u=.agg #[a0,a1,a2,a3,a4,a5,a6]
def thQ(b:Nat)(nm:ByteArray)(k v n:Int):Value→World→Prop:=fun u w=>∃gA gM gT gS,u=.agg (thC nm gA gM gT).toArray∧ThX k v gA gM gT gS [.int .i64 1,.int .i64 1,.int .i64 n,.slice none 0 0] w∧b≤gS
theorem z2b:∃u,h5c u:=⟨_,undef,undef,undef,undef,undef,undef,undef,Z⟩
theorem W7b(b:Nat)(nm:ByteArray)(k v n:Int):∀u w w',y0a [] w w'→thQ b nm k v n u w→thQ b nm k v n u w':=fun _ _ _ hk ⟨gA,gM,gT,gS,h,hr,h0⟩=>⟨gA,gM,gT,gS,h,hr.keep hk,h0⟩
theorem q0c{b:Nat}{nm:ByteArray}{k v n:Int}{u:Value}{w:World}(h:thQ b nm k v n u w):h5c u:=by
 obtain⟨_,_,_,_,rfl,-⟩:=h;exact⟨_,_,_,_,_,_,_,Z⟩
theorem ThX.rd{nm:ByteArray}{k v:Int}{gA gM gT gS:Nat}{ce:List Value}{w:World}{e:E}(h:ThX k v gA gM gT gS ce w)(he:RdE [] w e ce)(ik:i64 k)(iv:i64 v):K0a [] w (thC nm gA gM gT) (e4a nm k v e):=by
 obtain⟨h1,h2,h3,h4⟩:=h;have i0:i64 0:=by unfold i64;omega
 have i1:i64 1:=by unfold i64;omega
 have i2:i64 2:=by unfold i64;omega
 have i3:i64 3:=by unfold i64;omega
 have a0:RdE [] w v2a o4:=L1a i1 i1 i1;obtain⟨_,_,_,rfl,-⟩:=id he.open_;exact⟨_,_,_,_,Z,i2,o3c (c:=[_,_,_,_]) (c2:=[_,_,_,_]) (c3a h1) Z Z a0 a0,o3c (c:=[_]) (c2:=[_]) (c3a h2) Z Z ⟨Z,ik⟩ ⟨Z,ik⟩,
  r5c (c3a h3) Z ⟨_,_,_,_,_,Z,i3,i0,i1,i0,ik,a0,r5c (c3a h4) Z ⟨_,Z,iv,he⟩⟩,f7b⟩
def d9c:Value→Prop:=fun u=>∃a b c d,u=.agg #[a,b,c,d]
def twC(gk:Nat):List Value:=[.int .i64 13,.int .i64 1,.int .i64 0,.slice (some ⟨gk,0,none⟩) 2 2]
def twK:List Value:=[.int .i64 3,.int .i64 1,.int .i64 0,.slice none 0 0,.int .i64 2,.int .i64 1,.int .i64 0,.slice none 0 0]
def twQ:Value→World→Prop:=fun u w=>∃gk,u=.agg (twC gk).toArray∧p0a w (gk,38,twK)
theorem S9b:∃u,d9c u:=⟨_,undef,undef,undef,undef,Z⟩
theorem a5c:∀u w w',y0a [] w w'→twQ u w→twQ u w':=fun _ _ _ hk ⟨gk,h,hr⟩=>⟨gk,h,v1a hk hr⟩
theorem B8c{u:Value}{w:World}(h:twQ u w):d9c u:=by
 obtain⟨_,rfl,-⟩:=h;exact⟨_,_,_,_,Z⟩
def p5c(cs:List Value)(gS:Nat)(w:World):Prop:=∃gc gm gf0 gf1 gk gt gA gM gT gS0 hA hM hT,
 cs=[.slice (some ⟨gc,0,none⟩) 2 2,.slice (some ⟨gm,0,none⟩) 2 2,.slice none 0 0,.slice (some ⟨gt,0,none⟩) 2 2] ∧
 p0a w (gc,82,[.string ⟨#[120]⟩,.int .i64 1,.int .i64 0,.int .i64 (-1),.bool false,.int .i64 0,.string ⟨#[121]⟩,.int .i64 1,.int .i64 0,.int .i64 (-1),.bool false,.int .i64 0]) ∧
 p0a w (gk,38,twK)∧p0a w (gf0,3,[.int .i64 0])∧p0a w (gf1,3,[.int .i64 1]) ∧
 p0a w (gm,66,[.string ⟨#[65]⟩,.string ⟨#[65,110,110]⟩,.int .i64 0,.int .i64 0,.int .i64 0,.slice none 0 0,.int .i64 13,.int .i64 1,.int .i64 0,.slice (some ⟨gk,0,none⟩) 2 2,.slice (some ⟨gf0,0,none⟩) 1 1,.string ⟨#[66]⟩,.string ⟨#[66,111,98]⟩,.int .i64 0,.int .i64 0,.int .i64 0,.slice none 0 0,.int .i64 1,.int .i64 1,.int .i64 1,.slice none 0 0,.slice (some ⟨gf1,0,none⟩) 1 1]) ∧
 ThX 0 0 gA gM gT gS0 [.int .i64 1,.int .i64 1,.int .i64 1,.slice none 0 0] w ∧
 p0a w (hA,38,o4++o4)∧p0a w (hM,3,[.int .i64 1,.int .i64 1]) ∧
 p0a w (hT,61,[.int .i64 3,.int .i64 0,.int .i64 1,.int .i64 1,.int .i64 1,.int .i64 1,.slice none 0 0,.slice (some ⟨gS,0,none⟩) 1 1,.bool false,.int .i64 0,.int .i64 1]) ∧
 p0a w (gt,58,thC ⟨#[116]⟩ gA gM gT++thC ⟨#[117]⟩ hA hM hT)
theorem p5c.keepS{cs:List Value}{gS:Nat}{w w':World}{xs:List Value}(h:p5c cs gS w)(hs:p0a w (gS,63,.int .i64 1::xs))(hk:y0a [gS] w w'):p5c cs gS w':=by
 obtain⟨gc,gm,b0,c0,gk,gt,gA,gM,gT,a0,hA,hM,hT,h0,h1,h2,h3,h4,h5,⟨a1,a2,a3,a4⟩,b1,b2,b3,h6⟩:=h;have kk:∀{g t:Nat} {cs:List Value},g≠gS→p0a w (g,t,cs)→p0a w' (g,t,cs):=fun hn h=>C5b hk (by rw[List.mem_singleton];exact hn) h;have kt:∀{g t:Nat} {cs:List Value},t≠63→p0a w (g,t,cs)→p0a w' (g,t,cs):=fun ht h=>kk (K6c h hs ht) h;exact⟨gc,gm,b0,c0,gk,gt,gA,gM,gT,a0,hA,hM,hT,h0,kt (by decide) h1,kt (by decide) h2,kt (by decide) h3,kt (by decide) h4,kt (by decide) h5,⟨kt (by decide) a1,kt (by decide) a2,kt (by decide) a3,kk (fun e=>by
  subst e;have:=(s8b a4 hs).2;simp at this) a4⟩,kt (by decide) b1,kt (by decide) b2,kt (by decide) b3,kt (by decide) h6⟩
theorem p5c.keep{cs:List Value}{gS:Nat}{w w':World}(h:p5c cs gS w)(hk:y0a [] w w'):p5c cs gS w':=by
 obtain⟨gc,gm,b0,c0,gk,gt,gA,gM,gT,a0,hA,hM,hT,h0,h1,h2,h3,h4,h5,a,b1,b2,b3,h6⟩:=h;exact⟨gc,gm,b0,c0,gk,gt,gA,gM,gT,a0,hA,hM,hT,h0,v1a hk h1,v1a hk h2,v1a hk h3,v1a hk h4,v1a hk h5,a.keep hk,v1a hk b1,v1a hk b2,v1a hk b3,v1a hk h6⟩
theorem p5c.rd{cs:List Value}{gS:Nat}{w:World}{ce:List Value}{e:E}(h:p5c cs gS w)(hs:p0a w (gS,63,.int .i64 1::ce))(he:RdE [] w e ce):a1a [] w (E1b e) cs:=by
 obtain⟨_,_,_,_,gk,_,_,_,_,_,_,_,_,rfl,h1,h2,h3,h4,h5,a,b1,b2,b3,h6⟩:=h;have i0:i64 0:=by unfold i64;omega
 have i1:i64 1:=by unfold i64;omega
 have i2:i64 2:=by unfold i64;omega
 have i3:i64 3:=by unfold i64;omega
 have b0:i64 13:=by unfold i64;omega
 have im:i64 (-1):=by unfold i64;omega
 have a0:RdE [] w v2a o4:=L1a i1 i1 i1;have hz:RdE [] w zE [.int .i64 0,.int .i64 0,.int .i64 0,.slice none 0 0]:=L1a i0 i0 i0;have hu:RdE [] w y1c (twC gk):=T5b b0 i1 (by simp) (c3a h2) (L1a i3 i1 i0) (L1a i2 i1 i0);refine⟨_,_,_,_,Z,?_,?_,f7b,?_⟩
 ·exact o3c (c:=[_,_,_,_,_,_]) (c2:=[_,_,_,_,_,_]) (c3a h1) Z Z ⟨Z,i1,i0,im,i0⟩ ⟨Z,i1,i0,im,i0⟩
 ·exact o3c (c:=[_,_,_,_,_,_,_,_,_,_,_]) (c2:=[_,_,_,_,_,_,_,_,_,_,_]) (c3a h5) Z Z ⟨_,_,_,_,_,_,_,_,_,Z,hz,hu,r5c (c:=[_]) (c3a h3) Z ⟨Z,i0⟩⟩ ⟨_,_,_,_,_,_,_,_,_,Z,hz,a0,r5c (c:=[_]) (c3a h4) Z ⟨Z,i1⟩⟩
 ·exact o3c (c:=thC _ _ _ _) (c2:=thC _ _ _ _) (c3a h6) Z Z (a.rd (L1a i1 i1 i1) i0 i0) (ThX.rd ⟨b1,b2,b3,hs⟩ he i1 i1)
theorem R0b(b:Nat)(nm:ByteArray)(k v n:Int)(g:Nat)(w0:World)(hb:b≤w0.heap.size)(hc:Cells w0 g 0 o4):
 O0a prog 84 #[.string nm,.int .i64 k,.int .i64 v,.int .i64 n,.pointer (some ⟨g,0,none⟩)] w0 fun u w'=>thQ b nm k v n u w'∧Bw w0 w':=by
 have S:=St.refl w0;refine a0a func84 Z ntmps84 Z ?_;refine wO0 Z U (h0a S g7a Z Z ?_);intro g9 w9 S9 X9 G9;refine lC0 Z U (t7b c0a [0,1,2,3,4,5,6,7,8] 9 (Cl _ _ _ _) (Cl.start S9) (fun i=>if i=3 then some (48,#[.int .i64 n,.int .i64 1],eqQ (.agg #[.int .i64 1,.int .i64 1,.int .i64 n,.slice none 0 0]),noQ) else none) ?_ _ Z ?_)
 ·intro i f a Qp Qw hi;by_cases m0:i=3
  ·subst m0;cases hi;exact⟨⟨_,Z⟩,fun _ _ _ _ _=>trivial,fun w hC=>(o2b _ _ _).mono fun u w' hr=>⟨⟨hr.1,trivial⟩,hC.later hr.2⟩⟩
  ·simp only[m0,if_false] at hi;cases hi
 refine I6a Z Z ?_;refine C1a m0a Z (fun w1 hw=>hc.keep (hw.1.keep0 []) (by simp)) (by rfl) Z ?_;refine i0a ?_;refine I6a Z Z ?_;refine F1a (hv:=Z) (v:=.int .i64 _) Z ?_;refine i0a ?_;refine I6a Z Z ?_;refine F1a (hv:=Z) (v:=.int .i64 _) Z ?_;refine i0a ?_;refine q6b D1c Z Z Z Z Z ?_;refine I6a Z Z ?_;refine m3a J6c (vs:=[(0,.int .i64 _),(1,.agg _)]) (cs:=[_,_,_,_,_]) Z Z Z Z ?_;refine i0a ?_;refine o6a Z Z Z F6a (vs:=[.agg _]) (cs:=[_,_,_,_,_]) Z Z Z Z Z ?_;intro t0 p0 g0;refine I6a Z Z ?_;refine F1a (hv:=Z) (v:=.int .i64 _) Z ?_;refine i0a ?_;refine I6a Z Z ?_;refine m3a X0d (vs:=[(0,.int .i64 _),(1,.int .i64 _),(2,.int .i64 _),(3,.agg _),(4,.slice _ _ _),(7,.int .i64 _)]) (cs:=[_,_,_,_,_,_,_,_,_,_,_]) Z Z Z Z ?_;refine i0a ?_;refine A9a Z Z Z J3b Z ?_;intro G0 o0 f0;refine M4b ?_;rintro K0 ⟨c0,_⟩ ⟨⟨-,e0⟩,d0⟩;clear g0;replace c0:=c0.push_new S9 e0 p0;replace c0:=c0.push_more (L1:=[_]) S9 d0 o0 (by simpa[eq_comm] using f0);refine b0a (kk:=0) (vs:=[_,_,_,_,_,_,_,_,_,_,_]) c0 O3b Z Z Z Z Z Z Z ?_;intro z0 a0 s0;dsimp only[d0a,List.set] at a0;refine B0a ⟨Z,?_⟩;refine fO0 Z U (L2a m0a Z (hc.keep (a0.keep0 []) (by simp)) Z ?_);refine L2a m0a Z (hc.keep (a0.keep0 []) (by simp)) Z ?_;refine C0a a0 R0a (vs:=[.agg _,.agg _]) (cs:=[_,_,_,_,_,_,_,_]) Z Z Z Z Z Z ?_;intro u0 H0 q0 D0 A0;refine lO0 Z U (C0a q0 T0a (vs:=[.int .i64 _,.int .i64 _]) (cs:=[_,_]) Z Z Z Z Z Z ?_);intro v0 I0 i0 E0 B0;refine lO i0.k [.w 2] Z ⟨⟨Z,by rfl⟩,U⟩ (C0a i0 q2b (vs:=[.agg _]) (cs:=[_,_,_,_,_,_,_,_,_,_,_]) Z Z Z Z Z Z ?_);intro x0 J0 r0 F0 C0;refine j1a Q2d (vs:=[(0,.string _),(1,.int .i64 _),(2,.slice _ _ _),(3,.slice _ _ _),(4,.slice _ _ _)]) (cs:=[_,_,_,_,_,_,_]) Z Z Z Z ?_;refine b0a (kk:=5) (vs:=[_,_,_,_,_,_,_]) r0 r7a Z Z Z Z Z Z Z ?_;intro n0 b0 j0;dsimp only[d0a,List.set] at b0;refine lR0 Z U ?_;have SF:=b0;refine g0a Z N3b Z (SF.cells 5 Z) Z ⟨⟨u0,v0,x0,t0,Z,⟨SF.blk 2 Z,SF.blk 1 Z,SF.blk 0 Z,SF.blk 4 Z⟩,?_⟩,SF.fin⟩;have y0:=SF.new 4 Z;simp at y0;omega
theorem O3c(w0:World):
 O0a prog 74 #[.int .i64 13,.int .i64 1,.agg #[.int .i64 3,.int .i64 1,.int .i64 0,.slice none 0 0],.agg #[.int .i64 2,.int .i64 1,.int .i64 0,.slice none 0 0]] w0 fun u w'=>twQ u w'∧Bw w0 w':=by
 have S:=St.refl w0;refine a0a func74 Z ntmps74 Z ?_;refine wO0 Z U (r0a S Z ?_);intro g6 w6 S6 X6 G6;refine r0a S6 Z ?_;intro g7 w7 S7 X7 G7;refine h0a S7 w1a Z Z ?_;intro g8 w8 S8 X8 G8;refine lO S8.k [.w 2,.w 1] Z ⟨⟨Z,by rfl⟩,⟨Z,by rfl⟩,U⟩ (C0a S8 R0a (vs:=[.agg _,.agg _]) (cs:=[_,_,_,_,_,_,_,_]) Z Z Z Z Z Z ?_);intro g0 i0 b0 f0 e0;refine j1a I2a (vs:=[(0,.int .i64 _),(1,.int .i64 _),(3,.slice _ _ _)]) (cs:=[_,_,_,_]) Z Z Z Z ?_;refine b0a (kk:=1) (vs:=[_,_,_,_]) b0 w0a Z Z Z Z Z Z Z ?_;intro d0 a0 c0;dsimp only[d0a,List.set] at a0;refine lR0 Z U (g0a Z m0a Z (a0.cells 1 Z) Z ⟨⟨_,Z,a0.blk 0 Z⟩,a0.fin⟩)
theorem w5b(wS:World):
 O0a prog 43 #[] wS fun v w'=>(∃cs gS,v=.agg cs.toArray∧p5c cs gS w'∧wS.heap.size≤gS∧p0a w' (gS,63,[.int .i64 1,.int .i64 1,.int .i64 1,.int .i64 0,.slice none 0 0]))∧Below wS.heap.size wS w':=by
 have S:=St.refl wS;refine a0a func43 Z ntmps43 Z ?_;refine wO0 Z U (h0a S A1b Z Z ?_);intro g0 w0 S0 X0 G0;refine lO0 Z U (W0a S0 o0c Z Z (k3b _) ?_);intro w3 S3 X3;refine h0a S3 w1a Z Z ?_;intro g1 w1 S1 X1 G1;refine b0a (kk:=0) (vs:=[_,_,_,_]) S1 w0a Z Z Z Z Z Z Z ?_;intro T0 a0 O0;dsimp only[d0a,List.set] at a0;refine lO0 Z U (U1a Z Z ?_);refine lC0 Z U (t7b c0a [0,1,2,3,4,5,6,7,8,9,10,11,12,13,14,15,16,17] 18 (Cl _ _ _ _) (Cl.start a0) (fun i=>if i=3 then some (85,#[.int .i64 0,.int .i64 1],eqQ (.agg #[.int .i64 3,.int .i64 1,.int .i64 0,.slice none 0 0]),noQ) else if i=4 then some (75,#[.int .i64 0,.int .i64 1],eqQ (.agg #[.int .i64 2,.int .i64 1,.int .i64 0,.slice none 0 0]),noQ) else if i=5 then some (74,#[.int .i64 13,.int .i64 1,.agg #[.int .i64 3,.int .i64 1,.int .i64 0,.slice none 0 0],.agg #[.int .i64 2,.int .i64 1,.int .i64 0,.slice none 0 0]],d9c,twQ) else if i=13 then some (84,#[.string ⟨#[116]⟩,.int .i64 0,.int .i64 0,.int .i64 1,.pointer (some ⟨g1,0,none⟩)],h5c,thQ wS.heap.size ⟨#[116]⟩ 0 0 1) else if i=15 then some (84,#[.string ⟨#[117]⟩,.int .i64 1,.int .i64 1,.int .i64 0,.pointer (some ⟨g1,0,none⟩)],h5c,thQ wS.heap.size ⟨#[117]⟩ 1 1 0) else none) ?_ _ Z ?_)
 ·intro i f a Qp Qw hi;by_cases D0:i=3
  ·subst D0;cases hi;exact⟨⟨_,Z⟩,fun _ _ _ _ _=>trivial,fun w hC=>(C4c _ _ _).mono fun u w' hr=>⟨⟨hr.1,trivial⟩,hC.later hr.2⟩⟩
  by_cases E0:i=4
  ·subst E0;cases hi;exact⟨⟨_,Z⟩,fun _ _ _ _ _=>trivial,fun w hC=>(M1c _ _ _).mono fun u w' hr=>⟨⟨hr.1,trivial⟩,hC.later hr.2⟩⟩
  by_cases F0:i=5
  ·subst F0;cases hi;exact⟨S9b,a5c,fun w hC=>(O3c w).mono (fun u w' hr=>⟨⟨B8c hr.1,hr.1⟩,hC.later hr.2⟩)⟩
  by_cases i0:i=13
  ·subst i0;cases hi;exact⟨z2b,W7b _ _ _ _ _,fun w hC=>(R0b wS.heap.size ⟨#[116]⟩ 0 0 1 g1 w hC.1.size (hC.1.cells 0 Z)).mono (fun u w' hr=>⟨⟨q0c hr.1,hr.1⟩,hC.later hr.2⟩)⟩
  by_cases j0:i=15
  ·subst j0;cases hi;exact⟨z2b,W7b _ _ _ _ _,fun w hC=>(R0b wS.heap.size ⟨#[117]⟩ 1 1 0 g1 w hC.1.size (hC.1.cells 0 Z)).mono (fun u w' hr=>⟨⟨q0c hr.1,hr.1⟩,hC.later hr.2⟩)⟩
  ·simp only[D0,E0,F0,i0,j0,if_false] at hi;cases hi
 refine I6a Z Z ?_;refine m3a Q5c (vs:=[(0,.string _),(1,.int .i64 _),(3,.int .i64 _)]) (cs:=[_,_,_,_,_,_]) Z Z Z Z ?_;refine i0a ?_;refine I6a Z Z ?_;refine m3a Q5c (vs:=[(0,.string _),(1,.int .i64 _),(3,.int .i64 _)]) (cs:=[_,_,_,_,_,_]) Z Z Z Z ?_;refine i0a ?_;refine o6a Z Z Z c4a (vs:=[.agg _,.agg _]) (cs:=[_,_,_,_,_,_,_,_,_,_,_,_]) Z Z Z Z Z ?_;intro g7 G7 R0;refine q6b U2d Z Z Z Z Z ?_;refine q6b p1d Z Z Z Z Z ?_;refine m9a (caps:=#[]) k1d Z Z Z Z Z Z ?_;rintro Z0 ⟨_,_,_,_,rfl⟩;refine o6a Z Z Z T0a (vs:=[.int .i64 _]) (cs:=[_]) Z Z Z Z Z ?_;intro U0 H0 v0;refine I6a Z Z ?_;refine m3a m6c (vs:=[(0,.string _),(1,.string _),(3,.agg _),(4,.slice _ _ _)]) (cs:=[_,_,_,_,_,_,_,_,_,_,_]) Z Z Z Z ?_;refine i0a ?_;refine I6a Z Z ?_;refine C1a m0a Z (fun w1 hw=>hw.1.cells 0 Z) Z Z ?_;refine i0a ?_;refine o6a Z Z Z T0a (vs:=[.int .i64 _]) (cs:=[_]) Z Z Z Z Z ?_;intro V0 I0 x0;refine I6a Z Z ?_;refine m3a m6c (vs:=[(0,.string _),(1,.string _),(3,.agg _),(4,.slice _ _ _)]) (cs:=[_,_,_,_,_,_,_,_,_,_,_]) Z Z Z Z ?_;refine i0a ?_;refine o6a Z Z Z B5a (vs:=[.agg _,.agg _]) (cs:=[_,_,_,_,_,_,_,_,_,_,_,_,_,_,_,_,_,_,_,_,_,_]) Z Z Z Z Z ?_;intro W0 J0 y0;refine I6a Z Z ?_;refine F1a (hv:=Z) (v:=.func _ _ _) Z ?_;refine i0a ?_;refine m9a (caps:=#[.pointer (some ⟨g1,0,none⟩)]) c6c Z Z Z Z Z Z ?_;rintro c1 ⟨_,a1,a2,a3,a4,_,_,rfl⟩;refine I6a Z Z ?_;refine F1a (hv:=Z) (v:=.func _ _ _) Z ?_;refine i0a ?_;refine m9a (caps:=#[.pointer (some ⟨g1,0,none⟩)]) c6c Z Z Z Z Z Z ?_;rintro d1 ⟨b0,b1,b2,b3,b4,_,_,rfl⟩;refine o6a Z Z Z G8a (vs:=[.agg _,.agg _]) (cs:=[_,_,_,_,_,_,_,_,_,_,_,_,_,_]) Z Z Z Z Z ?_;intro Y0 K0 z0;refine I6a Z Z ?_;refine m3a Y9b (vs:=[(0,.slice _ _ _),(1,.slice _ _ _),(3,.slice _ _ _)]) (cs:=[_,_,_,_]) Z Z Z Z ?_;refine i0a ?_;refine M4b ?_;rintro n0 ⟨c0,_⟩ ⟨⟨⟨⟨⟨⟨⟨⟨-,P0⟩,s0⟩,o0⟩,p0⟩,q0⟩,t0⟩,u0⟩,r0⟩;have e0:=y0a.refl [g0] n0;have L0:=y0a.refl [g0] n0;have N0:=y0a.refl [g0] n0;clear R0;replace c0:=c0.push_new a0 P0 G7;replace c0:=c0.push_more (L1:=[_]) a0 o0 H0 (by simpa[eq_comm] using v0);replace c0:=c0.push_more (L1:=[_,_]) a0 p0 I0 (by simpa[eq_comm] using x0);replace c0:=c0.push_more (L1:=[_,_,_]) a0 q0 J0 (by simpa[eq_comm] using y0);replace c0:=c0.push_more (L1:=[_,_,_,_]) a0 r0 K0 (by simpa[eq_comm] using z0);refine b0a (kk:=6) (vs:=[_,_,_,_]) c0 u1b Z Z Z Z Z Z Z ?_;intro m0 d0 f0;dsimp only[d0a,List.set] at d0;replace e0:=e0.fresh2 f0 (by first  | exact .inr (by simp));refine B0a ⟨Z,?_⟩;refine fR0 Z U ?_;have SF:=d0;obtain⟨_,C0,hk⟩:=s0;obtain⟨_,_,_,_,A0,hA,-⟩:=t0;obtain⟨_,_,_,gS,B0,hB,Q0⟩:=u0;simp only[twC,thC,Value.agg.injEq,List.toArray_eq_iff,List.cons.injEq,and_true] at C0 A0 B0;obtain⟨rfl,rfl,rfl,rfl⟩:=C0;obtain⟨rfl,rfl,rfl,rfl,rfl,rfl,rfl⟩:=A0;obtain⟨rfl,rfl,rfl,rfl,rfl,rfl,rfl⟩:=B0;have b0:p0a n0 (g0,27,_):=c0.blk 6 Z;have kk:∀{g t:Nat} {cs:List Value},t≠27→p0a n0 (g,t,cs)→p0a m0 (g,t,cs):=fun ht h=>C5b e0 (by rw[List.mem_singleton];exact K6c h b0 ht) h;obtain⟨a1,a2,a3,a4⟩:=hA;obtain⟨b1,b2,b3,b4⟩:=hB;exact g0a Z P4a Z (SF.cells 6 Z) Z ⟨⟨_,gS,Z,⟨_,_,_,_,_,_,_,_,_,_,_,_,_,Z,SF.blk 4 Z,kk (by decide) hk,SF.blk 3 Z,SF.blk 2 Z,SF.blk 1 Z,⟨kk (by decide) a1,kk (by decide) a2,kk (by decide) a3,kk (by decide) a4⟩,kk (by decide) b1,kk (by decide) b2,kk (by decide) b3,SF.blk 0 Z⟩,Q0,kk (by decide) b4⟩,SF.fin⟩
end Go.Fw
