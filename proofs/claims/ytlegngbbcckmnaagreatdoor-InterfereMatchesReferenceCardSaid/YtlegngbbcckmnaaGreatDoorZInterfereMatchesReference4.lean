/-
  Part 4 of 9 of the proof of InterfereMatchesReference: what it leans on. No conditions.
-/
import Derived.Test.YtlegngbbcckmnaaGreatDoorZInterfereMatchesReference3
import Derived.Maps.RangeRun
import Derived.WideKeyArr
import Derived.Laws.StructEq
set_option maxRecDepth 100000
set_option maxHeartbeats 4000000
namespace Go.Proofs.YtlegngbbcckmnaaGreatDoor
end Go.Proofs.YtlegngbbcckmnaaGreatDoor
namespace Go.Fw
open Go.Proofs.YtlegngbbcckmnaaGreatDoor Go.Proofs Go.RowKit Go.Maps Go.Sort Go.Shelf Go.Lib Tryz
def Hid(p:Prop):Prop:=p
theorem O5a{p:Prop}(h:p):Hid p:=h
theorem M1a{p:Prop}(h:Hid p):p:=h
theorem I8a(n w:Int)(w0:World)(h0:0≤w:=by omega)(h1:w≤8:=by omega):A0a prog 195 #[.int .i64 n,.int .i64 w] w0 fun v w'=>v=.int .i64 (N8a n (H3a w.toNat-1))∧Bw w0 w':=by
 have S:=St.refl w0;have hp:H3a w.toNat≤256:=by rw[u2a];have:=Nat.pow_le_pow_right (show 0<2 by omega) (show w.toNat≤8 by omega);omega
 have hq:=D8a w.toNat;refine a0a func195 Z ntmps195 Z ?_;refine wO1 Z (r0a S E6a Z Z (g8a w _) ?_);intro w7 S7 X7;exact lT Z ⟨by omega,U⟩ Z ⟨Z,S7.fin⟩
theorem a3c(l:List Int)(n:Int)(M:List Nat)(w0:World)(vl:Value)(hL:RdI M w0 vl l)(h0:0≤n:=by omega):A0a prog 196 #[vl,.int .i64 n] w0 fun v w'=>v=.int .i64 (l.getD n.toNat 0)∧Bw w0 w':=by
 obtain⟨_,_,_,rfl⟩:=hL.form;obtain⟨_,-,_⟩:=hL.len;have S:=St.refl w0;refine a0a func196 Z ntmps196 Z ?_;refine wB1 Z (fun h8=>?_) fun h8=>?_
 ·obtain⟨x,d0,f0,_,e0,a0,_,_,b0,c0⟩:=RdS.get (hL) (n.toNat) (by omega);obtain⟨rfl,_⟩:=id c0;refine lR (S.k.a b0) [.x d0 f0,.f 0 0] Z ⟨Z,⟨a0,by omega⟩,U⟩ (w0a Z ?_);exact⟨by rw[getD_some e0],S.fin⟩
 refine lR1 Z (w0a Z ?_);exact⟨by rw[List.getD_eq_getElem?_getD,List.getElem?_eq_none (by omega)];rfl,S.fin⟩
theorem o0c(e:E)(u3:Int)(hg:e.good u3=true)(i1 g1:List Int)(P3:¬e.op=2∧¬e.op=3)(M:List Nat)(w0:World)(cs:LV)(va:Value)(hR:RdE M w0 e cs)(hV:RdI M w0 va (e.kids.map (E.val i1 g1))):
 A0a prog 197 #[.agg cs.toArray,va] w0 fun v w'=>v=.int .i64 (e.val i1 g1)∧Bw w0 w':=by
 obtain⟨_,_,_,rfl,_⟩:=hR.cells;obtain⟨_,_,c,rfl⟩:=hV.form;obtain⟨t3,-,_⟩:=hV.len;have B2:=(I1a hg).1;have U3:=B2.1;have V3:=B2.2.1;have R3:=I3a B2;have s3:=L1a e.op;have S3:H3a e.w.toNat≤256:=by rw[u2a];have:=Nat.pow_le_pow_right (show 0<2 by omega) (show e.w.toNat≤8 by omega);omega
 have T3:=D8a e.w.toNat;obtain⟨V,eV⟩:∃V,V=e.kids.map (E.val i1 g1):=⟨_,Z⟩;have Q3:V.length=e.kids.length:=by rw[eV,List.length_map]
 have z:=r4d hg i1 g1 Z Z Z;rw[←eV] at hV z t3;obtain⟨z4,z5,z6,z7,zr,z8,z9,E2,u0,j1,m1,F2⟩:=z;have H2:5≤e.op∧e.op≤13→0≤V.getD 0 0*V.getD 1 0∧V.getD 0 0*V.getD 1 0≤65536:=fun h=>by
  obtain⟨y0,_,y2,_⟩:=zr h;exact⟨Int.mul_nonneg y0 y2,Int.mul_le_mul (c:=256) (d:=256) (by omega) (by omega) y2 (by omega)⟩
 replace z4:=O5a z4;replace z5:=O5a z5;replace z6:=O5a z6;replace z7:=O5a z7;replace zr:=O5a zr;replace z8:=O5a z8;replace z9:=O5a z9;replace E2:=O5a E2;replace u0:=O5a u0;replace j1:=O5a j1;replace m1:=O5a m1;replace F2:=O5a F2;replace H2:=O5a H2;have S:=St.refl w0;refine a0a func197 Z ntmps197 Z ?_;refine wO1 Z (o0a S Z ?_);intro g2 w2 S2 X2 G2;refine lB S2.k [.o 0] Z ⟨Z,U⟩ (fun h8=>?_) fun h8=>?_
 ·refine lR S2.k [.o 0] Z ⟨Z,U⟩ (w0a Z ?_);refine⟨congrArg (Value.int .i64) ?_,S2.fin⟩;rw[E.val_def,if_pos (by omega)];done
 refine lB1 Z (fun h3=>?_) fun h3=>?_
 ·refine lC1 Z (y0a b0a [0,1,2,3,4,5,6,7,8] [] [] Z (Cl _ _ _ _) (Cl.start S2) ?_);refine qO S2.q [.o 0] Z ⟨Z,U⟩ (k1a E6a Z Z (fun w1 S1 X1=>g8a e.w _) ?_);obtain⟨x,O2,v3,_,c0,y1,_,_,O1,h2⟩:=RdS.get (hV) (0) (by omega);obtain⟨rfl,_⟩:=id h2;have ex:=getD_some (d:=0) c0;have J2:=M1a z4 (by omega);rw[ex] at J2;refine qN (S2.q.a O1) [.x O2 v3,.f 0 0] Z ⟨by omega,Z,⟨y1,by omega⟩,by omega,U⟩ (h4a ?_);refine O1a ?_;rintro W3 ⟨K2,_⟩;refine lU Z Z ⟨congrArg (Value.int .i64) ?_,K2.fin⟩;rw[J2.2.2];done
 refine lB1 Z (fun i3=>?_) fun i3=>?_
 ·refine lC1 Z (y0a b0a [0,1,2,3,4,5,6,7] [] [] Z (Cl _ _ _ _) (Cl.start S2) ?_);obtain⟨x,P2,w3,_,c0,z1,_,_,P1,i2⟩:=RdS.get (hV) (0) (by omega);obtain⟨rfl,_⟩:=id i2;have ex:=getD_some (d:=0) c0;obtain⟨y,Q2,x3,_,e0,A1,_,_,Q1,j2⟩:=RdS.get (hV) (1) (by omega);obtain⟨rfl,_⟩:=id j2;have ey:=getD_some (d:=0) e0;refine qN ((S2.q.a Q1).a P1) [.x P2 w3,.f 0 0,.x Q2 x3,.f 1 0] Z ⟨Z,⟨A1,by omega⟩,Z,⟨z1,by omega⟩,U⟩ (h4a ?_);refine O1a ?_;rintro X3 ⟨L2,_⟩;refine lU Z Z ⟨congrArg (Value.int .i64) ?_,L2.fin⟩;rw[M1a z5 (by omega),ex,ey];done
 refine lB1 Z (fun j3=>?_) fun j3=>?_
 ·refine lC1 Z (y0a b0a [0,1,2,3,4,5,6,7] [] [] Z (Cl _ _ _ _) (Cl.start S2) ?_);obtain⟨x,R2,y3,_,c0,B1,_,_,R1,m2⟩:=RdS.get (hV) (0) (by omega);obtain⟨rfl,_⟩:=id m2;have ex:=getD_some (d:=0) c0;obtain⟨y,T2,z3,_,e0,C1,_,_,T1,n2⟩:=RdS.get (hV) (1) (by omega);obtain⟨rfl,_⟩:=id n2;have ey:=getD_some (d:=0) e0;refine qN ((S2.q.a T1).a R1) [.x R2 y3,.f 0 0,.x T2 z3,.f 1 0] Z ⟨Z,⟨C1,by omega⟩,Z,⟨B1,by omega⟩,U⟩ (h4a ?_);refine O1a ?_;rintro Y3 ⟨N2,_⟩;refine lU Z Z ⟨congrArg (Value.int .i64) ?_,N2.fin⟩;rw[M1a z6 (by omega),ex,ey];done
 refine lB1 Z (fun m3=>?_) fun m3=>?_
 ·refine lC1 Z (y0a b0a [0,1,2,3,4,5,6,7] [] [] Z (Cl _ _ _ _) (Cl.start S2) ?_);obtain⟨x,U2,A3,_,c0,D1,_,_,U1,o2⟩:=RdS.get (hV) (0) (by omega);obtain⟨rfl,_⟩:=id o2;have ex:=getD_some (d:=0) c0;obtain⟨y,V2,B3,_,e0,E1,_,_,V1,p2⟩:=RdS.get (hV) (1) (by omega);obtain⟨rfl,_⟩:=id p2;have ey:=getD_some (d:=0) e0;refine qN ((S2.q.a V1).a U1) [.x U2 A3,.f 0 0,.x V2 B3,.f 1 0] Z ⟨Z,⟨E1,by omega⟩,Z,⟨D1,by omega⟩,U⟩ (h4a ?_);refine O1a ?_;rintro K3 ⟨n1,_⟩;refine lU Z Z ⟨congrArg (Value.int .i64) ?_,n1.fin⟩;rw[M1a z7 (by omega),ex,ey];done
 refine lB1 Z (fun n3=>?_) fun n3=>?_
 ·refine lC1 Z (y0a b0a [0,1,2,3,4,5,6,7,8,9,10] [] [] Z (Cl _ _ _ _) (Cl.start S2) ?_);obtain⟨x,W2,C3,_,c0,F1,_,_,W1,r2⟩:=RdS.get (hV) (0) (by omega);obtain⟨rfl,_⟩:=id r2;have ex:=getD_some (d:=0) c0;obtain⟨y,Y2,D3,_,e0,G1,_,_,Y1,s2⟩:=RdS.get (hV) (1) (by omega);obtain⟨rfl,_⟩:=id s2;have ey:=getD_some (d:=0) e0;have I2:=M1a zr (by omega);rw[ex,ey] at I2;refine qO ((S2.q.a Y1).a W1) [.x W2 C3,.f 0 0,.x Y2 D3,.f 1 0,.o 0] Z ⟨Z,by omega,Z,⟨G1,by omega⟩,Z,⟨F1,by omega⟩,U⟩ (k1a E1b Z Z (fun w1 S1 X1=>I8a _ e.w _) ?_);refine lV Z ?_;rintro L3 ⟨o1,_⟩;refine lU Z Z ⟨congrArg (Value.int .i64) ?_,o1.fin⟩;rw[M1a z8 (by omega),ex,ey];done
 refine lB1 Z (fun o3=>?_) fun o3=>?_
 ·refine lC1 Z (y0a b0a [0,1,2,3,4,5,6,7,8,9,10,11,12,13,14] [] [] Z (Cl _ _ _ _) (Cl.start S2) ?_);obtain⟨x,Z2,E3,_,c0,H1,_,_,Z1,t2⟩:=RdS.get (hV) (0) (by omega);obtain⟨rfl,_⟩:=id t2;have ex:=getD_some (d:=0) c0;obtain⟨y,a3,F3,_,e0,I1,_,_,a2,u2⟩:=RdS.get (hV) (1) (by omega);obtain⟨rfl,_⟩:=id u2;have ey:=getD_some (d:=0) e0;have I2:=M1a zr (by omega);rw[ex,ey] at I2;refine qO ((S2.q.a a2).a Z1) [.x Z2 E3,.f 0 0,.x a3 F3,.f 1 0,.o 0] Z ⟨Z,by omega,Z,⟨I1,by omega⟩,Z,⟨H1,by omega⟩,U⟩ (k1a E6a Z Z (fun w1 S1 X1=>g8a e.w _) ?_);refine qO S2.q [.o 0] Z ⟨Z,by omega,U⟩ (k1a E1b Z Z (fun w1 S1 X1=>I8a _ e.w _) ?_);refine lV Z ?_;rintro M3 ⟨p1,_⟩;refine lU Z Z ⟨congrArg (Value.int .i64) ?_,p1.fin⟩;rw[M1a z9 (by omega),ex,ey];done
 refine lB1 Z (fun p3=>?_) fun p3=>?_
 ·refine lC1 Z (y0a b0a [0,1,2,3,4,5,6,7,8,9,10] [] [] Z (Cl _ _ _ _) (Cl.start S2) ?_);obtain⟨x,b3,G3,_,c0,J1,_,_,b2,v2⟩:=RdS.get (hV) (0) (by omega);obtain⟨rfl,_⟩:=id v2;have ex:=getD_some (d:=0) c0;obtain⟨y,d3,H3,_,e0,K1,_,_,d2,x2⟩:=RdS.get (hV) (1) (by omega);obtain⟨rfl,_⟩:=id x2;have ey:=getD_some (d:=0) e0;have O3:=M1a H2 (by omega);rw[ex,ey] at O3;refine qO ((S2.q.a d2).a b2) [.x b3 G3,.f 0 0,.x d3 H3,.f 1 0,.o 0] Z ⟨Z,by omega,Z,⟨K1,by omega⟩,Z,⟨J1,by omega⟩,U⟩ (k1a E1b Z Z (fun w1 S1 X1=>I8a _ e.w _) ?_);refine lV Z ?_;rintro N3 ⟨r1,_⟩;refine lU Z Z ⟨congrArg (Value.int .i64) ?_,r1.fin⟩;rw[M1a E2 (by omega),ex,ey];done
 refine lB1 Z (fun q3=>?_) fun q3=>?_
 ·obtain⟨x,e3,I3,_,c0,M1,_,_,e2,z2⟩:=RdS.get (hV) (0) (by omega);obtain⟨rfl,_⟩:=id z2;have ex:=getD_some (d:=0) c0;have f1:=M1a F2 (by omega);rw[ex] at f1;obtain⟨y,g3,J3,_,e0,N1,_,_,f2,A2⟩:=RdS.get (hV) ((2-x).toNat) (by omega);obtain⟨rfl,_⟩:=id A2;have ey:=getD_some (d:=0) e0;refine lR ((S2.k.a f2).a e2) [.x e3 I3,.f 0 0,.x g3 J3,.f 1 0] Z ⟨Z,⟨N1,by omega⟩,by omega,Z,⟨M1,by omega⟩,U⟩ (w0a Z ?_);refine⟨congrArg (Value.int .i64) ?_,S2.fin⟩;rcases f1 with⟨q1,q2⟩|⟨q1,q2⟩
  ·rw[q2,←ey,q1];rfl
  ·rw[q2,←ey,q1];rfl
 refine lC1 Z (y0a b0a [0,1,2,3,4,5,6,7,8,9,10,11,12,13,14,15,16,17,18,19,20,21,22,23,24,25,26,27,28,29,30,31,32,33,34,35,36,37,38,39] [] [] Z (Cl _ _ _ _) (Cl.start S2) ?_);refine qB S2.q [.o 0] Z ⟨Z,U⟩ (fun r3=>?_) fun r3=>?_
 ·obtain⟨x,s1,C2,_,c0,S0,_,_,W0,a1⟩:=RdS.get (hV) (0) (by omega);obtain⟨rfl,_⟩:=id a1;have ex:=getD_some (d:=0) c0;obtain⟨y,t1,D2,_,e0,T0,_,_,X0,b1⟩:=RdS.get (hV) (1) (by omega);obtain⟨rfl,_⟩:=id b1;have ey:=getD_some (d:=0) e0;refine qB ((S2.q.a X0).a W0) [.x s1 C2,.f 0 0,.x t1 D2,.f 1 0] Z ⟨Z,⟨T0,by omega⟩,Z,⟨S0,by omega⟩,U⟩ (fun x1=>?_) fun x1=>?_
  ·refine lV Z ?_;rintro d0 ⟨a0,b0⟩;refine lU Z Z ⟨congrArg (Value.int .i64) ?_,a0.fin⟩;rw[M1a u0 (by omega),ex,ey,if_pos (by omega)];done
  refine qB S2.q [.o 0] Z ⟨Z,U⟩ (fun O0=>?_) fun O0=>?_
  ·obtain⟨x,J0,Q0,u1,c0,v0,U0,Y0,B0,F0⟩:=RdS.get (hV) (0) (by omega);obtain⟨rfl,c1⟩:=id F0;have ex:=getD_some (d:=0) c0;obtain⟨y,K0,R0,v1,e0,x0,V0,Z0,C0,G0⟩:=RdS.get (hV) (1) (by omega);obtain⟨rfl,d1⟩:=id G0;have ey:=getD_some (d:=0) e0;refine qB ((S2.q.a C0).a B0) [.x J0 Q0,.f 0 0,.x K0 R0,.f 1 0] Z ⟨Z,⟨x0,by omega⟩,Z,⟨v0,by omega⟩,U⟩ (fun P0=>?_) fun P0=>?_
   ·refine lV Z ?_;rintro d0 ⟨a0,b0⟩;refine lU Z Z ⟨congrArg (Value.int .i64) ?_,a0.fin⟩;rw[M1a u0 (by omega),ex,ey,if_pos (by omega)];done
   refine qB S2.q [.o 0] Z ⟨Z,U⟩ (fun q0=>?_) fun q0=>?_
   ·obtain⟨x,o0,s0,L0,c0,f0,z0,D0,i0,m0⟩:=RdS.get (hV) (0) (by omega);obtain⟨rfl,H0⟩:=id m0;have ex:=getD_some (d:=0) c0;obtain⟨y,p0,t0,N0,e0,g0,A0,E0,j0,n0⟩:=RdS.get (hV) (1) (by omega);obtain⟨rfl,I0⟩:=id n0;have ey:=getD_some (d:=0) e0;refine qB ((S2.q.a j0).a i0) [.x o0 s0,.f 0 0,.x p0 t0,.f 1 0] Z ⟨Z,⟨g0,by omega⟩,Z,⟨f0,by omega⟩,U⟩ (fun r0=>?_) fun r0=>?_
    ·refine lV Z ?_;rintro d0 ⟨a0,b0⟩;refine lU Z Z ⟨congrArg (Value.int .i64) ?_,a0.fin⟩;rw[M1a u0 (by omega),ex,ey,if_pos (by omega)];done
    refine lV Z ?_;rintro d0 ⟨a0,b0⟩;refine lU Z Z ⟨congrArg (Value.int .i64) ?_,a0.fin⟩;rw[M1a u0 (by omega),ex,ey,if_neg (by omega)];done
   refine lV Z ?_;rintro d0 ⟨a0,b0⟩;refine lU Z Z ⟨congrArg (Value.int .i64) ?_,a0.fin⟩;rw[M1a u0 (by omega),ex,ey,if_neg (by omega)];done
  refine qB S2.q [.o 0] Z ⟨Z,U⟩ (fun q0=>?_) fun q0=>?_
  ·obtain⟨x,o0,s0,L0,c0,f0,z0,D0,i0,m0⟩:=RdS.get (hV) (0) (by omega);obtain⟨rfl,H0⟩:=id m0;have ex:=getD_some (d:=0) c0;obtain⟨y,p0,t0,N0,e0,g0,A0,E0,j0,n0⟩:=RdS.get (hV) (1) (by omega);obtain⟨rfl,I0⟩:=id n0;have ey:=getD_some (d:=0) e0;refine qB ((S2.q.a j0).a i0) [.x o0 s0,.f 0 0,.x p0 t0,.f 1 0] Z ⟨Z,⟨g0,by omega⟩,Z,⟨f0,by omega⟩,U⟩ (fun r0=>?_) fun r0=>?_
   ·refine lV Z ?_;rintro d0 ⟨a0,b0⟩;refine lU Z Z ⟨congrArg (Value.int .i64) ?_,a0.fin⟩;rw[M1a u0 (by omega),ex,ey,if_pos (by omega)];done
   refine lV Z ?_;rintro d0 ⟨a0,b0⟩;refine lU Z Z ⟨congrArg (Value.int .i64) ?_,a0.fin⟩;rw[M1a u0 (by omega),ex,ey,if_neg (by omega)];done
  refine lV Z ?_;rintro d0 ⟨a0,b0⟩;refine lU Z Z ⟨congrArg (Value.int .i64) ?_,a0.fin⟩;rw[M1a u0 (by omega),ex,ey,if_neg (by omega)];done
 refine qB S2.q [.o 0] Z ⟨Z,U⟩ (fun O0=>?_) fun O0=>?_
 ·obtain⟨x,J0,Q0,u1,c0,v0,U0,Y0,B0,F0⟩:=RdS.get (hV) (0) (by omega);obtain⟨rfl,c1⟩:=id F0;have ex:=getD_some (d:=0) c0;obtain⟨y,K0,R0,v1,e0,x0,V0,Z0,C0,G0⟩:=RdS.get (hV) (1) (by omega);obtain⟨rfl,d1⟩:=id G0;have ey:=getD_some (d:=0) e0;refine qB ((S2.q.a C0).a B0) [.x J0 Q0,.f 0 0,.x K0 R0,.f 1 0] Z ⟨Z,⟨x0,by omega⟩,Z,⟨v0,by omega⟩,U⟩ (fun P0=>?_) fun P0=>?_
  ·refine lV Z ?_;rintro d0 ⟨a0,b0⟩;refine lU Z Z ⟨congrArg (Value.int .i64) ?_,a0.fin⟩;rw[M1a j1 (by omega),ex,ey,if_pos (by omega)];done
  refine qB S2.q [.o 0] Z ⟨Z,U⟩ (fun q0=>?_) fun q0=>?_
  ·obtain⟨x,o0,s0,L0,c0,f0,z0,D0,i0,m0⟩:=RdS.get (hV) (0) (by omega);obtain⟨rfl,H0⟩:=id m0;have ex:=getD_some (d:=0) c0;obtain⟨y,p0,t0,N0,e0,g0,A0,E0,j0,n0⟩:=RdS.get (hV) (1) (by omega);obtain⟨rfl,I0⟩:=id n0;have ey:=getD_some (d:=0) e0;refine qB ((S2.q.a j0).a i0) [.x o0 s0,.f 0 0,.x p0 t0,.f 1 0] Z ⟨Z,⟨g0,by omega⟩,Z,⟨f0,by omega⟩,U⟩ (fun r0=>?_) fun r0=>?_
   ·refine lV Z ?_;rintro d0 ⟨a0,b0⟩;refine lU Z Z ⟨congrArg (Value.int .i64) ?_,a0.fin⟩;rw[M1a u0 (by omega),ex,ey,if_pos (by omega)];done
   refine lV Z ?_;rintro d0 ⟨a0,b0⟩;refine lU Z Z ⟨congrArg (Value.int .i64) ?_,a0.fin⟩;rw[M1a u0 (by omega),ex,ey,if_neg (by omega)];done
  refine lV Z ?_;rintro d0 ⟨a0,b0⟩;refine lU Z Z ⟨congrArg (Value.int .i64) ?_,a0.fin⟩;rw[M1a j1 (by omega),ex,ey,if_neg (by omega)];done
 refine qB S2.q [.o 0] Z ⟨Z,U⟩ (fun q0=>?_) fun q0=>?_
 ·obtain⟨x,o0,s0,L0,c0,f0,z0,D0,i0,m0⟩:=RdS.get (hV) (0) (by omega);obtain⟨rfl,H0⟩:=id m0;have ex:=getD_some (d:=0) c0;obtain⟨y,p0,t0,N0,e0,g0,A0,E0,j0,n0⟩:=RdS.get (hV) (1) (by omega);obtain⟨rfl,I0⟩:=id n0;have ey:=getD_some (d:=0) e0;refine qB ((S2.q.a j0).a i0) [.x o0 s0,.f 0 0,.x p0 t0,.f 1 0] Z ⟨Z,⟨g0,by omega⟩,Z,⟨f0,by omega⟩,U⟩ (fun r0=>?_) fun r0=>?_
  ·refine lV Z ?_;rintro d0 ⟨a0,b0⟩;refine lU Z Z ⟨congrArg (Value.int .i64) ?_,a0.fin⟩;rw[M1a m1 (by omega),ex,ey,if_pos (by omega)];done
  refine lV Z ?_;rintro d0 ⟨a0,b0⟩;refine lU Z Z ⟨congrArg (Value.int .i64) ?_,a0.fin⟩;rw[M1a m1 (by omega),ex,ey,if_neg (by omega)];done
 refine lV Z ?_;rintro d0 ⟨a0,b0⟩;refine lU Z Z ⟨congrArg (Value.int .i64) ?_,a0.fin⟩;exfalso;omega
theorem i9b:∀(e:E) (M:List Nat) (w0:World) (cs:LV) (vo vn:Value) (b0 a0:List Int) (q0:Int),RdE M w0 e cs→RdI M w0 vo b0→RdI M w0 vn a0→e.good q0=true →
 A0a prog 141 #[.agg cs.toArray,vo,vn] w0 fun v w'=>v=.int .i64 (e.val b0 a0)∧Bw w0 w':=by
 intro e
 induction e using E.induct with
 | _ e ih =>
 intro M w0 cs vo vn b0 a0 q0 hR hO hN hg;obtain⟨Ae,ne,ce,rfl,_⟩:=hR.cells;obtain⟨Ao,no,co,rfl⟩:=hO.form;obtain⟨An,nn,cn,rfl⟩:=hN.form;have g0:=(I1a hg).1;have F0:=(I1a hg).2;have G0:=hR.kidsRd;have W0:=g0.1;have X0:=g0.2.1;have S0:=I3a g0;have E0:=L1a e.op;have T0:(e.op=3∨e.op=2)→0≤e.n∧e.n<32:=fun h=>by
  have:=(y5a).1 g0;omega
 have f0:=E.val_def b0 a0 e;obtain⟨V,eV⟩:∃V,V=e.kids.map (E.val b0 a0):=⟨_,Z⟩;have R0:V.length=e.kids.length:=by rw[eV,List.length_map]
 have S:=(St.refl w0).nilEnt 3;refine a0a func141 Z ntmps141 Z ?_;refine wO1 Z (o0a S Z ?_);intro g3 w3 S3 X3 G3;refine lB S3.k [.o 0] Z ⟨Z,U⟩ (fun A0=>?_) fun A0=>?_
 ·refine lC1 Z (y0a b0a [0,1,2,3,4,5,6,7] [] [] Z (Cl _ _ _ _) (Cl.start S3) ?_);refine i1a Z ?_;refine qO S3.q [.o 0] Z ⟨Z,U⟩ (k1a Q1c Z Z (fun w1 S1 X1=>a3c a0 e.n M _ _ (hN.keep (S1.keep0 M))) ?_);refine qO S3.q [.o 0] Z ⟨Z,U⟩ (k1a E1b Z Z (fun w1 S1 X1=>I8a _ e.w _) ?_);refine lV Z ?_;rintro d1 ⟨v0,_⟩;refine lR1 Z (w0a Z ?_);exact⟨by rw[f0,if_neg (by omega),if_pos (by omega)],v0.fin⟩
 refine lB S3.k [.o 0] Z ⟨Z,U⟩ (fun B0=>?_) fun B0=>?_
 ·refine lC1 Z (y0a b0a [0,1,2,3,4,5,6,7] [] [] Z (Cl _ _ _ _) (Cl.start S3) ?_);refine i1a Z ?_;refine qO S3.q [.o 0] Z ⟨Z,U⟩ (k1a Q1c Z Z (fun w1 S1 X1=>a3c b0 e.n M _ _ (hO.keep (S1.keep0 M))) ?_);refine qO S3.q [.o 0] Z ⟨Z,U⟩ (k1a E1b Z Z (fun w1 S1 X1=>I8a _ e.w _) ?_);refine lV Z ?_;rintro f1 ⟨x0,_⟩;refine lR1 Z (w0a Z ?_);exact⟨by rw[f0,if_neg (by omega),if_neg (by omega),if_pos (by omega)],x0.fin⟩
 refine lC1 Z (wL (fun μk D ε w=>D=[]∧∃k:Nat,∃G:Option Nat,∃i0:LV,∃v:Value,(k+μk=(e.kids.length))∧(T1a (fun _ _=>r9b) 1 [] w0 G i0 v (V.take k))∧St [] w0 w [(some g3,37,[.int .i64 e.op,.int .i64 e.w,.int .i64 e.n,.slice Ae ne ce]),(G,3,i0)]∧Sl ε [(1,.slice Ao no co),(2,.slice An nn cn),(3,.pointer (some ⟨g3,0,none⟩)),(7,v),(8,.int .i64 k)]) (μ:=(e.kids.length)) ⟨Z,0,none,[],.slice none 0 0,by omega,T1a.nil,S3,Z⟩ ?_);rintro μk D ε w ⟨rfl,k,G,i0,v,_,e0,S,eZ⟩;refine wK eZ (wB S.k [.o 0] Z ⟨Z,U⟩ (fun C0=>?_) fun C0=>?_)
 ·refine lOn 8 S.k [] Z U (J0a Z ?_);obtain⟨x,y0,H0,_,p0,j0,_,o0,m0,d0⟩:=RdS.get (G0) (k) (by omega);obtain⟨_,_,_,rfl,_⟩:=RdE.cells d0;have n0:=F0 x (c0a p0);have V0:=y0b n0 b0 a0;have Y0:=(I1a n0).1.2.1;have U0:H3a x.w.toNat≤256:=by rw[u2a];have:=Nat.pow_le_pow_right (show 0<2 by omega) (show x.w.toNat≤8 by omega);omega
  have D0:V[k]?=some (x.val b0 a0):=by rw[eV,List.getElem?_map,p0];rfl
  refine lO (S.k.a m0) [.o 0,.x y0 H0,.v 0] Z ⟨⟨Z,o0⟩,⟨j0,by omega⟩,Z,U⟩ (r0a S J2c Z Z (ih x (c0a p0) M _ _ _ _ b0 a0 _ (RdE.keep (S.keep0 M) _ _ d0) (hO.keep (S.keep0 M)) (hN.keep (S.keep0 M)) n0) ?_);intro Z0 s0 L0;refine k0a s0 R0a (vs:=[.int .i64 _]) (cs:=[_]) Z Z Z Z Z Z ?_;intro Q0 a1 r0 N0 J0;refine r1a v5a (k:=2) (M2:=[]) (e1:=x.val b0 a0) r0 R0a Z e0 Z Z (r0.cells 0 Z) ⟨Z,by unfold i64;omega⟩ (by rw[List.length_take];omega) Z ?_;intro v46 K0 z0 b1 t0 c0 O0 I0;refine B0a Z ?_;refine lP1 Z ?_;refine⟨μk-1,by omega,Z,k+1,_,_,_,by omega,((by rw[u0a D0];exact c0)),t0.tail,Z⟩
 refine lOn 8 S.k [.w 0] Z ⟨⟨Z,Z⟩,U⟩ (J0a Z ?_);refine r0a S Y7c Z Z (o0c e q0 hg b0 a0 ⟨by omega,by omega⟩ [] _ _ _ ((RdE.less (fun g hg=>by cases hg) _ _ (RdE.keep (S.keep0 M) _ _ hR))) (by rw[←eV];have z:=T1a.rd v5a (M:=[]) (w:=w) e0 S (k:=1) Z (fun g hg=>by simp) (by rw[List.length_take];omega);rwa [List.take_of_length_le (by omega)] at z)) ?_;intro c1 u0 P0;exact lU Z Z ⟨Z,u0.fin⟩
theorem e3b:∀(vs a r:LV),vs.length≤r.length→e0a (a++r) a.length vs=a++vs++r.drop vs.length:=by
 intro vs
 induction vs with
 | nil=>intro a r _;simp[e0a]
 | cons v vs ih =>
   intro a r h;cases r with
   | nil=>simp at h
   | cons x r =>
     have h1:(a++x::r).set a.length v=(a++[v])++r:=by simp
     have:=ih (a++[v]) r (by simpa using h);simp only[e0a,h1];rw[show a.length+1=(a++[v]).length by simp,this];simp
variable {P:Program} {r:Option Nat} {N:Nat} {D:List Deferred} {e:Env} {w w0:World} {ops:Array Oper} {rest:List Oper} {K:List Deferred→Env→World→Prop} {L:List Ent} {M:List Nat}
section
variable {d:Nat} {t:TypeId} {p:String} {af:Array Edge} {x y:Operand}
theorem S0d{ty el a0 n:Nat}{z:Value}{kl kc:IntKind}(S:St M w0 w L)(hS:SlZ P ty el 4 z a0)(hx:ev e x=.int kl (n:Int))(hy:ev e y=.int kc (n:Int))(hb:a0*n≤140737488355328)(hc:n≤140737488355328)(hd:Nat.ble (d+1) N=true)
 (h:∀g w1 cs,cs.length=n*4→St M w0 w1 ((some g,el,cs)::L)→x0a [] w w1→w.heap.size≤g→WL P r N ops rest K D (upd e d (.slice (some ⟨g,0,none⟩) n n)) w1) :
 WL P r N ops (⟨some d,.makeSlice ty x y,t,p,af,none⟩::rest) K D e w:=by
 obtain⟨i,hi,hz,d0,c0⟩:=hS.parts;have b0:(i.bytes:Int)*(n:Int)≤281474976710656:=by
  have:((a0*n:Nat):Int)≤281474976710656:=by omega
  rw[c0];rwa [Int.natCast_mul] at this
 have hr:=run_make (P:=P) w ty el i z hS.und hi hz kl kc n n (by omega) (by omega) b0 (by omega);simp only[Int.toNat_natCast] at hr;have hm:madeCells z.cells (n*i.size)=(madeCells z.cells (n*i.size)).toList.toArray:=by simp
 rw[hm] at hr;refine U0a (v:=.slice (some ⟨w.heap.size,0,none⟩) n n) Z Z hd ?_ (h _ _ (madeCells z.cells (n*i.size)).toList (by rw[Array.length_toList,size_madeCells,d0]) (S.alloc el _) (G1a _ _ _) (Nat.le_refl _));simp only[execOp,hx,hy,Sem.run_bind,hr,Result.andThen_ok,Sem.run_pure]
end
theorem b8c{M:List Nat}{w:World}{op wd n:Int}{ks:List E}{g:Nat}{css:List LV}{rest:LV}(h1:i64 op)(h2:i64 wd)(h3:i64 n)(hg:g∉M)(hc:Cells w g 0 (css.flatten++rest))(hl:css.length=ks.length)(h4:∀x∈css,x.length=4)
 (hk:∀(i:Nat) (h:i<ks.length),∃c,css[i]?=some c∧RdE M w ks[i] c) (hb:ks.length≤1000):RdE M w ⟨op,wd,n,ks⟩ [.int .i64 op,.int .i64 wd,.int .i64 n,.slice (some ⟨g,0,none⟩) ks.length ks.length]:=by
 rw[RdE];refine⟨_,_,_,Z,h1,h2,h3,Z,Nat.le_refl _,by unfold maxLen;omega,by show ks.length≤_;omega,fun _=>⟨g,0,Z,hg,fun i hi=>?_⟩⟩;obtain⟨c,q1,q2⟩:=hk i hi;refine⟨c,fun j v hj=>?_,q2⟩;have hf:=M3c css i c h4 q1 j v hj;have a0:i*4+j<css.flatten.length:=(List.getElem?_eq_some_iff.1 hf).1;have:=hc (i*4+j) v (by rw[List.getElem?_append_left a0];exact hf);rw[←Nat.add_assoc] at this;exact this
theorem J9a(n wd:Int)(hn:i64 n)(hw:i64 wd)(M:List Nat)(w0:World):
 A0a prog 163 #[.int .i64 n,.int .i64 wd] w0 fun v w'=>(∃cs:LV,v=.agg cs.toArray∧RdE M w' ⟨1,wd,n,[]⟩ cs)∧Bw w0 w':=by
 have S:=St.refl w0;refine a0a func163 Z ntmps163 Z ?_;refine wO1 Z (g0a S X1a Z Z ?_);intro g4 w4 S4 X4 G4;refine lO1 Z (s0a s1a (vs:=[(0,.int .i64 _),(1,.int .i64 _),(2,.int .i64 _)]) (cs:=[_,_,_,_]) Z Z Z Z ?_)
 first|refine d0a (kk:=0) (vs:=[_,_,_,_]) S4 h1a Z Z Z Z Z Z Z ?_
 intro c0 a0 b0;dsimp only[e0a,List.set] at a0;refine lR1 Z ?_;exact t0a Z D0a Z (a0.cells 0 Z) Z ⟨⟨_,Z,m1a iO hw hn⟩,a0.fin⟩
theorem J0b(e:E)(n:Int)(M:List Nat)(w0:World)(cs:LV)(hR:RdE M w0 e cs):
 A0a prog 162 #[.agg cs.toArray,.int .i64 n] w0 fun v w'=>v=.bool (decide (e.op=1∧e.n=n))∧Bw w0 w':=by
 obtain⟨_,k,_,rfl,-⟩:=hR.open_;have S:=St.refl w0;refine a0a func162 Z ntmps162 Z ?_;refine wO1 Z (o0a S Z ?_);intro g2 w2 S2 X2 G2;refine lB S2.k [.o 0] Z ⟨Z,U⟩ (fun h7=>?_) fun h7=>?_
 ·refine lB S2.k [.o 0] Z ⟨Z,U⟩ (fun a0=>?_) fun a0=>?_
  ·refine lU Z Z ⟨cB ?_,S2.fin⟩;exact(decide_eq_true ⟨h7,a0⟩).symm
  refine lU Z Z ⟨cB ?_,S2.fin⟩;exact(decide_eq_false (fun h=>a0 h.2)).symm
 refine lU Z Z ⟨cB ?_,S2.fin⟩;exact(decide_eq_false (fun h=>h7 h.1)).symm
theorem M2b(e:E)(M:List Nat)(w0:World)(cs:LV)(hR:RdE M w0 e cs)(hK:W1a M w0):
 A0a prog 161 #[.agg cs.toArray] w0 fun v w'=>v=.bool (decide (e.w=1)&&e.wf)∧Bw w0 w':=by
 obtain⟨_,k,_,rfl,-⟩:=hR.open_;have S:=St.refl w0;refine a0a func161 Z ntmps161 Z ?_;refine wO1 Z (o0a S Z ?_);intro g1 w1 S1 X1 G1;refine lB S1.k [.o 0] Z ⟨Z,U⟩ (fun h5=>?_) fun h5=>?_
 ·refine lO S1.k [.w 0] Z ⟨⟨Z,by rfl⟩,U⟩ (i0a S1 o2b Z Z (M2a e M _ _ (RdE.keep (S1.keep0 M) _ _ hR) (hK.keep (S1.keep0 M))) (fun h8 w8 S8 X8=>?_) (fun h8 w8 S8 X8=>?_))
  ·refine lU Z Z ⟨cB ?_,S8.fin⟩;simp[h5,h8];done
  refine lU Z Z ⟨cB ?_,S8.fin⟩;simp[h5,h8];done
 refine lU Z Z ⟨cB ?_,S1.fin⟩;simp[h5];done
theorem d0c(e:E)(M:List Nat)(w0:World)(cs:LV)(hR:RdE M w0 e cs)(hK:W1a M w0):
 A0a prog 165 #[.agg cs.toArray] w0 fun v w'=>(∃cs:LV,v=.agg cs.toArray∧RdE M w' (if e.wf=true then e else⟨0,0,0,[]⟩) cs)∧Bw w0 w':=by
 obtain⟨_,k,_,rfl,-⟩:=hR.open_;have S:=St.refl w0;refine a0a func165 Z ntmps165 Z ?_;refine wO1 Z (o0a S Z ?_);intro g1 w1 S1 X1 G1;refine g0a S1 X1a Z Z ?_;intro g2 w2 S2 X2 G2;refine lO S2.k [.w 1] Z ⟨⟨Z,by rfl⟩,U⟩ (i0a S2 o2b Z Z (M2a e M _ _ (RdE.keep (S2.keep0 M) _ _ hR) (hK.keep (S2.keep0 M))) (fun h4 w4 S4 X4=>?_) (fun h4 w4 S4 X4=>?_))
 ·refine lO S4.k [.w 1] Z ⟨⟨Z,by rfl⟩,U⟩ (d0a (kk:=0) (vs:=[_,_,_,_]) S4 h1a Z Z Z Z Z Z Z ?_);intro f0 a0 d0;dsimp only[e0a,List.set] at a0;refine lR1 Z ?_;exact t0a Z D0a Z (a0.cells 0 Z) Z ⟨⟨_,Z,by rw[if_pos h4];exact RdE.keep (a0.keep0 M) _ _ hR⟩,a0.fin⟩
 refine lO1 Z (s0a s1a (vs:=[]) (cs:=[_,_,_,_]) Z Z Z Z ?_);refine d0a (kk:=0) (vs:=[_,_,_,_]) S4 h1a Z Z Z Z Z Z Z ?_;intro e0 b0 c0;dsimp only[e0a,List.set] at b0;refine lR1 Z ?_;exact t0a Z D0a Z (b0.cells 0 Z) Z ⟨⟨_,Z,by rw[if_neg (by simp[h4])];exact m1a iO iO iO⟩,b0.fin⟩
theorem n4c(e:E)(M:List Nat)(w0:World)(b o:Nat)(hR:RdP M w0 e b o)(hk:e.kids.length=0):
 A0a prog 225 #[.pointer (some ⟨b,o,none⟩)] w0 fun v w'=>(∃cs:LV,v=.agg cs.toArray∧∀M',RdE M' w' e cs)∧Bw w0 w':=by
 obtain⟨_,o1,o2,o3,c0,c1,c2,-⟩:=hR.open_;have S:=St.refl w0;have he:e=⟨e.op,e.w,e.n,[]⟩:=by
  obtain⟨_,b,_⟩:=e;simp at hk;rw[hk]
 refine a0a func225 Z ntmps225 Z ?_;refine wO1 Z (g0a S X1a Z Z ?_);intro g2 w2 S2 X2 G2;refine lC1 Z (y0a b0a [0,1,2,3,4,5,6,7,8,9,10,11,12] [] [13] Z (Cl _ _ _ _) (Cl.start S2) ?_);refine qO1 Z (j0a E0a Z (fun w1 hw=>by exact hw.1.old c0) Z ?_);refine qO1 Z (j0a E0a Z (fun w1 hw=>by exact hw.1.old c1) Z ?_);refine qO1 Z (j0a E0a Z (fun w1 hw=>by exact hw.1.old c2) Z ?_);refine R2a s1a (vs:=[(0,.int .i64 _),(1,.int .i64 _),(2,.int .i64 _)]) (cs:=[_,_,_,_]) Z Z Z Z ?_;refine lV Z ?_;rintro f0 ⟨e0,_⟩
 first|refine d0a (kk:=0) (vs:=[_,_,_,_]) e0 h1a Z Z Z Z Z Z Z ?_
 intro d0 a0 b0;dsimp only[e0a,List.set] at a0;refine lR1 Z ?_;exact t0a Z D0a Z (a0.cells 0 Z) Z ⟨⟨_,Z,fun M'=>by rw[he];exact m1a o1 o2 o3⟩,a0.fin⟩
theorem P6b:∀(e:E) (M:List Nat) (w0:World) (b o:Nat) (v0:Int),RdP M w0 e b o→e.good v0=true→(∀g∈M,g<w0.heap.size) →
 A0a prog 224 #[.pointer (some ⟨b,o,none⟩),.func (.func 225) #[] #[]] w0 fun v w'=>(∃cs:LV,v=.agg cs.toArray∧RdE M w' e cs)∧Bw w0 w':=by
 intro e
 induction e using E.induct with
 | _ e ih =>
 intro M w0 b o v0 hR hg hM;obtain⟨_,o1,o2,o3,c0,c1,c2,_,n,c,c3,hn,_,hm,_,S0,_⟩:=hR.open_;obtain⟨V0,Q0⟩:=I1a hg;have a1:=(I3a V0).2.2.1;have O0:=L1a e.op;have h3:e.kids.length≤3:=by omega
 subst hn;have S:=St.refl w0;refine a0a func224 Z ntmps224 Z ?_;refine wO1 Z (g0a S X1a Z Z ?_);intro g4 w4 S4 X4 G4;refine lO1 Z (G0a Q1a Z (by exact S4.old c3) Z ?_);refine lB1 Z (fun J0=>?_) fun J0=>?_
 ·refine lO1 Z (q8a S4 P7c Z Z Z (n4c e M _ b o (hR.keep (S4.keep0 M)) (by omega)) ?_);rintro d1 g1 ⟨_,rfl,D0⟩ E0 Y0;obtain⟨_,_,_,rfl,-⟩:=(D0 []).open_
  first|refine d0a (kk:=0) (vs:=[_,_,_,_]) E0 h1a Z Z Z Z Z Z Z ?_
  intro W0 f0 q0;dsimp only[e0a,List.set] at f0;exact lR1 Z (t0a Z D0a Z (f0.cells 0 Z) Z ⟨⟨_,Z,RdE.more (fun g hg=>.inl (by simp[hg])) _ _ (RdE.keep (q0.mono (by simp)) _ _ (D0 (g4::M)))⟩,f0.fin⟩)
 refine lO1 Z (G0a Q1a Z (by exact S4.old c3) Z ?_);refine lO1 Z (S0d (n:=e.kids.length) S4 T0a Z Z (by omega) (by omega) Z ?_);intro d0 i1 r0 C0 F0 Z0 X0;refine lC1 Z (wL (fun μ D ε w=>D=[]∧∃k:Nat,∃css:List LV,∃rest:LV,(k+μ=e.kids.length)∧(css.length=k)∧(∀x∈css,x.length=4)∧(rest.length=μ*4)∧(∀(i:Nat) (h:i<e.kids.length),i<k→∃c,css[i]?=some c∧RdE (d0::g4::M) w e.kids[i] c)∧St [] w0 w [(some d0,37,css.flatten++rest),(some g4,37,[.int .i64 0,.int .i64 0,.int .i64 0,.slice none 0 0])]∧ε 0=.pointer (some ⟨b,o,none⟩)∧ε 1=.func (.func 225) #[] #[]∧ε 4=.pointer (some ⟨g4,0,none⟩)∧ε 5=.slice (some ⟨d0,0,none⟩) e.kids.length e.kids.length∧ε 23=.int .i64 e.kids.length∧ε 24=.int .i64 k) (μ:=e.kids.length) ⟨Z,0,[],r0,by omega,Z,by simp,by omega,fun i h h0=>absurd h0 (by omega),F0,Z,Z,Z,Z,Z,Z⟩ ?_);rintro μ D ε w ⟨rfl,k,css,rest,_,hl,h4,T0,B0,S,e0,e1,e4,e5,z0,A0⟩;refine q0a 0 e0 (q0a 1 e1 (q0a 4 e4 (q0a 5 e5 (q0a 23 z0 (q0a 24 A0 ?_)))));clear e0 e1 e4 e5 z0 A0;have L0:∀g∈d0::g4::M,g∈M∨w0.heap.size≤g:=by
  intro g hg;simp at hg;rcases hg with rfl|rfl|hg
  ·right;simpa using S.new 0 Z
  ·right;simpa using S.new 1 Z
  ·exact .inl hg
 have N0:∀g∈d0::g4::M,g<w.heap.size:=by
  intro g hg;simp at hg;rcases hg with rfl|rfl|hg
  ·exact S.lt 0 Z
  ·exact S.lt 1 Z
  ·have:=hM g hg;have:=S.size;omega
 refine wB1 Z (fun K0=>?_) fun K0=>?_
 ·refine lO1 Z (G0a Q1a Z (by exact S.old c3) Z ?_);refine lO1 Z ?_;have u0:k<e.kids.length:=by omega
  obtain⟨bk,ok,_,s0,R0⟩:=S0 (by omega);refine N0a T0a.slT Z (by assumption) Z Z ?_;refine lO1 Z (h0a S V1c Z Z (ih e.kids[k] (List.getElem_mem u0) (d0::g4::M) _ bk (ok+k*4) (v0-1) (((RdP.kid s0 R0 k u0).more L0).keep (S.keep0 _)) (Q0 _ (List.getElem_mem u0)) N0) ?_);rintro f1 j1 ⟨g0,rfl,x0⟩ y0 H0;have i0:=x0.length;obtain⟨_,_,_,n0,-⟩:=x0.open_;refine lO y0.k [.i] Z ⟨by omega,U⟩ ?_;refine d0a (kk:=0) (vs:=g0) y0 h1a Z Z (by simp) i0 (by rw[n0];rfl) Z (by rw[Nat.ble_eq,List.length_append,M4a css h4,hl,T0];simp;omega) ?_;intro o0 S7 b0;have P0:css.flatten.length=k*4:=by rw[M4a css h4,hl]
  have U0:e0a (css.flatten++rest) (0+(k:Int).toNat*4) g0=(css++[g0]).flatten++rest.drop 4:=by
   rw[show(0+(k:Int).toNat*4)=css.flatten.length by simp[P0],e3b g0 css.flatten rest (by omega),i0];simp
  have j0:St [] w0 o0 [(some d0,37,(css++[g0]).flatten++rest.drop 4),(some g4,37,[.int .i64 0,.int .i64 0,.int .i64 0,.slice none 0 0])]:=by rw[←U0];exact S7
  refine lP1 Z ?_;refine⟨μ-1,by omega,Z,k+1,css++[g0],rest.drop 4,by omega,by simp[hl],fun x hx=>?_,by rw[List.length_drop];omega,fun i hi b1=>?_,?_,Z,Z,Z,Z,Z,Z⟩
  ·rcases List.mem_append.1 hx with hx|hx
   ·exact h4 x hx
   ·simp at hx;subst hx;exact i0
  ·by_cases t0:i<k
   ·obtain⟨q,q1,q2⟩:=B0 i hi t0;exact⟨q,by rw[List.getElem?_append_left (by omega)];exact q1,RdE.keep (b0.mono (by simp)) _ _ (RdE.keep H0.of_nil _ _ q2)⟩
   ·obtain rfl:i=k:=by omega
    exact⟨g0,by rw[List.getElem?_append_right (by omega),hl];simp,RdE.keep (b0.mono (by simp)) _ _ x0⟩
  ·exact j0
 refine lC1 Z (y0a b0a [0,1,2,3,4,5,6,7,8,9,10,11,12,13] [] [14] Z (Cl _ _ _ _) (Cl.start S) ?_);refine qO1 Z (j0a E0a Z (fun w1 hw=>by exact hw.1.old c0) Z ?_);refine qO1 Z (j0a E0a Z (fun w1 hw=>by exact hw.1.old c1) Z ?_);refine qO1 Z (j0a E0a Z (fun w1 hw=>by exact hw.1.old c2) Z ?_);refine qO1 Z (R2a s1a (vs:=[(0,.int .i64 _),(1,.int .i64 _),(2,.int .i64 _),(3,.slice _ _ _)]) (cs:=[_,_,_,_]) Z Z Z Z ?_);refine lV Z ?_;rintro m1 ⟨G0,I0⟩;refine d0a (kk:=1) (vs:=[_,_,_,_]) G0 h1a Z Z Z Z Z Z Z ?_;intro p0 a0 m0;dsimp only[e0a,List.set] at a0;refine lR1 Z (t0a Z D0a Z (a0.cells 1 Z) Z ⟨⟨_,Z,?_⟩,a0.fin⟩);have he:(⟨e.op,e.w,e.n,e.kids⟩:E)=e:=by cases e;rfl
 suffices hq:RdE M p0 ⟨e.op,e.w,e.n,e.kids⟩ [.int .i64 e.op,.int .i64 e.w,.int .i64 e.n,.slice (some ⟨d0,0,none⟩) e.kids.length e.kids.length] by rw[he] at hq;exact hq
 refine b8c (css:=css) (rest:=rest) o1 o2 o3 (fun hm=>?_) (a0.cells 0 Z) (by omega) h4 (fun i hi=>?_) (by omega)
 ·have h1:=hM _ hm;have h2:=a0.new 0 Z;simp at h2;omega
 ·obtain⟨q,q1,q2⟩:=B0 i hi (by omega);exact⟨q,q1,RdE.more (fun g hg=>.inl (by simp[hg])) _ _ (RdE.keep (m0.mono (by simp)) _ _ (RdE.keep I0.of_nil _ _ q2))⟩
theorem F1c(e:E)(M:List Nat)(w0:World)(cs:LV)(c0:Int)(hR:RdE M w0 e cs)(hg:e.good c0=true)(hM:∀g∈M,g<w0.heap.size):
 A0a prog 164 #[.agg cs.toArray] w0 fun v w'=>(∃cs:LV,v=.agg cs.toArray∧RdE M w' e cs)∧Bw w0 w':=by
 obtain⟨_,_,_,rfl,-⟩:=hR.open_;have S:=St.refl w0;refine a0a func164 Z ntmps164 Z ?_;refine wO1 Z (o0a S Z ?_);intro g1 w1 S1 X1 G1;refine g0a S1 X1a Z Z ?_;intro g2 w2 S2 X2 G2;refine lO1 Z ?_;have d0:∀g∈g2::M,g∈M∨w0.heap.size≤g:=by
  intro g hg;rcases List.mem_cons.1 hg with rfl|hg
  ·right;simpa using S2.new 0 Z
  ·exact .inl hg
 have hP:RdP (g2::M) w2 e g1 0:=⟨fun hm=>by
  rcases List.mem_cons.1 hm with hm|hm
  ·exact absurd (P7a S2.apart (i:=1) (j:=0) Z Z Z (congrArg some hm.symm)) (by decide)
  ·have h1:=hM _ hm;have h2:=S2.new 1 Z;simp at h2;omega,_,S2.cells 1 Z,RdE.keep (S2.keep0 _) _ _ (RdE.more d0 _ _ hR)⟩
 refine h0a S2 V1c Z Z (P6b e (g2::M) _ g1 0 c0 hP hg (fun g hg=>by rcases List.mem_cons.1 hg with rfl|hg;exact S2.lt 0 Z;have:=hM g hg;have:=S2.size;omega)) ?_;rintro v3 w3 ⟨_,rfl,r3⟩ S3 X3;obtain⟨_,_,_,rfl,-⟩:=r3.open_;refine d0a (kk:=0) (vs:=[_,_,_,_]) S3 h1a Z Z Z Z Z Z Z ?_;intro e0 a0 b0;dsimp only[e0a,List.set] at a0;replace r3:=RdE.keep (b0.mono (by simp)) _ _ r3;exact lR1 Z (t0a Z D0a Z (a0.cells 0 Z) Z ⟨⟨_,Z,RdE.more (fun g hg=>.inl (by simp[hg])) _ _ r3⟩,a0.nil.fin⟩)
def c5d(M:List Nat)(w0:World)(cs:LV)(e:E):Prop:=RdE M w0 e cs
theorem i9c(M:List Nat)(w0:World):D7a (fun(_:List Nat) (_:World)=>c5d M w0) 4 where
 len h:=RdE.length h
 one h u hu:=by
  obtain⟨_,_,_,rfl,-⟩:=RdE.open_ h;simp at hu;rcases hu with rfl|rfl|rfl|rfl<;>rfl
 keep _ h:=h
 more _ h:=h
theorem R6a{op unit:Int}{l:List E}{e:E}(he:e∈l)(h:h5a e=false):u3a op unit l=zE:=by
 unfold u3a;rw[if_neg];intro hh;rw[List.all_eq_true.1 hh e he] at h;cases h
theorem q5b{op unit:Int}{l:List E}(h:∀e∈l,h5a e=true)(hd:l.any (fun e=>isC e (1-unit))=true):u3a op unit l=⟨1,1,1-unit,[]⟩:=by
 unfold u3a;rw[if_pos (List.all_eq_true.2 h),if_pos hd]
theorem E3a{op unit:Int}{l:List E}(h:∀e∈l,h5a e=true)(hd:l.any (fun e=>isC e (1-unit))=false):u3a op unit l=if(U6a op unit (d2a l)).wf then U6a op unit (d2a l) else zE:=by
 unfold u3a;rw[if_pos (List.all_eq_true.2 h),if_neg (by rw[hd];decide)]
theorem p0c{op unit:Int}{l:List E}(h:∀e∈l,h5a e=true)(hd:l.any (fun e=>isC e (1-unit))=false)(hk:40<(d2a l).length):u3a op unit l=zE:=by
 rw[E3a h hd,if_neg];intro hh;have:=I2d hh;omega
theorem B9b{op unit:Int}{l:List E}(hu:unit=0∨unit=1)(h:∀e∈l,h5a e=true)(hd:l.any (fun e=>isC e (1-unit))=false)(hk:d2a l=[]):u3a op unit l=⟨1,1,unit,[]⟩:=by
 rw[E3a h hd,hk];rcases hu with rfl|rfl
 ·rfl
 ·rfl
def h3a(l:List E)(k:Nat):List E:=(d2a (l.take k)).take 41
theorem R2c(l:List E)(k:Nat):(h3a l k).length≤41:=by unfold h3a;rw[List.length_take];omega
theorem M5b(l:List E):(h3a l l.length).length=min 41 (d2a l).length:=by unfold h3a;rw[List.length_take,List.take_length]
theorem J3b{l:List E}{k:Nat}{e:E}(h:l[k]?=some e)(hn:e.op=1∨41≤(h3a l k).length):h3a l (k+1)=h3a l k:=by
 unfold h3a at hn ⊢;rw[u0a h,V8a]
 split
 ·rfl
 ·rename_i ho;rw[List.length_take] at hn;rw[List.take_append_of_le_length (by omega)]
theorem u1c{l:List E}{k:Nat}{e:E}(h:l[k]?=some e)(ho:e.op≠1)(hn:(h3a l k).length≤40):h3a l (k+1)=h3a l k++[e]:=by
 unfold h3a at hn ⊢;rw[List.length_take] at hn;rw[u0a h,V8a,if_neg ho,List.take_of_length_le (l:=d2a (l.take k)) (by omega),List.take_of_length_le (by simp;omega)]
theorem Y5a{α:Type}{l:List α}{k:Nat}{e:α}(f:α→Bool)(h:l[k]?=some e):(l.take (k+1)).any f=((l.take k).any f||f e):=by
 rw[u0a h];simp
theorem L4c(a b:E)(op:Int)(ho:i64 op)(ca cb:LV)(g:Nat)(M:List Nat)(w0:World)(hM:∀g∈M,g<w0.heap.size)(ha:RdE M w0 a ca)(hb:RdE M w0 b cb)(hg:w0.cell? ⟨g,0,none⟩=some (.int .i64 op)):
 A0a prog 167 #[.agg ca.toArray,.agg cb.toArray,.pointer (some ⟨g,0,none⟩)] w0 fun v w'=>(∃cs:LV,v=.agg cs.toArray∧RdE M w' (jnE op a b) cs)∧Bw w0 w':=by
 have S:=St.refl w0;obtain⟨_,_,_,rfl,-⟩:=ha.open_;obtain⟨_,_,_,rfl,-⟩:=hb.open_;refine a0a func167 Z ntmps167 Z ?_;refine wO1 Z (o0a S Z ?_);intro g3 w3 S3 X3 G3;refine o0a S3 Z ?_;intro g4 w4 S4 X4 G4;refine g0a S4 X1a Z Z ?_;intro g5 w5 S5 X5 G5;refine lO1 Z (G0a E0a Z (by exact S5.old hg) Z ?_);refine lO S5.k [.w 2,.w 1] Z ⟨⟨Z,by rfl⟩,⟨Z,by rfl⟩,U⟩ (k0a S5 T0a (vs:=[.agg _,.agg _]) (cs:=[_,_,_,_,_,_,_,_]) Z Z Z Z Z Z ?_);intro g9 w9 S9 X9 G9;refine s0a s1a (vs:=[(0,.int .i64 _),(1,.int .i64 _),(3,.slice _ _ _)]) (cs:=[_,_,_,_]) Z Z Z Z ?_;refine d0a (kk:=1) (vs:=[_,_,_,_]) S9 h1a Z Z Z Z Z Z Z ?_;intro c0 a0 b0;dsimp only[e0a,List.set] at a0;refine lR1 Z ?_;refine t0a Z D0a Z (a0.cells 1 Z) Z ⟨⟨_,Z,X3b ho iO (fun hm=>?_) (a0.cells 0 Z) (RdE.keep (a0.keep0 M) _ _ ha) (RdE.keep (a0.keep0 M) _ _ hb)⟩,a0.fin⟩;have h1:=hM _ hm;have h2:=a0.new 0 Z;simp at h2;omega
theorem b5c(l:List E)(op unit:Int)(ho:i64 op)(y0:0<l.length)(S0:l.length≤1000)(M:List Nat)(w0:World)(vl:Value)(g:Nat)(hL:RdL M w0 vl l)(hM:∀g∈M,g<w0.heap.size)(hg:w0.cell? ⟨g,0,none⟩=some (.int .i64 op)):
 A0a prog 166 #[vl,.func (.func 167) #[] #[.pointer (some ⟨g,0,none⟩)]] w0 fun v w'=>(∃cs:LV,v=.agg cs.toArray∧RdE M w' (U6a op unit l) cs)∧Bw w0 w':=by
 obtain⟨_,n,c,rfl,_,hc,_,_,I0⟩:=hL.open_;obtain⟨b,o,rfl,u0,x0⟩:=I0 (by omega);have S:=St.refl w0;refine a0a func166 Z ntmps166 Z ?_;refine wO1 Z (g0a S X1a Z Z ?_);intro g4 w4 S4 X4 G4;refine lO1 Z ?_;obtain⟨_,p0,j0⟩:=x0 0 y0;obtain⟨_,_,_,rfl,-⟩:=j0.open_;refine N0a T0a.slT Z (by rfl) Z Z ?_;refine k3a D0a Z (p0.keep (S4.keep0 M) u0) (by rfl) Z ?_;refine g0a S4 X1a Z Z ?_;intro g5 w5 S5 X5 G5;refine d0a (kk:=0) (vs:=[_,_,_,_]) S5 h1a Z Z Z Z Z Z Z ?_;intro N0 b0 D0;dsimp only[e0a,List.set] at b0;refine lO1 Z (u7a (lo:=1) (hi:=n) T0a.slT Z (.inr Z) (.inl ⟨Z,Z⟩) hc hc Z ?_);obtain⟨m0,i0⟩:∃m0:Addr,(if c=1 then(⟨b,o,none⟩:Addr) else⟨b,o+1*4,none⟩)=m0:=⟨_,Z⟩;rw[i0];have G0:1<n→some m0=some (⟨b,o+4,none⟩:Addr):=fun h=>by rw[←i0,if_neg (by omega)]
 refine lC1 Z ?_;refine wL (fun μ D ε w=>D=[]∧∃k:Nat,∃co:LV,∃out:E,(k+1+μ=l.length)∧(out=U6a op unit (l.take (k+1)))∧(RdE (g4::g5::M) w out co)∧St [] w0 w [(some g5,37,co),(some g4,37,[.int .i64 0,.int .i64 0,.int .i64 0,.slice none 0 0])]∧ε 0=.slice (some ⟨b,o,none⟩) n c∧ε 1=.func (.func 167) #[] #[.pointer (some ⟨g,0,none⟩)]∧ε 4=.pointer (some ⟨g4,0,none⟩)∧ε 5=.pointer (some ⟨g5,0,none⟩)∧ε 12=.slice (some m0) (n-1) (c-1)∧ε 13=.int .i64 ((n-1:Nat):Int)∧ε 14=.int .i64 k) (μ:=l.length-1) ⟨Z,0,_,l[0],by omega,by rw[Z1b op unit l 0 y0,if_pos rfl],RdE.keep (b0.keep0 _) _ _ (RdE.more (fun x hx=>by simp at hx;rcases hx with rfl|rfl|hx;right;simpa using b0.new 1 Z;right;simpa using b0.new 0 Z;exact .inl hx) _ _ j0),b0,Z,Z,Z,Z,Z,Z,Z⟩ ?_;rintro μ D ε w ⟨rfl,k,co,out,_,d0,ro,S,e0,e1,e4,e5,r0,s0,t0⟩;refine q0a 0 e0 (q0a 1 e1 (q0a 4 e4 (q0a 5 e5 (q0a 12 r0 (q0a 13 s0 (q0a 14 t0 ?_))))));clear e0 e1 e4 e5 r0 s0 t0;obtain⟨_,_,_,rfl,-⟩:=ro.open_;have H0:∀x∈g4::g5::M,x<w.heap.size:=by
  intro x hx;simp at hx;rcases hx with rfl|rfl|hx
  ·exact S.lt 1 Z
  ·exact S.lt 0 Z
  ·have:=hM x hx;have:=S.size;omega
 refine wB1 Z (fun E0=>?_) fun E0=>?_
 ·refine lO1 Z ?_;have z0:k+1<l.length:=by omega
  have F0:=G0 (by omega);obtain⟨_,v0,A0⟩:=x0 (k+1) z0;obtain⟨_,_,_,rfl,-⟩:=A0.open_;rw[show o+(k+1)*4=o+4+k*4 by omega] at v0;refine N0a T0a.slT Z (by assumption) Z Z ?_;refine k3a D0a Z (v0.keep (S.keep0 M) u0) (by rfl) Z ?_;refine g0a S X1a Z Z ?_;intro g7 w7 S7 X7 G7;have L0:=RdE.keep X7.of_nil _ _ (RdE.more (M':=g7::g4::g5::M) (fun x hx=>by rcases List.mem_cons.1 hx with rfl|hx;exact .inr G7;exact .inl hx) _ _ ro);have T0:=X7.size;refine d0a (kk:=0) (vs:=[_,_,_,_]) S7 h1a Z Z Z Z Z Z Z ?_;intro O0 a0 g0;dsimp only[e0a,List.set] at a0;refine lO a0.k [.w 1] Z ⟨⟨Z,by rfl⟩,U⟩ (k3a D0a Z (a0.cells 0 Z) Z Z ?_);have K0:=RdE.more (M':=g4::g5::M) (fun x hx=>.inl (List.mem_cons_of_mem _ hx)) _ _ (RdE.keep (g0.mono (by simp)) _ _ L0);refine q8a a0 f1d Z Z Z (L4c out l[k+1] op ho _ _ g (g4::g5::M) _ (fun x hx=>by have:=H0 x hx;have:=g0.size;omega) K0 (RdE.keep (a0.keep0 _) _ _ (RdE.more (fun x hx=>by simp at hx;rcases hx with rfl|rfl|hx;right;simpa using a0.new 2 Z;right;simpa using a0.new 1 Z;exact .inl hx) _ _ A0)) (a0.old hg)) ?_;rintro U0 V0 ⟨_,rfl,B0⟩ C0 R0;obtain⟨_,_,_,rfl,-⟩:=B0.open_;refine d0a (kk:=1) (vs:=[_,_,_,_]) C0 h1a Z Z Z Z Z Z Z ?_;intro P0 f0 n0;dsimp only[e0a,List.set] at f0;have q0:=RdE.keep (n0.mono (by simp)) _ _ B0;refine lP1 Z ?_;have hs:=Z1b op unit l (k+1) z0;rw[if_neg (by omega),←d0] at hs;exact⟨μ-1,by omega,Z,k+1,_,jnE op out l[k+1],by omega,hs.symm,q0,f0.tail,Z,Z,Z,Z,Z,Z,Z⟩
 refine lO S.k [.w 0] Z ⟨⟨Z,by rfl⟩,U⟩ (d0a (kk:=1) (vs:=[_,_,_,_]) S h1a Z Z Z Z Z Z Z ?_);intro Q0 c0 o0;dsimp only[e0a,List.set] at c0;refine lR1 Z ?_;have J0:l.take (k+1)=l:=List.take_of_length_le (by omega);rw[J0] at d0;exact t0a Z D0a Z (c0.cells 1 Z) Z ⟨⟨_,Z,by rw[←d0];exact RdE.more (fun x hx=>.inl (by simp[hx])) _ _ (RdE.keep (o0.mono (by simp)) _ _ ro)⟩,c0.fin⟩
theorem w1b(l:List E)(op unit:Int)(ho:i64 op)(hu:unit=0∨unit=1)(M:List Nat)(w0:World)(vl:Value)(hL:RdL M w0 vl l)(hM:∀g∈M,g<w0.heap.size)(hK:W1a M w0):
 A0a prog 109 #[vl,.int .i64 op,.int .i64 unit] w0 fun v w'=>(∃cs:LV,v=.agg cs.toArray∧RdE M w' (u3a op unit l) cs)∧Bw w0 w':=by
 have N0:=hL.rdS;obtain⟨A,n,c,rfl⟩:=N0.form;obtain⟨_,_⟩:=N0.len;have S:=(St.refl w0).nilEnt 37;refine a0a func109 Z ntmps109 Z ?_;refine wO1 Z (n2b S (v:=.int .i64 _) Z Z Z ?_);intro g4 w4 S4 X4 G4;refine g0a S4 X1a Z Z ?_;intro g6 w6 S6 X6 G6;refine lOn 4 S6.k [] Z U (B0a Z ?_);refine lC1 Z (wL (fun μk D ε w=>D=[]∧∃k:Nat,∃G:Option Nat,∃A0:LV,∃v:Value,∃dc:Bool,(k+μk=(l.length))∧(Y0a (l) k (fun e=>h5a e=true))∧(dc=(l.take k).any (fun e=>isC e (1-unit)))∧(T1a (fun _ _=>c5d M w0) 4 [] w0 G A0 v (h3a l k))∧St [] w0 w [(some g6,37,[.int .i64 0,.int .i64 0,.int .i64 0,.slice none 0 0]),(some g4,3,[.int .i64 op]),(G,37,A0)]∧Sl ε [(2,.int .i64 unit),(4,.pointer (some ⟨g4,0,none⟩)),(6,.pointer (some ⟨g6,0,none⟩)),(7,v),(8,.bool dc),(12,.slice A n c),(13,.int .i64 n),(14,.int .i64 k)]) (μ:=(l.length)) ⟨Z,0,none,[],.slice none 0 0,false,by omega,Y0a.zero,Z,T1a.nil,S6,Z⟩ ?_);rintro μk D ε w ⟨rfl,k,G,A0,v,dc,_,D0,o0,b0,S,eZ⟩;refine wK eZ ?_;obtain⟨_,cv,rfl⟩:=b0.form;refine wB1 Z (fun D1=>?_) fun D1=>?_
 ·obtain⟨e,A1,N1,_,c0,L0,_,R0,P0,G0⟩:=RdS.get (N0) (k) (by omega);obtain⟨_,_,_,rfl,_⟩:=RdE.cells G0;have J0:RdE M w0 e _:=G0;refine lO (S.k.a P0) [.x A1 N1,.v 0] Z ⟨⟨Z,R0⟩,⟨L0,by omega⟩,U⟩ (g0a S X1a Z Z ?_);intro h2 o2 p1 Z1 W1;refine d0a (kk:=0) (vs:=[_,_,_,_]) p1 h1a Z Z Z Z Z Z Z ?_;intro T1 i0 x1;dsimp only[e0a,List.set] at i0;refine lO i0.k [.w 0] Z ⟨⟨Z,by rfl⟩,U⟩ (i0a i0 g8c Z Z (M2b e M _ _ (RdE.keep (i0.keep0 M) _ _ J0) (hK.keep (i0.keep0 M))) (fun s0 P1 u0 u1=>?_) (fun s0 P1 u0 u1=>?_))
  ·refine lO u0.k [.w 0] Z ⟨by omega,⟨Z,by rfl⟩,U⟩ (i0a u0 y1c Z Z (J0b e (1-unit) M _ _ (RdE.keep (u0.keep0 M) _ _ J0)) (fun p0 Q1 x0 v1=>?_) (fun p0 Q1 x0 v1=>?_))
   ·refine lP1 Z ⟨μk-1,by omega,Z,k+1,_,_,_,_,by omega,(D0.succ c0 (s0)),?_,?_,x0.tail,Z⟩
    ·rw[Y5a _ c0,←o0];rw[show isC e (1-unit)=true from p0];simp;done
    ·rw[J3b c0 (.inl (of_decide_eq_true p0).1)];exact b0
   refine lO x0.k [.w 0] Z ⟨⟨Z,by rfl⟩,U⟩ (i0a x0 y1c Z Z (J0b e unit M _ _ (RdE.keep (x0.keep0 M) _ _ J0)) (fun I0 R1 q0 w1=>?_) (fun I0 R1 q0 w1=>?_))
   ·refine lP1 Z ⟨μk-1,by omega,Z,k+1,_,_,_,_,by omega,(D0.succ c0 (s0)),?_,?_,q0.tail,Z⟩
    ·rw[Y5a _ c0,←o0];rw[show isC e (1-unit)=false from p0];simp;done
    ·rw[J3b c0 (.inl (of_decide_eq_true I0).1)];exact b0
   refine lOn 2 q0.k [] Z U (T2a Z Z Z ?_);refine J0a Z ?_;refine lB1 Z (fun E1=>?_) fun E1=>?_
   ·refine lOn 6 q0.k [] Z U (J0a Z ?_);refine lO q0.k [.w 0] Z ⟨⟨Z,by rfl⟩,U⟩ (k0a q0 T0a (vs:=[.agg _]) (cs:=[_,_,_,_]) Z Z Z Z Z Z ?_);intro i2 p2 T0 a2 X1;refine r1a (i9c M w0) (k:=4) (M2:=[]) (e1:=e) T0 T0a Z b0 Z Z (T0.cells 0 Z) J0 (by have:=R2c l k;omega) Z ?_;intro j2 Y1 C1 q2 q1 t0 b2 V1;refine B0a Z ?_;refine lP1 Z ⟨μk-1,by omega,Z,k+1,_,_,_,_,by omega,(D0.succ c0 (s0)),?_,?_,q1.tail.tail,Z⟩
    ·rw[Y5a _ c0,←o0];rw[show isC e (1-unit)=false from p0];simp;done
    ·rw[u1c c0 (fun F0=>(K8b s0 F0).elim (fun z=>hu.elim (fun u=>of_decide_eq_false I0 ⟨F0,by omega⟩) (fun u=>of_decide_eq_false p0 ⟨F0,by omega⟩)) (fun z=>hu.elim (fun u=>of_decide_eq_false p0 ⟨F0,by omega⟩) (fun u=>of_decide_eq_false I0 ⟨F0,by omega⟩))) (by omega)];exact t0
   refine lP1 Z ⟨μk-1,by omega,Z,k+1,_,_,_,_,by omega,(D0.succ c0 (s0)),?_,?_,q0.tail,Z⟩
   ·rw[Y5a _ c0,←o0];rw[show isC e (1-unit)=false from p0];simp;done
   ·rw[J3b c0 (.inr (by omega))];exact b0
  refine lO1 Z (s0a s1a (vs:=[]) (cs:=[_,_,_,_]) Z Z Z Z ?_);refine d0a (kk:=1) (vs:=[_,_,_,_]) u0 h1a Z Z Z Z Z Z Z ?_;intro U1 r0 z1;dsimp only[e0a,List.set] at r0;refine lR1 Z ?_;exact t0a Z D0a Z (r0.cells 1 Z) Z ⟨⟨_,Z,by rw[R6a (c0a c0) s0];exact m1a iO iO iO⟩,r0.tail.tail.tail.nil.fin⟩
 obtain rfl:k=l.length:=by omega
 have j0:∀e∈l,h5a e=true:=D0.all (Nat.le_refl _);rw[List.take_length] at o0;refine lOn 10 S.k [] Z U ?_;cases n0:dc
 ·refine J0a (hv:=Z) (v:=.bool _) Z ?_;refine lOn 6 S.k [] Z U (J0a Z ?_);refine lB1 Z (fun F1=>?_) fun F1=>?_
  ·refine lO1 Z ?_;refine h0a S i1c Z Z (J9a unit 1 iO iO [] _) ?_;rintro v53 s2 ⟨_,rfl,g1⟩ s1 e2;obtain⟨_,_,_,rfl,-⟩:=g1.open_;refine d0a (kk:=0) (vs:=[_,_,_,_]) s1 h1a Z Z Z Z Z Z Z ?_;intro j1 e0 X0;dsimp only[e0a,List.set] at e0;refine lR1 Z ?_;exact t0a Z D0a Z (e0.cells 0 Z) Z ⟨⟨_,Z,by rw[B9b hu j0 (by rw[←o0,n0]) (List.length_eq_zero_iff.1 (by have:=M5b l;omega))];exact X2b g1⟩,e0.nil.fin⟩
  refine lOn 6 S.k [] Z U (J0a Z ?_);refine lB1 Z (fun Z0=>?_) fun Z0=>?_
  ·refine lO1 Z (s0a s1a (vs:=[]) (cs:=[_,_,_,_]) Z Z Z Z ?_);refine d0a (kk:=0) (vs:=[_,_,_,_]) S h1a Z Z Z Z Z Z Z ?_;intro m1 f0 Y0;dsimp only[e0a,List.set] at f0;refine lR1 Z ?_;exact t0a Z D0a Z (f0.cells 0 Z) Z ⟨⟨_,Z,by rw[p0c j0 (by rw[←o0,n0]) (by have:=M5b l;omega)];exact m1a iO iO iO⟩,f0.nil.fin⟩
  refine lCn 9 S.k [] Z U ?_;have b1:h3a l l.length=d2a l:=by
   have B0:=Z0;unfold h3a at B0 ⊢;rw[List.length_take,List.take_length] at B0;rw[List.take_length,List.take_of_length_le (by omega)]
  obtain⟨g,rfl,rfl,_⟩:=b0.own_ (by omega);have K1:w0.heap.size≤g:=by simpa using S.new 2 Z
  have c1:∀x∈g::g6::M,x∈M∨w0.heap.size≤x:=by
   intro x hx;simp at hx;rcases hx with rfl|rfl|hx
   ·exact .inr K1
   ·right;simpa using S.new 0 Z
   ·exact .inl hx
  have a0:T1a RX 4 (g6::M) w (some g) A0 (.slice (some ⟨g,0,none⟩) (h3a l l.length).length cv) (h3a l l.length):=b0.mapR (fun c x _ hx=>RdE.keep (S.keep0 _) _ _ (RdE.more c1 _ _ hx));have E0:∀e∈h3a l l.length,e.good 40=true:=fun e he=>by
   rw[b1] at he;have:=j0 e (List.mem_filter.1 he).1;unfold h5a at this;simp only[Bool.and_eq_true] at this;exact J6a this.2
  refine wOn 1 S.k [] Z U (J0a Z ?_);refine lC1 Z (wL (fun μj D ε w=>D=[]∧∃j:Nat,∃cs2:LV,(j+μj=((h3a l l.length).length))∧(T1a RX 4 (g6::M) w (some g) cs2 (.slice (some ⟨g,0,none⟩) (h3a l l.length).length cv) (h3a l l.length))∧St [] w0 w [(some g6,37,[.int .i64 0,.int .i64 0,.int .i64 0,.slice none 0 0]),(some g4,3,[.int .i64 op]),(some g,37,cs2)]∧Sl ε [(4,.pointer (some ⟨g4,0,none⟩)),(6,.pointer (some ⟨g6,0,none⟩)),(7,.slice (some ⟨g,0,none⟩) (h3a l l.length).length cv),(60,.int .i64 (h3a l l.length).length),(61,.int .i64 j)]) (μ:=((h3a l l.length).length)) ⟨Z,0,A0,by omega,a0,S,Z⟩ ?_);rintro μj D ε w ⟨rfl,j,cs2,_,a0,S,eZ⟩;refine wK eZ ?_;have a1:∀x∈g::g6::M,x<w.heap.size:=by
   intro x hx;simp at hx;rcases hx with rfl|rfl|hx
   ·exact S.lt 2 Z
   ·exact S.lt 0 Z
   ·have:=hM x hx;have:=S.size;omega
  obtain⟨_,_⟩:=a0.own_ (by omega);refine wB1 Z (fun G1=>?_) fun G1=>?_
  ·have M1:j<(h3a l l.length).length:=by omega
   obtain⟨x,hx⟩:∃x,(h3a l l.length)[j]?=some x:=⟨_,List.getElem?_eq_getElem M1⟩;obtain⟨_,_,_,J1,_,_,H0,d1⟩:=a0.get (k:=2) S Z hx;cases J1;obtain⟨_,_,_,rfl,-⟩:=RdE.open_ d1;refine lO S.k [.i] Z ⟨by omega,U⟩ (k3a D0a Z (H0) (by rfl) Z ?_);refine h0a S K0d Z Z (F1c x (g::g6::M) _ _ 40 d1 (E0 _ (List.mem_of_getElem? hx)) a1) ?_;rintro v70 t2 ⟨B1,rfl,S0⟩ U0 y1;have Q0:=S0.length;obtain⟨_,_,_,C0,-⟩:=S0.open_;refine lO U0.k [.i] Z ⟨by omega,U⟩ ?_;refine d0a (kk:=2) (vs:=B1) U0 h1a Z Z (by simp) Q0 (by rw[C0];rfl) Z (by rw[Nat.ble_eq];simp;omega) ?_;intro n1 v0 y0;have m0:=((a0.keep F3a (y1.of_nil)).setM F3a hx (show 0+(j:Int).toNat*4=j*4 by simp) S0).keep F3a (y0.mono (by simp));rw[a9b hx] at m0;refine lP1 Z ⟨μj-1,by omega,Z,j+1,_,by omega,(m0),v0,Z⟩
  refine lCn 7 S.k [] Z U ?_;have I1:∀x∈g6::M,x<w.heap.size:=fun x hx=>a1 x (List.mem_cons_of_mem _ hx);have O0:RdL (g6::M) w (.slice (some ⟨g,0,none⟩) (h3a l l.length).length cv) (h3a l l.length):=c3d (T1a.rd (M:=g6::M) F3a a0 S (k:=2) Z (fun x hx hm=>by
   cases hx;rcases List.mem_cons.1 hm with hm|hm
   ·exact absurd (P7a S.apart (i:=2) (j:=0) Z Z Z (congrArg some hm.symm)) (by decide)
   ·have h1:=hM _ hm;omega) (by omega))
  have H1:=hK.more (M':=g6::M) (fun x hx=>c1 x (List.mem_cons_of_mem _ hx));refine wOn 1 S.k [] Z U (J0a Z ?_);refine B1a Z Z ?_;refine h0a S q1d Z Z (b5c (h3a l l.length) op unit ho (by omega) (by omega) (g6::M) _ (.slice (some ⟨g,0,none⟩) (h3a l l.length).length cv) g4 O0 I1 (S.cell 1 Z Z)) ?_;rintro n2 u2 ⟨_,rfl,O1⟩ V0 f2;refine h0a V0 x0d Z Z (d0c _ (g6::M) _ _ O1 (H1.keep (V0.keep0 _))) ?_;rintro v76 v2 ⟨_,rfl,K0⟩ t1 g2;obtain⟨_,_,_,rfl,-⟩:=K0.open_;refine d0a (kk:=0) (vs:=[_,_,_,_]) t1 h1a Z Z Z Z Z Z Z ?_;intro o1 g0 z0;dsimp only[e0a,List.set] at g0;replace K0:=RdE.keep (z0.mono (by simp)) _ _ K0;refine lR1 Z (t0a Z D0a Z (g0.cells 0 Z) Z ⟨⟨_,Z,?_⟩,g0.nil.fin⟩);rw[E3a j0 (by rw[←o0,n0]),←b1];exact RdE.more (fun x hx=>.inl (by simp[hx])) _ _ K0
 refine J0a (hv:=Z) (v:=.bool _) Z ?_;refine lO0 Z ⟨by omega,U⟩ ?_;refine h0a S i1c Z Z (J9a (1-unit) 1 iO iO [] _) ?_;rintro m2 r2 ⟨_,rfl,f1⟩ r1 d2;obtain⟨_,_,_,rfl,-⟩:=f1.open_;refine d0a (kk:=0) (vs:=[_,_,_,_]) r1 h1a Z Z Z Z Z Z Z ?_;intro i1 d0 W0;dsimp only[e0a,List.set] at d0;refine lR1 Z ?_;exact t0a Z D0a Z (d0.cells 0 Z) Z ⟨⟨_,Z,by rw[q5b j0 (by rw[←o0,n0])];exact X2b f1⟩,d0.nil.fin⟩
theorem x3c(l:List E)(M:List Nat)(w0:World)(vl:Value)(hL:RdL M w0 vl l)(hM:∀g∈M,g<w0.heap.size)(hK:W1a M w0):
 A0a prog 62 #[vl] w0 fun v w'=>(∃cs:LV,v=.agg cs.toArray∧RdE M w' (u3a 5 1 l) cs)∧Bw w0 w':=by
 obtain⟨_,_,_,rfl,-⟩:=hL.open_;have S:=St.refl w0;refine a0a func62 Z ntmps62 Z ?_;refine wO1 Z (g0a S X1a Z Z ?_);intro g2 w2 S2 X2 G2;refine lO1 Z ?_;have c0:∀g∈g2::M,g∈M∨w0.heap.size≤g:=W3a S2 (k:=0) Z;refine h0a S2 L0c Z Z (w1b l 5 1 iO (.inr Z) (g2::M) _ _ ((hL.more c0).keep (S2.keep0 _)) (fun g hg=>by rcases List.mem_cons.1 hg with rfl|hg;exact S2.lt 0 Z;have:=hM g hg;have:=S2.size;omega) ((hK.more c0).keep (S2.keep0 _))) ?_;rintro v4 w4 ⟨_,rfl,r4⟩ S4 X4;obtain⟨_,_,_,rfl,-⟩:=r4.open_
 first|refine d0a (kk:=0) (vs:=[_,_,_,_]) S4 h1a Z Z Z Z Z Z Z ?_
 intro d0 a0 b0;dsimp only[e0a,List.set] at a0;replace r4:=RdE.keep (b0.mono (by simp)) _ _ r4;exact lR1 Z (t0a Z D0a Z (a0.cells 0 Z) Z ⟨⟨_,Z,RdE.more (fun g hg=>.inl (by simp[hg])) _ _ r4⟩,a0.nil.fin⟩)
theorem j2d(l:List E)(M:List Nat)(w0:World)(vl:Value)(hL:RdL M w0 vl l)(hM:∀g∈M,g<w0.heap.size)(hK:W1a M w0):
 A0a prog 59 #[vl] w0 fun v w'=>(∃cs:LV,v=.agg cs.toArray∧RdE M w' (u3a 6 0 l) cs)∧Bw w0 w':=by
 obtain⟨_,_,_,rfl,-⟩:=hL.open_;have S:=St.refl w0;refine a0a func59 Z ntmps59 Z ?_;refine wO1 Z (g0a S X1a Z Z ?_);intro g2 w2 S2 X2 G2;refine lO1 Z ?_;have c0:∀g∈g2::M,g∈M∨w0.heap.size≤g:=W3a S2 (k:=0) Z;refine h0a S2 L0c Z Z (w1b l 6 0 iO (.inl Z) (g2::M) _ _ ((hL.more c0).keep (S2.keep0 _)) (fun g hg=>by rcases List.mem_cons.1 hg with rfl|hg;exact S2.lt 0 Z;have:=hM g hg;have:=S2.size;omega) ((hK.more c0).keep (S2.keep0 _))) ?_;rintro v4 w4 ⟨_,rfl,r4⟩ S4 X4;obtain⟨_,_,_,rfl,-⟩:=r4.open_
 first|refine d0a (kk:=0) (vs:=[_,_,_,_]) S4 h1a Z Z Z Z Z Z Z ?_
 intro d0 a0 b0;dsimp only[e0a,List.set] at a0;replace r4:=RdE.keep (b0.mono (by simp)) _ _ r4;exact lR1 Z (t0a Z D0a Z (a0.cells 0 Z) Z ⟨⟨_,Z,RdE.more (fun g hg=>.inl (by simp[hg])) _ _ r4⟩,a0.nil.fin⟩)
theorem i3c(l:List E)(k:Nat):∃r,d2a l=d2a (l.take k)++r:=⟨d2a (l.drop k),by unfold d2a;rw[←List.filter_append,List.take_append_drop]⟩
theorem g1b{op unit:Int}{l:List E}{k:Nat}(h:∀e∈l,h5a e=true)(hd:l.any (fun e=>isC e (1-unit))=false)(hk:600<E.cnts (d2a (l.take k))+((d2a (l.take k)).length-1):=by omega):u3a op unit l=zE:=by
 rw[E3a h hd,if_neg];intro hh;obtain⟨r,hr⟩:=i3c l k;have a0:d2a l≠[]:=by
  intro hz;rw[hz] at hr;have h0:d2a (l.take k)=[]:=(List.append_eq_nil_iff.1 hr.symm).1;rw[h0] at hk;simp[E.cnts] at hk
 have h1:=W3c (op:=op) (unit:=unit) a0;have h2:=B2b (d2a (l.take k)) r;rw[←hr] at h2;have h3:(d2a l).length=(d2a (l.take k)).length+r.length:=by rw[hr,List.length_append]
 have h4:(U6a op unit (d2a l)).cnt≤600:=by
  unfold E.wf at hh;simp only[Bool.and_eq_true,decide_eq_true_eq] at hh;exact hh.1
 omega
theorem S2d{e:E}(h:e.wf=true):e.cnt≤600:=by
 unfold E.wf at h;simp only[Bool.and_eq_true,decide_eq_true_eq] at h;exact h.1
theorem D0b{e:E}(h:h5a e=true):e.w=1∧e.wf=true:=by
 unfold h5a at h;simpa using h
theorem f7c(e:E)(n wd:Int)(M:List Nat)(w0:World)(cs:LV)(hR:RdE M w0 e cs)(hw:e.w=wd):
 A0a prog 160 #[.agg cs.toArray,.int .i64 n,.int .i64 wd] w0 fun v w'=>v=.bool (isC e n)∧Bw w0 w':=by
 obtain⟨_,k,_,rfl,-⟩:=hR.open_;have S:=St.refl w0;refine a0a func160 Z ntmps160 Z ?_;refine wO1 Z (o0a S Z ?_);intro g3 w3 S3 X3 G3;refine lB S3.k [.o 0] Z ⟨Z,U⟩ (fun h9=>?_) fun h9=>?_
 ·refine lB S3.k [.o 0] Z ⟨Z,U⟩ (fun a0=>?_) fun a0=>?_
  ·refine lB S3.k [.o 0] Z ⟨Z,U⟩ (fun b0=>?_) fun b0=>?_
   ·refine lU Z Z ⟨cB ?_,S3.fin⟩;unfold isC;exact(decide_eq_true (by omega)).symm
   refine lU Z Z ⟨cB ?_,S3.fin⟩;unfold isC;exact(decide_eq_false (by omega)).symm
  refine lU Z Z ⟨cB ?_,S3.fin⟩;unfold isC;exact(decide_eq_false (by omega)).symm
 refine lU Z Z ⟨cB ?_,S3.fin⟩;unfold isC;exact(decide_eq_false (by omega)).symm
theorem s8b(l:List E)(op unit:Int)(ho:i64 op)(hu:unit=0∨unit=1)(hl:l.length≤100000)(M:List Nat)(w0:World)(vl:Value)(hL:RdL M w0 vl l)(hM:∀g∈M,g<w0.heap.size):
 A0a prog 108 #[vl,.int .i64 op,.int .i64 unit] w0 fun v w'=>(∃cs:LV,v=.agg cs.toArray∧RdE M w' (u3a op unit l) cs)∧Bw w0 w':=by
 have u0:=hL.rdS;obtain⟨A,n,c,rfl⟩:=u0.form;obtain⟨_,_⟩:=u0.len;have S:=St.refl w0;refine a0a func108 Z ntmps108 Z ?_;refine wO1 Z (g0a S X1a Z Z ?_);intro g6 w6 S6 X6 G6;refine lC1 Z (wL (fun μk D ε w=>D=[]∧∃k:Nat,∃dc:Bool,(k+μk=(l.length))∧(Y0a (l) k (fun e=>h5a e=true))∧(dc=(l.take k).any (fun e=>isC e (1-unit)))∧St [] w0 w [(some g6,37,[.int .i64 0,.int .i64 0,.int .i64 0,.slice none 0 0])]∧Sl ε [(0,.slice A n c),(1,.int .i64 op),(2,.int .i64 unit),(6,.pointer (some ⟨g6,0,none⟩)),(7,.bool dc),(8,.int .i64 k)]) (μ:=(l.length)) ⟨Z,0,false,by omega,Y0a.zero,Z,S6,Z⟩ ?_);rintro μk D ε w ⟨rfl,k,dc,_,S0,n0,S,eZ⟩;refine wK eZ (wB1 Z (fun j2=>?_) fun j2=>?_)
 ·obtain⟨e,a2,s2,_,i0,b1,_,_,m1,A1⟩:=RdS.get (u0) (k) (by omega);obtain⟨_,_,_,rfl,_⟩:=RdE.cells A1;refine lB (S.k.a m1) [.x a2 s2,.f 0 1] Z ⟨Z,⟨b1,by omega⟩,U⟩ (fun m2=>?_) fun m2=>?_
  ·refine lO1 Z (s0a s1a (vs:=[]) (cs:=[_,_,_,_]) Z Z Z Z ?_)
   first|refine d0a (kk:=0) (vs:=[_,_,_,_]) S h1a Z Z Z Z Z Z Z ?_
   intro G1 j0 X0;dsimp only[e0a,List.set] at j0;refine lR1 Z ?_;exact t0a Z D0a Z (j0.cells 0 Z) Z ⟨⟨_,Z,by rw[R6a (c0a i0) (by unfold h5a;simp;omega)];exact m1a iO iO iO⟩,j0.nil.fin⟩
  obtain⟨_,b2,t2,_,B1,c1,_,t1,n1,J0⟩:=RdS.get (u0) (k) (by omega);obtain rfl:=Option.some.inj (i0.symm.trans B1);obtain⟨_,_,_,rfl,_⟩:=RdE.cells J0;refine lO (S.k.a n1) [.x b2 t2,.v 0] Z ⟨⟨Z,t1⟩,⟨c1,by omega⟩,U⟩ (i0a S q0b Z Z (O6a e M _ _ (RdE.keep (S.keep0 M) _ _ J0)) (fun I0 z2 y0 V1=>?_) (fun I0 z2 y0 V1=>?_))
  ·refine lOn 9 y0.k [] Z U ?_;cases A0:dc
   ·refine J0a (hv:=Z) (v:=.bool _) Z ?_;obtain⟨_,d2,u2,_,C1,d1,_,u1,o1,K0⟩:=RdS.get (u0) (k) (by omega);obtain rfl:=Option.some.inj (i0.symm.trans C1);obtain⟨_,_,_,rfl,_⟩:=RdE.cells K0;refine lO (y0.k.a o1) [.x d2 u2,.v 0] Z ⟨by omega,⟨Z,u1⟩,⟨d1,by omega⟩,U⟩ (i0a y0 K1c Z Z (f7c e (1-unit) 1 M _ _ (RdE.keep (y0.keep0 M) _ _ K0) (by omega)) (fun Z0 A2 V0 W1=>?_) (fun Z0 A2 V0 W1=>?_))
    ·refine lP1 Z ?_;refine⟨μk-1,by omega,Z,k+1,_,by omega,(S0.succ i0 ((by unfold h5a;simp;exact⟨by omega,I0⟩))),?_,V0,Z⟩;rw[Y5a _ i0,←n0];rw[A0,Z0];rfl
    refine lP1 Z ?_;refine⟨μk-1,by omega,Z,k+1,_,by omega,(S0.succ i0 ((by unfold h5a;simp;exact⟨by omega,I0⟩))),?_,V0,Z⟩;rw[Y5a _ i0,←n0];rw[A0,Z0];rfl
   refine J0a (hv:=Z) (v:=.bool _) Z ?_;refine lP1 Z ?_;refine⟨μk-1,by omega,Z,k+1,_,by omega,(S0.succ i0 ((by unfold h5a;simp;exact⟨by omega,I0⟩))),?_,y0,Z⟩;rw[Y5a _ i0,←n0];rw[A0];simp;done
  refine lO1 Z (s0a s1a (vs:=[]) (cs:=[_,_,_,_]) Z Z Z Z ?_)
  first|refine d0a (kk:=0) (vs:=[_,_,_,_]) y0 h1a Z Z Z Z Z Z Z ?_
  intro G1 j0 X0;dsimp only[e0a,List.set] at j0;refine lR1 Z ?_;exact t0a Z D0a Z (j0.cells 0 Z) Z ⟨⟨_,Z,by rw[R6a (c0a i0) (by unfold h5a;simp;(intro;exact I0))];exact m1a iO iO iO⟩,j0.nil.fin⟩
 obtain rfl:k=l.length:=by omega
 have f0:∀e∈l,h5a e=true:=S0.all (Nat.le_refl _);rw[List.take_length] at n0;refine lOn 8 S.k [] Z U ?_;cases e0:dc
 ·refine J0a (hv:=Z) (v:=.bool _) Z ?_;refine lCn 6 S.k [] Z U ?_;have r2:∀e∈l,¬(e.op=1∧e.n=1-unit):=fun e he hh=>by
   rw[e0] at n0;have:=List.any_eq_false.1 n0.symm e he;exact this (decide_eq_true hh)
  refine wO1 Z ?_;refine h0a S Q8b Z Z (x8b unit 1 iO iO [] _) ?_;rintro J2 N2 ⟨_,rfl,O1⟩ T1 F2;obtain⟨_,_,_,rfl,-⟩:=O1.open_;refine g0a T1 X1a Z Z ?_;intro g9 w9 S9 X9 G9;refine d0a (kk:=0) (vs:=[_,_,_,_]) S9 h1a Z Z Z Z Z Z Z ?_;intro Q0 b0 I1;dsimp only[e0a,List.set] at b0;refine lCn 8 b0.k [] Z U ?_;have J1:∀g∈g6::g9::M,g∈M∨w0.heap.size≤g:=by
   intro g hg;simp at hg;rcases hg with rfl|rfl|hg
   ·right;simpa using b0.new 1 Z
   ·right;simpa using b0.new 0 Z
   ·exact .inl hg
  have H2:∀g∈g6::g9::M,g<Q0.heap.size:=by
   intro g hg;simp at hg;rcases hg with rfl|rfl|hg
   ·exact b0.lt 1 Z
   ·exact b0.lt 0 Z
   ·have:=hM g hg;have:=b0.size;omega
  refine wC1 Z (wL (fun μj D ε w=>D=[]∧∃j:Nat,∃co:LV,∃out:E,∃fs:Bool,∃nn:Int,(j+μj=(l.length))∧(out=U6a op unit (d2a (l.take j)))∧(fs=decide (d2a (l.take j)=[]))∧(nn=(E.cnts (d2a (l.take j))+((d2a (l.take j)).length-1):Nat))∧(RdE (g6::g9::M) w out co)∧St [] w0 w [(some g9,37,co),(some g6,37,[.int .i64 0,.int .i64 0,.int .i64 0,.slice none 0 0])]∧Sl ε [(0,.slice A n c),(1,.int .i64 op),(2,.int .i64 unit),(6,.pointer (some ⟨g6,0,none⟩)),(9,.pointer (some ⟨g9,0,none⟩)),(10,.bool fs),(11,.int .i64 nn),(12,.int .i64 j)]) (μ:=(l.length)) ⟨Z,0,_,⟨1,1,unit,[]⟩,true,0,by omega,Z,Z,Z,X2b O1,b0,Z⟩ ?_);rintro μj D ε w ⟨rfl,j,co,out,fs,nn,hj,g0,B0,z1,ro,S,eZ⟩;refine wK eZ ?_;obtain⟨_,_,_,rfl,-⟩:=ro.open_;refine wB1 Z (fun n2=>?_) fun n2=>?_
  ·refine lB1 Z (fun o2=>?_) fun o2=>?_
   ·refine lOn 13 S.k [] Z U ?_;obtain⟨e,e2,v2,_,i0,f1,_,v1,p1,L0⟩:=RdS.get (u0) (j) (by omega);obtain⟨_,_,_,rfl,_⟩:=RdE.cells L0;have K1:=f0 e (c0a i0);have M1:=D0b K1;have q2:=S2d M1.2;have T0:d2a (l.take (j+1))=if e.op=1 then d2a (l.take j) else d2a (l.take j)++[e]:=by rw[u0a i0,V8a]
    have E0:isC e unit=false→d2a (l.take (j+1))=d2a (l.take j)++[e]:=fun h=>by
     rw[T0,if_neg];intro z;have h1:=of_decide_eq_false h;have h2:=r2 e (c0a i0);rcases K8b K1 z with u|u<;>rcases hu with t|t<;>exact h1 ⟨z,by omega⟩
    refine lO (S.k.a p1) [.x e2 v2,.v 0] Z ⟨⟨Z,v1⟩,⟨f1,by omega⟩,U⟩ (i0a S K1c Z Z (f7c e unit 1 M _ _ (RdE.keep (S.keep0 M) _ _ L0) M1.1) (fun s0 B2 F0 W0=>?_) (fun s0 B2 F0 W0=>?_))
    ·replace ro:=RdE.keep (W0.of_nil) _ _ ro;refine lP1 Z ⟨μj-1,by omega,Z,j+1,_,?_,_,_,by omega,?_,?_,?_,?_,F0,Z⟩;exact out
     ·rw[T0,if_pos (of_decide_eq_true s0).1];exact g0
     ·rw[T0,if_pos (of_decide_eq_true s0).1];exact B0
     ·rw[T0,if_pos (of_decide_eq_true s0).1];exact z1
     ·exact ro
    replace ro:=RdE.keep (W0.of_nil) _ _ ro;obtain⟨_,f2,w2,_,D1,g1,_,w1,q1,N0⟩:=RdS.get (u0) (j) (by omega);obtain rfl:=Option.some.inj (i0.symm.trans D1);obtain⟨_,_,_,rfl,_⟩:=RdE.cells N0;refine lO (F0.k.a q1) [.x f2 w2,.v 0] Z ⟨⟨Z,w1⟩,⟨g1,by omega⟩,U⟩ (r0a F0 r5b Z Z (L5c e M _ _ (RdE.keep (F0.keep0 M) _ _ N0) q2) ?_);intro O2 G0 X1;replace ro:=RdE.keep (X1.of_nil) _ _ ro;refine lOn 6 G0.k [] Z ⟨by omega,U⟩ ?_;cases m0:fs
    ·refine J0a (hv:=Z) (v:=.bool _) Z ?_;refine lC1 Z (y0a b0a [0,1,2,3,4,5] [] [6,7] Z (Cl _ _ _ _) (Cl.start G0) ?_);obtain⟨_,i2,y2,_,F1,j1,_,y1,s1,P0⟩:=RdS.get (u0) (j) (by omega);obtain rfl:=Option.some.inj (i0.symm.trans F1);obtain⟨_,_,_,rfl,_⟩:=RdE.cells P0;refine qN (G0.q.a s1) [.w 0,.x i2 y2,.v 0] Z ⟨⟨Z,y1⟩,⟨j1,by omega⟩,⟨Z,by rfl⟩,U⟩ (h4a ?_);refine O1a ?_;rintro D2 ⟨p0,Y0⟩;replace ro:=RdE.keep (Y0.of_nil) _ _ ro;refine h0a p0 Y1c Z Z (d2d op 1 ho iO out e _ _ (g6::g9::M) _ (fun g hg=>by simp at hg;rcases hg with rfl|rfl|hg;exact p0.lt 1 Z;exact p0.lt 0 Z;have:=hM g hg;have:=p0.size;omega) ro (RdE.keep (p0.keep0 _) _ _ (RdE.more J1 _ _ P0))) ?_;rintro K2 P2 ⟨_,rfl,U0⟩ U1 Y1;replace ro:=RdE.keep (Y1.of_nil) _ _ ro;obtain⟨_,_,_,rfl,-⟩:=U0.open_;refine d0a (kk:=0) (vs:=[_,_,_,_]) U1 h1a Z Z Z Z Z Z Z ?_;intro Q1 v0 x0;dsimp only[e0a,List.set] at v0;replace ro:=RdE.keep (x0.mono (by simp)) _ _ ro;replace U0:=RdE.keep (x0.mono (by simp)) _ _ U0;refine lP0 Z ⟨by omega,by omega,U⟩ ⟨μj-1,by omega,Z,j+1,_,?_,_,_,by omega,?_,?_,?_,?_,v0,Z⟩;exact jnE op out e
     ·rw[E0 s0,j2b,if_neg (of_decide_eq_false (B0.symm.trans m0)),g0]
     ·rw[E0 s0];simp
     ·have G2:0<(d2a (l.take j)).length:=List.length_pos_iff.2 (of_decide_eq_false (B0.symm.trans m0));have p2:=B2b (d2a (l.take j)) [e];rw[E0 s0,p2,List.length_append];simp[E.cnts];omega
     ·exact U0
    refine J0a (hv:=Z) (v:=.bool _) Z ?_;obtain⟨_,g2,x2,_,E1,i1,_,x1,r1,O0⟩:=RdS.get (u0) (j) (by omega);obtain rfl:=Option.some.inj (i0.symm.trans E1);obtain⟨_,_,_,rfl,_⟩:=RdE.cells O0;refine lO (G0.k.a r1) [.x g2 x2,.v 0] Z ⟨⟨Z,x1⟩,⟨i1,by omega⟩,U⟩ (d0a (kk:=0) (vs:=[_,_,_,_]) G0 h1a Z Z Z Z Z Z Z ?_);intro P1 o0 H0;dsimp only[e0a,List.set] at o0;replace ro:=RdE.keep (H0.mono (by simp)) _ _ ro;refine lP1 Z ⟨μj-1,by omega,Z,j+1,_,?_,_,_,by omega,?_,?_,?_,?_,o0,Z⟩;exact e
    ·rw[E0 s0,(of_decide_eq_true (B0.symm.trans m0):d2a (l.take j)=[])];rfl
    ·rw[E0 s0,(of_decide_eq_true (B0.symm.trans m0):d2a (l.take j)=[])];rfl
    ·rw[(of_decide_eq_true (B0.symm.trans m0):d2a (l.take j)=[])] at z1;rw[E0 s0,(of_decide_eq_true (B0.symm.trans m0):d2a (l.take j)=[])];simp[E.cnts] at z1 ⊢;omega
    ·exact RdE.keep (o0.keep0 _) _ _ (RdE.more J1 _ _ O0)
   refine lB1 Z (fun a1=>?_) fun a1=>?_
   ·refine lO1 Z (s0a s1a (vs:=[]) (cs:=[_,_,_,_]) Z Z Z Z ?_);refine d0a (kk:=1) (vs:=[_,_,_,_]) S h1a Z Z Z Z Z Z Z ?_;intro r0 a0 d0;dsimp only[e0a,List.set] at a0;replace ro:=RdE.keep (d0.mono (by simp)) _ _ ro;refine lR1 Z ?_;exact t0a Z D0a Z (a0.cells 1 Z) Z ⟨⟨_,Z,by rw[g1b (k:=j) f0 (by rw[←n0,e0])];exact m1a iO iO iO⟩,a0.nil.fin⟩
   refine lO S.k [.w 0] Z ⟨⟨Z,by rfl⟩,U⟩ (i0a S q0b Z Z (O6a out (g6::g9::M) _ _ ro) (fun D0 H1 t0 C0=>?_) (fun D0 H1 t0 C0=>?_))
   ·replace ro:=RdE.keep (C0.of_nil) _ _ ro;refine lO t0.k [.w 0] Z ⟨⟨Z,by rfl⟩,U⟩ (d0a (kk:=1) (vs:=[_,_,_,_]) t0 h1a Z Z Z Z Z Z Z ?_);intro R0 c0 q0;dsimp only[e0a,List.set] at c0;replace ro:=RdE.keep (q0.mono (by simp)) _ _ ro;refine lR1 Z ?_;have hj:l.take j=l:=List.take_of_length_le (by omega);rw[hj] at g0;exact t0a Z D0a Z (c0.cells 1 Z) Z ⟨⟨_,Z,by rw[E3a f0 (by rw[←n0,e0]),←g0,if_pos D0];exact RdE.more (fun g hg=>.inl (by simp[hg])) _ _ ro⟩,c0.nil.fin⟩
   replace ro:=RdE.keep (C0.of_nil) _ _ ro;refine lO1 Z (s0a s1a (vs:=[]) (cs:=[_,_,_,_]) Z Z Z Z ?_);refine d0a (kk:=1) (vs:=[_,_,_,_]) t0 h1a Z Z Z Z Z Z Z ?_;intro r0 a0 d0;dsimp only[e0a,List.set] at a0;replace ro:=RdE.keep (d0.mono (by simp)) _ _ ro;refine lR1 Z ?_;exact t0a Z D0a Z (a0.cells 1 Z) Z ⟨⟨_,Z,by rw[g1b (k:=j) f0 (by rw[←n0,e0])];exact m1a iO iO iO⟩,a0.nil.fin⟩
  refine lB1 Z (fun a1=>?_) fun a1=>?_
  ·refine lO1 Z (s0a s1a (vs:=[]) (cs:=[_,_,_,_]) Z Z Z Z ?_);refine d0a (kk:=1) (vs:=[_,_,_,_]) S h1a Z Z Z Z Z Z Z ?_;intro r0 a0 d0;dsimp only[e0a,List.set] at a0;replace ro:=RdE.keep (d0.mono (by simp)) _ _ ro;refine lR1 Z ?_;exact t0a Z D0a Z (a0.cells 1 Z) Z ⟨⟨_,Z,by rw[g1b (k:=j) f0 (by rw[←n0,e0])];exact m1a iO iO iO⟩,a0.nil.fin⟩
  refine lO S.k [.w 0] Z ⟨⟨Z,by rfl⟩,U⟩ (i0a S q0b Z Z (O6a out (g6::g9::M) _ _ ro) (fun D0 H1 t0 C0=>?_) (fun D0 H1 t0 C0=>?_))
  ·replace ro:=RdE.keep (C0.of_nil) _ _ ro;refine lO t0.k [.w 0] Z ⟨⟨Z,by rfl⟩,U⟩ (d0a (kk:=1) (vs:=[_,_,_,_]) t0 h1a Z Z Z Z Z Z Z ?_);intro R0 c0 q0;dsimp only[e0a,List.set] at c0;replace ro:=RdE.keep (q0.mono (by simp)) _ _ ro;refine lR1 Z ?_;have hj:l.take j=l:=List.take_of_length_le (by omega);rw[hj] at g0;exact t0a Z D0a Z (c0.cells 1 Z) Z ⟨⟨_,Z,by rw[E3a f0 (by rw[←n0,e0]),←g0,if_pos D0];exact RdE.more (fun g hg=>.inl (by simp[hg])) _ _ ro⟩,c0.nil.fin⟩
  refine lO1 Z (s0a s1a (vs:=[]) (cs:=[_,_,_,_]) Z Z Z Z ?_);refine d0a (kk:=1) (vs:=[_,_,_,_]) t0 h1a Z Z Z Z Z Z Z ?_;intro r0 a0 d0;dsimp only[e0a,List.set] at a0;refine lR1 Z ?_;have hj:l.take j=l:=List.take_of_length_le (by omega);rw[hj] at g0;exact t0a Z D0a Z (a0.cells 1 Z) Z ⟨⟨_,Z,by rw[E3a f0 (by rw[←n0,e0]),←g0,if_neg (by rw[D0];decide)];exact m1a iO iO iO⟩,a0.nil.fin⟩
 refine J0a (hv:=Z) (v:=.bool _) Z ?_;refine lO0 Z ⟨by omega,U⟩ ?_;refine h0a S Q8b Z Z (x8b (1-unit) 1 iO iO [] _) ?_;rintro I2 L2 ⟨_,rfl,N1⟩ R1 E2;obtain⟨_,_,_,rfl,-⟩:=N1.open_
 first|refine d0a (kk:=0) (vs:=[_,_,_,_]) R1 h1a Z Z Z Z Z Z Z ?_
 intro C2 z0 Z1;dsimp only[e0a,List.set] at z0;refine lR1 Z ?_;exact t0a Z D0a Z (z0.cells 0 Z) Z ⟨⟨_,Z,by rw[q5b f0 (by rw[←n0,e0])];exact X2b N1⟩,z0.nil.fin⟩
theorem E2c(l:List E)(hl:l.length≤100000)(M:List Nat)(w0:World)(vl:Value)(hL:RdL M w0 vl l)(hM:∀g∈M,g<w0.heap.size):
 A0a prog 57 #[vl] w0 fun v w'=>(∃cs:LV,v=.agg cs.toArray∧RdE M w' (u3a 5 1 l) cs)∧Bw w0 w':=by
 obtain⟨_,_,_,rfl,-⟩:=hL.open_;have S:=St.refl w0;refine a0a func57 Z ntmps57 Z ?_;refine wO1 Z (g0a S X1a Z Z ?_);intro g2 w2 S2 X2 G2;refine lO1 Z ?_;have c0:∀g∈g2::M,g∈M∨w0.heap.size≤g:=W3a S2 (k:=0) Z;refine h0a S2 D0c Z Z (s8b l 5 1 iO (.inr Z) hl (g2::M) _ _ ((hL.more c0).keep (S2.keep0 _)) (fun g hg=>by rcases List.mem_cons.1 hg with rfl|hg;exact S2.lt 0 Z;have:=hM g hg;have:=S2.size;omega)) ?_;rintro v4 w4 ⟨_,rfl,r4⟩ S4 X4;obtain⟨_,_,_,rfl,-⟩:=r4.open_
 first|refine d0a (kk:=0) (vs:=[_,_,_,_]) S4 h1a Z Z Z Z Z Z Z ?_
 intro d0 a0 b0;dsimp only[e0a,List.set] at a0;replace r4:=RdE.keep (b0.mono (by simp)) _ _ r4;exact lR1 Z (t0a Z D0a Z (a0.cells 0 Z) Z ⟨⟨_,Z,RdE.more (fun g hg=>.inl (by simp[hg])) _ _ r4⟩,a0.nil.fin⟩)
theorem F3d(l:List E)(hl:l.length≤100000)(M:List Nat)(w0:World)(vl:Value)(hL:RdL M w0 vl l)(hM:∀g∈M,g<w0.heap.size):
 A0a prog 63 #[vl] w0 fun v w'=>(∃cs:LV,v=.agg cs.toArray∧RdE M w' (u3a 6 0 l) cs)∧Bw w0 w':=by
 obtain⟨_,_,_,rfl,-⟩:=hL.open_;have S:=St.refl w0;refine a0a func63 Z ntmps63 Z ?_;refine wO1 Z (g0a S X1a Z Z ?_);intro g2 w2 S2 X2 G2;refine lO1 Z ?_;have c0:∀g∈g2::M,g∈M∨w0.heap.size≤g:=W3a S2 (k:=0) Z;refine h0a S2 D0c Z Z (s8b l 6 0 iO (.inl Z) hl (g2::M) _ _ ((hL.more c0).keep (S2.keep0 _)) (fun g hg=>by rcases List.mem_cons.1 hg with rfl|hg;exact S2.lt 0 Z;have:=hM g hg;have:=S2.size;omega)) ?_;rintro v4 w4 ⟨_,rfl,r4⟩ S4 X4;obtain⟨_,_,_,rfl,-⟩:=r4.open_
 first|refine d0a (kk:=0) (vs:=[_,_,_,_]) S4 h1a Z Z Z Z Z Z Z ?_
 intro d0 a0 b0;dsimp only[e0a,List.set] at a0;replace r4:=RdE.keep (b0.mono (by simp)) _ _ r4;exact lR1 Z (t0a Z D0a Z (a0.cells 0 Z) Z ⟨⟨_,Z,RdE.more (fun g hg=>.inl (by simp[hg])) _ _ r4⟩,a0.nil.fin⟩)
theorem T1a.newRow{M:List Nat}{w0 w1 w:World}{L:List Ent}{k el:Nat}{G:Option Nat}{cs:LV}{v:Value}{l:List Int}(h:T1a (fun _ _=>r9b) 1 M w1 G cs v l)(S:St [] w0 w L)(hk:L[k]?=some (G,el,cs)):d5a el w0 w v l:=by
 obtain⟨css,h1,_,h3,h4⟩:=h;have e1:css.flatten=l.map (Value.int .i64):=by
  have key:∀(css:List LV) (l:List Int),css.length=l.length→(∀(i:Nat) (x:Int),l[i]?=some x→∃c,css[i]?=some c∧r9b c x)→css.flatten=l.map (Value.int .i64):=by
   intro css
   induction css with
   | nil=>intro l hl _;cases l with
     | nil=>rfl
     | cons=>simp at hl
   | cons c css ih =>
     intro l hl hx;cases l with
     | nil=>simp at hl
     | cons x l =>
       obtain⟨_,hc,hr⟩:=hx 0 x Z;simp at hc;subst hc;rw[List.flatten_cons,hr.1,ih l (by simpa using hl) (fun i y hy=>by simpa using hx (i+1) y (by simpa using hy))];rfl
  exact key css l h1 h4
 rw[e1] at h3;refine⟨G,cs,h3,fun g hg=>?_⟩;subst hg;exact⟨by simpa using S.new k hk,S.blk k hk⟩
theorem i4c{p:m0a}(hp:W0a p):n8a p where
 cells c hc:=by have:=(hp.cells c hc).name.2.1;omega
 mods m hm:=by have h1:=(hp.modules m hm).name.2.1;have h2:=(hp.modules m hm).owner.2.1;omega
 threads t ht:=by
  obtain⟨i,hi,rfl⟩:=List.getElem_of_mem ht;have:=(hp.threads i hi).name.2.1;omega
theorem a6a(p:m0a)(M:List Nat)(w0:World)(cs:LV)(hI:InP p M w0 cs):
 A0a prog 20 #[.agg cs.toArray] w0 fun v w'=>v=.bool true∧Bw w0 w':=by
 obtain⟨_,_,_,_,_,_,_,_,_,_,_,_,rfl,-⟩:=hI.rd.open_;have S:=St.refl w0;refine a0a func20 Z ntmps20 Z ?_;refine wO1 Z (o0a S Z ?_);intro g1 w1 S1 X1 G1;refine lO S1.k [.w 0] Z ⟨⟨Z,Z⟩,U⟩ (h0a S1 S6c Z Z (s1b p M _ _ (hI.rd.keep (S1.keep0 M)) (hI.keep (S1.keep0 M)).lt (i4c hI.ok)) ?_);rintro v8 w8 ⟨_,_,_,rfl,hv⟩ S8 X8;obtain rfl:=hv.2 hI.ok;refine lB1 Z (fun a0=>?_) (fun a0=>by exfalso;omega);exact lU Z Z ⟨Z,S8.fin⟩
def s2b(M:List Nat)(w:World)(G:Option Nat)(cs:LV)(v:Value)(l:List E):Prop:=T1a RX 4 M w G cs v l
theorem s2b.keep{M:List Nat}{w w':World}{G:Option Nat}{cs:LV}{v:Value}{l:List E}(h:s2b M w G cs v l)(hk:x0a (G.toList++M) w w'):s2b M w' G cs v l:=T1a.keep F3a h hk
theorem s2b.nil{M:List Nat}{w:World}:s2b M w none [] (.slice none 0 0) []:=T1a.nil
theorem s2b.rdL{M M':List Nat}{w0 w:World}{L:List Ent}{k el:Nat}{G:Option Nat}{cs:LV}{v:Value}{l:List E}(h:s2b M w G cs v l)(S:St M' w0 w L)(hk:L[k]?=some (G,el,cs))(hM:∀g,G=some g→g∉M)(hl:l.length≤1000000):RdL M w v l:=c3d (T1a.rd F3a h S hk hM hl)
theorem a0b{M:List Nat}{w:World}{g:Nat}{cs:LV}{e:E}(h:RdE (g::M) w e cs):s2b M w (some g) cs (.slice (some ⟨g,0,none⟩) 1 1) [e]:=by
 have hl:=h.length;refine⟨[cs],Z,by simpa using hl,⟨by simp[hl],.inr ⟨g,1,Z,Z,Nat.le_refl _,by unfold maxLen;omega,by omega,by simp;exact List.take_of_length_le (by omega)⟩⟩,fun i x hi=>?_⟩;cases i with
 | zero=>simp at hi;subst hi;exact⟨cs,Z,h⟩
 | succ i=>simp at hi
theorem RdL.node{M:List Nat}{w:World}{v:Value}{l:List E}{op wd n:Int}(h:RdL M w v l)(h1:i64 op)(h2:i64 wd)(h3:i64 n):RdE M w ⟨op,wd,n,l⟩ [.int .i64 op,.int .i64 wd,.int .i64 n,v]:=by
 obtain⟨A,m,c,rfl,q1,q2,q3,q4,q5⟩:=h.open_;rw[RdE];exact⟨A,m,c,Z,h1,h2,h3,q1,q2,q3,q4,q5⟩
theorem y6a{M:List Nat}{w0 w:World}{L:List Ent}{g t k:Nat}{cs:LV}(S:St [] w0 w L)(hk:L[k]?=some (some g,t,cs))(hM:∀g∈M,g<w0.heap.size):g∉M:=fun hh=>by
 rcases S.new k hk with h|h
 ·have:=hM g hh;omega
 ·cases h
theorem Y7a{M M':List Nat}{w0 w:World}{L:List Ent}(S:St M' w0 w L)(hM:∀g∈M,g<w0.heap.size):∀x∈w3b L++M,x<w.heap.size:=fun x hx=>by
 rcases List.mem_append.1 hx with h|h
 ·obtain⟨b,hb,he⟩:=D4a.1 h;exact(S.own b hb x he).2.lt
 ·have:=hM x h;have:=S.size;omega
theorem e5a{M:List Nat}{w0 w:World}{L:List Ent}(S:St [] w0 w L):∀x∈w3b L++M,x∈M∨w0.heap.size≤x:=fun x hx=>by
 rcases List.mem_append.1 hx with h|h
 ·obtain⟨b,hb,he⟩:=D4a.1 h;rcases(S.own b hb x he).1 with h|h
  ·exact .inr h
  ·cases h
 ·exact .inl h
theorem z8a{M M':List Nat}{w0 w:World}{L:List Ent}(S:St M' w0 w L)(k:Nat){g t:Nat}{cs:LV}(hk:L[k]?=some (some g,t,cs))(hM:∀g∈M,g<w0.heap.size):∀x∈g::M,x<w.heap.size:=fun x hx=>by
 rcases List.mem_cons.1 hx with rfl|h
 ·exact S.lt k hk
 ·have:=hM x h;have:=S.size;omega
theorem RdE.addNew{M:List Nat}{w w':World}{e:E}{cs:LV}{g:Nat}(h:RdE M w e cs)(X:x0a [] w w')(hg:w.heap.size≤g):RdE (g::M) w' e cs :=
 RdE.keep X.of_nil _ _ (RdE.more (fun x hx=>by
  rcases List.mem_cons.1 hx with rfl|h
  ·exact .inr hg
  ·exact .inl h) _ _ h)
theorem r4b{M:List Nat}{L:List Ent}(j:Nat){g t':Nat}{a0:LV}(hj:L[j]?=some (some g,t',a0)):∀x∈g::M,x∈w3b L++M:=fun x hx=>by
 rcases List.mem_cons.1 hx with rfl|h
 ·exact List.mem_append_left _ (D4a.2 ⟨_,List.mem_of_getElem? hj,Z⟩)
 ·exact List.mem_append_right _ h
theorem q4b{M M2:List Nat}{L:List Ent}(k:Nat){G:Option Nat}{t:Nat}{cs:LV}(hk:L[k]?=some (G,t,cs))(h2:∀x∈M2,x∈w3b L++M):∀x∈G.toList++M2,x∈w3b L++M:=fun x hx=>by
 rcases List.mem_append.1 hx with h|h
 ·refine List.mem_append_left _ (D4a.2 ⟨_,List.mem_of_getElem? hk,?_⟩);cases G with
  | none=>cases h
  | some g=>rw[show x=g by simpa using h]
 ·exact h2 x h
theorem e9b{P:Program}{f:FuncId}{args:Array Value}{w:World}{el:Nat}{l:List Int}{M:List Nat}(h:A0a P f args w fun v w'=>d5a el w w' v l∧Below w.heap.size w w')(hM:∀g∈M,g<w.heap.size)(hl:∀x∈l,i64 x)(hbig:l.length≤140737488355328:=by omega):
 A0a P f args w fun v w'=>RdI M w' v l∧Below w.heap.size w w':=h.mono fun _ _ ⟨h1,h2⟩=>⟨h1.rd hM hl h2 hbig,h2⟩
theorem RdE.addKeep{M:List Nat}{w w':World}{e:E}{cs:LV}{g:Nat}(h:RdE M w e cs)(K:x0a M w w')(hg:w.heap.size≤g):RdE (g::M) w' e cs :=
 RdE.keep (K.mono fun _ hx=>List.mem_cons_of_mem _ hx) _ _ (RdE.more (fun x hx=>by
  rcases List.mem_cons.1 hx with rfl|h
  ·exact .inr hg
  ·exact .inl h) _ _ h)
def f6b(p:m0a)(t:Int)(k:Nat):List Int:=((List.range k).filter fun i=>u1a p.cells (i:Nat)=t).map Int.ofNat
def ofL(p:m0a)(t:Int):List Int:=f6b p t p.cells.length
theorem T6a{p:m0a}{t:Int}{k:Nat}{c:g1a}(h:p.cells[k]?=some c):f6b p t (k+1)=if c.thread=t then f6b p t k++[(k:Int)] else f6b p t k:=by
 unfold f6b;rw[List.range_succ,List.filter_append,List.map_append];have ht:u1a p.cells (k:Int)=c.thread:=j1a (by simpa using h);by_cases hc:c.thread=t
 ·simp[ht,hc]
 ·simp[ht,hc]
theorem h6c{p:m0a}{t:Int}{k:Nat}{x:Int}:x∈f6b p t k↔0≤x∧x<k∧u1a p.cells x=t:=by
 unfold f6b;simp only[List.mem_map,List.mem_filter,List.mem_range,decide_eq_true_eq];constructor
 ·rintro⟨i,⟨h1,h2⟩,rfl⟩;exact⟨Int.natCast_nonneg i,Int.ofNat_lt.2 h1,h2⟩
 ·rintro⟨h0,h1,h2⟩;obtain⟨i,rfl⟩:=Int.eq_ofNat_of_zero_le h0;exact⟨i,⟨by omega,h2⟩,Z⟩
theorem A4a(p:m0a)(t:Int)(k:Nat):(f6b p t k).length≤k:=by
 unfold f6b;rw[List.length_map];exact Nat.le_trans (List.length_filter_le _ _) (by simp)
theorem e9a{p:m0a}{t:Int}{x:Int}:x∈ofL p t↔0≤x∧x<p.cells.length∧u1a p.cells x=t:=h6c
def g5a(p:m0a)(c:Int):E:=⟨11,1,0,[⟨3,wAt p.cells c,c,[]⟩,⟨2,wAt p.cells c,c,[]⟩]⟩
def x0c(f:List Int)(l:List Int):List Int:=l.filter fun c=>!decide (c∈f)
def j5b(p:m0a)(m:k2a):List E:=m.guar::(x0c m.frame (ofL p (-1))).map (g5a p)
theorem Y5b{f l:List Int}{k:Nat}{c:Int}(h:l[k]?=some c):x0c f (l.take (k+1))=if c∈f then x0c f (l.take k) else x0c f (l.take k)++[c]:=by
 unfold x0c;rw[u0a h,List.filter_append];by_cases hc:c∈f<;>simp[hc]
theorem b8a(f l:List Int):(x0c f l).length≤l.length:=List.length_filter_le _ _
def w2d(p:m0a)(m:Nat):k2a:=p.modules.getD m ⟨ByteArray.empty,ByteArray.empty,zE,zE,[]⟩
def c4a(p:m0a)(m:Int):E:=u3a 5 1 (j5b p (w2d p m.toNat))
theorem v0c:∀(e:E) (M:List Nat) (w0:World) (cs:LV) (r0:Int),RdE M w0 e cs→e.good r0=true→(∀g∈M,g<w0.heap.size) →
 A0a prog 105 #[.agg cs.toArray] w0 fun v w'=>(∃cs:LV,v=.agg cs.toArray∧RdE M w' e cs)∧Bw w0 w':=by
 intro e
 induction e using E.induct with
 | _ e ih =>
 intro M w0 cs r0 hR hg hM;obtain⟨A,n,c,rfl,o1,o2,o3,hn,hc,hm,hbig,F0⟩:=hR.open_;obtain⟨G0,E0⟩:=I1a hg;have Q0:=(I3a G0).2.2.1;have D0:=L1a e.op;have h3:e.kids.length≤3:=by omega
 have hK:RdS M w0 4 (RX M w0) (.slice A n c) e.kids:=(RdL.made hn hc hm hbig F0).rdS;have S:=(St.refl w0).nilEnt 37;refine a0a func105 Z ntmps105 Z ?_;refine wO1 Z (o0a S Z ?_);intro g1 w1 S1 X1 G1;refine g0a S1 X1a Z Z ?_;intro g2 w2 S2 X2 G2;refine lOn 4 S2.k [] Z U (B0a Z ?_);refine lC S2.k [.o 1] Z ⟨Z,U⟩ (wL (fun μk D ε w=>D=[]∧∃k:Nat,∃G:Option Nat,∃m0:LV,∃v:Value,(k+μk=(e.kids.length))∧(s2b (g2::M) w G m0 v (e.kids.take k))∧St [] w0 w [(some g2,37,[.int .i64 0,.int .i64 0,.int .i64 0,.slice none 0 0]),(some g1,37,[.int .i64 e.op,.int .i64 e.w,.int .i64 e.n,.slice A n c]),(G,37,m0)]∧Sl ε [(1,.pointer (some ⟨g1,0,none⟩)),(2,.pointer (some ⟨g2,0,none⟩)),(3,v),(7,.slice A n c),(8,.int .i64 n),(9,.int .i64 k)]) (μ:=(e.kids.length)) ⟨Z,0,none,[],.slice none 0 0,by omega,s2b.nil,S2,Z⟩ ?_);rintro μk D ε w ⟨rfl,k,G,m0,v,_,d0,S,eZ⟩;refine wK eZ ?_;have KQ:=x0a.refl (G.toList++g2::M) w;refine wB1 Z (fun C0=>?_) fun C0=>?_
 ·obtain⟨y,A0,H0,_,q0,n0,_,p0,o0,e0⟩:=RdS.get (hK) (k) (by omega);obtain⟨_,_,_,rfl,_⟩:=RdE.cells e0;refine lO (S.k.a o0) [.x A0 H0,.v 0] Z ⟨⟨Z,p0⟩,⟨n0,by omega⟩,U⟩ (g0a S X1a Z Z ?_);intro g5 w5 S5 X5 G5;have g0:=Nat.le_trans KQ.size G5;replace KQ:=KQ.trans (X5.of_nil);refine d0a (kk:=0) (vs:=[_,_,_,_]) S5 h1a Z Z Z Z Z Z Z ?_;intro I0 a0 i0;dsimp only[e0a,List.set] at a0;replace KQ:=KQ.fresh2 i0 (by exact .inl g0);refine lOn 3 a0.k [] Z U (J0a Z ?_);refine lO a0.k [.w 0] Z ⟨⟨Z,by rfl⟩,U⟩ ?_;have v0:=Y7a (M:=M) a0 hM;refine h0a a0 S2c Z Z (ih y (c0a q0) _ _ _ (r0-1) (RdE.keep (a0.keep0 _) _ _ (RdE.more (e5a a0) _ _ e0)) (E0 _ (c0a q0)) v0) ?_;rintro R0 T0 ⟨_,rfl,f0⟩ x0 z0;replace KQ:=KQ.trans (z0.of_nil);obtain⟨_,_,_,rfl,-⟩:=f0.open_;refine k0a x0 T0a (vs:=[.agg _]) (cs:=[_,_,_,_]) Z Z Z Z Z Z ?_;intro P0 U0 s0 t0 L0;replace f0:=RdE.keep (t0.of_nil) _ _ f0;replace KQ:=KQ.trans (t0.of_nil);have b0:=d0.keep KQ;refine r1a F3a (k:=4) (M2:=g2::M) (e1:=y) s0 T0a Z b0 Z Z (s0.cells 0 Z) (RdE.less (fun x hx=>by cases G<;>simp[w3b] at hx ⊢<;>grind) _ _ f0) (by rw[List.length_take];omega) Z ?_;intro S0 N0 B0 V0 y0 b0 O0 K0;refine B0a Z ?_;refine lP1 Z ⟨μk-1,by omega,Z,k+1,_,_,_,by omega,?_,y0.tail.tail,Z⟩;rw[u0a q0];exact b0
 refine lCn 7 S.k [] Z U ?_;obtain⟨Av,cv,rfl⟩:=T1a.form d0;have u0:RdL (g2::M) w (.slice Av (e.kids.take k).length cv) (e.kids.take k):=d0.rdL S (k:=2) Z (fun g hg=>by
  subst hg;intro hh;rcases List.mem_cons.1 hh with hh|hh
  ·exact S.ne 0 2 Z Z (by omega) hh.symm
  ·exact y6a S (k:=2) Z hM hh) (by rw[List.length_take];omega)
 rw[show e.kids.take k=e.kids from List.take_of_length_le (by omega)] at u0 ⊢;refine wOn 7 S.k [.o 1,.o 1,.o 1] Z ⟨Z,Z,Z,U⟩ (J0a Z ?_);refine s0a s1a (vs:=[(0,.int .i64 _),(1,.int .i64 _),(2,.int .i64 _),(3,.slice _ _ _)]) (cs:=[_,_,_,_]) Z Z Z Z ?_;refine d0a (kk:=0) (vs:=[_,_,_,_]) S h1a Z Z Z Z Z Z Z ?_;intro J0 c0 j0;dsimp only[e0a,List.set] at c0;refine lR1 Z (t0a Z D0a Z (c0.cells 0 Z) Z ⟨⟨_,Z,?_⟩,c0.fin⟩);have he:(⟨e.op,e.w,e.n,e.kids⟩:E)=e:=by cases e;rfl
 have hq:=RdE.less (M':=M) (fun g hg=>List.mem_cons_of_mem _ hg) _ _ (RdE.keep (j0.mono (by simp)) _ _ (u0.node o1 o2 o3));rw[he] at hq;exact hq
theorem I9a(p:m0a)(c:Int)(h0:0≤c)(hc:c<p.cells.length)(M:List Nat)(w0:World)(cs:LV)(hR:e1a M w0 p cs)(hM:∀g∈M,g<w0.heap.size)(hw:i64 c):
 A0a prog 61 #[.agg cs.toArray,.int .i64 c] w0 fun v w'=>(∃cs:LV,v=.agg cs.toArray∧RdE M w' (g5a p c) cs)∧Bw w0 w':=by
 obtain⟨_,_,_,_,_,_,_,_,cl,_,_,_,rfl,hC,_⟩:=hR.open_;have S:=St.refl w0;refine a0a func61 Z ntmps61 Z ?_;refine wO1 Z (o0a S Z ?_);intro g2 w2 S2 X2 G2;refine g0a S2 X1a Z Z ?_;intro g4 w4 S4 X4 G4;obtain⟨cl,b9,p9,_,b0,f0,_,_,g0,i0⟩:=RdS.get (hC) (c.toNat) (by omega);obtain⟨rfl,c0,_⟩:=P2a.open_ i0;refine lO (S4.k.a g0) [.o 1,.x b9 p9,.f 0 1] Z ⟨Z,⟨f0,by omega⟩,Z,U⟩ (s0a s1a (vs:=[(0,.int .i64 _),(1,.int .i64 _),(2,.int .i64 _)]) (cs:=[_,_,_,_]) Z Z Z Z ?_);refine lO1 Z (s0a s1a (vs:=[(0,.int .i64 _),(1,.int .i64 _),(2,.int .i64 _)]) (cs:=[_,_,_,_]) Z Z Z Z ?_);refine k0a S4 T0a (vs:=[.agg _,.agg _]) (cs:=[_,_,_,_,_,_,_,_]) Z Z Z Z Z Z ?_;intro g18 o0 d0 n0 m0;refine s0a s1a (vs:=[(0,.int .i64 _),(1,.int .i64 _),(3,.slice _ _ _)]) (cs:=[_,_,_,_]) Z Z Z Z ?_;refine d0a (kk:=1) (vs:=[_,_,_,_]) d0 h1a Z Z Z Z Z Z Z ?_;intro j0 a0 e0;dsimp only[e0a,List.set] at a0;refine lR1 Z (t0a Z D0a Z (a0.cells 1 Z) Z ⟨⟨_,Z,?_⟩,a0.fin⟩);unfold g5a;rw[c5a (h0:=h0) b0];exact X3b iO iO (y6a a0 (k:=0) Z hM) (a0.cells 0 Z) (m1a iO c0 hw) (m1a iO c0 hw)
theorem x2b(p:m0a)(t:Int)(M:List Nat)(w0:World)(cs:LV)(hR:e1a M w0 p cs)(hl:p.cells.length≤32):
 A0a prog 110 #[.agg cs.toArray,.int .i64 t] w0 fun v w'=>d5a 3 w0 w' v (ofL p t)∧Bw w0 w':=by
 obtain⟨Ac,nc,cc,Am,nm,cm,Al,nl,cl,At,nt,ct,rfl,hC,_⟩:=hR.open_;have S:=(St.refl w0).nilEnt 3;refine a0a func110 Z ntmps110 Z ?_;refine wO1 Z (o0a S Z ?_);intro g2 w2 S2 X2 G2;refine lOn 5 S2.k [] Z U (B0a Z ?_);refine lC S2.k [.o 0] Z ⟨Z,U⟩ (wL (fun μk D ε w=>D=[]∧∃k:Nat,∃G:Option Nat,∃e0:LV,∃v:Value,(k+μk=(p.cells.length))∧(T1a u3d 1 [] w0 G e0 v (f6b p t k))∧St [] w0 w [(some g2,27,pL Ac nc cc Am nm cm Al nl cl At nt ct),(G,3,e0)]∧Sl ε [(1,.int .i64 t),(5,v),(9,.slice Ac nc cc),(10,.int .i64 nc),(11,.int .i64 k)]) (μ:=(p.cells.length)) ⟨Z,0,none,[],.slice none 0 0,by omega,T1a.nil,S2,Z⟩ ?_);rintro μk D ε w ⟨rfl,k,G,e0,v,_,b0,S,eZ⟩;refine wK eZ (wB1 Z (fun s0=>?_) fun s0=>?_)
 ·obtain⟨cl,q0,t0,_,d0,g0,_,j0,i0,m0⟩:=RdS.get (hC) (k) (by omega);obtain⟨rfl,_⟩:=P2a.open_ m0;refine lO (S.k.a i0) [.x q0 t0,.v 0] Z ⟨⟨Z,j0⟩,⟨g0,by omega⟩,U⟩ (g0a S J9c Z Z ?_);intro g7 w7 S7 X7 G7;refine lO1 Z (d0a (kk:=0) (vs:=[_,_,_,_,_,_]) S7 p9c Z Z Z Z Z Z Z ?_);intro u0 a0 p0;dsimp only[e0a,List.set] at a0;refine lB a0.k [.o 0] Z ⟨Z,U⟩ (fun f0=>?_) fun f0=>?_
  ·refine lOn 4 a0.k [] Z U (J0a Z ?_);refine lO1 Z (k0a a0 R0a (vs:=[.int .i64 _]) (cs:=[_]) Z Z Z Z Z Z ?_);intro B0 D0 n0 z0 x0;refine r1a v5a (k:=3) (M2:=[]) (e1:=(k:Int)) n0 R0a Z b0 Z Z (n0.cells 0 Z) ⟨Z,by unfold i64;omega⟩ (by have:=A4a p t k;omega) Z ?_;intro C0 y0 r0 E0 o0 c0 A0 v0;refine B0a Z ?_;refine lP1 Z ⟨μk-1,by omega,Z,k+1,_,_,_,by omega,?_,o0.tail.tail,Z⟩;rw[T6a d0];rw[if_pos f0];exact c0
  refine lP1 Z ⟨μk-1,by omega,Z,k+1,_,_,_,by omega,?_,a0.tail,Z⟩;rw[T6a d0];rw[if_neg f0];exact b0
 refine lOn 8 S.k [] Z U (J0a Z ?_);refine B0a Z ?_;refine lR1 Z (w0a Z ?_);obtain rfl:k=p.cells.length:=by omega
 exact⟨b0.newRow S (k:=1) Z,S.fin⟩
theorem M6b(p:m0a)(M:List Nat)(w0:World)(cs:LV)(hR:e1a M w0 p cs)(hl:p.cells.length≤32):
 A0a prog 106 #[.agg cs.toArray] w0 fun v w'=>d5a 3 w0 w' v (ofL p (-1))∧Bw w0 w':=by
 obtain⟨_,_,_,_,_,_,_,_,_,_,_,_,rfl,-⟩:=id hR.open_;have S:=St.refl w0;refine a0a func106 Z ntmps106 Z ?_;refine wO1 Z (o0a S Z ?_);intro g1 w1 S1 X1 G1;refine lO S1.k [.w 0] Z ⟨⟨Z,Z⟩,U⟩ (h0a S1 N0c Z Z (x2b p (-1) M _ _ (hR.keep (S1.keep0 M)) hl) ?_);rintro v4 w4 ⟨G4,c0,b0,a0⟩ S4 X4;obtain⟨_,_,_,rfl⟩:=b0.form;refine lR1 Z (w0a Z ?_);exact⟨⟨G4,c0,b0,fun g hg=>⟨Nat.le_trans S1.size (a0 g hg).1,(a0 g hg).2⟩⟩,S4.nil.fin⟩
theorem J7b(p:m0a)(t:Nat)(M:List Nat)(w0:World)(cs:LV)(hR:e1a M w0 p cs)(hl:p.cells.length≤32)(ht:t<1000):
 A0a prog 60 #[.agg cs.toArray,.int .i64 t] w0 fun v w'=>d5a 3 w0 w' v (ofL p t)∧Bw w0 w':=by
 obtain⟨_,_,_,_,_,_,_,_,_,_,_,_,rfl,-⟩:=id hR.open_;have S:=St.refl w0;refine a0a func60 Z ntmps60 Z ?_;refine wO1 Z (o0a S Z ?_);intro g2 w2 S2 X2 G2;refine lB1 Z (fun h6=>by exfalso;omega) fun h6=>?_;refine lO S2.k [.w 0] Z ⟨⟨Z,Z⟩,U⟩ (h0a S2 N0c Z Z (x2b p t M _ _ (hR.keep (S2.keep0 M)) hl) ?_);rintro v9 w9 ⟨G9,c0,b0,a0⟩ S9 X9;obtain⟨_,_,_,rfl⟩:=b0.form;refine lR1 Z (w0a Z ?_);exact⟨⟨G9,c0,b0,fun g hg=>⟨Nat.le_trans S2.size (a0 g hg).1,(a0 g hg).2⟩⟩,S9.nil.fin⟩
theorem P4b(p:m0a)(m:Nat)(md:k2a)(d0:p.modules[m]?=some md)(M:List Nat)(w0:World)(cs:LV)(hI:InP p M w0 cs):
 A0a prog 55 #[.agg cs.toArray,.int .i64 m] w0 fun v w'=>(∃cs:LV,v=.agg cs.toArray∧RdE M w' (c4a p m) cs)∧Bw w0 w':=by
 obtain⟨Ac,nc,cc,Am,nm,cm,Al,nl,cl,At,nt,ct,rfl,_,t1,_⟩:=hI.rd.open_;have S:=St.refl w0;have hM:=hI.lt;have hp:=hI.ok;have n1:=hp.ncells;have u1:=hp.modules md (c0a d0);have F1:=t5a d0;have n3:=hp.nmodules;have H1:(ofL p (-1)).length≤32:=Nat.le_trans (A4a p (-1) _) n1;refine a0a func55 Z ntmps55 Z ?_;refine wO1 Z (o0a S Z ?_);intro g2 w2 S2 X2 G2;refine g0a S2 X1a Z Z ?_;intro g4 w4 S4 X4 G4;obtain⟨_,o1,v1,_,L0,z0,_,H0,F0,I0⟩:=RdS.get (t1) (m) (by omega);obtain rfl:=Option.some.inj (d0.symm.trans L0);obtain⟨r0,R0,x0,q0,Q0,v0,p0,P0,u0,rfl,_,C0,B0,_⟩:=f1a.open_ I0;refine lO (S4.k.a F0) [.o 1,.x o1 v1,.v 0] Z ⟨⟨Z,H0⟩,⟨z0,by omega⟩,Z,U⟩ (g0a S4 R0d Z Z ?_);intro g5 w5 S5 X5 G5;refine d0a (kk:=0) (vs:=[_,_,_,_,_,_,_,_,_,_,_]) S5 H9c Z Z Z Z Z Z Z ?_;intro x1 c0 i1;dsimp only[e0a,List.set] at c0;refine lO c0.k [.o 0] Z ⟨Z,U⟩ (h0a c0 S2c Z Z (v0c md.guar (g4::M) _ _ 40 (RdE.keep (c0.keep0 _) _ _ (RdE.more (W3a c0 (k:=1) Z) _ _ C0)) (J6a (h2a u1.guar.1).1) (z8a c0 1 Z hM)) ?_);rintro I1 O1 ⟨_,rfl,W0⟩ Z0 C1;obtain⟨_,_,_,rfl,-⟩:=W0.open_;refine k0a Z0 T0a (vs:=[.agg _]) (cs:=[_,_,_,_]) Z Z Z Z Z Z ?_;intro g17 P1 m0 f1 Y0;refine B0a Z ?_;refine lO m0.k [.w 3] Z ⟨⟨Z,Z⟩,U⟩ ?_;have a0:=a0b (W0.addNew f1 Y0);refine h0a m0 D9c Z Z (e9b (M:=g17::g4::M) (M6b p M _ _ (hI.rd.keep (m0.keep0 M)) n1) (fun x hx=>Y7a m0 hM x (q4b (G:=some g17) 0 Z (r4b 2 Z) x hx)) (fun x hx=>by have:=e9a.1 hx;unfold i64;omega)) ?_;rintro J1 S0 K0 a1 g1;obtain⟨As,ns,q1,rfl⟩:=K0.form;have G1:=K0.len.1;have KS:=x0a.refl [g17] S0;replace a0:=s2b.keep a0 g1.of_nil;refine lC1 Z (wL (fun μk D ε w=>D=[]∧∃k:Nat,∃G:Option Nat,∃cs2:LV,∃v:Value,(k+μk=((ofL p (-1)).length))∧(s2b (g4::M) w G cs2 v (md.guar::(x0c md.frame ((ofL p (-1)).take k)).map (g5a p)))∧(∀g∈G.toList,S0.heap.size≤g∨g∈[g17])∧(x0a [g17] S0 w)∧St [] w0 w [(G,37,cs2),(some g5,81,[.string md.name,.string md.owner,.int .i64 md.rely.op,.int .i64 md.rely.w,.int .i64 md.rely.n,.slice r0 R0 x0,.int .i64 md.guar.op,.int .i64 md.guar.w,.int .i64 md.guar.n,.slice q0 Q0 v0,.slice p0 P0 u0]),(some g4,37,[.int .i64 0,.int .i64 0,.int .i64 0,.slice none 0 0]),(some g2,27,pL Ac nc cc Am nm cm Al nl cl At nt ct)]∧Sl ε [(2,.pointer (some ⟨g2,0,none⟩)),(4,.pointer (some ⟨g4,0,none⟩)),(5,.pointer (some ⟨g5,0,none⟩)),(6,v),(19,.slice As ns q1),(20,.int .i64 ns),(21,.int .i64 k)]) (μ:=((ofL p (-1)).length)) ⟨Z,0,some g17,_,_,by omega,a0,by simp,KS,a1,Z⟩ ?_);rintro μk D ε w ⟨rfl,k,G,cs2,v,_,i0,G0,KS,S,eZ⟩;refine wK eZ ?_;have KQ:=x0a.refl (G.toList++g4::M) w;refine wB1 Z (fun s1=>?_) fun s1=>?_
 ·obtain⟨c,p1,w1,_,N0,A0,E0,_,g0,J0⟩:=RdS.get (K0.keep (KS.mono (by simp))) (k) (by omega);obtain⟨rfl,O0⟩:=id J0;have V0:=e9a.1 (c0a N0);refine lO (S.k.b g0) [.x p1 w1,.f 0 0,.o 1] Z ⟨Z,Z,⟨A0,by omega⟩,U⟩ (i0a S k1c Z Z (M9a M _ _ md.frame c (B0.keep (S.keep0 M))) (fun y0 y1 e0 j0=>?_) (fun y0 y1 e0 j0=>?_))
  ·replace g0:=g0.keep (j0.of_nil) E0;replace KS:=KS.trans (j0.of_nil);replace KQ:=KQ.trans (j0.of_nil);refine lP1 Z ⟨μk-1,by omega,Z,k+1,_,_,_,by omega,?_,?_,(KS),e0,Z⟩
   ·rw[Y5b N0];rw[if_pos (of_decide_eq_true y0)];exact i0.keep KQ
   ·exact G0
  replace KS:=KS.trans (j0.of_nil);replace KQ:=KQ.trans (j0.of_nil);refine lOn 5 e0.k [] Z U (J0a Z ?_);refine lO e0.k [.w 3] Z ⟨⟨Z,Z⟩,U⟩ (h0a e0 A7c Z Z (I9a p c V0.1 V0.2.1 (G.toList++g4::M) _ _ ((hI.rd.more (fun x hx=>e5a e0 x (q4b 0 Z (r4b 2 Z) x hx))).keep (e0.keep0 _)) (fun x hx=>Y7a e0 hM x (q4b 0 Z (r4b 2 Z) x hx)) O0) ?_);rintro K1 Q1 ⟨_,rfl,n0⟩ b1 U0;replace KS:=KS.trans (U0.of_nil);replace KQ:=KQ.trans (U0.of_nil);obtain⟨_,_,_,rfl,-⟩:=n0.open_;refine k0a b1 T0a (vs:=[.agg _]) (cs:=[_,_,_,_]) Z Z Z Z Z Z ?_;intro E1 R1 T0 s0 A1;replace n0:=RdE.keep (s0.of_nil) _ _ n0;replace KS:=KS.trans (s0.of_nil);replace KQ:=KQ.trans (s0.of_nil);have b0:=i0.keep KQ;refine r1a F3a (k:=1) (M2:=g4::M) (e1:=g5a p c) T0 T0a Z b0 Z Z (T0.cells 0 Z) n0 (by have:=b8a md.frame ((ofL p (-1)).take k);rw[List.length_take] at this;simp;omega) Z ?_;intro M1 B1 r1 T1 c1 b0 j1 X0;have m1:=KS.size;replace KS:=KS.freshL j1 G0;refine B0a Z ?_;refine lP1 Z ⟨μk-1,by omega,Z,k+1,_,_,_,by omega,?_,?_,(KS),c1.tail,Z⟩
  ·rw[Y5b N0];rw[if_neg (of_decide_eq_false y0),List.map_append];exact b0
  ·intro g hg;rcases X0 g hg with h|h;exact G0 g h;exact .inl (Nat.le_trans m1 h)
 refine lOn 8 S.k [] Z U (J0a Z ?_);have D0:RdL (g4::M) w v (j5b p md):=by
  have hr:=i0;rw[List.take_of_length_le (by omega)] at hr;exact hr.rdL S (k:=0) Z (fun g hg hh=>by
   subst hg;rcases List.mem_cons.1 hh with hh|hh
   ·exact S.ne 0 2 Z Z (by omega) hh
   ·exact y6a S (k:=0) Z hM hh) (by have:=b8a md.frame (ofL p (-1));simp;omega)
 refine h0a S K6c Z Z (x3c (j5b p md) (g4::M) _ _ D0 (z8a S 2 Z hM) ((hI.msk.more (W3a S (k:=2) Z)).keep (S.keep0 _))) ?_;rintro N1 U1 ⟨_,rfl,o0⟩ d1 D1;obtain⟨_,_,_,rfl,-⟩:=o0.open_;refine d0a (kk:=2) (vs:=[_,_,_,_]) d1 h1a Z Z Z Z Z Z Z ?_;intro z1 f0 t0;dsimp only[e0a,List.set] at f0;replace o0:=RdE.keep (t0.mono (by simp)) _ _ o0;refine lR1 Z (t0a Z D0a Z (f0.cells 2 Z) Z ⟨⟨_,Z,?_⟩,f0.fin⟩);unfold c4a w2d;rw[show((m:Int).toNat)=m by simp,getD_some d0];exact RdE.less (fun x hx=>List.mem_cons_of_mem _ hx) _ _ o0
section
variable {d:Nat} {t:TypeId} {p:String} {af:Array Edge} {x y z:Operand} {α:Type} {enc:α→Value}
def U1b(enc:α→Value)(w:World)(b:Nat)(l:List α):Prop :=
 ∃es clock,w.heap[b]?=some (.map es clock)∧es.toList.map (fun x=>(x.key,x.val))=l.map (fun a=>(enc a,Value.bool true))∧(∀x∈es.toList,x.born<clock)∧(es.toList.map (·.born)).Nodup
theorem U1b.keep{b:Nat}{l:List α}{w':World}(h:U1b enc w b l)(hk:x0a M w w')(hb:b∉M):U1b enc w' b l:=by
 obtain⟨es,a0,h1,h2⟩:=h;exact⟨es,a0,by rw[hk.same b (Array.getElem?_eq_some_iff.1 h1).1 hb];exact h1,h2⟩
theorem U1b.lt{b:Nat}{l:List α}(h:U1b enc w b l):b<w.heap.size:=by
 obtain⟨_,_,h1,_⟩:=h;exact(Array.getElem?_eq_some_iff.1 h1).1
theorem U1b.ne{b g tb:Nat}{cs:LV}{l:List α}(h:U1b enc w b l)(hg:p0a w (g,tb,cs)):b≠g:=by
 obtain⟨_,_,h1,_⟩:=h;rintro rfl;unfold p0a at hg;rw[h1] at hg;cases hg
theorem U1b.mk_{b:Nat}{k:TypeId}{w1:World}(h:g3a P k w1 b []):U1b enc w1 b []:=by
 obtain⟨es,a0,h1,h2,_⟩:=h;have h0:es.toList=[]:=List.map_eq_nil_iff.1 h2;exact⟨es,a0,h1,by simp[h0],by simp[h0],by simp[h0]⟩
open Classical in
noncomputable def insL(l:List α)(a:α):List α:=if a∈l then l else l++[a]
theorem g0b{l:List α}{a x:α}:x∈insL l a↔x∈l∨x=a:=by
 unfold insL;split
 ·rename_i h;exact⟨.inl,fun h'=>h'.elim id (fun hh=>hh▸h)⟩
 ·simp
theorem a2b{l:List α}{a:α}(h:l.Nodup):(insL l a).Nodup:=by
 unfold insL;split
 ·exact h
 ·rename_i hn;rw[List.nodup_append];exact⟨h,by simp,fun x hx y hy=>by rw[List.mem_singleton.1 hy];exact fun hh=>hn (hh▸hx)⟩
theorem r8b{l:List α}{a:α}:(insL l a).length≤l.length+1:=by
 unfold insL;split<;>simp
theorem e1c{k el:TypeId}{ty b:Nat}{l:List α}{a:α}(S:St M w0 w L)(Kd:Keyed P k)(ht:P.underlying ty=some (.map k el))(d0:∀a b,enc a=enc b→a=b)(f0:∀a∈l,∃q,keyOf P k (enc a)=some q)(q0:∃q,keyOf P k (enc a)=some q)(h:U1b enc w b l)
 (hx:ev e x=.map (some b)) (hy:ev e y=enc a) (hz:ev e z=.bool true) (hb:w0.heap.size≤b∨b∈M)
 (hk:∀w1,St M w0 w1 L→x0a [b] w w1→U1b enc w1 b (insL l a)→WL P r N ops rest K D e w1) :
 WL P r N ops (⟨none,.mapUpdate ty x y z,t,p,af,none⟩::rest) K D e w:=by
 have c0:=h;obtain⟨es,a0,h1,h2,h3,h4⟩:=h;obtain⟨q,hq⟩:=q0;have s0:b<w.heap.size:=(Array.getElem?_eq_some_iff.1 h1).1;have m0:∀x∈es.toList,∃a∈l,x.key=enc a∧x.val=.bool true:=fun x hx=>by
  have:(x.key,x.val)∈es.toList.map (fun x=>(x.key,x.val)):=List.mem_map.2 ⟨x,hx,Z⟩;rw[h2] at this;obtain⟨a,ha,he⟩:=List.mem_map.1 this;simp only[Prod.mk.injEq] at he;exact⟨a,ha,he.1.symm,he.2.symm⟩
 have r0:∀a∈l,∃x∈es.toList,x.key=enc a:=fun a ha=>by
  have:(enc a,Value.bool true)∈l.map (fun a=>(enc a,Value.bool true)):=List.mem_map.2 ⟨a,ha,Z⟩;rw[←h2] at this;obtain⟨x,hx,he⟩:=List.mem_map.1 this;simp only[Prod.mk.injEq] at he;exact⟨x,hx,he.1⟩
 rcases Kd.find w hq es.toList (fun x hx=>by obtain⟨a,ha,he,_⟩:=m0 x hx;rw[he];exact f0 a ha) with⟨h5,h6⟩|⟨j,e0,h5,h6,h7⟩
 ·have t0:a∉l:=fun ha=>by obtain⟨x,hx,he⟩:=r0 a ha;exact h6 x hx he
  have b0:∀g,g≠b→(w.heap.setIfInBounds b (.map (es.push ⟨enc a,.bool true,a0⟩) (a0+1)))[g]?=w.heap[g]?:=fun g hg=>Array.getElem?_setIfInBounds_ne (fun e=>hg e.symm);refine t9a (w':={ w with heap:=w.heap.setIfInBounds b (.map (es.push ⟨enc a,.bool true,a0⟩) (a0+1)) }) Z Z ?_ (hk _ ?_ ?_ ?_)
  ·simp[execOp,hx,hy,hz,Instr.mapUpdate,run_underlying ht,MapKept.run_getObj_map h1,Kd.check w false hq,h5,MapKept.run_setObj_map _ h1,Result.andThen]
  ·refine S.keeps ⟨S.below.os,S.below.tape,S.below.output,by simpa using S.below.size,fun g hg hm=>?_⟩ (fun x' u0 g hg=>b0 g (fun hh=>by subst hh;exact c0.ne (S.own x' u0 g hg).2 Z));refine(b0 g (fun hh=>?_)).trans (S.below.block g hg hm);subst hh;rcases hb with hb|hb
   ·omega
   ·exact hm hb
  ·exact⟨by simp,fun g _ hm=>b0 g (fun hh=>hm (by simp[hh]))⟩
  ·refine⟨es.push ⟨enc a,.bool true,a0⟩,a0+1,by simp[s0],by simp[insL,t0,h2],fun x hx=>?_,?_⟩
   ·simp only[Array.toList_push,List.mem_append,List.mem_singleton] at hx;rcases hx with hx|rfl
    ·have:=h3 x hx;omega
    ·exact Nat.lt_succ_self _
   ·simp only[Array.toList_push,List.map_append,List.map_cons,List.map_nil];rw[List.nodup_append];exact⟨h4,by simp,fun i hi j hj=>by
     rw[List.mem_singleton.1 hj];obtain⟨x,hx,rfl⟩:=List.mem_map.1 hi;have:=h3 x hx;omega⟩
 ·have g0:=List.mem_of_getElem? h6;obtain⟨a',n0,p0,_⟩:=m0 e0 g0;have o0:a'=a:=d0 _ _ (by rw[←p0,h7]);subst o0;have i0:es.modify j (fun x=>{ x with key:=enc a',val:=.bool true })=es:=by
   apply Array.ext';rw[Array.toList_modify];apply List.ext_getElem?;intro i;rw[List.getElem?_modify];by_cases j0:j=i
   ·subst j0;rw[h6];simp;cases e0;simp_all
   ·simp[j0]
  refine t9a (w':=w) Z Z ?_ (hk w S (x0a.refl _ _) (by rw[insL,if_pos n0];exact c0));have hw:({ w with heap:=w.heap.setIfInBounds b (.map es a0) }:World)=w:=by
   have:w.heap.setIfInBounds b (.map es a0)=w.heap:=by
    apply Array.ext_getElem?;intro i;rw[Array.getElem?_setIfInBounds]
    split
    ·rename_i h;subst h;rw[h1]
    ·rfl
   rw[this]
  have hj:es[j]?=some e0:=by rw[←Array.getElem?_toList];exact h6
  simp only[execOp,hx,hy,hz,Instr.mapUpdate,Sem.run_bind,run_underlying ht,Result.andThen_ok,MapKept.run_getObj_map h1,Kd.check w false hq,h5,hj,Option.map_some,Option.getD_some,h7,Kd.stays w hq,i0,MapKept.run_setObj_map _ h1,hw,Sem.run_pure]
def t8a(enc:α→Value)(w:World)(b r:Nat)(left:List α)(cur:Option α):Prop :=
 ∃es clock since seen c0,w.heap[b]?=some (.map es clock)∧w.heap[r]?=some (.mapIter (some b) since seen c0)∧(∀x∈es.toList,x.born<since)∧since≤c0∧since≤clock∧(es.toList.map (·.born)).Nodup ∧
  ((leftOf es seen).toList.map (·.key)).Perm (left.map enc)∧∀a,cur=some a→c0=clock∧∃x∈es.toList,x.key=enc a∧∃seen':Array Nat,seen=seen'.push x.born
theorem t8a.keep{b q:Nat}{b0:List α}{cur:Option α}{w':World}(h:t8a enc w b q b0 cur)(hk:x0a M w w')(hb:b∉M)(hq:q∉M):t8a enc w' b q b0 cur:=by
 obtain⟨es,a0,d0,e0,c0,h1,h2,h3⟩:=h;exact⟨es,a0,d0,e0,c0,by rw[hk.same b (Array.getElem?_eq_some_iff.1 h1).1 hb];exact h1,by rw[hk.same q (Array.getElem?_eq_some_iff.1 h2).1 hq];exact h2,h3⟩
theorem t8a.ne{b q g tb:Nat}{cs:LV}{a0:List α}{cur:Option α}(h:t8a enc w b q a0 cur)(hg:p0a w (g,tb,cs)):b≠g∧q≠g:=by
 obtain⟨_,_,_,_,_,h1,h2,_⟩:=h;unfold p0a at hg;exact⟨fun hh=>by subst hh;rw[h1] at hg;(cases hg),fun hh=>by subst hh;rw[h2] at hg;(cases hg)⟩
theorem t8a.keepC{b q:Nat}{a0:List α}{cur:Option α}{w':World}{Gs:List Nat}(h:t8a enc w b q a0 cur)(hk:x0a Gs w w')(hG:∀g∈Gs,∃tb cs,p0a w (g,tb,cs)):t8a enc w' b q a0 cur:=h.keep hk
 (fun hb=>by obtain⟨tb,cs,hh⟩:=hG b hb;exact(h.ne hh).1 Z) (fun hb=>by obtain⟨tb,cs,hh⟩:=hG q hb;exact(h.ne hh).2 Z)
theorem St.optBlk(S:St M w0 w L)(k:Nat){G:Option Nat}{t:TypeId}{cs:LV}(hk:L[k]?=some (G,t,cs)):∀g∈G.toList,∃tb cs,p0a w (g,tb,cs):=fun g hg=>by
 have hG:G=some g:=by cases G with
  | none=>simp at hg
  | some x=>simp at hg;rw[hg]
 subst hG;exact⟨t,cs,S.blk k hk⟩
theorem W8b{k el:TypeId}{ty b:Nat}{l:List α}(S:St M w0 w L)(ht:P.underlying ty=some (.map k el))(h:U1b enc w b l)(hx:ev e x=.map (some b))(hd:Nat.ble (d+1) N=true)
 (hk:∀q w1,St M w0 w1 L→x0a [] w w1→w.heap.size≤q→t8a enc w1 b q l none→WL P r N ops rest K D (upd e d (.pointer (some ⟨q,0,none⟩))) w1) :
 WL P r N ops (⟨some d,.range ty x,t,p,af,none⟩::rest) K D e w:=by
 obtain⟨es,a0,h1,h2,h3,h4⟩:=h;refine U0a (v:=.pointer (some ⟨w.heap.size,0,none⟩)) (w':=w.alloc (.mapIter (some b) a0 #[] a0)) Z Z hd ?_ (hk _ _ (S.keeps (S.below.alloc _) fun b hb g hg=>Below.heap_alloc w _ g ((S.own b hb g hg).2.lt)) (G1a _ _ _) (Nat.le_refl _) ⟨es,a0,a0,#[],a0,?_,?_,h3,Nat.le_refl _,Nat.le_refl _,h4,?_,fun a ha=>by cases ha⟩)
 ·simp[execOp,hx,run_range_map w ty k el b es a0 ht h1]
 ·rw[Below.heap_alloc w _ b (Array.getElem?_eq_some_iff.1 h1).1];exact h1
 ·exact Go.heap_alloc_new w _
 ·have e1:(leftOf es #[]).toList=es.toList:=by simp[leftOf]
  have e2:es.toList.map (·.key)=l.map enc:=by
   have:=congrArg (List.map Prod.fst) h2;simpa[List.map_map,Function.comp_def] using this
  rw[e1,e2]
theorem f1b{β γ:Type}[BEq γ][LawfulBEq γ](f:β→γ):∀(l:List β),(l.map f).Nodup→∀a∈l,l.Perm (a::l.filter (fun x=>f x != f a))
 | [],_,a,h=>by cases h
 | x::l,hn,a,h=>by
   rw[List.map_cons,List.nodup_cons] at hn;rcases List.mem_cons.1 h with rfl|h
   ·have:l.filter (fun x=>f x != f a)=l:=List.filter_eq_self.2 fun y hy=>by
     simp only[bne_iff_ne];exact fun hh=>hn.1 (by rw[←hh];exact List.mem_map.2 ⟨y,hy,Z⟩)
    rw[List.filter_cons_of_neg (by simp),this]
   ·have hx:f x≠f a:=fun hh=>hn.1 (by rw[hh];exact List.mem_map.2 ⟨a,h,Z⟩);rw[List.filter_cons_of_pos (by simpa using hx)];exact((f1b f l hn.2 a h).cons x).trans (List.Perm.swap _ _ _)
theorem P3c{b q:Nat}{g0:List α}{cur:Option α}(S:St M w0 w L)(h:t8a enc w b q g0 cur)(hq:w0.heap.size≤q∨q∈M)(hx:ev e x=.pointer (some ⟨q,0,none⟩))(hd:Nat.ble (d+1) N=true)
 (h1:g0=[]→WL P r N ops rest K D (upd e d (.tuple #[.bool false])) w)
 (h2:∀a i0 v w1,g0.Perm (a::i0)→St M w0 w1 L→x0a [q] w w1→t8a enc w1 b q i0 (some a)→WL P r N ops rest K D (upd e d (.tuple #[.bool true,enc a,v])) w1) :
 WL P r N ops (⟨some d,.next x false,t,p,af,none⟩::rest) K D e w:=by
 have hm:=h;obtain⟨es,b0,f0,a0,c0,k1,k2,k3,k4,k8,k5,k6,_⟩:=h;rcases run_next_at (P:=P) w t q b f0 c0 a0 es b0 k2 k1 k3 k4 with⟨q1,q2⟩|⟨e0,q1,w1,q2,q3⟩
 ·refine U0a (v:=.tuple #[.bool false]) (w':=w) Z Z hd (by simp[execOp,hx,q2]) (h1 ?_);have h0:(leftOf es a0).toList=[]:=by
   have:(leftOf es a0).toList.length=0:=by simpa using q1
   exact List.length_eq_zero_iff.1 this
  rw[h0] at k6;have h9:=k6.length_eq;exact List.length_eq_zero_iff.1 (by simpa using h9.symm)
 ·have r0:e0.key∈g0.map enc:=k6.subset (List.mem_map.2 ⟨e0,q1,Z⟩);obtain⟨a,ha,o0⟩:=List.mem_map.1 r0;obtain⟨s,u,rfl⟩:=List.append_of_mem ha;have s0:q<w.heap.size:=(Array.getElem?_eq_some_iff.1 k2).1;have n0:w1.heap=w.heap:=by rcases q2 with rfl|rfl<;>rfl
  have d0:∀g,g≠q→(ChangeMaps.setBlock w1 q (.mapIter (some b) f0 (a0.push e0.born) b0)).heap[g]?=w.heap[g]?:=fun g hg=>by
   show(w1.heap.setIfInBounds q _)[g]?=_
   rw[Array.getElem?_setIfInBounds_ne (fun e=>hg e.symm),n0]
  have q0:b≠q:=by rintro rfl;rw[k1] at k2;cases k2
  refine U0a (v:=.tuple #[.bool true,e0.key,e0.val]) Z Z hd (by simp only[execOp,hx,Sem.run_bind];rw[q3];rfl) (?_:WL P r N ops rest K D (upd e d (.tuple #[.bool true,e0.key,e0.val])) _);rw[←o0];have j0:=mem_left q1;refine h2 a (s++u) _ _ List.perm_middle ?_ ?_ ?_
  ·refine S.keeps ⟨?_,?_,?_,?_,fun g hg m0=>?_⟩ (fun x' t0 g hg=>d0 g (fun hh=>by subst hh;exact(hm.ne (S.own x' t0 g hg).2).2 Z))
   ·rcases q2 with rfl|rfl<;>exact S.below.os
   ·rcases q2 with rfl|rfl<;>exact S.below.tape
   ·rcases q2 with rfl|rfl<;>exact S.below.output
   ·show _≤(w1.heap.setIfInBounds q _).size
    rw[Array.size_setIfInBounds,n0];exact S.below.size
   ·refine(d0 g (fun hh=>?_)).trans (S.below.block g hg m0);subst hh;rcases hq with hq|hq
    ·omega
    ·exact m0 hq
  ·exact⟨by show _≤(w1.heap.setIfInBounds q _).size;rw[Array.size_setIfInBounds,n0];exact Nat.le_refl _,fun g _ m0=>d0 g (fun hh=>m0 (by simp[hh]))⟩
  ·refine⟨es,b0,f0,a0.push e0.born,b0,by rw[d0 b q0];exact k1,?_,k3,k8,k8,k5,?_,fun a' p0=>?_⟩
   ·show(w1.heap.setIfInBounds q _)[q]?=_
    rw[Array.getElem?_setIfInBounds_self_of_lt];rw[n0];exact s0
   ·have hp:=f1b (fun(x:MapEntry)=>x.born) (leftOf es a0).toList (by
     have:(leftOf es a0).toList=es.toList.filter (fun e=>!a0.contains e.born):=by simp[leftOf]
     rw[this];exact k5.sublist (List.Sublist.map _ List.filter_sublist)) e0 q1
    have hf:(leftOf es a0).toList.filter (fun x=>x.born != e0.born)=(leftOf es (a0.push e0.born)).toList:=by
     simp only[leftOf,Array.toList_filter,List.filter_filter];apply List.filter_congr;intro x _;rw[contains_push];cases a0.contains x.born<;>simp[bne]
    rw[hf] at hp;have h8:=(hp.map (·.key)).symm.trans k6;rw[List.map_cons,←o0] at h8;have h9:((s++a::u).map enc).Perm (enc a::(s++u).map enc):=by
     rw[←List.map_cons];exact List.perm_middle.map enc
    exact(h8.trans h9).cons_inv
   ·cases p0;exact⟨Z,e0,j0.1,o0.symm,a0,Z⟩
theorem T7b{b q:Nat}{c0:List α}{a:α}(h:t8a enc w b q c0 (some a))(hx:ev e x=.pointer (some ⟨q,0,none⟩))(hd:Nat.ble (d+1) N=true)
 (h1:∀v,WL P r N ops rest K D (upd e d (.tuple #[enc a,v])) w):WL P r N ops (⟨some d,.entry x,t,p,af,none⟩::rest) K D e w:=by
 obtain⟨es,_,b0,_,_,k1,k2,_,_,_,k5,_,k7⟩:=h;obtain⟨rfl,x0,d0,hk,a0,rfl⟩:=k7 a Z;have hr:=run_entry_at (P:=P) w q b b0 a0 es _ x0 k2 k1 d0 k5;have h2:=h1 x0.val;rw[←hk] at h2;refine U0a Z Z hd ?_ h2;simp only[execOp,hx,Sem.run_bind];rw[hr];rfl
end
structure b7b where
 id:ByteArray
 kind:Int
 module_:Int
 thread:Int
 item:Int
 other:Int
 hyp:E
 goal:E
def J2b(M:List Nat)(w:World)(c:b7b)(cs:LV):Prop :=
 ∃ch cg,cs=[.string c.id,.int .i64 c.kind,.int .i64 c.module_,.int .i64 c.thread,.int .i64 c.item,.int .i64 c.other]++ch++cg∧RdE M w c.hyp ch∧RdE M w c.goal cg
theorem J2b.keep{M:List Nat}{w w':World}{c:b7b}{cs:LV}(h:J2b M w c cs)(hk:x0a M w w'):J2b M w' c cs:=by
 obtain⟨ch,cg,h1,h2,h3⟩:=h;exact⟨ch,cg,h1,RdE.keep hk _ _ h2,RdE.keep hk _ _ h3⟩
theorem J2b.more{M M':List Nat}{w:World}{c:b7b}{cs:LV}(h:J2b M w c cs)(hM:∀g∈M',g∈M∨w.heap.size≤g):J2b M' w c cs:=by
 obtain⟨ch,cg,h1,h2,h3⟩:=h;exact⟨ch,cg,h1,RdE.more hM _ _ h2,RdE.more hM _ _ h3⟩
def b7b.sup(op:Int)(c:b7b):List Int:=k2d (c.hyp.sup op) (c.goal.sup op)
def b7b.formed(cells:List g1a)(c:b7b):Bool:=c.hyp.valid cells true&&(c.goal.valid cells true&&(decide (c.hyp.w=1)&&decide (c.goal.w=1)))
theorem K8c(k:Nat)(hk:k≤1000000)(w0:World):A0a prog 122 #[.slice none 0 0,.int .i64 (k:Int)] w0 fun v w'=>d5a 3 w0 w' v []∧Bw w0 w':=by
 have S:=St.refl w0;refine a0a func122 Z ntmps122 Z ?_;refine wB1 Z (fun h6=>by exfalso;omega) fun h6=>?_;refine lB0 Z ⟨by omega,by omega,U⟩ (fun e0=>?_) fun e0=>?_
 ·refine lO1 Z (f0c R0a.slT Z Z Z ?_);refine lO1 Z ?_;refine q1c (k:=k) S R0a Z Tryz.underlying3 Z (by show Value.int .i64 _=_;exact congrArg _ (by omega)) (by omega) (by omega) (by omega) Z ?_;intro c0 a0 j0 b0 i0 f0 g0 d0;refine lO1 Z (j9c (k:=0) R0a.slT Z Z (by omega) (by omega) Z ?_);refine lR1 Z (w0a Z ?_);exact⟨⟨some c0,List.replicate a0 (.int .i64 0),⟨Z,.inr ⟨c0,a0,Z,Z,Nat.zero_le _,f0,by simp,by simp⟩⟩,fun g hg=>by cases hg;exact⟨d0,b0.blk 0 Z⟩⟩,b0.nil.fin⟩
 refine lR1 Z (w0a Z ?_);exact⟨⟨none,[],S4a.nil 1,fun g hg=>by cases hg⟩,S.fin⟩
theorem v7b(ls:List (List Int))(k:Nat)(h:k<ls.length):(ls.take (k+1)).flatten=(ls.take k).flatten++ls[k]:=by
 induction ls generalizing k with
 | nil=>simp at h
 | cons x xs ih =>
   cases k with
   | zero=>simp
   | succ k=>simp only[List.take_succ_cons,List.flatten_cons,List.getElem_cons_succ];rw[ih k (by simpa using h),List.append_assoc]
theorem j1d(ls:List (List Int))(hl:∀l∈ls,l.length≤1000)(k:Nat):k≤ls.length→(ls.take k).flatten.length≤1000*k:=by
 induction k with
 | zero=>intro _;simp
 | succ k ih =>
   intro h;rw[v7b ls k (by omega),List.length_append];have:=ih (by omega);have:=hl ls[k] (List.getElem_mem (by omega));omega
theorem t5b(M:List Nat)(w0:World)(g:Nat)(ls:List (List Int))(hl:∀l∈ls,l.length≤1000)(H0:ls.length≤100)
 (s0:∀(k:Nat) (h:k<ls.length),∃A n c,w0.cell? ⟨g,0+k*1,none⟩=some (.slice A n c)∧RdI M w0 (.slice A n c) ls[k]) :
 A0a prog 67 #[.slice (some ⟨g,0,none⟩) ls.length ls.length] w0 fun v w'=>d5a 3 w0 w' v ls.flatten∧Bw w0 w':=by
 have S:=St.refl w0;refine a0a func67 Z ntmps67 Z ?_;refine wC1 Z (wL (fun μ D ε w=>D=[]∧∃k:Nat,(k+μ=ls.length)∧St [] w0 w []∧ε 0=.slice (some ⟨g,0,none⟩) ls.length ls.length∧ε 3=.int .i64 ((ls.take k).flatten.length:Nat)∧ε 9=.slice (some ⟨g,0,none⟩) ls.length ls.length∧ε 10=.int .i64 (ls.length:Nat)∧ε 11=.int .i64 (k:Nat)) (μ:=ls.length) ⟨Z,0,by omega,S,Z,Z,Z,Z,Z⟩ ?_);rintro μ D ε w ⟨rfl,k,_,S,e0,e3,e9,n0,o0⟩;refine q0a 0 e0 (q0a 3 e3 (q0a 9 e9 (q0a 10 n0 (q0a 11 o0 ?_))));clear e0 e3 e9 n0 o0;refine wB1 Z (fun y0=>?_) fun y0=>?_
 ·have f0:k<ls.length:=by omega
  obtain⟨A,n,c,a0,hR⟩:=s0 k f0;obtain⟨hn,_⟩:=hR.at;have g0:=v7b ls k f0;have t0:=j1d ls hl (k+1) (by omega);have B0:(ls.take (k+1)).flatten.length=(ls.take k).flatten.length+n:=by rw[g0,List.length_append,hn]
  refine lO S.k [.i] Z ⟨by omega,U⟩ (G0a o6a Z (by first|exact S.old a0) Z ?_);refine lB0 Z ⟨by omega,U⟩ (fun z0=>by exfalso;omega) fun z0=>?_;refine lP1 Z ⟨μ-1,by omega,Z,k+1,by omega,S,Z,?_,Z,Z,Z⟩;rw[B0];rfl
 refine lO1 Z ?_;refine h0a S a8c Z Z (K8c _ (by have:=j1d ls hl k (by omega);omega) _) ?_;rintro D0 I0 C0 i0 F0;obtain⟨u0,j0,c0,i0⟩:=C0.open_ i0 S;refine B0a Z ?_;refine lC1 Z (wL (fun μ D ε w=>D=[]∧∃k2:Nat,∃G:Option Nat,∃cs:LV,∃v:Value,(k2+μ=ls.length)∧(S4a G 1 (ls.take k2).flatten.length cs v ((ls.take k2).flatten.map (Value.int .i64)))∧St [] w0 w [(G,3,cs)]∧ε 6=v∧ε 25=.slice (some ⟨g,0,none⟩) ls.length ls.length∧ε 26=.int .i64 (ls.length:Nat)∧ε 27=.int .i64 (k2:Nat)) (μ:=ls.length) ⟨Z,0,u0,j0,D0,by omega,by simpa using c0,i0,Z,Z,Z,Z⟩ ?_);rintro μ D ε w ⟨rfl,k2,G,cs,v,_,b0,S,e6,p0,q0,r0⟩;refine q0a 6 e6 (q0a 25 p0 (q0a 26 q0 (q0a 27 r0 ?_)));clear e6 p0 q0 r0;refine wB1 Z (fun A0=>?_) fun A0=>?_
 ·have f0:k2<ls.length:=by omega
  obtain⟨A,n,c,a0,hR⟩:=s0 k2 f0;have g0:=v7b ls k2 f0;have t0:=j1d ls hl (k2+1) (by omega);rw[g0,List.length_append] at t0;refine lO S.k [.i] Z ⟨by omega,U⟩ (G0a o6a Z (by exact S.old a0) Z ?_);refine lOn 4 S.k [] Z U (J0a Z ?_);refine lO1 Z (U5a (k:=0) S R0a Z b0 Z Z (hR.keep (S.keep0 M)) (by omega) Z ?_);intro E0 v0 m0 J0 x0 d0 G0;refine B0a Z ?_;refine lP1 Z ⟨μ-1,by omega,Z,k2+1,v0,m0,E0,by omega,?_,x0,Z,Z,Z,Z⟩;rw[g0];exact d0
 refine lOn 8 S.k [] Z U (J0a Z ?_);refine B0a Z ?_;refine lR1 Z (w0a Z ?_);obtain rfl:k2=ls.length:=by omega
 rw[List.take_length] at b0;exact⟨⟨G,cs,b0,fun g hg=>by subst hg;exact⟨by have:=S.new 0 Z;simpa using this,S.blk 0 Z⟩⟩,S.nil.fin⟩
theorem W1b{w:World}{g el:Nat}{cs:LV}{d:List Int}(hb:p0a w (g,el,cs))(hd:d.length≤cs.length:=by omega):
 p0a (putRow (Value.int .i64) w g 0 d.toArray) (g,el,d.map (Value.int .i64)++cs.drop d.length):=by
 have a0:w.heap[g]?=some (.cells cs.toArray el (0,0)):=hb;unfold p0a putRow mapBlock;simp only[Array.getElem?_modify,if_true,a0,Option.map_some,onCells]
 congr 2
 apply Array.ext
 ·simp[putCells];omega
 ·intro i h1 h2;simp only[putCells,Array.size_mapIdx,List.size_toArray] at h1;simp only[putCells,Array.getElem_mapIdx,List.getElem_toArray,Nat.zero_le,true_and,Nat.zero_add,List.size_toArray,Nat.sub_zero];by_cases hi:i<d.length
  ·rw[if_pos hi,List.getElem_append_left (by simpa using hi)];simp[hi]
  ·rw[if_neg hi,List.getElem_append_right (by simpa using hi)];simp
   congr 1
   omega
theorem S9a{w:World}{g q:Nat}{d:List Int}(os:Array Obj):H0a [g] w (grow (putRow (Value.int .i64) (Sort.ahead w q) g 0 d.toArray) os):=by
 refine⟨Z,Z,Z,?_,fun i hi hm=>?_⟩
 ·simp[grow,putRow,mapBlock,Sort.ahead]
 ·have a0:¬g=i:=fun h=>hm (by simp[h]);simp only[grow,putRow,mapBlock,Sort.ahead];rw[Array.getElem?_append_left (by simpa using hi),Array.getElem?_modify,if_neg a0]
theorem e5b{w:World}{g el:Nat}{cs:LV}{zs:List Int}(hb:p0a w (g,el,cs))(hc:cs.take zs.length=zs.map (Value.int .i64)):Holds (Value.int .i64) w g 0 zs.toArray:=by
 intro j hj;have a0:j<zs.length:=by simpa using hj
 refine⟨?_,hb.frozen _⟩;rw[Nat.zero_add];refine hb.cell ?_;have h1:(cs.take zs.length)[j]?=some (.int .i64 zs[j]):=by rw[hc];simp[a0]
 rw[List.getElem?_take,if_pos a0] at h1;rw[h1];simp[a0]
def O3a(zs:List Int):List Int:=zs.mergeSort fun x y=>decide (x≤y)
theorem z3c(w:World)(g el b0:Nat)(cs:LV)(zs:List Int)(hb:p0a w (g,el,cs))(hc:cs.take zs.length=zs.map (Value.int .i64))(hz:zs.length≤1000000)(hl:zs.length≤cs.length:=by omega):
 A0a prog 68 #[.slice (some ⟨g,0,none⟩) zs.length b0] w fun _ w'=>H0a [g] w w'∧p0a w' (g,el,(O3a zs).map (Value.int .i64)++cs.drop zs.length):=by
 refine Calls.mono (Tryz.slices_Sort_int g 0 b0 zs w (e5b hb hc) hb.lt (by omega)) ?_;rintro e w' ⟨rfl,n,os,rfl⟩;have a0:(O3a zs).length=zs.length:=by simp[O3a]
 refine⟨_,Z,S9a os,?_⟩;have c0:p0a (Sort.ahead w n) (g,el,cs):=hb;have:=W1b (d:=O3a zs) c0;rw[a0] at this;unfold p0a at this ⊢;rw[heap_grow_old _ os (by simpa[putRow,mapBlock,Sort.ahead] using hb.lt)];exact this
theorem j0c(w:World)(g el b0:Nat)(cs:LV)(zs:List Int)(hb:p0a w (g,el,cs))(hc:cs.take zs.length=zs.map (Value.int .i64))(hl:zs.length≤cs.length)(hz:zs.length≤1000000)(c0:zs.length≤b0):
 A0a prog 70 #[.slice (some ⟨g,0,none⟩) zs.length b0] w fun v w'=>v=.slice (some ⟨g,0,none⟩) (Lib.compact zs).length b0∧H0a [g] w w' ∧
  p0a w' (g,el,(Lib.compact zs++List.replicate (zs.length-(Lib.compact zs).length) 0).map (Value.int .i64)++cs.drop zs.length):=by
 refine Calls.mono (Tryz.slices_Compact_int g 0 b0 zs w (e5b hb hc) (by omega) c0) ?_;rintro e w' ⟨rfl,n,rfl⟩;have g0:=Lib.compact_length_le zs;have d0:(Lib.compact zs++List.replicate (zs.length-(Lib.compact zs).length) 0).length=zs.length:=by simp;omega
 have e0:p0a (Sort.ahead w n) (g,el,cs):=hb;have:=W1b (d:=Lib.compact zs++List.replicate (zs.length-(Lib.compact zs).length) 0) e0;rw[d0] at this;have a0:=S9a (w:=w) (g:=g) (q:=n) (d:=Lib.compact zs++List.replicate (zs.length-(Lib.compact zs).length) 0) #[];have f0:∀W:World,grow W #[]=W:=fun W=>by simp[grow]
 rw[f0] at a0;exact⟨_,Z,Z,a0,this⟩
theorem r4c(w:World)(A:Option Addr)(a0 g el:Nat)(cs:LV)(hb:p0a w (g,el,cs)):A0a prog 68 #[.slice A 0 a0] w fun _ w'=>H0a [g] w w'∧p0a w' (g,el,cs):=by
 refine Calls.mono (Tryz.slices_Sort_int_none A a0 w) ?_;rintro e w' ⟨rfl,rfl⟩;exact⟨_,Z,H0a.refl _ _,hb⟩
theorem J4a:∀(a b:List Int),a.Pairwise (·<·)→b.Pairwise (·<·)→(∀x,x∈a↔x∈b)→a=b
 | [],[],_,_,_=>rfl
 | [],y::b,_,_,h=>absurd ((h y).2 (by simp)) (by simp)
 | x::a,[],_,_,h=>absurd ((h x).1 (by simp)) (by simp)
 | x::a,y::b,ha,hb,h=>by
   rw[List.pairwise_cons] at ha hb;have a0:x=y:=by
    have h1:=(h x).1 (by simp);have h2:=(h y).2 (by simp);rcases List.mem_cons.1 h1 with h1|h1
    ·exact h1
    ·rcases List.mem_cons.1 h2 with h2|h2
     ·exact h2.symm
     ·have:=ha.1 y h2;have:=hb.1 x h1;omega
   subst a0;rw[J4a a b ha.2 hb.2 fun z=>?_];constructor
   ·intro hz;rcases List.mem_cons.1 ((h z).1 (by simp[hz])) with h3|h3
    ·have:=ha.1 z hz;omega
    ·exact h3
   ·intro hz;rcases List.mem_cons.1 ((h z).2 (by simp[hz])) with h3|h3
    ·have:=hb.1 z hz;omega
    ·exact h3
theorem T1a.toV{M:List Nat}{w1:World}{G:Option Nat}{cs:LV}{v:Value}{l:List Int}(h:T1a (fun _ _=>r9b) 1 M w1 G cs v l):S4a G 1 l.length cs v (l.map (Value.int .i64)):=by
 obtain⟨css,h1,_,h3,h4⟩:=h;have e1:css.flatten=l.map (Value.int .i64):=by
  have key:∀(css:List LV) (l:List Int),css.length=l.length→(∀(i:Nat) (x:Int),l[i]?=some x→∃c,css[i]?=some c∧r9b c x)→css.flatten=l.map (Value.int .i64):=by
   intro css
   induction css with
   | nil=>intro l hl _;cases l with
     | nil=>rfl
     | cons=>simp at hl
   | cons c css ih =>
     intro l hl hx;cases l with
     | nil=>simp at hl
     | cons x l =>
       obtain⟨_,hc,hr⟩:=hx 0 x Z;simp at hc;subst hc;rw[List.flatten_cons,hr.1,ih l (by simpa using hl) (fun i y hy=>by simpa using hx (i+1) y (by simpa using hy))];rfl
  exact key css l h1 h4
 rwa [e1] at h3
def O8a(p:m0a)(t k j:Nat)(x:Int):Prop:=(∃u th s,u<k∧u≠t∧p.threads[u]?=some th∧s∈th.steps∧s.module_=x)∨∃th s,p.threads[k]?=some th∧s∈th.steps.take j∧s.module_=x
theorem O8a.zero{p:m0a}{t:Nat}{x:Int}:¬O8a p t 0 0 x:=by
 rintro(⟨u,th,s,h,_⟩|⟨th,s,_,h,_⟩)
 ·omega
 ·simp at h
theorem O8a.step{p:m0a}{t k j:Nat}{th:D1a}{s:i2a}{x:Int}(h:p.threads[k]?=some th)(hs:th.steps[j]?=some s):O8a p t k (j+1) x↔O8a p t k j x∨x=s.module_:=by
 unfold O8a;rw[or_assoc];refine or_congr Iff.rfl ?_;constructor
 ·rintro⟨a0,s',h1,h2,h3⟩;rw[h] at h1;cases h1;rw[u0a hs] at h2;rcases List.mem_append.1 h2 with h2|h2
  ·exact .inl ⟨th,s',h,h2,h3⟩
  ·rw[List.mem_singleton.1 h2] at h3;exact .inr h3.symm
 ·rintro(⟨a0,s',h1,h2,h3⟩|h1)
  ·rw[h] at h1;cases h1;exact⟨th,s',h,by rw[u0a hs];exact List.mem_append_left _ h2,h3⟩
  ·exact⟨th,s,h,by rw[u0a hs];simp,h1.symm⟩
theorem O8a.next{p:m0a}{t k:Nat}{th:D1a}{x:Int}(h:p.threads[k]?=some th)(hk:k≠t):O8a p t (k+1) 0 x↔O8a p t k th.steps.length x:=by
 unfold O8a;constructor
 ·rintro(⟨u,a0,s,h1,h2,h3,h4⟩|⟨a0,s,_,h2,_⟩)
  ·by_cases hu:u=k
   ·subst hu;rw[h] at h3;cases h3;exact .inr ⟨th,s,h,by rw[List.take_length];exact h4⟩
   ·exact .inl ⟨u,a0,s,by omega,h2,h3,h4⟩
  ·simp at h2
 ·rintro(⟨u,a0,s,h1,h2⟩|⟨a0,s,h1,h2⟩)
  ·exact .inl ⟨u,a0,s,by omega,h2⟩
  ·rw[h] at h1;cases h1;rw[List.take_length] at h2;exact .inl ⟨k,th,s,by omega,hk,h,h2⟩
theorem O8a.skip{p:m0a}{t k:Nat}{x:Int}(hk:k=t):O8a p t (k+1) 0 x↔O8a p t k 0 x:=by
 unfold O8a;constructor
 ·rintro(⟨u,a0,s,h1,h2,h3⟩|⟨a0,s,_,h2,_⟩)
  ·exact .inl ⟨u,a0,s,by omega,h2,h3⟩
  ·simp at h2
 ·rintro(⟨u,a0,s,h1,h2⟩|⟨a0,s,h1,h2,_⟩)
  ·exact .inl ⟨u,a0,s,by omega,h2⟩
  ·simp at h2
def h4d(p:m0a)(t m:Nat):Bool:=(List.range p.threads.length).any fun u=>decide (u≠t)&&(e2b p u).any fun s=>decide (s.module_=m)
def C1a(p:m0a)(t:Nat):List Int:=((List.range p.modules.length).filter (h4d p t)).map Int.ofNat
theorem X4a{p:m0a}(hp:W0a p){t:Nat}{x:Int}:x∈C1a p t↔O8a p t p.threads.length 0 x:=by
 unfold C1a O8a;simp only[List.mem_map,List.mem_filter,List.mem_range];constructor
 ·rintro⟨_,⟨h1,h2⟩,rfl⟩;unfold h4d at h2;obtain⟨u,hu,h3⟩:=List.any_eq_true.1 h2;simp only[Bool.and_eq_true,decide_eq_true_eq] at h3;obtain⟨s,hs,h4⟩:=List.any_eq_true.1 h3.2;have b0:=List.mem_range.1 hu;have a0:p.threads[u]?=some p.threads[u]:=List.getElem?_eq_getElem b0;rw[k1b a0] at hs;exact .inl ⟨u,_,s,b0,h3.1,a0,hs,by simpa using h4⟩
 ·rintro(⟨u,th,s,h1,h2,h3,h4,rfl⟩|⟨th,s,_,h2,_⟩)
  ·have hm:=((hp.thread h3).steps s h4).mod;unfold F1a at hm;refine⟨s.module_.toNat,⟨by omega,?_⟩,by simp;omega⟩;unfold h4d;refine List.any_eq_true.2 ⟨u,List.mem_range.2 h1,?_⟩;simp only[Bool.and_eq_true,decide_eq_true_eq];refine⟨h2,List.any_eq_true.2 ⟨s,by rw[k1b h3];exact h4,?_⟩⟩;simp;omega
  ·simp at h2
theorem V9b(p:m0a)(t:Nat):(C1a p t).Pairwise (·<·):=by
 unfold C1a;rw[List.pairwise_map];exact(List.pairwise_lt_range.sublist List.filter_sublist).imp fun h=>Int.ofNat_lt.2 h
theorem X4b{p:m0a}(hp:W0a p){t:Nat}{l acc:List Int}(hl:∀x,x∈l↔O8a p t p.threads.length 0 x)(hn:l.Nodup)(a0:acc.Perm l):O3a acc=C1a p t:=by
 have hs:(O3a acc).Perm acc:=List.mergeSort_perm acc _;refine J4a _ _ ?_ (V9b p t) fun x=>?_
 ·have h1:(O3a acc).Pairwise fun x y=>decide (x≤y)=true:=List.pairwise_mergeSort (fun a b c h1 h2=>by simp at *;omega) (fun a b=>by simp;omega) acc;have h2:(O3a acc).Nodup:=(hs.trans a0).nodup_iff.2 hn;exact(h1.and h2).imp fun⟨h3,h4⟩=>by simp at h3;omega
 ·rw[X4a hp,←hl];exact(hs.trans a0).mem_iff
theorem a7a(p:m0a)(M:List Nat)(w0:World)(cs:LV)(hI:InP p M w0 cs):
 A0a prog 52 #[.agg cs.toArray] w0 fun v w'=>v=.bool true∧Bw w0 w':=by
 obtain⟨_,_,_,_,_,_,_,_,_,_,_,_,rfl,_⟩:=hI.rd.open_;have S:=St.refl w0;refine a0a func52 Z ntmps52 Z ?_;refine wO1 Z (o0a S Z ?_);intro g1 w1 S1 X1 G1;refine lO S1.k [.w 0] Z ⟨⟨Z,by rfl⟩,U⟩ (r0a S1 P2c Z Z (t2c p M _ _ (hI.keep (S1.keep0 M)).rd hI.ok (hI.keep (S1.keep0 M)).msk (hI.keep (S1.keep0 M)).lt) ?_);intro w8 S8 X8;refine lB1 Z (fun a0=>?_) (fun a0=>by exfalso;omega);exact lU Z Z ⟨Z,S8.fin⟩
theorem Q3d(a b:Int)(h:Value.int .i64 a=.int .i64 b):a=b:=by injection h
theorem N2c(p:m0a)(t:Nat)(ht:t<1000)(M:List Nat)(w0:World)(cs:LV)(hI:InP p M w0 cs):
 A0a prog 58 #[.agg cs.toArray,.int .i64 t] w0 fun v w'=>d5a 3 w0 w' v (C1a p t)∧Bw w0 w':=by
 obtain⟨Ac,nc,cc,Am,nm,cm,Al,nl,cl,At,nt,ct,rfl,_,_,_,C1,_⟩:=hI.rd.open_;have S:=(St.refl w0).nilEnt 3;have hM:=hI.lt;have hp:=hI.ok;have n2:=hp.nthreads;refine a0a func58 Z ntmps58 Z ?_;refine wO1 Z (o0a S Z ?_);intro g2 w2 S2 X2 G2;refine lO1 Z (T4a (k:=3) S2 Z ?_);intro n0 j2 f1 Y1 V1 C0;have P0:w0.heap.size≤n0:=by have:=S2.size;omega
 have Ms:=U1b.mk_ (enc:=Value.int .i64) C0;refine lC f1.k [.o 0] Z ⟨Z,U⟩ (wL (fun μk D ε w=>D=[]∧∃k:Nat,∃l:List Int,(k+μk=(p.threads.length))∧(U1b (Value.int .i64) w n0 l)∧(∀x,x∈l↔O8a p t k 0 x)∧(l.Nodup)∧(∀x∈l,i64 x)∧(l.length≤k*64)∧St [] w0 w [(some g2,27,pL Ac nc cc Am nm cm Al nl cl At nt ct),(none,3,[])]∧Sl ε [(1,.int .i64 t),(5,.map (some n0)),(14,.slice At nt ct),(15,.int .i64 nt),(16,.int .i64 k)]) (μ:=(p.threads.length)) ⟨Z,0,[],by omega,Ms,fun x=>⟨fun h=>(by cases h),fun h=>absurd h O8a.zero⟩,List.nodup_nil,(by simp),by simp,f1,Z⟩ ?_);rintro μk D ε w ⟨rfl,k,l,_,Ms,hl,hn,T0,F1,S,eZ⟩;refine wK eZ (wB1 Z (fun z1=>?_) fun z1=>?_)
 ·obtain⟨th,w1,K1,_,b0,K0,_,Q0,N0,W0⟩:=RdS.get (C1) (k) (by omega);obtain⟨y0,a1,H0,A0,c1,J0,p0,m0,t0,z0,b1,I0,rfl,_,_,_,u0,_⟩:=Z0a.open_ W0;have e2:=(hp.thread b0).nsteps;refine lO (S.k.a N0) [.x w1 K1,.v 0] Z ⟨⟨Z,Q0⟩,⟨K0,by omega⟩,U⟩ (g0a S M1b Z Z ?_);intro g7 w7 S7 X7 G7;replace Ms:=Ms.keep X7 (List.not_mem_nil);refine lO1 Z (d0a (kk:=0) (vs:=[_,_,_,_,_,_,_]) S7 I1b Z Z Z Z Z Z Z ?_);intro Q1 a0 F0;dsimp only[e0a,List.set] at a0;replace Ms:=Ms.keep F0 (fun hh=>by rw[List.mem_singleton] at hh;exact Ms.ne (S7.blk 0 Z) hh);refine lB1 Z (fun A1=>?_) fun A1=>?_
  ·refine lP1 Z ⟨μk-1,by omega,Z,k+1,?_,by omega,?_,?_,?_,?_,?_,a0.tail,Z⟩;exact l
   ·exact Ms
   ·intro x;rw[hl,O8a.skip (by omega)]
   ·exact hn
   ·exact T0
   ·omega
  refine lC a0.k [.o 0] Z ⟨Z,U⟩ (wL (fun μj D ε w=>D=[]∧∃j:Nat,∃l2:List Int,(j+μj=(th.steps.length))∧(U1b (Value.int .i64) w n0 l2)∧(∀x,x∈l2↔O8a p t k j x)∧(l2.Nodup)∧(∀x∈l2,i64 x)∧(l2.length≤k*64+j)∧St [] w0 w [(some g7,64,[.string th.name,.int .i64 th.points,.slice y0 a1 H0,.slice A0 c1 J0,.slice p0 m0 t0,.slice z0 b1 I0,.bool th.asleep]),(some g2,27,pL Ac nc cc Am nm cm Al nl cl At nt ct),(none,3,[])]∧Sl ε [(1,.int .i64 t),(5,.map (some n0)),(14,.slice At nt ct),(15,.int .i64 nt),(16,.int .i64 k),(25,.slice p0 m0 t0),(26,.int .i64 m0),(27,.int .i64 j)]) (μ:=(th.steps.length)) ⟨Z,0,l,by omega,Ms,hl,hn,T0,F1,a0,Z⟩ ?_);rintro μj D ε w ⟨rfl,j,l2,_,d0,i1,j1,i0,_,S,eZ⟩;refine wK eZ (wB1 Z (fun B1=>?_) fun B1=>?_)
  ·obtain⟨s,x1,M1,_,Y0,L0,_,R0,O0,X0⟩:=RdS.get (u0) (j) (by omega);obtain⟨_,_,_,_,_,_,rfl,⟨_,_,_,_,Z0⟩,_⟩:=n2a.open_ X0;have H1:=((hp.thread b0).steps s (c0a Y0)).mod;have f2:s∈th.steps:=c0a Y0;have n1:=Z0;refine lO (S.k.a O0) [.x x1 M1,.v 0] Z ⟨⟨Z,R0⟩,⟨L0,by omega⟩,U⟩ (g0a S Y0d Z Z ?_);intro g9 w9 S9 X9 G9;replace d0:=d0.keep X9 (List.not_mem_nil);refine d0a (kk:=0) (vs:=[_,_,_,_,_,_,_,_,_,_,_]) S9 t1d Z Z Z Z Z Z Z ?_;intro R1 f0 G0;dsimp only[e0a,List.set] at f0;replace d0:=d0.keep G0 (fun hh=>by rw[List.mem_singleton] at hh;exact d0.ne (S9.blk 0 Z) hh);refine lO f0.k [.o 0] Z ⟨Z,U⟩ (e1c (k:=3) f0 (Go.Maps.int_keyed Tryz.underlying3) Tryz.underlying163 Q3d (fun a ha=>⟨_,h8b (i0 a ha)⟩) ⟨_,h8b n1⟩ d0 Z Z Z (.inl P0) ?_);intro T1 E0 v1 p1;refine lP1 Z ⟨μj-1,by omega,Z,j+1,_,by omega,(p1),?_,(a2b j1),?_,?_,E0.tail,Z⟩
   ·intro x;rw[g0b,i1,O8a.step b0 Y0]
   ·intro x hx;rcases g0b.1 hx with h|h;exact i0 x h;subst h;exact n1
   ·exact Nat.le_trans r8b (by omega)
  refine lP1 Z ⟨μk-1,by omega,Z,k+1,?_,by omega,?_,?_,?_,?_,?_,S.tail,Z⟩;exact l2
  ·exact d0
  ·intro x;rw[i1,O8a.next b0 (by omega),show j=th.steps.length by omega]
  ·exact j1
  ·exact i0
  ·omega
 refine lOn 8 S.k [] Z U (B0a Z ?_);refine lO1 Z (W8b S Tryz.underlying163 Ms Z Z ?_);intro d1 m2 r1 Z1 o1 It;have V0:w0.heap.size≤d1:=Nat.le_trans S.size o1;refine lC1 Z (wL (fun μ D ε w=>D=[]∧∃G:Option Nat,∃s0:LV,∃v:Value,∃acc:List Int,∃c0:List Int,∃cur:Option Int,(c0.length=μ)∧(t8a (Value.int .i64) w n0 d1 c0 cur)∧((acc++c0).Perm l)∧(T1a u3d 1 [] w0 G s0 v acc)∧St [] w0 w [(some g2,27,pL Ac nc cc Am nm cm Al nl cl At nt ct),(G,3,s0)]∧Sl ε [(10,v),(37,.pointer (some ⟨d1,0,none⟩))]) (μ:=l.length) ⟨Z,none,[],.slice none 0 0,[],l,none,Z,It,List.Perm.refl _,T1a.nil,r1,Z⟩ ?_);rintro μ D ε w ⟨rfl,G,s0,v,acc,c0,cur,_,It,o0,v0,S,eZ⟩;refine wK eZ (wO1 Z ?_);refine P3c S It (.inl V0) Z Z (fun hz=>?_) (fun a x0 h2 O1 U0 D0 a2 q0=>?_)
 ·have hs:=X4b hp (t:=t) (l:=l) (acc:=acc) (fun x=>by rw[hl];rw[show k=p.threads.length by omega]) hn (by rw[hz,List.append_nil] at o0;exact o0);have J1:=v0.toV;have I1:=o0.length_eq;rw[List.length_append] at I1;have m1:(O3a acc).length=acc.length:=by simp[O3a]
  refine lOn 9 S.k [] Z U ?_;rcases J1 with⟨d2,⟨rfl,rfl,S0⟩|⟨g9,r0,rfl,rfl,q1,q2,q3,q4⟩⟩;all_goals refine J0a Z ?_
  ·refine a2a W1c Z Z (r4c _ none 0 g2 _ _ (S.blk 0 Z)) ?_;rintro N1 P1 ⟨B0,g0⟩;have e0:=S.changed1 0 Z B0 g0;refine lOn 4 e0.k [] Z U (J0a Z ?_);refine B0a Z ?_;refine lR1 Z (w0a Z ?_);have ha:acc=[]:=List.length_eq_zero_iff.1 S0;rw[←hs,ha];exact⟨⟨none,[],by simpa[O3a] using S4a.nil 1,fun g hg=>by cases hg⟩,e0.fin⟩
  refine a2a W1c Z Z (z3c _ g9 _ r0 s0 acc (S.blk 1 Z) (by simpa using q4) (by omega)) ?_;rintro N1 P1 ⟨B0,g0⟩;have e0:=S.changed1 1 Z B0 g0;refine lOn 4 e0.k [] Z U (J0a Z ?_);refine B0a Z ?_;refine lR1 Z (w0a Z ?_);rw[←hs];refine⟨⟨some g9,(O3a acc).map (Value.int .i64)++s0.drop acc.length,⟨by simp,.inr ⟨g9,r0,Z,by rw[m1],by omega,q2,?_,?_⟩⟩,fun g hg=>?_⟩,e0.fin⟩
  ·rw[List.length_append,List.length_map,List.length_drop,m1];omega
  ·rw[Nat.mul_one];exact List.take_left' (by simp)
  ·cases hg;exact⟨by simpa using e0.new 1 Z,e0.blk 1 Z⟩
 refine lO1 Z ?_;have G1:=o0.length_eq;rw[List.length_append] at G1;have D1:=U0.length_eq;rw[List.length_cons] at D1;have E1:i64 a:=T0 a (o0.subset (List.mem_append_right _ (U0.symm.subset (by simp))));refine T7b q0 Z Z (fun i2=>?_);have KI:=x0a.refl G.toList O1;refine lOn 5 D0.k [] Z U (J0a Z ?_);refine lO1 Z (k0a D0 R0a (vs:=[.int .i64 _]) (cs:=[_]) Z Z Z Z Z Z ?_);intro b2 o2 g1 t1 W1;replace KI:=KI.trans (t1.of_nil);refine r1a v5a (k:=2) (M2:=[]) (e1:=a) g1 R0a Z v0 Z Z (g1.cells 0 Z) ⟨Z,E1⟩ (by omega) Z ?_;intro v45 X1 y1 p2 s1 j0 u1 U1;refine B0a Z ?_;refine lP0 Z U ⟨μ-1,by omega,Z,_,_,_,(acc++[a]),(x0),(some a),?_,?_,?_,?_,s1.tail,Z⟩
 ·omega
 ·exact q0.keepC (KI.trans u1) (D0.optBlk 1 Z)
 ·rw[List.append_assoc];exact(U0.symm.append_left acc).trans o0
 ·exact j0
theorem t0d{op unit:Int}{l:List E}(h:∀e∈l,e.w=1):(U6a op unit l).w=1:=by
 cases l with
 | nil=>rfl
 | cons e es =>
   have key:∀(es:List E) (acc:E),acc.w=1→(es.foldl (jnE op) acc).w=1:=by
    intro es
    induction es with
    | nil=>intro acc h;exact h
    | cons x xs ih=>intro acc _;exact ih _ Z
   exact key es e (h e (by simp))
theorem v7a{op unit:Int}(hu:unit=0∨unit=1)(l:List E):u3a op unit l=zE∨((u3a op unit l).wf=true∧(u3a op unit l).w=1):=by
 unfold u3a
 split
 ·rename_i h
  split
  ·right;rcases hu with rfl|rfl
   ·exact⟨by decide,Z⟩
   ·exact⟨by decide,Z⟩
  ·split
   ·rename_i hw;exact .inr ⟨hw,t0d fun e he=>(D0b (List.all_eq_true.1 h e (List.mem_filter.1 he).1)).1⟩
   ·exact .inl Z
 ·exact .inl Z
theorem R2d{e:E}(h:e.wf=true):1≤e.op∧e.op≤14:=by
 have:=I3a (I1a (J6a h)).1;omega
theorem O8b{op unit:Int}(hu:unit=0∨unit=1){l:List E}(h:(u3a op unit l).op=0):u3a op unit l=zE:=by
 rcases v7a (op:=op) hu l with h1|⟨h1,_⟩
 ·exact h1
 ·have:=R2d h1;omega
theorem L3c:h5a zE=false:=by decide
theorem B5c{p:m0a}{m:Int}(h:(c4a p m).op=0):c4a p m=zE:=O8b (.inr Z) h
def T8a(p:m0a)(t:Nat):E:=u3a 6 0 ((C1a p t).map (c4a p))
def onE(p:m0a)(t:Nat):E:=u3a 5 1 (T8a p t::(ofL p t).map (g5a p))
theorem Y2c{p:m0a}{t:Nat}(h:T8a p t=zE):onE p t=zE:=R6a (e:=zE) (by rw[h];simp) L3c
theorem C2c{p:m0a}{t:Nat}{m:Int}(hm:m∈C1a p t)(h:c4a p m=zE):T8a p t=zE:=R6a (e:=zE) (List.mem_map.2 ⟨m,hm,h⟩) L3c
theorem E7a(p:m0a)(t:Nat):(C1a p t).length≤p.modules.length:=by
 unfold C1a;rw[List.length_map];exact Nat.le_trans (List.length_filter_le _ _) (by simp)
theorem z9a{p:m0a}{t:Nat}{x:Int}(h:x∈C1a p t):0≤x∧x<p.modules.length:=by
 unfold C1a at h;obtain⟨m,hm,rfl⟩:=List.mem_map.1 h;have:=List.mem_range.1 (List.mem_filter.1 hm).1;exact⟨Int.natCast_nonneg m,Int.ofNat_lt.2 this⟩
theorem N5a(p:m0a)(m:Nat)(md:k2a)(b0:p.modules[m]?=some md)(M:List Nat)(w0:World)(cs:LV)(hI:InP p M w0 cs):
 A0a prog 16 #[.agg cs.toArray,.int .i64 m] w0 fun v w'=>(∃cs:LV,v=.agg cs.toArray∧RdE M w' (c4a p m) cs)∧Bw w0 w':=by
 obtain⟨_,_,_,_,_,_,_,_,_,_,_,_,rfl,_⟩:=hI.rd.open_;have S:=St.refl w0;have hM:=hI.lt;have n0:=t5a b0;refine a0a func16 Z ntmps16 Z ?_;refine wO1 Z (o0a S Z ?_);intro g2 w2 S2 X2 G2;refine g0a S2 X1a Z Z ?_;intro g4 w4 S4 X4 G4;refine lB1 Z (fun h6=>by exfalso;omega) fun h6=>?_;refine lB S4.k [.o 1] Z ⟨Z,U⟩ (fun g0=>by exfalso;omega) fun g0=>?_;refine lO S4.k [.w 1] Z ⟨⟨Z,Z⟩,U⟩ (r0a S4 N9a Z Z (a7a p M _ _ (hI.keep (S4.keep0 M))) ?_);intro o0 d0 j0;refine lO d0.k [.w 1] Z ⟨⟨Z,Z⟩,U⟩ (h0a d0 d7c Z Z (P4b p m md b0 (g4::M) _ _ (hI.add d0 (k:=0) Z)) ?_);rintro v22 p0 ⟨_,rfl,c0⟩ f0 m0;obtain⟨_,_,_,rfl,-⟩:=c0.open_;refine d0a (kk:=0) (vs:=[_,_,_,_]) f0 h1a Z Z Z Z Z Z Z ?_;intro i0 a0 e0;dsimp only[e0a,List.set] at a0;replace c0:=RdE.keep (e0.mono (by simp)) _ _ c0;exact lR1 Z (t0a Z D0a Z (a0.cells 0 Z) Z ⟨⟨_,Z,RdE.less (fun x hx=>List.mem_cons_of_mem _ hx) _ _ c0⟩,a0.fin⟩)
theorem P4c(p:m0a)(t:Nat)(ht:t<p.threads.length)(M:List Nat)(w0:World)(cs:LV)(hI:InP p M w0 cs):
 A0a prog 18 #[.agg cs.toArray,.int .i64 t] w0 fun v w'=>(∃cs:LV,v=.agg cs.toArray∧RdE M w' (onE p t) cs)∧Bw w0 w':=by
 obtain⟨Ac,nc,cc,Am,nm,cm,Al,nl,cl,At,nt,ct,rfl,_⟩:=hI.rd.open_;have S:=(St.refl w0).nilEnt 37;have hM:=hI.lt;have hp:=hI.ok;have n1:=hp.ncells;have n2:=hp.nthreads;have n3:=hp.nmodules;have z2:=E7a p t;have t2:(ofL p t).length≤32:=Nat.le_trans (A4a p t _) n1;refine a0a func18 Z ntmps18 Z ?_;refine wO1 Z (o0a S Z ?_);intro g2 w2 S2 X2 G2;refine g0a S2 X1a Z Z ?_;intro g4 w4 S4 X4 G4;refine lB1 Z (fun T1=>by exfalso;omega) fun T1=>?_;refine lB S4.k [.o 1] Z ⟨Z,U⟩ (fun U1=>by exfalso;omega) fun U1=>?_;refine lO S4.k [.w 1] Z ⟨⟨Z,Z⟩,U⟩ (r0a S4 N9a Z Z (a7a p M _ _ (hI.keep (S4.keep0 M))) ?_);intro H2 t0 o2;refine lOn 9 t0.k [] Z U (B0a Z ?_);refine lO t0.k [.w 1] Z ⟨⟨Z,Z⟩,U⟩ ?_;refine h0a t0 u2d Z Z (e9b (M:=g4::M) (N2c p t (by omega) M _ _ (hI.keep (t0.keep0 M))) (z8a t0 0 Z hM) (fun x hx=>by have:=z9a hx;unfold i64;omega)) ?_;rintro A2 W0 P0 Y0 p2;obtain⟨Ao,no,co,rfl⟩:=P0.form;have x2:=P0.len.1;have KS:=x0a.refl [] W0;have ZS:=Y0.size;refine lC1 Z (wL (fun μk D ε w=>D=[]∧∃k:Nat,∃G:Option Nat,∃cs2:LV,∃v:Value,(k+μk=((C1a p t).length))∧(s2b (g4::M) w G cs2 v (((C1a p t).take k).map (c4a p)))∧(∀g∈G.toList,W0.heap.size≤g∨g∈([]:List Nat))∧(x0a [] W0 w)∧St [] w0 w [(some g4,37,[.int .i64 0,.int .i64 0,.int .i64 0,.slice none 0 0]),(some g2,27,pL Ac nc cc Am nm cm Al nl cl At nt ct),(G,37,cs2)]∧Sl ε [(1,.int .i64 t),(2,.pointer (some ⟨g2,0,none⟩)),(4,.pointer (some ⟨g4,0,none⟩)),(5,v),(30,.slice Ao no co),(31,.int .i64 no),(32,.int .i64 k)]) (μ:=((C1a p t).length)) ⟨Z,0,none,[],.slice none 0 0,by omega,s2b.nil,by simp,KS,Y0,Z⟩ ?_);rintro μk D ε w ⟨rfl,k,G,cs2,v,_,x0,m1,KS,S,eZ⟩;refine wK eZ ?_;have KQ:=x0a.refl (G.toList++g4::M) w;refine wB1 Z (fun V1=>?_) fun V1=>?_
 ·obtain⟨m,N1,Y1,_,T0,I0,_,_,N0,Q0⟩:=RdS.get (P0.keep KS.of_nil) (k) (by omega);obtain⟨rfl,_⟩:=id Q0;have u2:=z9a (c0a T0);obtain⟨md,U0⟩:∃md,p.modules[m.toNat]?=some md:=⟨_,List.getElem?_eq_getElem (by omega)⟩;refine lO (S.k.b N0) [.x N1 Y1,.f 0 0,.w 1] Z ⟨⟨Z,Z⟩,Z,⟨I0,by omega⟩,U⟩ (h0a S d7c Z Z ((show((m.toNat:Nat):Int)=m by omega)▸P4b p m.toNat md U0 (G.toList++g4::M) _ _ ⟨(hI.rd.more (fun x hx=>e5a S x (q4b 2 Z (r4b 0 Z) x hx))).keep (S.keep0 _),hp,(hI.msk.more (fun x hx=>e5a S x (q4b 2 Z (r4b 0 Z) x hx))).keep (S.keep0 _),fun x hx=>Y7a S hM x (q4b 2 Z (r4b 0 Z) x hx)⟩) ?_);rintro B2 b2 ⟨_,rfl,p1⟩ y1 c1;replace KS:=KS.trans (c1.of_nil);replace KQ:=KQ.trans (c1.of_nil);obtain⟨_,_,_,rfl,-⟩:=p1.open_;have KR:=x0a.refl (G.toList++g4::M) b2;refine g0a y1 X1a Z Z ?_;intro g8 w8 S8 X8 G8;have D0:=Nat.le_trans KS.size G8;have B0:=Nat.le_trans KQ.size G8;have C0:=Nat.le_trans KR.size G8;replace KS:=KS.trans (X8.of_nil);replace KQ:=KQ.trans (X8.of_nil);replace KR:=KR.trans (X8.of_nil);refine d0a (kk:=0) (vs:=[_,_,_,_]) S8 h1a Z Z Z Z Z Z Z ?_;intro e2 e0 p0;dsimp only[e0a,List.set] at e0;replace KS:=KS.fresh2 p0 (by exact .inl D0);replace KQ:=KQ.fresh2 p0 (by exact .inl B0);replace KR:=KR.fresh2 p0 (by exact .inl C0);refine lB e0.k [.o 0] Z ⟨Z,U⟩ (fun g1=>?_) fun g1=>?_
  ·refine lO1 Z (s0a s1a (vs:=[]) (cs:=[_,_,_,_]) Z Z Z Z ?_);refine d0a (kk:=1) (vs:=[_,_,_,_]) e0 h1a Z Z Z Z Z Z Z ?_;intro f2 o0 J1;dsimp only[e0a,List.set] at o0;refine lR1 Z ?_;exact t0a Z D0a Z (o0.cells 1 Z) Z ⟨⟨_,Z,by rw[Y2c (C2c (c0a T0) (B5c g1))];exact m1a iO iO iO⟩,o0.fin⟩
  refine lOn 6 e0.k [] Z U (J0a Z ?_);refine lO e0.k [.w 0] Z ⟨⟨Z,by rfl⟩,U⟩ (k0a e0 T0a (vs:=[.agg _]) (cs:=[_,_,_,_]) Z Z Z Z Z Z ?_);intro r2 I2 Z0 F0 h2;replace KS:=KS.trans (F0.of_nil);replace KQ:=KQ.trans (F0.of_nil);replace KR:=KR.trans (F0.of_nil);have b0:=x0.keep KQ;refine r1a F3a (k:=4) (M2:=g4::M) (e1:=c4a p m) Z0 T0a Z b0 Z Z (Z0.cells 0 Z) (RdE.keep KR _ _ p1) (by simp;omega) Z ?_;intro v46 i2 Q1 J2 z1 b0 F1 v1;have K1:=KS.size;replace KS:=KS.freshL F1 m1;refine B0a Z ?_;refine lP1 Z ⟨μk-1,by omega,Z,k+1,_,_,_,by omega,?_,?_,(KS),z1.tail.tail,Z⟩
  ·rw[u0a T0,List.map_append];exact b0
  ·intro g hg;rcases v1 g hg with h|h;exact m1 g h;exact .inl (Nat.le_trans K1 h)
 refine lOn 8 S.k [] Z U (J0a Z ?_);have K0:RdL (g4::M) w v ((C1a p t).map (c4a p)):=by
  have hr:=x0;rw[List.take_of_length_le (by omega)] at hr;exact hr.rdL S (k:=2) Z (fun g hg hh=>by
   subst hg;rcases List.mem_cons.1 hh with hh|hh
   ·exact S.ne 0 2 Z Z (by omega) hh.symm
   ·exact y6a S (k:=2) Z hM hh) (by simp;omega)
 refine h0a S b2d Z Z (j2d ((C1a p t).map (c4a p)) (g4::M) _ _ K0 (z8a S 0 Z hM) ((hI.msk.more (W3a S (k:=0) Z)).keep (S.keep0 _))) ?_;rintro C2 d2 ⟨_,rfl,q1⟩ A1 G1;replace KS:=KS.trans (G1.of_nil);obtain⟨u1,X1,a2,rfl,-⟩:=q1.open_;have i0:=x0a.refl (g4::M) d2;refine g0a A1 X1a Z Z ?_;intro g9 w9 S9 X9 G9;have E0:=Nat.le_trans KS.size G9;have r0:=Nat.le_trans i0.size G9;replace KS:=KS.trans (X9.of_nil);replace i0:=i0.trans (X9.of_nil);refine d0a (kk:=0) (vs:=[_,_,_,_]) S9 h1a Z Z Z Z Z Z Z ?_;intro r1 a0 j0;dsimp only[e0a,List.set] at a0;replace KS:=KS.fresh2 j0 (by exact .inl E0);replace i0:=i0.fresh2 j0 (by exact .inl r0);refine lB a0.k [.o 0] Z ⟨Z,U⟩ (fun i1=>?_) fun i1=>?_
 ·refine lO1 Z (s0a s1a (vs:=[]) (cs:=[_,_,_,_]) Z Z Z Z ?_);refine d0a (kk:=1) (vs:=[_,_,_,_]) a0 h1a Z Z Z Z Z Z Z ?_;intro s1 f0 b1;dsimp only[e0a,List.set] at f0;refine lR1 Z ?_;exact t0a Z D0a Z (f0.cells 1 Z) Z ⟨⟨_,Z,by rw[Y2c (O8b (.inl rfl) i1)];exact m1a iO iO iO⟩,f0.fin⟩
 refine lO a0.k [.w 0] Z ⟨⟨Z,Z⟩,U⟩ (k0a a0 T0a (vs:=[.agg _]) (cs:=[_,_,_,_]) Z Z Z Z Z Z ?_);intro q0 K2 y0 d1 x1;have n0:=Nat.le_trans i0.size x1;replace KS:=KS.trans (d1.of_nil);replace i0:=i0.trans (d1.of_nil);refine B0a Z ?_;have c0:=a0b (q1.addKeep i0 n0);refine lO y0.k [.w 3] Z ⟨⟨Z,Z⟩,U⟩ ?_;refine h0a y0 M1d Z Z (e9b (M:=q0::g4::M) (J7b p t M _ _ (hI.rd.keep (y0.keep0 M)) n1 (by omega)) (fun x hx=>Y7a y0 hM x (q4b (G:=some q0) 0 Z (r4b 2 Z) x hx)) (fun x hx=>by have:=e9a.1 hx;unfold i64;omega)) ?_;rintro D2 X0 S0 B1 H1;obtain⟨As,ns,P1,rfl⟩:=S0.form;have y2:=S0.len.1;have KS:=x0a.refl [q0] X0;replace c0:=s2b.keep c0 H1.of_nil;refine lC1 Z (wL (fun μj D ε w=>D=[]∧∃j:Nat,∃G2:Option Nat,∃H0:LV,∃v2:Value,(j+μj=((ofL p t).length))∧(s2b (g4::M) w G2 H0 v2 (T8a p t::((ofL p t).take j).map (g5a p)))∧(∀g∈G2.toList,X0.heap.size≤g∨g∈[q0])∧(x0a [q0] X0 w)∧St [] w0 w [(G2,37,H0),(some g9,37,[.int .i64 (T8a p t).op,.int .i64 (T8a p t).w,.int .i64 (T8a p t).n,.slice u1 X1 a2]),(some g4,37,[.int .i64 0,.int .i64 0,.int .i64 0,.slice none 0 0]),(some g2,27,pL Ac nc cc Am nm cm Al nl cl At nt ct),(G,37,cs2)]∧Sl ε [(2,.pointer (some ⟨g2,0,none⟩)),(4,.pointer (some ⟨g4,0,none⟩)),(10,v2),(58,.slice As ns P1),(59,.int .i64 ns),(60,.int .i64 j)]) (μ:=((ofL p t).length)) ⟨Z,0,some q0,_,_,by omega,c0,by simp,KS,B1,Z⟩ ?_);rintro μj D ε w ⟨rfl,j,G2,H0,v2,_,m0,v0,KS,S,eZ⟩;refine wK eZ ?_;have s0:=x0a.refl (G2.toList++g4::M) w;refine wB1 Z (fun W1=>?_) fun W1=>?_
 ·obtain⟨c,O1,Z1,_,o1,J0,_,_,O0,R0⟩:=RdS.get (S0.keep (KS.mono (by simp))) (j) (by omega);obtain⟨rfl,V0⟩:=id R0;have j1:=e9a.1 (c0a o1);refine lOn 16 (S.k.b O0) [.x O1 Z1,.f 0 0] Z ⟨Z,⟨J0,by omega⟩,U⟩ (J0a Z ?_);refine lO S.k [.w 3] Z ⟨⟨Z,Z⟩,U⟩ (h0a S A7c Z Z (I9a p c j1.1 j1.2.1 (G2.toList++g4::M) _ _ ((hI.rd.more (fun x hx=>e5a S x (q4b 0 Z (r4b 2 Z) x hx))).keep (S.keep0 _)) (fun x hx=>Y7a S hM x (q4b 0 Z (r4b 2 Z) x hx)) V0) ?_);rintro E2 L2 ⟨_,rfl,z0⟩ C1 f1;replace KS:=KS.trans (f1.of_nil);replace s0:=s0.trans (f1.of_nil);obtain⟨_,_,_,rfl,-⟩:=z0.open_;refine k0a C1 T0a (vs:=[.agg _]) (cs:=[_,_,_,_]) Z Z Z Z Z Z ?_;intro s2 N2 a1 G0 j2;replace z0:=RdE.keep (G0.of_nil) _ _ z0;replace KS:=KS.trans (G0.of_nil);replace s0:=s0.trans (G0.of_nil);have d0:=m0.keep s0;refine r1a F3a (k:=1) (M2:=g4::M) (e1:=g5a p c) a1 T0a Z d0 Z Z (a1.cells 0 Z) z0 (by simp;omega) Z ?_;intro F2 m2 R1 O2 D1 d0 I1 w1;have M1:=KS.size;replace KS:=KS.freshL I1 v0;refine B0a Z ?_;refine lP1 Z ⟨μj-1,by omega,Z,j+1,_,_,_,by omega,?_,?_,(KS),D1.tail,Z⟩
  ·rw[u0a o1,List.map_append];exact d0
  ·intro g hg;rcases w1 g hg with h|h;exact v0 g h;exact .inl (Nat.le_trans M1 h)
 refine lOn 8 S.k [] Z U (J0a Z ?_);have L0:RdL (g4::M) w v2 (T8a p t::(ofL p t).map (g5a p)):=by
  have hr:=m0;rw[List.take_of_length_le (by omega)] at hr;exact hr.rdL S (k:=0) Z (fun g hg hh=>by
   subst hg;rcases List.mem_cons.1 hh with hh|hh
   ·exact S.ne 0 2 Z Z (by omega) hh
   ·exact y6a S (k:=0) Z hM hh) (by simp;omega)
 refine h0a S K6c Z Z (x3c (T8a p t::(ofL p t).map (g5a p)) (g4::M) _ _ L0 (z8a S 2 Z hM) ((hI.msk.more (W3a S (k:=2) Z)).keep (S.keep0 _))) ?_;rintro v72 P2 ⟨_,rfl,A0⟩ E1 q2;obtain⟨_,_,_,rfl,-⟩:=A0.open_;refine d0a (kk:=2) (vs:=[_,_,_,_]) E1 h1a Z Z Z Z Z Z Z ?_;intro t1 g0 u0;dsimp only[e0a,List.set] at g0;replace A0:=RdE.keep (u0.mono (by simp)) _ _ A0;exact lR1 Z (t0a Z D0a Z (g0.cells 2 Z) Z ⟨⟨_,Z,RdE.less (fun x hx=>List.mem_cons_of_mem _ hx) _ _ A0⟩,g0.fin⟩)
theorem u1d{w w':World}(h:Below w.heap.size w w')(hd:w.drawn≤w'.drawn):∃q os,w'=grow (w.drewN q) os:=by
 refine⟨w'.drawn-w.drawn,w'.heap.extract w.heap.size w'.heap.size,?_⟩;obtain⟨h1,h2,h3,_,h5⟩:=h;cases w;cases w';simp only[grow,World.drewN] at *;subst h1 h2 h3
 congr 1
 ·apply Array.ext_getElem?;intro i;rw[Array.getElem?_append]
  split
  ·rename_i h;exact h5 i h
  ·rename_i h;rw[Array.getElem?_extract]
   split
   ·congr 1;omega
   ·rw[Array.getElem?_eq_none (by omega)]
 ·omega
section
variable {d:Nat} {t:TypeId} {p:String} {af:Array Edge} {x y:Operand}
theorem x7c{el:TypeId}{x:Operand}{cs:LV}(S:St M w0 w L)(hd:Nat.ble (d+1) N=true)
 (h:∀g w1,St M w0 w1 ((some g,el,cs)::L)→x0a [] w w1→w1.drawn=w.drawn→WL P r N ops rest K D (upd e d (.pointer (some ⟨g,0,none⟩))) w1) (hv:ev e x=.agg cs.toArray:=by conv=>lhs;whnf) :
 WL P r N ops (⟨some d,.box el x,t,p,af,none⟩::rest) K D e w:=by
 refine U0a (v:=.pointer (some ⟨w.heap.size,0,none⟩)) (w':=w.alloc (.cells cs.toArray el)) Z Z hd ?_ (h _ _ (S.alloc el cs) (G1a _ _ _) Z);simp[execOp,Instr.box,newVar,newRow,hv,Value.cells]
theorem u3b{ty el size b0 n:Nat}{z:Value}{a0:Array (Nat×Operand)}{vs:LV}{cs:LV}(S:St M w0 w L)(hS:SlZ P ty el size z b0)
 (e0:a0.toList.map (fun q=>(q.1,ev e q.2))=(vs.zipIdx 0).map fun q=>(q.2,q.1)) (hn:vs.length=n) (h0:Nat.ble 1 n=true) (hbig:Nat.ble (n*size) 16777216=true) (hv:vs.map (·.cells.size)=List.replicate n size)
 (d0:vs.flatMap (·.cells.toList)=cs) (hd:Nat.ble (d+1) N=true)
 (h:∀g w1,St M w0 w1 ((some g,el,cs)::L)→x0a [] w w1→w1.drawn=w.drawn→WL P r N ops rest K D (upd e d (.slice (some ⟨g,0,none⟩) n n)) w1) :
 WL P r N ops (⟨some d,.buildSlice ty n a0,t,p,af,none⟩::rest) K D e w:=by
 have hp:(a0.map fun(i,x)=>(i,ev e x))=((vs.zipIdx 0).map fun q=>(q.2,q.1)).toArray:=by rw[←e0];apply Array.ext';simp
 have hv':∀v∈vs,v.cells.size=size:=fun v hm=>by
  have:v.cells.size∈vs.map (·.cells.size):=List.mem_map.2 ⟨v,hm,Z⟩;rw[hv] at this;exact(List.mem_replicate.1 this).2
 have c0:=s5a hS hn (Nat.le_of_ble_eq_true h0) (Nat.le_of_ble_eq_true hbig) hv' w;subst d0;refine U0a (v:=.slice (some ⟨w.heap.size,0,none⟩) n n) (w':=w.alloc (.cells (vs.flatMap (·.cells.toList)).toArray el)) Z Z hd ?_ (h _ _ (S.alloc el _) (G1a _ _ _) Z);simp only[execOp,hp,Sem.run_bind,c0,Result.andThen_ok,Sem.run_pure]
end
def p7c(a b:Int×Int):Int:=if Lib.compareInt a.1 b.1=0 then Lib.compareInt a.2 b.2 else Lib.compareInt a.1 b.1
def pc(a:Int×Int):LV:=[.int .i64 a.1,.int .i64 a.2]
def pcs(l:List (Int×Int)):LV:=(l.map pc).flatten
theorem O7a(l:List (Int×Int)):(pcs l).length=l.length*2:=by
 unfold pcs;rw[M4a (size:=2) _ (fun x hx=>by obtain⟨a,_,rfl⟩:=List.mem_map.1 hx;rfl)];simp
theorem w1c{l:List (Int×Int)}{i:Nat}{a:Int×Int}(h:l[i]?=some a)(j:Nat)(u:Value)(hj:(pc a)[j]?=some u):(pcs l)[i*2+j]?=some u :=
 M3c (size:=2) (l.map pc) i (pc a) (fun x hx=>by obtain⟨a,_,rfl⟩:=List.mem_map.1 hx;rfl) (by simp[h]) j u hj
theorem p8b(l:List (Int×Int)):flatK pc 2 l.toArray=(pcs l).toArray:=by
 apply Array.ext
 ·simp[O7a]
 ·intro t h1 h2;simp only[size_flatK,List.size_toArray] at h1;have hi:t / 2<l.length:=by omega
  have hp:=w1c (l:=l) (i:=t / 2) (List.getElem?_eq_getElem hi) (t % 2) ((pc l[t / 2])[t % 2]'(by simp[pc];omega)) (List.getElem?_eq_getElem _);rw[show t / 2*2+t % 2=t by omega] at hp;have hq:=(List.getElem?_eq_some_iff.1 hp).2;simp only[List.getElem_toArray];rw[hq];simp[flatK,hi,pc];rw[List.getElem?_eq_getElem (by simp;omega)];rfl
theorem J8a(a b:Int):Lib.compareInt a b=if a<b then -1 else if b<a then 1 else 0:=by unfold Lib.compareInt;rfl
theorem B9c(a b:Int×Int):p7c a b<0↔a.1<b.1∨a.1=b.1∧a.2<b.2:=by
 unfold p7c;rw[J8a,J8a]
 split<;>split<;>omega
def lt2(a b:Int×Int):Prop:=a.1<b.1∨a.1=b.1∧a.2<b.2
instance (a b:Int×Int):Decidable (lt2 a b):=by unfold lt2;infer_instance
def G6a(l:List (Int×Int)):List (Int×Int):=l.mergeSort fun a b=>!decide (lt2 b a)
theorem D6a(a b:Int×Int):Go.Proofs.ltOf p7c a b=decide (lt2 a b):=by
 unfold Go.Proofs.ltOf;exact decide_eq_decide.2 (B9c a b)
theorem v5d:Go.Sort.SWO (Go.Proofs.ltOf p7c) where
 irrefl a:=by rw[D6a];simp[lt2]
 trans a b c h1 h2:=by
  rw[D6a] at *;have h3:=of_decide_eq_true h1;have h4:=of_decide_eq_true h2;unfold lt2 at h3 h4;exact decide_eq_true (by unfold lt2;omega)
 ntrans a b c h1 h2:=by
  rw[D6a] at *;have h3:=of_decide_eq_false h1;have h4:=of_decide_eq_false h2;unfold lt2 at h3 h4;exact decide_eq_false (by unfold lt2;omega)
theorem c6b{a b:Int×Int}(h1:¬lt2 a b)(h2:¬lt2 b a):a=b:=by
 unfold lt2 at h1 h2;exact Prod.ext (by omega) (by omega)
theorem B4c(g:Nat)(a b:Int)(w0:World)(ha:w0.cell? ⟨g,0,none⟩=some (.int .i64 a))(hb:w0.cell? ⟨g,1,none⟩=some (.int .i64 b)):
 A0a prog 157 #[.slice (some ⟨g,0,none⟩) 2 2] w0 fun v w'=>v=.int .i64 (if a=0 then b else a)∧w'=w0:=by
 have S:=St.refl w0;have c0:∀k:Nat,k<2→w0.cell? ⟨g,0+k*1,none⟩=some (.int .i64 (if k=0 then a else b)):=fun k hk=>by
  rcases(show k=0∨k=1 by omega) with rfl|rfl
  ·exact ha
  ·exact hb
 refine a0a func157 Z ntmps157 Z ?_;refine wC1 Z (wL (fun μk D ε w=>D=[]∧∃k:Nat,(k+μk=(2))∧(w=w0)∧(0<k→a=0)∧(1<k→b=0)∧St [] w0 w []∧Sl ε [(3,.int .i64 0),(6,.slice (some ⟨g,0,none⟩) 2 2),(7,.int .i64 2),(8,.int .i64 k)]) (μ:=(2)) ⟨Z,0,by omega,Z,(fun h=>absurd h (by omega)),(fun h=>absurd h (by omega)),S,Z⟩ ?_);rintro μk D ε w ⟨rfl,k,hk,hw,hz,d0,S,eZ⟩;refine wK eZ (wB1 Z (fun h9=>?_) fun h9=>?_)
 ·have a0:=c0 k (by omega);rw[←hw] at a0;refine lO S.k [.i] Z ⟨by omega,U⟩ (G0a E0a Z (by exact a0) Z ?_);refine lB1 Z (fun b0=>?_) fun b0=>?_
  ·refine lU Z Z ⟨congrArg (Value.int .i64) ?_,hw⟩;by_cases h0:k=0
   ·rw[if_pos h0] at b0 ⊢;rw[if_neg b0];done
   ·rw[if_neg h0];rw[if_pos (hz (by omega))];done
  refine lP1 Z ⟨μk-1,by omega,Z,k+1,by omega,(hw),?_,?_,S,Z⟩
  ·intro _;by_cases h0:k=0
   ·rw[if_pos h0] at b0;exact b0
   ·exact hz (by omega)
  ·intro h1;rw[if_neg (show ¬k=0 by omega)] at b0;exact b0
 refine lU Z Z ⟨congrArg (Value.int .i64) ?_,hw⟩;by_cases h0:k=0
 ·exfalso;omega
 ·rw[if_pos (hz (by omega)),d0 (by omega)];done
theorem e0c(x y:Int×Int)(w0:World):
 A0a prog 102 #[.agg (pc x).toArray,.agg (pc y).toArray] w0 fun v w'=>v=.int .i64 (p7c x y)∧Below w0.heap.size w0 w'∧w0.drawn≤w'.drawn:=by
 have S:=St.refl w0;refine a0a func102 Z ntmps102 Z ?_;refine wO1 Z (x7c S Z ?_);intro g2 w2 S2 X2 D2;refine x7c S2 Z ?_;intro g3 w3 S3 X3 D3;refine lC1 Z ?_;have b0:∀(a b:Int) (w:World),(Cl [] w0 w3 [(some g3,72,pc y),(some g2,72,pc x)] w∧w0.drawn≤w.drawn)→A0a prog 158 #[.int .i64 a,.int .i64 b] w fun v' w'=>v'=.int .i64 (Lib.compareInt a b)∧(Cl [] w0 w3 [(some g3,72,pc y),(some g2,72,pc x)] w'∧w0.drawn≤w'.drawn)∧x0a [] w w':=fun a b w hw =>
  Calls.mono (Tryz.cmp_Compare_int a b w) fun e w' ⟨h1,h2⟩=>⟨_,h1,Z,by rw[h2];exact hw,by rw[h2];exact x0a.refl _ _⟩
 refine y0a b0a [0,1,2,3,4,5,6,7,8,9] [] [10,11,12] Z (fun w=>Cl [] w0 w3 [(some g3,72,pc y),(some g2,72,pc x)] w∧w0.drawn≤w.drawn) ⟨Cl.start S3,by show w0.drawn≤w3.drawn+1;omega⟩ ?_;refine v0a S1a Z Z Z ?_;refine j0a E0a Z (fun w1 hw=>hw.1.1.cell 1 Z Z) Z ?_;refine v0a S1a Z Z Z ?_;refine j0a E0a Z (fun w1 hw=>hw.1.1.cell 0 Z Z) Z ?_;refine B1c P0c Z Z (b0 _ _) ?_;refine v0a S1a Z Z Z ?_;refine j0a E0a Z (fun w1 hw=>hw.1.1.cell 1 Z Z) Z ?_;refine v0a S1a Z Z Z ?_;refine j0a E0a Z (fun w1 hw=>hw.1.1.cell 0 Z Z) Z ?_;refine B1c P0c Z Z (b0 _ _) ?_;refine qN1 Z (h4a ?_);refine O1a ?_;rintro w4 ⟨⟨S4,_⟩,_⟩;refine u3b S4 R0a (vs:=[.int .i64 _,.int .i64 _]) (cs:=[_,_]) (by rfl) Z Z Z Z Z Z ?_;intro c0 d0 a0 f0 e0;refine a2a v8c Z Z (B4c c0 _ _ d0 (a0.cell 0 Z Z) (a0.cell 0 Z Z)) ?_;rintro g0 i0 ⟨rfl,rfl⟩;refine lR1 Z (w0a (hv:=(Z:_=Value.int .i64 (p7c x y))) Z ⟨Z,a0.fin,by omega⟩)
open Go.Sort in
theorem n3c{w:World}{g el:Nat}{cs d:LV}(hb:p0a w (g,el,cs))(hd:d.length≤cs.length):
 p0a (putRow id w g 0 d.toArray) (g,el,d++cs.drop d.length):=by
 have hb':w.heap[g]?=some (.cells cs.toArray el (0,0)):=hb;unfold p0a putRow mapBlock;simp only[Array.getElem?_modify,if_true,hb',Option.map_some,onCells]
 congr 2
 apply Array.ext
 ·simp[putCells];omega
 ·intro i h1 h2;simp only[putCells,Array.size_mapIdx,List.size_toArray] at h1;simp only[putCells,Array.getElem_mapIdx,List.getElem_toArray,Nat.zero_le,true_and,Nat.zero_add,List.size_toArray,Nat.sub_zero];by_cases hi:i<d.length
  ·rw[if_pos hi,List.getElem_append_left (by simpa using hi)];simp[hi]
  ·rw[if_neg hi,List.getElem_append_right (by simpa using hi)];simp
   congr 1
   omega
open Go.Sort in
theorem L1b{w:World}{g q:Nat}{d:LV}(os:Array Obj):H0a [g] w (grow (putRow id (Sort.ahead w q) g 0 d.toArray) os):=by
 refine⟨Z,Z,Z,?_,fun i hi hm=>?_⟩
 ·simp[grow,putRow,mapBlock,Sort.ahead]
 ·have hne:¬g=i:=fun h=>hm (by simp[h]);simp only[grow,putRow,mapBlock,Sort.ahead];rw[Array.getElem?_append_left (by simpa using hi),Array.getElem?_modify,if_neg hne]
open Go.Sort in
theorem r6c(w:World)(g el cap:Nat)(cs:LV)(l:List (Int×Int))(hb:p0a w (g,el,cs))(hc:cs.take (l.length*2)=pcs l)(hl:l.length*2≤cs.length)(hz:l.length≤1000000):
 A0a prog 101 #[.slice (some ⟨g,0,none⟩) l.length cap,.func (.func 102) #[] #[]] w fun _ w'=>H0a [g] w w'∧p0a w' (g,el,pcs (G6a l)++cs.drop (l.length*2)):=by
 have hH:HoldsK pc 2 w g 0 l.toArray:=by
  unfold HoldsK;rw[p8b];intro j hj;have hj':j<(pcs l).length:=by simpa using hj
  refine⟨?_,hb.frozen _⟩;rw[Nat.zero_add];refine hb.cell ?_;have h1:(cs.take (l.length*2))[j]?=some (pcs l)[j]:=by rw[hc];simp[hj']
  rw[O7a] at hj';rw[List.getElem?_take,if_pos hj'] at h1;rw[h1];simp[O7a,hj']
 have h:=Tryz.slices_SortFunc_total 2 Tryz.isAgg72 Tryz.sizeOf72 pc (fun _=>rfl) (fun x v hv=>by simp[pc] at hv;rcases hv with rfl|rfl<;>rfl) p7c v5d 102 #[] g 0 cap l.toArray w (fun args w=>Z7c args w)
  (fun m os dk _ x y=>Calls.mono (e0c x y _) fun e w' ⟨v,he,hv,h1,h2⟩=>⟨by rw[he,hv],u1d h1 h2⟩) hH hb.lt (by simp;omega)
  (fun x y h1 h2=>by rw[D6a] at h1 h2;exact c6b (of_decide_eq_false h1) (of_decide_eq_false h2))
 refine Calls.mono h ?_;rintro e w' ⟨rfl,n,os,rfl⟩;have hs:(l.toArray.toList.mergeSort fun x y=>!(Go.Proofs.ltOf p7c) y x)=G6a l:=by
  unfold G6a;simp only[D6a]
 have hlen:(pcs (G6a l)).length=l.length*2:=by rw[O7a];simp[G6a]
 rw[hs];unfold sortWorldK putRowK;rw[p8b];refine⟨_,Z,L1b os,?_⟩;have hb2:p0a (Sort.ahead w n) (g,el,cs):=hb;have:=n3c (d:=pcs (G6a l)) hb2 (by omega);rw[hlen] at this;unfold p0a at this ⊢;rw[heap_grow_old _ os (by simpa[putRow,mapBlock,Sort.ahead] using hb.lt)];exact this
theorem D1c(w:World)(A:Option Addr)(a0:Nat):A0a prog 101 #[.slice A 0 a0,.func (.func 102) #[] #[]] w fun _ w'=>w'=w:=by
 refine Calls.mono (Tryz.slices_SortFunc_none (α:=Int×Int) A a0 _ w) ?_;rintro e w' ⟨rfl,rfl⟩;exact⟨_,Z,Z⟩
section
variable {d:Nat} {t:TypeId} {p:String} {af:Array Edge} {x y:Operand} {xt yt:TypeId}
def Eq2(P:Program)(ty:TypeId):Prop:=P.eqGuardType P.depth ty=false∧∀(w:World) (a b a' b':Int),
 (binOp .eql ty (.agg #[.int .i64 a,.int .i64 b]) (.agg #[.int .i64 a',.int .i64 b'])).run P w=.ok (.bool (decide (a=a'∧b=b'))) w
theorem n2d{ty:TypeId}{a b:Int×Int}(hE:Eq2 P ty)(hx:ev e x=.agg (pc a).toArray)(hy:ev e y=.agg (pc b).toArray)(hd:Nat.ble (d+1) N=true)(h:WL P r N ops rest K D (upd e d (.bool (decide (a=b)))) w):
 WL P r N ops (⟨some d,.binOp .eql ty x y yt,t,p,af,none⟩::rest) K D e w:=by
 have a0:ev e x=.agg #[.int .i64 a.1,.int .i64 a.2]:=hx;have b0:ev e y=.agg #[.int .i64 b.1,.int .i64 b.2]:=hy;refine U0a Z Z hd ?_ h;simp only[execOp,a0,b0,Sem.run_bind,run_eqGuard_agg w _ _ _ _ _ _ hE.1,Result.andThen_ok,hE.2,Sem.run_pure]
 congr 3
 exact decide_eq_decide.2 (Prod.ext_iff.symm)
theorem X9a(zc:Array Value)(n:Nat)(h0:0<zc.size):(Builtin.zeroCells zc n).size=n*zc.size∧∀v∈(Builtin.zeroCells zc n).toList,v∈zc.toList:=by
 unfold Builtin.zeroCells;refine⟨by simp,fun v hv=>?_⟩;simp only[Array.toList_map,Array.toList_range,List.mem_map,List.mem_range] at hv;obtain⟨i,_,rfl⟩:=hv;have hi:i % zc.size<zc.size:=Nat.mod_lt _ h0;rw[getElem!_pos zc _ hi];exact Array.getElem_mem_toList hi
theorem W5c{ty el size a0 g o c tb kk n:Nat}{z:Value}{cs:LV}(S:St M w0 w L)(hS:SlZ P ty el size z a0)(hx:ev e x=.slice (some ⟨g,o,none⟩) n c)(hk:L[kk]?=some (some g,tb,cs))(c0:z.cells.size=size)(h0:0<size)(hn:0<n)(ho:o+n*size≤cs.length)(h1:∀v∈z.cells.toList,u9c v=true)
 (h:∀w1 us,us.length=n*size→St M w0 w1 (L.set kk (some g,tb,e0a cs o us))→x0a [g] w w1→WL P r N ops rest K D e w1) :
 WL P r N ops (⟨none,.call { callee:=.builtin .clear,args:=#[x],argTypes:=#[ty] },t,p,af,none⟩::rest) K D e w:=by
 obtain⟨_,hi,hz,_⟩:=hS.parts;obtain⟨z1,z2⟩:=X9a z.cells n (by omega);have b0:(Builtin.zeroCells z.cells n).toList.length=n*size:=by rw[Array.length_toList,z1,c0]
 obtain⟨w1,h2,h3,h4⟩:=St.setN (P:=P) (o:=o) (Builtin.zeroCells z.cells n).toList 0 cs w L hk S (by simp only[Nat.add_zero];omega) (fun v hv=>h1 v (z2 v hv));have d0:∀w,(zeroValue el).run P w=.ok z w:=fun w=>by simp[zeroValue,typeInfo,hi,hz]
 refine Z8c (v:=.tuple #[]) Z Z (by simp) ?_ (h w1 _ b0 h3 h4);obtain⟨m,rfl⟩:∃m,n=m+1:=⟨n-1,by omega⟩;simp[execOp,resolve,invoke,builtin,Builtin.clear_,hx,run_underlying hS.und,d0,h2]
end
section
variable {α:Type} [DecidableEq α]
def M6a(l:List α)(k:Nat):List α:=((List.range k).filter fun j=>decide (j=0∨l[j]?≠l[j-1]?)).filterMap (l[·]?)
theorem u6a{l:List α}{k:Nat}{a:α}(h:l[k]?=some a):M6a l (k+1)=if k=0∨l[k]?≠l[k-1]? then M6a l k++[a] else M6a l k:=by
 unfold M6a;rw[List.range_succ,List.filter_append,List.filterMap_append];by_cases hc:k=0∨l[k]?≠l[k-1]?
 ·rw[if_pos hc,List.filter_cons_of_pos (by simpa using hc)];simp[h]
 ·rw[if_neg hc,List.filter_cons_of_neg (by simpa using hc)];simp
theorem H8b(l:List α)(k:Nat):(M6a l k).length≤k:=by
 unfold M6a;refine Nat.le_trans (List.length_filterMap_le _ _) (Nat.le_trans (List.length_filter_le _ _) (by simp))
theorem k0b{l:List α}:∀{k:Nat},k≤l.length→(∀j,0<j→j<k→l[j]?≠l[j-1]?)→M6a l k=l.take k
 | 0,_,_=>by simp[M6a]
 | k+1,hk,h=>by
   have hx:l[k]?=some l[k]:=List.getElem?_eq_getElem (by omega);rw[u6a hx,if_pos,k0b (by omega) (fun j h0 h1=>h j h0 (by omega)),u0a hx];rcases Nat.eq_zero_or_pos k with h0|h0
   ·exact .inl h0
   ·exact .inr (h k h0 (by omega))
end
theorem O8c(w:World)(a b a' b':Int):(binOp .eql 72 (.agg #[.int .i64 a,.int .i64 b]) (.agg #[.int .i64 a',.int .i64 b'])).run prog w=.ok (.bool (decide (a=a'∧b=b'))) w:=by
 have a0:∀w,(isAgg 3).run prog w=.ok false w:=fun w=>by simp[isAgg,run_underlying Tryz.underlying3]
 rw[run_eql_struct];unfold Op.equalIn;simp[run_underlying Tryz.underlying72,Tryz.sizeOf3];rw[show List.range' 0 2=[0,1] from rfl];by_cases h1:a=a'<;>by_cases h2:b=b'<;>simp[List.forIn_cons,part,a0,run_equalIn_int _ 9998 _ .i64 .i64 _ _ Tryz.underlying3,h1,h2]
theorem d4b:Eq2 prog 72:=⟨by kernel_rfl,O8c⟩
theorem f8b(a b:Int×Int)(w0:World):
 A0a prog 104 #[.agg (pc a).toArray,.agg (pc b).toArray] w0 fun v w'=>v=.bool (decide (a=b))∧Bw w0 w':=by
 have S:=St.refl w0;refine a0a func104 Z ntmps104 Z ?_;refine wO1 Z (o0a S Z ?_);intro g2 w2 S2 X2 G2;refine o0a S2 Z ?_;intro g3 w3 S3 X3 G3;refine lOn 7 S3.k [.w 1,.w 0] Z ⟨⟨Z,by rfl⟩,⟨Z,by rfl⟩,U⟩ (n2d (a:=a) (b:=b) d4b Z Z Z ?_);exact lU Z Z ⟨Z,S3.fin⟩
theorem W6a{w:World}{g el:Nat}{cs:LV}{cur:List (Int×Int)}(hb:p0a w (g,el,cs))(hc:cs.take (cur.length*2)=pcs cur){i:Nat}{a:Int×Int}(h:cur[i]?=some a):Cells w g (0+i*2) (pc a):=fun j u hj=>by
 have h1:=w1c h j u hj;have h2:=(List.getElem?_eq_some_iff.1 h1).1;rw[O7a] at h2;rw[←hc,List.getElem?_take,if_pos h2] at h1;exact hb.cell (by rw[Nat.zero_add];exact h1)
theorem p8c{cur:List (Int×Int)}{cs:LV}{i:Nat}{a x:Int×Int}(hc:cs.take (cur.length*2)=pcs cur)(hx:cur[i]?=some x):(e0a cs (i*2) (pc a)).take (cur.length*2)=pcs (cur.set i a):=by
 rw[H6a,hc];unfold pcs;have h2:∀c∈cur.map pc,c.length=2:=fun c hc=>by obtain⟨a,_,rfl⟩:=List.mem_map.1 hc;rfl
 have:=Q7a (size:=2) (pc a) (cur.map pc) i 0 (pc x) h2 (by simp[hx]) (by simp[pc]);rw[Nat.add_zero] at this;rw[this,List.map_set];rfl
theorem k5c{cur:List (Int×Int)}{cs:LV}{n m:Nat}(hc:cs.take (n*2)=pcs cur)(h:m≤n):cs.take (m*2)=pcs (cur.take m):=by
 have h2:∀c∈cur.map pc,c.length=2:=fun c hc=>by obtain⟨a,_,rfl⟩:=List.mem_map.1 hc;rfl
 have h3:cs.take (m*2)=(cs.take (n*2)).take (m*2):=by rw[List.take_take];congr 1;omega
 rw[h3,hc];unfold pcs;rw[W5b (size:=2) _ m h2,List.map_take]
theorem x7b(g b0:Nat)(l:List (Int×Int))(cs:LV)(w0:World)(hB:p0a w0 (g,72,cs))(hc:cs.take (l.length*2)=pcs l)(x0:cs.length=b0*2)(c0:l.length≤b0)(hz:l.length≤1000000):
 A0a prog 103 #[.slice (some ⟨g,0,none⟩) l.length b0,.func (.func 104) #[] #[]] w0 fun v w'=>v=.slice (some ⟨g,0,none⟩) (M6a l l.length).length b0∧H0a [g] w0 w' ∧
  ∃t0,t0.length=b0*2∧p0a w' (g,72,t0)∧t0.take ((M6a l l.length).length*2)=pcs (M6a l l.length):=by
 have S:=St.borrow1 hB;refine a0a func103 Z ntmps103 Z ?_;refine wB1 Z (fun K0=>?_) fun K0=>?_
 ·refine lR1 Z (w0a Z ?_);have hd:M6a l l.length=l:=by rw[k0b (Nat.le_refl _) (fun j h1 h2=>by exfalso;omega),List.take_length]
  rw[hd];exact⟨Z,S.below,cs,x0,S.blk 0 Z,hc⟩
 refine lC1 Z (wL (fun μi D ε w=>D=[]∧∃i:Nat,(i+μi=max (l.length) 1)∧(1≤i)∧(∀j,0<j→j<i→l[j]?≠l[j-1]?)∧St [g] w0 w [(some g,72,cs)]∧Sl ε [(0,.slice (some ⟨g,0,none⟩) l.length b0),(1,.func (.func 104) #[] #[]),(5,.int .i64 i)]) (μ:=(max (l.length) 1-1)) ⟨Z,1,by omega,by omega,(fun j h1 h2=>absurd h1 (by omega)),S,Z⟩ ?_);rintro μi D ε w ⟨rfl,i,hi,_,C0,S,eZ⟩;refine wK eZ (wB1 Z (fun L0=>?_) fun L0=>?_)
 ·refine lCn 8 S.k [] Z U ?_;obtain⟨a,q0⟩:∃a,l[i]?=some a:=⟨_,List.getElem?_eq_getElem (by omega)⟩;obtain⟨b,D0⟩:∃b,l[i-1]?=some b:=⟨_,List.getElem?_eq_getElem (by omega)⟩;have o0:∀w',p0a w' (g,72,cs)→Cells w' g (0+(i:Int).toNat*2) (pc a):=fun w' hb=>W6a hb hc q0;have v0:∀w',p0a w' (g,72,cs)→Cells w' g (0+((i:Int)-1).toNat*2) (pc b):=fun w' hb=>by
   rw[show((i:Int)-1).toNat=i-1 by omega];exact W6a hb hc D0
  refine y0a b0a [0,1,2,3,4,5,6,7,8,9] [] [10] Z (Cl _ _ _ _) (Cl.start S) ?_;refine qO S.q [.i] Z ⟨by omega,U⟩ (z1a g9a Z (fun w1 hw=>o0 _ (hw.1.blk 0 Z)) (by rfl) Z ?_);refine qO S.q [.i] Z ⟨by omega,by omega,U⟩ (z1a g9a Z (fun w1 hw=>v0 _ (hw.1.blk 0 Z)) (by rfl) Z ?_);refine lV Z ?_;rintro c1 ⟨J0,_⟩;refine q8a J0 I1c Z Z Z (f8b a b _) ?_;rintro v28 a1 rfl r0 T0;cases m0:decide (a=b)
  ·refine lP1 Z ⟨μi-1,by omega,Z,i+1,by omega,by omega,?_,r0,Z⟩;intro j h1 h2;rcases Nat.lt_or_ge j i with h3|h3
   ·exact C0 j h1 h3
   ·obtain rfl:j=i:=by omega
    rw[q0,D0];exact fun hh=>of_decide_eq_false m0 (Option.some.inj hh)
  refine lO1 Z (u7a (lo:=i) (hi:=l.length) S2a.slT Z (.inr Z) (.inl ⟨Z,Z⟩) c0 c0 Z ?_);rw[if_neg (show ¬b0=i by omega)];refine lCn 5 r0.k [] Z U ?_;have A0:l[i]?=l[i-1]?:=by rw[q0,D0,of_decide_eq_true m0]
  have y0:M6a l (i+1)=l.take i:=by
   rw[u6a q0,if_neg (fun h=>h.elim (fun z=>by omega) (fun z=>z A0)),k0b (by omega) C0]
  refine wC1 Z ?_;refine wL (fun μk D ε w=>D=[]∧∃k:Nat,∃cur:List (Int×Int),∃cs2:LV,∃i2:Int,(k+μk=max ((l.length-i)) 1)∧(1≤k)∧(cur.length=l.length)∧(cs2.take (l.length*2)=pcs cur)∧(cs2.length=b0*2)∧(i2=(M6a l (i+k)).length)∧(cur.take (M6a l (i+k)).length=M6a l (i+k))∧((M6a l (i+k)).length≤i+k-1)∧(∀j,i+k-1≤j→cur[j]?=l[j]?)∧St [g] w0 w [(some g,72,cs2)]∧Sl ε [(0,.slice (some ⟨g,0,none⟩) l.length b0),(1,.func (.func 104) #[] #[]),(5,.int .i64 i2),(6,.slice (some ⟨g,0+i*2,none⟩) (l.length-i) (b0-i)),(7,.int .i64 k)]) (μ:=(max ((l.length-i)) 1-1)) ⟨Z,1,l,cs,i,by omega,by omega,Z,hc,x0,(by rw[y0,List.length_take];omega),(by rw[y0,List.length_take,Nat.min_eq_left (by omega)]),(by rw[y0,List.length_take];omega),(fun _ _=>rfl),r0,Z⟩ ?_;rintro μk D ε w ⟨rfl,k,cur,cs2,i2,_,_,e0,g0,d0,p0,i0,_,f0,S,eZ⟩;refine wK eZ ?_;have V0:=H8b l (i+k);refine wB1 Z (fun N0=>?_) fun N0=>?_
  ·refine lCn 8 S.k [] Z U ?_;obtain⟨a2,n0⟩:∃a,l[i+k]?=some a:=⟨_,List.getElem?_eq_getElem (by omega)⟩;obtain⟨b2,F0⟩:∃b,l[i+k-1]?=some b:=⟨_,List.getElem?_eq_getElem (by omega)⟩;have E0:cur[i+k]?=some a2:=(f0 (i+k) (by omega)).trans n0;have G0:cur[i+k-1]?=some b2:=(f0 (i+k-1) (by omega)).trans F0;have u0:cs2.take (cur.length*2)=pcs cur:=by rw[e0];exact g0
   have o0:∀w',p0a w' (g,72,cs2)→Cells w' g (0+i*2+(k:Int).toNat*2) (pc a2):=fun w' hb=>by
    have:=W6a hb u0 E0;rw[show 0+i*2+(k:Int).toNat*2=0+(i+k)*2 by rw[Int.toNat_natCast,Nat.add_mul];omega];exact this
   have v0:∀w',p0a w' (g,72,cs2)→Cells w' g (0+i*2+((k:Int)-1).toNat*2) (pc b2):=fun w' hb=>by
    have:=W6a hb u0 G0;rw[show 0+i*2+((k:Int)-1).toNat*2=0+(i+k-1)*2 by rw[show((k:Int)-1).toNat=k-1 by omega];omega];exact this
   have z0:a2=b2→M6a l (i+(k+1))=M6a l (i+k):=fun hh=>by
    rw[←Nat.add_assoc,u6a n0,if_neg (fun h=>h.elim (fun z=>by omega) (fun z=>z (by rw[n0,F0,hh])))]
   have B0:¬a2=b2→M6a l (i+(k+1))=M6a l (i+k)++[a2]:=fun hh=>by
    rw[←Nat.add_assoc,u6a n0,if_pos (.inr (fun z=>hh (Option.some.inj (n0.symm.trans (z.trans F0)))))]
   obtain⟨xi,P0⟩:∃x,cur[(M6a l (i+k)).length]?=some x:=⟨_,List.getElem?_eq_getElem (by omega)⟩;refine y0a b0a [0,1,2,3,4,5,6,7,8,9] [] [10,11] Z (Cl _ _ _ _) (Cl.start S) ?_;refine qO S.q [.i] Z ⟨by omega,U⟩ (z1a g9a Z (fun w1 hw=>o0 _ (hw.1.blk 0 Z)) (by rfl) Z ?_);refine qO S.q [.i] Z ⟨by omega,by omega,U⟩ (z1a g9a Z (fun w1 hw=>v0 _ (hw.1.blk 0 Z)) (by rfl) Z ?_);refine lV Z ?_;rintro Q0 ⟨s0,_⟩;refine q8a s0 I1c Z Z Z (f8b a2 b2 _) ?_;rintro X0 b1 rfl j0 U0;cases a0:decide (a2=b2)
   ·refine lO j0.k [.i] Z ⟨by omega,U⟩ (k3a g9a Z (o0 _ (j0.blk 0 Z)) (by rfl) Z ?_);refine lO j0.k [.i] Z ⟨by omega,U⟩ ?_;refine d0a (kk:=0) (vs:=pc a2) j0 J6b Z Z Z Z Z Z (by rw[Nat.ble_eq,d0];simp;omega) ?_;intro Y0 I0 R0;refine lP0 Z ⟨by omega,by omega,U⟩ ⟨μk-1,by omega,Z,k+1,?_,_,_,by omega,by omega,?_,?_,?_,?_,?_,?_,?_,I0,Z⟩;exact cur.set (M6a l (i+k)).length a2
    ·simp[e0]
    ·have:=p8c (a:=a2) u0 P0;rw[e0] at this;rw[show 0+i2.toNat*2=(M6a l (i+k)).length*2 by rw[p0];simp];exact this
    ·rw[P5a];exact d0
    ·rw[B0 (of_decide_eq_false a0),List.length_append];simp;omega
    ·rw[B0 (of_decide_eq_false a0),List.length_append,List.length_singleton,u0a (by rw[List.getElem?_set_self (by omega)]),List.take_set_of_le (Nat.le_refl _),i0]
    ·rw[B0 (of_decide_eq_false a0),List.length_append];simp;omega
    ·intro j hj;rw[List.getElem?_set_ne (by omega)];exact f0 j (by omega)
   refine lP1 Z ⟨μk-1,by omega,Z,k+1,?_,_,_,by omega,by omega,?_,?_,?_,?_,?_,?_,?_,j0,Z⟩;exact cur
   ·exact e0
   ·exact g0
   ·exact d0
   ·rw[z0 (of_decide_eq_true a0)];exact p0
   ·rw[z0 (of_decide_eq_true a0)];exact i0
   ·rw[z0 (of_decide_eq_true a0)];omega
   ·exact fun j hj=>f0 j (by omega)
  refine lO1 Z ?_;refine u7a (lo:=(M6a l (i+k)).length) (hi:=l.length) S2a.slT Z (.inr (by rw[←p0];rfl)) (.inl ⟨Z,Z⟩) c0 c0 Z ?_;rw[if_neg (show ¬b0=(M6a l (i+k)).length by omega)];refine W5c (kk:=0) S S2a Z Z Z (by omega) (by omega) (by rw[d0];omega) (by simp[Value.cells,u9c]) ?_;intro Z0 us W0 H0 S0;refine lO1 Z ?_;refine u7a (lo:=0) (hi:=(M6a l (i+k)).length) S2a.slT Z (.inl ⟨Z,Z⟩) (.inr (by rw[←p0];rfl)) (by omega) c0 Z ?_;rw[if_neg (show ¬b0=0 by omega),Nat.zero_mul,Nat.add_zero,Nat.sub_zero,Nat.sub_zero];refine lR1 Z (w0a Z ?_);have O0:i+k=l.length:=by omega
  rw[←O0];refine⟨Z,H0.below,_,by rw[P5a];exact d0,H0.blk 0 Z,?_⟩;rw[n0b _ _ _ _ (by omega)];have ht:=k5c (m:=(M6a l (i+k)).length) g0 (by omega);rw[ht,i0]
 refine lR1 Z (w0a Z ?_);have hd:M6a l l.length=l:=by rw[k0b (Nat.le_refl _) (fun j h1 h2=>C0 j h1 (by omega)),List.take_length]
 rw[hd];exact⟨Z,S.below,cs,x0,S.blk 0 Z,hc⟩
def W8c(cs:LV)(a:Int×Int):Prop:=cs=pc a∧i64 a.1∧i64 a.2
theorem g7a:D7a (fun(_:List Nat) (_:World)=>W8c) 2 where
 len h:=by rw[h.1];rfl
 one h u hu:=by rw[h.1] at hu;simp[pc] at hu;rcases hu with rfl|rfl<;>rfl
 keep _ h:=h
 more _ h:=h
abbrev r6a:List Nat→World→LV→Int×Int→Prop:=fun _ _=>W8c
abbrev V7a(M:List Nat)(w:World)(v:Value)(l:List (Int×Int)):Prop:=RdS M w 2 W8c v l
def v6b(a:Int×Int):Value:=.agg (pc a).toArray
theorem Q5c(a b:Int×Int)(h:v6b a=v6b b):a=b:=by
 simp[v6b,pc] at h;exact Prod.ext h.1 h.2
theorem T1a.toVP{M:List Nat}{w1:World}{G:Option Nat}{cs:LV}{v:Value}{l:List (Int×Int)}(h:T1a r6a 2 M w1 G cs v l):S4a G 2 l.length cs v (pcs l):=by
 obtain⟨css,_,_,h3,h4⟩:=h;have e1:css=l.map pc:=by
  apply List.ext_getElem?;intro i;by_cases hi:i<l.length
  ·obtain⟨_,h5,h6⟩:=h4 i l[i] (List.getElem?_eq_getElem hi);rw[h5,List.getElem?_map,List.getElem?_eq_getElem hi,h6.1];rfl
  ·rw[List.getElem?_eq_none (by omega),List.getElem?_eq_none (by simp;omega)]
 subst e1;exact h3
def ddP(l:List (Int×Int)):List (Int×Int):=M6a (G6a l) (G6a l).length
theorem t4b(l:List (Int×Int)):(G6a l).length=l.length:=by simp[G6a]
theorem V3c{l:List (Int×Int)}{x:Int×Int}:x∈G6a l↔x∈l:=(List.mergeSort_perm l _).mem_iff
theorem j8b(l:List (Int×Int)):(G6a l).Pairwise fun a b=>¬lt2 b a:=by
 have h:=List.pairwise_mergeSort (le:=fun a b:Int×Int=>!decide (lt2 b a)) (fun a b c h1 h2=>by
  simp only[Bool.not_eq_true',decide_eq_false_iff_not] at *;unfold lt2 at *;omega) (fun a b=>by
  simp only[Bool.or_eq_true,Bool.not_eq_true',decide_eq_false_iff_not];unfold lt2;omega) l
 exact h.imp fun hh=>by simpa using hh
theorem p0b{l:List (Int×Int)}(h:l.Pairwise fun a b=>¬lt2 b a):∀k,k≤l.length→(M6a l k).Pairwise lt2∧(∀x,x∈M6a l k↔x∈l.take k)∧∀a,0<k→l[k-1]?=some a→(M6a l k).getLast?=some a
 | 0,_=>by simp[M6a]
 | k+1,hk=>by
   obtain⟨h1,h2,h3⟩:=p0b h k (by omega);have hx:l[k]?=some l[k]:=List.getElem?_eq_getElem (by omega);rw[u6a hx];by_cases hc:k=0∨l[k]?≠l[k-1]?
   ·rw[if_pos hc];refine⟨?_,fun x=>?_,fun a _ ha=>?_⟩
    ·rw[List.pairwise_append];refine⟨h1,by simp,fun a ha b hb=>?_⟩;rw[List.mem_singleton.1 hb];have e0:=(h2 a).1 ha;obtain⟨j,hj,rfl⟩:=List.getElem_of_mem e0;rw[List.length_take] at hj;rw[List.getElem_take];have f0:j<k:=by omega
     have c0:j<l.length:=by omega
     have hn:=List.pairwise_iff_getElem.1 h j k c0 (by omega) f0;have hp:k-1<l.length:=by omega
     have d0:l[k]≠l[k-1]:=fun hh=>by
      rcases hc with hc|hc
      ·omega
      ·exact hc (by rw[hx,List.getElem?_eq_getElem hp,hh])
     rcases Nat.lt_or_ge j (k-1) with b0|b0
     ·have ha:=List.pairwise_iff_getElem.1 h j (k-1) c0 hp b0;have hb:=List.pairwise_iff_getElem.1 h (k-1) k hp (by omega) (by omega);by_cases a0:lt2 l[j] l[k]
      ·exact a0
      ·exfalso;apply d0;unfold lt2 at *;exact Prod.ext (by omega) (by omega)
     ·obtain rfl:j=k-1:=by omega
      by_cases a0:lt2 l[k-1] l[k]
      ·exact a0
      ·exact absurd (c6b hn a0) d0
    ·rw[List.mem_append,h2,u0a hx,List.mem_append]
    ·rw[List.getLast?_append];rw[show k+1-1=k by omega,hx] at ha;simpa using ha
   ·rw[if_neg hc];have g0:0<k:=by omega
    have he:l[k]?=l[k-1]?:=by
     by_cases hh:l[k]?=l[k-1]?
     ·exact hh
     ·exact absurd (.inr hh) hc
    refine⟨h1,fun x=>?_,fun a _ ha=>?_⟩
    ·rw[h2,u0a hx,List.mem_append,List.mem_singleton];refine⟨.inl,fun hh=>hh.elim id fun hh=>?_⟩;subst hh;rw[hx] at he;refine List.mem_of_getElem? (i:=k-1) ?_;rw[List.getElem?_take,if_pos (by omega)];exact he.symm
    ·rw[show k+1-1=k by omega] at ha;exact h3 a g0 (by rw[←he];exact ha)
theorem x2c(l:List (Int×Int)):(ddP l).Pairwise lt2:=(p0b (j8b l) _ (Nat.le_refl _)).1
theorem U0b{l:List (Int×Int)}{x:Int×Int}:x∈ddP l↔x∈l:=by
 unfold ddP;rw[(p0b (j8b l) _ (Nat.le_refl _)).2.1,List.take_length,V3c]
theorem j2c(l:List (Int×Int)):(ddP l).length≤l.length:=by
 have:=H8b (G6a l) (G6a l).length;exact Nat.le_trans this (by rw[t4b];exact Nat.le_refl _)
theorem U4b:Go.WideMaps.ArrKey prog 72 3 2:=⟨Tryz.underlying72,by kernel_rfl,by kernel_rfl,by kernel_rfl⟩
theorem S0c:Go.Maps.Keyed prog 72:=Go.Maps.Keyed.of_law U4b.law
theorem h1c{a:Int×Int}(h1:i64 a.1)(h2:i64 a.2):∃q,keyOf prog 72 (v6b a)=some q:=by
 obtain⟨m,hm⟩:∃m,prog.types.size=m+1:=⟨prog.types.size-1,by
  have:Nat.ble 1 prog.types.size=true:=by kernel_rfl
  have:=Nat.le_of_ble_eq_true this;omega⟩
 have hk:=U4b.keyType ⟨m,hm⟩;have w1:(Lit.int .i64 a.1).wf=true:=by unfold i64 at h1;simp[Lit.wf,IntKind.min,IntKind.max,IntKind.signed,IntKind.bits];omega
 have w2:(Lit.int .i64 a.2).wf=true:=by unfold i64 at h2;simp[Lit.wf,IntKind.min,IntKind.max,IntKind.signed,IntKind.bits];omega
 unfold keyOf;rw[Tryz.underlying72];have hf:(v6b a).formed prog 72=true:=by simp[v6b,pc,Value.formed,Tryz.underlying72,U4b.size]
 simp only[hk,hf,Bool.and_self,if_true];have hl:prog.keyLits (prog.types.size+1) 72 (v6b a).cells.toList=some [.int .i64 a.1,.int .i64 a.2]:=by
  rw[hm];have h3:∀n,prog.keyLits (m+1) 3 [.int .i64 n]=if(Lit.int .i64 n).wf=true then some [.int .i64 n] else none:=fun n=>by
   unfold Program.keyLits;rw[Tryz.underlying3];simp
  unfold Program.keyLits;rw[Tryz.underlying72];simp[v6b,pc,Value.cells,U4b.size,U4b.one,List.range_succ,h3,w1,w2]
 rw[hl];exact⟨_,Z⟩
theorem y5b(A:Option Addr)(a0:Nat)(w0:World):
 A0a prog 103 #[.slice A 0 a0,.func (.func 104) #[] #[]] w0 fun v w'=>v=.slice A 0 a0∧Bw w0 w':=by
 have S:=St.refl w0;refine a0a func103 Z ntmps103 Z ?_;refine wB1 Z (fun b0=>?_) (fun b0=>by exfalso;omega);exact lU Z Z ⟨Z,S.fin⟩
theorem R9a(w0:World)(a0:Nat)(A:Option Addr):A0a prog 53 #[.slice A 0 a0] w0 fun v w'=>v=.slice A 0 a0∧Bw w0 w':=by
 have S:=St.refl w0;refine a0a func53 Z ntmps53 Z ?_;refine wO1 Z (a2a J1c Z Z (D1c _ A a0) ?_);rintro v4 _ rfl;refine lO1 Z (h0a S M1c Z Z (y5b A a0 _) ?_);rintro v6 w6 rfl S6 X6;exact lU Z Z ⟨Z,S6.fin⟩
theorem O9a(g a0:Nat)(l:List (Int×Int))(cs:LV)(w0:World)(hB:p0a w0 (g,72,cs))(hc:cs.take (l.length*2)=pcs l)(i0:cs.length=a0*2)(hz:l.length≤1000000)(g0:l.length≤a0:=by omega):
 A0a prog 53 #[.slice (some ⟨g,0,none⟩) l.length a0] w0 fun v w'=>v=.slice (some ⟨g,0,none⟩) (ddP l).length a0∧H0a [g] w0 w' ∧
  ∃b0,b0.length=a0*2∧p0a w' (g,72,b0)∧b0.take ((ddP l).length*2)=pcs (ddP l):=by
 have S:=St.borrow1 hB;have d0:=t4b l;refine a0a func53 Z ntmps53 Z ?_;refine wO1 Z (a2a J1c Z Z (r6c _ g _ a0 cs l (S.blk 0 Z) hc (by omega) hz) ?_);rintro v4 w4 ⟨B4,f0⟩;have S4:=S.changed1 0 Z B4 f0;refine lO1 Z ?_;have c0:=x7b g a0 (G6a l) (pcs (G6a l)++cs.drop (l.length*2)) w4 (S4.blk 0 Z) (List.take_left' (O7a _)) (by rw[List.length_append,O7a,List.length_drop];omega) (by omega) (by omega);rw[d0] at c0;refine a2a M1c Z Z c0 ?_;rintro v6 w6 ⟨rfl,B6,e0,q1,q2,q3⟩;have S6:=S4.changed1 0 Z B6 q2;refine lR1 Z (w0a Z ?_);have hd:M6a (G6a l) l.length=ddP l:=by unfold ddP;rw[d0]
 rw[hd] at q3 ⊢;exact⟨Z,S6.below,e0,q1,S6.blk 0 Z,q3⟩
theorem s4b{f g:Nat→Option (Nat×Nat)}(h:∀i q,f i=some q→g i=some q):∀(a0:List (Nat×Value)) (z cs:Array Value),Instr.fill f z a0=some cs→Instr.fill g z a0=some cs
 | [],_,_,e=>e
 | (i,v)::rest,z,cs,e=>by
   unfold Instr.fill at e ⊢;cases hf:f i with
   | none=>rw[hf] at e;cases e
   | some q =>
     rw[hf] at e;rw[h i q hf];obtain⟨_,_⟩:=q;dsimp only at e ⊢
     split at e
     ·cases e
     ·rename_i hc;rw[if_neg hc];exact s4b h rest _ _ e
theorem Z0c{P:Program}{ty n el size:Nat}{z:LV}(hu:P.underlying ty=some (.array n el))(hz:∀w,(zeroValue ty).run P w=.ok (.agg z.toArray) w)(hs:∀w,(sizeOf el).run P w=.ok size w)(pl:List (Nat×Nat))(hp:pl=(List.range n).map fun i=>(i*size,size)):Bld P ty z pl:=by
 intro w a0 cs hf;simp only[Instr.build,Sem.run_bind,hz,Result.andThen_ok,run_underlying hu,Value.cells,hs];rw[s4b (g:=fun i=>some (i*size,size)) (fun i q h=>by
  subst hp;rw[List.getElem?_map] at h;cases hr:(List.range n)[i]? with
  | none=>rw[hr] at h;cases h
  | some j =>
    rw[hr] at h;have:j=i:=by
     have:=List.getElem?_eq_some_iff.1 hr;obtain⟨_,h2⟩:=this;simpa using h2.symm
    subst this;simpa using h) _ _ _ hf]
 rfl
theorem G9a(l:List Int):t1a (l.take 1):=by
 cases l<;>simp[t1a]
theorem Z0b{l:List Int}{k:Nat}{x y:Int}(h:t1a (l.take k))(hx:l[k-1]?=some x)(hy:l[k]?=some y)(hk:1≤k:=by omega)(hxy:x<y:=by omega):t1a (l.take (k+1)):=by
 have d0:=t5a hy;rw[u0a hy];unfold t1a at *;rw[List.pairwise_append];refine⟨h,by simp,fun a ha b hb=>?_⟩;rw[List.mem_singleton.1 hb];obtain⟨j,hj,rfl⟩:=List.getElem_of_mem ha;have b0:=hj;rw[List.length_take] at b0;have a0:(l.take k)[k-1]?=some x:=by rw[List.getElem?_take,if_pos (by omega)];exact hx
 by_cases c0:j=k-1
 ·subst c0;have:=(List.getElem?_eq_some_iff.1 a0).2;omega
 ·have:=Q6a h (List.getElem?_eq_getElem hj) a0;omega
def OKL(n:Nat)(C:List Int):Prop:=t1a C∧∀c∈C,0≤c∧c<n
theorem V8b(M:List Nat)(w0:World)(v:Value)(l:List Int)(hR:RdI M w0 v l):A0a prog 257 #[v] w0 fun v w'=>v=.bool (dec (t1a l))∧Bw w0 w':=by
 obtain⟨A,n,c,rfl⟩:=hR.form;obtain⟨_,_⟩:=hR.len;have S:=St.refl w0;refine a0a func257 Z ntmps257 Z ?_;refine wC1 Z (wL (fun μk D ε w=>D=[]∧∃k:Nat,(k+μk=max (l.length) 1)∧(1≤k)∧(t1a (l.take k))∧St [] w0 w []∧Sl ε [(0,.slice A n c),(3,.int .i64 k)]) (μ:=(max (l.length) 1-1)) ⟨Z,1,by omega,by omega,G9a l,S,Z⟩ ?_);rintro μk D ε w ⟨rfl,k,_,_,hr,S,eZ⟩;refine wK eZ (wB1 Z (fun h7=>?_) fun h7=>?_)
 ·refine lC1 Z (y0a b0a [0,1,2,3,4,5,6,7,8,9] [] [] Z (Cl _ _ _ _) (Cl.start S) ?_);obtain⟨_,n0,r0,_,j0,c0,_,_,e0,f0⟩:=RdS.get (hR) (k) (by omega);obtain⟨rfl,_⟩:=id f0;obtain⟨x,o0,s0,_,i0,d0,_,_,a0,g0⟩:=RdS.get (hR) (k-1) (by omega);obtain⟨rfl,_⟩:=id g0;have p0:((k:Int)-1).toNat=k-1:=by omega
  rw[←p0] at a0;refine qB ((S.q.a a0).a e0) [.x n0 r0,.f 0 0,.x o0 s0,.f 1 0] Z ⟨Z,⟨d0,by omega⟩,by omega,Z,⟨c0,by omega⟩,U⟩ (fun q0=>?_) fun q0=>?_
  ·refine lV Z ?_;rintro t0 ⟨b0,m0⟩;refine lU Z Z ?_;exact⟨C0a (fun hz=>by have:=Q6a hz i0 j0;omega),b0.fin⟩
  refine lV Z ?_;rintro t0 ⟨b0,m0⟩;refine lP1 Z ⟨μk-1,by omega,Z,k+1,by omega,by omega,((Z0b hr i0 j0)),b0,Z⟩
 refine lU Z Z ?_;exact⟨H1a (by rw[List.take_of_length_le (by omega)] at hr;exact hr),S.fin⟩
theorem a8b(M:List Nat)(w0:World)(v:Value)(l:List Int)(hR:RdI M w0 v l)(hr:t1a l):A0a prog 257 #[v] w0 fun v w'=>v=.bool true∧Below w0.heap.size w0 w' :=
 (V8b M w0 v l hR).mono fun _ _ ⟨hv,hb⟩=>⟨by rw[hv,s6a hr],hb⟩
theorem d0b(M:List Nat)(w0:World)(v:Value)(l:List Int)(hR:RdI M w0 v l)(hw:∀x∈l,1≤x∧x≤8)(hl:l.length≤32:=by omega):A0a prog 228 #[v] w0 fun v w'=>v=.int .i64 (c2a l)∧Bw w0 w':=by
 obtain⟨A,n,c,rfl⟩:=hR.form;obtain⟨_,_⟩:=hR.len;have j0:=Q2a hw;have S:=St.refl w0;refine a0a func228 Z ntmps228 Z ?_;refine wC1 Z (wL (fun μk D ε w=>D=[]∧∃k:Nat,∃s:Int,(k+μk=(l.length))∧(s=c2a (l.take k))∧St [] w0 w []∧Sl ε [(3,.int .i64 s),(6,.slice A n c),(7,.int .i64 n),(8,.int .i64 k)]) (μ:=(l.length)) ⟨Z,0,0,by omega,Z,S,Z⟩ ?_);rintro μk D ε w ⟨rfl,k,s,_,hs,S,eZ⟩;refine wK eZ (wB1 Z (fun h9=>?_) fun h9=>?_)
 ·obtain⟨x,d0,i0,_,g0,a0,_,_,b0,c0⟩:=RdS.get (hR) (k) (by omega);obtain⟨rfl,_⟩:=id c0;have f0:=Q4a g0;have m0:=e2a hw k;have e0:=e2a hw (k+1);refine lP (S.k.a b0) [.x d0 i0,.f 0 0] Z ⟨by omega,by omega,Z,⟨a0,by omega⟩,U⟩ ?_;refine⟨μk-1,by omega,Z,k+1,(s+x),by omega,(by rw[f0,hs]),S,Z⟩
 refine lR1 Z (w0a Z ?_);exact⟨by rw[hs,List.take_of_length_le (by omega)],S.fin⟩
theorem w2b(M:List Nat)(w0:World)(v u:Value)(C W:List Int)(hC:RdI M w0 v C)(hW:RdI M w0 u W)(h:V9a C W):A0a prog 238 #[v,u] w0 fun v w'=>v=.bool true∧Bw w0 w':=by
 obtain⟨A,n,c,rfl⟩:=hC.form;obtain⟨_,_⟩:=hC.len;obtain⟨A',n',c',rfl⟩:=hW.form;obtain⟨_,_⟩:=hW.len;have z0:=h.len;have S:=St.refl w0;refine a0a func238 Z ntmps238 Z ?_;refine wB1 Z (fun s0=>by exfalso;omega) fun s0=>?_;refine lO1 Z (r0a S r6b Z Z (a8b M _ _ C (hC.keep (S.keep0 M)) h.inc) ?_);intro H0 o0 E0;refine lC1 Z (wL (fun μk D ε w=>D=[]∧∃k:Nat,(k+μk=(C.length))∧St [] w0 w []∧Sl ε [(1,.slice A' n' c'),(17,.slice A n c),(18,.int .i64 n),(19,.int .i64 k)]) (μ:=(C.length)) ⟨Z,0,by omega,o0,Z⟩ ?_);rintro μk D ε w ⟨rfl,k,_,S,eZ⟩;refine wK eZ (wB1 Z (fun t0=>?_) fun t0=>?_)
 ·obtain⟨x,p0,B0,_,A0,a0,_,_,d0,g0⟩:=RdS.get (hC) (k) (by omega);obtain⟨rfl,_⟩:=id g0;have F0:=h.cell x (c0a A0);refine lB (S.k.a d0) [.x p0 B0,.f 0 0] Z ⟨Z,⟨a0,by omega⟩,U⟩ (fun u0=>by exfalso;omega) fun u0=>?_;refine lB1 Z (fun v0=>by exfalso;omega) fun v0=>?_;obtain⟨y,q0,C0,_,n0,b0,_,_,e0,i0⟩:=RdS.get (hW) (k) (by omega);obtain⟨rfl,_⟩:=id i0;have G0:=h.wid y (c0a n0);refine lB (S.k.a e0) [.x q0 C0,.f 0 0] Z ⟨Z,⟨b0,by omega⟩,U⟩ (fun x0=>by exfalso;omega) fun x0=>?_;obtain⟨_,r0,D0,_,m0,c0,_,_,f0,j0⟩:=RdS.get (hW) (k) (by omega);obtain rfl:=Option.some.inj (n0.symm.trans m0);obtain⟨rfl,_⟩:=id j0;refine lB (S.k.a f0) [.x r0 D0,.f 0 0] Z ⟨Z,⟨c0,by omega⟩,U⟩ (fun y0=>by exfalso;omega) fun y0=>?_;refine lP1 Z ⟨μk-1,by omega,Z,k+1,by omega,S,Z⟩
 exact lU Z Z ⟨Z,S.fin⟩
theorem P8a(M:List Nat)(w0:World)(v u i:Value)(C W:List Int)(hC:RdI M w0 v C)(hW:RdI M w0 u W)(h:V9a C W)(hs:c2a W≤12):A0a prog 190 #[.agg #[v,u,i]] w0 fun v w'=>v=.bool true∧Bw w0 w':=by
 obtain⟨_,_,_,rfl⟩:=hC.form;obtain⟨_,_,_,rfl⟩:=hW.form;have e0:=h.clen;have c0:=h.len;have S:=St.refl w0;refine a0a func190 Z ntmps190 Z ?_;refine wO1 Z (o0a S Z ?_);intro g1 w1 S1 X1 G1;refine lO S1.k [.o 0,.o 0] Z ⟨Z,Z,U⟩ (r0a S1 I2c Z Z (w2b M _ _ _ C W (hC.keep (S1.keep0 M)) (hW.keep (S1.keep0 M)) h) ?_);intro w7 S7 X7;refine lO S7.k [.o 0] Z ⟨Z,U⟩ (r0a S7 P3b Z Z (d0b M _ _ W (hW.keep (S7.keep0 M)) h.wid) ?_);intro f0 a0 d0;refine lB1 Z (fun b0=>?_) (fun b0=>by exfalso;omega);exact lU Z Z ⟨Z,a0.fin⟩
theorem k2b(M:List Nat)(w0:World)(v u:Value)(Ai:Option Addr)(ci:Nat)(C W:List Int)(hC:RdI M w0 v C)(hW:RdI M w0 u W)(hI:RdI M w0 (.slice Ai 0 ci) [])(h:V9a C W)(hs:c2a W≤12):A0a prog 260 #[.agg #[v,u,.slice Ai 0 ci]] w0 fun v w'=>v=.bool true∧Bw w0 w':=by
 obtain⟨_,_,_,rfl⟩:=hC.form;obtain⟨_,_,_,rfl⟩:=hW.form;have S:=St.refl w0;refine a0a func260 Z ntmps260 Z ?_;refine wO1 Z (o0a S Z ?_);intro g1 w1 S1 X1 G1;refine lO S1.k [.w 0] Z ⟨⟨Z,Z⟩,U⟩ (r0a S1 f7b Z Z (P8a M _ _ _ _ C W (hC.keep (S1.keep0 M)) (hW.keep (S1.keep0 M)) h hs) ?_);intro w5 S5 X5;refine lO S5.k [.o 0] Z ⟨Z,U⟩ (r0a S5 r6b Z Z (a8b M _ _ [] (hI.keep (S5.keep0 M)) List.Pairwise.nil) ?_);intro f0 c0 e0;refine lC c0.k [.o 0] Z ⟨Z,U⟩ (Q1d b0a (fun i=>[0,1,2,3,4,5,6,7,8,9,10,11,12,13,14,15,16,18,19,20,21,22].contains i) [0,1,2,3,4,5,6,7,8,9,10,11,12,13,14,15,16,17,18,19,20,21,22] (Cl _ _ _ _) (Cl.start c0) ?_);rintro g0 ⟨a0,b0⟩;refine f3a ⟨a0,b0⟩ Z Z Z ?_;refine i1a (hv:=Z) (v:=.int .i64 _) Z ?_;refine n0a ?_;refine f3a ⟨a0,b0⟩ Z Z Z ?_;refine y9b Z Z Z (fun d0=>?_) fun d0=>?_
 ·refine n0a ?_;refine f3a ⟨a0,b0⟩ Z Z Z ?_;refine i1a (hv:=Z) (v:=.bool _) Z ?_;refine n0a ?_;refine f3a ⟨a0,b0⟩ Z Z Z ?_;refine P3a Z Z Z ?_;refine n0a ?_;refine f3a ⟨a0,b0⟩ Z Z Z ?_;refine P3a Z Z Z ?_;refine n0a ?_;refine f3a ⟨a0,b0⟩ Z Z Z ?_;refine P3a Z Z Z ?_;refine n0a ?_;refine f3a ⟨a0,b0⟩ Z Z Z ?_;refine P3a Z Z Z ?_;refine n0a ?_;refine f3a ⟨a0,b0⟩ Z Z Z ?_;refine P3a Z Z Z ?_;refine n0a ?_;refine f3a ⟨a0,b0⟩ Z Z Z ?_;refine P3a Z Z Z ?_;refine n0a ?_;refine f3a ⟨a0,b0⟩ Z Z Z ?_;refine P3a Z Z Z ?_;refine n0a ?_;refine f3a ⟨a0,b0⟩ Z Z Z ?_;refine P3a Z Z Z ?_;refine n0a ?_;refine f3a ⟨a0,b0⟩ Z Z Z ?_;refine P3a Z Z Z ?_;refine n0a ?_;refine f3a ⟨a0,b0⟩ Z Z Z ?_;refine P3a Z Z Z ?_;refine n0a ?_;refine f3a ⟨a0,b0⟩ Z Z Z ?_;refine P3a Z Z Z ?_;refine n0a ?_;refine f3a ⟨a0,b0⟩ Z Z Z ?_;refine P3a Z Z Z ?_;refine n0a ?_;refine f3a ⟨a0,b0⟩ Z Z Z ?_;refine P3a Z Z Z ?_;refine n0a ?_;refine f3a ⟨a0,b0⟩ Z Z Z ?_;refine P3a Z Z Z ?_;refine n0a ?_;refine q8b ⟨a0,b0⟩ Z Z Z Z ?_;refine W2d Z Z Z Z ?_;refine S0a ⟨Z,?_⟩;refine f3a ⟨a0,b0⟩ Z Z Z ?_;refine P3a Z Z Z ?_;refine n0a ?_;refine f3a ⟨a0,b0⟩ Z Z Z ?_;refine P3a Z Z Z ?_;refine n0a ?_;refine f3a ⟨a0,b0⟩ Z Z Z ?_;refine P3a Z Z Z ?_;refine n0a ?_;refine f3a ⟨a0,b0⟩ Z Z Z ?_;refine Y4a Z (v:=.bool _) Z Z ?_;refine n0a ?_;refine f3a ⟨a0,b0⟩ Z Z Z ?_;refine n5a (v:=.bool _) Z Z ?_;refine n0a ?_;refine K7b ⟨a0,b0⟩ ?_;refine fR0 Z U (w0a Z ?_);exact⟨Z,a0.fin⟩
 exfalso;omega
theorem A9a(p:List g1a)(C:List Int)(M:List Nat)(w0:World)(vc vl:Value)(hP:i0b M w0 vc p)(hC:RdI M w0 vl C)(hp:p.length≤32)(hw:∀c∈p,1≤c.w∧c.w≤8):
 A0a prog 227 #[vc,vl] w0 fun v w'=>(∃A n c,v=.tuple #[.slice A n c,.bool (dec (OKL p.length C))]∧(OKL p.length C→X3a w0 w' (.slice A n c) (wdL p C)))∧Bw w0 w':=by
 obtain⟨Ap,np,cp,rfl⟩:=hP.form;obtain⟨_,-,_⟩:=hP.len;obtain⟨A,n,c,rfl⟩:=hC.form;obtain⟨_,-,_⟩:=hC.len;have S:=(St.refl w0).nilEnt 3;refine a0a func227 Z ntmps227 Z ?_;refine wO1 Z (i0a S r6b Z Z (V8b M _ _ C (hC.keep (S.keep0 M))) (fun d0 L0 f0 x0=>?_) (fun d0 L0 f0 x0=>?_))
 ·refine lC1 Z (wL (fun μk D ε w=>D=[]∧∃k:Nat,∃G:Option Nat,∃g0:LV,∃v:Value,(k+μk=(C.length))∧(T1a (fun _ _=>r9b) 1 [] w0 G g0 v (wdL p (C.take k)))∧(∀c∈C.take k,0≤c∧c<p.length)∧St [] w0 w [(G,3,g0)]∧Sl ε [(0,.slice Ap np cp),(1,.slice A n c),(6,v),(12,.slice A n c),(13,.int .i64 n),(14,.int .i64 k)]) (μ:=(C.length)) ⟨Z,0,none,[],.slice none 0 0,by omega,T1a.nil,(by simp),f0,Z⟩ ?_);rintro μk D ε w ⟨rfl,k,G,g0,v,_,a0,e0,S,eZ⟩;refine wK eZ (wB1 Z (fun C0=>?_) fun C0=>?_)
  ·obtain⟨x,z0,J0,_,c0,i0,_,_,m0,o0⟩:=RdS.get (hC) (k) (by omega);obtain⟨rfl,_⟩:=id o0;refine lB (S.k.a m0) [.x z0 J0,.f 0 0] Z ⟨Z,⟨i0,by omega⟩,U⟩ (fun D0=>?_) fun D0=>?_
   ·refine lR1 Z (o3b Z ?_);exact⟨⟨_,_,_,by rw[J7a fun hz:OKL p.length C=>by have:=hz.2 x (c0a c0);omega],fun hz=>by have:=hz.2 x (c0a c0);omega⟩,S.fin⟩
   refine lB1 Z (fun E0=>?_) fun E0=>?_
   ·refine lR1 Z (o3b Z ?_);exact⟨⟨_,_,_,by rw[J7a fun hz:OKL p.length C=>by have:=hz.2 x (c0a c0);omega],fun hz=>by have:=hz.2 x (c0a c0);omega⟩,S.fin⟩
   refine lOn 7 S.k [] Z U (J0a Z ?_);obtain⟨_,A0,K0,_,I0,j0,_,_,n0,p0⟩:=RdS.get (hP) (x.toNat) (by omega);obtain⟨rfl,r0,_⟩:=P2a.open_ p0;have H0:0≤x∧x<p.length:=by omega
   have G0:=c5a (h0:=H0.1) I0;refine lO (S.k.a n0) [.x A0 K0,.f 0 1] Z ⟨Z,⟨j0,by omega⟩,U⟩ (k0a S R0a (vs:=[.int .i64 _]) (cs:=[_]) Z Z Z Z Z Z ?_);intro S0 W0 s0 Q0 O0;have U0:=(j4a (List.Pairwise.sublist (List.take_sublist k C) (Q0a d0)) e0 hp hw).clen;refine r1a v5a (k:=1) (M2:=[]) (e1:=wAt p x) s0 R0a Z a0 Z Z (s0.cells 0 Z) (by rw[G0];exact⟨Z,r0⟩) (by rw[List.length_map];omega) Z ?_;intro V0 P0 B0 X0 u0 b0 R0 N0;refine B0a Z ?_;refine lP1 Z ?_;refine⟨μk-1,by omega,Z,k+1,_,_,_,by omega,((by rw[u0a c0,wdL,List.map_append];exact b0)),((fun z hz=>by rw[u0a c0] at hz;rcases List.mem_append.1 hz with h|h;exact e0 z h;rw[List.mem_singleton.1 h];omega)),u0.tail,Z⟩
  rw[List.take_of_length_le (by omega)] at e0 a0;have t0:OKL p.length C:=⟨Q0a d0,e0⟩;have ho:=j4a t0.1 e0 hp hw;have T0:=ho.clen;have F0:∀x∈wdL p C,i64 x:=fun x hx=>by have:=ho.wid x hx;unfold i64;omega
  have q0:X3a w0 w v (wdL p C):=fun M hM=>(T1a.newRow (k:=0) a0 S Z).rd hM F0 S.fin (by simp;omega);obtain⟨_,_,_,rfl⟩:=q0.form;refine lOn 8 S.k [] Z U (J0a Z ?_);refine lOn 1 S.k [] Z U (J0a Z ?_);refine r0a S I2c Z Z (w2b [] _ _ _ C _ ((hC.keep (S.keep0 M)).less (by simp)) (q0 [] (by simp)) ho) ?_;intro Y0 v0 y0;refine B0a Z ?_;refine lR1 Z (o3b Z ?_);exact⟨⟨_,_,_,by rw[s6a t0],fun _=>q0.keep y0⟩,v0.fin⟩
 refine lR1 Z (o3b Z ?_);exact⟨⟨_,_,_,by rw[J7a fun hz:OKL p.length C=>K0a d0 hz.1],fun hz=>absurd hz.1 (K0a d0)⟩,f0.fin⟩
theorem z6b(p:List g1a)(C:List Int)(M:List Nat)(w0:World)(vc vl:Value)(hP:i0b M w0 vc p)(hC:RdI M w0 vl C)(hr:t1a C)(hc:∀c∈C,0≤c∧c<p.length)(hp:p.length≤32)(hw:∀c∈p,1≤c.w∧c.w≤8):
 A0a prog 227 #[vc,vl] w0 fun v w'=>(∃u,v=.tuple #[u,.bool true]∧X3a w0 w' u (wdL p C))∧Below w0.heap.size w0 w' :=
 (A9a p C M w0 vc vl hP hC hp hw).mono fun _ _ ⟨⟨_,_,_,hv,hn⟩,hb⟩=>⟨⟨_,by rw[hv,s6a (show OKL p.length C from⟨hr,hc⟩)],hn ⟨hr,hc⟩⟩,hb⟩
theorem N8b(C W:List Int)(M:List Nat)(w0:World)(vc vw:Value)(Ai:Option Addr)(ni ci:Nat)(hC:RdI M w0 vc C)(hW:RdI M w0 vw W)(hc:∀x∈C,i64 x)(hw:∀x∈W,i64 x)(hlc:C.length≤1000:=by omega)(hlw:W.length≤1000:=by omega):
 A0a prog 229 #[vc,vw,.slice Ai ni ci] w0 fun v w'=>(∃a b,v=.agg #[a,b,.slice Ai ni ci]∧X3a w0 w' a C∧X3a w0 w' b W)∧Bw w0 w':=by
 have S:=St.refl w0;refine a0a func229 Z ntmps229 Z ?_;refine wO1 Z (g0a S D5a Z Z ?_);intro g6 w6 S6 X6 G6;refine lOn 4 S6.k [] Z U (J0a Z ?_);refine h0a S6 N0b Z Z (w6a M _ _ C (hC.keep (S6.keep0 M))) ?_;rintro v8 w8 e0 S8 X8;obtain⟨_,_,f0,d0⟩:=e0.open_ S8 S6;obtain⟨_,_,_,rfl⟩:=f0.form;refine J0a Z ?_;refine h0a d0 N0b Z Z (w6a M _ _ W (hW.keep (d0.keep0 M))) ?_;rintro o0 p0 b0 i0 n0;obtain⟨_,_,g0,c0⟩:=b0.open_ i0 d0;obtain⟨_,_,_,rfl⟩:=g0.form;refine lO1 Z (s0a r7a (vs:=[(0,.slice _ _ _),(1,.slice _ _ _),(2,.slice _ _ _)]) (cs:=[_,_,_]) Z Z Z Z ?_);refine d0a (kk:=2) (vs:=[_,_,_]) c0 i5a Z Z Z Z Z Z Z ?_;intro m0 a0 j0;dsimp only[e0a,List.set] at a0;exact lR1 Z (t0a (n:=3) Z A2a Z (a0.cells 2 Z) Z ⟨⟨_,_,Z,fun M hM=>f0.rdI a0 (k:=1) Z hM hc (by omega),fun M hM=>g0.rdI a0 (k:=0) Z hM hw (by omega)⟩,a0.fin⟩)
def uV(n:Nat):Value:=.int .u64 (n:Int)
theorem A9c{n:Nat}(h:n<2 ^ 64):IntKind.u64.wrap (n:Int)=(n:Int):=by
 have h3:((2 ^ 64:Nat):Int)=2 ^ 64:=by simp
 have h2:(n:Int) % (2 ^ 64)=n:=Int.emod_eq_of_lt (by omega) (by rw[←h3];exact Int.ofNat_lt.2 h);simp only[IntKind.wrap,IntKind.signed,IntKind.bits,Bool.false_and,Bool.false_eq_true,if_false];exact h2
theorem C2b(n:Nat):BitVec.ofInt 64 (n:Int)=BitVec.ofNat 64 n:=by
 apply BitVec.eq_of_toNat_eq;simp
theorem k6b{a b:Nat}(ha:a<2 ^ 64)(hb:b<2 ^ 64):Op.intBits .or .u64 (a:Int) (b:Int)=pure (.int .u64 ((a ||| b:Nat):Int)):=by
 have h:=Nat.or_lt_two_pow ha hb;show pure (Value.int .u64 (IntKind.u64.wrap ((BitVec.ofInt 64 (a:Int) ||| BitVec.ofInt 64 (b:Int)).toNat:Int)))=_;rw[C2b,C2b,BitVec.toNat_or,BitVec.toNat_ofNat,BitVec.toNat_ofNat,Nat.mod_eq_of_lt ha,Nat.mod_eq_of_lt hb,A9c h]
theorem d5b{a b:Nat}(ha:a<2 ^ 64)(hb:b<2 ^ 64):Op.intBits .and .u64 (a:Int) (b:Int)=pure (.int .u64 ((a &&& b:Nat):Int)):=by
 have h:a &&& b<2 ^ 64:=Nat.and_lt_two_pow _ hb;show pure (Value.int .u64 (IntKind.u64.wrap ((BitVec.ofInt 64 (a:Int) &&& BitVec.ofInt 64 (b:Int)).toNat:Int)))=_;rw[C2b,C2b,BitVec.toNat_and,BitVec.toNat_ofNat,BitVec.toNat_ofNat,Nat.mod_eq_of_lt ha,Nat.mod_eq_of_lt hb,A9c h]
theorem t5d{n:Nat}(hn:n≤63):Op.shift .shl .u64 1 .i64 (n:Int)=pure (.int .u64 ((2 ^ n:Nat):Int)):=by
 have h2:(2:Nat) ^ n<2 ^ 64:=Nat.pow_lt_pow_right (by omega) (by omega);have h3:min n IntKind.u64.bits=n:=by simp[IntKind.bits];omega
 have h4:((1:Int)*2 ^ n)=((2 ^ n:Nat):Int):=by simp
 have h6:¬((n:Int)<0):=by omega
 simp only[Op.shift,h6,if_false,Int.toNat_natCast,h3,h4,A9c h2]
theorem x5d{a n:Nat}(hn:n≤63):Op.shift .shr .u64 (a:Int) .i64 (n:Int)=pure (.int .u64 ((a >>> n:Nat):Int)):=by
 have h3:min n IntKind.u64.bits=n:=by simp[IntKind.bits];omega
 have h6:¬((n:Int)<0):=by omega
 have h7:(a:Int).fdiv (2 ^ n)=((a >>> n:Nat):Int):=by
  rw[Int.fdiv_eq_ediv_of_nonneg _ (Int.le_of_lt (Int.pow_pos (by omega))),Nat.shiftRight_eq_div_pow];simp
 simp only[Op.shift,h6,if_false,Int.toNat_natCast,h3,h7]
section
variable {P:Program} {r:Option Nat} {N:Nat} {D:List Deferred} {e:Env} {w:World} {ops:Array Oper} {rest:List Oper} {K:List Deferred→Env→World→Prop} {Kq:Env→Prop} {C:World→Prop}
variable {d:Nat} {t:TypeId} {p:String} {af:Array Edge} {x y:Operand} {xt yt:TypeId} {n m:Nat}
theorem C5c(hx:ev e x=uV n)(hy:ev e y=uV m)(hn:n<2 ^ 64)(hm:m<2 ^ 64)(hd:Nat.ble (d+1) N=true)(h:QL P N ops C rest Kq (upd e d (uV (n ||| m)))):
 QL P N ops C (⟨some d,.binOp .or xt x y yt,t,p,af,none⟩::rest) Kq e :=
 D2a Z Z hd (fun w _=>by simp[execOp,hx,hy,eqGuard_or,binOp_or,uV,k6b hn hm]) h
theorem W2c(hx:ev e x=uV n)(hy:ev e y=uV m)(hn:n<2 ^ 64)(hd:Nat.ble (d+1) N=true)(h:WL P r N ops rest K D (upd e d (uV (n &&& m))) w)(hm:m<2 ^ 64:=by omega):
 WL P r N ops (⟨some d,.binOp .and xt x y yt,t,p,af,none⟩::rest) K D e w :=
 U0a Z Z hd (by simp[execOp,hx,hy,eqGuard_and,binOp_and,uV,d5b hn hm]) h
theorem C8b(hx:ev e x=uV 1)(hd:Nat.ble (d+1) N=true)(h:QL P N ops C rest Kq (upd e d (uV (2 ^ n))))(hy:ev e y=.int .i64 (n:Int):=by rfl)(hn:n≤63:=by omega):
 QL P N ops C (⟨some d,.binOp .shl xt x y yt,t,p,af,none⟩::rest) Kq e :=
 D2a Z Z hd (fun w _=>by
  have a0:ev e x=.int .u64 1:=hx;simp only[execOp,a0,hy,eqGuard_shl,binOp_shl,t5d hn,uV,Sem.run_bind,Sem.run_pure,Result.andThen_ok]) h
theorem w6c(hx:ev e x=uV m)(hd:Nat.ble (d+1) N=true)(h:WL P r N ops rest K D (upd e d (uV (m >>> n))) w)(hy:ev e y=.int .i64 (n:Int):=by rfl)(hn:n≤63:=by omega):
 WL P r N ops (⟨some d,.binOp .shr xt x y yt,t,p,af,none⟩::rest) K D e w :=
 U0a Z Z hd (by simp only[execOp,hx,hy,uV,eqGuard_shr,binOp_shr,x5d hn,Sem.run_bind,Sem.run_pure,Result.andThen_ok]) h
end
theorem B3b(a n:Nat):((a >>> n &&& 1:Nat):Int)=1↔a.testBit n=true:=by
 rw[Nat.testBit,Nat.and_comm];simp only[bne_iff_ne];rw[Nat.and_comm,Nat.and_one_is_mod];omega
theorem p5d{a:Int}{n:Nat}(hn:n≤62)(ha:0≤a∧a*((2 ^ n:Nat):Int)<9223372036854775808):Op.shift .shl .i64 a .i64 (n:Int)=pure (.int .i64 (a*((2 ^ n:Nat):Int))):=by
 have h3:min n IntKind.i64.bits=n:=by simp[IntKind.bits];omega
 have h4:(a*2 ^ n:Int)=a*((2 ^ n:Nat):Int):=by simp
 have h6:¬((n:Int)<0):=by omega
 have h7:0≤a*((2 ^ n:Nat):Int):=Int.mul_nonneg ha.1 (Int.natCast_nonneg _);simp only[Op.shift,h6,if_false,Int.toNat_natCast,h3,h4,L2a (h0:=h7) (h1:=ha.2) _]
section
variable {P:Program} {r:Option Nat} {N:Nat} {D:List Deferred} {e:Env} {w:World} {ops:Array Oper} {rest:List Oper} {K:List Deferred→Env→World→Prop} {Kq:Env→Prop} {C:World→Prop}
variable {d:Nat} {t:TypeId} {p:String} {af:Array Edge} {x y:Operand} {xt yt:TypeId} {n:Nat} {a:Int}
theorem R1d(hx:ev e x=.int .i64 a)(hy:ev e y=.int .i64 (n:Int))(hn:n≤62)(ha:0≤a∧a*((2 ^ n:Nat):Int)<9223372036854775808)(hd:Nat.ble (d+1) N=true)(h:QL P N ops C rest Kq (upd e d (.int .i64 (a*((2 ^ n:Nat):Int))))):
 QL P N ops C (⟨some d,.binOp .shl xt x y yt,t,p,af,none⟩::rest) Kq e :=
 D2a Z Z hd (fun w _=>by simp only[execOp,hx,hy,eqGuard_shl,binOp_shl,p5d hn ha,Sem.run_bind,Sem.run_pure,Result.andThen_ok]) h
end
theorem F3b(n k:Nat)(hk:k≤62:=by omega):N8a (n:Int) (((2 ^ k:Nat):Int)-1)=((n % 2 ^ k:Nat):Int):=by
 rw[←u2a,M5a (hn:=hk) _ _,u2a];simp
theorem X6b(v:Int)(k:Nat)(h0:0≤v)(hk:k≤62:=by omega):N8a v (((2 ^ k:Nat):Int)-1)=((v.toNat % 2 ^ k:Nat):Int):=by
 have:=F3b (hk:=hk) v.toNat k
 rwa [Int.toNat_of_nonneg h0] at this
theorem Y9c(a b l:Nat)(ha:a<2 ^ l)(a0:a+b*2 ^ l<2 ^ 62):bor (a:Int) ((b*2 ^ l:Nat):Int)=((a+b*2 ^ l:Nat):Int):=by
 have h1:a ||| b*2 ^ l=a+b*2 ^ l:=by
  have:=Nat.two_pow_add_eq_or_of_lt ha b;rw[Nat.or_comm,Nat.mul_comm,←this,Nat.add_comm]
 have h2:bor (a:Int) ((b*2 ^ l:Nat):Int)=IntKind.i64.wrap ((BitVec.ofInt 64 (a:Int) ||| BitVec.ofInt 64 ((b*2 ^ l:Nat):Int)).toNat:Int):=Z;rw[h2,C2b,C2b,BitVec.toNat_or,BitVec.toNat_ofNat,BitVec.toNat_ofNat,Nat.mod_eq_of_lt (by omega),Nat.mod_eq_of_lt (by omega),h1];exact L2a _
theorem k9a{y:Nat}(h:1≤(y:Int)∧(y:Int)≤8):2≤2 ^ y∧2 ^ y≤256 :=
 ⟨Nat.pow_le_pow_right (n:=2) (i:=1) (by omega) (by omega),Nat.pow_le_pow_right (n:=2) (j:=8) (by omega) (by omega)⟩
theorem G2d{z:Int}{y lo:Nat}(h:1≤(y:Int)∧(y:Int)≤8)(hz:0≤z)(hl:lo≤12):0≤N8a z (((2 ^ y:Nat):Int)-1)∧N8a z (((2 ^ y:Nat):Int)-1)*((2 ^ lo:Nat):Int)<9223372036854775808:=by
 rw[X6b z y hz];have h1:=k9a h;have h2:2 ^ lo≤4096:=Nat.pow_le_pow_right (n:=2) (j:=12) (by omega) (by omega);have h3:z.toNat % 2 ^ y<2 ^ y:=Nat.mod_lt _ (by omega);have h4:z.toNat % 2 ^ y*2 ^ lo≤256*4096:=Nat.mul_le_mul (by omega) h2;refine⟨Int.natCast_nonneg _,?_⟩;rw[←Int.natCast_mul];omega
theorem u6c{z:Int}{y lo a n t:Nat}(h:1≤(y:Int)∧(y:Int)≤8)(hz:0≤z)(hl:lo+y≤12)(ha:a<2 ^ lo)(ht:a+2 ^ lo*(z.toNat % 2 ^ y+2 ^ y*n)=t):
 ∃b:Nat,bor (a:Int) (N8a z (((2 ^ y:Nat):Int)-1)*((2 ^ lo:Nat):Int))=(b:Int)∧b<2 ^ (lo+y)∧b+2 ^ (lo+y)*n=t:=by
 have h1:=k9a h;have h2:2 ^ lo≤4096:=Nat.pow_le_pow_right (n:=2) (j:=12) (by omega) (by omega);have h3:z.toNat % 2 ^ y<2 ^ y:=Nat.mod_lt _ (by omega);have h4:z.toNat % 2 ^ y*2 ^ lo≤256*4096:=Nat.mul_le_mul (by omega) h2;have h5:(z.toNat % 2 ^ y+1)*2 ^ lo≤2 ^ y*2 ^ lo:=Nat.mul_le_mul_right _ h3;rw[Nat.add_mul,Nat.one_mul] at h5;refine⟨a+z.toNat % 2 ^ y*2 ^ lo,?_,?_,?_⟩
 ·rw[X6b z y hz,←Int.natCast_mul];exact Y9c _ _ _ ha (by omega)
 ·rw[Nat.pow_add,Nat.mul_comm (2 ^ lo)];omega
 ·rw[←ht,Nat.pow_add,Nat.mul_add,Nat.mul_assoc,Nat.mul_comm (2 ^ lo) (z.toNat % 2 ^ y)];omega
theorem R8a(C W s:List Int)(n:Nat)(M:List Nat)(w0:World)(v u i vb:Value)(hC:RdI M w0 v C)(hW:RdI M w0 u W)(h:V9a C W)(hs:c2a W≤12)(hb:RdI M w0 vb s)(u0:s.length=32)(K0:∀x∈s,0≤x∧x<256)(hn:n<4096:=by omega):A0a prog 126 #[.agg #[v,u,i],.int .i64 n,vb] w0 fun v w'=>X3a w0 w' v (stZ C W n s)∧Bw w0 w':=by
 obtain⟨A,nc,c,rfl⟩:=hC.form;obtain⟨_,-,_⟩:=hC.len;obtain⟨A',nw,c',rfl⟩:=hW.form;obtain⟨_,-,_⟩:=hW.len;have H0:=h.len;have S:=St.refl w0;refine a0a func126 Z ntmps126 Z ?_;refine wO1 Z (o0a S Z ?_);intro g3 w3 S3 X3 G3;refine lOn 5 S3.k [] Z U (J0a Z ?_);refine h0a S3 N0b Z Z (w6a M _ _ s (hb.keep (S3.keep0 M))) ?_;rintro U0 V0 o0 y0 Q0;obtain⟨Gm,b0,c0,a0⟩:=o0.open_ y0 S3;obtain⟨d0,s0,f0,rfl⟩:=c0.form;refine lO a0.k [.w 1] Z ⟨⟨Z,Z⟩,U⟩ (r0a a0 f7b Z Z (P8a M _ _ _ _ C W (hC.keep (a0.keep0 M)) (hW.keep (a0.keep0 M)) h hs) ?_);intro W0 t0 R0;refine lC t0.k [.o 1] Z ⟨Z,U⟩ (wL (fun μk D ε w=>D=[]∧∃k:Nat,∃m:Nat,∃st:List Int,∃b0:LV,(k+μk=(C.length))∧(S4a Gm 1 32 b0 (.slice d0 s0 f0) (st.map (Value.int .i64)))∧(m<4096)∧(st.length=32)∧(stZ (C.drop k) (W.drop k) m st=stZ C W n s)∧St [] w0 w [(Gm,3,b0),(some g3,89,[.slice A nc c,.slice A' nw c',i])]∧Sl ε [(1,.int .i64 (m:Int)),(3,.pointer (some ⟨g3,0,none⟩)),(7,.slice d0 s0 f0),(18,.slice A nc c),(19,.int .i64 nc),(20,.int .i64 k)]) (μ:=(C.length)) ⟨Z,0,n,s,b0,by omega,u0▸c0,hn,u0,Z,t0,Z⟩ ?_);rintro μk D ε w ⟨rfl,k,m,st,b0,_,c0,hm,r0,he,S,eZ⟩;refine wK eZ (wB1 Z (fun C0=>?_) fun C0=>?_)
 ·obtain⟨x,A0,N0,_,v0,g0,_,_,j0,p0⟩:=RdS.get (hC) (k) (by omega);obtain⟨rfl,_⟩:=id p0;have S0:=h.cell x (c0a v0);obtain⟨y,B0,O0,_,x0,i0,_,_,m0,q0⟩:=RdS.get (hW) (k) (by omega);obtain⟨rfl,_⟩:=id q0;have D0:=h.wid y (c0a x0);obtain⟨y,rfl⟩:=Int.eq_ofNat_of_zero_le (show 0≤y by omega);have T0:=k9a D0;have G0:=o8b v0 x0 m st;have F0:=F3b m y;obtain⟨gm,pad,rfl,L0,rfl,I0⟩:=c0.pad (by omega);cases L0;refine lB ((S.k.a m0).a j0) [.x A0 N0,.f 0 0,.o 1,.x B0 O0,.f 1 0] Z ⟨Z,⟨i0,by omega⟩,Z,Z,⟨g0,by omega⟩,U⟩ (fun E0=>?_) (fun E0=>by exfalso;omega);refine lO1 Z (F2b (n:=y) Z Z ?_);refine lO0 Z ⟨by omega,U⟩ (N0a R0a.slT Z (by rfl) Z Z ?_);refine X0a (kk:=0) S L1d Z Z Z (by(simp;omega)) ?_;intro P0 e0 z0;refine lO1 Z (P4d (n:=y) Z (by rfl) (by omega) Z ?_);refine lP1 Z ?_;refine⟨μk-1,by omega,Z,k+1,(m / 2 ^ y),(st.set x.toNat ((m % 2 ^ y:Nat):Int)),_,by omega,?_,(Nat.lt_of_le_of_lt (Nat.div_le_self _ _) hm),(by simp[r0]),(by rw[←he,G0];rfl),e0,Z⟩;have z:=S4a.ofPad (g:=gm) (l:=st.set x.toNat ((m % 2 ^ y:Nat):Int)) (pad:=pad) (by simpa using I0);rw[←v1c] at z;rw[F0];simpa[r0] using z
 refine lR1 Z (w0a Z ?_);have n0:st=stZ C W n s:=by rw[←he,show C.drop k=[] from List.drop_eq_nil_of_le (by omega)];rfl
 have J0:d5a 3 w0 w (.slice d0 s0 f0) (stZ C W n s):=⟨Gm,b0,by rw[←n0,r0];exact c0,fun g hg=>by subst hg;exact⟨by simpa using S.new 0 Z,S.blk 0 Z⟩⟩;exact⟨fun M hM=>J0.rd hM (fun x hx=>by have:=y1b C W n s h.wid K0 x hx;unfold i64;omega) S.fin (by rw[a1b];omega),S.fin⟩
theorem n6b(C W s:List Int)(M:List Nat)(w0:World)(v u i vb:Value)(hC:RdI M w0 v C)(hW:RdI M w0 u W)(h:V9a C W)(hs:c2a W≤12)(hb:RdI M w0 vb s)(O0:s.length=32)(p0:∀x∈s,0≤x):A0a prog 129 #[.agg #[v,u,i],vb] w0 fun v w'=>v=.int .i64 (nuZ C W s:Nat)∧Bw w0 w':=by
 obtain⟨A,nc,c,rfl⟩:=hC.form;obtain⟨_,-,_⟩:=hC.len;obtain⟨A',nw,c',rfl⟩:=hW.form;obtain⟨_,-,_⟩:=hW.len;obtain⟨Ab,nb,cb,rfl⟩:=hb.form;obtain⟨_,-,_⟩:=hb.len;have D0:=h.len;have S:=St.refl w0;refine a0a func129 Z ntmps129 Z ?_;refine wO1 Z (o0a S Z ?_);intro g2 w2 S2 X2 G2;refine lO S2.k [.w 0] Z ⟨⟨Z,Z⟩,U⟩ (r0a S2 f7b Z Z (P8a M _ _ _ _ C W (hC.keep (S2.keep0 M)) (hW.keep (S2.keep0 M)) h hs) ?_);intro R0 o0 J0;refine lC o0.k [.o 0] Z ⟨Z,U⟩ (wL (fun μk D ε w=>D=[]∧∃k:Nat,∃acc:Int,∃lo:Nat,(k+μk=(C.length))∧((lo:Int)=c2a (W.take k))∧(∃a:Nat,acc=(a:Int)∧a<2 ^ lo∧a+2 ^ lo*nuZ (C.drop k) (W.drop k) s=nuZ C W s)∧St [] w0 w [(some g2,89,[.slice A nc c,.slice A' nw c',i])]∧Sl ε [(1,.slice Ab nb cb),(2,.pointer (some ⟨g2,0,none⟩)),(5,.int .i64 acc),(6,.int .i64 (lo:Int)),(14,.slice A nc c),(15,.int .i64 nc),(16,.int .i64 k)]) (μ:=(C.length)) ⟨Z,0,0,0,by omega,Z,⟨0,Z,by omega,by simp⟩,o0,Z⟩ ?_);rintro μk D ε w ⟨rfl,k,acc,lo,_,_,he,S,eZ⟩;refine wK eZ (wB1 Z (fun z0=>?_) fun z0=>?_)
 ·obtain⟨x,v0,G0,_,r0,b0,_,_,e0,i0⟩:=RdS.get (hC) (k) (by omega);obtain⟨rfl,_⟩:=id i0;have K0:=h.cell x (c0a r0);obtain⟨y,x0,H0,_,n0,c0,_,_,f0,j0⟩:=RdS.get (hW) (k) (by omega);obtain⟨rfl,_⟩:=id j0;have a0:=h.wid y (c0a n0);obtain⟨y,rfl⟩:=Int.eq_ofNat_of_zero_le (show 0≤y by omega);have L0:=k9a a0;have B0:=U7b r0 n0 s;have F0:=Q4a n0;have Q0:=e2a h.wid (k+1);have P0:=e2a h.wid k;refine lB ((S.k.a f0).a e0) [.x v0 G0,.f 0 0,.o 0,.x x0 H0,.f 1 0] Z ⟨Z,⟨c0,by omega⟩,Z,Z,⟨b0,by omega⟩,U⟩ (fun A0=>?_) (fun A0=>by exfalso;omega);have q0:x.toNat<s.length:=by omega
  have E0:0≤s[x.toNat]:=p0 _ (List.getElem_mem q0);have C0:s.getD x.toNat 0=s[x.toNat]:=by rw[List.getD_eq_getElem?_getD,List.getElem?_eq_getElem q0];rfl
  refine lC1 Z (y0a b0a [0,1,2,3,4,5,6,7,8,9,10,11,12] [] [] Z (Cl _ _ _ _) (Cl.start S) ?_);obtain⟨z,y0,I0,_,s0,d0,_,_,g0,m0⟩:=RdS.get (hb) (x.toNat) (by omega);obtain⟨rfl,_⟩:=id m0;have t0:=p0 z (c0a s0);have N0:=G2d a0 t0 (show lo≤12 by omega);refine qO (S.q.a g0) [.x y0 I0,.f 0 0] Z ⟨Z,⟨d0,by omega⟩,U⟩ (P2d (n:=y) Z (by rfl) (by omega) Z ?_);refine qO0 Z ⟨by omega,U⟩ (R1d (n:=lo) Z (by rfl) (by omega) (by assumption) Z ?_);refine lV Z ?_;rintro S0 ⟨u0,_⟩;refine lP0 Z ⟨by omega,by omega,U⟩ ?_;refine⟨μk-1,by omega,Z,k+1,_,(lo+y),by omega,(by rw[F0];omega),?_,u0,Z⟩;obtain⟨a,rfl,ha,ht⟩:=he;rw[B0,C0,(List.getElem?_eq_some_iff.1 s0).2] at ht;exact u6c a0 t0 (by omega) ha ht
 refine lR1 Z (w0a Z ?_);obtain⟨a,rfl,ha,ht⟩:=he;rw[show C.drop k=[] from List.drop_eq_nil_of_le (by omega)] at ht;exact⟨by rw[←ht];simp[nuZ],S.fin⟩
section
variable {P:Program} {r:Option Nat} {N:Nat} {l:List Oper} {D:List Deferred} {C:World→Prop} {V:s2c}
def a7c(l:List Oper)(pur:Nat→Bool)(m:Nat):Bool :=
 q3a l&&((List.range l.length).all fun i=>(d1a l i).all fun j=>decide (j<i))&&((List.range m).all fun i=>(List.range i).all fun j=>(f4a l i).contains j||u9a l pur j i)&&((List.range l.length).all fun i=>decide (i<m)||(List.range i).all fun j=>(f4a l i).contains j)&&decide (m<l.length)
def TL(P:Program)(r:Option Nat)(N:Nat)(l:List Oper)(D:List Deferred)(n:List Deferred→Env→World→Prop):List Oper→Env→World→Prop
 | [],e,w=>n D e w
 | o::rest,e,w=>WL P r N l.toArray [o] (fun D' e' w'=>D'=D∧TL P r N l D n rest e' w') D e w
theorem G7b{id:Nat}{n t:List Deferred→Env→World→Prop}{b:Nat→List Deferred→Env→World→Prop}{e:Env}{w:World}(hm:P.follows .mixedOrders=true)(ix:List Nat)
 (m:Nat) (C:World→Prop) (hC:C w.drew) (V:s2c) (hV:∀i f args Qp Qw,V i=some (f,args,Qp,Qw)→(∃u,Qp u)∧(∀u w w',x0a [] w w'→Qw u w→Qw u w')∧∀w,C w→A0a P f args w fun u w'=>(Qp u∧Qw u w')∧C w'∧x0a [] w w') (ts:List Oper) (O0:l.drop m=ts)
 (h:FL P N l C V (fun e w=>TL P r N l D n ts e w) w.heap.size ix e [] (fun _=>True)) (t0:a7c l (fun _=>true) m=true:=by kernel_rfl) (hix:(List.range m==ix)=true:=by kernel_rfl):W P r N (.region id l.toArray true) ⟨n,b,t⟩ D e w:=by
 obtain rfl:List.range m=ix:=eq_of_beq hix;subst O0;generalize y0:(fun(e:Env) (w:World)=>TL P r N l D n (l.drop m) e w)=K' at h;unfold a7c at t0;simp only[Bool.and_eq_true,decide_eq_true_eq] at t0;obtain⟨⟨⟨⟨u0,E0⟩,H0⟩,f0⟩,L0⟩:=t0;have K0:∀i,m≤i→i<l.length→∀j,j<i→j∈f4a l i:=fun i d0 hi j hj=>by
  have:=List.all_eq_true.1 f0 i (List.mem_range.2 hi);simp only[Bool.or_eq_true,decide_eq_true_eq] at this;rcases this with h|h
  ·omega
  ·have:=List.all_eq_true.1 h j (List.mem_range.2 hj);simpa using this
 refine V4c hm E0 (fun f e w=>(∀i,f i=true→∀j∈d1a l i,f j=true)∧(((∀i,m≤i→f i=false)∧C w∧∃lo Φ,lo≤w.heap.size∧(∀w w',Φ w→x0a [] w w'→Φ w')∧Φ w∧FL P N l C V K' lo (B7a m f) e [] Φ)∨(∃q,m<q∧(∀i,q≤i→f i=false)∧(∀i,i<q→f i=true)∧TL P r N l D n (l.drop q) e w))) ⟨by simp,.inl ⟨fun _ _=>rfl,hC,w.heap.size,fun _=>True,Nat.le_refl _,fun _ _ _ _=>trivial,trivial,?_⟩⟩ ?_ ?_
 ·have:B7a m (fun _=>false)=List.range m:=by unfold B7a;simp
  rw[this];exact h
 ·rintro f e w i o ⟨o0,hM⟩ ho r0 v0;have s0:i<l.length:=(List.getElem?_eq_some_iff.1 ho).1;have b0:∀k,(f k||k==i)=true→∀j∈d1a l k,(f j||j==i)=true:=by
   intro k hk j hj;simp only[Bool.or_eq_true,beq_iff_eq] at hk ⊢;rcases hk with hk|rfl
   ·exact .inl (o0 k hk j hj)
   ·exact .inl (v0 j hj)
  have a0:m≤i→∀j,j<i→f j=true:=fun d0 j hj=>s3a o0 _ _ v0 j (K0 i d0 s0 j hj);have j0:∀e w,m≤i→(∀k,i≤k→f k=false)→TL P r N l D n (l.drop i) e w→WL P r N l.toArray [o] (fun D' e' w'=>D'=D∧(∀k,(f k||k==i)=true→∀j∈d1a l k,(f j||j==i)=true)∧(((∀k,m≤k→(f k||k==i)=false)∧C w'∧∃lo Φ,lo≤w'.heap.size∧(∀w w',Φ w→x0a [] w w'→Φ w')∧Φ w'∧FL P N l C V K' lo (B7a m fun j=>f j||j==i) e' [] Φ)∨(∃q,m<q∧(∀k,q≤k→(f k||k==i)=false)∧(∀k,k<q→(f k||k==i)=true)∧TL P r N l D n (l.drop q) e' w'))) D e w:=fun e w d0 F0 h4=>by
   obtain⟨h1,h2⟩:=List.getElem?_eq_some_iff.1 ho;rw[List.drop_eq_getElem_cons h1,h2] at h4;unfold TL at h4;clear hM h y0;unfold WL at *;refine fun a Q hs hD he hK=>h4 a Q hs hD he (fun a' w' Q0 hh=>hK a' w' Q0 ?_);refine⟨hh.1,b0,.inr ⟨i+1,by omega,fun k hk=>?_,fun k hk=>?_,hh.2⟩⟩
   ·rw[F0 k (by omega)];simp;omega
   ·by_cases J0:k=i
    ·simp[J0]
    ·rw[a0 d0 k (by omega)];rfl
  rcases hM with⟨e0,n0,lo,Φ,C0,g0,hΦ,hM⟩|⟨q,hq,p0,A0,hM⟩
  rotate_left
  ·have T0:q≤i:=by
    rcases Nat.lt_or_ge i q with h|h
    ·rw[A0 i h] at r0;cases r0
    ·exact h
   have I0:i=q:=by
    rcases Nat.lt_or_ge q i with h|h
    ·have:=a0 (by omega) q h;rw[p0 q (Nat.le_refl _)] at this;cases this
    ·omega
   subst I0;exact j0 e w (by omega) p0 hM
  by_cases G0:m≤i
  ·have d0:i=m:=by
    rcases Nat.lt_or_ge m i with h|h
    ·have:=a0 G0 m h;rw[e0 m (Nat.le_refl _)] at this;cases this
    ·omega
   subst d0;have x0:B7a i f=[]:=by
    unfold B7a;rw[List.filter_eq_nil_iff];intro j hj;simp[a0 (Nat.le_refl _) j (List.mem_range.1 hj)]
   rw[x0] at hM;have h4:=hM w n0 hΦ;rw[←y0] at h4;exact j0 e w (Nat.le_refl _) e0 h4
  have B0:i<m:=by omega
  have c0:∀k,m≤k→(f k||k==i)=false:=fun k hk=>by rw[e0 k hk];simp;omega
  obtain⟨S0,_,h1,h2,h3⟩:=M0b (m:=m) f B0 r0;rw[h1] at hM;have R0:∀j∈f4a l i,f j=true:=s3a o0 _ _ v0;obtain⟨o',_,N0,hd,hN,h4⟩:=FL.first u0 (fun i f args Qp Qw h=>(hV i f args Qp Qw h).1) n0 C0 S0 e [] Φ (fun j hj=>by
   have:=List.all_eq_true.1 (List.all_eq_true.1 H0 i (List.mem_range.2 B0)) j (List.mem_range.2 (h3 j hj).1);simp only[Bool.or_eq_true,List.contains_eq_mem,decide_eq_true_eq] at this;rcases this with h|h
   ·have:=R0 j h;rw[(h3 j hj).2] at this;cases this
   ·exact h) (by simp) hM
  obtain rfl:o'=o:=Option.some.inj (N0.symm.trans ho);rcases h4 with⟨hw,v,w',hv,m0,q0,h4⟩|⟨hw,h4⟩|⟨hw,f',args,Qp,Qw,z0,hv,h4⟩
  rotate_right
  ·unfold WL;intro a Q hs hD he hK;simp only[wpListIn];have i0:Region.wanted o' (yielded l.toArray a.tmps)=true:=by rw[p1a,he];exact hw
   simp only[i0,if_true];refine⟨I0a _ _ _,?_⟩;rw[Oper.semAt_eq _ _ _ (z0a u0 ho).2,v2a,he,hv,Oper.uponIn_enter];refine⟨fun hh=>by simp[fc,Fence.wide] at hh,F5a (Calls.mono ((hV _ _ _ _ _ z0).2.2 w n0) ?_)⟩;rintro en w' ⟨u,rfl,⟨hu,D0⟩,m0,q0⟩;rw[hd];refine hK _ _ (by simp[Act.put,hs]) ⟨by simp[Act.put,hD],?_⟩;rw[b1a u (by rw[hs];exact hN),he];exact⟨b0,.inl ⟨c0,m0,w'.heap.size,(fun w1=>(Φ w1∧Qw u w1)∧x0a [] w' w1),Nat.le_refl _,fun w1 w2 h5 h6=>⟨⟨g0 _ _ h5.1.1 h6,(hV _ _ _ _ _ z0).2.1 u _ _ h6 h5.1.2⟩,h5.2.trans h6⟩,⟨⟨g0 _ _ hΦ q0,D0⟩,x0a.refl _ _⟩,by rw[h2];exact h4 u w' hu D0 m0 q0⟩⟩
  ·unfold WL;intro a Q hs hD he hK;simp only[wpListIn];have i0:Region.wanted o' (yielded l.toArray a.tmps)=true:=by rw[p1a,he];exact hw
   simp only[i0,if_true];refine⟨I0a _ _ _,?_⟩;rw[Oper.semAt_eq _ _ _ (z0a u0 ho).2,v2a,he,hv,Oper.uponIn_value];refine hK _ _ (by simp[Act.put,hd,hs]) ⟨by simp[Act.put,hd,hD],?_⟩;rw[hd,b1a v (by rw[hs];exact hN),he];exact⟨b0,.inl ⟨c0,m0,w'.heap.size,(fun w1=>Φ w1∧x0a [] w' w1),Nat.le_refl _,fun w1 w2 h5 h6=>⟨g0 _ _ h5.1 h6,h5.2.trans h6⟩,⟨g0 _ _ hΦ q0,x0a.refl _ _⟩,by rw[h2];exact h4⟩⟩
  ·unfold WL;intro a Q hs hD he hK;simp only[wpListIn];have i0:Region.wanted o' (yielded l.toArray a.tmps)=false:=by rw[p1a,he];exact hw
   simp only[i0];refine⟨I0a _ _ _,?_⟩;refine hK _ _ (by simp[Act.put,hd,hs]) ⟨by simp[Act.put,hd,hD],?_⟩;rw[hd,b1a undef (by rw[hs];exact hN),he];exact⟨b0,.inl ⟨c0,n0,lo,Φ,C0,g0,hΦ,by rw[h2];exact h4⟩⟩
 ·rintro f e w ⟨o0,hM⟩ a0;rcases hM with⟨e0,-⟩|⟨q,hq,p0,A0,hM⟩
  ·have:=a0 m L0;rw[e0 m (Nat.le_refl _)] at this;cases this
  ·have P0:l.length≤q:=by
    rcases Nat.lt_or_ge q l.length with h|h
    ·have:=a0 q h;rw[p0 q (Nat.le_refl _)] at this;cases this
    ·exact h
   rw[List.drop_eq_nil_of_le P0] at hM;exact hM
theorem K0c{n:List Deferred→Env→World→Prop}{e:Env}{w:World}(h:n D e w):TL P r N l D n [] e w:=h
theorem x7a{n:List Deferred→Env→World→Prop}{e:Env}{w:World}{o:Oper}{rest:List Oper}(h:WL P r N l.toArray [o] (fun D' e' w'=>D'=D∧TL P r N l D n rest e' w') D e w):TL P r N l D n (o::rest) e w:=h
end
def o2a:LV:=List.replicate 64 (uV 0)
theorem p7b{k:Nat}(h:k<64:=by omega):o2a[(k:Int).toNat*1]?=some (uV 0):=by
 unfold o2a;rw[Int.toNat_natCast,Nat.mul_one,List.getElem?_replicate,if_pos h]
theorem m0b:e0a o2a 0 o2a=o2a:=by rfl
theorem d8b:o2a.length=64:=by simp[o2a]
theorem f5c{k:Nat}(h:k<64):o2a.set k (uV 0)=o2a:=by
 apply List.ext_getElem?;intro i;rw[List.getElem?_set]
 split
 ·rename_i h1;subst h1;rw[if_pos (by rw[d8b];omega)];have:=p7b (h:=h);rw[Int.toNat_natCast,Nat.mul_one] at this;exact this.symm
 ·rfl
theorem N4b(g:Nat)(w0:World)(hB:Cells w0 g 0 o2a):A0a prog 231 #[.pointer (some ⟨g,0,none⟩)] w0 fun v w'=>v=.slice none 0 0∧Bw w0 w':=by
 have S:=St.refl w0;refine a0a func231 Z ntmps231 Z ?_;refine wC1 Z (wL (fun μk D ε w=>D=[]∧∃k:Nat,(k+μk=(64))∧St [] w0 w []∧Sl ε [(3,.slice none 0 0),(6,.pointer (some ⟨g,0,none⟩)),(7,.int .i64 k)]) (μ:=(64)) ⟨Z,0,by omega,S,Z⟩ ?_);rintro μk D ε w ⟨rfl,k,_,S,eZ⟩;refine wK eZ (wB1 Z (fun h8=>?_) fun h8=>?_)
 ·have hz:=(S.keep0 []).cell (a:=⟨g,_,none⟩) List.not_mem_nil (hB _ _ (p7b (k:=k)));refine lC1 Z (y0a b0a [0,1,2,3,4,5] [] [] Z (Cl _ _ _ _) (Cl.start S) ?_);refine qO1 Z (v0a t3b Z Z Z ?_);refine j0a O4a Z (fun w1 hw=>by first|exact hw.2.cell List.not_mem_nil hz) Z ?_;refine lV Z ?_;rintro c0 ⟨a0,_⟩;refine lC1 Z (wL (fun μ D ε w=>D=[]∧(0≤μ)∧St [] w0 w []∧Sl ε [(3,.slice none 0 0),(4,.int .i64 k),(5,.int .u64 ((0:Nat):Int)),(6,.pointer (some ⟨g,0,none⟩)),(7,.int .i64 k)]) (μ:=0) ⟨Z,Nat.zero_le _,a0,Z⟩ ?_);rintro μ D ε w ⟨rfl,_,S,eZ⟩;refine wK eZ (wOn 4 S.k [] Z U ?_);refine N4d Z Z Z (fun b0=>?_) fun b0=>?_
  ·exfalso;omega
  refine lP1 Z ⟨μk-1,by omega,Z,k+1,by omega,S,Z⟩
 exact lU Z Z ⟨Z,S.fin⟩
theorem e8b(A:Option Addr)(c:Nat)(w0:World):A0a prog 262 #[.slice A 0 c] w0 fun v w'=>v=.agg o2a.toArray∧Bw w0 w':=by
 have S:=St.refl w0;refine a0a func262 Z ntmps262 Z ?_;refine wO1 Z (g0a (cs:=o2a) S E4b Z Z ?_);intro g2 w2 S2 X2 G2;refine lO1 Z (g0a (cs:=o2a) S2 E4b Z Z ?_);intro g3 w3 S3 X3 G3;refine lC1 Z (wL (fun μ D ε w=>D=[]∧(0≤μ)∧St [] w0 w [(some g3,259,o2a),(some g2,259,o2a)]∧Sl ε [(2,.pointer (some ⟨g2,0,none⟩)),(3,.pointer (some ⟨g3,0,none⟩)),(6,.slice A 0 c),(7,.int .i64 0),(8,.int .i64 0)]) (μ:=0) ⟨Z,Nat.zero_le _,S3,Z⟩ ?_);rintro μ D ε w ⟨rfl,_,S,eZ⟩;refine wK eZ ?_;refine wB1 Z (fun h9=>by exfalso;omega) fun h9=>?_;refine lO S.k [.w 0] Z ⟨⟨Z,by rfl⟩,U⟩ (d0a (kk:=1) (vs:=o2a) S E1c Z Z Z Z Z Z Z ?_);intro c0 a0 b0;rw[m0b] at a0;exact lR1 Z (t0a (n:=64) Z B8b Z (a0.cells 1 Z) Z ⟨Z,a0.fin⟩)
def h4c(u:Value):Prop:=∃A n c B m d E l f,u=.agg #[.slice A n c,.slice B m d,.slice E l f]
theorem S4c{w0 w:World}{v:Value}{Ai:Option Addr}{ni ci:Nat}{C W:List Int}(h:∃a b,v=.agg #[a,b,.slice Ai ni ci]∧X3a w0 w a C∧X3a w0 w b W):h4c v:=by
 obtain⟨a,b,rfl,h1,h2⟩:=h;obtain⟨_,_,_,rfl⟩:=h1.form;obtain⟨_,_,_,rfl⟩:=h2.form;exact⟨_,_,_,_,_,_,_,_,_,Z⟩
theorem V4b(l:List Int)(M:List Nat)(w0:World)(v u:Value)(hC:RdI M w0 v l)(hW:RdI M w0 u l):A0a prog 261 #[v,u] w0 fun v w'=>v=.bool true∧Bw w0 w':=by
 obtain⟨A,n,c,rfl⟩:=hC.form;obtain⟨_,-,_⟩:=hC.len;obtain⟨A',n',c',rfl⟩:=hW.form;obtain⟨_,-,_⟩:=hW.len;have S:=St.refl w0;refine a0a func261 Z ntmps261 Z ?_;refine wB1 Z (fun n0=>by exfalso;omega) fun n0=>?_;refine lC1 Z (wL (fun μk D ε w=>D=[]∧∃k:Nat,(k+μk=(l.length))∧St [] w0 w []∧Sl ε [(0,.slice A n c),(1,.slice A' n' c'),(12,.int .i64 n),(13,.int .i64 k)]) (μ:=(l.length)) ⟨Z,0,by omega,S,Z⟩ ?_);rintro μk D ε w ⟨rfl,k,_,S,eZ⟩;refine wK eZ (wB1 Z (fun o0=>?_) fun o0=>?_)
 ·refine lC1 Z (y0a b0a [0,1,2,3,4,5,6,7,8] [] [] Z (Cl _ _ _ _) (Cl.start S) ?_);obtain⟨x,j0,r0,_,q0,a0,_,_,c0,e0⟩:=RdS.get (hC) (k) (by omega);obtain⟨rfl,_⟩:=id e0;obtain⟨_,m0,s0,_,g0,b0,_,_,d0,f0⟩:=RdS.get (hW) (k) (by omega);obtain rfl:=Option.some.inj (q0.symm.trans g0);obtain⟨rfl,_⟩:=id f0;refine qB ((S.q.a d0).a c0) [.x j0 r0,.f 0 0,.x m0 s0,.f 1 0] Z ⟨Z,⟨b0,by omega⟩,Z,⟨a0,by omega⟩,U⟩ (fun p0=>by exfalso;omega) fun p0=>?_;refine lV Z ?_;rintro t0 ⟨i0,_⟩;refine lP1 Z ⟨μk-1,by omega,Z,k+1,by omega,i0,Z⟩
 exact lU Z Z ⟨Z,S.fin⟩
theorem A4c(w0:World):A0a prog 240 #[uV 0,uV 0] w0 fun v w'=>v=uV 0∧Bw w0 w':=by
 have S:=St.refl w0;refine a0a func240 Z ntmps240 Z ?_;refine wOn 9 S.k [] Z U (W2c (n:=0) (m:=0) Z Z (by omega) Z ?_);exact lU Z Z ⟨Z,S.fin⟩
theorem k9b(M:List Nat)(w0:World)(v u:Value)(Ai:Option Addr)(ci:Nat)(C W:List Int)(c0:RdI M w0 v C)(hW:RdI M w0 u W)(hI:RdI M w0 (.slice Ai 0 ci) [])(h:V9a C W)(hs:c2a W≤12):
 A0a prog 239 #[.agg #[v,u,.slice Ai 0 ci],.agg #[v,u,.slice Ai 0 ci],.func (.func 240) #[] #[]] w0 fun v w'=>(∃a,h4c a∧v=.tuple #[a,.int .i64 0])∧Bw w0 w':=by
 obtain⟨A,n,c,rfl⟩:=c0.form;obtain⟨A',n',c',rfl⟩:=hW.form;have R0:=h.clen;have E0:=h.len;have B0:∀x∈C,i64 x:=fun x hx=>by have:=h.cell x hx;unfold i64;omega
 have F0:∀x∈W,i64 x:=fun x hx=>by have:=h.wid x hx;unfold i64;omega
 have S:=St.refl w0;refine a0a func239 Z ntmps239 Z ?_;refine wO1 Z (o0a S Z ?_);intro g3 w3 S3 X3 G3;refine o0a S3 Z ?_;intro g4 w4 S4 X4 G4;refine g0a S4 D5a Z Z ?_;intro g6 w6 S6 X6 G6;refine lO S6.k [.w 2] Z ⟨⟨Z,Z⟩,U⟩ (r0a S6 T2c Z Z (k2b M _ _ _ Ai ci C W (c0.keep (S6.keep0 M)) (hW.keep (S6.keep0 M)) (hI.keep (S6.keep0 M)) h hs) ?_);intro T0 d0 L0;refine lO d0.k [.w 1] Z ⟨⟨Z,Z⟩,U⟩ (r0a d0 T2c Z Z (k2b M _ _ _ Ai ci C W (c0.keep (d0.keep0 M)) (hW.keep (d0.keep0 M)) (hI.keep (d0.keep0 M)) h hs) ?_);intro U0 i0 N0;refine lO i0.k [.o 2,.o 1] Z ⟨Z,Z,U⟩ (r0a i0 T1c Z Z (V4b C M _ _ _ (c0.keep (i0.keep0 M)) (c0.keep (i0.keep0 M))) ?_);intro V0 j0 O0;refine lO j0.k [.o 2,.o 1] Z ⟨Z,Z,U⟩ (r0a j0 T1c Z Z (V4b W M _ _ _ (hW.keep (j0.keep0 M)) (hW.keep (j0.keep0 M))) ?_);intro W0 m0 P0;refine lC1 Z (G7b b0a [0,1,2,3,4,5,6,7] 8 (Cl _ _ _ _) (Cl.start m0) (fun i=>if i=2 then some (262,#[.slice Ai 0 ci],eqQ (.agg o2a.toArray),noQ) else if i=5 then some (262,#[.slice Ai 0 ci],eqQ (.agg o2a.toArray),noQ) else none) ?_ _ Z ?_)
 ·intro i f a Qp Qw hi;by_cases q0:i=2
  ·subst q0;cases hi;exact⟨⟨_,Z⟩,fun _ _ _ _ _=>trivial,fun w hC=>(e8b Ai ci _).mono fun u w' hr=>⟨⟨hr.1,trivial⟩,hC.later hr.2⟩⟩
  by_cases s0:i=5
  ·subst s0;cases hi;exact⟨⟨_,Z⟩,fun _ _ _ _ _=>trivial,fun w hC=>(e8b Ai ci _).mono fun u w' hr=>⟨⟨hr.1,trivial⟩,hC.later hr.2⟩⟩
  ·simp only[q0,s0,if_false] at hi;cases hi
 refine y0c Z Z ?_;refine q1a L6b Z Z ?_;refine n0a ?_;refine y0c Z Z ?_;refine j0a o6a Z (fun w1 hw=>by exact hw.1.cell 2 Z Z) Z ?_;refine n0a ?_;refine Q6b B0c Z Z Z Z Z ?_;refine y0c Z Z ?_;refine q1a L6b Z Z ?_;refine n0a ?_;refine y0c Z Z ?_;refine j0a o6a Z (fun w1 hw=>by exact hw.1.cell 1 Z Z) Z ?_;refine n0a ?_;refine Q6b B0c Z Z Z Z Z ?_;refine N7b (cs:=o2a) Z Z Z E4b Z ?_;intro g8 G8 G0;refine N7b (cs:=o2a) Z Z Z E4b Z ?_;intro g9 G9 H0;refine y3c ?_;rintro Y0 ⟨g0,_⟩ ⟨⟨-,C0⟩,D0⟩;clear G0;replace g0:=g0.push_new m0 C0 G8;replace g0:=g0.push_more (L1:=[_]) m0 D0 G9 (by simpa[eq_comm] using H0);refine x7a ?_;refine d0a (kk:=1) (vs:=o2a) g0 E1c Z Z Z Z Z Z Z ?_;intro I0 e0 x0;rw[m0b] at e0;refine S0a ⟨Z,?_⟩;refine x7a ?_;refine d0a (kk:=0) (vs:=o2a) e0 E1c Z Z Z Z Z Z Z ?_;intro J0 f0 y0;rw[m0b] at f0;refine S0a ⟨Z,?_⟩;refine K0c ?_;refine fC0 Z U (wL (fun μk D ε w=>D=[]∧∃k:Nat,(k+μk=(64))∧St [] w0 w [(some g9,259,o2a),(some g8,259,o2a),(some g6,89,[.slice none 0 0,.slice none 0 0,.slice none 0 0]),(some g4,89,[.slice A n c,.slice A' n' c',.slice Ai 0 ci]),(some g3,89,[.slice A n c,.slice A' n' c',.slice Ai 0 ci])]∧Sl ε [(2,.func (.func 240) #[] #[]),(3,.pointer (some ⟨g3,0,none⟩)),(6,.pointer (some ⟨g6,0,none⟩)),(8,.pointer (some ⟨g8,0,none⟩)),(9,.pointer (some ⟨g9,0,none⟩)),(42,.int .i64 k)]) (μ:=(64)) ⟨Z,0,by omega,f0,Z⟩ ?_);rintro μk D ε w ⟨rfl,k,_,S,eZ⟩;refine wK eZ (wB1 Z (fun A0=>?_) fun A0=>?_)
 ·have hz:o2a[0+(k:Int).toNat*1]?=some (uV 0):=by rw[Nat.zero_add];exact p7b (k:=k)
  refine lC1 Z (y0a b0a [0,1,2,3,4,5,6,7,8,9] [] [10] Z (Cl _ _ _ _) (Cl.start S) ?_);refine qO1 Z (v0a t3b Z Z Z ?_);refine j0a O4a Z (fun w1 hw=>by exact hw.1.cell 1 Z hz) Z ?_;refine qO1 Z (v0a t3b Z Z Z ?_);refine j0a O4a Z (fun w1 hw=>by exact hw.1.cell 0 Z hz) Z ?_;refine s6b (caps:=#[]) k1d Z Z Z (fun w1 hw=>H3b hw ((fun w1 S1 X1=>A4c _) w1 hw.1 hw.2) fun _ _ h=>h) ?_;refine v0a t3b Z Z Z ?_;refine lV Z ?_;rintro Z0 ⟨v0,_⟩;refine X0a (hy:=Z) (kk:=1) (v:=uV 0) v0 z2b Z Z Z (by rw[d8b];simp;omega) ?_;intro t0 a0 p0;rw[show 0+(k:Int).toNat*1=k by simp,f5c (by omega)] at a0;refine lP1 Z ⟨μk-1,by omega,Z,k+1,by omega,a0,Z⟩
 refine lC1 Z (G7b b0a [0,1,2,3,4] 5 (Cl _ _ _ _) (Cl.start S) (fun i=>if i=4 then some (231,#[.pointer (some ⟨g8,0,none⟩)],eqQ (.slice none 0 0),noQ) else none) ?_ _ Z ?_)
 ·intro i f a Qp Qw hi;by_cases r0:i=4
  ·subst r0;cases hi;exact⟨⟨_,Z⟩,fun _ _ _ _ _=>trivial,fun w hC=>(N4b g8 w (hC.1.cells 1 Z)).mono fun u w' hr=>⟨⟨hr.1,trivial⟩,hC.later hr.2⟩⟩
  ·simp only[r0,if_false] at hi;cases hi
 refine y0c Z Z ?_;refine q1a S1c Z Z ?_;refine n0a ?_;refine y0c Z Z ?_;refine j0a o6a Z (fun w1 hw=>by exact hw.1.cell 4 Z Z) Z ?_;refine n0a ?_;refine y0c Z Z ?_;refine q1a G2c Z Z ?_;refine n0a ?_;refine y0c Z Z ?_;refine j0a o6a Z (fun w1 hw=>by exact hw.1.cell 4 Z Z) Z ?_;refine n0a ?_;refine Q6b c3c Z Z Z Z Z ?_;refine y3c ?_;rintro a1 ⟨n0,_⟩ -;refine x7a ?_;refine h0a n0 O1c Z Z (N8b C W M _ _ _ none 0 0 (c0.keep (n0.keep0 M)) (hW.keep (n0.keep0 M)) B0 F0) ?_;rintro S0 X0 o0 u0 Q0;obtain⟨_,_,_,_,_,_,_,_,_,rfl⟩:=S4c o0;refine S0a ⟨Z,?_⟩;refine x7a ?_;refine d0a (kk:=2) (vs:=[_,_,_]) u0 i5a Z Z Z Z Z Z Z ?_;intro K0 b0 z0;dsimp only[e0a,List.set] at b0;refine S0a ⟨Z,?_⟩;refine x7a ?_;refine B0a (hv:=Z) (v:=.int .i64 _) Z ?_;refine S0a ⟨Z,?_⟩;refine K0c ?_;exact fR0 Z U (L0a (n:=3) Z A2a Z (b0.cells 2 Z) Z Z ⟨⟨_,⟨_,_,_,_,_,_,_,_,_,Z⟩,Z⟩,b0.fin⟩)
def e0C:E:=⟨1,1,0,[]⟩
theorem N3d:e0C.wf=true:=by kernel_rfl
theorem s4c(p:List g1a)(b:Bool):e0C.valid p b=true:=by
 unfold E.valid;rw[N3d,Bool.true_and,E.over_def];have h1:decide (e0C.OverN p b)=true:=decide_eq_true ⟨fun h=>by simp[e0C] at h,fun h=>by simp[e0C] at h⟩;rw[h1];rfl
theorem r3d:e0C.sup 2=[]:=by kernel_rfl
theorem E2d(o n:List Int):e0C.evl o n=0:=by
 unfold E.evl;rw[if_pos N3d,E.val_def];rfl
theorem G9c(M:List Nat)(w0:World)(v u:Value)(Ai:Option Addr)(ci:Nat)(C W:List Int)(hC:RdI M w0 v C)(hW:RdI M w0 u W)(hI:RdI M w0 (.slice Ai 0 ci) [])(h:V9a C W)(hs:c2a W≤12):
 A0a prog 191 #[.agg #[v,u,.slice Ai 0 ci],.agg #[v,u,.slice Ai 0 ci]] w0 fun v w'=>(∃a,h4c a∧v=.tuple #[a,.int .i64 0])∧Bw w0 w':=by
 obtain⟨A,n,c,rfl⟩:=hC.form;obtain⟨A',n',c',rfl⟩:=hW.form;have S:=St.refl w0;refine a0a func191 Z ntmps191 Z ?_;refine wO1 Z (o0a S Z ?_);intro g2 w2 S2 X2 G2;refine o0a S2 Z ?_;intro g3 w3 S3 X3 G3;refine g0a S3 D5a Z Z ?_;intro g4 w4 S4 X4 G4;refine lO S4.k [.w 2,.w 1] Z ⟨⟨Z,by rfl⟩,⟨Z,by rfl⟩,U⟩ (h0a S4 p1d Z Z (k9b M _ (.slice A n c) (.slice A' n' c') Ai ci C W (hC.keep (S4.keep0 M)) (hW.keep (S4.keep0 M)) (hI.keep (S4.keep0 M)) h hs) ?_);rintro v8 w8 ⟨a,⟨_,_,_,_,_,_,_,_,_,rfl⟩,rfl⟩ S8 X8;refine lO1 Z (d0a (kk:=0) (vs:=[_,_,_]) S8 i5a Z Z Z Z Z Z Z ?_);intro c0 a0 b0;dsimp only[e0a,List.set] at a0;exact lR1 Z (L0a (n:=3) Z A2a Z (a0.cells 0 Z) Z Z ⟨⟨_,⟨_,_,_,_,_,_,_,_,_,Z⟩,Z⟩,a0.fin⟩)
def ErL(p:List g1a)(C:List Int)(most er:Int):Prop:=er=1∧¬OKL p.length C∨er=2∧OKL p.length C∧most<c2a (wdL p C)
theorem ErL.or{p:List g1a}{C:List Int}{a0 er:Int}(h:ErL p C a0 er):er=1∨er=2:=h.elim (fun z=>.inl z.1) (fun z=>.inr z.1)
theorem ErL.one{p:List g1a}{C:List Int}{a0 er:Int}(h:ErL p C a0 er)(hz:¬OKL p.length C):er=1:=h.elim (fun z=>z.1) (fun z=>absurd z.2.1 hz)
theorem ErL.two{p:List g1a}{C:List Int}{a0 er:Int}(h:ErL p C a0 er)(hz:OKL p.length C):er=2∧a0<c2a (wdL p C):=h.elim (fun z=>absurd hz z.2) (fun z=>⟨z.1,z.2.2⟩)
theorem q0c(p:List g1a)(C:List Int)(er:Int)(he:ErL p C 12 er)(M:List Nat)(w0:World)(vc vl:Value)(hP:i0b M w0 vc p)(hC:RdI M w0 vl C)(hp:p.length≤32)(hw:∀c∈p,1≤c.w∧c.w≤8):
 A0a prog 175 #[vc,vl,.agg #[.int .i64 1,.int .i64 1,.int .i64 0,.slice none 0 0]] w0 fun v w'=>v=.tuple #[.agg #[.slice none 0 0,.slice none 0 0,.slice none 0 0],.int .i64 er]∧Bw w0 w':=by
 obtain⟨_,_,_,rfl⟩:=hP.form;obtain⟨_,n,c,rfl⟩:=hC.form;have S:=St.refl w0;refine a0a func175 Z ntmps175 Z ?_;refine wO1 Z (o0a S Z ?_);intro g5 w5 S5 X5 G5;refine g0a S5 D5a Z Z ?_;intro g6 w6 S6 X6 G6;refine lO1 Z (h0a S6 D3c Z Z (A9a p C M _ _ _ (hP.keep (S6.keep0 M)) (hC.keep (S6.keep0 M)) hp hw) ?_);rintro v22 s0 ⟨_,_,_,rfl,hW⟩ e0 p0;refine lOn 10 e0.k [] Z U ?_;cases c0:dec (OKL p.length C)
 ·refine J0a (hv:=Z) (v:=.bool _) Z ?_;refine lO1 Z (s0a r7a (vs:=[]) (cs:=[_,_,_]) Z Z Z Z ?_);refine d0a (kk:=0) (vs:=[_,_,_]) e0 i5a Z Z Z Z Z Z Z ?_;intro n0 a0 g0;dsimp only[e0a,List.set] at a0;refine lR1 Z ?_;obtain rfl:=he.one (K0a c0);exact L0a (n:=3) Z A2a Z (a0.cells 0 Z) Z Z ⟨Z,a0.fin⟩
 refine J0a (hv:=Z) (v:=.bool _) Z ?_;have d0:=Q0a c0;have m0:=he.two d0;have ho:=j4a d0.1 d0.2 hp hw;have r0:=ho.clen;refine lO1 Z ?_;refine r0a e0 P3b Z Z (d0b (hl:=(by have:=ho.len;omega)) [] _ _ _ (hW d0 [] (by simp)) ho.wid) ?_;intro t0 f0 q0;refine lB1 Z (fun j0=>?_) (fun j0=>by exfalso;omega);refine lO1 Z (s0a r7a (vs:=[]) (cs:=[_,_,_]) Z Z Z Z ?_);refine d0a (kk:=0) (vs:=[_,_,_]) f0 i5a Z Z Z Z Z Z Z ?_;intro o0 b0 i0;dsimp only[e0a,List.set] at b0;refine lR1 Z ?_;obtain rfl:=m0.1;exact L0a (n:=3) Z A2a Z (b0.cells 0 Z) Z Z ⟨Z,b0.fin⟩
theorem G5b(p:List g1a)(C:List Int)(M:List Nat)(w0:World)(vc vl:Value)(hP:i0b M w0 vc p)(hC:RdI M w0 vl C)(hr:t1a C)(hc:∀c∈C,0≤c∧c<p.length)(hp:p.length≤32)(hw:∀c∈p,1≤c.w∧c.w≤8)(hs:c2a (wdL p C)≤12)(hK:W1a M w0):
 A0a prog 175 #[vc,vl,.agg #[.int .i64 1,.int .i64 1,.int .i64 0,.slice none 0 0]] w0 fun v w'=>(∃a b,v=.tuple #[.agg #[a,b,.slice none 0 0],.int .i64 0]∧X3a w0 w' a C∧X3a w0 w' b (wdL p C))∧Bw w0 w':=by
 obtain⟨_,_,_,rfl⟩:=hP.form;obtain⟨_,-,_⟩:=hP.len;obtain⟨A,n,c,rfl⟩:=hC.form;obtain⟨_,-,_⟩:=hC.len;have ho:=j4a hr hc hp hw;have v1:=ho.clen;have o1:=ho.len;have n1:∀x∈C,i64 x:=fun x hx=>by have:=ho.cell x hx;unfold i64;omega
 have r1:∀x∈wdL p C,i64 x:=fun x hx=>by have:=ho.wid x hx;unfold i64;omega
 have w1:=Q2a ho.wid;obtain⟨d0,q0⟩:∃b:Nat,c2a (wdL p C)=(b:Int):=⟨(c2a (wdL p C)).toNat,by omega⟩;have x1:2 ^ d0≤4096:=Nat.pow_le_pow_right (n:=2) (j:=12) (by omega) (by omega);have S:=St.refl w0;refine a0a func175 Z ntmps175 Z ?_;refine wO1 Z (o0a S Z ?_);intro g5 w5 S5 X5 G5;refine g0a S5 D5a Z Z ?_;intro g6 w6 S6 X6 G6;refine lO1 Z ?_;have j0:∀g∈[g6],g<w6.heap.size:=fun g hg=>by rw[List.mem_singleton.1 hg];exact S6.lt 0 Z
 refine h0a S6 D3c Z Z (z6b p C M _ _ _ (hP.keep (S6.keep0 M)) (hC.keep (S6.keep0 M)) hr hc hp hw) ?_;rintro v22 I0 ⟨_,rfl,hW⟩ P0 u1;obtain⟨A',n',c',rfl⟩:=hW.form;have KQ:=x0a.refl [g6] I0;refine lO1 Z (r0a P0 P3b Z Z (d0b [] _ _ _ (hW.at_ KQ j0) ho.wid) ?_);intro C1 r0 W0;replace KQ:=KQ.trans (W0.of_nil);refine lB1 Z (fun f1=>by exfalso;omega) fun f1=>?_;refine lO r0.k [.w 1] Z ⟨⟨Z,Z⟩,U⟩ ?_;refine r0a r0 b6a Z Z ((N2a e0C M _ _ _ p false (m1a iO iO iO) (hP.keep (r0.keep0 M)) (hK.keep (r0.keep0 M))).mono (fun v w' h=>⟨h.1.trans (by rw[s4c]),h.2⟩)) ?_;intro D1 s0 X0;replace KQ:=KQ.trans (X0.of_nil);refine lB s0.k [.o 1] Z ⟨Z,U⟩ (fun g1=>by exfalso;omega) fun g1=>?_;refine lO s0.k [.w 1] Z ⟨⟨Z,Z⟩,U⟩ ?_;refine h0a s0 X8b Z Z (j5a e0C [] _ _ (m1a iO iO iO) ⟨List.not_mem_nil,(hK.keep (s0.keep0 M)).2⟩ (by simp)) ?_;rintro y1 E1 ⟨_,_,rfl,v0,m0⟩ Q0 Y0;replace KQ:=KQ.trans (Y0.of_nil);rw[r3d] at m0;obtain⟨A4,n4,c4,rfl⟩:=m0.form;obtain⟨p1,-,_⟩:=m0.len;obtain⟨_,_,_,rfl⟩:=v0.form;obtain rfl:n4=0:=p1;refine lC1 Z (wL (fun μ D ε w=>D=[]∧(0≤μ)∧(x0a [g6] I0 w)∧St [] w0 w [(some g6,89,[.slice none 0 0,.slice none 0 0,.slice none 0 0]),(some g5,37,[.int .i64 1,.int .i64 1,.int .i64 0,.slice none 0 0])]∧Sl ε [(1,.slice A n c),(5,.pointer (some ⟨g5,0,none⟩)),(6,.pointer (some ⟨g6,0,none⟩)),(8,.slice A' n' c'),(47,.slice A4 0 c4),(48,.int .i64 0),(49,.int .i64 0)]) (μ:=0) ⟨Z,Nat.zero_le _,KQ,Q0,Z⟩ ?_);rintro μ D ε w ⟨rfl,_,KQ,S,eZ⟩;refine wK eZ ?_;refine wB1 Z (fun i1=>by exfalso;omega) fun i1=>?_;refine lO1 Z ?_;have D0:w0.heap.size≤w.heap.size:=S.size;have e0:∀g∈[g6],g<w.heap.size:=fun g hg=>by rw[List.mem_singleton.1 hg];exact S.lt 0 Z
 refine h0a S O1c Z Z (N8b C _ [] _ _ _ none 0 0 ((hC.keep (S.keep0 M)).less (by simp)) (hW.at_ KQ j0) n1 r1) ?_;rintro z1 L0 ⟨_,_,rfl,x0,y0⟩ R0 Z0;replace KQ:=KQ.trans (Z0.of_nil);obtain⟨A6,n6,c6,rfl⟩:=x0.form;obtain⟨A7,n7,c7,rfl⟩:=y0.form;have a0:=x0a.refl [g6] L0;refine g0a R0 D5a Z Z ?_;intro E0 A1 N0 A0 z0;have n0:=Nat.le_trans KQ.size z0;have b0:=Nat.le_trans a0.size z0;replace KQ:=KQ.trans (A0.of_nil);replace a0:=a0.trans (A0.of_nil);refine d0a (kk:=0) (vs:=[_,_,_]) N0 i5a Z Z Z Z Z Z Z ?_;intro H0 f0 i0;dsimp only[e0a,List.set] at f0;replace KQ:=KQ.fresh2 i0 (by exact .inl n0);replace a0:=a0.fresh2 i0 (by exact .inl b0);refine lO1 Z (s7a (n:=32) (c:=32) f0 R0a Z Z Z Z ?_);intro F0 F1 S0 C0 t1;replace KQ:=KQ.trans (C0.of_nil);replace a0:=a0.trans (C0.of_nil);refine lO1 Z (g0a (cs:=o2a) S0 E4b Z Z ?_);intro u0 B1 O0 B0 s1;replace KQ:=KQ.trans (B0.of_nil);replace a0:=a0.trans (B0.of_nil);refine lO1 Z (r0a O0 P3b Z Z ((d0b [] _ _ _ (hW.at_ KQ j0) ho.wid).mono (fun v w' h=>⟨h.1.trans (by rw[q0]),h.2⟩)) ?_);intro G1 T0 a1;replace a0:=a0.trans (a1.of_nil);refine F2b (n:=d0) Z Z ?_;refine lC1 Z (wL (fun μk D ε w=>D=[]∧∃k:Nat,(k+μk=((2 ^ d0)))∧(x0a [g6] L0 w)∧St [] w0 w [(some u0,259,o2a),(some F0,3,(List.replicate 32 (.int .i64 0))),(some E0,89,[.slice A6 n6 c6,.slice A7 n7 c7,.slice none 0 0]),(some g6,89,[.slice none 0 0,.slice none 0 0,.slice none 0 0]),(some g5,37,[.int .i64 1,.int .i64 1,.int .i64 0,.slice none 0 0])]∧Sl ε [(5,.pointer (some ⟨g5,0,none⟩)),(6,.pointer (some ⟨g6,0,none⟩)),(14,.pointer (some ⟨E0,0,none⟩)),(15,.slice (some ⟨F0,0,none⟩) 32 32),(16,.pointer (some ⟨u0,0,none⟩)),(65,.int .i64 ((2 ^ d0:Nat):Int)),(66,.int .i64 k)]) (μ:=((2 ^ d0))) ⟨Z,0,by omega,a0,T0,Z⟩ ?_);rintro μk D ε w ⟨rfl,k,_,a0,S,eZ⟩;refine wK eZ (wB1 Z (fun j1=>?_) fun j1=>?_)
 ·refine lO S.k [.w 2] Z ⟨⟨Z,Z⟩,U⟩ (h0a S i6b Z Z (R8a C (wdL p C) R1a k [] _ _ _ _ _ (x0.at_ a0 e0) (y0.at_ a0 e0) ho hs (k6a (hg:=List.not_mem_nil) (S.blk 1 Z)) W2a i3a) ?_);rintro v72 H1 q1 t0 b1;replace a0:=a0.trans (b1.of_nil);have G0:=q1 [] (by simp);refine B0a Z ?_;refine lOn 5 t0.k [.w 4] Z ⟨⟨Z,Z⟩,U⟩ (J0a Z ?_);refine J0a Z ?_;refine r0a t0 O6c Z Z ((z2c e0C [] _ _ _ _ _ _ (m1a iO iO iO) ⟨List.not_mem_nil,(hK.keep (t0.keep0 M)).2⟩ G0 G0).mono (fun v w' h=>⟨h.1.trans (by rw[E2d]),h.2⟩)) ?_;intro I1 U0 c1;replace a0:=a0.trans (c1.of_nil);refine lB1 Z (fun m1=>by exfalso;omega) fun m1=>?_;refine lP1 Z ⟨μk-1,by omega,Z,k+1,by omega,(a0),U0,Z⟩
 refine lO1 Z (r0a S c3c Z Z (N4b u0 _ (S.cells 0 Z)) ?_);intro J1 V0 d1;replace a0:=a0.trans (d1.of_nil);refine lO1 Z (X0a (kk:=2) V0 Y1d Z Z Z (by exact Nat.le_of_ble_eq_true Z) ?_);intro J0 g0 o0;replace a0:=a0.fresh2 o0 (by exact .inl b0);refine lO g0.k [.w 2] Z ⟨⟨Z,Z⟩,U⟩ (d0a (kk:=3) (vs:=[_,_,_]) g0 i5a Z Z Z Z Z Z Z ?_);intro K0 c0 p0;dsimp only[e0a,List.set] at c0;replace a0:=a0.fresh2 p0 (by exact .inr (by simp));exact lR1 Z (L0a (n:=3) Z A2a Z (c0.cells 3 Z) Z Z ⟨⟨_,_,Z,x0.later a0 e0 D0,y0.later a0 e0 D0⟩,c0.fin⟩)
def mW(m:List Nat):LV:=m.map uV
def x8a:List Nat:=List.replicate 64 0
theorem a6b(m:List Nat):(mW m).length=m.length:=by simp[mW]
theorem T4b(m:List Nat)(i x:Nat):(mW m).set i (uV x)=mW (m.set i x):=by simp[mW,List.map_set]
structure z5a (m:List Nat) (R:Nat→Nat→Prop):Prop where
 len:m.length=64
 lt:∀r∈m,r<2 ^ 64
 bit:∀x y,x<64→y<64→((m.getD x 0).testBit y=true↔R x y)
theorem z5a.at_{m:List Nat}{R:Nat→Nat→Prop}(h:z5a m R){x:Nat}(hx:x<64):m[x]?=some (m.getD x 0)∧m.getD x 0<2 ^ 64:=by
 have hl:x<m.length:=by rw[h.len];exact hx
 have he:m.getD x 0=m[x]:=by rw[List.getD_eq_getElem?_getD,List.getElem?_eq_getElem hl];rfl
 rw[he];exact⟨List.getElem?_eq_getElem hl,h.lt _ (List.getElem_mem hl)⟩
theorem z5a.cell{m:List Nat}{R:Nat→Nat→Prop}(h:z5a m R){x:Nat}(hx:x<64):(mW m)[x]?=some (uV (m.getD x 0)):=by
 unfold mW;rw[List.getElem?_map,(h.at_ hx).1];rfl
theorem z5a.cell0{m:List Nat}{R:Nat→Nat→Prop}(h:z5a m R){x:Nat}(hx:x<64):(mW m)[0+(x:Int).toNat*1]?=some (uV (m.getD x 0)):=by
 rw[Int.toNat_natCast,Nat.zero_add,Nat.mul_one];exact h.cell hx
theorem z5a.zero:z5a x8a fun _ _=>False:=by
 refine⟨by simp[x8a],fun r hr=>?_,fun x y hx hy=>?_⟩
 ·rw[(List.mem_replicate.1 hr).2];exact Nat.two_pow_pos _
 ·have:x8a.getD x 0=0:=by
   rw[List.getD_eq_getElem?_getD,x8a,List.getElem?_replicate,if_pos hx];rfl
  rw[this];simp
theorem z5a.put{m:List Nat}{R:Nat→Nat→Prop}(h:z5a m R){x v:Nat}(hx:x<64)(hv:v<2 ^ 64):z5a (m.set x v) fun a b=>if a=x then v.testBit b=true else R a b:=by
 refine⟨by rw[List.length_set];exact h.len,fun r hr=>?_,fun a b ha hb=>?_⟩
 ·rcases List.mem_or_eq_of_mem_set hr with h1|rfl
  ·exact h.lt r h1
  ·exact hv
 ·by_cases a0:a=x
  ·subst a0;rw[if_pos rfl,List.getD_eq_getElem?_getD,List.getElem?_set_self (by rw[h.len];exact ha)];rfl
  ·rw[if_neg a0,List.getD_eq_getElem?_getD,List.getElem?_set_ne (fun hh=>a0 hh.symm),←List.getD_eq_getElem?_getD];exact h.bit a b ha hb
theorem z5a.congr{m:List Nat}{R R':Nat→Nat→Prop}(h:z5a m R)(hr:∀x y,x<64→y<64→(R x y↔R' x y)):z5a m R' :=
 ⟨h.len,h.lt,fun x y hx hy=>(h.bit x y hx hy).trans (hr x y hx hy)⟩
theorem z5a.bit1{m:List Nat}{R:Nat→Nat→Prop}(h:z5a m R){x y:Nat}(hx:x<64)(hy:y<64):z5a (m.set x (m.getD x 0 ||| 2 ^ y)) fun a b=>R a b∨(a=x∧b=y):=by
 have hp:(2:Nat) ^ y<2 ^ 64:=Nat.pow_lt_pow_right (by omega) hy;refine(h.put hx (Nat.or_lt_two_pow (h.at_ hx).2 hp)).congr fun a b ha hb=>?_;by_cases a0:a=x
 ·subst a0;rw[if_pos rfl,Nat.testBit_or,Nat.testBit_two_pow,Bool.or_eq_true,h.bit a b ha hb];simp only[decide_eq_true_eq,true_and];exact⟨fun hh=>hh.imp id fun h=>h.symm,fun hh=>hh.imp id fun h=>h.symm⟩
 ·rw[if_neg a0];exact⟨.inl,fun hh=>hh.elim id fun h=>absurd h.1 a0⟩
theorem z5a.bit0{m:List Nat}{R:Nat→Nat→Prop}(h:z5a m R){x y:Nat}(hx:x<64)(hy:y<64)(hn:∀b,b<64→¬R x b):z5a (m.set x (2 ^ y)) fun a b=>R a b∨(a=x∧b=y):=by
 have hp:(2:Nat) ^ y<2 ^ 64:=Nat.pow_lt_pow_right (by omega) hy;refine(h.put hx hp).congr fun a b ha hb=>?_;by_cases a0:a=x
 ·subst a0;rw[if_pos rfl,Nat.testBit_two_pow];simp only[decide_eq_true_eq,true_and];exact⟨fun hh=>.inr hh.symm,fun hh=>hh.elim (fun h=>absurd h (hn b hb)) fun h=>h.symm⟩
 ·rw[if_neg a0];exact⟨.inl,fun hh=>hh.elim id fun h=>absurd h.1 a0⟩
theorem z5a.row{m:List Nat}{R:Nat→Nat→Prop}(h:z5a m R){x y:Nat}(hx:x<64)(hy:y<64):z5a (m.set x (m.getD x 0 ||| m.getD y 0)) fun a b=>R a b∨(a=x∧R y b):=by
 refine(h.put hx (Nat.or_lt_two_pow (h.at_ hx).2 (h.at_ hy).2)).congr fun a b ha hb=>?_;by_cases a0:a=x
 ·subst a0;rw[if_pos rfl,Nat.testBit_or,Bool.or_eq_true,h.bit a b ha hb,h.bit y b hy hb];simp
 ·rw[if_neg a0];exact⟨.inl,fun hh=>hh.elim id fun h=>absurd h.1 a0⟩
def M8b(m:List Nat)(x n:Nat):List (Int×Int):=((List.range n).filter fun(y:Nat)=>(m.getD x 0).testBit y).map fun(y:Nat)=>((x:Int),(y:Int))
def G1b(m:List Nat)(k:Nat):List (Int×Int):=(List.range k).flatMap fun x=>M8b m x 64
theorem d3c(m:List Nat)(x:Nat):M8b m x 0=[]:=Z
theorem H5b(m:List Nat)(x n:Nat):M8b m x (n+1)=if(m.getD x 0).testBit n=true then M8b m x n++[((x:Int),(n:Int))] else M8b m x n:=by
 unfold M8b;rw[List.range_succ,List.filter_append,List.map_append];by_cases h:(m.getD x 0).testBit n=true
 ·rw[if_pos h,List.filter_cons_of_pos (by simpa using h)];rfl
 ·rw[if_neg h,List.filter_cons_of_neg (by simpa using h)];simp
theorem x4b(m:List Nat):G1b m 0=[]:=Z
theorem C0b(m:List Nat)(k:Nat):G1b m (k+1)=G1b m k++M8b m k 64:=by
 unfold G1b;rw[List.range_succ,List.flatMap_append];simp
theorem w8b{m:List Nat}{x n:Nat}{a:Int×Int}:a∈M8b m x n↔∃y,y<n∧(m.getD x 0).testBit y=true∧a=((x:Int),(y:Int)):=by
 unfold M8b;simp only[List.mem_map,List.mem_filter,List.mem_range];constructor
 ·rintro⟨y,⟨h1,h2⟩,rfl⟩;exact⟨y,h1,h2,Z⟩
 ·rintro⟨y,h1,h2,rfl⟩;exact⟨y,⟨h1,h2⟩,Z⟩
theorem A3b{m:List Nat}{k:Nat}{a:Int×Int}:a∈G1b m k↔∃x y,x<k∧y<64∧(m.getD x 0).testBit y=true∧a=((x:Int),(y:Int)):=by
 unfold G1b;simp only[List.mem_flatMap,List.mem_range,w8b];constructor
 ·rintro⟨x,h1,y,h2,h3,h4⟩;exact⟨x,y,h1,h2,h3,h4⟩
 ·rintro⟨x,y,h1,h2,h3,h4⟩;exact⟨x,h1,y,h2,h3,h4⟩
theorem A0d(m:List Nat)(x n:Nat):(M8b m x n).Pairwise lt2:=by
 unfold M8b;rw[List.pairwise_map];refine((List.pairwise_lt_range (n:=n)).sublist List.filter_sublist).imp fun h=>?_;unfold lt2;simp;omega
theorem U2c(m:List Nat):∀k,(G1b m k).Pairwise lt2
 | 0=>by simp[x4b]
 | k+1=>by
   rw[C0b,List.pairwise_append];refine⟨U2c m k,A0d m k 64,fun a ha b hb=>?_⟩;obtain⟨_,_,_,-,-,rfl⟩:=A3b.1 ha;obtain⟨_,-,-,rfl⟩:=w8b.1 hb;unfold lt2;simp;omega
theorem g9b(m:List Nat)(x n:Nat):(M8b m x n).length≤n:=by
 unfold M8b;rw[List.length_map];have:=List.length_filter_le (fun y=>(m.getD x 0).testBit y) (List.range n);simpa using this
theorem G4a(m:List Nat):∀k,(G1b m k).length≤64*k
 | 0=>by simp[x4b]
 | k+1=>by
   rw[C0b,List.length_append];have:=G4a m k;have:=g9b m k 64;omega
theorem z5a.mem{m:List Nat}{R:Nat→Nat→Prop}(h:z5a m R)(a:Int×Int):a∈G1b m 64↔∃x y,x<64∧y<64∧R x y∧a=((x:Int),(y:Int)):=by
 rw[A3b];constructor
 ·rintro⟨x,y,h1,h2,h3,h4⟩;exact⟨x,y,h1,h2,(h.bit x y h1 h2).1 h3,h4⟩
 ·rintro⟨x,y,h1,h2,h3,h4⟩;exact⟨x,y,h1,h2,(h.bit x y h1 h2).2 h3,h4⟩
theorem i8b{l:List (Int×Int)}{i j:Nat}{x y:Int×Int}(h:l.Pairwise lt2)(hx:l[i]?=some x)(hy:l[j]?=some y)(a0:i<j:=by omega):x.1<y.1∨(x.1=y.1∧x.2<y.2):=by
 obtain⟨h1,rfl⟩:=List.getElem?_eq_some_iff.1 hx;obtain⟨h2,rfl⟩:=List.getElem?_eq_some_iff.1 hy;exact List.pairwise_iff_getElem.1 h i j h1 h2 a0
theorem W4d(M:List Nat)(w:World):RdI M w (.slice none 0 0) []:=⟨none,0,0,Z,Z,Nat.le_refl _,by unfold maxLen;omega,by omega,fun h=>absurd h (by omega)⟩
theorem d6a(M:List Nat)(w0:World)(v:Value)(l:List Int)(hR:RdI M w0 v l)(hw:∀x∈l,1≤x∧x≤8)(hl:l.length≤32:=by omega):A0a prog 117 #[v] w0 fun v w'=>v=.int .i64 (c2a l)∧Bw w0 w':=by
 obtain⟨A,n,c,rfl⟩:=hR.form;obtain⟨_,_⟩:=hR.len;have j0:=Q2a hw;have S:=St.refl w0;refine a0a func117 Z ntmps117 Z ?_;refine wC1 Z (wL (fun μk D ε w=>D=[]∧∃k:Nat,∃s:Int,(k+μk=(l.length))∧(s=c2a (l.take k))∧St [] w0 w []∧Sl ε [(3,.int .i64 s),(6,.slice A n c),(7,.int .i64 n),(8,.int .i64 k)]) (μ:=(l.length)) ⟨Z,0,0,by omega,Z,S,Z⟩ ?_);rintro μk D ε w ⟨rfl,k,s,_,hs,S,eZ⟩;refine wK eZ (wB1 Z (fun h9=>?_) fun h9=>?_)
 ·obtain⟨x,d0,i0,_,g0,a0,_,_,b0,c0⟩:=RdS.get (hR) (k) (by omega);obtain⟨rfl,_⟩:=id c0;have f0:=Q4a g0;have m0:=e2a hw k;have e0:=e2a hw (k+1);refine lP (S.k.a b0) [.x d0 i0,.f 0 0] Z ⟨by omega,by omega,Z,⟨a0,by omega⟩,U⟩ ?_;refine⟨μk-1,by omega,Z,k+1,(s+x),by omega,(by rw[f0,hs]),S,Z⟩
 refine lR1 Z (w0a Z ?_);exact⟨by rw[hs,List.take_of_length_le (by omega)],S.fin⟩
theorem c2b(p:List g1a)(C:List Int)(M:List Nat)(w0:World)(vc vl:Value)(hP:i0b M w0 vc p)(hC:RdI M w0 vl C)(hr:t1a C)(hc:∀c∈C,0≤c∧c<p.length)(hp:p.length≤32)(hw:∀c∈p,1≤c.w∧c.w≤8)(hK:W1a M w0)(hs:c2a (wdL p C)≤6:=by omega):
 A0a prog 116 #[vc,vl] w0 fun v w'=>(∃a b,v=.tuple #[.agg #[a,b,.slice none 0 0],.int .i64 0]∧X3a w0 w' a C∧X3a w0 w' b (wdL p C))∧Bw w0 w':=by
 obtain⟨_,_,_,rfl⟩:=hP.form;obtain⟨_,n,c,rfl⟩:=hC.form;have ho:=j4a hr hc hp hw;have u0:=ho.clen;have p0:=ho.len;have S:=St.refl w0;refine a0a func116 Z ntmps116 Z ?_;refine wO1 Z (g0a S D5a Z Z ?_);intro g4 w4 S4 X4 G4;refine lO1 Z (s0a s1a (vs:=[(0,.int .i64 _),(1,.int .i64 _)]) (cs:=[_,_,_,_]) Z Z Z Z ?_);have i0:w0.heap.size≤w4.heap.size:=S4.size;have c0:∀g∈[g4],g<w4.heap.size:=fun g hg=>by rw[List.mem_singleton.1 hg];exact S4.lt 0 Z
 refine h0a S4 R0c Z Z (G5b p C M _ _ _ (hP.keep (S4.keep0 M)) (hC.keep (S4.keep0 M)) hr hc hp hw (by omega) (hK.keep (S4.keep0 M))) ?_;rintro v0 q0 ⟨a,b,rfl,ha,hb⟩ j0 t0;obtain⟨_,_,_,rfl⟩:=ha.form;obtain⟨_,_,_,rfl⟩:=hb.form;have KQ:=x0a.refl [g4] q0;refine lO1 Z (g0a j0 D5a Z Z ?_);intro g6 w6 S6 X6 G6;have d0:=Nat.le_trans KQ.size G6;replace KQ:=KQ.trans (X6.of_nil);refine d0a (kk:=0) (vs:=[_,_,_]) S6 i5a Z Z Z Z Z Z Z ?_;intro r0 a0 e0;dsimp only[e0a,List.set] at a0;replace KQ:=KQ.fresh2 e0 (by exact .inl d0);refine lB1 Z (fun n0=>?_) (fun n0=>by exfalso;omega);refine lO a0.k [.o 0] Z ⟨Z,U⟩ (r0a a0 w7a Z Z (d6a [] _ _ _ (hb.at_ KQ c0) ho.wid) ?_);intro x0 g0 m0;replace KQ:=KQ.trans (m0.of_nil);refine lB1 Z (fun o0=>by exfalso;omega) fun o0=>?_;refine lO g0.k [.w 0] Z ⟨⟨Z,Z⟩,U⟩ (d0a (kk:=1) (vs:=[_,_,_]) g0 i5a Z Z Z Z Z Z Z ?_);intro s0 b0 f0;dsimp only[e0a,List.set] at b0;replace KQ:=KQ.fresh2 f0 (by exact .inr (by simp));exact lR1 Z (L0a (n:=3) Z A2a Z (b0.cells 1 Z) Z Z ⟨⟨_,_,Z,ha.later KQ c0 i0,hb.later KQ c0 i0⟩,b0.fin⟩)
theorem N4c(p:List g1a)(C:List Int)(er:Int)(he:ErL p C 6 er)(M:List Nat)(w0:World)(vc vl:Value)(hP:i0b M w0 vc p)(hC:RdI M w0 vl C)(hp:p.length≤32)(hw:∀c∈p,1≤c.w∧c.w≤8)(hK:W1a M w0):
 A0a prog 175 #[vc,vl,.agg #[.int .i64 1,.int .i64 1,.int .i64 0,.slice none 0 0]] w0 fun v w'=>(∃A n c A' n' c' e,v=.tuple #[.agg #[.slice A n c,.slice A' n' c',.slice none 0 0],.int .i64 e]∧(e=0→OKL p.length C∧X3a w0 w' (.slice A' n' c') (wdL p C))∧(e≠0→e=er∧(.slice A n c:Value)=.slice none 0 0∧(.slice A' n' c':Value)=.slice none 0 0))∧Bw w0 w':=by
 by_cases h:ErL p C 12 er
 ·exact(q0c p C er h M w0 vc vl hP hC hp hw).mono fun v w' ⟨hv,hb⟩=>⟨⟨none,0,0,none,0,0,er,hv,fun hz=>by have:=he.or;omega,fun _=>⟨Z,Z,Z⟩⟩,hb⟩
 ·rcases he with⟨h1,h2⟩|⟨h1,h2,h3⟩
  ·exact absurd (.inl ⟨h1,h2⟩) h
  ·exact(G5b p C M w0 vc vl hP hC h2.1 h2.2 hp hw (by
    rcases Int.lt_or_le 12 (c2a (wdL p C)) with z|z
    ·exact absurd (.inr ⟨h1,h2,z⟩) h
    ·exact z) hK).mono fun v w' ⟨⟨a,b,hv,ha,a0⟩,hb⟩=>by
    obtain⟨A,n,c,rfl⟩:=ha.form;obtain⟨A',n',c',rfl⟩:=a0.form;exact⟨⟨A,n,c,A',n',c',0,hv,fun _=>⟨h2,a0⟩,fun z=>absurd Z z⟩,hb⟩
theorem S0b(p:List g1a)(C:List Int)(er:Int)(he:ErL p C 6 er)(M:List Nat)(w0:World)(vc vl:Value)(hP:i0b M w0 vc p)(hC:RdI M w0 vl C)(hp:p.length≤32)(hw:∀c∈p,1≤c.w∧c.w≤8)(hK:W1a M w0):
 A0a prog 116 #[vc,vl] w0 fun v w'=>v=.tuple #[.agg #[.slice none 0 0,.slice none 0 0,.slice none 0 0],.int .i64 er]∧Bw w0 w':=by
 obtain⟨_,_,_,rfl⟩:=hP.form;obtain⟨_,n,c,rfl⟩:=hC.form;have S:=St.refl w0;refine a0a func116 Z ntmps116 Z ?_;refine wO1 Z (g0a S D5a Z Z ?_);intro g4 w4 S4 X4 G4;refine lO1 Z (s0a s1a (vs:=[(0,.int .i64 _),(1,.int .i64 _)]) (cs:=[_,_,_,_]) Z Z Z Z ?_);have g0:∀g∈[g4],g<w4.heap.size:=fun g hg=>by rw[List.mem_singleton.1 hg];exact S4.lt 0 Z
 refine h0a S4 R0c Z Z (N4c p C er he M _ _ _ (hP.keep (S4.keep0 M)) (hC.keep (S4.keep0 M)) hp hw (hK.keep (S4.keep0 M))) ?_;rintro y0 q0 ⟨_,_,_,_,_,_,_,rfl,h0,h1⟩ i0 u0;have KQ:=x0a.refl [g4] q0;refine lO1 Z (g0a i0 D5a Z Z ?_);intro g6 w6 S6 X6 G6;have d0:=Nat.le_trans KQ.size G6;replace KQ:=KQ.trans (X6.of_nil);refine d0a (kk:=0) (vs:=[_,_,_]) S6 i5a Z Z Z Z Z Z Z ?_;intro r0 a0 e0;dsimp only[e0a,List.set] at a0;replace KQ:=KQ.fresh2 e0 (by exact .inl d0);refine lB1 Z (fun f0=>?_) fun f0=>?_
 ·refine lO a0.k [.o 0] Z ⟨Z,U⟩ ?_;have z0:=h0 f0;have p0:=he.two z0.1;have ho:=j4a z0.1.1 z0.1.2 hp hw;have x0:=ho.clen;refine r0a a0 w7a Z Z (d6a (hl:=(by have:=ho.len;omega)) [] _ _ _ (z0.2.at_ KQ g0) ho.wid) ?_;intro A0 j0 v0;refine lB1 Z (fun o0=>?_) (fun o0=>by exfalso;omega);refine lO1 Z (s0a r7a (vs:=[]) (cs:=[_,_,_]) Z Z Z Z ?_);refine d0a (kk:=1) (vs:=[_,_,_]) j0 i5a Z Z Z Z Z Z Z ?_;intro s0 b0 m0;dsimp only[e0a,List.set] at b0;refine lR1 Z ?_;obtain rfl:=p0.1;exact L0a (n:=3) Z A2a Z (b0.cells 1 Z) Z Z ⟨Z,b0.fin⟩
 refine lO a0.k [.w 0] Z ⟨⟨Z,Z⟩,U⟩ (d0a (kk:=1) (vs:=[_,_,_]) a0 i5a Z Z Z Z Z Z Z ?_);intro t0 c0 n0;dsimp only[e0a,List.set] at c0;refine lR1 Z ?_;obtain⟨rfl,z1,z2⟩:=h1 f0;cases z1;cases z2;exact L0a (n:=3) Z A2a Z (c0.cells 1 Z) Z Z ⟨Z,c0.fin⟩
theorem C9b(M:List Nat)(w0:World)(v u i:Value)(C W:List Int)(l:List (Int×Int))(b0:Nat)(hC:RdI M w0 v C)(hW:RdI M w0 u W)(hL:V7a M w0 i l)(h:V9a C W)(hb:c2a W=b0)(H1:b0≤6)(hl:∀x∈l,0≤x.1∧x.1<(2 ^ b0:Nat)∧0≤x.2∧x.2<(2 ^ b0:Nat))(B0:l.Pairwise lt2):
 A0a prog 131 #[.agg #[v,u,i]] w0 fun v w'=>v=.bool true∧Bw w0 w':=by
 obtain⟨A,n,c,rfl⟩:=hC.form;obtain⟨A',n',c',rfl⟩:=hW.form;obtain⟨Al,nl,cl,rfl⟩:=hL.form;obtain⟨_,-,_⟩:=hL.len;have F1:=h.clen;have s1:=h.len;have S:=St.refl w0;refine a0a func131 Z ntmps131 Z ?_;refine wO1 Z (o0a S Z ?_);intro g1 w1 S1 X1 G1;refine lO S1.k [.o 0,.o 0] Z ⟨Z,Z,U⟩ (s0a r7a (vs:=[(0,.slice _ _ _),(1,.slice _ _ _)]) (cs:=[_,_,_]) Z Z Z Z ?_);refine g0a S1 D5a Z Z ?_;intro g3 w3 S3 X3 G3;refine d0a (kk:=0) (vs:=[_,_,_]) S3 i5a Z Z Z Z Z Z Z ?_;intro y1 c0 H0;dsimp only[e0a,List.set] at c0;refine lO c0.k [.w 0,.w 0] Z ⟨⟨Z,Z⟩,⟨Z,Z⟩,U⟩ (h0a c0 E9c Z Z (G9c M _ _ _ none 0 C W (hC.keep (c0.keep0 M)) (hW.keep (c0.keep0 M)) (W4d M _) h (by omega)) ?_);rintro I1 J1 ⟨_,⟨A1,n1,c1,A2,n2,c2,A3,n3,c3,rfl⟩,rfl⟩ G0 C1;refine lO1 Z (g0a G0 D5a Z Z ?_);intro g4 w4 S4 X4 G4;refine d0a (kk:=0) (vs:=[_,_,_]) S4 i5a Z Z Z Z Z Z Z ?_;intro z1 e0 I0;dsimp only[e0a,List.set] at e0;refine lB1 Z (fun a1=>by exfalso;omega) fun a1=>?_;refine lO e0.k [.o 2] Z ⟨Z,U⟩ (r0a e0 w7a Z Z (d6a M _ _ W (hW.keep (e0.keep0 M)) h.wid) ?_);intro K1 p0 D1;refine lB1 Z (fun b1=>by exfalso;omega) fun b1=>?_;refine lO p0.k [.o 2] Z ⟨Z,U⟩ (r0a p0 w7a Z Z ((d6a M _ _ W (hW.keep (p0.keep0 M)) h.wid).mono (fun v w' h=>⟨h.1.trans (by rw[hb]),h.2⟩)) ?_);intro M1 E0 E1;refine F2b (n:=b0) Z Z ?_;refine lC E0.k [.o 2] Z ⟨Z,U⟩ (wL (fun μk D ε w=>D=[]∧∃k:Nat,(k+μk=(l.length))∧St [] w0 w [(some g4,89,[.slice A1 n1 c1,.slice A2 n2 c2,.slice A3 n3 c3]),(some g3,89,[.slice A n c,.slice A' n' c',.slice none 0 0]),(some g1,41,[.slice A n c,.slice A' n' c',.slice Al nl cl])]∧Sl ε [(1,.pointer (some ⟨g1,0,none⟩)),(6,.int .i64 ((2 ^ b0:Nat):Int)),(33,.slice Al nl cl),(34,.int .i64 nl),(35,.int .i64 k)]) (μ:=(l.length)) ⟨Z,0,by omega,E0,Z⟩ ?_);rintro μk D ε w ⟨rfl,k,_,S,eZ⟩;refine wK eZ (wB1 Z (fun d1=>?_) fun d1=>?_)
 ·obtain⟨x,K0,t1,P0,o0,q0,_,v0,u0,x0⟩:=RdS.get (hL) (k) (by omega);obtain⟨T0,_⟩:=x0;obtain rfl:P0=[Value.int .i64 x.1,.int .i64 x.2]:=T0;have hx:=hl x (c0a o0);refine lO (S.k.a u0) [.x K0 t1,.v 0] Z ⟨⟨Z,v0⟩,⟨q0,by omega⟩,U⟩ (g0a S L9b Z Z ?_);intro g8 w8 S8 X8 G8;refine lO1 Z (d0a (kk:=0) (vs:=[_,_]) S8 J6b Z Z Z Z Z Z Z ?_);intro B1 a0 J0;dsimp only[e0a,List.set] at a0;refine lO1 Z (w2a S1a Z Z Z ?_);refine G0a E0a Z (by exact a0.cell 0 Z Z) Z ?_;refine lB1 Z (fun f1=>by exfalso;omega) fun f1=>?_;refine lO1 Z (w2a S1a Z Z Z ?_);refine lO1 Z (G0a E0a Z (by exact a0.cell 0 Z Z) Z ?_);refine lB1 Z (fun i1=>by exfalso;omega) fun i1=>?_;refine lO1 Z (w2a S1a Z Z Z ?_);refine lO1 Z (G0a E0a Z (by exact a0.cell 0 Z Z) Z ?_);refine lB1 Z (fun j1=>by exfalso;omega) fun j1=>?_;refine lO1 Z (w2a S1a Z Z Z ?_);refine lO1 Z (G0a E0a Z (by exact a0.cell 0 Z Z) Z ?_);refine lB1 Z (fun m1=>by exfalso;omega) fun m1=>?_;refine lC1 Z (y0a b0a [0,1,2,3,4,5,6,7,8,9,10,11,12,13,14,15,16,17,18,19,20,21,22,23,24,25,26,27,28,29,30,31,32,33,34,35,36,37] [] [] Z (Cl _ _ _ _) (Cl.start a0) ?_);refine qB1 Z (fun o1=>?_) fun o1=>?_
  ·refine qO1 Z (v0a S1a Z Z Z ?_);refine qO1 Z (j0a E0a Z (fun w1 hw=>by exact hw.1.cell 0 Z Z) Z ?_);obtain⟨y,L0,u1,Q0,m0,r0,_,_,g0,y0⟩:=RdS.get (hL) (k-1) (by omega);obtain⟨U0,_⟩:=y0;obtain rfl:Q0=[Value.int .i64 y.1,.int .i64 y.2]:=U0;have X0:((k:Int)-1).toNat=k-1:=by omega
   rw[←X0] at g0;have F0:=i8b B0 m0 o0;refine qO a0.q [.o 3,.x L0 u1] Z ⟨⟨r0,by omega⟩,by omega,Z,U⟩ (v0a S1a Z Z Z ?_);refine qO1 Z (j0a E0a Z (fun w1 hw=>by exact hw.1.old (g0 _ _ Z)) Z ?_);refine qB1 Z (fun p1=>by exfalso;omega) fun p1=>?_;refine qO1 Z (v0a S1a Z Z Z ?_);refine qO1 Z (j0a E0a Z (fun w1 hw=>by exact hw.1.cell 0 Z Z) Z ?_);obtain⟨_,N0,v1,R0,C0,s0,_,_,i0,z0⟩:=RdS.get (hL) (k-1) (by omega);obtain rfl:=Option.some.inj (m0.symm.trans C0);obtain⟨V0,_⟩:=z0;obtain rfl:R0=[Value.int .i64 y.1,.int .i64 y.2]:=V0;have Y0:((k:Int)-1).toNat=k-1:=by omega
   rw[←Y0] at i0;have F0:=i8b B0 m0 o0;refine qO a0.q [.o 3,.x N0 v1] Z ⟨⟨s0,by omega⟩,by omega,Z,U⟩ (v0a S1a Z Z Z ?_);refine qO1 Z (j0a E0a Z (fun w1 hw=>by exact hw.1.old (i0 _ _ Z)) Z ?_);refine qB1 Z (fun q1=>?_) fun q1=>?_
   ·refine qO1 Z (v0a S1a Z Z Z ?_);refine qO1 Z (j0a E0a Z (fun w1 hw=>by exact hw.1.cell 0 Z Z) Z ?_);obtain⟨_,O0,x1,S0,D0,t0,_,_,j0,A0⟩:=RdS.get (hL) (k-1) (by omega);obtain rfl:=Option.some.inj (m0.symm.trans D0);obtain⟨W0,_⟩:=A0;obtain rfl:S0=[Value.int .i64 y.1,.int .i64 y.2]:=W0;have Z0:((k:Int)-1).toNat=k-1:=by omega
    rw[←Z0] at j0;have F0:=i8b B0 m0 o0;refine qO a0.q [.o 3,.x O0 x1] Z ⟨⟨t0,by omega⟩,by omega,Z,U⟩ (v0a S1a Z Z Z ?_);refine qO1 Z (j0a E0a Z (fun w1 hw=>by exact hw.1.old (j0 _ _ Z)) Z ?_);refine qB1 Z (fun r1=>by exfalso;omega) fun r1=>?_;refine lV Z ?_;rintro n0 ⟨d0,f0⟩;refine lP1 Z ⟨μk-1,by omega,Z,k+1,by omega,d0.tail,Z⟩
   refine lV Z ?_;rintro n0 ⟨d0,f0⟩;refine lP1 Z ⟨μk-1,by omega,Z,k+1,by omega,d0.tail,Z⟩
  refine lV Z ?_;rintro n0 ⟨d0,f0⟩;refine lP1 Z ⟨μk-1,by omega,Z,k+1,by omega,d0.tail,Z⟩
 exact lU Z Z ⟨Z,S.fin⟩
theorem I4d:Bld prog 173 (mW x8a) ((List.range 64).map fun i=>(i*1,1)):=Z0c (size:=1) Tryz.underlying173 (fun _=>by kernel_rfl) (fun _=>by kernel_rfl) _ Z
theorem g1d(M:List Nat)(w0:World)(v u i:Value)(l:List (Int×Int))(hv:∃A n c B m d,v=.slice A n c∧u=.slice B m d)(hL:V7a M w0 i l)(hl:∀x∈l,0≤x.1∧x.1<64∧0≤x.2∧x.2<64):
 A0a prog 133 #[.agg #[v,u,i]] w0 fun v w'=>(∃g m,v=.pointer (some ⟨g,0,none⟩)∧w0.heap.size≤g∧p0a w' (g,173,mW m)∧z5a m fun a b=>((a:Int),(b:Int))∈l)∧Bw w0 w':=by
 obtain⟨A,n,c,A',n',c',rfl,rfl⟩:=hv;obtain⟨Al,nl,cl,rfl⟩:=hL.form;obtain⟨_,-,_⟩:=hL.len;have S:=St.refl w0;refine a0a func133 Z ntmps133 Z ?_;refine wO1 Z (o0a S Z ?_);intro g1 w1 S1 X1 G1;refine lO1 Z (s0a (vs:=[]) (cs:=mW x8a) I4d Z Z Z Z ?_);refine o0a (hv:=Z) (cs:=mW x8a) S1 Z ?_;intro g7 w7 S7 X7 G7;refine lC S7.k [.o 1] Z ⟨Z,U⟩ (wL (fun μk D ε w=>D=[]∧∃k:Nat,∃m:List Nat,(k+μk=(l.length))∧(z5a m (fun a b=>((a:Int),(b:Int))∈l.take k))∧St [] w0 w [(some g7,173,mW m),(some g1,41,[.slice A n c,.slice A' n' c',.slice Al nl cl])]∧Sl ε [(3,.pointer (some ⟨g7,0,none⟩)),(9,.slice Al nl cl),(10,.int .i64 nl),(11,.int .i64 k)]) (μ:=(l.length)) ⟨Z,0,x8a,by omega,z5a.zero.congr (fun x y _ _=>by simp),S7,Z⟩ ?_);rintro μk D ε w ⟨rfl,k,m,_,hm,S,eZ⟩;refine wK eZ (wB1 Z (fun r0=>?_) fun r0=>?_)
 ·obtain⟨x,o0,s0,p0,i0,c0,_,e0,d0,f0⟩:=RdS.get (hL) (k) (by omega);obtain⟨q0,_⟩:=f0;have hx:=hl x (c0a i0);obtain⟨a,b,rfl⟩:∃a b:Nat,x=((a:Int),(b:Int)):=⟨x.1.toNat,x.2.toNat,Prod.ext (Int.toNat_of_nonneg hx.1).symm (Int.toNat_of_nonneg hx.2.2.1).symm⟩;obtain rfl:p0=[Value.int .i64 (a:Int),.int .i64 (b:Int)]:=q0;simp only at hx;refine lO (S.k.a d0) [.x o0 s0,.v 0] Z ⟨⟨Z,e0⟩,⟨c0,by omega⟩,U⟩ (g0a S L9b Z Z ?_);intro g5 w5 S5 X5 G5;refine d0a (kk:=0) (vs:=[_,_]) S5 J6b Z Z Z Z Z Z Z ?_;intro t0 b0 n0;dsimp only[e0a,List.set] at b0;have u0:=(hm.at_ (x:=a) (by omega)).2;have v0:(2:Nat) ^ b<2 ^ 64:=Nat.pow_lt_pow_right (by omega) (by omega);refine lC1 Z (y0a b0a [0,1,2,3,4,5,6,7,8,9,10,11] [] [12] Z (Cl _ _ _ _) (Cl.start b0) ?_);refine qO1 Z (v0a S1a Z Z Z ?_);refine j0a E0a Z (fun w1 hw=>by exact hw.1.cell 0 Z Z) Z ?_;refine qO1 Z (v0a Z3a Z Z Z ?_);refine j0a O4a Z (fun w1 hw=>by exact hw.1.cell 1 Z (hm.cell0 (x:=a) (by omega))) Z ?_;refine v0a S1a Z Z Z ?_;refine j0a E0a Z (fun w1 hw=>by exact hw.1.cell 0 Z Z) Z ?_;refine C8b (n:=b) Z Z ?_;refine C5c Z Z (by assumption) (by assumption) Z ?_;refine qO1 Z (v0a Z3a Z Z Z ?_);refine lV Z ?_;rintro x0 ⟨m0,_⟩;refine X0a (hy:=Z) (kk:=1) (v:=uV (m.getD a 0 ||| 2 ^ b)) m0 z2b Z Z Z (by rw[a6b,hm.len];simp;omega) ?_;intro j0 a0 g0;rw[T4b,show 0+(a:Int).toNat*1=a by simp] at a0;refine lP1 Z ⟨μk-1,by omega,Z,k+1,(m.set a (m.getD a 0 ||| 2 ^ b)),by omega,?_,a0.tail,Z⟩;refine(hm.bit1 (x:=a) (y:=b) (by omega) (by omega)).congr fun x y _ _=>?_;rw[u0a i0,List.mem_append,List.mem_singleton];exact or_congr Iff.rfl ⟨fun h=>by rw[h.1,h.2],fun h=>by simp only[Prod.mk.injEq] at h;omega⟩
 refine lR1 Z (w0a Z ?_);exact⟨⟨g7,m,Z,by simpa using S.new 0 Z,S.blk 0 Z,by rw[List.take_of_length_le (by omega)] at hm;exact hm⟩,S.fin⟩
theorem w2c(g:Nat)(w0:World):A0a prog 177 #[.pointer (some ⟨g,0,none⟩)] w0 fun v w'=>(∃gb,v=.func (.func 232) #[] #[.pointer (some ⟨gb,0,none⟩)]∧w0.heap.size≤gb∧p0a w' (gb,170,[.pointer (some ⟨g,0,none⟩)]))∧Bw w0 w':=by
 have S:=St.refl w0;refine a0a func177 Z ntmps177 Z ?_;refine wO1 Z (n2b S (v:=.pointer _) Z Z Z ?_);intro g1 w1 S1 X1 G1;refine lO1 Z (B1a Z Z ?_);refine lR1 Z (w0a Z ?_);exact⟨⟨g1,Z,by simpa using S1.new 0 Z,S1.blk 0 Z⟩,S1.fin⟩
structure G1d (l:Nat) (Bs:List Nat) (w0:World) (J:List (Int×Int)→World→Prop):Prop where
 start:∀w,Below w0.heap.size w0 w→J [] w
 own:∀k w w',J k w→Below w.heap.size w w'→J k w'
 keep:∀k w,J k w→x0a Bs w0 w
 each:∀k w (x y:Nat),J k w→k.length+1≤4096→x<64→y<64→Yld prog l #[.int .i64 x,.int .i64 y] w fun u w'=>u=.bool true∧J (k++[((x:Int),(y:Int))]) w'
theorem h0c(m:List Nat)(R:Nat→Nat→Prop)(hm:z5a m R)(g gb l:Nat)(Bs:List Nat)(w0:World)(J:List (Int×Int)→World→Prop)(n0:p0a w0 (g,173,mW m))(m0:p0a w0 (gb,170,[.pointer (some ⟨g,0,none⟩)]))(hg:g∉Bs)(hJ:G1d l Bs w0 J):
 A0a prog 232 #[.func (.yield l) #[] #[],.pointer (some ⟨gb,0,none⟩)] w0 fun _ w'=>J (G1b m 64) w':=by
 have j0:=hJ.start w0 (Below.refl _ _);have S:=St.refl w0;have o0:w0.cell? ⟨gb,0,none⟩=some (.pointer (some ⟨g,0,none⟩)):=m0.cell Z;refine a0a func232 Z ntmps232 Z ?_;refine wO1 Z (G0a f2c Z (by first|exact o0) Z ?_);refine lC1 Z (wL (fun μ D ε w=>D=[]∧∃k:Nat,(k+μ=64)∧(J (G1b m k) w)∧ε 0=.func (.yield l) #[] #[]∧ε 6=.pointer (some ⟨g,0,none⟩)∧ε 7=.int .i64 k) (μ:=64) ⟨Z,0,by omega,j0,Z,Z,Z⟩ ?_);rintro μ D ε w ⟨rfl,k,_,d0,e0,e6,e7⟩;refine q0a 0 e0 (q0a 6 e6 (q0a 7 e7 ?_));clear e0 e6 e7;have hK:=hJ.keep _ _ d0;have S:=St.refl w;refine wB1 Z (fun h8=>?_) fun h8=>?_
 ·have p0:=hK.cell (a:=⟨g,_,none⟩) hg (n0.cell (hm.cell0 (x:=k) (by omega)));refine lC1 Z (y0a b0a [0,1,2,3,4,5] [] [] Z (Cl _ _ _ _) (Cl.start S) ?_);refine qO1 Z (v0a Z3a Z Z Z ?_);refine j0a O4a Z (fun w1 hw=>by exact hw.2.cell List.not_mem_nil p0) Z ?_;refine lV Z ?_;rintro u0 ⟨g0,_⟩;refine lC1 Z ?_;refine wL (fun μy D ε w=>D=[]∧∃y:Nat,(y+μy=64)∧(J (G1b m k++M8b m k y) w)∧ε 0=.func (.yield l) #[] #[]∧ε 3=.int .i64 k∧ε 4=uV (m.getD k 0)∧ε 6=.pointer (some ⟨g,0,none⟩)∧ε 7=.int .i64 k∧ε 13=.int .i64 y) (μ:=64) ⟨Z,0,by omega,by rw[d3c,List.append_nil];exact hJ.own _ _ _ d0 g0.fin,Z,Z,Z,Z,Z,Z⟩ ?_;rintro μy D ε w ⟨rfl,y,_,a0,e0,e3,e4,e6,e7,f0⟩;refine q0a 0 e0 (q0a 3 e3 (q0a 4 e4 (q0a 6 e6 (q0a 7 e7 (q0a 13 f0 ?_)))));clear e0 e3 e4 e6 e7 f0;have S:=St.refl w;refine wB1 Z (fun i0=>?_) fun i0=>?_
  ·refine lOn 16 S.k [] Z U (J0a (hv:=Z) (v:=.int .u64 _) Z ?_);refine lO1 Z (w6c (n:=y) Z Z ?_);have q0:=(hm.at_ (x:=k) (by omega)).2;refine W2c (n:=m.getD k 0 >>> y) (m:=1) Z Z (Nat.lt_of_le_of_lt (Nat.shiftRight_le _ _) q0) Z ?_;refine y0d Z Z Z (fun b0=>?_) fun b0=>?_
   ·refine lO1 Z ?_;have r0:=G4a m k;have s0:=g9b m k y;refine E3c Z Z Z (hJ.each _ _ k y a0 (by rw[List.length_append];omega) (by omega) (by omega)) ?_;rintro v25 t0 ⟨rfl,c0⟩;refine lP1 Z ?_;exact⟨μy-1,by omega,Z,y+1,by omega,by rw[H5b,if_pos ((B3b _ _).1 b0),←List.append_assoc];exact c0,Z,Z,Z,Z,Z,Z⟩
   refine lP1 Z ?_;exact⟨μy-1,by omega,Z,y+1,by omega,by rw[H5b,if_neg (fun h=>b0 ((B3b _ _).2 h))];exact a0,Z,Z,Z,Z,Z,Z⟩
  refine lP1 Z ?_;exact⟨μ-1,by omega,Z,k+1,by omega,by rw[C0b];rw[show y=64 by omega] at a0;exact a0,Z,Z,Z⟩
 refine lF1 Z (J1a Z ?_);exact(show k=64 by omega)▸d0
def n7a(p:m0a)(t j:Nat)(x:Int×Int):Prop:=∃u th uh s n,u<j∧u≠t∧p.threads[t]?=some th∧p.threads[u]?=some uh∧s∈th.steps∧n∈uh.modules∧x=(s.module_,n)
def k7a(p:m0a)(k:Nat)(x:Int×Int):Prop:=∃t,t<k∧n7a p t p.threads.length x
theorem k7a.zero{p:m0a}{x:Int×Int}:¬k7a p 0 x:=fun⟨_,h,_⟩=>by omega
theorem k7a.succ{p:m0a}{k:Nat}{x:Int×Int}:k7a p (k+1) x↔k7a p k x∨n7a p k p.threads.length x:=by
 unfold k7a;constructor
 ·rintro⟨t,h,h2⟩;by_cases ht:t=k
  ·subst ht;exact .inr h2
  ·exact .inl ⟨t,by omega,h2⟩
 ·rintro(⟨t,h,h2⟩|h)
  ·exact⟨t,by omega,h2⟩
  ·exact⟨k,by omega,h⟩
theorem n7a.zero{p:m0a}{t:Nat}{x:Int×Int}:¬n7a p t 0 x:=fun⟨_,_,_,_,_,h,_⟩=>by omega
theorem n7a.skip{p:m0a}{t j:Nat}{x:Int×Int}(h:j=t):n7a p t (j+1) x↔n7a p t j x:=by
 unfold n7a;constructor
 ·rintro⟨u,th,uh,s,n,h1,h2,h3⟩;exact⟨u,th,uh,s,n,by omega,h2,h3⟩
 ·rintro⟨u,th,uh,s,n,h1,h2,h3⟩;exact⟨u,th,uh,s,n,by omega,h2,h3⟩
theorem n7a.succ{p:m0a}{t j:Nat}{th uh:D1a}{x:Int×Int}(h:j≠t)(ht:p.threads[t]?=some th)(hu:p.threads[j]?=some uh):n7a p t (j+1) x↔n7a p t j x∨∃s∈th.steps,∃n∈uh.modules,x=(s.module_,n):=by
 unfold n7a;constructor
 ·rintro⟨u,b0,a0,s,n,h1,h2,h3,h4,h5,h6,h7⟩;rw[ht] at h3;cases h3;by_cases hj:u=j
  ·subst hj;rw[hu] at h4;cases h4;exact .inr ⟨s,h5,n,h6,h7⟩
  ·exact .inl ⟨u,th,a0,s,n,by omega,h2,ht,h4,h5,h6,h7⟩
 ·rintro(⟨u,b0,a0,s,n,h1,h2⟩|⟨s,h5,n,h6,h7⟩)
  ·exact⟨u,b0,a0,s,n,by omega,h2⟩
  ·exact⟨j,th,uh,s,n,by omega,h,ht,hu,h5,h6,h7⟩
theorem c1b{α:Type}{l:List α}{k:Nat}{a:α}(h:l[k]?=some a)(P:α→Prop):(∃s∈l.take (k+1),P s)↔(∃s∈l.take k,P s)∨P a:=by
 rw[u0a h];constructor
 ·rintro⟨s,h1,h2⟩;rcases List.mem_append.1 h1 with h3|h3
  ·exact .inl ⟨s,h3,h2⟩
  ·rw[List.mem_singleton.1 h3] at h2;exact .inr h2
 ·rintro(⟨s,h1,h2⟩|h)
  ·exact⟨s,List.mem_append_left _ h1,h2⟩
  ·exact⟨a,by simp,h⟩
theorem t8b{M:List Nat}{w:World}{g a0 t:Nat}{cs:LV}{l:List (Int×Int)}(h2:cs.take (l.length*2)=pcs l)(b0:∀x∈l,i64 x.1∧i64 x.2)(hc:a0≤maxLen)(hb:p0a w (g,t,cs))(hg:g∉M)(hl:l.length≤a0:=by omega)(hs:l.length≤140737488355328:=by omega):V7a M w (.slice (some ⟨g,0,none⟩) l.length a0) l:=by
 refine⟨_,l.length,a0,Z,Z,hl,hc,hs,fun _=>⟨g,0,Z,hg,fun i x hi=>⟨pc x,Z,fun j v hj=>?_,Z,b0 x (List.mem_of_getElem? hi)⟩⟩⟩;rw[Nat.zero_add];have h3:=w1c hi j v hj;rw[←h2,List.getElem?_take] at h3
 split at h3
 ·exact hb.cell h3
 ·cases h3
theorem T3a:Bld prog 72 [.int .i64 0,.int .i64 0] [(0,1),(1,1)]:=Z0c (size:=1) Tryz.underlying72 (fun _=>by kernel_rfl) (fun _=>by kernel_rfl) _ Z
theorem x9a(p:m0a)(M:List Nat)(w0:World)(cs:LV)(hI:InP p M w0 cs):
 A0a prog 13 #[.agg cs.toArray] w0 fun v w'=>(∃l,V7a M w' v l∧l.Pairwise lt2∧(∀x,x∈l↔k7a p p.threads.length x)∧l.length≤50000)∧Bw w0 w':=by
 obtain⟨Ac,nc,cc,Am,nm,cm,Al,nl,cl,At,nt,ct,rfl,_,_,_,g2,_⟩:=hI.rd.open_;have S:=(St.refl w0).nilEnt 72;have hM:=hI.lt;have hp:=hI.ok;have n2:=hp.nthreads;refine a0a func13 Z ntmps13 Z ?_;refine wO1 Z (o0a S Z ?_);intro g1 w1 S1 X1 G1;refine lO S1.k [.w 0] Z ⟨⟨Z,Z⟩,U⟩ (r0a S1 N9a Z Z (a7a p M _ _ (hI.keep (S1.keep0 M))) ?_);intro I3 a2 t3;refine lO1 Z (T4a (k:=72) a2 Z ?_);intro g17 J3 b2 u3 p3 o1;have E1:w0.heap.size≤g17:=by have:=a2.size;omega
 have Ms:=U1b.mk_ (enc:=v6b) o1;refine lC b2.k [.o 0] Z ⟨Z,U⟩ (wL (fun μk D ε w=>D=[]∧∃k:Nat,∃l1:List (Int×Int),(k+μk=(p.threads.length))∧(U1b v6b w g17 l1)∧(∀x,x∈l1↔k7a p k x)∧(l1.Nodup)∧(∀x∈l1,i64 x.1∧i64 x.2)∧(l1.length≤12288*k)∧St [] w0 w [(some g1,27,pL Ac nc cc Am nm cm Al nl cl At nt ct),(none,72,[])]∧Sl ε [(1,.pointer (some ⟨g1,0,none⟩)),(3,.map (some g17)),(19,.slice At nt ct),(20,.int .i64 nt),(21,.int .i64 k)]) (μ:=(p.threads.length)) ⟨Z,0,[],by omega,Ms,(fun x=>⟨fun h=>(by cases h),fun h=>absurd h k7a.zero⟩),List.nodup_nil,(fun x hx=>by cases hx),by simp,b2,Z⟩ ?_);rintro μk D ε w ⟨rfl,k,l1,_,Ms,i2,U2,y0,_,S,eZ⟩;refine wK eZ (wB1 Z (fun L2=>?_) fun L2=>?_)
 ·obtain⟨th,G2,b3,_,B0,v1,_,F1,A1,P1⟩:=RdS.get (g2) (k) (by omega);obtain⟨n0,D0,t0,p0,F0,v0,c0,a0,e0,o0,E0,u0,rfl,_,_,_,T0,_⟩:=Z0a.open_ P1;have C3:=(hp.thread B0).nsteps;refine lO (S.k.a A1) [.x G2 b3,.v 0] Z ⟨⟨Z,F1⟩,⟨v1,by omega⟩,U⟩ (g0a S M1b Z Z ?_);intro g5 w5 S5 X5 G5;replace Ms:=Ms.keep X5 (List.not_mem_nil);refine lO1 Z (d0a (kk:=0) (vs:=[_,_,_,_,_,_,_]) S5 I1b Z Z Z Z Z Z Z ?_);intro j3 s0 p1;dsimp only[e0a,List.set] at s0;replace Ms:=Ms.keep p1 (fun hh=>by rw[List.mem_singleton] at hh;exact Ms.ne (S5.blk 0 Z) hh);refine lC s0.k [.o 1] Z ⟨Z,U⟩ (wL (fun μj D ε w=>D=[]∧∃j:Nat,∃l2:List (Int×Int),(j+μj=(p.threads.length))∧(U1b v6b w g17 l2)∧(∀x,x∈l2↔x∈l1∨n7a p k j x)∧(l2.Nodup)∧(∀x∈l2,i64 x.1∧i64 x.2)∧(l2.length≤12288*k+3072*j)∧St [] w0 w [(some g5,64,[.string th.name,.int .i64 th.points,.slice n0 D0 t0,.slice p0 F0 v0,.slice c0 a0 e0,.slice o0 E0 u0,.bool th.asleep]),(some g1,27,pL Ac nc cc Am nm cm Al nl cl At nt ct),(none,72,[])]∧Sl ε [(1,.pointer (some ⟨g1,0,none⟩)),(3,.map (some g17)),(4,.int .i64 k),(5,.pointer (some ⟨g5,0,none⟩)),(19,.slice At nt ct),(20,.int .i64 nt),(21,.int .i64 k),(27,.slice At nt ct),(28,.int .i64 nt),(29,.int .i64 j)]) (μ:=(p.threads.length)) ⟨Z,0,l1,by omega,Ms,(fun x=>⟨.inl,fun h=>h.elim id (fun h=>absurd h n7a.zero)⟩),U2,y0,by omega,s0,Z⟩ ?_);rintro μj D ε w ⟨rfl,j,l2,_,m0,J1,K1,z0,_,S,eZ⟩;refine wK eZ (wB1 Z (fun N2=>?_) fun N2=>?_)
  ·obtain⟨uh,H2,d3,_,C0,x1,_,H1,B1,Q1⟩:=RdS.get (g2) (j) (by omega);obtain⟨G0,c1,P0,q0,j0,x0,I0,f1,R0,H0,d1,Q0,rfl,_,_,S0,_⟩:=Z0a.open_ Q1;have W2:=(hp.thread C0).nmod;have Y2:=(hp.thread C0).points;refine lO (S.k.a B1) [.x H2 d3,.v 0] Z ⟨⟨Z,H1⟩,⟨x1,by omega⟩,U⟩ (g0a S M1b Z Z ?_);intro g7 w7 S7 X7 G7;replace m0:=m0.keep X7 (List.not_mem_nil);refine lO1 Z (d0a (kk:=0) (vs:=[_,_,_,_,_,_,_]) S7 I1b Z Z Z Z Z Z Z ?_);intro n3 f0 r1;dsimp only[e0a,List.set] at f0;replace m0:=m0.keep r1 (fun hh=>by rw[List.mem_singleton] at hh;exact m0.ne (S7.blk 0 Z) hh);refine lB1 Z (fun O2=>?_) fun O2=>?_
   ·refine lP1 Z ⟨μj-1,by omega,Z,j+1,?_,by omega,?_,?_,?_,?_,?_,f0.tail,Z⟩;exact l2
    ·exact m0
    ·intro x;rw[n7a.skip (by omega)];exact J1 x
    ·exact K1
    ·exact z0
    ·omega
   refine lC f0.k [.o 1] Z ⟨Z,U⟩ (wL (fun μi D ε w=>D=[]∧∃i:Nat,∃l3:List (Int×Int),(i+μi=(th.steps.length))∧(U1b v6b w g17 l3)∧(∀x,x∈l3↔x∈l2∨∃s∈th.steps.take i,∃n∈uh.modules,x=(s.module_,n))∧(l3.Nodup)∧(∀x∈l3,i64 x.1∧i64 x.2)∧(l3.length≤12288*k+3072*j+48*i)∧St [] w0 w [(some g7,64,[.string uh.name,.int .i64 uh.points,.slice G0 c1 P0,.slice q0 j0 x0,.slice I0 f1 R0,.slice H0 d1 Q0,.bool uh.asleep]),(some g5,64,[.string th.name,.int .i64 th.points,.slice n0 D0 t0,.slice p0 F0 v0,.slice c0 a0 e0,.slice o0 E0 u0,.bool th.asleep]),(some g1,27,pL Ac nc cc Am nm cm Al nl cl At nt ct),(none,72,[])]∧Sl ε [(1,.pointer (some ⟨g1,0,none⟩)),(3,.map (some g17)),(4,.int .i64 k),(5,.pointer (some ⟨g5,0,none⟩)),(7,.pointer (some ⟨g7,0,none⟩)),(19,.slice At nt ct),(20,.int .i64 nt),(21,.int .i64 k),(27,.slice At nt ct),(28,.int .i64 nt),(29,.int .i64 j),(38,.slice c0 a0 e0),(39,.int .i64 a0),(40,.int .i64 i)]) (μ:=(th.steps.length)) ⟨Z,0,l2,by omega,m0,(fun x=>⟨.inl,fun h=>h.elim id (fun⟨_,h,_⟩=>by simp at h)⟩),K1,z0,by omega,f0,Z⟩ ?_);rintro μi D ε w ⟨rfl,i,l3,_,r0,j2,o2,W0,_,S,eZ⟩;refine wK eZ (wB1 Z (fun P2=>?_) fun P2=>?_)
   ·obtain⟨s,I2,e3,_,r2,y1,_,I1,C1,R1⟩:=RdS.get (T0) (i) (by omega);obtain⟨m1,V1,t1,n1,W1,u1,rfl,⟨_,_,_,_,U1⟩,_⟩:=n2a.open_ R1;have T2:=((hp.thread B0).steps s (c0a r2)).mod;have a1:=U1;refine lO (S.k.a C1) [.x I2 e3,.v 0] Z ⟨⟨Z,I1⟩,⟨y1,by omega⟩,U⟩ (g0a S Y0d Z Z ?_);intro g9 w9 S9 X9 G9;replace r0:=r0.keep X9 (List.not_mem_nil);refine d0a (kk:=0) (vs:=[_,_,_,_,_,_,_,_,_,_,_]) S9 t1d Z Z Z Z Z Z Z ?_;intro s2 d0 N0;dsimp only[e0a,List.set] at d0;replace r0:=r0.keep N0 (fun hh=>by rw[List.mem_singleton] at hh;exact r0.ne (S9.blk 0 Z) hh);refine lC d0.k [.o 1] Z ⟨Z,U⟩ (wL (fun μq D ε w=>D=[]∧∃q:Nat,∃l4:List (Int×Int),(q+μq=(uh.modules.length))∧(U1b v6b w g17 l4)∧(∀x,x∈l4↔x∈l3∨∃n∈uh.modules.take q,x=(s.module_,n))∧(l4.Nodup)∧(∀x∈l4,i64 x.1∧i64 x.2)∧(l4.length≤12288*k+3072*j+48*i+q)∧St [] w0 w [(some g9,60,[.int .i64 s.kind,.int .i64 s.frm,.int .i64 s.to,.int .i64 s.guard.op,.int .i64 s.guard.w,.int .i64 s.guard.n,.slice m1 V1 t1,.slice n1 W1 u1,.bool s.release,.int .i64 s.target,.int .i64 s.module_]),(some g7,64,[.string uh.name,.int .i64 uh.points,.slice G0 c1 P0,.slice q0 j0 x0,.slice I0 f1 R0,.slice H0 d1 Q0,.bool uh.asleep]),(some g5,64,[.string th.name,.int .i64 th.points,.slice n0 D0 t0,.slice p0 F0 v0,.slice c0 a0 e0,.slice o0 E0 u0,.bool th.asleep]),(some g1,27,pL Ac nc cc Am nm cm Al nl cl At nt ct),(none,72,[])]∧Sl ε [(1,.pointer (some ⟨g1,0,none⟩)),(3,.map (some g17)),(4,.int .i64 k),(5,.pointer (some ⟨g5,0,none⟩)),(7,.pointer (some ⟨g7,0,none⟩)),(9,.pointer (some ⟨g9,0,none⟩)),(19,.slice At nt ct),(20,.int .i64 nt),(21,.int .i64 k),(27,.slice At nt ct),(28,.int .i64 nt),(29,.int .i64 j),(38,.slice c0 a0 e0),(39,.int .i64 a0),(40,.int .i64 i),(45,.slice q0 j0 x0),(46,.int .i64 j0),(47,.int .i64 q)]) (μ:=(uh.modules.length)) ⟨Z,0,l3,by omega,r0,(fun x=>⟨.inl,fun h=>h.elim id (fun⟨_,h,_⟩=>by simp at h)⟩),o2,W0,by omega,d0,Z⟩ ?_);rintro μq D ε w ⟨rfl,q,l4,_,Z1,m2,p2,g0,_,S,eZ⟩;refine wK eZ (wB1 Z (fun Q2=>?_) fun Q2=>?_)
    ·obtain⟨n,J2,g3,_,a3,z1,_,_,D1,T1⟩:=RdS.get (S0) (q) (by omega);obtain⟨rfl,Z0⟩:=id T1;refine lO (S.k.a D1) [.x J2 g3,.f 0 0,.o 0] Z ⟨Z,Z,⟨z1,by omega⟩,U⟩ (s0a T3a (vs:=[(0,.int .i64 _),(1,.int .i64 _)]) (cs:=[_,_]) Z Z Z Z ?_);refine e1c (k:=72) (enc:=v6b) (a:=(s.module_,n)) S S0c Tryz.underlying104 Q5c (fun a ha=>h1c (g0 a ha).1 (g0 a ha).2) (h1c a1 Z0) Z1 Z Z Z (.inl E1) ?_;intro t2 L0 f2 z2;refine lP1 Z ⟨μq-1,by omega,Z,q+1,_,by omega,(z2),?_,(a2b p2),?_,(Nat.le_trans r8b (by omega)),L0,Z⟩
     ·intro x;rw[g0b,m2,c1b a3,or_assoc]
     ·intro x hx;rcases g0b.1 hx with h|h;exact g0 x h;subst h;exact⟨a1,Z0⟩
    refine lP1 Z ⟨μi-1,by omega,Z,i+1,(l4),by omega,(Z1),?_,(p2),(g0),by omega,S.tail,Z⟩;intro x;rw[m2,j2,or_assoc,c1b r2,List.take_of_length_le (l:=uh.modules) (by omega)]
   refine lP1 Z ⟨μj-1,by omega,Z,j+1,?_,by omega,?_,?_,?_,?_,?_,S.tail,Z⟩;exact l3
   ·exact r0
   ·intro x;rw[j2,J1,n7a.succ (by omega) B0 C0,or_assoc,List.take_of_length_le (l:=th.steps) (by omega)]
   ·exact o2
   ·exact W0
   ·omega
  refine lP1 Z ⟨μk-1,by omega,Z,k+1,(l2),by omega,(m0),?_,(K1),(z0),by omega,S.tail,Z⟩;intro x;rw[J1,k7a.succ,i2,show j=p.threads.length by omega]
 refine lOn 8 S.k [] Z U (B0a Z ?_);refine lO1 Z (W8b S Tryz.underlying104 Ms Z Z ?_);intro Y1 K3 B2 v3 y2 It;have O1:w0.heap.size≤Y1:=Nat.le_trans S.size y2;refine lC1 Z (wL (fun μ D ε w=>D=[]∧∃G:Option Nat,∃j1:LV,∃v:Value,∃acc:List (Int×Int),∃i0:List (Int×Int),∃cur:Option (Int×Int),(i0.length=μ)∧(t8a v6b w g17 Y1 i0 cur)∧((acc++i0).Perm l1)∧(T1a r6a 2 [] w0 G j1 v acc)∧St [] w0 w [(some g1,27,pL Ac nc cc Am nm cm Al nl cl At nt ct),(G,72,j1)]∧Sl ε [(12,v),(61,.pointer (some ⟨Y1,0,none⟩))]) (μ:=l1.length) ⟨Z,none,[],.slice none 0 0,[],l1,none,Z,It,List.Perm.refl _,T1a.nil,B2,Z⟩ ?_);rintro μ D ε w ⟨rfl,G,j1,v,acc,i0,cur,_,It,X0,Y0,S,eZ⟩;refine wK eZ ?_;have KI:=x0a.refl G.toList w;refine wO1 Z (P3c S It (.inl O1) Z Z (fun hz=>?_) (fun a b1 E3 i3 M1 d2 w3 K0=>?_))
 ·have N1:acc.Perm l1:=by rw[hz,List.append_nil] at X0;exact X0
  have Z2:=Y0.toVP;have D3:=N1.length_eq;have h2:acc.length≤50000:=by omega
  have A3:=j2c acc;have V0:∀x,x∈ddP acc↔k7a p p.threads.length x:=fun x=>by rw[U0b,N1.mem_iff,i2,show k=p.threads.length by omega]
  have X2:∀x∈ddP acc,i64 x.1∧i64 x.2:=fun x hx=>y0 x (N1.subset (U0b.1 hx));refine lOn 9 S.k [] Z U ?_;rcases Z2 with⟨B3,⟨rfl,rfl,V2⟩|⟨g9,s1,rfl,rfl,q1,q2,q3,q4⟩⟩;all_goals refine J0a Z ?_
  ·refine h0a S k2c Z Z (R9a _ 0 none) ?_;rintro h3 m3 rfl i1 x3;refine lR1 Z (w0a Z ?_);exact⟨⟨ddP acc,⟨none,0,0,Z,by omega,Nat.le_refl _,by unfold maxLen;omega,by omega,fun h=>absurd h (by omega)⟩,x2c _,V0,by omega⟩,i1.fin⟩
  refine a2a k2c Z Z (O9a g9 s1 acc j1 _ (S.blk 1 Z) q4 q3 (by omega)) ?_;rintro h3 m3 ⟨rfl,w2,_,_,U0,u2⟩;have i1:=S.changed1 1 Z w2 U0;refine lR1 Z (w0a Z ?_);refine⟨⟨ddP acc,?_,x2c _,V0,by omega⟩,i1.fin⟩;exact t8b u2 X2 q2 U0 (fun hm=>by have:=hM _ hm;have:=i1.new 1 Z;simp at this;omega)
 have KI:=x0a.refl G.toList i3;refine lO1 Z ?_;have S2:=X0.length_eq;rw[List.length_append] at S2;have h2:=M1.length_eq;rw[List.length_cons] at h2;have R2:i64 a.1∧i64 a.2:=y0 a (X0.subset (List.mem_append_right _ (M1.symm.subset (by simp))));refine T7b K0 Z Z (fun F3=>?_);refine lO1 Z (g0a d2 L9b Z Z ?_);intro y3 H3 A2 D2 x2;have J0:=Nat.le_trans KI.size x2;replace KI:=KI.trans (D2.of_nil);refine d0a (kk:=0) (vs:=[_,_]) A2 J6b Z Z Z Z Z Z Z ?_;intro v2 b0 O0;dsimp only[e0a,List.set] at b0;replace KI:=KI.fresh2 O0 (by exact .inl J0);refine lOn 3 b0.k [] Z U (J0a Z ?_);refine lO b0.k [.w 0] Z ⟨⟨Z,by rfl⟩,U⟩ (k0a b0 S2a (vs:=[.agg _]) (cs:=[_,_]) Z Z Z Z Z Z ?_);intro z3 L3 e2 E2 r3;replace KI:=KI.trans (E2.of_nil);refine r1a g7a (k:=3) (M2:=[]) (e1:=a) e2 S2a Z Y0 Z Z (e2.cells 0 Z) ⟨Z,R2⟩ (by omega) Z ?_;intro G3 s3 K2 M3 C2 A0 F2 o3;refine B0a Z ?_;refine lP0 Z U ⟨μ-1,by omega,Z,_,_,_,(acc++[a]),(b1),(some a),?_,?_,?_,?_,C2.tail.tail,Z⟩
 ·omega
 ·exact K0.keepC (KI.trans F2) (d2.optBlk 1 Z)
 ·rw[List.append_assoc];exact(M1.symm.append_left acc).trans X0
 ·exact A0
def j4b(w0 w:World)(v:Value)(l:List (Int×Int)):Prop:=∀M:List Nat,(∀g∈M,g<w0.heap.size)→V7a M w v l
theorem j4b.later{w0 w1 w w':World}{v:Value}{l:List (Int×Int)}{G:List Nat}(h:j4b w1 w v l)(hk:x0a G w w')(hG:∀g∈G,g<w1.heap.size)(h0:w0.heap.size≤w1.heap.size):j4b w0 w' v l:=fun M hM =>
 ((h (G++M) (fun g hg=>by rcases List.mem_append.1 hg with h|h;exact hG g h;exact Nat.lt_of_lt_of_le (hM g h) h0)).keep (hk.mono fun g hg=>List.mem_append_left _ hg)).less fun g hg=>List.mem_append_right _ hg
theorem j4b.at_{w1 w w':World}{v:Value}{l:List (Int×Int)}{G:List Nat}(h:j4b w1 w v l)(hk:x0a G w w')(hG:∀g∈G,g<w1.heap.size):V7a [] w' v l:=((h G hG).keep hk).less (by simp)
theorem j4b.form{w0 w:World}{v:Value}{l:List (Int×Int)}(h:j4b w0 w v l):∃A n c,v=.slice A n c:=(h [] (by simp)).form
section
variable {P:Program} {fn:Func} {R:Value→World→Prop} {D:List Deferred} {e:Env} {w:World}
theorem u9b{a1 t1 n g1:Nat}{cs:LV}(h:fn.results=#[.cell a1 t1])(hM:M8a P t1 n)(e1:e a1=.pointer (some ⟨g1,0,none⟩))(b0:cs.length=n)
 (rs:List Nat) (hD:D=rs.map W0b) (hn:rs.Nodup) (hO:NC w (d3b rs)) (a0:Cells w g1 0 cs) (hg1:g1∉rs) (hR:∀w',H0a rs w w'→R (.agg cs.toArray) w'):G8a P fn R D e w :=
 ⟨rs,hD,hn,hO,fun w' hb _ tmps he=>by
  have hk:x0a rs w w':=⟨hb.size,hb.block⟩;have c1:=a0.keep hk hg1;subst he;subst b0;simp only[P0a,Array.getD_eq_getD_getElem?] at e1;have h1:=run_loadCells_list (P:=P) w' ⟨g1,0,none⟩ cs (fun j v hj=>by rw[Addr.add_lit];exact c1 j v hj);exact⟨_,by simp[results,h,asAddr,e1,hM w',h1],hR w' hb⟩⟩
theorem c3a{a1 t1 n g1 u:Nat}{cs:LV}{v2:Value}(h:fn.results=#[.cell a1 t1,.tmp u])(hM:M8a P t1 n)(e1:e a1=.pointer (some ⟨g1,0,none⟩))(hu:e u=v2)(b0:cs.length=n)
 (rs:List Nat) (hD:D=rs.map W0b) (hO:NC w (d3b rs)) (a0:Cells w g1 0 cs) (hR:∀w',H0a rs w w'→R (.tuple #[.agg cs.toArray,v2]) w') (hn:rs.Nodup:=by simp) (hg1:g1∉rs:=by simp):G8a P fn R D e w :=
 ⟨rs,hD,hn,hO,fun w' hb _ tmps he=>by
  have hk:x0a rs w w':=⟨hb.size,hb.block⟩;have c1:=a0.keep hk hg1;subst he;subst b0;subst hu;simp only[P0a,Array.getD_eq_getD_getElem?] at e1;have h1:=run_loadCells_list (P:=P) w' ⟨g1,0,none⟩ cs (fun j v hj=>by rw[Addr.add_lit];exact c1 j v hj);exact⟨.tuple #[.agg cs.toArray,P0a { tmps,defers:=[] } u],by simp[results,h,asAddr,e1,hM w',h1,P0a],hR w' hb⟩⟩
end
theorem St.marksW{w0 w w':World}{L:List Ent}(S:St [] w0 w L){rs:List Nat}(hO:NC w (d3b rs))(hb:H0a rs w w')(b0:∀g∈rs,w0.heap.size≤g):St [] w0 w' L:=by
 have a0:∀b∈L,∀g,b.1=some g→g∉rs:=fun b hm g hg hr=>by
  have h1:=(S.own b hm g hg).2;exact hO.ne h1 (g,_) (List.mem_map.2 ⟨g,hr,Z⟩) Z
 refine S.keeps ⟨hb.os.trans S.below.os,hb.tape.trans S.below.tape,hb.output.trans S.below.output,Nat.le_trans S.below.size hb.size,fun k hk hm=>(hb.block k (Nat.lt_of_lt_of_le hk S.below.size) (fun hh=>by have:=b0 k hh;omega)).trans (S.below.block k hk hm)⟩ fun b hm g hg=>?_;exact hb.block g ((S.own b hm g hg).2.lt) (a0 b hm g hg)
theorem T1a.newP{M:List Nat}{w0 w1 w:World}{L:List Ent}{k el:Nat}{G:Option Nat}{cs:LV}{v:Value}{l:List (Int×Int)}(h:T1a r6a 2 [] w1 G cs v l)(S:St [] w0 w L)(hk:L[k]?=some (G,el,cs))(hM:∀g∈M,g<w0.heap.size)(hl:l.length≤1000000):V7a M w v l:=by
 have h2:T1a r6a 2 M w1 G cs v l:=h;refine T1a.rd (w:=w) g7a (h2:T1a r6a 2 M w G cs v l) S hk (fun g hg hm=>?_) hl;subst hg;have:=S.new k hk;have:=hM g hm;simp at *;omega
theorem S6a(C W:List Int)(m:List Nat)(R:Nat→Nat→Prop)(hm:z5a m R)(M:List Nat)(w0:World)(vc vw:Value)(g:Nat)(hC:RdI M w0 vc C)(hW:RdI M w0 vw W)(H0:p0a w0 (g,173,mW m))(hlc:C.length≤1000:=by omega)(hlw:W.length≤1000:=by omega):
 A0a prog 118 #[vc,vw,.pointer (some ⟨g,0,none⟩)] w0 fun v w'=>(∃a b c,v=.agg #[a,b,c]∧X3a w0 w' a C∧X3a w0 w' b W∧j4b w0 w' c (G1b m 64))∧Bw w0 w':=by
 obtain⟨_,n,c,rfl⟩:=hC.form;obtain⟨_,_,_,rfl⟩:=hW.form;have S:=(St.refl w0).nilEnt 72;refine S7a func118 Z ntmps118 Z (wI ?_);refine wO1 Z (g0a S J3a Z Z ?_);intro g6 w6 S6 X6 G6;refine lO1 Z (h0a S6 N0b Z Z (w6a M _ _ C (hC.keep (S6.keep0 M))) ?_);rintro x1 A1 A0 O0 p1;obtain⟨Ga,U0,J0,g0⟩:=A0.open_ O0 S6;obtain⟨A8,n8,c8,rfl⟩:=J0.form;refine lO1 Z (h0a g0 N0b Z Z (w6a M _ _ W (hW.keep (g0.keep0 M))) ?_);rintro y1 B1 p0 P0 q1;obtain⟨Gb,V0,K0,q0⟩:=p0.open_ P0 g0;obtain⟨L0,i1,S0,rfl⟩:=K0.form;refine s0a v3a (vs:=[(0,.slice _ _ _),(1,.slice _ _ _)]) (cs:=[_,_,_]) Z Z Z Z ?_;refine g0a q0 J3a Z Z ?_;intro g7 w7 S7 X7 G7;refine d0a (kk:=0) (vs:=[_,_,_]) S7 B2a Z Z Z Z Z Z Z ?_;intro j1 n0 Q0;dsimp only[e0a,List.set] at n0;refine lO1 Z (h0a n0 n8c Z Z (w2c g _) ?_);rintro z1 f0 ⟨gb,rfl,_,Y0⟩ m0 r1;refine lC1 Z (wJ ?_);refine B0b (vs:=fun y=>#[y,_]) z0d Z (fun _=>rfl) (fun rc wi B0 I0 f1 y0 d1 X0 Z0 a1 hl hB u1=>?_);obtain⟨l,c1⟩:∃l,l=f0.heap.size+1:=⟨_,Z⟩;have G0:=b1b (NC.nil (w:=f0)) a1 hl hB;rw[←c1] at hl G0 ⊢;have Si:=m0.later hB;have Ki:x0a [] f0 wi:=x0a.of_below hB;have Zw:=m0.size;have v1:=m0.lt 0 Z;have w1:w0.heap.size≤g7:=by simpa using m0.new 0 Z
 have g1:=H0.lt;simp only at g1;have i0:∀x∈[(f0.heap.size,Obj.deferred (some []))],x.1≠l:=fun x hx=>by
  rcases List.mem_cons.1 hx with rfl|hx
  ·show f0.heap.size≠l;omega
  ·cases hx
 have b1:g∉[l,g7]:=fun hh=>by
  simp only[List.mem_cons,List.not_mem_nil,or_false] at hh;omega
 have x0:p0a wi (g,173,mW m):=c1a Ki (c1a (m0.keep0 []) H0);refine A0a.mono (h0c m R hm g gb l [l,g7] wi (fun k w=>NC w [(l,.loop rc),(f0.heap.size,.deferred (some []))]∧(∃G cs v,T1a r6a 2 [] w0 G cs v k∧(∀x∈G.toList,wi.heap.size≤x)∧St [] w0 w [(some g7,41,[.slice A8 n8 c8,.slice L0 i1 S0,v]),(Gb,3,V0),(Ga,3,U0),(some g6,41,[.slice none 0 0,.slice none 0 0,.slice none 0 0]),(G,72,cs)])∧x0a [l,g7] wi w) x0 (c1a Ki Y0) b1 ⟨?_,?_,fun k w h=>h.2.2,fun k w x y hJ t1 hx hy=>?_⟩) ?_
 ·intro w v0;exact⟨G0.keep (x0a.of_below v0),⟨none,[],.slice none 0 0,T1a.nil,by simp,Si.later v0⟩,x0a.of_below v0⟩
 ·rintro k w w' ⟨c0,⟨G,cs,v,h1,h2,S3⟩,K3⟩ u0;exact⟨c0.keep (x0a.of_below u0),⟨G,cs,v,h1,h2,S3.later u0⟩,K3.trans (x0a.of_below u0)⟩
 ·obtain⟨c0,⟨G,cs,v,a0,z0,S3⟩,K3⟩:=hJ;obtain⟨Av,nv,cv,rfl⟩:=a0.form;refine A1d (c0 (l,.loop rc) (by simp)).1 B0 f1 y0 d1 X0 Z0 Z Z ?_;refine wI ?_;refine wF0 Z U ?_;refine⟨(c0 (l,.loop rc) (by simp)).1,?_⟩;have Sb:=S3.putObj (.loop { rc with state:=.busy }) c0 (List.mem_cons_self) (.inl (by omega));have d0:=c0.put (o':=.loop { rc with state:=.busy }) i0 (by simp);have Kb:=K3.fresh2 (Z2a w l (.loop { rc with state:=.busy })) (.inr (by simp));generalize w.putObj l (.loop { rc with state:=.busy })=wb at Sb d0 Kb ⊢;refine wI ?_;refine wO1 Z (G0a P4a Z (by exact Sb.cell 0 Z Z) Z ?_);refine lO1 Z (s0a T3a (vs:=[(0,.int .i64 _),(1,.int .i64 _)]) (cs:=[_,_]) Z Z Z Z ?_);refine k0a Sb S2a (vs:=[.agg _]) (cs:=[_,_]) Z Z Z Z Z Z ?_;intro s1 C1 r0 E0 n1;replace Kb:=Kb.trans (E0.of_nil);replace d0:=d0.keep E0;have R0:=Kb.size;refine r1a g7a (k:=5) (M2:=[]) (e1:=((x:Int),(y:Int))) r0 S2a Z a0 Z Z (r0.cells 0 Z) ⟨Z,by unfold i64;omega,by unfold i64;omega⟩ (by omega) Z ?_;intro v25 o1 T0 D1 D0 b0 F0 N0;replace Kb:=Kb.freshL F0 (fun g hg=>.inl (z0 g hg));replace d0:=d0.keepL F0 (f3b r0 5 Z);obtain⟨_,_,_,rfl⟩:=b0.form;refine lO1 Z (X0a (kk:=1) D0 C9c Z Z Z (by exact Nat.le_of_ble_eq_true Z) ?_);intro C0 s0 o0;replace Kb:=Kb.fresh2 o0 (by exact .inr (by simp));replace d0:=by exact d0.keepS o0 (D0.blk 1 Z)
  refine lF1 Z ?_;refine⟨{ rc with state:=.busy },(d0 (l,_) (by simp)).1,Z,?_⟩;have W0:=d0.put (o':=.loop rc) i0 (by simp);have Sn:=s0.tail.putObj (.loop rc) d0 (List.mem_cons_self) (.inl (by omega));have Kn:=Kb.fresh2 (Z2a C0 l (.loop rc)) (.inr (by simp));rw[O7b B0 I0];exact⟨W0,⟨_,_,_,b0,fun x hx=>by rcases N0 x hx with h|h;exact z0 x h;exact Nat.le_trans R0 h,Sn⟩,Kn⟩
 rintro v w3 ⟨c0,⟨G,cs,_,a0,z0,S3⟩,K3⟩;obtain⟨Av,nv,cv,rfl⟩:=a0.form;refine⟨rc,(c0 (l,.loop rc) (by simp)).1,by rw[B0];simp,.inl ⟨I0,?_⟩⟩;have Sa:=S3.putObj (.loop { rc with state:=.exhausted }) c0 (List.mem_cons_self) (.inl (by omega));have j0:=(c0.put (o':=.loop { rc with state:=.exhausted }) i0 (by simp)).tail;generalize w3.putObj l (.loop { rc with state:=.exhausted })=wa at Sa j0 ⊢;refine fO0 Z U (k3a x1a Z (Sa.cells 0 Z) Z Z ?_);refine d0a (kk:=3) (vs:=[_,_,_]) Sa B2a Z Z Z Z Z Z Z ?_;intro m1 e0 t0;dsimp only[e0a,List.set] at e0;replace j0:=by exact j0.keepS t0 (Sa.blk 3 Z)
 refine lR1 Z ?_;exact u9b (n:=3) Z x1a Z Z [f0.heap.size] Z (by simp) j0 (e0.cells 3 Z) (by rw[List.mem_singleton];have:=j0.ne (e0.blk 3 Z) _ List.mem_cons_self;exact fun h=>this h.symm) (fun w' hb=>by
  have S':=e0.marksW (rs:=[f0.heap.size]) j0 hb (by simp;omega);exact⟨⟨_,_,_,Z,fun M hM=>J0.rdI S' (k:=2) Z hM hC.i64s (by omega),fun M hM=>K0.rdI S' (k:=1) Z hM hW.i64s (by omega),fun M hM=>a0.newP S' (k:=4) Z hM (by have:=G4a m 64;omega)⟩,S'.fin⟩)
theorem r7b(p:List g1a)(C:List Int)(M:List Nat)(w0:World)(vc vl:Value)(hP:i0b M w0 vc p)(hC:RdI M w0 vl C)(hr:t1a C)(hc:∀c∈C,0≤c∧c<p.length)(hp:p.length≤32)(hw:∀c∈p,1≤c.w∧c.w≤8)(hs:c2a (wdL p C)≤6)(hK:W1a M w0):
 A0a prog 65 #[vc,vl] w0 fun v w'=>(∃a b c l,v=.tuple #[.agg #[a,b,c],.int .i64 0]∧X3a w0 w' a C∧X3a w0 w' b (wdL p C)∧j4b w0 w' c l)∧Bw w0 w':=by
 obtain⟨_,_,_,rfl⟩:=hP.form;obtain⟨_,n,c,rfl⟩:=hC.form;have ho:=j4a hr hc hp hw;have R0:=ho.clen;have J0:=ho.len;have S0:=Q2a ho.wid;obtain⟨b0,j0⟩:∃b:Nat,c2a (wdL p C)=(b:Int):=⟨(c2a (wdL p C)).toNat,by omega⟩;have T0:2 ^ b0≤64:=Nat.pow_le_pow_right (n:=2) (j:=6) (by omega) (by omega);have S:=St.refl w0;refine a0a func65 Z ntmps65 Z ?_;refine wO1 Z (g0a S J3a Z Z ?_);intro g4 w4 S4 X4 G4;refine lO1 Z ?_;have Q0:w0.heap.size≤w4.heap.size:=S4.size;have c0:∀g∈[g4],g<w4.heap.size:=fun g hg=>by rw[List.mem_singleton.1 hg];exact S4.lt 0 Z
 refine h0a S4 e4b Z Z (c2b p C M _ _ _ (hP.keep (S4.keep0 M)) (hC.keep (S4.keep0 M)) hr hc hp hw (hK.keep (S4.keep0 M))) ?_;rintro U0 y0 ⟨a,b,rfl,ha,hb⟩ A0 O0;obtain⟨A1,n1,c1,rfl⟩:=ha.form;obtain⟨A2,n2,c2,rfl⟩:=hb.form;have KQ:=x0a.refl [g4] y0;refine lO1 Z (g0a A0 D5a Z Z ?_);intro g6 w6 S6 X6 G6;have m0:=Nat.le_trans KQ.size G6;replace KQ:=KQ.trans (X6.of_nil);refine d0a (kk:=0) (vs:=[_,_,_]) S6 i5a Z Z Z Z Z Z Z ?_;intro K0 f0 n0;dsimp only[e0a,List.set] at f0;replace KQ:=KQ.fresh2 n0 (by exact .inl m0);refine lB1 Z (fun H0=>by exfalso;omega) fun H0=>?_;refine lO1 Z (s0a (vs:=[]) (cs:=mW x8a) I4d Z Z Z Z ?_);refine o0a (hv:=Z) (cs:=mW x8a) f0 Z ?_;intro q0 W0 s0 E0 z0;have r0:=Nat.le_trans KQ.size z0;replace KQ:=KQ.trans E0.of_nil;refine lO s0.k [.o 1] Z ⟨Z,U⟩ (r0a s0 w7a Z Z ((d6a [] _ _ _ (hb.at_ KQ c0) ho.wid).mono (fun v w' h=>⟨h.1.trans (by rw[j0]),h.2⟩)) ?_);intro X0 B0 F0;replace KQ:=KQ.trans (F0.of_nil);refine F2b (n:=b0) Z Z ?_;refine lC1 Z (wL (fun μk D ε w=>D=[]∧∃k:Nat,∃m:List Nat,(k+μk=((2 ^ b0)))∧(z5a m (fun a b=>a=b∧a<k))∧(x0a [g4] y0 w)∧St [] w0 w [(some q0,173,mW m),(some g6,89,[.slice A1 n1 c1,.slice A2 n2 c2,.slice none 0 0]),(some g4,41,[.slice none 0 0,.slice none 0 0,.slice none 0 0])]∧Sl ε [(4,.pointer (some ⟨g4,0,none⟩)),(6,.pointer (some ⟨g6,0,none⟩)),(8,.pointer (some ⟨q0,0,none⟩)),(25,.int .i64 ((2 ^ b0:Nat):Int)),(26,.int .i64 k)]) (μ:=((2 ^ b0))) ⟨Z,0,x8a,by omega,z5a.zero.congr (fun x y _ _=>⟨fun h=>h.elim,fun h=>by omega⟩),KQ,B0,Z⟩ ?_);rintro μk D ε w ⟨rfl,k,m,_,hm,KQ,S,eZ⟩;refine wK eZ (wB1 Z (fun I0=>?_) fun I0=>?_)
 ·refine lC1 Z (y0a b0a [0,1,2,3,4,5] [] [6] Z (Cl _ _ _ _) (Cl.start S) ?_);refine qO1 Z (C8b (n:=k) Z Z ?_);refine qO1 Z (v0a Z3a Z Z Z ?_);refine lV Z ?_;rintro Y0 ⟨D0,G0⟩;replace KQ:=KQ.trans (G0.of_nil);refine X0a (hy:=Z) (kk:=0) (v:=uV (2 ^ k)) D0 z2b Z Z Z (by rw[a6b,hm.len];simp;omega) ?_;intro N0 g0 o0;rw[T4b,show 0+(k:Int).toNat*1=k by simp] at g0;replace KQ:=KQ.fresh2 o0 (.inl (by assumption));refine lP1 Z ⟨μk-1,by omega,Z,k+1,(m.set k (2 ^ k)),by omega,?_,(KQ),g0,Z⟩;refine(hm.bit0 (x:=k) (y:=k) (by omega) (by omega) (fun b _ h=>by omega)).congr fun x y _ _=>⟨fun h=>by omega,fun h=>by omega⟩
 refine lO S.k [.o 1,.o 1] Z ⟨Z,Z,U⟩ ?_;have p0:w0.heap.size≤w.heap.size:=S.size;have d0:∀g∈[g4],g<w.heap.size:=fun g hg=>by rw[List.mem_singleton.1 hg];exact S.lt 2 Z
 refine h0a S h6b Z Z (S6a C (wdL p C) m _ hm [] _ _ _ q0 (ha.at_ KQ c0) (hb.at_ KQ c0) (S.blk 0 Z)) ?_;rintro V0 L0 ⟨_,_,_,rfl,t0,u0,v0⟩ C0 P0;obtain⟨_,_,_,rfl⟩:=t0.form;obtain⟨_,_,_,rfl⟩:=u0.form;obtain⟨_,_,_,rfl⟩:=v0.form;have e0:=x0a.refl [g4] L0;refine d0a (kk:=2) (vs:=[_,_,_]) C0 B2a Z Z Z Z Z Z Z ?_;intro x0 a0 i0;dsimp only[e0a,List.set] at a0;replace e0:=e0.fresh2 i0 (by exact .inr (by simp));exact lR1 Z (L0a (n:=3) Z x1a Z (a0.cells 2 Z) Z Z ⟨⟨_,_,_,_,Z,t0.later e0 d0 p0,u0.later e0 d0 p0,v0.later e0 d0 p0⟩,a0.fin⟩)
theorem O5b(p:List g1a)(C:List Int)(er:Int)(he:ErL p C 6 er)(M:List Nat)(w0:World)(vc vl:Value)(hP:i0b M w0 vc p)(hC:RdI M w0 vl C)(hp:p.length≤32)(hw:∀c∈p,1≤c.w∧c.w≤8)(hK:W1a M w0):
 A0a prog 65 #[vc,vl] w0 fun v w'=>v=.tuple #[.agg #[.slice none 0 0,.slice none 0 0,.slice none 0 0],.int .i64 er]∧Bw w0 w':=by
 obtain⟨_,_,_,rfl⟩:=hP.form;obtain⟨_,n,c,rfl⟩:=hC.form;have m0:=he.or;have S:=St.refl w0;refine a0a func65 Z ntmps65 Z ?_;refine wO1 Z (g0a S J3a Z Z ?_);intro g4 w4 S4 X4 G4;refine lO1 Z (r0a S4 e4b Z Z (S0b p C er he M _ _ _ (hP.keep (S4.keep0 M)) (hC.keep (S4.keep0 M)) hp hw (hK.keep (S4.keep0 M))) ?_);intro n0 c0 j0;refine lO1 Z (g0a c0 D5a Z Z ?_);intro g6 w6 S6 X6 G6;refine d0a (kk:=0) (vs:=[_,_,_]) S6 i5a Z Z Z Z Z Z Z ?_;intro g0 b0 d0;dsimp only[e0a,List.set] at b0;refine lB1 Z (fun f0=>?_) (fun f0=>by exfalso;omega);refine lO1 Z (s0a v3a (vs:=[]) (cs:=[_,_,_]) Z Z Z Z ?_);refine lO1 Z (d0a (kk:=1) (vs:=[_,_,_]) b0 B2a Z Z Z Z Z Z Z ?_);intro i0 a0 e0;dsimp only[e0a,List.set] at a0;exact lR1 Z (L0a (n:=3) Z x1a Z (a0.cells 1 Z) Z Z ⟨Z,a0.fin⟩)
theorem f5b(p:List g1a)(C:List Int)(M:List Nat)(w0:World)(vc vl:Value)(hP:i0b M w0 vc p)(hC:RdI M w0 vl C)(hp:p.length≤32)(hw:∀c∈p,1≤c.w∧c.w≤8)(hK:W1a M w0):
 A0a prog 65 #[vc,vl] w0 fun v w'=>(∃A1 n1 c1 A2 n2 c2 A3 n3 c3 er,v=.tuple #[.agg #[.slice A1 n1 c1,.slice A2 n2 c2,.slice A3 n3 c3],.int .i64 er]∧(er=0∧OKL p.length C∧c2a (wdL p C)≤6∧X3a w0 w' (.slice A1 n1 c1) C∧X3a w0 w' (.slice A2 n2 c2) (wdL p C)∨ErL p C 6 er))∧Bw w0 w':=by
 by_cases h:∃er,ErL p C 6 er
 ·obtain⟨er,h⟩:=h;exact(O5b p C er h M w0 vc vl hP hC hp hw hK).mono fun v w' ⟨hv,hb⟩=>⟨⟨_,_,_,_,_,_,_,_,_,er,hv,.inr h⟩,hb⟩
 ·have a0:OKL p.length C:=Classical.byContradiction fun z=>h ⟨1,.inl ⟨Z,z⟩⟩;have h6:=Int.not_lt.1 fun z=>h ⟨2,.inr ⟨Z,a0,z⟩⟩;exact(r7b p C M w0 vc vl hP hC a0.1 a0.2 hp hw h6 hK).mono fun v w' ⟨⟨a,b,d,li,hv,h1,h2,h3⟩,hb⟩=>by
   obtain⟨A1,n1,c1,rfl⟩:=h1.form;obtain⟨A2,n2,c2,rfl⟩:=h2.form;obtain⟨A3,n3,c3,rfl⟩:=h3.form;exact⟨⟨_,_,_,_,_,_,_,_,_,0,hv,.inl ⟨Z,a0,h6,h1,h2⟩⟩,hb⟩
end Go.Fw
