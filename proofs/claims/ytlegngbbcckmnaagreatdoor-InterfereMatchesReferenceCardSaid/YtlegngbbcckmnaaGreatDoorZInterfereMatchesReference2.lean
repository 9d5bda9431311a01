/-
  Part 2 of 9 of the proof of InterfereMatchesReference: what it leans on. No conditions.
-/
import Derived.Test.YtlegngbbcckmnaaGreatDoorZInterfereMatchesReference1
import Derived.Maps.Keyed
import Derived.Carry
import Derived.StringKeys
set_option maxRecDepth 100000
set_option maxHeartbeats 4000000
namespace Go.Proofs.YtlegngbbcckmnaaGreatDoor
end Go.Proofs.YtlegngbbcckmnaaGreatDoor
namespace Go.Fw
open Go.Proofs.YtlegngbbcckmnaaGreatDoor Go.Proofs Go.RowKit Go.Maps Tryz
theorem c8b(n:Nat)(hn:n≤20)(w:World):A0a prog 37 #[.int .i64 n] w fun v w'=>v=.int .i64 (H3a n)∧Below w.heap.size w w':=by
 have S:=St.refl w;obtain⟨w0,a0⟩:∃w0,w0=w:=⟨_,Z⟩;rw[←a0] at S ⊢;clear a0;refine a0a func37 Z ntmps37 Z ?_;refine wC1 Z (wL (fun μ D ε w=>D=[]∧∃k:Nat,(k+μ=n)∧St [] w0 w []∧ε 0=.int .i64 n∧ε 4=.int .i64 k∧ε 3=.int .i64 (H3a k)) (μ:=n) ⟨Z,0,by omega,S,Z,Z,Z⟩ ?_);rintro μ D ε w ⟨rfl,k,_,S,e0,e4,e3⟩;refine q0a 0 e0 (q0a 4 e4 (q0a 3 e3 ?_));clear e0 e4 e3;have hb:H3a (k+1)≤H3a 21:=G8c _ _ (by omega);have b0:H3a 21=2097152:=by decide
 have hp:=D8a k;simp only[H3a] at hb;refine wB1 Z (fun h7=>?_) fun h7=>?_
 ·exact lP0 Z ⟨by omega,by omega,U⟩ ⟨μ-1,by omega,Z,k+1,by omega,S,Z,Z,Z⟩
 refine lR1 Z (w0a Z ?_);obtain rfl:k=n:=by omega
 exact⟨Z,S.fin⟩
theorem g8a(n:Int)(w:World)(h0:0≤n:=by omega)(hn:n≤20:=by omega):A0a prog 37 #[.int .i64 n] w fun v w'=>v=.int .i64 (H3a n.toNat)∧Below w.heap.size w w':=by
 have h:=c8b n.toNat (by omega) w
 rwa [Int.toNat_of_nonneg h0] at h
theorem I3b:∀(e:E) (M:List Nat) (w0:World) (cs:LV) (a0:Int),RdE M w0 e cs→i64 a0 →
 A0a prog 21 #[.agg cs.toArray,.int .i64 a0] w0 fun v w'=>v=.int .i64 (e.size a0)∧Bw w0 w':=by
 intro e
 induction e using E.induct with
 | _ e ih =>
 intro M w0 cs a0 hR hl;obtain⟨A,n,c,rfl,_,_,_,_,_,_,_,n0⟩:=hR.open_;have S:=St.refl w0;unfold i64 at hl;refine a0a func21 Z ntmps21 Z ?_;refine wO1 Z (o0a S Z ?_);intro g2 w2 S2 X2 G2;refine lB1 Z (fun h8=>?_) fun h8=>?_
 ·refine lR1 Z (w0a Z ?_);exact⟨by rw[E.size_def,if_pos h8],S2.fin⟩
 refine lC1 Z ?_;refine wL (fun μ D ε w=>D=[]∧∃k:Nat,∃nn:Int,(k+μ=e.kids.length)∧(e.size a0=E.sizes (e.kids.drop k) a0 nn)∧(1≤nn)∧(nn≤a0)∧St [] w0 w [(some g2,37,[.int .i64 e.op,.int .i64 e.w,.int .i64 e.n,.slice A n c])]∧ε 1=.int .i64 a0∧ε 2=.pointer (some ⟨g2,0,none⟩)∧ε 5=.int .i64 nn∧ε 6=.int .i64 k) (μ:=e.kids.length) ⟨Z,0,1,by omega,by rw[E.size_def,if_neg (by omega)];rfl,by omega,by omega,S2,Z,Z,Z,Z⟩ ?_;rintro μ D ε w ⟨rfl,k,nn,_,hs,_,_,S,e1,e2,e5,e6⟩;refine q0a 1 e1 (q0a 2 e2 (q0a 5 e5 (q0a 6 e6 ?_)));clear e1 e2 e5 e6;refine wB S.k [.o 0] Z ⟨Z,U⟩ (fun f0=>?_) fun f0=>?_
 ·refine lB1 Z (fun c0=>?_) fun c0=>?_
  ·have b0:k<e.kids.length:=by omega
   obtain⟨_,o,_,g0,m0⟩:=n0 (by omega);obtain⟨ck,i0,d0⟩:=m0 k b0;have o0:ck.length=4:=d0.length;have hb:=E.size_le e.kids[k] (a0-nn) (by omega);have j0:e.kids.drop k=e.kids[k]::e.kids.drop (k+1):=List.drop_eq_getElem_cons b0;rw[j0] at hs;simp only[E.sizes,c0,if_true] at hs;refine lO S.k [.o 0] Z ⟨Z,U⟩ (N0a T0a.slT Z (by assumption) Z Z ?_);refine k3a D0a Z (i0.keep (S.keep0 M) g0) (by assumption) Z ?_;refine lO0 Z ⟨by omega,U⟩ ?_;refine r0a S r5b Z Z (ih _ (List.getElem_mem b0) M _ ck _ (RdE.keep (S.keep0 M) _ _ d0) iO) ?_;intro q0 e0 p0;exact lP0 Z ⟨by omega,by omega,U⟩ ⟨μ-1,by omega,Z,k+1,_,by omega,hs,by omega,by omega,e0,Z,Z,Z,Z⟩
  refine lR1 Z (w0a Z ?_);exact⟨by rw[hs,E.sizes_stop _ _ _ _ (by omega)],S.fin⟩
 refine lR1 Z (w0a Z ?_);exact⟨by rw[hs,E.sizes_stop _ _ _ _ (by omega)],S.fin⟩
theorem f4c(op:Int)(w0:World):A0a prog 263 #[.int .i64 op] w0 fun v w'=>v=.int .i64 (y8a op)∧Bw w0 w':=by
 have S:=St.refl w0;have ha:=L1a op;refine a0a func263 Z ntmps263 Z ?_;refine wB1 Z (fun h4=>?_) fun h4=>?_
 ·refine lB1 Z (fun h7=>?_) fun h7=>?_
  ·exact lU Z Z ⟨congrArg (Value.int .i64) (by omega),S.fin⟩
  refine lB1 Z (fun b0=>?_) fun b0=>?_
  ·exact lU Z Z ⟨congrArg (Value.int .i64) (by omega),S.fin⟩
  refine lB1 Z (fun c0=>?_) fun c0=>?_
  ·refine lB1 Z (fun d0=>?_) fun d0=>?_
   ·exact lU Z Z ⟨congrArg (Value.int .i64) (by omega),S.fin⟩
   refine lB1 Z (fun a0=>?_) fun a0=>?_
   ·exact lU Z Z ⟨congrArg (Value.int .i64) (by omega),S.fin⟩
   exact lU Z Z ⟨congrArg (Value.int .i64) (by omega),S.fin⟩
  refine lB1 Z (fun a0=>?_) fun a0=>?_
  ·exact lU Z Z ⟨congrArg (Value.int .i64) (by omega),S.fin⟩
  exact lU Z Z ⟨congrArg (Value.int .i64) (by omega),S.fin⟩
 refine lB1 Z (fun b0=>?_) fun b0=>?_
 ·exact lU Z Z ⟨congrArg (Value.int .i64) (by omega),S.fin⟩
 refine lB1 Z (fun c0=>?_) fun c0=>?_
 ·refine lB1 Z (fun d0=>?_) fun d0=>?_
  ·exact lU Z Z ⟨congrArg (Value.int .i64) (by omega),S.fin⟩
  refine lB1 Z (fun a0=>?_) fun a0=>?_
  ·exact lU Z Z ⟨congrArg (Value.int .i64) (by omega),S.fin⟩
  exact lU Z Z ⟨congrArg (Value.int .i64) (by omega),S.fin⟩
 refine lB1 Z (fun a0=>?_) fun a0=>?_
 ·exact lU Z Z ⟨congrArg (Value.int .i64) (by omega),S.fin⟩
 exact lU Z Z ⟨congrArg (Value.int .i64) (by omega),S.fin⟩
theorem M8c(e:E)(M:List Nat)(w0:World)(cs:LV)(hR:RdE M w0 e cs):
 A0a prog 241 #[.agg cs.toArray] w0 fun v w'=>v=.bool e.shapeB∧Bw w0 w':=by
 obtain⟨_,_,_,rfl,_,_,_,_,_,_,_,r0⟩:=hR.open_;have S:=St.refl w0;have ha:=L1a e.op;refine a0a func241 Z ntmps241 Z ?_;refine wO1 Z (o0a S Z ?_);intro g1 w1 S1 X1 G1;refine lC1 Z (y0a b0a [0,1,2,3,4,5,6,7,8,9,10,11,12,13,14,15,16] [] [] Z (Cl _ _ _ _) (Cl.start S1) ?_);refine qO S1.q [.o 0] Z ⟨Z,U⟩ (k1a f0d Z Z (fun w1 S1 X1=>f4c _ _) ?_);refine qB S1.q [.o 0] Z ⟨Z,U⟩ (fun h9=>?_) fun h9=>?_
 ·refine lV Z ?_;rintro I0 ⟨a0,A0⟩;refine lR1 Z (w0a Z ?_);exact⟨by exact SN,a0.fin⟩
 refine qB S1.q [.o 0] Z ⟨Z,U⟩ (fun L0=>?_) fun L0=>?_
 ·refine lV Z ?_;rintro I0 ⟨a0,A0⟩;refine lR1 Z (w0a Z ?_);exact⟨by exact SN,a0.fin⟩
 refine qB S1.q [.o 0] Z ⟨Z,U⟩ (fun N0=>?_) fun N0=>?_
 ·refine lV Z ?_;rintro I0 ⟨a0,A0⟩;refine lR1 Z (w0a Z ?_);exact⟨by exact SN,a0.fin⟩
 refine lV Z ?_;rintro I0 ⟨a0,A0⟩;refine lB a0.k [.o 0] Z ⟨Z,U⟩ (fun O0=>?_) fun O0=>?_
 ·refine lC1 Z (y0a b0a [0,1,2,3,4,5,6,7,8,9,10,11] [] [] Z (Cl _ _ _ _) (Cl.start a0) ?_);refine qB a0.q [.o 0] Z ⟨Z,U⟩ (fun P0=>?_) fun P0=>?_
  ·refine qO a0.q [.o 0,.o 0] Z ⟨Z,Z,U⟩ (k1a E6a Z Z (fun w1 S1 X1=>g8a _ _) ?_);refine qB1 Z (fun Q0=>?_) fun Q0=>?_
   ·refine lV Z ?_;rintro K0 ⟨s0,J0⟩;refine lR1 Z (w0a Z ?_);exact⟨by exact ST1,s0.fin⟩
   refine lV Z ?_;rintro K0 ⟨s0,J0⟩;refine lR1 Z (w0a Z ?_);exact⟨by exact SF1,s0.fin⟩
  refine lV Z ?_;rintro K0 ⟨s0,J0⟩;refine lR1 Z (w0a Z ?_);exact⟨by exact SF1,s0.fin⟩
 refine lB1 Z (fun R0=>?_) fun R0=>?_
 ·refine lB a0.k [.o 0] Z ⟨Z,U⟩ (fun G0=>?_) fun G0=>?_
  ·refine lB a0.k [.o 0] Z ⟨Z,U⟩ (fun H0=>?_) fun H0=>?_
   ·refine lR1 Z (w0a Z ?_);exact⟨by exact ST2,a0.fin⟩
   refine lR1 Z (w0a Z ?_);exact⟨by exact SF2,a0.fin⟩
  refine lR1 Z (w0a Z ?_);exact⟨by exact SF2,a0.fin⟩
 refine lB1 Z (fun S0=>?_) fun S0=>?_
 ·refine lB a0.k [.o 0] Z ⟨Z,U⟩ (fun G0=>?_) fun G0=>?_
  ·refine lB a0.k [.o 0] Z ⟨Z,U⟩ (fun H0=>?_) fun H0=>?_
   ·refine lR1 Z (w0a Z ?_);exact⟨by exact ST2,a0.fin⟩
   refine lR1 Z (w0a Z ?_);exact⟨by exact SF2,a0.fin⟩
  refine lR1 Z (w0a Z ?_);exact⟨by exact SF2,a0.fin⟩
 refine lB1 Z (fun T0=>?_) fun T0=>?_
 ·refine lC1 Z (y0a b0a [0,1,2,3,4,5,6,7,8,9,10,11,12,13] [] [] Z (Cl _ _ _ _) (Cl.start a0) ?_);refine qB a0.q [.o 0] Z ⟨Z,U⟩ (fun U0=>?_) fun U0=>?_
  ·refine qO a0.q [.o 0] Z ⟨Z,U⟩ ?_;obtain⟨b,o,hA,y0,f0⟩:=r0 (by omega);have j0:=w1a f0 0 (by omega);refine F0a T0a.slT Z (by assumption) Z Z ?_;refine qO1 Z (j0a E0a Z (fun w1 hw=>by exact hw.1.old j0) Z ?_);refine qB a0.q [.o 0] Z ⟨Z,U⟩ (fun V0=>?_) fun V0=>?_
   ·refine lV Z ?_;rintro z0 ⟨i0,t0⟩;refine lR1 Z (w0a Z ?_);exact⟨by exact ST4 (by omega),i0.fin⟩
   refine lV Z ?_;rintro z0 ⟨i0,t0⟩;refine lR1 Z (w0a Z ?_);exact⟨by exact SF4,i0.fin⟩
  refine lV Z ?_;rintro z0 ⟨i0,t0⟩;refine lR1 Z (w0a Z ?_);exact⟨by exact SF4,i0.fin⟩
 refine lB1 Z (fun W0=>?_) fun W0=>?_
 ·refine lC1 Z (y0a b0a [0,1,2,3,4,5,6,7,8,9,10,11,12,13,14,15,16,17,18,19,20,21] [] [] Z (Cl _ _ _ _) (Cl.start a0) ?_);refine qB a0.q [.o 0] Z ⟨Z,U⟩ (fun u0=>?_) fun u0=>?_
  ·refine qB a0.q [.o 0] Z ⟨Z,U⟩ (fun v0=>?_) fun v0=>?_
   ·refine qO a0.q [.o 0] Z ⟨Z,U⟩ ?_;obtain⟨b,o,hA,y0,f0⟩:=r0 (by omega);have j0:=w1a f0 0 (by omega);have n0:=w1a f0 1 (by omega);refine F0a T0a.slT Z (by assumption) Z Z ?_;refine qO1 Z (j0a E0a Z (fun w1 hw=>by exact hw.1.old j0) Z ?_);refine qO a0.q [.o 0] Z ⟨Z,U⟩ (F0a T0a.slT Z (by assumption) Z Z ?_);refine qO1 Z (j0a E0a Z (fun w1 hw=>by exact hw.1.old n0) Z ?_);refine qB1 Z (fun x0=>?_) fun x0=>?_
    ·refine lV Z ?_;rintro d0 ⟨b0,c0⟩;refine lR1 Z (w0a Z ?_);exact⟨by exact C1d,b0.fin⟩
    refine lV Z ?_;rintro d0 ⟨b0,c0⟩;refine lR1 Z (w0a Z ?_);exact⟨by exact n4b,b0.fin⟩
   refine lV Z ?_;rintro d0 ⟨b0,c0⟩;refine lR1 Z (w0a Z ?_);exact⟨by exact n4b,b0.fin⟩
  refine lV Z ?_;rintro d0 ⟨b0,c0⟩;refine lR1 Z (w0a Z ?_);exact⟨by exact n4b,b0.fin⟩
 refine lB1 Z (fun X0=>?_) fun X0=>?_
 ·refine lC1 Z (y0a b0a [0,1,2,3,4,5,6,7,8,9,10,11,12,13,14,15,16,17,18,19,20,21] [] [] Z (Cl _ _ _ _) (Cl.start a0) ?_);refine qB a0.q [.o 0] Z ⟨Z,U⟩ (fun u0=>?_) fun u0=>?_
  ·refine qB a0.q [.o 0] Z ⟨Z,U⟩ (fun v0=>?_) fun v0=>?_
   ·refine qO a0.q [.o 0] Z ⟨Z,U⟩ ?_;obtain⟨b,o,hA,y0,f0⟩:=r0 (by omega);have j0:=w1a f0 0 (by omega);have n0:=w1a f0 1 (by omega);refine F0a T0a.slT Z (by assumption) Z Z ?_;refine qO1 Z (j0a E0a Z (fun w1 hw=>by exact hw.1.old j0) Z ?_);refine qO a0.q [.o 0] Z ⟨Z,U⟩ (F0a T0a.slT Z (by assumption) Z Z ?_);refine qO1 Z (j0a E0a Z (fun w1 hw=>by exact hw.1.old n0) Z ?_);refine qB1 Z (fun x0=>?_) fun x0=>?_
    ·refine lV Z ?_;rintro d0 ⟨b0,c0⟩;refine lR1 Z (w0a Z ?_);exact⟨by exact C1d,b0.fin⟩
    refine lV Z ?_;rintro d0 ⟨b0,c0⟩;refine lR1 Z (w0a Z ?_);exact⟨by exact n4b,b0.fin⟩
   refine lV Z ?_;rintro d0 ⟨b0,c0⟩;refine lR1 Z (w0a Z ?_);exact⟨by exact n4b,b0.fin⟩
  refine lV Z ?_;rintro d0 ⟨b0,c0⟩;refine lR1 Z (w0a Z ?_);exact⟨by exact n4b,b0.fin⟩
 refine lB1 Z (fun Y0=>?_) fun Y0=>?_
 ·refine lC1 Z (y0a b0a [0,1,2,3,4,5,6,7,8,9,10,11,12,13,14,15,16,17,18,19,20,21] [] [] Z (Cl _ _ _ _) (Cl.start a0) ?_);refine qB a0.q [.o 0] Z ⟨Z,U⟩ (fun u0=>?_) fun u0=>?_
  ·refine qB a0.q [.o 0] Z ⟨Z,U⟩ (fun v0=>?_) fun v0=>?_
   ·refine qO a0.q [.o 0] Z ⟨Z,U⟩ ?_;obtain⟨b,o,hA,y0,f0⟩:=r0 (by omega);have j0:=w1a f0 0 (by omega);have n0:=w1a f0 1 (by omega);refine F0a T0a.slT Z (by assumption) Z Z ?_;refine qO1 Z (j0a E0a Z (fun w1 hw=>by exact hw.1.old j0) Z ?_);refine qO a0.q [.o 0] Z ⟨Z,U⟩ (F0a T0a.slT Z (by assumption) Z Z ?_);refine qO1 Z (j0a E0a Z (fun w1 hw=>by exact hw.1.old n0) Z ?_);refine qB1 Z (fun x0=>?_) fun x0=>?_
    ·refine lV Z ?_;rintro d0 ⟨b0,c0⟩;refine lR1 Z (w0a Z ?_);exact⟨by exact C1d,b0.fin⟩
    refine lV Z ?_;rintro d0 ⟨b0,c0⟩;refine lR1 Z (w0a Z ?_);exact⟨by exact n4b,b0.fin⟩
   refine lV Z ?_;rintro d0 ⟨b0,c0⟩;refine lR1 Z (w0a Z ?_);exact⟨by exact n4b,b0.fin⟩
  refine lV Z ?_;rintro d0 ⟨b0,c0⟩;refine lR1 Z (w0a Z ?_);exact⟨by exact n4b,b0.fin⟩
 refine lB1 Z (fun Z0=>?_) fun Z0=>?_
 ·refine lC1 Z (y0a b0a [0,1,2,3,4,5,6,7,8,9,10,11,12,13,14,15,16,17,18,19,20,21,22,23,24,25,26,27,28,29,30,31] [] [] Z (Cl _ _ _ _) (Cl.start a0) ?_);refine qB a0.q [.o 0] Z ⟨Z,U⟩ (fun a1=>?_) fun a1=>?_
  ·refine qO a0.q [.o 0] Z ⟨Z,U⟩ ?_;obtain⟨b,o,hA,y0,f0⟩:=r0 (by omega);have j0:=w1a f0 0 (by omega);have n0:=w1a f0 1 (by omega);have c1:=w1a f0 2 (by omega);refine F0a T0a.slT Z (by assumption) Z Z ?_;refine qO1 Z (j0a E0a Z (fun w1 hw=>by exact hw.1.old j0) Z ?_);refine qB1 Z (fun b1=>?_) fun b1=>?_
   ·refine qO a0.q [.o 0] Z ⟨Z,U⟩ (F0a T0a.slT Z (by assumption) Z Z ?_);refine qO1 Z (j0a E0a Z (fun w1 hw=>by exact hw.1.old n0) Z ?_);refine qB a0.q [.o 0] Z ⟨Z,U⟩ (fun B0=>?_) fun B0=>?_
    ·refine qO a0.q [.o 0] Z ⟨Z,U⟩ (F0a T0a.slT Z (by assumption) Z Z ?_);refine qO1 Z (j0a E0a Z (fun w1 hw=>by exact hw.1.old c1) Z ?_);refine qB a0.q [.o 0] Z ⟨Z,U⟩ (fun C0=>?_) fun C0=>?_
     ·refine lV Z ?_;rintro o0 ⟨e0,m0⟩;refine lR1 Z (w0a Z ?_);exact⟨by exact i5d (by omega),e0.fin⟩
     refine lV Z ?_;rintro o0 ⟨e0,m0⟩;refine lR1 Z (w0a Z ?_);exact⟨by exact T2d,e0.fin⟩
    refine lV Z ?_;rintro o0 ⟨e0,m0⟩;refine lR1 Z (w0a Z ?_);exact⟨by exact T2d,e0.fin⟩
   refine lV Z ?_;rintro o0 ⟨e0,m0⟩;refine lR1 Z (w0a Z ?_);exact⟨by exact T2d,e0.fin⟩
  refine lV Z ?_;rintro o0 ⟨e0,m0⟩;refine lR1 Z (w0a Z ?_);exact⟨by exact T2d,e0.fin⟩
 refine lC1 Z (y0a b0a [0,1,2,3,4,5,6,7,8,9,10,11,12,13,14,15,16,17,18,19,20,21,22,23] [] [] Z (Cl _ _ _ _) (Cl.start a0) ?_);refine qB a0.q [.o 0] Z ⟨Z,U⟩ (fun D0=>?_) fun D0=>?_
 ·refine qO a0.q [.o 0] Z ⟨Z,U⟩ ?_;obtain⟨b,o,hA,y0,f0⟩:=r0 (by omega);have j0:=w1a f0 0 (by omega);have n0:=w1a f0 1 (by omega);refine F0a T0a.slT Z (by assumption) Z Z ?_;refine qO1 Z (j0a E0a Z (fun w1 hw=>by exact hw.1.old j0) Z ?_);refine qB a0.q [.o 0] Z ⟨Z,U⟩ (fun E0=>?_) fun E0=>?_
  ·refine qO a0.q [.o 0] Z ⟨Z,U⟩ (F0a T0a.slT Z (by assumption) Z Z ?_);refine qO1 Z (j0a E0a Z (fun w1 hw=>by exact hw.1.old n0) Z ?_);refine qB a0.q [.o 0] Z ⟨Z,U⟩ (fun F0=>?_) fun F0=>?_
   ·refine lV Z ?_;rintro q0 ⟨g0,p0⟩;refine lR1 Z (w0a Z ?_);exact⟨by exact ST5 (by omega),g0.fin⟩
   refine lV Z ?_;rintro q0 ⟨g0,p0⟩;refine lR1 Z (w0a Z ?_);exact⟨by exact SF5 (by omega),g0.fin⟩
  refine lV Z ?_;rintro q0 ⟨g0,p0⟩;refine lR1 Z (w0a Z ?_);exact⟨by exact SF5 (by omega),g0.fin⟩
 refine lV Z ?_;rintro q0 ⟨g0,p0⟩;refine lR1 Z (w0a Z ?_);exact⟨by exact SF5 (by omega),g0.fin⟩
theorem b0d:∀(e:E) (M:List Nat) (w0:World) (cs:LV) (a0:Int),RdE M w0 e cs→-1000≤a0→a0≤1000 →
 A0a prog 192 #[.agg cs.toArray,.int .i64 a0] w0 fun v w'=>v=.bool (e.good a0)∧Bw w0 w':=by
 intro e
 induction e using E.induct with
 | _ e ih =>
 intro M w0 cs a0 hR y0 z0;obtain⟨A,n,c,rfl,_,_,_,_,_,_,_,t0⟩:=hR.open_;have S:=St.refl w0;have b0:=E.good_def e a0;have c0:∀k∈e.kids,k.good (a0-1)=false→E.goods e.kids (a0-1)=false:=fun k hk hf=>by
  cases hg:E.goods e.kids (a0-1) with
  | false=>rfl
  | true=>rw[(E.goods_iff _ _).1 hg k hk] at hf;cases hf
 refine a0a func192 Z ntmps192 Z ?_;refine wO1 Z (o0a S Z ?_);intro g2 w2 S2 X2 G2;refine lB1 Z (fun h7=>?_) fun h7=>?_
 ·refine lU Z Z ⟨cB ?_,S2.fin⟩;rw[b0];simp[show ¬1≤a0 by omega];done
 refine lO S2.k [.w 0] Z ⟨⟨Z,by rfl⟩,U⟩ (i0a S2 f9c Z Z (M8c _ M _ _ (RdE.keep (S2.keep0 M) _ _ hR)) (fun f0 v0 d0 m0=>?_) (fun f0 v0 d0 m0=>?_))
 ·refine lC1 Z (wL (fun μ D ε w=>D=[]∧∃k:Nat,(k+μ=e.kids.length)∧(∀(j:Nat) (h:j<e.kids.length),j<k→e.kids[j].good (a0-1)=true)∧St [] w0 w [(some g2,37,[.int .i64 e.op,.int .i64 e.w,.int .i64 e.n,.slice A n c])]∧ε 1=.int .i64 a0∧ε 2=.pointer (some ⟨g2,0,none⟩)∧ε 5=.int .i64 k) (μ:=e.kids.length) ⟨Z,0,by omega,fun j _ h=>absurd h (by omega),d0,Z,Z,Z⟩ ?_);rintro μ D ε w ⟨rfl,k,hk,hs,S,e1,e2,e5⟩;refine q0a 1 e1 (q0a 2 e2 (q0a 5 e5 ?_));clear e1 e2 e5;refine wB S.k [.o 0] Z ⟨Z,U⟩ (fun o0=>?_) fun o0=>?_
  ·have i0:k<e.kids.length:=by omega
   obtain⟨_,o,_,p0,s0⟩:=t0 (by omega);obtain⟨ck,q0,j0⟩:=s0 k i0;have u0:ck.length=4:=j0.length;refine lO S.k [.o 0] Z ⟨Z,U⟩ (N0a T0a.slT Z (by assumption) Z Z ?_);refine k3a D0a Z (q0.keep (S.keep0 M) p0) (by assumption) Z ?_;refine lO0 Z ⟨by omega,U⟩ (i0a S I3c Z Z (ih _ (List.getElem_mem i0) M _ ck _ (RdE.keep (S.keep0 M) _ _ j0) (by omega) (by omega)) (fun g0 x0 e0 n0=>?_) (fun g0 x0 e0 n0=>?_))
   ·refine lP1 Z ⟨μ-1,by omega,Z,k+1,by omega,fun j hj h=>?_,e0,Z,Z,Z⟩;by_cases r0:j=k
    ·subst r0;exact g0
    ·exact hs j hj (by omega)
   refine lU Z Z ⟨cB ?_,e0.fin⟩;rw[b0];simp[c0 _ (List.getElem_mem i0) g0];done
  refine lU Z Z ⟨cB ?_,S.fin⟩;rw[b0];rw[(E.goods_iff _ _).2 (fun x hx=>by obtain⟨j,hj,rfl⟩:=List.getElem_of_mem hx;exact hs j hj (by omega))];simp[f0,show 1≤a0 by omega]
 refine lU Z Z ⟨cB ?_,d0.fin⟩;rw[b0];simp[f0];done
theorem O6a(e:E)(M:List Nat)(w0:World)(cs:LV)(hR:RdE M w0 e cs):
 A0a prog 135 #[.agg cs.toArray] w0 fun v w'=>v=.bool e.wf∧Bw w0 w':=by
 obtain⟨_,_,_,rfl,_⟩:=hR.open_;have S:=St.refl w0;have a0:=E.size_eq e 601 (by omega);refine a0a func135 Z ntmps135 Z ?_;refine wO1 Z (o0a S Z ?_);intro g1 w1 S1 X1 G1;refine lO S1.k [.w 0] Z ⟨⟨Z,by rfl⟩,U⟩ ?_;refine r0a S1 r5b Z Z (I3b _ M _ _ _ (RdE.keep (S1.keep0 M) _ _ hR) iO) ?_;intro w4 S4 X4;refine lB1 Z (fun h5=>?_) fun h5=>?_
 ·refine lO S4.k [.w 0] Z ⟨⟨Z,by rfl⟩,U⟩ (i0a S4 I3c Z Z (b0d _ M _ _ _ (RdE.keep (S4.keep0 M) _ _ hR) (by omega) (by omega)) (fun h8 w8 S8 X8=>?_) (fun h8 w8 S8 X8=>?_))
  ·refine lU Z Z ⟨cB ?_,S8.fin⟩;unfold E.wf;simp[h8,show e.cnt≤600 by omega];done
  refine lU Z Z ⟨cB ?_,S8.fin⟩;unfold E.wf;simp[h8,show e.cnt≤600 by omega];done
 refine lU Z Z ⟨cB ?_,S4.fin⟩;unfold E.wf;simp[show ¬e.cnt≤600 by omega];done
theorem g6a(e:E)(M:List Nat)(w0:World)(cs:LV)(a0:Int)(hR:RdE M w0 e cs)(h0:0≤a0:=by omega)(h1:a0≤1000000:=by omega):
 A0a prog 51 #[.agg cs.toArray,.int .i64 a0] w0 fun v w'=>v=.bool (decide ((e.cnt:Int)≤a0))∧Bw w0 w':=by
 obtain⟨_,_,_,rfl,_⟩:=hR.open_;have S:=St.refl w0;have c0:=E.size_eq e (a0+1) (by omega);refine a0a func51 Z ntmps51 Z ?_;refine wO1 Z (o0a S Z ?_);intro g2 w2 S2 X2 G2;refine lO S2.k [.w 0] Z ⟨by omega,⟨Z,by rfl⟩,U⟩ ?_;refine r0a S2 r5b Z Z (I3b _ M _ _ _ (RdE.keep (S2.keep0 M) _ _ hR) iO) ?_;intro w8 S8 X8;refine lB1 Z (fun b0=>?_) fun b0=>?_
 ·refine lU Z Z ⟨cB ?_,S8.fin⟩;exact(decide_eq_true (by omega)).symm
 refine lU Z Z ⟨cB ?_,S8.fin⟩;exact(decide_eq_false (by omega)).symm
theorem z8c:∀(e:E) (M:List Nat) (w0:World) (cs:LV) (vc:Value) (cells:List g1a) (g0:Bool) (J0:Int),RdE M w0 e cs→i0b M w0 vc cells→e.good J0=true →
 A0a prog 193 #[.agg cs.toArray,vc,.bool g0] w0 fun v w'=>v=.bool (e.over cells g0)∧Bw w0 w':=by
 intro e
 induction e using E.induct with
 | _ e ih =>
 intro M w0 cs vc cells g0 J0 hR hC hg;obtain⟨A,n,c,rfl,_,_,_,_,_,hm,_,N0⟩:=hR.open_;obtain⟨Ac,nc,cc,rfl,_,_,_,_,t0⟩:=id hC;have S:=St.refl w0;have b0:=E.over_def cells g0 e;have o0:∀k∈e.kids,k.over cells g0=false→E.overs cells g0 e.kids=false:=fun k hk hf=>by
  cases hg:E.overs cells g0 e.kids with
  | false=>rfl
  | true=>rw[(E.overs_iff _ _ _).1 hg k hk] at hf;cases hf
 rw[E.good_def] at hg;simp only[Bool.and_eq_true] at hg;have O0:e.Shape:=of_decide_eq_true hg.1.2;have L0:∀k∈e.kids,k.good (J0-1)=true:=(E.goods_iff _ _).1 hg.2;clear hg;have P0:=L1a e.op;have Q0:(e.op=3∨e.op=2)→0≤e.n∧e.n<32:=fun h=>by
  have:=(y5a).1 O0;omega
 cases g0
 ·refine a0a func193 Z ntmps193 Z ?_;refine wO1 Z (o0a S Z ?_);intro g3 w3 S3 X3 G3;refine lCn 3 S3.k [] Z U (wY (fun D ε w=>D=[]∧(e.OverN cells false)∧St [] w0 w [(some g3,37,[.int .i64 e.op,.int .i64 e.w,.int .i64 e.n,.slice A n c])]∧Sl ε [(1,.slice Ac nc cc),(2,.bool false),(3,.pointer (some ⟨g3,0,none⟩))]) ?_ ?_)
  ·refine wB S3.k [.o 0] Z ⟨Z,U⟩ (fun C0=>?_) fun C0=>?_
   ·refine lU Z Z ⟨cB ?_,S3.fin⟩;rw[b0];rw[decide_eq_false (by unfold E.OverN;simp;omega)];rfl
   refine lC1 Z (y0a b0a [0,1,2,3,4,5,6,7,8,9,10,11,12,13,14,15,16,17,18,19,20,21,22,23,24,25] [] [] Z (Cl _ _ _ _) (Cl.start S3) ?_);refine qB S3.q [.o 0] Z ⟨Z,U⟩ (fun u0=>?_) fun u0=>?_
   ·refine qOn 8 S3.q [.o 0] Z ⟨Z,U⟩ (y1a Z Z ?_);refine i1a Z ?_;refine qB1 Z (fun i0=>?_) fun i0=>?_
    ·refine lV Z ?_;rintro e0 ⟨a0,d0⟩;refine lU Z Z ⟨cB ?_,a0.fin⟩;rw[b0];rw[decide_eq_false (by unfold E.OverN;omega)];rfl
    refine qOn 1 S3.q [] Z U (y1a Z Z ?_);refine i1a Z ?_;refine qO S3.q [.o 0] Z ⟨Z,U⟩ ?_;obtain⟨bc,oc,x0,y0,m0⟩:=t0 (by omega);obtain⟨m,hm⟩:=Int.eq_ofNat_of_zero_le (show 0≤e.n by omega);have f0:m<cells.length:=by omega
    obtain⟨cl,z0,c0,p0⟩:=m0 m cells[m] (List.getElem?_eq_getElem f0);have n0:w0.cell? ⟨bc,oc+e.n.toNat*6+1,none⟩=some (.int .i64 (wAt cells e.n)):=by
     rw[hm];have:=c0 1 (.int .i64 cells[m].w) (by rw[p0.1];rfl);simpa[wAt,f0] using this
    refine F0a v6a.slT Z (by assumption) Z Z ?_;refine qO1 Z (j0a E0a Z (fun w1 hw=>by exact hw.1.old n0) Z ?_);refine qB S3.q [.o 0] Z ⟨Z,U⟩ (fun j0=>?_) fun j0=>?_
    ·refine lV Z ?_;rintro e0 ⟨a0,d0⟩;refine lU Z Z ⟨cB ?_,a0.fin⟩;rw[b0];rw[decide_eq_false (by unfold E.OverN;omega)];rfl
    refine lV Z ?_;rintro e0 ⟨a0,d0⟩;refine lP0 Z U ?_;refine⟨Z,((by unfold E.OverN;(simp;omega))),a0,Z⟩
   refine qB S3.q [.o 0] Z ⟨Z,U⟩ (fun v0=>?_) fun v0=>?_
   ·refine qOn 4 S3.q [.o 0] Z ⟨Z,U⟩ (y1a Z Z ?_);refine i1a Z ?_;refine qB1 Z (fun i0=>?_) fun i0=>?_
    ·refine lV Z ?_;rintro e0 ⟨a0,d0⟩;refine lU Z Z ⟨cB ?_,a0.fin⟩;rw[b0];rw[decide_eq_false (by unfold E.OverN;omega)];rfl
    refine qOn 1 S3.q [] Z U (y1a Z Z ?_);refine i1a Z ?_;refine qO S3.q [.o 0] Z ⟨Z,U⟩ ?_;obtain⟨bc,oc,x0,y0,m0⟩:=t0 (by omega);obtain⟨m,hm⟩:=Int.eq_ofNat_of_zero_le (show 0≤e.n by omega);have f0:m<cells.length:=by omega
    obtain⟨cl,z0,c0,p0⟩:=m0 m cells[m] (List.getElem?_eq_getElem f0);have n0:w0.cell? ⟨bc,oc+e.n.toNat*6+1,none⟩=some (.int .i64 (wAt cells e.n)):=by
     rw[hm];have:=c0 1 (.int .i64 cells[m].w) (by rw[p0.1];rfl);simpa[wAt,f0] using this
    refine F0a v6a.slT Z (by assumption) Z Z ?_;refine qO1 Z (j0a E0a Z (fun w1 hw=>by exact hw.1.old n0) Z ?_);refine qB S3.q [.o 0] Z ⟨Z,U⟩ (fun j0=>?_) fun j0=>?_
    ·refine lV Z ?_;rintro e0 ⟨a0,d0⟩;refine lU Z Z ⟨cB ?_,a0.fin⟩;rw[b0];rw[decide_eq_false (by unfold E.OverN;omega)];rfl
    refine lV Z ?_;rintro e0 ⟨a0,d0⟩;refine lP0 Z U ?_;refine⟨Z,((by unfold E.OverN;(simp;omega))),a0,Z⟩
   refine lV Z ?_;rintro e0 ⟨a0,d0⟩;refine lP0 Z U ?_;refine⟨Z,((by unfold E.OverN;(simp;omega))),a0,Z⟩
  rintro D ε w ⟨rfl,hO,S,eZ⟩;refine wK eZ (wC1 Z ?_);refine wL (fun μ D ε w=>D=[]∧∃k:Nat,(k+μ=e.kids.length)∧(∀(j:Nat) (h:j<e.kids.length),j<k→e.kids[j].over cells false=true)∧St [] w0 w [(some g3,37,[.int .i64 e.op,.int .i64 e.w,.int .i64 e.n,.slice A n c])]∧ε 1=.slice Ac nc cc∧ε 2=.bool false∧ε 3=.pointer (some ⟨g3,0,none⟩)∧ε 7=.int .i64 k) (μ:=e.kids.length) ⟨Z,0,by omega,fun j _ h=>absurd h (by omega),S,Z,Z,Z,Z⟩ ?_;rintro μ D ε w ⟨rfl,k,hk,hs,S,e1,e2,e3,e7⟩;refine q0a 1 e1 (q0a 2 e2 (q0a 3 e3 (q0a 7 e7 ?_)));clear e1 e2 e3 e7;refine wB S.k [.o 0] Z ⟨Z,U⟩ (fun D0=>?_) fun D0=>?_
  ·have q0:k<e.kids.length:=by omega
   obtain⟨b,o,hA,E0,H0⟩:=N0 (by omega);obtain⟨ck,F0,A0⟩:=H0 k q0;have I0:ck.length=4:=A0.length;refine lO S.k [.o 0] Z ⟨Z,U⟩ (N0a T0a.slT Z (by assumption) Z Z ?_);refine k3a D0a Z (F0.keep (S.keep0 M) E0) (by assumption) Z ?_;refine lO1 Z (i0a S W6b Z Z (ih _ (List.getElem_mem q0) M _ ck _ cells false _ (RdE.keep (S.keep0 M) _ _ A0) (hC.keep (S.keep0 M)) (L0 _ (List.getElem_mem q0))) (fun s0 K0 r0 B0=>?_) (fun s0 K0 r0 B0=>?_))
   ·refine lP1 Z ⟨μ-1,by omega,Z,k+1,by omega,fun j hj h=>?_,r0,Z,Z,Z,Z⟩;by_cases G0:j=k
    ·subst G0;exact s0
    ·exact hs j hj (by omega)
   refine lU Z Z ⟨cB ?_,r0.fin⟩;rw[b0];rw[o0 _ (List.getElem_mem q0) s0];simp;done
  refine lU Z Z ⟨cB ?_,S.fin⟩;rw[b0];rw[(E.overs_iff _ _ _).2 (fun x hx=>by obtain⟨j,hj,rfl⟩:=List.getElem_of_mem hx;exact hs j hj (by omega)),decide_eq_true hO];rfl
 ·refine a0a func193 Z ntmps193 Z ?_;refine wO1 Z (o0a S Z ?_);intro g3 w3 S3 X3 G3;refine lCn 3 S3.k [] Z U (wY (fun D ε w=>D=[]∧(e.OverN cells true)∧St [] w0 w [(some g3,37,[.int .i64 e.op,.int .i64 e.w,.int .i64 e.n,.slice A n c])]∧Sl ε [(1,.slice Ac nc cc),(2,.bool true),(3,.pointer (some ⟨g3,0,none⟩))]) ?_ ?_)
  ·refine wB S3.k [.o 0] Z ⟨Z,U⟩ (fun C0=>?_) fun C0=>?_
   ·refine lC1 Z (y0a b0a [0,1,2,3,4,5,6,7,8,9,10,11,12,13,14,15,16,17,18,19,20,21,22,23,24,25] [] [] Z (Cl _ _ _ _) (Cl.start S3) ?_);refine qB S3.q [.o 0] Z ⟨Z,U⟩ (fun u0=>?_) fun u0=>?_
    ·refine qOn 8 S3.q [.o 0] Z ⟨Z,U⟩ (y1a Z Z ?_);refine i1a Z ?_;refine qB1 Z (fun i0=>?_) fun i0=>?_
     ·refine lV Z ?_;rintro e0 ⟨a0,d0⟩;refine lU Z Z ⟨cB ?_,a0.fin⟩;rw[b0];rw[decide_eq_false (by unfold E.OverN;omega)];rfl
     refine qOn 1 S3.q [] Z U (y1a Z Z ?_);refine i1a Z ?_;refine qO S3.q [.o 0] Z ⟨Z,U⟩ ?_;obtain⟨bc,oc,x0,y0,m0⟩:=t0 (by omega);obtain⟨m,hm⟩:=Int.eq_ofNat_of_zero_le (show 0≤e.n by omega);have f0:m<cells.length:=by omega
     obtain⟨cl,z0,c0,p0⟩:=m0 m cells[m] (List.getElem?_eq_getElem f0);have n0:w0.cell? ⟨bc,oc+e.n.toNat*6+1,none⟩=some (.int .i64 (wAt cells e.n)):=by
      rw[hm];have:=c0 1 (.int .i64 cells[m].w) (by rw[p0.1];rfl);simpa[wAt,f0] using this
     refine F0a v6a.slT Z (by assumption) Z Z ?_;refine qO1 Z (j0a E0a Z (fun w1 hw=>by exact hw.1.old n0) Z ?_);refine qB S3.q [.o 0] Z ⟨Z,U⟩ (fun j0=>?_) fun j0=>?_
     ·refine lV Z ?_;rintro e0 ⟨a0,d0⟩;refine lU Z Z ⟨cB ?_,a0.fin⟩;rw[b0];rw[decide_eq_false (by unfold E.OverN;omega)];rfl
     refine lV Z ?_;rintro e0 ⟨a0,d0⟩;refine lP0 Z U ?_;refine⟨Z,((by unfold E.OverN;(simp;omega))),a0,Z⟩
    refine qB S3.q [.o 0] Z ⟨Z,U⟩ (fun v0=>?_) fun v0=>?_
    ·refine qOn 4 S3.q [.o 0] Z ⟨Z,U⟩ (y1a Z Z ?_);refine i1a Z ?_;refine qB1 Z (fun i0=>?_) fun i0=>?_
     ·refine lV Z ?_;rintro e0 ⟨a0,d0⟩;refine lU Z Z ⟨cB ?_,a0.fin⟩;rw[b0];rw[decide_eq_false (by unfold E.OverN;omega)];rfl
     refine qOn 1 S3.q [] Z U (y1a Z Z ?_);refine i1a Z ?_;refine qO S3.q [.o 0] Z ⟨Z,U⟩ ?_;obtain⟨bc,oc,x0,y0,m0⟩:=t0 (by omega);obtain⟨m,hm⟩:=Int.eq_ofNat_of_zero_le (show 0≤e.n by omega);have f0:m<cells.length:=by omega
     obtain⟨cl,z0,c0,p0⟩:=m0 m cells[m] (List.getElem?_eq_getElem f0);have n0:w0.cell? ⟨bc,oc+e.n.toNat*6+1,none⟩=some (.int .i64 (wAt cells e.n)):=by
      rw[hm];have:=c0 1 (.int .i64 cells[m].w) (by rw[p0.1];rfl);simpa[wAt,f0] using this
     refine F0a v6a.slT Z (by assumption) Z Z ?_;refine qO1 Z (j0a E0a Z (fun w1 hw=>by exact hw.1.old n0) Z ?_);refine qB S3.q [.o 0] Z ⟨Z,U⟩ (fun j0=>?_) fun j0=>?_
     ·refine lV Z ?_;rintro e0 ⟨a0,d0⟩;refine lU Z Z ⟨cB ?_,a0.fin⟩;rw[b0];rw[decide_eq_false (by unfold E.OverN;omega)];rfl
     refine lV Z ?_;rintro e0 ⟨a0,d0⟩;refine lP0 Z U ?_;refine⟨Z,((by unfold E.OverN;(simp;omega))),a0,Z⟩
    refine lV Z ?_;rintro e0 ⟨a0,d0⟩;refine lP0 Z U ?_;refine⟨Z,((by unfold E.OverN;(simp;omega))),a0,Z⟩
   refine lC1 Z (y0a b0a [0,1,2,3,4,5,6,7,8,9,10,11,12,13,14,15,16,17,18,19,20,21,22,23,24,25] [] [] Z (Cl _ _ _ _) (Cl.start S3) ?_);refine qB S3.q [.o 0] Z ⟨Z,U⟩ (fun u0=>?_) fun u0=>?_
   ·refine qOn 8 S3.q [.o 0] Z ⟨Z,U⟩ (y1a Z Z ?_);refine i1a Z ?_;refine qB1 Z (fun i0=>?_) fun i0=>?_
    ·refine lV Z ?_;rintro e0 ⟨a0,d0⟩;refine lU Z Z ⟨cB ?_,a0.fin⟩;rw[b0];rw[decide_eq_false (by unfold E.OverN;omega)];rfl
    refine qOn 1 S3.q [] Z U (y1a Z Z ?_);refine i1a Z ?_;refine qO S3.q [.o 0] Z ⟨Z,U⟩ ?_;obtain⟨bc,oc,x0,y0,m0⟩:=t0 (by omega);obtain⟨m,hm⟩:=Int.eq_ofNat_of_zero_le (show 0≤e.n by omega);have f0:m<cells.length:=by omega
    obtain⟨cl,z0,c0,p0⟩:=m0 m cells[m] (List.getElem?_eq_getElem f0);have n0:w0.cell? ⟨bc,oc+e.n.toNat*6+1,none⟩=some (.int .i64 (wAt cells e.n)):=by
     rw[hm];have:=c0 1 (.int .i64 cells[m].w) (by rw[p0.1];rfl);simpa[wAt,f0] using this
    refine F0a v6a.slT Z (by assumption) Z Z ?_;refine qO1 Z (j0a E0a Z (fun w1 hw=>by exact hw.1.old n0) Z ?_);refine qB S3.q [.o 0] Z ⟨Z,U⟩ (fun j0=>?_) fun j0=>?_
    ·refine lV Z ?_;rintro e0 ⟨a0,d0⟩;refine lU Z Z ⟨cB ?_,a0.fin⟩;rw[b0];rw[decide_eq_false (by unfold E.OverN;omega)];rfl
    refine lV Z ?_;rintro e0 ⟨a0,d0⟩;refine lP0 Z U ?_;refine⟨Z,((by unfold E.OverN;(simp;omega))),a0,Z⟩
   refine qB S3.q [.o 0] Z ⟨Z,U⟩ (fun v0=>?_) fun v0=>?_
   ·refine qOn 4 S3.q [.o 0] Z ⟨Z,U⟩ (y1a Z Z ?_);refine i1a Z ?_;refine qB1 Z (fun i0=>?_) fun i0=>?_
    ·refine lV Z ?_;rintro e0 ⟨a0,d0⟩;refine lU Z Z ⟨cB ?_,a0.fin⟩;rw[b0];rw[decide_eq_false (by unfold E.OverN;omega)];rfl
    refine qOn 1 S3.q [] Z U (y1a Z Z ?_);refine i1a Z ?_;refine qO S3.q [.o 0] Z ⟨Z,U⟩ ?_;obtain⟨bc,oc,x0,y0,m0⟩:=t0 (by omega);obtain⟨m,hm⟩:=Int.eq_ofNat_of_zero_le (show 0≤e.n by omega);have f0:m<cells.length:=by omega
    obtain⟨cl,z0,c0,p0⟩:=m0 m cells[m] (List.getElem?_eq_getElem f0);have n0:w0.cell? ⟨bc,oc+e.n.toNat*6+1,none⟩=some (.int .i64 (wAt cells e.n)):=by
     rw[hm];have:=c0 1 (.int .i64 cells[m].w) (by rw[p0.1];rfl);simpa[wAt,f0] using this
    refine F0a v6a.slT Z (by assumption) Z Z ?_;refine qO1 Z (j0a E0a Z (fun w1 hw=>by exact hw.1.old n0) Z ?_);refine qB S3.q [.o 0] Z ⟨Z,U⟩ (fun j0=>?_) fun j0=>?_
    ·refine lV Z ?_;rintro e0 ⟨a0,d0⟩;refine lU Z Z ⟨cB ?_,a0.fin⟩;rw[b0];rw[decide_eq_false (by unfold E.OverN;omega)];rfl
    refine lV Z ?_;rintro e0 ⟨a0,d0⟩;refine lP0 Z U ?_;refine⟨Z,((by unfold E.OverN;(simp;omega))),a0,Z⟩
   refine lV Z ?_;rintro e0 ⟨a0,d0⟩;refine lP0 Z U ?_;refine⟨Z,((by unfold E.OverN;(simp;omega))),a0,Z⟩
  rintro D ε w ⟨rfl,hO,S,eZ⟩;refine wK eZ (wC1 Z ?_);refine wL (fun μ D ε w=>D=[]∧∃k:Nat,(k+μ=e.kids.length)∧(∀(j:Nat) (h:j<e.kids.length),j<k→e.kids[j].over cells true=true)∧St [] w0 w [(some g3,37,[.int .i64 e.op,.int .i64 e.w,.int .i64 e.n,.slice A n c])]∧ε 1=.slice Ac nc cc∧ε 2=.bool true∧ε 3=.pointer (some ⟨g3,0,none⟩)∧ε 7=.int .i64 k) (μ:=e.kids.length) ⟨Z,0,by omega,fun j _ h=>absurd h (by omega),S,Z,Z,Z,Z⟩ ?_;rintro μ D ε w ⟨rfl,k,hk,hs,S,e1,e2,e3,e7⟩;refine q0a 1 e1 (q0a 2 e2 (q0a 3 e3 (q0a 7 e7 ?_)));clear e1 e2 e3 e7;refine wB S.k [.o 0] Z ⟨Z,U⟩ (fun D0=>?_) fun D0=>?_
  ·have q0:k<e.kids.length:=by omega
   obtain⟨b,o,hA,E0,H0⟩:=N0 (by omega);obtain⟨ck,F0,A0⟩:=H0 k q0;have I0:ck.length=4:=A0.length;refine lO S.k [.o 0] Z ⟨Z,U⟩ (N0a T0a.slT Z (by assumption) Z Z ?_);refine k3a D0a Z (F0.keep (S.keep0 M) E0) (by assumption) Z ?_;refine lO1 Z (i0a S W6b Z Z (ih _ (List.getElem_mem q0) M _ ck _ cells true _ (RdE.keep (S.keep0 M) _ _ A0) (hC.keep (S.keep0 M)) (L0 _ (List.getElem_mem q0))) (fun s0 K0 r0 B0=>?_) (fun s0 K0 r0 B0=>?_))
   ·refine lP1 Z ⟨μ-1,by omega,Z,k+1,by omega,fun j hj h=>?_,r0,Z,Z,Z,Z⟩;by_cases G0:j=k
    ·subst G0;exact s0
    ·exact hs j hj (by omega)
   refine lU Z Z ⟨cB ?_,r0.fin⟩;rw[b0];rw[o0 _ (List.getElem_mem q0) s0];simp;done
  refine lU Z Z ⟨cB ?_,S.fin⟩;rw[b0];rw[(E.overs_iff _ _ _).2 (fun x hx=>by obtain⟨j,hj,rfl⟩:=List.getElem_of_mem hx;exact hs j hj (by omega)),decide_eq_true hO];rfl
def B4d(cs:LV)(x:Bool):Prop:=cs=[.bool x]
abbrev RdB(M:List Nat)(w:World)(v:Value)(l:List Bool):Prop:=RdS M w 1 B4d v l
def K1a(bs:List Bool)(k:Nat):List Int:=((List.range k).filter fun i=>bs.getD i false).map fun(i:Nat)=>(i:Int)
def j3a(bs:List Bool):List Int:=K1a bs bs.length
theorem r3a(bs:List Bool)(k:Nat):K1a bs (k+1)=K1a bs k++(if bs.getD k false=true then[(k:Int)] else[]):=by
 unfold K1a;rw[List.range_succ,List.filter_append,List.map_append]
 congr 1
 rw[List.filter_cons]
 split<;>rfl
theorem p2a(bs:List Bool)(k:Nat):(K1a bs k).length≤k:=by
 unfold K1a;rw[List.length_map];exact Nat.le_trans (List.length_filter_le _ _) (by simp)
theorem q5a(bs:List Bool)(k:Nat)(x:Int):x∈K1a bs k↔∃i:Nat,x=i∧i<k∧bs.getD i false=true:=by
 unfold K1a;simp only[List.mem_map,List.mem_filter,List.mem_range];constructor
 ·rintro⟨i,⟨h1,h2⟩,rfl⟩;exact⟨i,Z,h1,h2⟩
 ·rintro⟨i,rfl,h1,h2⟩;exact⟨i,⟨h1,h2⟩,Z⟩
mutual
def E.mark(op:Int):E→List Bool→List Bool
 | ⟨o,_,n,ks⟩,bs=>E.markAll op ks (if o=op then bs.set n.toNat true else bs)
def E.markAll(op:Int):List E→List Bool→List Bool
 | [],bs=>bs
 | k::ks,bs=>E.markAll op ks (E.mark op k bs)
end
theorem E.mark_def(op:Int)(e:E)(bs:List Bool):e.mark op bs=E.markAll op e.kids (if e.op=op then bs.set e.n.toNat true else bs):=by cases e;simp only[E.mark]
theorem E.mark_len(op:Int):∀(e:E) (bs:List Bool),(e.mark op bs).length=bs.length:=by
 intro e
 induction e using E.induct with
 | _ e ih =>
   intro bs;have key:∀(ks:List E),(∀k∈ks,∀bs:List Bool,(k.mark op bs).length=bs.length)→∀bs:List Bool,(E.markAll op ks bs).length=bs.length:=by
    intro ks
    induction ks with
    | nil=>intro _ bs;simp only[E.markAll]
    | cons k ks b0=>intro h bs;simp only[E.markAll];rw[b0 (fun k' a0=>h k' (by simp[a0])),h k (by simp)]
   rw[E.mark_def,key _ ih]
   split<;>simp
def E.sup(op:Int)(e:E):List Int:=if e.wf then j3a (e.mark op (List.replicate 32 false)) else[]
theorem A8a(e:E)(M:List Nat)(w0:World)(cs:LV)(vc:Value)(cells:List g1a)(a0:Bool)(hR:RdE M w0 e cs)(hC:i0b M w0 vc cells):
 A0a prog 139 #[.agg cs.toArray,vc,.bool a0] w0 fun v w'=>v=.bool (e.valid cells a0)∧Bw w0 w':=by
 obtain⟨_,_,_,rfl,_⟩:=hR.open_;obtain⟨_,_,_,rfl⟩:=hC.form;have S:=St.refl w0;refine a0a func139 Z ntmps139 Z ?_;refine wO1 Z (o0a S Z ?_);intro g3 w3 S3 X3 G3;refine lO S3.k [.w 0] Z ⟨⟨Z,by rfl⟩,U⟩ (i0a S3 q0b Z Z (O6a _ M _ _ (RdE.keep (S3.keep0 M) _ _ hR)) (fun h8 w8 S8 X8=>?_) (fun h8 w8 S8 X8=>?_))
 ·refine lO S8.k [.w 0] Z ⟨⟨Z,by rfl⟩,U⟩ ?_;refine i0a S8 W6b Z Z (z8c _ M _ _ _ cells a0 40 (RdE.keep (S8.keep0 M) _ _ hR) (hC.keep (S8.keep0 M)) (by unfold E.wf at h8;simp only[Bool.and_eq_true] at h8;exact h8.2)) (fun c0 e0 b0 d0=>?_) (fun c0 e0 b0 d0=>?_)
  ·refine lU Z Z ⟨cB ?_,b0.fin⟩;unfold E.valid;simp[h8,c0];done
  refine lU Z Z ⟨cB ?_,b0.fin⟩;unfold E.valid;simp[h8,c0];done
 refine lU Z Z ⟨cB ?_,S8.fin⟩;unfold E.valid;simp[h8];done
theorem u0b(M:List Nat)(w0:World)(v:Value)(bs:List Bool)(hR:RdB M w0 v bs)(hM:∀g∈M,g<w0.heap.size)(t0:bs.length≤1000):
 A0a prog 137 #[v] w0 fun v' w'=>RdI M w' v' (j3a bs)∧Bw w0 w':=by
 obtain⟨Ab,nb,cb,rfl⟩:=hR.form;obtain⟨_,_,_,_,s0⟩:=hR.at;have S:=(St.refl w0).nilEnt 3;refine a0a func137 Z ntmps137 Z ?_;refine wC1 Z (wL (fun μ D ε w=>D=[]∧∃k:Nat,∃G:Option Nat,∃cs:LV,∃v:Value,(k+μ=bs.length)∧(S4a G 1 (K1a bs k).length cs v ((K1a bs k).map (Value.int .i64)))∧St [] w0 w [(G,3,cs)]∧ε 0=.slice Ab nb cb∧ε 3=v∧ε 4=.int .i64 k) (μ:=bs.length) ⟨Z,0,none,[],_,by omega,S4a.nil 1,S,Z,Z,Z⟩ ?_);rintro μ D ε w ⟨rfl,k,G,cs,v,_,b0,S,e0,e3,e4⟩;refine q0a 0 e0 (q0a 3 e3 (q0a 4 e4 ?_));clear e0 e3 e4;refine wB1 Z (fun h8=>?_) fun h8=>?_
 ·have o0:k<bs.length:=by omega
  obtain⟨b,o,_,_,r0⟩:=s0 (by omega);obtain⟨_,_,g0,i0⟩:=r0 k bs[k] (List.getElem?_eq_getElem o0);have m0:w0.cell? ⟨b,o+k*1,none⟩=some (.bool bs[k]):=g0 0 _ (by rw[i0];rfl);have n0:bs.getD k false=bs[k]:=by simp[o0]
  have z0:=p2a bs k;refine lO1 Z (N0a m4a.slT Z (by assumption) Z Z ?_);cases a0:bs[k]
  ·refine G0a E2a Z (by exact(S.old (m0.trans (by rw[a0]))).trans (congrArg (fun b=>some (Value.bool b)) a0)) Z ?_;refine lP1 Z ⟨μ-1,by omega,Z,k+1,G,cs,v,by omega,?_,S,Z,Z,Z⟩;rw[r3a,n0,a0];simpa using b0
  refine G0a E2a Z (by exact(S.old (m0.trans (by rw[a0]))).trans (congrArg (fun b=>some (Value.bool b)) a0)) Z ?_;refine lOn 4 S.k [] Z U (J0a Z ?_);refine lO1 Z (k0a S R0a (vs:=[.int .i64 _]) (cs:=[_]) Z Z Z Z Z Z ?_);intro g17 A0 j0 x0 v0;refine N2b (k:=1) j0 R0a Z b0 Z Z (j0.cells 0 Z) Z (by simp[Value.oneCell']) (by omega) Z ?_;intro u0 p0 f0 B0 d0 c0 y0;have q0:=d0.tail;refine B0a Z ?_;refine lP1 Z ⟨μ-1,by omega,Z,k+1,p0,f0,u0,by omega,?_,q0,Z,Z,Z⟩;rw[r3a,n0,a0];simpa using c0
 refine lOn 7 S.k [] Z U (J0a Z ?_);refine B0a Z ?_;refine lR1 Z (w0a Z ?_);obtain rfl:k=bs.length:=by omega
 refine⟨b0.rdI (k:=0) S Z hM (fun x hx=>?_) ?_,S.nil.fin⟩
 ·obtain⟨_,rfl,_⟩:=(q5a _ _ _).1 hx;unfold i64;omega
 ·have:=p2a bs bs.length;omega
theorem b6c:∀(e:E) (M:List Nat) (w0:World) (cs:LV) (g1 g2:Nat) (a0 b0:List Bool) (A0:Int),RdE M w0 e cs→e.good A0=true→g1∈M→g2∈M→g1≠g2→a0.length=32→b0.length=32 →
 p0a w0 (g1,4,a0.map Value.bool)→p0a w0 (g2,4,b0.map Value.bool) →
 A0a prog 136 #[.agg cs.toArray,.slice (some ⟨g1,0,none⟩) 32 32,.slice (some ⟨g2,0,none⟩) 32 32] w0 fun _ w' =>
  H0a [g1,g2] w0 w'∧p0a w' (g1,4,(e.mark 3 a0).map Value.bool)∧p0a w' (g2,4,(e.mark 2 b0).map Value.bool):=by
 intro e
 induction e using E.induct with
 | _ e ih =>
 intro M w0 cs g1 g2 a0 b0 A0 hR hg C0 D0 z0 G0 H0 J0 K0;obtain⟨A,n,c,rfl,_,_,_,_,_,_,_,F0⟩:=hR.open_;have S:=St.borrow2 J0 K0 z0;rw[E.good_def] at hg;simp only[Bool.and_eq_true] at hg;have L0:e.Shape:=of_decide_eq_true hg.1.2;have E0:∀k∈e.kids,k.good (A0-1)=true:=(E.goods_iff _ _).1 hg.2;clear hg;have Q0:(e.op=3∨e.op=2)→0≤e.n∧e.n<32:=fun h=>by
  have:=(y5a).1 L0;omega
 rw[E.mark_def,E.mark_def];have e0:∀g∈[g1,g2],g∈M:=fun g hg=>by simp at hg;rcases hg with rfl|rfl<;>assumption
 refine a0a func136 Z ntmps136 Z ?_;refine wO1 Z (o0a S Z ?_);intro g3 w3 S3 X3 G3;refine lB S3.k [.o 0] Z ⟨Z,U⟩ (fun h9=>?_) fun h9=>?_
 ·refine lO S3.k [.o 0] Z ⟨Z,U⟩ (N0a m4a.slT Z (by rfl) Z Z ?_);refine X0a (kk:=1) S3 p4b Z Z Z (by(simp;omega)) ?_;intro O0 c0 I0;refine lCn 2 c0.k [] Z U (wX (fun D ε w=>D=[]∧St [g1,g2] w0 w [(some g3,37,[.int .i64 e.op,.int .i64 e.w,.int .i64 e.n,.slice A n c]),(some g1,4,(if e.op=3 then a0.set e.n.toNat true else a0).map Value.bool),(some g2,4,(if e.op=2 then b0.set e.n.toNat true else b0).map Value.bool)]∧ε 1=.slice (some ⟨g1,0,none⟩) 32 32∧ε 2=.slice (some ⟨g2,0,none⟩) 32 32∧ε 3=.pointer (some ⟨g3,0,none⟩)) ?_ ?_)
  ·refine wB c0.k [.o 0] Z ⟨Z,U⟩ (fun i0=>?_) fun i0=>?_
   ·refine lO c0.k [.o 0] Z ⟨Z,U⟩ (N0a m4a.slT Z (by rfl) Z Z ?_);refine X0a (kk:=2) c0 p4b Z Z Z (by(simp;omega)) ?_;intro B0 j0 p0;refine lP0 Z U ?_;exfalso;omega
   exact lP0 Z U ⟨Z,by simpa[h9,i0,List.map_set] using c0,Z,Z,Z⟩
  rintro D ε w ⟨rfl,S,e1,e2,e3⟩;refine q0a 1 e1 (q0a 2 e2 (q0a 3 e3 ?_));clear e1 e2 e3;have f0:(if e.op=3 then a0.set e.n.toNat true else a0).length=32:=by split<;>simp[G0]
  have g0:(if e.op=2 then b0.set e.n.toNat true else b0).length=32:=by split<;>simp[H0]
  generalize (if e.op=3 then a0.set e.n.toNat true else a0)=a1 at *;generalize (if e.op=2 then b0.set e.n.toNat true else b0)=a2 at *;refine wC1 Z (wL (fun μ D ε w=>D=[]∧∃k:Nat,∃m1:List Bool,∃m2:List Bool,(k+μ=e.kids.length)∧(E.markAll 3 (e.kids.drop k) m1=E.markAll 3 e.kids a1)∧(E.markAll 2 (e.kids.drop k) m2=E.markAll 2 e.kids a2)∧(m1.length=32)∧(m2.length=32)∧St [g1,g2] w0 w [(some g3,37,[.int .i64 e.op,.int .i64 e.w,.int .i64 e.n,.slice A n c]),(some g1,4,m1.map Value.bool),(some g2,4,m2.map Value.bool)]∧ε 1=.slice (some ⟨g1,0,none⟩) 32 32∧ε 2=.slice (some ⟨g2,0,none⟩) 32 32∧ε 3=.pointer (some ⟨g3,0,none⟩)∧ε 6=.int .i64 k) (μ:=e.kids.length) ⟨Z,0,a1,a2,by omega,Z,Z,f0,g0,S,Z,Z,Z,Z⟩ ?_);rintro μ D ε w ⟨rfl,k,m1,m2,hk,h1,h2,l1,l2,S,e1,e2,e3,e6⟩;refine q0a 1 e1 (q0a 2 e2 (q0a 3 e3 (q0a 6 e6 ?_)));clear e1 e2 e3 e6;refine wB S.k [.o 0] Z ⟨Z,U⟩ (fun q0=>?_) fun q0=>?_
  ·have d0:k<e.kids.length:=by omega
   obtain⟨b,o,hA,t0,x0⟩:=F0 (by omega);obtain⟨ck,u0,m0⟩:=x0 k d0;have y0:ck.length=4:=m0.length;have v0:e.kids.drop k=e.kids[k]::e.kids.drop (k+1):=List.drop_eq_getElem_cons d0;rw[v0] at h1 h2;simp only[E.markAll] at h1 h2;refine lO S.k [.o 0] Z ⟨Z,U⟩ (N0a T0a.slT Z (by assumption) Z Z ?_);refine k3a D0a Z (u0.keep (S.keepM.mono e0) t0) (by assumption) Z ?_;refine lO1 Z (a2a V6b Z Z (ih _ (List.getElem_mem d0) M _ ck g1 g2 m1 m2 _ (RdE.keep (S.keepM.mono e0) _ _ m0) (E0 _ (List.getElem_mem d0)) C0 D0 z0 l1 l2 (S.blk 1 Z) (S.blk 2 Z)) ?_);rintro N0 P0 ⟨n0,r0,s0⟩;have o0:=S.changed2 1 2 Z Z n0 r0 s0;refine lP1 Z ?_;exact⟨μ-1,by omega,Z,k+1,_,_,by omega,h1,h2,by rw[E.mark_len];exact l1,by rw[E.mark_len];exact l2,o0,Z,Z,Z,Z⟩
  refine lF1 Z (J1a Z ?_);obtain rfl:k=e.kids.length:=by omega
  rw[List.drop_length] at h1 h2;simp only[E.markAll] at h1 h2;rw[←h1,←h2];exact⟨S.below,S.blk 1 Z,S.blk 2 Z⟩
 refine lCn 5 S3.k [] Z U (wX (fun D ε w=>D=[]∧St [g1,g2] w0 w [(some g3,37,[.int .i64 e.op,.int .i64 e.w,.int .i64 e.n,.slice A n c]),(some g1,4,(if e.op=3 then a0.set e.n.toNat true else a0).map Value.bool),(some g2,4,(if e.op=2 then b0.set e.n.toNat true else b0).map Value.bool)]∧ε 1=.slice (some ⟨g1,0,none⟩) 32 32∧ε 2=.slice (some ⟨g2,0,none⟩) 32 32∧ε 3=.pointer (some ⟨g3,0,none⟩)) ?_ ?_)
 ·refine wB S3.k [.o 0] Z ⟨Z,U⟩ (fun i0=>?_) fun i0=>?_
  ·refine lO S3.k [.o 0] Z ⟨Z,U⟩ (N0a m4a.slT Z (by rfl) Z Z ?_);refine X0a (kk:=2) S3 p4b Z Z Z (by(simp;omega)) ?_;intro B0 j0 p0;exact lP0 Z U ⟨Z,by simpa[h9,i0,List.map_set] using j0,Z,Z,Z⟩
  exact lP0 Z U ⟨Z,by simpa[h9,i0,List.map_set] using S3,Z,Z,Z⟩
 rintro D ε w ⟨rfl,S,e1,e2,e3⟩;refine q0a 1 e1 (q0a 2 e2 (q0a 3 e3 ?_));clear e1 e2 e3;have f0:(if e.op=3 then a0.set e.n.toNat true else a0).length=32:=by split<;>simp[G0]
 have g0:(if e.op=2 then b0.set e.n.toNat true else b0).length=32:=by split<;>simp[H0]
 generalize (if e.op=3 then a0.set e.n.toNat true else a0)=a1 at *;generalize (if e.op=2 then b0.set e.n.toNat true else b0)=a2 at *;refine wC1 Z (wL (fun μ D ε w=>D=[]∧∃k:Nat,∃m1:List Bool,∃m2:List Bool,(k+μ=e.kids.length)∧(E.markAll 3 (e.kids.drop k) m1=E.markAll 3 e.kids a1)∧(E.markAll 2 (e.kids.drop k) m2=E.markAll 2 e.kids a2)∧(m1.length=32)∧(m2.length=32)∧St [g1,g2] w0 w [(some g3,37,[.int .i64 e.op,.int .i64 e.w,.int .i64 e.n,.slice A n c]),(some g1,4,m1.map Value.bool),(some g2,4,m2.map Value.bool)]∧ε 1=.slice (some ⟨g1,0,none⟩) 32 32∧ε 2=.slice (some ⟨g2,0,none⟩) 32 32∧ε 3=.pointer (some ⟨g3,0,none⟩)∧ε 6=.int .i64 k) (μ:=e.kids.length) ⟨Z,0,a1,a2,by omega,Z,Z,f0,g0,S,Z,Z,Z,Z⟩ ?_);rintro μ D ε w ⟨rfl,k,m1,m2,hk,h1,h2,l1,l2,S,e1,e2,e3,e6⟩;refine q0a 1 e1 (q0a 2 e2 (q0a 3 e3 (q0a 6 e6 ?_)));clear e1 e2 e3 e6;refine wB S.k [.o 0] Z ⟨Z,U⟩ (fun q0=>?_) fun q0=>?_
 ·have d0:k<e.kids.length:=by omega
  obtain⟨b,o,hA,t0,x0⟩:=F0 (by omega);obtain⟨ck,u0,m0⟩:=x0 k d0;have y0:ck.length=4:=m0.length;have v0:e.kids.drop k=e.kids[k]::e.kids.drop (k+1):=List.drop_eq_getElem_cons d0;rw[v0] at h1 h2;simp only[E.markAll] at h1 h2;refine lO S.k [.o 0] Z ⟨Z,U⟩ (N0a T0a.slT Z (by assumption) Z Z ?_);refine k3a D0a Z (u0.keep (S.keepM.mono e0) t0) (by assumption) Z ?_;refine lO1 Z (a2a V6b Z Z (ih _ (List.getElem_mem d0) M _ ck g1 g2 m1 m2 _ (RdE.keep (S.keepM.mono e0) _ _ m0) (E0 _ (List.getElem_mem d0)) C0 D0 z0 l1 l2 (S.blk 1 Z) (S.blk 2 Z)) ?_);rintro N0 P0 ⟨n0,r0,s0⟩;have o0:=S.changed2 1 2 Z Z n0 r0 s0;refine lP1 Z ?_;exact⟨μ-1,by omega,Z,k+1,_,_,by omega,h1,h2,by rw[E.mark_len];exact l1,by rw[E.mark_len];exact l2,o0,Z,Z,Z,Z⟩
 refine lF1 Z (J1a Z ?_);obtain rfl:k=e.kids.length:=by omega
 rw[List.drop_length] at h1 h2;simp only[E.markAll] at h1 h2;rw[←h1,←h2];exact⟨S.below,S.blk 1 Z,S.blk 2 Z⟩
def R6c(l:List Int)(bs:List Bool):List Bool:=l.foldl (fun bs i=>bs.set i.toNat true) bs
def k2d(a b:List Int):List Int:=j3a (R6c b (R6c a (List.replicate 32 false)))
theorem N1c{w0 w:World}{L:List Ent}{k g:Nat}{M M':List Nat}{bs:List Bool}{el:Nat}(S:St M' w0 w L)(hk:L[k]?=some (some g,el,bs.map Value.bool))(hM:g∉M)(hn:bs.length=32):RdB M w (.slice (some ⟨g,0,none⟩) 32 32) bs :=
 S.rd1 hk hM (by omega) (by omega) fun i x hi=>⟨.bool x,by simp[hi],Z⟩
theorem k5a(e:E)(M:List Nat)(w0:World)(cs:LV)(hR:RdE M w0 e cs)(hM:∀g∈M,g<w0.heap.size):
 A0a prog 74 #[.agg cs.toArray] w0 fun v w'=>(∃a b,v=.tuple #[a,b]∧RdI M w' a (e.sup 3)∧RdI M w' b (e.sup 2))∧Bw w0 w':=by
 obtain⟨_,n,c,rfl,_⟩:=hR.open_;have S:=St.refl w0;refine a0a func74 Z ntmps74 Z ?_;refine wO1 Z (o0a S Z ?_);intro g1 w1 S1 X1 G1;refine lO S1.k [.w 0] Z ⟨⟨Z,by rfl⟩,U⟩ (i0a S1 q0b Z Z (O6a _ M _ _ (RdE.keep (S1.keep0 M) _ _ hR)) (fun h7 w7 S7 X7=>?_) (fun h7 w7 S7 X7=>?_))
 ·refine lO1 Z (s7a (n:=32) (c:=32) S7 m4a Z Z Z Z ?_);intro g9 w9 S9 X9 G9;refine lO1 Z (s7a (n:=32) (c:=32) S9 m4a Z Z Z Z ?_);intro b0 y0 a0 s0 r0;refine lO a0.k [.w 2] Z ⟨⟨Z,by rfl⟩,U⟩ ?_;have c0:e.good 40=true:=by unfold E.wf at h7;simp only[Bool.and_eq_true] at h7;exact h7.2
  have p0:g9≠b0:=by have:=S9.lt 0 Z;omega
  have o0:∀g∈[g9,b0]++M,g∈M∨w0.heap.size≤g:=fun g hg=>by
   simp at hg;rcases hg with rfl|rfl|hg
   ·right;have:=S9.new 0 Z;simp at this;exact this
   ·right;have:=a0.new 0 Z;simp at this;exact this
   ·exact .inl hg
  refine a2a V6b Z Z (b6c e ([g9,b0]++M) _ _ g9 b0 (List.replicate 32 false) (List.replicate 32 false) 40 (RdE.keep (a0.keep0 _) _ _ (RdE.more o0 _ _ hR)) c0 (by simp) (by simp) p0 (by simp) (by simp) (by simpa using a0.blk 1 Z) (by simpa using a0.blk 0 Z)) ?_;rintro u0 z0 ⟨g0,m0,n0⟩;have d0:=a0.changed2 1 0 Z Z g0 m0 n0;refine lO1 Z ?_;refine h0a d0 Y6b Z Z (u0b M _ _ (e.mark 3 (List.replicate 32 false)) (N1c (k:=1) d0 Z (fun h=>by have:=hM g9 h;have:=S9.new 0 Z;simp at this;omega) (by rw[E.mark_len];simp)) (fun g hg=>by have:=hM g hg;have:=d0.size;omega) (by rw[E.mark_len];simp)) ?_;rintro v0 A0 f0 e0 t0;refine lO1 Z ?_;refine h0a e0 Y6b Z Z (u0b M _ _ (e.mark 2 (List.replicate 32 false)) (N1c (k:=0) e0 Z (fun h=>by have:=hM b0 h;have:=a0.new 0 Z;simp at this;omega) (by rw[E.mark_len];simp)) (fun g hg=>by have:=hM g hg;have:=e0.size;omega) (by rw[E.mark_len];simp)) ?_;rintro x0 B0 q0 i0 j0;replace f0:=f0.keep (j0.of_nil);refine B0a Z ?_;refine B0a Z ?_;refine lR1 Z (o3b Z ?_);refine⟨?_,i0.fin⟩;unfold E.sup;exact⟨_,_,Z,by simpa[h7] using f0,by simpa[h7] using q0⟩
 refine lR1 Z (o3b Z ?_);refine⟨?_,S7.fin⟩;unfold E.sup;exact⟨_,_,Z,by simp only[h7];exact⟨_,_,_,Z,Z,by omega,by unfold maxLen;omega,by omega,fun h=>absurd h (by omega)⟩,by simp only[h7];exact⟨_,_,_,Z,Z,by omega,by unfold maxLen;omega,by omega,fun h=>absurd h (by omega)⟩⟩
mutual
def E.occ(op i:Int):E→Bool
 | ⟨o,_,n,ks⟩=>decide (o=op∧n=i)||E.occs op i ks
def E.occs(op i:Int):List E→Bool
 | []=>false
 | k::ks=>E.occ op i k||E.occs op i ks
end
theorem E.occ_def(op i:Int)(e:E):e.occ op i=(decide (e.op=op∧e.n=i)||E.occs op i e.kids):=by cases e;simp only[E.occ]
theorem E.occs_iff(op i:Int)(ks:List E):E.occs op i ks=true↔∃k∈ks,k.occ op i=true:=by
 induction ks with
 | nil=>simp[E.occs]
 | cons k ks ih=>simp[E.occs,ih]
theorem I1a{e:E}{a0:Int}(h:e.good a0=true):e.Shape∧∀k∈e.kids,k.good (a0-1)=true:=by
 rw[E.good_def] at h;simp only[Bool.and_eq_true] at h;exact⟨of_decide_eq_true h.1.2,(E.goods_iff _ _).1 h.2⟩
theorem j3c(bs:List Bool)(j i:Nat)(hj:j<bs.length):(bs.set j true).getD i false=(bs.getD i false||decide (i=j)):=by
 simp only[List.getD_eq_getElem?_getD,List.getElem?_set];by_cases h:j=i
 ·subst h;simp[hj]
 ·have h':¬i=j:=fun e=>h e.symm;simp[h,h']
theorem c9b(op:Int)(f0:op=2∨op=3):∀(e:E) (a0:Int),e.good a0=true→∀(bs:List Bool),bs.length=32→∀i:Nat,i<32→(e.mark op bs).getD i false=(bs.getD i false||e.occ op i):=by
 intro e
 induction e using E.induct with
 | _ e ih =>
   intro a0 hg bs hb i hi;obtain⟨d0,c0⟩:=I1a hg;have key:∀(ks:List E),(∀k∈ks,k∈e.kids)→∀bs:List Bool,bs.length=32→(E.markAll op ks bs).getD i false=(bs.getD i false||E.occs op i ks):=by
    intro ks
    induction ks with
    | nil=>intro _ bs _;simp[E.markAll,E.occs]
    | cons k ks e0 =>
      intro h bs hb;simp only[E.markAll,E.occs];rw[e0 (fun k' b0=>h k' (by simp[b0])) _ (by rw[E.mark_len];exact hb),ih k (h k (by simp)) (a0-1) (c0 k (h k (by simp))) bs hb i hi,Bool.or_assoc]
   rw[E.mark_def,E.occ_def];by_cases ho:e.op=op
   ·have hn:=(y5a).1 d0;rw[if_pos ho,key e.kids (fun k hk=>hk) _ (by simp[hb]),j3c _ _ _ (by omega),Bool.or_assoc]
    congr 2
    rw[decide_eq_decide];omega
   ·rw[if_neg ho,key e.kids (fun k hk=>hk) _ hb];simp[ho]
theorem J6a{e:E}(h:e.wf=true):e.good 40=true:=by
 unfold E.wf at h;simp only[Bool.and_eq_true] at h;exact h.2
theorem N7a{e:E}(h:e.wf=true){op:Int}(a0:op=2∨op=3)(x:Int):x∈e.sup op↔0≤x∧x<32∧e.occ op x=true:=by
 unfold E.sup;rw[if_pos h];unfold j3a;rw[q5a,E.mark_len];constructor
 ·rintro⟨i,rfl,hi,hm⟩;simp at hi;rw[c9b op a0 e 40 (J6a h) _ (by simp) i hi] at hm;refine⟨by omega,by omega,?_⟩;have h0:(List.replicate 32 false).getD i false=false:=by
   simp only[List.getD_eq_getElem?_getD,List.getElem?_replicate]
   split<;>rfl
  rw[h0] at hm;simpa using hm
 ·rintro⟨h0,_,hm⟩;obtain⟨i,rfl⟩:=Int.eq_ofNat_of_zero_le h0;refine⟨i,Z,by simp;omega,?_⟩;rw[c9b op a0 e 40 (J6a h) _ (by simp) i (by omega),hm];simp
theorem I5a{cells:List g1a}{b0:Bool}{op:Int}(g0:op=2∨op=3):∀(e:E) (a0:Int),e.good a0=true→e.over cells b0=true→∀x:Int,e.occ op x=true →
 0≤x∧x<32∧x<cells.length∧1≤wAt cells x∧wAt cells x≤8:=by
 intro e
 induction e using E.induct with
 | _ e ih =>
   intro a0 hg ho x hx;obtain⟨e0,c0⟩:=I1a hg;rw[E.over_def] at ho;simp only[Bool.and_eq_true,decide_eq_true_eq] at ho;rw[E.occ_def] at hx;simp only[Bool.or_eq_true,decide_eq_true_eq] at hx;rcases hx with⟨h1,h2⟩|hx
   ·have hn:=(y5a).1 e0;have f0:=ho.1.2 (by omega);subst h2;omega
   ·obtain⟨k,hk,d0⟩:=(E.occs_iff _ _ _).1 hx;exact ih k hk (a0-1) (c0 k hk) ((E.overs_iff _ _ _).1 ho.2 k hk) x d0
theorem h2a{cells:List g1a}{a0:Bool}{e:E}(h:e.valid cells a0=true):e.wf=true∧e.good 40=true∧e.over cells a0=true:=by
 unfold E.valid at h;simp only[Bool.and_eq_true] at h;exact⟨h.1,J6a h.1,h.2⟩
def z7a(s:ByteArray):Prop:=1≤s.size∧s.size≤64∧∀(i:Nat) (h:i<s.size),33≤(s[i]).toNat∧(s[i]).toNat≤126
def u1a(cells:List g1a)(x:Int):Int:=(cells.getD x.toNat ⟨ByteArray.empty,0,0,0,false,0⟩).thread
def i9a(cells:List g1a)(x:Int):Bool:=(cells.getD x.toNat ⟨ByteArray.empty,0,0,0,false,0⟩).ghost
def F1a(i:Int)(n:Nat):Prop:=0≤i∧i<n
def v4a(cells:List g1a)(e:E)(sh:Bool)(t:Int):Prop:=∀x∈e.sup 3++e.sup 2,(u1a cells x=-1→sh=true)∧(0≤u1a cells x→u1a cells x=t)
def n6a(cells:List g1a)(e:E)(pair:Bool)(t:Int):Prop:=e.valid cells pair=true∧e.w=1∧v4a cells e true t
def E.absent(e:E):Prop:=e.op=0∧e.w=0∧e.n=0∧e.kids=[]
def t1a:List Int→Prop:=List.Pairwise (·<·)
structure K9a (p:m0a) (t:Int) (s:i2a):Prop where
 guard:v4a p.cells s.guard (decide (s.kind=4)) t
 vals:∀(i:Nat) (h:i<s.set.length),0<i∨s.kind≠2→v4a p.cells (s.set[i]).to (decide (s.kind=4)) t
 cells:∀a∈s.set,u1a p.cells a.cell=t∨u1a p.cells a.cell=-1
 k1:s.kind=1→∀a∈s.set,u1a p.cells a.cell=t
 k2:s.kind=2→∃a l,s.set=a::l∧u1a p.cells a.cell=t∧i9a p.cells a.cell=false∧a.to.op=2∧u1a p.cells a.to.n=-1∧i9a p.cells a.to.n=false∧∀b∈l,u1a p.cells b.cell=t∧i9a p.cells b.cell=true
 k3:s.kind=3→∃a l,s.set=a::l∧u1a p.cells a.cell=-1∧i9a p.cells a.cell=false∧∀b∈l,i9a p.cells b.cell=true
 k5:5≤s.kind→s.set=[]∧s.guard=⟨1,1,1,[]⟩
 k6:6≤s.kind→F1a s.target p.threads.length∧s.target≠t
 k7:s.kind=6→∀u,p.threads[s.target.toNat]?=some u→u.asleep=true
structure d2b (p:m0a) (t:Int) (points:Int) (s:i2a):Prop where
 kind:1≤s.kind∧s.kind≤7
 frm:0≤s.frm∧s.frm<points-1
 to:0≤s.to∧s.to<points
 mod:F1a s.module_ p.modules.length
 rel:s.release=true→s.kind=3
 tgt:s.target≠0→s.kind=6∨s.kind=7
 guard:s.guard.valid p.cells false=true∧s.guard.w=1
 set:∀a∈s.set,F1a a.cell p.cells.length∧a.to.valid p.cells false=true∧a.to.w=wAt p.cells a.cell
 once:s.set.Pairwise (fun a b=>a.cell≠b.cell)
 row:K9a p t s
structure M7b (p:m0a) (t:Int) (points:Int) (l:C6b):Prop where
 head:0≤l.head∧l.head<points
 up:t1a l.body
 body:∀x∈l.body,0≤x∧x<points∧x≠l.head
 variant:l.variant.valid p.cells false=true∧v4a p.cells l.variant true t
structure p5a (p:m0a) (t:Nat) (x:D1a):Prop where
 name:z7a x.name
 points:1≤x.points∧x.points≤48
 nsteps:x.steps.length≤64
 nloops:x.loops.length≤8
 asserts:(x.asserts.length:Int)=x.points
 nmod:(x.modules.length:Int)=x.points
 modules:∀m∈x.modules,F1a m p.modules.length
 truth:∀e∈x.asserts,n6a p.cells e false t
 steps:∀s∈x.steps,d2b p t x.points s
 loops:∀l∈x.loops,M7b p t x.points l
structure S1b (p:m0a) (c:g1a):Prop where
 name:z7a c.name
 w:1≤c.w∧c.w≤8
 init:0≤c.init∧c.init<H3a c.w.toNat
 thread:-1≤c.thread∧c.thread<p.threads.length
 mod:F1a c.module_ p.modules.length
structure H1c (p:m0a) (m:k2a):Prop where
 name:z7a m.name
 owner:z7a m.owner
 rely:m.rely.absent∨n6a p.cells m.rely true (-1)
 guar:n6a p.cells m.guar true (-1)
 frame:∀x∈m.frame,F1a x p.cells.length∧u1a p.cells x=-1
 up:t1a m.frame
structure w4b (p:m0a) (l:I5b):Prop where
 cell:F1a l.cell p.cells.length∧u1a p.cells l.cell=-1∧wAt p.cells l.cell=1∧i9a p.cells l.cell=false
 mod:F1a l.module_ p.modules.length
 inv:n6a p.cells l.inv false (-1)
structure W0a (p:m0a):Prop where
 ncells:p.cells.length≤32
 nmodules:p.modules.length≤6
 nlocks:p.locks.length≤4
 nthreads:p.threads.length≤4
 cells:∀c∈p.cells,S1b p c
 cellNames:p.cells.Pairwise (fun a b=>a.name≠b.name)
 modules:∀m∈p.modules,H1c p m
 moduleNames:p.modules.Pairwise (fun a b=>a.name≠b.name)
 locks:∀l∈p.locks,w4b p l
 lockCells:p.locks.Pairwise (fun a b=>a.cell≠b.cell)
 threads:∀(t:Nat) (h:t<p.threads.length),p5a p t p.threads[t]
 threadNames:p.threads.Pairwise (fun a b=>a.name≠b.name)
noncomputable def dec(p:Prop):Bool:=@decide p (Classical.propDecidable p)
theorem s6a{p:Prop}(h:p):dec p=true:=@decide_eq_true p (Classical.propDecidable p) h
theorem J7a{p:Prop}(h:¬p):dec p=false:=@decide_eq_false p (Classical.propDecidable p) h
theorem Q0a{p:Prop}(h:dec p=true):p:=@of_decide_eq_true p (Classical.propDecidable p) h
theorem K0a{p:Prop}(h:dec p=false):¬p:=@of_decide_eq_false p (Classical.propDecidable p) h
theorem H1a{p:Prop}(h:p):Value.bool true=.bool (dec p):=by rw[s6a h]
theorem C0a{p:Prop}(h:¬p):Value.bool false=.bool (dec p):=by rw[J7a h]
section
variable {α:Type} {l:List α} {k:Nat} {P:α→Prop}
def Y0a(l:List α)(k:Nat)(P:α→Prop):Prop:=∀x∈l.take k,P x
theorem Y0a.zero:Y0a l 0 P:=fun x hx=>by simp at hx
theorem u0a{x:α}(hx:l[k]?=some x):l.take (k+1)=l.take k++[x]:=by
 obtain⟨a0,rfl⟩:=List.getElem?_eq_some_iff.1 hx;exact List.take_succ_eq_append_getElem a0
theorem Y0a.succ{x:α}(h:Y0a l k P)(hx:l[k]?=some x)(hk:P x):Y0a l (k+1) P:=fun y hy=>by
 rw[u0a hx] at hy;rcases List.mem_append.1 hy with hy|hy
 ·exact h y hy
 ·rw[List.mem_singleton.1 hy];exact hk
theorem Y0a.all(h:Y0a l k P)(hk:l.length≤k):∀x∈l,P x:=fun x hx=>h x (by rw[List.take_of_length_le hk];exact hx)
theorem Y0a.get(h:Y0a l k P){j:Nat}(hj:j<k)(hl:j<l.length):P l[j]:=h _ (by
 rw[List.mem_take_iff_getElem];exact⟨j,by omega,Z⟩)
def w3a(l:List α)(k:Nat)(R:α→α→Prop):Prop:=(l.take k).Pairwise R
variable {R:α→α→Prop}
theorem w3a.zero:w3a l 0 R:=by simp[w3a]
theorem w3a.succ{x:α}(h:w3a l k R)(hx:l[k]?=some x){j:Nat}(hj:k≤j)(hk:Y0a l j (fun y=>R y x)):w3a l (k+1) R:=by
 unfold w3a;rw[u0a hx,List.pairwise_append];refine⟨h,by simp,fun a ha b hb=>?_⟩;rw[List.mem_singleton.1 hb];refine hk a ?_;rw[show l.take k=(l.take j).take k by rw[List.take_take,Nat.min_eq_left hj]] at ha;exact List.mem_of_mem_take ha
theorem w3a.all(h:w3a l k R)(hk:l.length≤k):l.Pairwise R:=by
 unfold w3a at h;rwa [List.take_of_length_le hk] at h
theorem T9a(h:∀j x,l[j]?=some x→∀y∈l.take j,R y x):l.Pairwise R:=by
 rw[List.pairwise_iff_getElem];intro i j hi hj a0;refine h j l[j] (List.getElem?_eq_getElem hj) _ ?_;rw[List.mem_take_iff_getElem];exact⟨i,by omega,Z⟩
def L5a(l:List α)(i k:Nat)(P:α→Prop):Prop:=∀j b,l[j]?=some b→i≤j→j<k→P b
theorem L5a.start{i k:Nat}(h:k≤i):L5a l i k P:=fun j b _ h1 h2=>absurd h1 (by omega)
theorem L5a.succ{i:Nat}{x:α}(h:L5a l i k P)(hx:l[k]?=some x)(hk:P x):L5a l i (k+1) P:=fun j b hb h1 h2=>by
 by_cases a0:j=k
 ·subst a0;rw[hx] at hb;cases hb;exact hk
 ·exact h j b hb h1 (by omega)
theorem L5a.tail{x:α}(h:L5a l 1 k P)(hk:l.length≤k)(hx:l[0]?=some x):∃t,l=x::t∧∀b∈t,P b:=by
 cases l with
 | nil=>simp at hx
 | cons y t =>
   simp at hx;subst hx;refine⟨t,Z,fun b hb=>?_⟩;obtain⟨j,hj,rfl⟩:=List.getElem_of_mem hb;simp at hk;exact h (j+1) _ (by simp[hj]) (by omega) (by omega)
theorem L5a.all{l:List α}{k:Nat}(h:L5a l 0 k P)(hk:l.length≤k):∀b∈l,P b:=fun b hb=>by
 obtain⟨j,hj,rfl⟩:=List.getElem_of_mem hb;exact h j _ (List.getElem?_eq_getElem hj) (by omega) (by omega)
theorem RdS.get{M:List Nat}{w:World}{size:Nat}{R:LV→α→Prop}{A:Option Addr}{n c:Nat}{l:List α}(h:RdS M w size R (.slice A n c) l)(i:Nat)(hi:i<l.length):
 ∃x b o cs,l[i]?=some x∧A=some ⟨b,o,none⟩∧b∉M∧cs.length=size∧Cells w b (o+i*size) cs∧R cs x:=by
 obtain⟨_,_,_,_,h5⟩:=h.at;obtain⟨b,o,hA,hb,a0⟩:=h5 (by omega);obtain⟨cs,h6,h7,h8⟩:=a0 i l[i] (List.getElem?_eq_getElem hi);exact⟨l[i],b,o,cs,List.getElem?_eq_getElem hi,hA,hb,h6,h7,h8⟩
theorem c0a{x:α}(hx:l[k]?=some x):x∈l:=List.mem_of_getElem? hx
theorem t5a{x:α}(hx:l[k]?=some x):k<l.length:=(List.getElem?_eq_some_iff.1 hx).1
theorem RdS.len{M:List Nat}{w:World}{size:Nat}{R:LV→α→Prop}{A:Option Addr}{n c:Nat}{l:List α}(h:RdS M w size R (.slice A n c) l):n=l.length∧n≤c∧n≤140737488355328 :=
 ⟨h.at.1,h.at.2.1,h.at.2.2.2.1⟩
end
theorem Cells.sub{w:World}{b o:Nat}{cs:LV}(h:Cells w b o cs)(a0 n:Nat):Cells w b (o+a0) ((cs.drop a0).take n):=fun j v hj=>by
 rw[List.getElem?_take] at hj
 split at hj
 ·rw[List.getElem?_drop] at hj;have:=h _ _ hj
  rwa [←Nat.add_assoc] at this
 ·cases hj
variable {P:Program} {r:Option Nat} {N:Nat} {D:List Deferred} {e:Env} {w w0:World} {ops:Array Oper} {rest:List Oper} {K:List Deferred→Env→World→Prop} {L:List Ent} {M:List Nat}
section
variable {d:Nat} {t:TypeId} {p:String} {af:Array Edge} {f:FuncId} {args:Array Operand} {at_:Array TypeId} {vs:LV}
theorem C0c{Q:Prop}(S:St M w0 w L)(hH:Has P f)(a0:args.toList.map (ev e)=vs)(hd:Nat.ble (d+1) N=true)
 (hc:A0a P f vs.toArray w fun v w'=>(∃b,v=.bool b∧(b=true→Q))∧Below w.heap.size w w') (h1:Q→∀w1,St M w0 w1 L→x0a [] w w1→WL P r N ops rest K D (upd e d (.bool true)) w1)
 (h2:∀w1,St M w0 w1 L→x0a [] w w1→WL P r N ops rest K D (upd e d (.bool false)) w1) :
 WL P r N ops (⟨some d,.call { callee:=.value (.func f),args:=args,argTypes:=at_ },t,p,af,none⟩::rest) K D e w :=
 h0a S hH a0 hd hc fun v w1 ⟨b,hv,hb⟩ S1 X1=>by
  subst hv;cases b
  ·exact h2 w1 S1 X1
  ·exact h1 (hb Z) w1 S1 X1
theorem m6a{ty el size a0:Nat}{z:Value}(S:St M w0 w L)(hS:SlZ P ty el size z a0)(hd:Nat.ble (d+1) N=true)
 (h:∀g w1,St M w0 w1 ((some g,el,[])::L)→x0a [] w w1→w.heap.size≤g→WL P r N ops rest K D (upd e d (.slice (some ⟨g,0,none⟩) 0 0)) w1) :
 WL P r N ops (⟨some d,.buildSlice ty 0 #[],t,p,af,none⟩::rest) K D e w:=by
 obtain⟨_,hi,_,c0,_⟩:=hS.parts;have b0:(sizeOf el).run P w=.ok size w:=by simp[sizeOf,typeInfo,hi,c0]
 refine U0a (v:=.slice (some ⟨w.heap.size,0,none⟩) 0 0) (w':=w.alloc (.cells #[] el)) Z Z hd ?_ (h _ _ (S.alloc el []) (G1a _ _ _) (Nat.le_refl _));simp[execOp,Instr.buildSlice,run_underlying hS.und,b0,newRow,Instr.fill];have h0:Array.map (fun _=>(default:Value)) (Array.range 0)=#[]:=by simp
 rw[h0]
theorem S4a.new{g size:Nat}:S4a (some g) size 0 [] (.slice (some ⟨g,0,none⟩) 0 0) []:=⟨by simp,.inr ⟨g,0,Z,Z,Nat.le_refl _,by unfold maxLen;omega,by simp,by simp⟩⟩
variable {x y:Operand} {xt yt:TypeId} {kd:IntKind} {a b:Int}
theorem z3d(hx:ev e x=.int kd a)(hy:ev e y=.int kd b)(hd:Nat.ble (d+1) N=true)(h:WL P r N ops rest K D (upd e d (.bool (decide (a=b)))) w):
 WL P r N ops (⟨some d,.binOp .eql xt x y yt,t,p,af,none⟩::rest) K D e w:=by
 refine y0d hx hy hd (fun hh=>?_) fun hh=>?_
 ·rwa [decide_eq_true hh] at h
 ·rwa [decide_eq_false hh] at h
theorem Q1b{fn:Func}{R:Value→World→Prop}{t u x:Nat}(h:fn.results=#[.tmp t,.tmp u,.tmp x]){v1 v2 v3:Value}(hR:R (.tuple #[v1,v2,v3]) w)(h1:e t=v1:=by conv=>lhs;whnf)(h2:e u=v2:=by conv=>lhs;whnf)(h3:e x=v3:=by conv=>lhs;whnf):g4a P fn R [] e w :=
 ⟨Z,fun tmps he=>by subst he;subst h1;subst h2;subst h3;exact⟨_,by simp[results,h];rfl,by simpa[P0a] using hR⟩⟩
end
section
variable {M:List Nat} {w:World}
theorem e1a.open_{p:m0a}{cs:LV}(h:e1a M w p cs):∃Ac nc cc Am nm cm Al nl cl At nt ct,cs=(pL Ac nc cc Am nm cm Al nl cl At nt ct) ∧
 i0b M w (.slice Ac nc cc) p.cells∧L4d M w (.slice Am nm cm) p.modules∧u4d M w (.slice Al nl cl) p.locks∧X4d M w (.slice At nt ct) p.threads ∧
 nc=p.cells.length∧nm=p.modules.length∧nl=p.locks.length∧nt=p.threads.length∧nc≤140737488355328∧nm≤140737488355328∧nl≤140737488355328∧nt≤140737488355328:=by
 obtain⟨_,_,_,_,rfl,h1,h2,h3,h4⟩:=h;obtain⟨Ac,nc,cc,rfl⟩:=h1.form;obtain⟨Am,nm,cm,rfl⟩:=h2.form;obtain⟨Al,nl,cl,rfl⟩:=h3.form;obtain⟨At,nt,ct,rfl⟩:=h4.form;exact⟨_,_,_,_,_,_,_,_,_,_,_,_,Z,h1,h2,h3,h4,h1.len.1,h2.len.1,h3.len.1,h4.len.1,h1.len.2.2,h2.len.2.2,h3.len.2.2,h4.len.2.2⟩
theorem RdE.cells{e:E}{cs:LV}(h:RdE M w e cs):∃A n c,cs=[.int .i64 e.op,.int .i64 e.w,.int .i64 e.n,.slice A n c]∧n=e.kids.length∧n≤140737488355328∧i64 e.op∧i64 e.w∧i64 e.n:=by
 obtain⟨A,n,c,rfl,o1,o2,o3,hn,_,_,hbig,_⟩:=h.open_;exact⟨A,n,c,Z,hn,hbig,o1,o2,o3⟩
theorem RdE.kidsRd{e:E}{v0 v1 v2 v3:Value}(h:RdE M w e [v0,v1,v2,v3]):D1d M w v3 e.kids:=by
 obtain⟨A,n,c,he,_,_,_,hn,hc,hm,hbig,a0⟩:=h.open_;simp only[List.cons.injEq,and_true] at he;obtain⟨rfl,rfl,rfl,rfl⟩:=he;refine⟨A,n,c,Z,hn,hc,hm,hbig,fun h0=>?_⟩;obtain⟨b,o,hA,hb,hk⟩:=a0 h0;refine⟨b,o,hA,hb,fun i x hx=>?_⟩;obtain⟨b0,rfl⟩:=List.getElem?_eq_some_iff.1 hx;obtain⟨cs,h1,h2⟩:=hk i b0;exact⟨cs,h2.length,h1,h2⟩
theorem V0a.open_{a:o3a}{cs:LV}(h:V0a M w cs a):∃A n c,cs=[.int .i64 a.cell,.int .i64 a.to.op,.int .i64 a.to.w,.int .i64 a.to.n,.slice A n c]∧i64 a.cell∧RdE M w a.to [.int .i64 a.to.op,.int .i64 a.to.w,.int .i64 a.to.n,.slice A n c]:=by
 obtain⟨_,rfl,h1,h2⟩:=h;obtain⟨A,n,c,rfl,_⟩:=h2.cells;exact⟨A,n,c,Z,h1,h2⟩
theorem n2a.open_{s:i2a}{cs:LV}(h:n2a M w cs s):∃Ag ng cg As ns a0,cs=[.int .i64 s.kind,.int .i64 s.frm,.int .i64 s.to,.int .i64 s.guard.op,.int .i64 s.guard.w,.int .i64 s.guard.n,.slice Ag ng cg,.slice As ns a0,.bool s.release,.int .i64 s.target,.int .i64 s.module_] ∧
 (i64 s.kind∧i64 s.frm∧i64 s.to∧i64 s.target∧i64 s.module_)∧RdE M w s.guard [.int .i64 s.guard.op,.int .i64 s.guard.w,.int .i64 s.guard.n,.slice Ag ng cg]∧d9c M w (.slice As ns a0) s.set∧ns=s.set.length∧ns≤140737488355328:=by
 obtain⟨_,_,_,_,_,rfl,h1,h2,h3,h4,h5,h6,h7⟩:=h;obtain⟨_,n,_,he,_⟩:=h6.cells;simp only[List.cons.injEq,and_true] at he;obtain⟨rfl,rfl,rfl,rfl⟩:=he;obtain⟨As,ns,a0,rfl⟩:=h7.form;exact⟨_,_,_,_,_,_,Z,⟨h1,h2,h3,h4,h5⟩,h6,h7,h7.len.1,h7.len.2.2⟩
theorem H5a.open_{l:C6b}{cs:LV}(h:H5a M w cs l):∃Ab nb cb Ag ng cg,cs=[.int .i64 l.head,.slice Ab nb cb,.int .i64 l.variant.op,.int .i64 l.variant.w,.int .i64 l.variant.n,.slice Ag ng cg]∧i64 l.head∧RdI M w (.slice Ab nb cb) l.body ∧
 RdE M w l.variant [.int .i64 l.variant.op,.int .i64 l.variant.w,.int .i64 l.variant.n,.slice Ag ng cg]∧nb=l.body.length∧nb≤140737488355328:=by
 obtain⟨_,_,_,_,_,rfl,h1,h2,h3⟩:=h;obtain⟨_,n,_,he,_⟩:=h3.cells;simp only[List.cons.injEq,and_true] at he;obtain⟨rfl,rfl,rfl,rfl⟩:=he;obtain⟨Ab,nb,cb,rfl⟩:=h2.form;exact⟨_,_,_,_,_,_,Z,h1,h2,h3,h2.len.1,h2.len.2.2⟩
theorem Z0a.open_{t:D1a}{cs:LV}(h:Z0a M w cs t):∃Aa na ca Am nm cm As ns a0 Al nl cl,cs=[.string t.name,.int .i64 t.points,.slice Aa na ca,.slice Am nm cm,.slice As ns a0,.slice Al nl cl,.bool t.asleep]∧i64 t.points ∧
 D1d M w (.slice Aa na ca) t.asserts∧RdI M w (.slice Am nm cm) t.modules∧a2d M w (.slice As ns a0) t.steps∧x4d M w (.slice Al nl cl) t.loops ∧
 na=t.asserts.length∧nm=t.modules.length∧ns=t.steps.length∧nl=t.loops.length∧na≤140737488355328∧nm≤140737488355328∧ns≤140737488355328∧nl≤140737488355328:=by
 obtain⟨_,_,_,_,rfl,h0,h1,h2,h3,h4⟩:=h;obtain⟨Aa,na,ca,rfl⟩:=h1.form;obtain⟨Am,nm,cm,rfl⟩:=h2.form;obtain⟨As,ns,a0,rfl⟩:=h3.form;obtain⟨Al,nl,cl,rfl⟩:=h4.form;exact⟨_,_,_,_,_,_,_,_,_,_,_,_,Z,h0,h1,h2,h3,h4,h1.len.1,h2.len.1,h3.len.1,h4.len.1,h1.len.2.2,h2.len.2.2,h3.len.2.2,h4.len.2.2⟩
theorem f1a.open_{c:k2a}{cs:LV}(h:f1a M w cs c):∃Ar nr cr Ag ng cg Af nf cf,cs=[.string c.name,.string c.owner,.int .i64 c.rely.op,.int .i64 c.rely.w,.int .i64 c.rely.n,.slice Ar nr cr,.int .i64 c.guar.op,.int .i64 c.guar.w,.int .i64 c.guar.n,.slice Ag ng cg,.slice Af nf cf] ∧
 RdE M w c.rely [.int .i64 c.rely.op,.int .i64 c.rely.w,.int .i64 c.rely.n,.slice Ar nr cr]∧RdE M w c.guar [.int .i64 c.guar.op,.int .i64 c.guar.w,.int .i64 c.guar.n,.slice Ag ng cg]∧RdI M w (.slice Af nf cf) c.frame∧nf=c.frame.length∧nf≤140737488355328:=by
 obtain⟨_,_,_,_,_,_,_,_,_,rfl,h1,h2,h3⟩:=h;obtain⟨_,n,_,he,_⟩:=h1.cells;simp only[List.cons.injEq,and_true] at he;obtain⟨rfl,rfl,rfl,rfl⟩:=he;obtain⟨_,_,_,he,_⟩:=h2.cells;simp only[List.cons.injEq,and_true] at he;obtain⟨rfl,rfl,rfl,rfl⟩:=he;obtain⟨Af,nf,cf,rfl⟩:=h3.form;exact⟨_,_,_,_,_,_,_,_,_,Z,h1,h2,h3,h3.len.1,h3.len.2.2⟩
theorem X5a.open_{l:I5b}{cs:LV}(h:X5a M w cs l):∃Ag ng cg,cs=[.int .i64 l.cell,.int .i64 l.inv.op,.int .i64 l.inv.w,.int .i64 l.inv.n,.slice Ag ng cg,.int .i64 l.module_]∧i64 l.cell∧i64 l.module_∧RdE M w l.inv [.int .i64 l.inv.op,.int .i64 l.inv.w,.int .i64 l.inv.n,.slice Ag ng cg]:=by
 obtain⟨_,_,_,_,rfl,h1,h2,h3⟩:=h;obtain⟨_,n,_,he,_⟩:=h3.cells;simp only[List.cons.injEq,and_true] at he;obtain⟨rfl,rfl,rfl,rfl⟩:=he;exact⟨_,_,_,Z,h1,h2,h3⟩
theorem P2a.open_{c:g1a}{cs:LV}(h:P2a cs c):cs=[.string c.name,.int .i64 c.w,.int .i64 c.init,.int .i64 c.thread,.bool c.ghost,.int .i64 c.module_]∧i64 c.w∧i64 c.init∧i64 c.thread∧i64 c.module_:=h
end
section
variable {cells:List g1a} {x:Int} {c:g1a}
theorem j1a(h:cells[x.toNat]?=some c):u1a cells x=c.thread:=by unfold u1a;rw[List.getD_eq_getElem?_getD,h];rfl
theorem y2a(h:cells[x.toNat]?=some c):i9a cells x=c.ghost:=by unfold i9a;rw[List.getD_eq_getElem?_getD,h];rfl
theorem c5a(h:cells[x.toNat]?=some c)(h0:0≤x:=by omega):wAt cells x=c.w:=by unfold wAt;rw[if_pos h0,h];rfl
end
theorem s8a{l:List Int}{k k0:Nat}{x y:Int}(hy:l[k]?=some y)(hp:t1a (l.take k))(hx:l[k0]?=some x)(h0:k0+1=k:=by omega)(hxy:x<y:=by omega):t1a (l.take (k+1)):=by
 subst h0;unfold t1a at *;rw[u0a hy,List.pairwise_append];refine⟨hp,by simp,fun a ha b hb=>?_⟩;rw[List.mem_singleton.1 hb];rw[u0a hx] at hp ha;rcases List.mem_append.1 ha with h|h
 ·have:=(List.pairwise_append.1 hp).2.2 a h x (by simp);omega
 ·rw[List.mem_singleton.1 h];exact hxy
theorem Q6a{l:List Int}{i j:Nat}{x y:Int}(h:t1a l)(hx:l[i]?=some x)(hy:l[j]?=some y)(a0:i<j:=by omega):x<y:=by
 obtain⟨h1,rfl⟩:=List.getElem?_eq_some_iff.1 hx;obtain⟨h2,rfl⟩:=List.getElem?_eq_some_iff.1 hy;exact(List.pairwise_iff_getElem.1 h) i j h1 h2 a0
theorem p9a(e:E)(op:Int):(e.sup op).length≤32:=by
 unfold E.sup
 split
 ·unfold j3a;have h1:=p2a (e.mark op (List.replicate 32 false)) (e.mark op (List.replicate 32 false)).length;rw[E.mark_len] at h1 ⊢;simpa using h1
 ·simp
theorem A2b{cells:List g1a}{a0:Bool}{e:E}(h:e.valid cells a0=true)(ho:e.op=2):0≤e.n∧e.n<cells.length:=by
 obtain⟨_,h2,h3⟩:=h2a h;have:=I5a (.inl Z) e 40 h2 h3 e.n (by rw[E.occ_def];simp[ho]);omega
theorem E.ext{a b:E}(h1:a.op=b.op)(h2:a.w=b.w)(h3:a.n=b.n)(h4:a.kids=b.kids):a=b:=by
 cases a;cases b;simp only at h1 h2 h3 h4;subst h1 h2 h3 h4;rfl
structure n8a (p:m0a):Prop where
 cells:∀c∈p.cells,c.name.size≤140737488355328
 mods:∀m∈p.modules,m.name.size≤140737488355328∧m.owner.size≤140737488355328
 threads:∀t∈p.threads,t.name.size≤140737488355328
theorem y7a{α:Type}{R:α→α→Prop}{l:List α}(h:l.Pairwise R){i j:Nat}{x y:α}(hx:l[i]?=some x)(hy:l[j]?=some y)(a0:i<j):R x y:=by
 obtain⟨h1,rfl⟩:=List.getElem?_eq_some_iff.1 hx;obtain⟨h2,rfl⟩:=List.getElem?_eq_some_iff.1 hy;exact List.pairwise_iff_getElem.1 h i j h1 h2 a0
theorem W9a(i n:Int)(w0:World):A0a prog 169 #[.int .i64 i,.int .i64 n] w0 fun v w'=>v=.bool (decide (0≤i∧i<n))∧Bw w0 w':=by
 have S:=St.refl w0;refine a0a func169 Z ntmps169 Z ?_;refine wB1 Z (fun h6=>?_) fun h6=>?_
 ·refine lB1 Z (fun a0=>?_) fun a0=>?_
  ·refine lU Z Z ?_;exact⟨cB (by(rw[decide_eq_true];omega)),S.fin⟩
  refine lU Z Z ?_;exact⟨cB (by(rw[decide_eq_false];omega)),S.fin⟩
 refine lU Z Z ?_;exact⟨cB (by(rw[decide_eq_false];omega)),S.fin⟩
theorem j0b(s:ByteArray)(w0:World)(hbig:s.size≤140737488355328):A0a prog 168 #[.string s] w0 fun v w'=>v=.bool (dec (z7a s))∧Bw w0 w':=by
 have S:=St.refl w0;refine a0a func168 Z ntmps168 Z ?_;refine wC1 Z (wL (fun μ D ε w=>D=[]∧∃k:Nat,(k+μ=s.size)∧(∀(j:Nat) (h:j<s.size),j<k→33≤(s[j]).toNat∧(s[j]).toNat≤126)∧St [] w0 w []∧ε 0=.string s∧ε 3=.int .i64 k) (μ:=s.size) ⟨Z,0,by omega,fun j _ h=>absurd h (by omega),S,Z,Z⟩ ?_);rintro μ D ε w ⟨rfl,k,_,hl,S,e0,e3⟩;refine q0a 0 e0 (q0a 3 e3 ?_);clear e0 e3;refine wO1 Z (z0b Tryz.underlying9 Z Z ?_);refine lB1 Z (fun h7=>?_) fun h7=>?_
 ·refine lO1 Z (f0b Tryz.underlying9 Z Z (by omega) (by omega) Z ?_);refine lB1 Z (fun a0=>?_) fun a0=>?_
  ·refine lU Z Z ?_;refine⟨C0a (fun h=>?_),S.fin⟩;have h3:=h.2.2 k (by omega);simp only[Int.toNat_natCast] at a0;omega
  refine lO1 Z (f0b Tryz.underlying9 Z Z (by omega) (by omega) Z ?_);refine lB1 Z (fun b0=>?_) fun b0=>?_
  ·refine lU Z Z ?_;refine⟨C0a (fun h=>?_),S.fin⟩;have h3:=h.2.2 k (by omega);simp only[Int.toNat_natCast] at b0;omega
  refine lP1 Z ⟨μ-1,by omega,Z,k+1,by omega,fun j hj h=>?_,S,Z,Z⟩;by_cases f0:j=k
  ·subst f0;simp only[Int.toNat_natCast] at a0 b0;omega
  ·exact hl j hj (by omega)
 refine lO1 Z (z0b Tryz.underlying9 Z Z ?_);refine lB1 Z (fun c0=>?_) fun c0=>?_
 ·refine lO1 Z (z0b Tryz.underlying9 Z Z ?_);refine lB1 Z (fun d0=>?_) fun d0=>?_
  ·exact lU Z Z ⟨H1a ⟨by omega,by omega,fun j h=>hl j h (by omega)⟩,S.fin⟩
  refine lU Z Z ?_;refine⟨C0a (fun h=>?_),S.fin⟩;have h3:=h.1;have h4:=h.2.1;omega
 refine lU Z Z ?_;refine⟨C0a (fun h=>?_),S.fin⟩;have h3:=h.1;have h4:=h.2.1;omega
theorem H4b(M:List Nat)(w0:World)(v:Value)(l:List Int)(hR:RdI M w0 v l):A0a prog 172 #[v] w0 fun v w'=>v=.bool (dec (t1a l))∧Bw w0 w':=by
 obtain⟨A,n,c,rfl⟩:=hR.form;obtain⟨_,_⟩:=hR.len;have S:=St.refl w0;refine a0a func172 Z ntmps172 Z ?_;refine wC1 Z ?_;refine wL (fun μk D ε w=>D=[]∧∃k:Nat,(k+μk=max (l.length) 1)∧(1≤k)∧(t1a (l.take k))∧St [] w0 w []∧Sl ε [(0,.slice A n c),(3,.int .i64 k)]) (μ:=(max (l.length) 1-1)) ⟨Z,1,by omega,by omega,(by cases l<;>simp[t1a]),S,Z⟩ ?_;rintro μk D ε w ⟨rfl,k,_,_,hp,S,eZ⟩;refine wK eZ (wB1 Z (fun h7=>?_) fun h7=>?_)
 ·refine lC1 Z (y0a b0a [0,1,2,3,4,5,6,7,8,9] [] [] Z (Cl _ _ _ _) (Cl.start S) ?_);obtain⟨x,n0,r0,_,i0,c0,_,_,a0,f0⟩:=RdS.get (hR) (k-1) (by omega);obtain⟨rfl,_⟩:=id f0;have p0:((k:Int)-1).toNat=k-1:=by omega
  rw[←p0] at a0;obtain⟨_,o0,s0,_,j0,d0,_,_,e0,g0⟩:=RdS.get (hR) (k) (by omega);obtain⟨rfl,_⟩:=id g0;refine qB ((S.q.a e0).a a0) [.x n0 r0,.f 0 0,.x o0 s0,.f 1 0] Z ⟨Z,⟨d0,by omega⟩,Z,⟨c0,by omega⟩,by omega,U⟩ (fun q0=>?_) fun q0=>?_
  ·refine lV Z ?_;rintro t0 ⟨b0,m0⟩;refine lU Z Z ?_;refine⟨C0a (fun h=>?_),b0.fin⟩;have:=y7a h i0 j0 (by omega);omega
  refine lV Z ?_;rintro t0 ⟨b0,m0⟩;refine lP1 Z ⟨μk-1,by omega,Z,k+1,by omega,by omega,?_,b0,Z⟩;refine(s8a j0 hp (k0:=k-1) i0)
 exact lU Z Z ⟨H1a ((List.take_of_length_le (show l.length≤k by omega))▸hp),S.fin⟩
theorem s7b(e:E)(M:List Nat)(w0:World)(cs:LV)(hR:RdE M w0 e cs):A0a prog 170 #[.agg cs.toArray] w0 fun v w'=>v=.bool (dec e.absent)∧Bw w0 w':=by
 obtain⟨_,_,_,rfl,hn,_⟩:=hR.cells;have S:=St.refl w0;refine a0a func170 Z ntmps170 Z ?_;refine wO1 Z (o0a S Z ?_);intro g1 w1 S1 X1 G1;refine lB S1.k [.o 0] Z ⟨Z,U⟩ (fun h5=>?_) fun h5=>?_
 ·refine lB S1.k [.o 0] Z ⟨Z,U⟩ (fun h9=>?_) fun h9=>?_
  ·refine lB S1.k [.o 0] Z ⟨Z,U⟩ (fun a0=>?_) fun a0=>?_
   ·refine lB S1.k [.o 0] Z ⟨Z,U⟩ (fun b0=>?_) fun b0=>?_
    ·exact lU Z Z ⟨H1a ⟨by omega,by omega,by omega,List.length_eq_zero_iff.1 (by omega)⟩,S1.fin⟩
    refine lU Z Z ?_;refine⟨C0a (fun h=>?_),S1.fin⟩;obtain⟨a1,a2,a3,a4⟩:=h;rw[a4] at hn;simp at hn;omega
   refine lU Z Z ?_;refine⟨C0a (fun h=>?_),S1.fin⟩;obtain⟨a1,a2,a3,a4⟩:=h;rw[a4] at hn;simp at hn;omega
  refine lU Z Z ?_;refine⟨C0a (fun h=>?_),S1.fin⟩;obtain⟨a1,a2,a3,a4⟩:=h;rw[a4] at hn;simp at hn;omega
 refine lU Z Z ?_;refine⟨C0a (fun h=>?_),S1.fin⟩;obtain⟨a1,a2,a3,a4⟩:=h;rw[a4] at hn;simp at hn;omega
theorem R7b(p:m0a)(M:List Nat)(w0:World)(cs:LV)(c t:Int)(hP:e1a M w0 p cs)(h0:0≤c)(h1:c<p.cells.length):
 A0a prog 254 #[.agg cs.toArray,.int .i64 c,.int .i64 t] w0 fun v w'=>v=.bool (decide (u1a p.cells c=t))∧Bw w0 w':=by
 obtain⟨_,_,_,_,_,_,_,_,_,_,_,_,rfl,hC,_⟩:=hP.open_;have S:=St.refl w0;refine a0a func254 Z ntmps254 Z ?_;refine wO1 Z (o0a S Z ?_);intro g3 w3 S3 X3 G3;obtain⟨x,e0,g0,_,d0,a0,_,_,b0,c0⟩:=RdS.get (hC) (c.toNat) (by omega);obtain⟨rfl,_⟩:=P2a.open_ c0;refine lB (S3.k.a b0) [.o 0,.x e0 g0,.f 0 3] Z ⟨Z,⟨a0,by omega⟩,Z,U⟩ (fun f0=>?_) fun f0=>?_
 ·refine lR1 Z (w0a Z ?_);exact⟨by rw[decide_eq_true (by rw[j1a d0];omega)],S3.fin⟩
 refine lR1 Z (w0a Z ?_);exact⟨by rw[decide_eq_false (by rw[j1a d0];omega)],S3.fin⟩
theorem K0b(p:m0a)(M:List Nat)(w0:World)(cs:LV)(c:Int)(hP:e1a M w0 p cs)(h0:0≤c)(h1:c<p.cells.length):
 A0a prog 255 #[.agg cs.toArray,.int .i64 c] w0 fun v w'=>v=.bool (decide (u1a p.cells c=-1))∧Bw w0 w':=by
 obtain⟨_,_,_,_,_,_,_,_,_,_,_,_,rfl,hC,_⟩:=hP.open_;have S:=St.refl w0;refine a0a func255 Z ntmps255 Z ?_;refine wO1 Z (o0a S Z ?_);intro g2 w2 S2 X2 G2;obtain⟨x,b8,p8,_,a0,c0,_,_,d0,e0⟩:=RdS.get (hC) (c.toNat) (by omega);obtain⟨rfl,_⟩:=P2a.open_ e0;refine lB (S2.k.a d0) [.o 0,.x b8 p8,.f 0 3] Z ⟨Z,⟨c0,by omega⟩,Z,U⟩ (fun b0=>?_) fun b0=>?_
 ·refine lR1 Z (w0a Z ?_);exact⟨by rw[decide_eq_true (by rw[j1a a0];omega)],S2.fin⟩
 refine lR1 Z (w0a Z ?_);exact⟨by rw[decide_eq_false (by rw[j1a a0];omega)],S2.fin⟩
theorem N6a(p:m0a)(e:E)(M:List Nat)(w0:World)(cs es:LV)(sh U0:Bool)(t:Int)(hP:e1a M w0 p cs)(hR:RdE M w0 e es)(hM:∀g∈M,g<w0.heap.size)(hv:e.valid p.cells U0=true):
 A0a prog 174 #[.agg cs.toArray,.agg es.toArray,.bool sh,.int .i64 t] w0 fun v w'=>v=.bool (dec (v4a p.cells e sh t))∧Bw w0 w':=by
 obtain⟨Ac,nc,cc,Am,nm,cm,Al,nl,cl,At,nt,ct,rfl,hC,_⟩:=hP.open_;obtain⟨Ae,ne,ce,rfl,_⟩:=hR.cells;obtain⟨a1,Y0,Z0⟩:=h2a hv;have o0:∀x∈e.sup 3++e.sup 2,0≤x∧x<p.cells.length:=fun x hx=>by
  rcases List.mem_append.1 hx with hx|hx
  ·have h1:=(N7a a1 (.inr Z) x).1 hx;have h2:=I5a (.inr Z) e 40 Y0 Z0 x h1.2.2;omega
  ·have h1:=(N7a a1 (.inl Z) x).1 hx;have h2:=I5a (.inl Z) e 40 Y0 Z0 x h1.2.2;omega
 have v1:(e.sup 3).length≤32:=p9a e 3;have u1:(e.sup 2).length≤32:=p9a e 2;have S:=St.refl w0;cases sh
 ·refine a0a func174 Z ntmps174 Z ?_;refine wO1 Z (o0a S Z ?_);intro g4 w4 S4 X4 G4;refine o0a S4 Z ?_;intro g5 w5 S5 X5 G5;refine lO S5.k [.w 0] Z ⟨⟨Z,Z⟩,U⟩ ?_;refine h0a S5 D8b Z Z (k5a e M _ _ (RdE.keep (S5.keep0 M) _ _ hR) (fun g hg=>by have:=hM g hg;have:=S5.size;omega)) ?_;rintro m1 p1 ⟨va,vb,rfl,ra,rb⟩ A0 c1;obtain⟨Aa,na,ca,rfl⟩:=ra.form;obtain⟨Ab,nb,cb,rfl⟩:=rb.form;refine lO1 Z (m6a A0 R0a Z ?_);intro g19 q1 B0 s0 p0;have V0:=(RdS.more ra (by omega) (M':=[g19]) (fun g hg=>by simp at hg;subst hg;exact .inr p0)).keep s0.of_nil;have W0:=(RdS.more rb (by omega) (M':=[g19]) (fun g hg=>by simp at hg;subst hg;exact .inr p0)).keep s0.of_nil;refine lO1 Z ?_;refine U5a (k:=0) (xs:=[]) B0 R0a Z S4a.new Z Z V0 (by simp;omega) Z ?_;intro n1 b1 G0 r1 C0 q0 D0;have X0:=W0.keep D0;simp only[List.nil_append] at q0;refine lO1 Z (U5a (k:=0) C0 R0a Z q0 Z Z X0 (by omega) Z ?_);intro o1 y0 f0 s1 r0 z0 d1;have rl:=z0.rdI (k:=0) (M:=M) r0 Z hM (fun x hx=>by have:=o0 x hx;unfold i64;omega) (by simp;omega);obtain⟨l,el⟩:∃l,l=e.sup 3++e.sup 2:=⟨_,Z⟩;rw[←el] at rl o0;obtain⟨Ax,nx,cx,rfl⟩:=rl.form;obtain⟨j1,-,i1⟩:=rl.len;refine lC1 Z (wL (fun μk D ε w=>D=[]∧∃k:Nat,(k+μk=(l.length))∧(RdI M w (.slice Ax nx cx) l)∧(Y0a (l) k (fun x=>(u1a p.cells x=-1→false=true)∧(0≤u1a p.cells x→u1a p.cells x=t)))∧St [] w0 w [(y0,3,f0),(some g5,37,[.int .i64 e.op,.int .i64 e.w,.int .i64 e.n,.slice Ae ne ce]),(some g4,27,pL Ac nc cc Am nm cm Al nl cl At nt ct)]∧Sl ε [(2,.bool false),(3,.int .i64 t),(4,.pointer (some ⟨g4,0,none⟩)),(11,.slice Ax nx cx),(12,.int .i64 k)]) (μ:=(l.length)) ⟨Z,0,by omega,rl,Y0a.zero,r0,Z⟩ ?_);rintro μk D ε w ⟨rfl,k,hk,rl,hs,S,eZ⟩;refine wK eZ (wB1 Z (fun H0=>?_) fun H0=>?_)
  ·refine lC1 Z (y0a b0a [0,1,2,3,4,5,6,7,8,9] [] [] Z (Cl _ _ _ _) (Cl.start S) ?_);obtain⟨y,E0,S0,f1,b0,g0,u0,K0,d0,m0⟩:=RdS.get (rl) (k) (by omega);obtain⟨rfl,N0⟩:=id m0;have J0:=o0 y (c0a b0);obtain⟨x,F0,T0,g1,a0,i0,I0,L0,j0,n0⟩:=RdS.get (hC) (y.toNat) (by omega);obtain⟨rfl,O0,P0,Q0,R0⟩:=P2a.open_ n0;refine qN ((S.q.a j0).b d0) [.o 2,.x E0 S0,.f 0 0,.x F0 T0,.f 1 3] Z ⟨Z,⟨i0,by omega⟩,Z,⟨g0,by omega⟩,Z,U⟩ (h4a ?_);refine O1a ?_;rintro t1 ⟨c0,v0⟩;replace d0:=d0.keep (v0.of_nil) u0;replace rl:=rl.keep (v0.of_nil);refine lB1 Z (fun x0=>?_) fun x0=>?_
   ·refine lR1 Z (w0a Z ?_);rw[v4a,←el];refine⟨C0a (fun h=>?_),c0.nil.fin⟩;have h1:=h y (c0a b0);rw[j1a a0] at h1;have h2:=h1.1 x0;cases h2;done
   refine lB1 Z (fun e0=>?_) fun e0=>?_
   ·refine lB1 Z (fun t0=>?_) fun t0=>?_
    ·refine lR1 Z (w0a Z ?_);rw[v4a,←el];refine⟨C0a (fun h=>?_),c0.nil.fin⟩;have h1:=h y (c0a b0);rw[j1a a0] at h1;have h2:=h1.2 e0;omega
    refine lP1 Z ⟨μk-1,by omega,Z,k+1,by omega,(rl),?_,c0,Z⟩;exact hs.succ b0 ⟨fun h=>by rw[j1a a0] at h;omega,fun h=>by rw[j1a a0] at h ⊢;omega⟩
   refine lP1 Z ⟨μk-1,by omega,Z,k+1,by omega,(rl),?_,c0,Z⟩;exact hs.succ b0 ⟨fun h=>by rw[j1a a0] at h;omega,fun h=>by rw[j1a a0] at h ⊢;omega⟩
  refine lR1 Z (w0a Z ?_);rw[v4a,←el];exact⟨H1a (hs.all (by omega)),S.nil.fin⟩
 ·refine a0a func174 Z ntmps174 Z ?_;refine wO1 Z (o0a S Z ?_);intro g4 w4 S4 X4 G4;refine o0a S4 Z ?_;intro g5 w5 S5 X5 G5;refine lO S5.k [.w 0] Z ⟨⟨Z,Z⟩,U⟩ ?_;refine h0a S5 D8b Z Z (k5a e M _ _ (RdE.keep (S5.keep0 M) _ _ hR) (fun g hg=>by have:=hM g hg;have:=S5.size;omega)) ?_;rintro m1 p1 ⟨va,vb,rfl,ra,rb⟩ A0 c1;obtain⟨Aa,na,ca,rfl⟩:=ra.form;obtain⟨Ab,nb,cb,rfl⟩:=rb.form;refine lO1 Z (m6a A0 R0a Z ?_);intro g19 q1 B0 s0 p0;have V0:=(RdS.more ra (by omega) (M':=[g19]) (fun g hg=>by simp at hg;subst hg;exact .inr p0)).keep s0.of_nil;have W0:=(RdS.more rb (by omega) (M':=[g19]) (fun g hg=>by simp at hg;subst hg;exact .inr p0)).keep s0.of_nil;refine lO1 Z ?_;refine U5a (k:=0) (xs:=[]) B0 R0a Z S4a.new Z Z V0 (by simp;omega) Z ?_;intro n1 b1 G0 r1 C0 q0 D0;have X0:=W0.keep D0;simp only[List.nil_append] at q0;refine lO1 Z (U5a (k:=0) C0 R0a Z q0 Z Z X0 (by omega) Z ?_);intro o1 y0 f0 s1 r0 z0 d1;have rl:=z0.rdI (k:=0) (M:=M) r0 Z hM (fun x hx=>by have:=o0 x hx;unfold i64;omega) (by simp;omega);obtain⟨l,el⟩:∃l,l=e.sup 3++e.sup 2:=⟨_,Z⟩;rw[←el] at rl o0;obtain⟨Ax,nx,cx,rfl⟩:=rl.form;obtain⟨j1,-,i1⟩:=rl.len;refine lC1 Z (wL (fun μk D ε w=>D=[]∧∃k:Nat,(k+μk=(l.length))∧(RdI M w (.slice Ax nx cx) l)∧(Y0a (l) k (fun x=>(u1a p.cells x=-1→true=true)∧(0≤u1a p.cells x→u1a p.cells x=t)))∧St [] w0 w [(y0,3,f0),(some g5,37,[.int .i64 e.op,.int .i64 e.w,.int .i64 e.n,.slice Ae ne ce]),(some g4,27,pL Ac nc cc Am nm cm Al nl cl At nt ct)]∧Sl ε [(2,.bool true),(3,.int .i64 t),(4,.pointer (some ⟨g4,0,none⟩)),(11,.slice Ax nx cx),(12,.int .i64 k)]) (μ:=(l.length)) ⟨Z,0,by omega,rl,Y0a.zero,r0,Z⟩ ?_);rintro μk D ε w ⟨rfl,k,hk,rl,hs,S,eZ⟩;refine wK eZ (wB1 Z (fun H0=>?_) fun H0=>?_)
  ·refine lC1 Z (y0a b0a [0,1,2,3,4,5,6,7,8,9] [] [] Z (Cl _ _ _ _) (Cl.start S) ?_);obtain⟨y,E0,S0,f1,b0,g0,u0,K0,d0,m0⟩:=RdS.get (rl) (k) (by omega);obtain⟨rfl,N0⟩:=id m0;have J0:=o0 y (c0a b0);obtain⟨x,F0,T0,g1,a0,i0,I0,L0,j0,n0⟩:=RdS.get (hC) (y.toNat) (by omega);obtain⟨rfl,O0,P0,Q0,R0⟩:=P2a.open_ n0;refine qN ((S.q.a j0).b d0) [.o 2,.x E0 S0,.f 0 0,.x F0 T0,.f 1 3] Z ⟨Z,⟨i0,by omega⟩,Z,⟨g0,by omega⟩,Z,U⟩ (h4a ?_);refine O1a ?_;rintro t1 ⟨c0,v0⟩;replace rl:=rl.keep (v0.of_nil);refine lB1 Z (fun x0=>?_) fun x0=>?_
   ·refine lB1 Z (fun e0=>?_) fun e0=>?_
    ·refine lB1 Z (fun t0=>?_) fun t0=>?_
     ·refine lR1 Z (w0a Z ?_);rw[v4a,←el];refine⟨C0a (fun h=>?_),c0.nil.fin⟩;have h1:=h y (c0a b0);rw[j1a a0] at h1;have h2:=h1.2 e0;omega
     refine lP1 Z ⟨μk-1,by omega,Z,k+1,by omega,(rl),?_,c0,Z⟩;exact hs.succ b0 ⟨fun _=>rfl,fun h=>by rw[j1a a0] at h ⊢;omega⟩
    refine lP1 Z ⟨μk-1,by omega,Z,k+1,by omega,(rl),?_,c0,Z⟩;exact hs.succ b0 ⟨fun _=>rfl,fun h=>by rw[j1a a0] at h ⊢;omega⟩
   refine lB1 Z (fun e0=>?_) fun e0=>?_
   ·refine lB1 Z (fun t0=>?_) fun t0=>?_
    ·refine lR1 Z (w0a Z ?_);rw[v4a,←el];refine⟨C0a (fun h=>?_),c0.nil.fin⟩;have h1:=h y (c0a b0);rw[j1a a0] at h1;have h2:=h1.2 e0;omega
    refine lP1 Z ⟨μk-1,by omega,Z,k+1,by omega,(rl),?_,c0,Z⟩;exact hs.succ b0 ⟨fun _=>rfl,fun h=>by rw[j1a a0] at h ⊢;omega⟩
   refine lP1 Z ⟨μk-1,by omega,Z,k+1,by omega,(rl),?_,c0,Z⟩;exact hs.succ b0 ⟨fun _=>rfl,fun h=>by rw[j1a a0] at h ⊢;omega⟩
  refine lR1 Z (w0a Z ?_);rw[v4a,←el];exact⟨H1a (hs.all (by omega)),S.nil.fin⟩
theorem V5a(p:m0a)(e:E)(M:List Nat)(w0:World)(cs es:LV)(b0:Bool)(t:Int)(hP:e1a M w0 p cs)(hR:RdE M w0 e es)(hM:∀g∈M,g<w0.heap.size):
 A0a prog 171 #[.agg cs.toArray,.agg es.toArray,.bool b0,.int .i64 t] w0 fun v w'=>v=.bool (dec (n6a p.cells e b0 t))∧Bw w0 w':=by
 obtain⟨_,_,_,_,_,_,_,_,_,_,_,_,rfl,hC,_⟩:=hP.open_;obtain⟨_,_,_,rfl,_⟩:=hR.cells;have S:=St.refl w0;refine a0a func171 Z ntmps171 Z ?_;refine wO1 Z (o0a S Z ?_);intro g4 w4 S4 X4 G4;refine o0a S4 Z ?_;intro g5 w5 S5 X5 G5;refine lO S5.k [.w 0,.o 1] Z ⟨Z,⟨Z,by rfl⟩,U⟩ (i0a S5 F0b Z Z (A8a _ M _ _ _ p.cells b0 (RdE.keep (S5.keep0 M) _ _ hR) (hC.keep (S5.keep0 M))) (fun c0 j0 a0 f0=>?_) (fun c0 j0 a0 f0=>?_))
 ·refine lB a0.k [.o 0] Z ⟨Z,U⟩ (fun i0=>?_) fun i0=>?_
  ·refine lO a0.k [.w 1,.w 0] Z ⟨⟨Z,by rfl⟩,⟨Z,by rfl⟩,U⟩ ?_;refine i0a a0 s0b Z Z (N6a p e M _ _ _ true b0 t (hP.keep (a0.keep0 M)) (RdE.keep (a0.keep0 M) _ _ hR) (fun g hg=>by have:=hM g hg;have:=a0.size;omega) c0) (fun e0 m0 d0 g0=>?_) (fun e0 m0 d0 g0=>?_)
   ·exact lU Z Z ⟨H1a ⟨c0,by omega,Q0a e0⟩,d0.fin⟩
   exact lU Z Z ⟨C0a (fun h=>K0a e0 h.2.2),d0.fin⟩
  refine lU Z Z ?_;exact⟨C0a (fun h=>by have:=h.2.1;omega),a0.fin⟩
 refine lU Z Z ?_;exact⟨C0a (fun h=>by rw[h.1] at c0;cases c0),a0.fin⟩
def X1c(p:m0a):Prop:=p.cells.length≤32∧p.modules.length≤6∧p.locks.length≤4∧p.threads.length≤4∧∀x∈p.threads,x.points≤48∧x.steps.length≤64∧x.loops.length≤8
theorem m6b(p:m0a)(M:List Nat)(w0:World)(cs:LV)(hP:e1a M w0 p cs):
 A0a prog 111 #[.agg cs.toArray] w0 fun v w'=>(∃a b,v=.tuple #[.int .i64 a,.int .i64 b]∧(a=0↔X1c p))∧Bw w0 w':=by
 obtain⟨Ac,nc,cc,Am,nm,cm,Al,nl,cl,At,nt,ct,rfl,_,_,_,s0,_⟩:=hP.open_;have S:=St.refl w0;refine a0a func111 Z ntmps111 Z ?_;refine wO1 Z (o0a S Z ?_);intro g1 w1 S1 X1 G1;refine lB S1.k [.o 0] Z ⟨Z,U⟩ (fun h9=>?_) fun h9=>?_
 ·refine lT1 Z Z ?_;refine⟨⟨_,_,Z,iF (fun h=>?_)⟩,S1.fin⟩;have h1:=h.1;have h2:=h.2.1;have h3:=h.2.2.1;have h4:=h.2.2.2.1;omega
 refine lB S1.k [.o 0] Z ⟨Z,U⟩ (fun j0=>?_) fun j0=>?_
 ·refine lT1 Z Z ?_;refine⟨⟨_,_,Z,iF (fun h=>?_)⟩,S1.fin⟩;have h1:=h.1;have h2:=h.2.1;have h3:=h.2.2.1;have h4:=h.2.2.2.1;omega
 refine lB S1.k [.o 0] Z ⟨Z,U⟩ (fun m0=>?_) fun m0=>?_
 ·refine lT1 Z Z ?_;refine⟨⟨_,_,Z,iF (fun h=>?_)⟩,S1.fin⟩;have h1:=h.1;have h2:=h.2.1;have h3:=h.2.2.1;have h4:=h.2.2.2.1;omega
 refine lB S1.k [.o 0] Z ⟨Z,U⟩ (fun n0=>?_) fun n0=>?_
 ·refine lT1 Z Z ?_;refine⟨⟨_,_,Z,iF (fun h=>?_)⟩,S1.fin⟩;have h1:=h.1;have h2:=h.2.1;have h3:=h.2.2.1;have h4:=h.2.2.2.1;omega
 refine lC1 Z (wL (fun μk D ε w=>D=[]∧∃k:Nat,(k+μk=(p.threads.length))∧(Y0a (p.threads) k (fun x=>x.points≤48∧x.steps.length≤64∧x.loops.length≤8))∧St [] w0 w [(some g1,27,pL Ac nc cc Am nm cm Al nl cl At nt ct)]∧Sl ε [(1,.pointer (some ⟨g1,0,none⟩)),(4,.int .i64 k)]) (μ:=(p.threads.length)) ⟨Z,0,by omega,Y0a.zero,S1,Z⟩ ?_);rintro μk D ε w ⟨rfl,k,_,hs,S,eZ⟩;refine wK eZ (wB S.k [.o 0] Z ⟨Z,U⟩ (fun o0=>?_) fun o0=>?_)
 ·obtain⟨x,i0,t0,_,b0,c0,_,e0,d0,f0⟩:=RdS.get (s0) (k) (by omega);obtain⟨_,_,_,_,_,_,_,_,_,_,_,_,rfl,_⟩:=Z0a.open_ f0;refine lO (S.k.a d0) [.o 0,.x i0 t0,.v 0] Z ⟨⟨Z,e0⟩,⟨c0,by omega⟩,Z,U⟩ (g0a S M1b Z Z ?_);intro g5 w5 S5 X5 G5;refine d0a (kk:=0) (vs:=[_,_,_,_,_,_,_]) S5 I1b Z Z Z Z Z Z Z ?_;intro u0 a0 g0;dsimp only[e0a,List.set] at a0;refine lB a0.k [.o 0] Z ⟨Z,U⟩ (fun p0=>?_) fun p0=>?_
  ·refine lT1 Z Z ?_;refine⟨⟨_,_,Z,iF (fun h=>?_)⟩,a0.fin⟩;have h5:=h.2.2.2.2 x (c0a b0);omega
  refine lB a0.k [.o 0] Z ⟨Z,U⟩ (fun q0=>?_) fun q0=>?_
  ·refine lT1 Z Z ?_;refine⟨⟨_,_,Z,iF (fun h=>?_)⟩,a0.fin⟩;have h5:=h.2.2.2.2 x (c0a b0);omega
  refine lB a0.k [.o 0] Z ⟨Z,U⟩ (fun r0=>?_) fun r0=>?_
  ·refine lT1 Z Z ?_;refine⟨⟨_,_,Z,iF (fun h=>?_)⟩,a0.fin⟩;have h5:=h.2.2.2.2 x (c0a b0);omega
  refine lP1 Z ⟨μk-1,by omega,Z,k+1,by omega,(hs.succ b0 (⟨by omega,by omega,by omega⟩)),a0.tail,Z⟩
 exact lT1 Z Z ⟨⟨_,_,Z,iff_of_true (by omega) ⟨by omega,by omega,by omega,by omega,hs.all (by omega)⟩⟩,S.fin⟩
def f9a(p:m0a):Prop:=(∀c∈p.cells,S1b p c)∧p.cells.Pairwise (fun a b=>a.name≠b.name)
theorem Z9b(p:m0a)(M:List Nat)(w0:World)(cs:LV)(hP:e1a M w0 p cs)(hN:n8a p):
 A0a prog 112 #[.agg cs.toArray] w0 fun v w'=>(∃a,v=.int .i64 a∧(a=0↔f9a p))∧Bw w0 w':=by
 obtain⟨Ac,nc,cc,Am,nm,cm,Al,nl,cl,At,nt,ct,rfl,hC,_⟩:=hP.open_;have S:=St.refl w0;refine a0a func112 Z ntmps112 Z ?_;refine wO1 Z (o0a S Z ?_);intro g1 w1 S1 X1 G1;refine lC1 Z (wL (fun μk D ε w=>D=[]∧∃k:Nat,(k+μk=(p.cells.length))∧(Y0a (p.cells) k (fun x=>S1b p x))∧(w3a p.cells k (fun a b=>a.name≠b.name))∧St [] w0 w [(some g1,27,pL Ac nc cc Am nm cm Al nl cl At nt ct)]∧Sl ε [(1,.pointer (some ⟨g1,0,none⟩)),(3,.int .i64 k)]) (μ:=(p.cells.length)) ⟨Z,0,by omega,Y0a.zero,w3a.zero,S1,Z⟩ ?_);rintro μk D ε w ⟨rfl,k,_,hs,hp,S,eZ⟩;refine wK eZ (wB S.k [.o 0] Z ⟨Z,U⟩ (fun A0=>?_) fun A0=>?_)
 ·obtain⟨x,y0,I0,_,c0,n0,_,r0,p0,s0⟩:=RdS.get (hC) (k) (by omega);obtain⟨rfl,_⟩:=P2a.open_ s0;refine lO (S.k.a p0) [.o 0,.x y0 I0,.v 0] Z ⟨⟨Z,r0⟩,⟨n0,by omega⟩,Z,U⟩ (g0a S J9c Z Z ?_);intro g4 w4 S4 X4 G4;refine d0a (kk:=0) (vs:=[_,_,_,_,_,_]) S4 p9c Z Z Z Z Z Z Z ?_;intro K0 a0 x0;dsimp only[e0a,List.set] at a0;refine lC1 Z (y0a b0a [0,1,2,3,4,5,6,7,8,9,10,11,12,13,14,15,16,17,18,19,20,21,22,23,24,25,26,27,28,29,30,31,32,33,34,35,36,37,38,39,40,41,42,43,44,45,46,47,48] [] [] Z (Cl _ _ _ _) (Cl.start a0) ?_);refine qO a0.q [.o 0] Z ⟨Z,U⟩ (H2a m3b Z Z (fun w1 S1 X1=>j0b _ _ (hN.cells x (c0a c0))) (fun i0=>?_) fun i0=>?_)
  ·refine qB a0.q [.o 0] Z ⟨Z,U⟩ (fun B0=>?_) fun B0=>?_
   ·refine lV Z ?_;rintro e0 ⟨b0,d0⟩;refine lU Z Z ⟨⟨_,Z,iF (fun h=>?_)⟩,b0.fin⟩;have h1:=h.1 x (c0a c0)
    (have q1:=h1.w;have q2:=h1.init;have q3:=h1.thread;have q4:=h1.mod;unfold F1a at q4;omega)
   refine qB a0.q [.o 0] Z ⟨Z,U⟩ (fun C0=>?_) fun C0=>?_
   ·refine lV Z ?_;rintro e0 ⟨b0,d0⟩;refine lU Z Z ⟨⟨_,Z,iF (fun h=>?_)⟩,b0.fin⟩;have h1:=h.1 x (c0a c0)
    (have q1:=h1.w;have q2:=h1.init;have q3:=h1.thread;have q4:=h1.mod;unfold F1a at q4;omega)
   refine qB a0.q [.o 0] Z ⟨Z,U⟩ (fun D0=>?_) fun D0=>?_
   ·refine lV Z ?_;rintro e0 ⟨b0,d0⟩;refine lU Z Z ⟨⟨_,Z,iF (fun h=>?_)⟩,b0.fin⟩;have h1:=h.1 x (c0a c0)
    (have q1:=h1.w;have q2:=h1.init;have q3:=h1.thread;have q4:=h1.mod;unfold F1a at q4;omega)
   refine qO a0.q [.o 0,.o 0] Z ⟨Z,Z,U⟩ (k1a E6a Z Z (fun w1 S1 X1=>g8a _ _) ?_);refine qB1 Z (fun E0=>?_) fun E0=>?_
   ·refine lV Z ?_;rintro e0 ⟨b0,d0⟩;refine lU Z Z ⟨⟨_,Z,iF (fun h=>?_)⟩,b0.fin⟩;have h1:=h.1 x (c0a c0)
    (have q1:=h1.w;have q2:=h1.init;have q3:=h1.thread;have q4:=h1.mod;unfold F1a at q4;omega)
   refine qB a0.q [.o 0] Z ⟨Z,U⟩ (fun F0=>?_) fun F0=>?_
   ·refine lV Z ?_;rintro e0 ⟨b0,d0⟩;refine lU Z Z ⟨⟨_,Z,iF (fun h=>?_)⟩,b0.fin⟩;have h1:=h.1 x (c0a c0)
    (have q1:=h1.w;have q2:=h1.init;have q3:=h1.thread;have q4:=h1.mod;unfold F1a at q4;omega)
   refine qB a0.q [.o 0,.o 1] Z ⟨Z,Z,U⟩ (fun G0=>?_) fun G0=>?_
   ·refine lV Z ?_;rintro e0 ⟨b0,d0⟩;refine lU Z Z ⟨⟨_,Z,iF (fun h=>?_)⟩,b0.fin⟩;have h1:=h.1 x (c0a c0)
    (have q1:=h1.w;have q2:=h1.init;have q3:=h1.thread;have q4:=h1.mod;unfold F1a at q4;omega)
   refine qO a0.q [.o 0,.o 1] Z ⟨Z,Z,U⟩ (H2a e4a Z Z (fun w1 S1 X1=>W9a _ _ _) (fun j0=>?_) fun j0=>?_)
   ·refine lV Z ?_;rintro e0 ⟨b0,d0⟩;refine lC1 Z (wL (fun μj D ε w=>D=[]∧∃j:Nat,(j+μj=(k))∧(Y0a (p.cells) j (fun y=>y.name≠x.name))∧St [] w0 w [(some g4,83,[.string x.name,.int .i64 x.w,.int .i64 x.init,.int .i64 x.thread,.bool x.ghost,.int .i64 x.module_]),(some g1,27,pL Ac nc cc Am nm cm Al nl cl At nt ct)]∧Sl ε [(1,.pointer (some ⟨g1,0,none⟩)),(3,.int .i64 k),(4,.pointer (some ⟨g4,0,none⟩)),(5,.int .i64 j)]) (μ:=(k)) ⟨Z,0,by omega,Y0a.zero,b0,Z⟩ ?_);rintro μj D ε w ⟨rfl,j,_,hn,S,eZ⟩;refine wK eZ (wB1 Z (fun H0=>?_) fun H0=>?_)
    ·refine lC1 Z (y0a b0a [0,1,2,3,4,5,6,7,8] [] [] Z (Cl _ _ _ _) (Cl.start S) ?_);obtain⟨y,z0,J0,_,v0,o0,_,_,q0,t0⟩:=RdS.get (hC) (j) (by omega);obtain⟨rfl,_⟩:=P2a.open_ t0;refine qOn 8 (S.q.a q0) [.o 1,.x z0 J0,.f 0 0,.o 0] Z ⟨Z,Z,⟨o0,by omega⟩,Z,U⟩ (J5b Z Z Z (fun m0=>?_) fun m0=>?_)
     ·refine lV Z ?_;rintro u0 ⟨f0,g0⟩;refine lU Z Z ⟨⟨_,Z,iF (fun h=>?_)⟩,f0.fin⟩;have h1:=h.1 x (c0a c0);exact y7a h.2 v0 c0 (by omega) m0
     refine lV Z ?_;rintro u0 ⟨f0,g0⟩;refine lP1 Z ⟨μj-1,by omega,Z,j+1,by omega,(hn.succ v0 (m0)),f0,Z⟩
    refine lP1 Z ?_;refine⟨μk-1,by omega,Z,k+1,by omega,(hs.succ c0 (⟨Q0a i0,⟨by omega,by omega⟩,⟨by omega,by omega⟩,⟨by omega,by omega⟩,by have:=of_decide_eq_true j0;unfold F1a;omega⟩)),(hp.succ c0 (j:=j) (by omega) hn),S.tail,Z⟩
   refine lV Z ?_;rintro e0 ⟨b0,d0⟩;refine lU Z Z ⟨⟨_,Z,iF (fun h=>?_)⟩,b0.fin⟩;have h1:=h.1 x (c0a c0)
   (have q1:=h1.w;have q2:=h1.init;have q3:=h1.thread;have q4:=h1.mod;unfold F1a at q4;(have q5:=of_decide_eq_false j0;omega))
  refine lV Z ?_;rintro e0 ⟨b0,d0⟩;refine lU Z Z ⟨⟨_,Z,iF (fun h=>?_)⟩,b0.fin⟩;have h1:=h.1 x (c0a c0);exact K0a i0 h1.name
 exact lU Z Z ⟨⟨_,Z,iff_of_true (by omega) ⟨hs.all (by omega),hp.all (by omega)⟩⟩,S.fin⟩
def k5b(p:m0a):Prop:=(∀m∈p.modules,H1c p m)∧p.modules.Pairwise (fun a b=>a.name≠b.name)
theorem p5b(p:m0a)(M:List Nat)(w0:World)(cs:LV)(hP:e1a M w0 p cs)(hN:n8a p)(hM:∀g∈M,g<w0.heap.size):
 A0a prog 113 #[.agg cs.toArray] w0 fun v w'=>(∃a,v=.int .i64 a∧(a=0↔k5b p))∧Bw w0 w':=by
 obtain⟨Ac,nc,cc,Am,nm,cm,Al,nl,cl,At,nt,ct,rfl,hC,m1,_⟩:=hP.open_;have S:=St.refl w0;refine a0a func113 Z ntmps113 Z ?_;refine wO1 Z (o0a S Z ?_);intro g1 w1 S1 X1 G1;refine lC1 Z (wL (fun μk D ε w=>D=[]∧∃k:Nat,(k+μk=(p.modules.length))∧(Y0a (p.modules) k (fun x=>H1c p x))∧(w3a p.modules k (fun a b=>a.name≠b.name))∧St [] w0 w [(some g1,27,pL Ac nc cc Am nm cm Al nl cl At nt ct)]∧Sl ε [(1,.pointer (some ⟨g1,0,none⟩)),(3,.int .i64 k)]) (μ:=(p.modules.length)) ⟨Z,0,by omega,Y0a.zero,w3a.zero,S1,Z⟩ ?_);rintro μk D ε w ⟨rfl,k,_,hs,hp,S,eZ⟩;refine wK eZ (wB S.k [.o 0] Z ⟨Z,U⟩ (fun B1=>?_) fun B1=>?_)
 ·obtain⟨x,v1,I1,_,a0,O0,_,Y0,T0,Z0⟩:=RdS.get (m1) (k) (by omega);obtain⟨f0,u0,p0,e0,t0,o0,d0,s0,n0,rfl,y0,x0,r0,_⟩:=f1a.open_ Z0;refine lO (S.k.a T0) [.o 0,.x v1 I1,.v 0] Z ⟨⟨Z,Y0⟩,⟨O0,by omega⟩,Z,U⟩ (g0a S R0d Z Z ?_);intro g4 w4 S4 X4 G4;refine d0a (kk:=0) (vs:=[_,_,_,_,_,_,_,_,_,_,_]) S4 H9c Z Z Z Z Z Z Z ?_;intro R1 g0 s1;dsimp only[e0a,List.set] at g0;refine lO g0.k [.o 0] Z ⟨Z,U⟩ (i0a g0 m3b Z Z (j0b _ _ (hN.mods x (c0a a0)).1) (fun G0 O1 A0 p1=>?_) (fun G0 O1 A0 p1=>?_))
  ·refine lO A0.k [.o 0] Z ⟨Z,U⟩ (i0a A0 m3b Z Z (j0b _ _ (hN.mods x (c0a a0)).2) (fun H0 P1 C0 q1=>?_) (fun H0 P1 C0 q1=>?_))
   ·refine lC1 Z (wL (fun μj D ε w=>D=[]∧∃j:Nat,(j+μj=(k))∧(Y0a (p.modules) j (fun y=>y.name≠x.name))∧St [] w0 w [(some g4,81,[.string x.name,.string x.owner,.int .i64 x.rely.op,.int .i64 x.rely.w,.int .i64 x.rely.n,.slice f0 u0 p0,.int .i64 x.guar.op,.int .i64 x.guar.w,.int .i64 x.guar.n,.slice e0 t0 o0,.slice d0 s0 n0]),(some g1,27,pL Ac nc cc Am nm cm Al nl cl At nt ct)]∧Sl ε [(1,.pointer (some ⟨g1,0,none⟩)),(3,.int .i64 k),(4,.pointer (some ⟨g4,0,none⟩)),(5,.int .i64 j)]) (μ:=(k)) ⟨Z,0,by omega,Y0a.zero,C0,Z⟩ ?_);rintro μj D ε w ⟨rfl,j,_,hn,S,eZ⟩;refine wK eZ (wB1 Z (fun C1=>?_) fun C1=>?_)
    ·refine lC1 Z (y0a b0a [0,1,2,3,4,5,6,7,8] [] [] Z (Cl _ _ _ _) (Cl.start S) ?_);obtain⟨y,x1,J1,_,o1,P0,_,_,U0,a1⟩:=RdS.get (m1) (j) (by omega);obtain⟨_,_,_,_,_,_,_,_,_,rfl,_⟩:=f1a.open_ a1;refine qOn 8 (S.q.a U0) [.o 1,.x x1 J1,.f 0 0,.o 0] Z ⟨Z,Z,⟨P0,by omega⟩,Z,U⟩ (J5b Z Z Z (fun I0=>?_) fun I0=>?_)
     ·refine lV Z ?_;rintro j1 ⟨m0,F0⟩;refine lU Z Z ⟨⟨_,Z,iF (fun h=>?_)⟩,m0.fin⟩;have h1:=h.1 x (c0a a0);exact y7a h.2 o1 a0 (by omega) I0
     refine lV Z ?_;rintro j1 ⟨m0,F0⟩;refine lP1 Z ⟨μj-1,by omega,Z,j+1,by omega,(hn.succ o1 (I0)),m0,Z⟩
    refine lCn 5 S.k [] Z U (wX (fun D ε w=>D=[]∧(x.rely.absent∨n6a p.cells x.rely true (-1))∧(n6a p.cells x.guar true (-1))∧St [] w0 w [(some g4,81,[.string x.name,.string x.owner,.int .i64 x.rely.op,.int .i64 x.rely.w,.int .i64 x.rely.n,.slice f0 u0 p0,.int .i64 x.guar.op,.int .i64 x.guar.w,.int .i64 x.guar.n,.slice e0 t0 o0,.slice d0 s0 n0]),(some g1,27,pL Ac nc cc Am nm cm Al nl cl At nt ct)]∧Sl ε [(1,.pointer (some ⟨g1,0,none⟩)),(3,.int .i64 k),(4,.pointer (some ⟨g4,0,none⟩))]) ?_ ?_)
    ·refine wO S.k [.o 0] Z ⟨Z,U⟩ (i0a S r8c Z Z (s7b _ M _ _ (RdE.keep (S.keep0 M) _ _ y0)) (fun J0 Q1 b0 r1=>?_) (fun J0 Q1 b0 r1=>?_))
     ·refine lO b0.k [.w 1,.o 0] Z ⟨Z,⟨Z,Z⟩,U⟩ ?_;refine i0a b0 A1b Z Z (V5a p _ M _ _ _ true (-1) (hP.keep (b0.keep0 M)) (RdE.keep (b0.keep0 M) _ _ x0) (fun g hg=>by have:=hM g hg;have:=b0.size;omega)) (fun q0 i1 j0 E0=>?_) (fun q0 i1 j0 E0=>?_)
      ·refine lP0 Z U ⟨Z,?_,(Q0a q0),j0,Z⟩;exact .inl (Q0a J0)
      refine lU Z Z ⟨⟨_,Z,iF (fun h=>?_)⟩,j0.fin⟩;have h1:=h.1 x (c0a a0);exact K0a q0 h1.guar
     refine lO b0.k [.w 1,.o 0] Z ⟨Z,⟨Z,Z⟩,U⟩ ?_;refine i0a b0 A1b Z Z (V5a p _ M _ _ _ true (-1) (hP.keep (b0.keep0 M)) (RdE.keep (b0.keep0 M) _ _ y0) (fun g hg=>by have:=hM g hg;have:=b0.size;omega)) (fun K0 T1 i0 t1=>?_) (fun K0 T1 i0 t1=>?_)
     ·refine lO i0.k [.w 1,.o 0] Z ⟨Z,⟨Z,Z⟩,U⟩ ?_;refine i0a i0 A1b Z Z (V5a p _ M _ _ _ true (-1) (hP.keep (i0.keep0 M)) (RdE.keep (i0.keep0 M) _ _ x0) (fun g hg=>by have:=hM g hg;have:=i0.size;omega)) (fun q0 i1 j0 E0=>?_) (fun q0 i1 j0 E0=>?_)
      ·refine lP0 Z U ⟨Z,?_,(Q0a q0),j0,Z⟩;exact .inr (Q0a K0)
      refine lU Z Z ⟨⟨_,Z,iF (fun h=>?_)⟩,j0.fin⟩;have h1:=h.1 x (c0a a0);exact K0a q0 h1.guar
     refine lU Z Z ⟨⟨_,Z,iF (fun h=>?_)⟩,i0.fin⟩;have h1:=h.1 x (c0a a0);exact h1.rely.elim (K0a J0) (K0a K0)
    rintro D ε w ⟨rfl,H1,F1,S,eZ⟩;refine wK eZ (wC1 Z ?_);refine wL (fun μi D ε w=>D=[]∧∃i:Nat,(i+μi=(x.frame.length))∧(Y0a (x.frame) i (fun z=>F1a z p.cells.length∧u1a p.cells z=-1))∧St [] w0 w [(some g4,81,[.string x.name,.string x.owner,.int .i64 x.rely.op,.int .i64 x.rely.w,.int .i64 x.rely.n,.slice f0 u0 p0,.int .i64 x.guar.op,.int .i64 x.guar.w,.int .i64 x.guar.n,.slice e0 t0 o0,.slice d0 s0 n0]),(some g1,27,pL Ac nc cc Am nm cm Al nl cl At nt ct)]∧Sl ε [(1,.pointer (some ⟨g1,0,none⟩)),(3,.int .i64 k),(4,.pointer (some ⟨g4,0,none⟩)),(6,.int .i64 i)]) (μ:=(x.frame.length)) ⟨Z,0,by omega,Y0a.zero,S,Z⟩ ?_;rintro μi D ε w ⟨rfl,i,_,hf,S,eZ⟩;refine wK eZ (wB S.k [.o 0] Z ⟨Z,U⟩ (fun D1=>?_) fun D1=>?_)
    ·refine lC1 Z (y0a b0a [0,1,2,3,4,5,6,7,8,9,10,11,12,13,14,15,16,17,18,19,20,21,22] [] [] Z (Cl _ _ _ _) (Cl.start S) ?_);obtain⟨z,y1,K1,_,B0,Q0,_,_,V0,b1⟩:=RdS.get (r0) (i) (by omega);obtain⟨rfl,_⟩:=id b1;refine qO (S.q.a V0) [.o 0,.x y1 K1,.f 0 0,.o 1] Z ⟨Z,Z,⟨Q0,by omega⟩,Z,U⟩ (H2a e4a Z Z (fun w1 S1 X1=>W9a _ _ _) (fun L0=>?_) fun L0=>?_)
     ·obtain⟨_,z1,M1,_,f1,R0,_,_,W0,c1⟩:=RdS.get (r0) (i) (by omega);obtain rfl:=Option.some.inj (B0.symm.trans f1);obtain⟨rfl,_⟩:=id c1;have V1:=of_decide_eq_true L0;obtain⟨_,A1,N1,_,n1,S0,_,_,X0,d1⟩:=RdS.get (hC) (z.toNat) (by omega);obtain⟨rfl,_⟩:=P2a.open_ d1;refine qB ((S.q.a X0).a W0) [.o 1,.o 0,.x z1 M1,.f 0 0,.x A1 N1,.f 1 3] Z ⟨Z,⟨S0,by omega⟩,Z,⟨R0,by omega⟩,Z,Z,U⟩ (fun E1=>?_) fun E1=>?_
      ·refine lV Z ?_;rintro z0 ⟨c0,v0⟩;refine lU Z Z ⟨⟨_,Z,iF (fun h=>?_)⟩,c0.fin⟩;have h1:=h.1 x (c0a a0)
       (have q:=(h1.frame z (c0a B0)).2;rw[j1a n1] at q;omega)
      refine lV Z ?_;rintro z0 ⟨c0,v0⟩;refine lP1 Z ?_;refine⟨μi-1,by omega,Z,i+1,by omega,(hf.succ B0 (⟨by unfold F1a;omega,by rw[j1a n1];omega⟩)),c0,Z⟩
     refine lV Z ?_;rintro z0 ⟨c0,v0⟩;refine lU Z Z ⟨⟨_,Z,iF (fun h=>?_)⟩,c0.fin⟩;have h1:=h.1 x (c0a a0)
     (have q:=h1.frame z (c0a B0);unfold F1a at q;have q5:=of_decide_eq_false L0;omega)
    refine lO S.k [.o 0] Z ⟨Z,U⟩ (i0a S m3c Z Z (H4b M _ _ _ (r0.keep (S.keep0 M))) (fun N0 U1 D0 u1=>?_) (fun N0 U1 D0 u1=>?_))
    ·refine lP1 Z ⟨μk-1,by omega,Z,k+1,by omega,?_,(hp.succ a0 (j:=j) (by omega) hn),D0.tail,Z⟩;exact hs.succ a0 ⟨Q0a G0,Q0a H0,H1,F1,hf.all (by omega),Q0a N0⟩
    refine lU Z Z ⟨⟨_,Z,iF (fun h=>?_)⟩,D0.fin⟩;have h1:=h.1 x (c0a a0);exact K0a N0 h1.up
   refine lU Z Z ⟨⟨_,Z,iF (fun h=>?_)⟩,C0.fin⟩;have h1:=h.1 x (c0a a0);exact K0a H0 h1.owner
  refine lU Z Z ⟨⟨_,Z,iF (fun h=>?_)⟩,A0.fin⟩;have h1:=h.1 x (c0a a0);exact K0a G0 h1.name
 exact lU Z Z ⟨⟨_,Z,iff_of_true (by omega) ⟨hs.all (by omega),hp.all (by omega)⟩⟩,S.fin⟩
def e1b(p:m0a):Prop:=(∀l∈p.locks,w4b p l)∧p.locks.Pairwise (fun a b=>a.cell≠b.cell)
theorem z9b(p:m0a)(M:List Nat)(w0:World)(cs:LV)(hP:e1a M w0 p cs)(hM:∀g∈M,g<w0.heap.size):
 A0a prog 114 #[.agg cs.toArray] w0 fun v w'=>(∃a,v=.int .i64 a∧(a=0↔e1b p))∧Bw w0 w':=by
 obtain⟨Ac,nc,cc,Am,nm,cm,Al,nl,cl,At,nt,ct,rfl,hC,_,G0,_⟩:=hP.open_;have S:=St.refl w0;refine a0a func114 Z ntmps114 Z ?_;refine wO1 Z (o0a S Z ?_);intro g1 w1 S1 X1 G1;refine lC1 Z (wL (fun μk D ε w=>D=[]∧∃k:Nat,(k+μk=(p.locks.length))∧(Y0a (p.locks) k (fun x=>w4b p x))∧(w3a p.locks k (fun a b=>a.cell≠b.cell))∧St [] w0 w [(some g1,27,pL Ac nc cc Am nm cm Al nl cl At nt ct)]∧Sl ε [(1,.pointer (some ⟨g1,0,none⟩)),(3,.int .i64 k)]) (μ:=(p.locks.length)) ⟨Z,0,by omega,Y0a.zero,w3a.zero,S1,Z⟩ ?_);rintro μk D ε w ⟨rfl,k,_,hs,hp,S,eZ⟩;refine wK eZ (wB S.k [.o 0] Z ⟨Z,U⟩ (fun Q0=>?_) fun Q0=>?_)
 ·obtain⟨x,N0,U0,_,c0,t0,_,A0,y0,B0⟩:=RdS.get (G0) (k) (by omega);obtain⟨i0,E0,o0,rfl,_,_,x0⟩:=X5a.open_ B0;refine lO (S.k.a y0) [.o 0,.x N0 U0,.v 0] Z ⟨⟨Z,A0⟩,⟨t0,by omega⟩,Z,U⟩ (g0a S I7c Z Z ?_);intro g4 w4 S4 X4 G4;refine d0a (kk:=0) (vs:=[_,_,_,_,_,_]) S4 y6c Z Z Z Z Z Z Z ?_;intro Y0 f0 J0;dsimp only[e0a,List.set] at f0;refine lO f0.k [.o 0,.o 1] Z ⟨Z,Z,U⟩ (i0a f0 e4a Z Z (W9a _ _ _) (fun p0 X0 a0 I0=>?_) (fun p0 X0 a0 I0=>?_))
  ·have b1:=of_decide_eq_true p0;obtain⟨c,O0,V0,_,b0,u0,_,_,e0,C0⟩:=RdS.get (hC) (x.cell.toNat) (by omega);obtain⟨rfl,_⟩:=P2a.open_ C0;refine lB (a0.k.a e0) [.o 1,.o 0,.x O0 V0,.f 0 3] Z ⟨Z,⟨u0,by omega⟩,Z,Z,U⟩ (fun R0=>?_) fun R0=>?_
   ·refine lU Z Z ⟨⟨_,Z,iF (fun h=>?_)⟩,a0.fin⟩;have h1:=h.1 x (c0a c0)
    (have q:=h1.cell;rw[j1a b0,c5a b0,y2a b0] at q;omega)
   refine lO a0.k [.o 1,.o 0] Z ⟨Z,Z,U⟩ (N0a v6a.slT Z (by assumption) Z Z ?_);refine lO1 Z (G0a E0a Z (by exact a0.old (e0 _ _ Z)) Z ?_);refine lB1 Z (fun S0=>?_) fun S0=>?_
   ·refine lU Z Z ⟨⟨_,Z,iF (fun h=>?_)⟩,a0.fin⟩;have h1:=h.1 x (c0a c0)
    (have q:=h1.cell;rw[j1a b0,c5a b0,y2a b0] at q;omega)
   refine lO a0.k [.o 1,.o 0] Z ⟨Z,Z,U⟩ (N0a v6a.slT Z (by assumption) Z Z ?_);refine lO1 Z ?_;cases d0:c.ghost
   ·refine G0a E2a Z (by exact(a0.old (e0 _ _ Z)).trans (congrArg (fun b=>some (Value.bool b)) d0)) Z ?_;refine lO a0.k [.o 0,.o 1] Z ⟨Z,Z,U⟩ (i0a a0 e4a Z Z (W9a _ _ _) (fun q0 Z0 j0 K0=>?_) (fun q0 Z0 j0 K0=>?_))
    ·refine lC1 Z (wL (fun μj D ε w=>D=[]∧∃j:Nat,(j+μj=(k))∧(Y0a (p.locks) j (fun y=>y.cell≠x.cell))∧St [] w0 w [(some g4,103,[.int .i64 x.cell,.int .i64 x.inv.op,.int .i64 x.inv.w,.int .i64 x.inv.n,.slice i0 E0 o0,.int .i64 x.module_]),(some g1,27,pL Ac nc cc Am nm cm Al nl cl At nt ct)]∧Sl ε [(1,.pointer (some ⟨g1,0,none⟩)),(3,.int .i64 k),(4,.pointer (some ⟨g4,0,none⟩)),(5,.int .i64 j)]) (μ:=(k)) ⟨Z,0,by omega,Y0a.zero,j0,Z⟩ ?_);rintro μj D ε w ⟨rfl,j,_,hn,S,eZ⟩;refine wK eZ (wB1 Z (fun T0=>?_) fun T0=>?_)
     ·refine lC1 Z (y0a b0a [0,1,2,3,4,5,6,7,8] [] [] Z (Cl _ _ _ _) (Cl.start S) ?_);obtain⟨y,P0,W0,_,H0,v0,_,_,z0,D0⟩:=RdS.get (G0) (j) (by omega);obtain⟨_,_,_,rfl,_⟩:=X5a.open_ D0;refine qB (S.q.a z0) [.o 1,.x P0 W0,.f 0 0,.o 0] Z ⟨Z,Z,⟨v0,by omega⟩,Z,U⟩ (fun r0=>?_) fun r0=>?_
      ·refine lV Z ?_;rintro F0 ⟨g0,n0⟩;refine lU Z Z ⟨⟨_,Z,iF (fun h=>?_)⟩,g0.fin⟩;have h1:=h.1 x (c0a c0);exact y7a h.2 H0 c0 (by omega) r0
      refine lV Z ?_;rintro F0 ⟨g0,n0⟩;refine lP1 Z ⟨μj-1,by omega,Z,j+1,by omega,(hn.succ H0 (r0)),g0,Z⟩
     refine lO S.k [.w 1,.o 0] Z ⟨Z,⟨Z,Z⟩,U⟩ ?_;refine i0a S A1b Z Z (V5a p _ M _ _ _ false (-1) (hP.keep (S.keep0 M)) (RdE.keep (S.keep0 M) _ _ x0) (fun g hg=>by have:=hM g hg;have:=S.size;omega)) (fun s0 a1 m0 L0=>?_) (fun s0 a1 m0 L0=>?_)
     ·refine lP1 Z ?_;refine⟨μk-1,by omega,Z,k+1,by omega,(hs.succ c0 (⟨⟨by unfold F1a;omega,by rw[j1a b0];omega,by rw[c5a b0];omega,by rw[y2a b0];exact d0⟩,by have:=of_decide_eq_true q0;unfold F1a;omega,Q0a s0⟩)),(hp.succ c0 (j:=j) (by omega) hn),m0.tail,Z⟩
     refine lU Z Z ⟨⟨_,Z,iF (fun h=>?_)⟩,m0.fin⟩;have h1:=h.1 x (c0a c0);exact K0a s0 h1.inv
    refine lU Z Z ⟨⟨_,Z,iF (fun h=>?_)⟩,j0.fin⟩;have h1:=h.1 x (c0a c0)
    (have q:=h1.mod;unfold F1a at q;have q5:=of_decide_eq_false q0;omega)
   refine G0a E2a Z (by exact(a0.old (e0 _ _ Z)).trans (congrArg (fun b=>some (Value.bool b)) d0)) Z ?_;refine lU Z Z ⟨⟨_,Z,iF (fun h=>?_)⟩,a0.fin⟩;have h1:=h.1 x (c0a c0)
   (have q:=h1.cell;rw[j1a b0,c5a b0,y2a b0] at q;(rw[d0] at q;cases q.2.2.2))
  refine lU Z Z ⟨⟨_,Z,iF (fun h=>?_)⟩,a0.fin⟩;have h1:=h.1 x (c0a c0)
  (have q:=h1.cell;unfold F1a at q;have q5:=of_decide_eq_false p0;omega)
 exact lU Z Z ⟨⟨_,Z,iff_of_true (by omega) ⟨hs.all (by omega),hp.all (by omega)⟩⟩,S.fin⟩
theorem c9a{P:Program}{fn:Func}{e:Env}{w:World}{a t n g:Nat}{cs:LV}(h:fn.results=#[.cell a t])(hM:M8a P t n)(ha:e a=.pointer (some ⟨g,0,none⟩))(hc:Cells w g 0 cs)(hn:cs.length=n)
 {tmps:Array Value} (he:P0a { tmps,defers:=[] }=e):(results fn tmps).run P w=.ok (.agg cs.toArray) w:=by
 subst he;subst hn;simp only[P0a,Array.getD_eq_getD_getElem?] at ha;have:=run_loadCells_list (P:=P) w ⟨g,0,none⟩ cs (fun j v hj=>by rw[Addr.add_lit];exact hc j v hj);simp[results,h,asAddr,ha,hM w,this]
theorem t0a{P:Program}{fn:Func}{e:Env}{w:World}{R:Value→World→Prop}{a t n g:Nat}{cs:LV}(h:fn.results=#[.cell a t])(hM:M8a P t n)(ha:e a=.pointer (some ⟨g,0,none⟩))(hc:Cells w g 0 cs)(hn:cs.length=n)
 (hR:R (.agg cs.toArray) w):g4a P fn R [] e w :=
 ⟨Z,fun _ he=>⟨_,c9a h hM ha hc hn he,hR⟩⟩
theorem L0a{P:Program}{fn:Func}{e:Env}{w:World}{R:Value→World→Prop}{a t n g u:Nat}{cs:LV}{v:Value}(h:fn.results=#[.cell a t,.tmp u])(hM:M8a P t n)(ha:e a=.pointer (some ⟨g,0,none⟩))(hc:Cells w g 0 cs)(hn:cs.length=n)(hu:e u=v)
 (hR:R (.tuple #[.agg cs.toArray,v]) w):g4a P fn R [] e w:=by
 refine⟨Z,fun tmps he=>⟨_,?_,hR⟩⟩;subst he;subst hn;subst hu;simp only[P0a,Array.getD_eq_getD_getElem?] at ha;have:=run_loadCells_list (P:=P) w ⟨g,0,none⟩ cs (fun j v hj=>by rw[Addr.add_lit];exact hc j v hj);simp[results,h,asAddr,ha,hM w,this,P0a]
theorem m1a{M:List Nat}{w:World}{op wd n:Int}(h1:i64 op)(h2:i64 wd)(h3:i64 n):RdE M w ⟨op,wd,n,[]⟩ [.int .i64 op,.int .i64 wd,.int .i64 n,.slice none 0 0]:=by
 rw[RdE];exact⟨none,0,0,Z,h1,h2,h3,Z,Nat.le_refl _,by unfold maxLen;omega,by omega,fun h=>absurd h (by omega)⟩
theorem X3b{M:List Nat}{w:World}{op wd:Int}{a b:E}{ca cb:LV}{g:Nat}(h1:i64 op)(h2:i64 wd)(hg:g∉M)(hc:Cells w g 0 (ca++cb))(ha:RdE M w a ca)(hb:RdE M w b cb):
 RdE M w ⟨op,wd,0,[a,b]⟩ [.int .i64 op,.int .i64 wd,.int .i64 0,.slice (some ⟨g,0,none⟩) 2 2]:=by
 have la:=ha.length;rw[RdE];refine⟨_,2,2,Z,h1,h2,by unfold i64;simp,Z,Nat.le_refl _,by unfold maxLen;omega,by omega,fun _=>⟨g,0,Z,hg,fun i hi=>?_⟩⟩;have a0:i<2:=hi;rcases(show i=0∨i=1 by omega) with rfl|rfl
 ·refine⟨ca,fun j v hj=>?_,ha⟩;have hl:j<ca.length:=(List.getElem?_eq_some_iff.1 hj).1;have:=hc j v (by rw[List.getElem?_append_left hl];exact hj);simpa using this
 ·refine⟨cb,fun j v hj=>?_,hb⟩;have:=hc (4+j) v (by rw[List.getElem?_append_right (by omega)];simpa[la] using hj);simpa using this
theorem K9a.val{p:m0a}{t:Int}{s:i2a}(h:K9a p t s){k:Nat}{a:o3a}(hx:s.set[k]?=some a)(ho:0<k∨s.kind≠2):v4a p.cells a.to (decide (s.kind=4)) t:=by
 obtain⟨h1,rfl⟩:=List.getElem?_eq_some_iff.1 hx;exact h.vals k h1 ho
theorem Z9a{α:Type}{l l':List α}{a b:α}{i:Nat}(e:l=a::l')(hx:l[i]?=some b)(hi:1≤i:=by omega):b∈l':=by
 subst e;obtain⟨j,rfl⟩:∃j,i=j+1:=⟨i-1,by omega⟩;exact List.mem_of_getElem? (by simpa using hx)
theorem C5a{α:Type}{l l':List α}{a b:α}(e:l=a::l')(hx:l[0]?=some b):a=b:=by subst e;simpa using hx
theorem S7c(n wd:Int)(w0:World):A0a prog 39 #[.int .i64 n,.int .i64 wd] w0 fun v w'=>v=.agg #[.int .i64 1,.int .i64 wd,.int .i64 n,.slice none 0 0]∧Bw w0 w':=by
 have S:=St.refl w0;refine a0a func39 Z ntmps39 Z ?_;refine wO1 Z (g0a S X1a Z Z ?_);intro g4 w4 S4 X4 G4;refine lO1 Z (s0a s1a (vs:=[(0,.int .i64 _),(1,.int .i64 _),(2,.int .i64 _)]) (cs:=[_,_,_,_]) Z Z Z Z ?_)
 first|refine d0a (kk:=0) (vs:=[_,_,_,_]) S4 h1a Z Z Z Z Z Z Z ?_
 intro c0 a0 b0;dsimp only[e0a,List.set] at a0;exact lR1 Z (t0a Z D0a Z (a0.cells 0 Z) Z ⟨Z,a0.fin⟩)
theorem q5c(w0:World):A0a prog 256 #[] w0 fun v w'=>v=.agg #[.int .i64 1,.int .i64 1,.int .i64 1,.slice none 0 0]∧Bw w0 w':=by
 have S:=St.refl w0;refine a0a func256 Z ntmps256 Z ?_;refine wO1 Z (g0a S X1a Z Z ?_);intro g0 w0 S0 X0 G0;refine lO1 Z (r0a S0 Q8b Z Z (S7c 1 1 _) ?_);intro w1 S1 X1
 first|refine d0a (kk:=0) (vs:=[_,_,_,_]) S1 h1a Z Z Z Z Z Z Z ?_
 intro c0 a0 b0;dsimp only[e0a,List.set] at a0;exact lR1 Z (t0a Z D0a Z (a0.cells 0 Z) Z ⟨Z,a0.fin⟩)
theorem C6a:∀(a:E) (b:E) (M:List Nat) (w0:World) (ca cb:LV),RdE M w0 a ca→RdE M w0 b cb →
 A0a prog 15 #[.agg ca.toArray,.agg cb.toArray] w0 fun v w'=>v=.bool (dec (a=b))∧Bw w0 w':=by
 intro a
 induction a using E.induct with
 | _ a ih =>
 intro b M w0 ca cb ha hb;obtain⟨A,n,c,rfl,_⟩:=ha.cells;obtain⟨B,m,d,rfl,_⟩:=hb.cells;have y0:=ha.kidsRd;have z0:=hb.kidsRd;have S:=St.refl w0;refine a0a func15 Z ntmps15 Z ?_;refine wO1 Z (o0a S Z ?_);intro g2 w2 S2 X2 G2;refine o0a S2 Z ?_;intro g3 w3 S3 X3 G3;refine lB S3.k [.o 1,.o 0] Z ⟨Z,Z,U⟩ (fun s0=>?_) fun s0=>?_
 ·refine lU Z Z ?_;refine⟨C0a (fun h=>?_),S3.fin⟩;subst h;omega
 refine lB S3.k [.o 1,.o 0] Z ⟨Z,Z,U⟩ (fun t0=>?_) fun t0=>?_
 ·refine lU Z Z ?_;refine⟨C0a (fun h=>?_),S3.fin⟩;subst h;omega
 refine lB S3.k [.o 1,.o 0] Z ⟨Z,Z,U⟩ (fun u0=>?_) fun u0=>?_
 ·refine lU Z Z ?_;refine⟨C0a (fun h=>?_),S3.fin⟩;subst h;omega
 refine lB S3.k [.o 1,.o 0] Z ⟨Z,Z,U⟩ (fun v0=>?_) fun v0=>?_
 ·refine lU Z Z ?_;refine⟨C0a (fun h=>?_),S3.fin⟩;subst h;omega
 refine lC1 Z (wL (fun μk D ε w=>D=[]∧∃k:Nat,(k+μk=(a.kids.length))∧(a.kids.take k=b.kids.take k)∧St [] w0 w [(some g3,37,[.int .i64 b.op,.int .i64 b.w,.int .i64 b.n,.slice B m d]),(some g2,37,[.int .i64 a.op,.int .i64 a.w,.int .i64 a.n,.slice A n c])]∧Sl ε [(2,.pointer (some ⟨g2,0,none⟩)),(3,.pointer (some ⟨g3,0,none⟩)),(5,.int .i64 k)]) (μ:=(a.kids.length)) ⟨Z,0,by omega,by simp,S3,Z⟩ ?_);rintro μk D ε w ⟨rfl,k,_,hs,S,eZ⟩;refine wK eZ (wB S.k [.o 1] Z ⟨Z,U⟩ (fun x0=>?_) fun x0=>?_)
 ·refine lC1 Z (y0a b0a [0,1,2,3,4,5,6,7,8,9,10,11] [] [] Z (Cl _ _ _ _) (Cl.start S) ?_);obtain⟨x,q0,A0,_,n0,e0,_,j0,g0,a0⟩:=RdS.get (y0) (k) (by omega);obtain⟨_,_,_,rfl,_⟩:=RdE.cells a0;obtain⟨y,r0,B0,_,o0,f0,_,m0,i0,b0⟩:=RdS.get (z0) (k) (by omega);obtain⟨_,_,_,rfl,_⟩:=RdE.cells b0;refine qO ((S.q.a i0).a g0) [.o 1,.x q0 A0,.v 0,.o 0,.x r0 B0,.v 1] Z ⟨⟨Z,m0⟩,⟨f0,by omega⟩,Z,⟨Z,j0⟩,⟨e0,by omega⟩,Z,U⟩ (H2a E2b Z Z (fun w1 S1 X1=>ih x (c0a n0) y M _ _ _ (RdE.keep (S1.keep0 M) _ _ a0) (RdE.keep (S1.keep0 M) _ _ b0)) (fun d0=>?_) fun d0=>?_)
  ·refine lV Z ?_;rintro C0 ⟨c0,p0⟩;refine lP1 Z ⟨μk-1,by omega,Z,k+1,by omega,((by rw[u0a n0,u0a o0,hs,Q0a d0])),c0,Z⟩
  refine lV Z ?_;rintro C0 ⟨c0,p0⟩;refine lU Z Z ?_;refine⟨C0a (fun h=>K0a d0 ?_),c0.fin⟩;subst h;rw[n0] at o0;exact Option.some.inj o0
 refine lU Z Z ?_;refine⟨H1a (E.ext (by omega) (by omega) (by omega) ?_),S.fin⟩;rwa [List.take_of_length_le (by omega),List.take_of_length_le (by omega)] at hs
theorem z4d{M:List Nat}{w:World}:RdE M w ⟨1,1,1,[]⟩ [.int .i64 1,.int .i64 1,.int .i64 1,.slice none 0 0]:=m1a iO iO iO
theorem J0c(p:m0a)(s:i2a)(t:Int)(M:List Nat)(w0:World)(cs ss:LV)(hP:e1a M w0 p cs)(hS:n2a M w0 ss s)(hM:∀g∈M,g<w0.heap.size)
 (z4:1≤s.kind∧s.kind≤7) (hg:s.guard.valid p.cells false=true) (hs:∀a∈s.set,F1a a.cell p.cells.length∧a.to.valid p.cells false=true) :
 A0a prog 226 #[.agg cs.toArray,.int .i64 t,.agg ss.toArray] w0 fun v w'=>v=.bool (dec (K9a p t s))∧Bw w0 w':=by
 obtain⟨Ac,nc,cc,Am,nm,cm,Al,nl,cl,At,nt,ct,rfl,hC,_,_,o4,_⟩:=hP.open_;obtain⟨Ag,ng,cg,As,ns,o1,rfl,⟨_,_⟩,hG,d0,_⟩:=hS.open_;have S:=St.refl w0;have a3:∀w':World,w0.heap.size≤w'.heap.size→∀g∈M,g<w'.heap.size:=fun w' h g hg=>by have:=hM g hg;omega
 have r0:∀a∈s.set,0≤a.cell∧a.cell<p.cells.length:=fun a ha=>(hs a ha).1;refine a0a func226 Z ntmps226 Z ?_;refine wO1 Z (o0a S Z ?_);intro g3 w3 S3 X3 G3;refine o0a S3 Z ?_;intro g5 w5 S5 X5 G5;refine lOn 15 S5.k [.o 0,.o 0] Z ⟨Z,Z,U⟩ (z3d Z Z Z ?_);refine lO S5.k [.w 1,.o 0] Z ⟨Z,⟨Z,Z⟩,U⟩ (i0a S5 s0b Z Z (N6a p _ M _ _ _ _ false t (hP.keep (S5.keep0 M)) (RdE.keep (S5.keep0 M) _ _ hG) (a3 _ S5.size) hg) (fun E0 u4 p2 W3=>?_) (fun E0 u4 p2 W3=>?_))
 ·refine lC1 Z (wL (fun μk D ε w=>D=[]∧∃k:Nat,(k+μk=(s.set.length))∧(∀j a,s.set[j]?=some a→j<k→0<j∨s.kind≠2→v4a p.cells a.to (decide (s.kind=4)) t)∧(Y0a (s.set) k (fun a=>u1a p.cells a.cell=t∨u1a p.cells a.cell=-1))∧St [] w0 w [(some g5,60,[.int .i64 s.kind,.int .i64 s.frm,.int .i64 s.to,.int .i64 s.guard.op,.int .i64 s.guard.w,.int .i64 s.guard.n,.slice Ag ng cg,.slice As ns o1,.bool s.release,.int .i64 s.target,.int .i64 s.module_]),(some g3,27,pL Ac nc cc Am nm cm Al nl cl At nt ct)]∧Sl ε [(1,.int .i64 t),(3,.pointer (some ⟨g3,0,none⟩)),(5,.pointer (some ⟨g5,0,none⟩)),(7,.int .i64 ns),(8,.bool (decide (s.kind=4))),(9,.int .i64 k)]) (μ:=(s.set.length)) ⟨Z,0,by omega,(fun j a _ h=>absurd h (by omega)),Y0a.zero,p2,Z⟩ ?_);rintro μk D ε w ⟨rfl,k,hk,hv,hc,S,eZ⟩;refine wK eZ (wB1 Z (fun g4=>?_) fun g4=>?_)
  ·refine lCn 7 S.k [] Z U (wX (fun D ε w=>D=[]∧(∀a',s.set[k]?=some a'→0<k∨s.kind≠2→v4a p.cells a'.to (decide (s.kind=4)) t)∧St [] w0 w [(some g5,60,[.int .i64 s.kind,.int .i64 s.frm,.int .i64 s.to,.int .i64 s.guard.op,.int .i64 s.guard.w,.int .i64 s.guard.n,.slice Ag ng cg,.slice As ns o1,.bool s.release,.int .i64 s.target,.int .i64 s.module_]),(some g3,27,pL Ac nc cc Am nm cm Al nl cl At nt ct)]∧Sl ε [(1,.int .i64 t),(3,.pointer (some ⟨g3,0,none⟩)),(5,.pointer (some ⟨g5,0,none⟩)),(7,.int .i64 ns),(8,.bool (decide (s.kind=4))),(9,.int .i64 k)]) ?_ ?_)
   ·refine wC1 Z (y0a b0a [0,1,2,3,4,5,6,7,8,9,10,11,12,13,14,15,16,17,18,19] [] [] Z (Cl _ _ _ _) (Cl.start S) ?_);refine qB1 Z (fun h4=>?_) fun h4=>?_
    ·obtain⟨a,I2,I3,d4,e0,W0,b3,n3,Y0,Z0⟩:=RdS.get (d0) (k) (by omega);obtain⟨o2,s3,J2,rfl,r3,X0⟩:=V0a.open_ Z0;refine qO (S.q.a Y0) [.w 1,.o 0,.x I2 I3,.f 0 1] Z ⟨Z,⟨W0,by omega⟩,Z,⟨Z,Z⟩,U⟩ (H2a s0b Z Z (fun w1 S1 X1=>N6a p _ M _ _ _ _ false t (hP.keep (S1.keep0 M)) (RdE.keep (S1.keep0 M) _ _ X0) (a3 _ S1.size) (hs a (c0a e0)).2) (fun V0=>?_) fun V0=>?_)
     ·refine lV Z ?_;rintro n2 ⟨D0,m2⟩;refine lP0 Z U ⟨Z,?_,D0,Z⟩;intro a' x0 g0;rw[e0] at x0;cases x0;exact Q0a V0
     refine lV Z ?_;rintro n2 ⟨D0,m2⟩;refine lU Z Z ⟨C0a (fun h=>?_),D0.fin⟩;exact K0a V0 (h.val e0 (by omega))
    refine qB S.q [.o 0] Z ⟨Z,U⟩ (fun i4=>?_) fun i4=>?_
    ·obtain⟨a,I2,I3,d4,e0,W0,b3,n3,Y0,Z0⟩:=RdS.get (d0) (k) (by omega);obtain⟨o2,s3,J2,rfl,r3,X0⟩:=V0a.open_ Z0;refine qO (S.q.a Y0) [.w 1,.o 0,.x I2 I3,.f 0 1] Z ⟨Z,⟨W0,by omega⟩,Z,⟨Z,Z⟩,U⟩ (H2a s0b Z Z (fun w1 S1 X1=>N6a p _ M _ _ _ _ false t (hP.keep (S1.keep0 M)) (RdE.keep (S1.keep0 M) _ _ X0) (a3 _ S1.size) (hs a (c0a e0)).2) (fun V0=>?_) fun V0=>?_)
     ·refine lV Z ?_;rintro n2 ⟨D0,m2⟩;refine lP0 Z U ⟨Z,?_,D0,Z⟩;intro a' x0 g0;rw[e0] at x0;cases x0;exact Q0a V0
     refine lV Z ?_;rintro n2 ⟨D0,m2⟩;refine lU Z Z ⟨C0a (fun h=>?_),D0.fin⟩;exact K0a V0 (h.val e0 (by omega))
    refine lV Z ?_;rintro n2 ⟨D0,m2⟩;refine lP0 Z U ⟨Z,?_,D0,Z⟩;intro a' x0 g0;exfalso;omega
   rintro D ε w ⟨rfl,R3,S,eZ⟩;refine wK eZ ?_;obtain⟨b,a4,r4,_,a1,X2,_,_,d3,o3⟩:=RdS.get (d0) (k) (by omega);obtain⟨_,_,_,rfl,_⟩:=V0a.open_ o3;refine wO (S.k.a d3) [.o 0,.x a4 r4,.f 0 0,.w 1] Z ⟨⟨Z,Z⟩,Z,⟨X2,by omega⟩,Z,U⟩ (i0a S S2b Z Z (R7b p M _ _ _ t (hP.keep (S.keep0 M)) (r0 b (c0a a1)).1 (r0 b (c0a a1)).2) (fun U2 v4 i1 Y3=>?_) (fun U2 v4 i1 Y3=>?_))
   ·refine lP1 Z ⟨μk-1,by omega,Z,k+1,by omega,?_,?_,i1,Z⟩
    ·intro j a' x0 hj g0;by_cases m3:j=k
     ·subst m3;exact R3 a' x0 g0
     ·exact hv j a' x0 (by omega) g0
    ·refine hc.succ a1 ?_;exact .inl (of_decide_eq_true U2)
   refine lO i1.k [.w 1] Z ⟨⟨Z,Z⟩,U⟩ (i0a i1 e7b Z Z (K0b p M _ _ _ (hP.keep (i1.keep0 M)) (r0 b (c0a a1)).1 (r0 b (c0a a1)).2) (fun V2 w4 q2 Z3=>?_) (fun V2 w4 q2 Z3=>?_))
   ·refine lP1 Z ⟨μk-1,by omega,Z,k+1,by omega,?_,?_,q2,Z⟩
    ·intro j a' x0 hj g0;by_cases m3:j=k
     ·subst m3;exact R3 a' x0 g0
     ·exact hv j a' x0 (by omega) g0
    ·refine hc.succ a1 ?_;exact .inr (of_decide_eq_true V2)
   refine lU Z Z ⟨C0a (fun h=>?_),q2.fin⟩;exact(h.cells b (c0a a1)).elim (of_decide_eq_false U2) (of_decide_eq_false V2)
  refine lB S.k [.o 0] Z ⟨Z,U⟩ (fun j4=>?_) fun j4=>?_
  ·refine lC1 Z (wL (fun μi D ε w=>D=[]∧∃i:Nat,(i+μi=(s.set.length))∧(Y0a (s.set) i (fun a=>u1a p.cells a.cell=t))∧St [] w0 w [(some g5,60,[.int .i64 s.kind,.int .i64 s.frm,.int .i64 s.to,.int .i64 s.guard.op,.int .i64 s.guard.w,.int .i64 s.guard.n,.slice Ag ng cg,.slice As ns o1,.bool s.release,.int .i64 s.target,.int .i64 s.module_]),(some g3,27,pL Ac nc cc Am nm cm Al nl cl At nt ct)]∧Sl ε [(1,.int .i64 t),(3,.pointer (some ⟨g3,0,none⟩)),(5,.pointer (some ⟨g5,0,none⟩)),(7,.int .i64 ns),(11,.int .i64 i)]) (μ:=(s.set.length)) ⟨Z,0,by omega,Y0a.zero,S,Z⟩ ?_);rintro μi D ε w ⟨rfl,i,hi,ho,S,eZ⟩;refine wK eZ (wB1 Z (fun k4=>?_) fun k4=>?_)
   ·refine lC1 Z (y0a b0a [0,1,2,3,4,5,6,7,8,9] [] [] Z (Cl _ _ _ _) (Cl.start S) ?_);obtain⟨a,b4,s4,_,e0,Y2,_,_,h3,p3⟩:=RdS.get (d0) (i) (by omega);obtain⟨_,_,_,rfl,_⟩:=V0a.open_ p3;refine qO (S.q.a h3) [.w 1,.o 0,.x b4 s4,.f 0 0] Z ⟨Z,⟨Y2,by omega⟩,Z,⟨Z,Z⟩,U⟩ (H2a S2b Z Z (fun w1 S1 X1=>R7b p M _ _ _ t (hP.keep (S1.keep0 M)) (r0 a (c0a e0)).1 (r0 a (c0a e0)).2) (fun W2=>?_) fun W2=>?_)
    ·refine lV Z ?_;rintro L3 ⟨L0,t2⟩;refine lP1 Z ⟨μi-1,by omega,Z,i+1,by omega,(ho.succ e0 (of_decide_eq_true W2)),L0,Z⟩
    refine lV Z ?_;rintro L3 ⟨L0,t2⟩;refine lU Z Z ⟨C0a (fun h=>?_),L0.fin⟩;exact of_decide_eq_false W2 (h.k1 (by omega) a (c0a e0))
   refine lU Z Z ?_;refine⟨H1a ⟨Q0a E0,fun i hi g0=>hv i _ (List.getElem?_eq_getElem hi) (by omega) g0,hc.all (by omega),?_,?_,?_,?_,?_,?_⟩,S.fin⟩<;>intro f1;all_goals first
    | (exfalso;omega)
    | exact ho.all (by omega)
  refine lB1 Z (fun m4=>?_) fun m4=>?_
  ·refine lC1 Z (y0a b0a [0,1,2,3,4,5,6,7,8,9,10,11,12,13,14,15,16,17,18,19,20,21,22,23,24] [] [] Z (Cl _ _ _ _) (Cl.start S) ?_);refine qB1 Z (fun n4=>?_) fun n4=>?_
   ·refine lV Z ?_;rintro b1 ⟨j0,O0⟩;refine lU Z Z ⟨C0a (fun h=>?_),j0.fin⟩
    (have hk:=h.k2 (by omega)
     obtain⟨a',l',e1,e2,e3,e4,e5,e6,e7⟩:=hk;have el:s.set.length=l'.length+1:=by rw[e1];rfl
     omega)
   obtain⟨a0,c4,t4,_,b0,Z2,_,_,i3,q3⟩:=RdS.get (d0) (0) (by omega);obtain⟨_,_,_,rfl,_⟩:=V0a.open_ q3;refine qO (S.q.a i3) [.w 1,.o 0,.x c4 t4,.f 0 0] Z ⟨Z,⟨Z2,by omega⟩,Z,⟨Z,Z⟩,U⟩ (H2a S2b Z Z (fun w1 S1 X1=>R7b p M _ _ _ t (hP.keep (S1.keep0 M)) (r0 a0 (c0a b0)).1 (r0 a0 (c0a b0)).2) (fun Q0=>?_) fun Q0=>?_)
   ·obtain⟨_,v2,t3,_,a2,p1,_,_,D1,K1⟩:=RdS.get (d0) (0) (by omega);obtain rfl:=Option.some.inj (b0.symm.trans a2);obtain⟨_,_,_,rfl,_⟩:=V0a.open_ K1;have j3:=r0 a0 (c0a b0);obtain⟨c0,w2,u3,_,B0,q1,_,_,F0,M1⟩:=RdS.get (hC) (a0.cell.toNat) (by omega);obtain⟨rfl,_⟩:=P2a.open_ M1;refine qO (S.q.a D1) [.o 1,.o 0,.x v2 t3,.f 0 0,.x w2 u3] Z ⟨⟨q1,by omega⟩,Z,⟨p1,by omega⟩,Z,Z,U⟩ ?_;rcases(Bool.eq_false_or_eq_true (c0.ghost)).symm with n0|n0
    ·refine j0a E2a Z (fun w1 hw=>by exact(hw.1.old (F0 _ _ Z)).trans (congrArg (fun b=>some (Value.bool b)) n0)) Z ?_;refine lV Z ?_;rintro b1 ⟨j0,O0⟩;obtain⟨_,x2,v3,_,b2,r1,_,_,E1,N1⟩:=RdS.get (d0) (0) (by omega);obtain rfl:=Option.some.inj (b0.symm.trans b2);obtain⟨g1,h2,n1,rfl,_⟩:=V0a.open_ N1;refine lO (j0.k.a E1) [.o 0,.x x2 v3,.f 0 1] Z ⟨Z,⟨r1,by omega⟩,Z,U⟩ (g0a j0 X1a Z Z ?_);intro f4 A4 V3 y4 x4;refine d0a (kk:=0) (vs:=[_,_,_,_]) V3 h1a Z Z Z Z Z Z Z ?_;intro U3 i0 N3;dsimp only[e0a,List.set] at i0;refine lB i0.k [.o 0] Z ⟨Z,U⟩ (fun R0=>?_) fun R0=>?_
     ·refine lU Z Z ⟨C0a (fun h=>?_),i0.fin⟩
      (have hk:=h.k2 (by omega)
       obtain⟨a',l',e1,e2,e3,e4,e5,e6,e7⟩:=hk;have el:s.set.length=l'.length+1:=by rw[e1];rfl
       (obtain rfl:=C5a e1 b0
        exact R0 e4))
     refine lO i0.k [.w 2,.o 0] Z ⟨Z,⟨Z,Z⟩,U⟩ ?_;have O3:=A2b (hs a0 (c0a b0)).2 R0;refine i0a i0 e7b Z Z (K0b p M _ _ _ (hP.keep (i0.keep0 M)) O3.1 O3.2) (fun S0 J3 s0 r2=>?_) (fun S0 J3 s0 r2=>?_)
     ·obtain⟨c1,y2,x3,_,g2,s1,_,_,G0,O1⟩:=RdS.get (hC) (a0.to.n.toNat) (by omega);obtain⟨rfl,_⟩:=P2a.open_ O1;refine lO s0.k [.o 2,.o 0,.x y2 x3] Z ⟨⟨s1,by omega⟩,Z,Z,U⟩ ?_;cases u0:c1.ghost
      ·refine G0a E2a Z (by exact(s0.old (G0 _ _ Z)).trans (congrArg (fun b=>some (Value.bool b)) u0)) Z ?_;refine lC1 Z (wL (fun μi D ε w=>D=[]∧∃i:Nat,(i+μi=max (s.set.length) 1)∧(1≤i)∧(L5a s.set 1 i (fun b=>u1a p.cells b.cell=t∧i9a p.cells b.cell=true))∧St [] w0 w [(some f4,37,[.int .i64 a0.to.op,.int .i64 a0.to.w,.int .i64 a0.to.n,.slice g1 h2 n1]),(some g5,60,[.int .i64 s.kind,.int .i64 s.frm,.int .i64 s.to,.int .i64 s.guard.op,.int .i64 s.guard.w,.int .i64 s.guard.n,.slice Ag ng cg,.slice As ns o1,.bool s.release,.int .i64 s.target,.int .i64 s.module_]),(some g3,27,pL Ac nc cc Am nm cm Al nl cl At nt ct)]∧Sl ε [(1,.int .i64 t),(3,.pointer (some ⟨g3,0,none⟩)),(5,.pointer (some ⟨g5,0,none⟩)),(7,.int .i64 ns),(13,.int .i64 i)]) (μ:=(max (s.set.length) 1-1)) ⟨Z,1,by omega,by omega,L5a.start (by omega),s0,Z⟩ ?_);rintro μi D ε w ⟨rfl,i,hi,p4,ht,S,eZ⟩;refine wK eZ (wB1 Z (fun K2=>?_) fun K2=>?_)
       ·refine lC1 Z (y0a b0a [0,1,2,3,4,5,6,7,8,9,10,11,12,13,14,15,16,17,18,19,20,21,22,23] [] [] Z (Cl _ _ _ _) (Cl.start S) ?_);obtain⟨a,z2,y3,_,e0,t1,_,_,F1,P1⟩:=RdS.get (d0) (i) (by omega);obtain⟨_,_,_,rfl,_⟩:=V0a.open_ P1;refine qO (S.q.a F1) [.w 2,.o 1,.x z2 y3,.f 0 0] Z ⟨Z,⟨t1,by omega⟩,Z,⟨Z,Z⟩,U⟩ (H2a S2b Z Z (fun w1 S1 X1=>R7b p M _ _ _ t (hP.keep (S1.keep0 M)) (r0 a (c0a e0)).1 (r0 a (c0a e0)).2) (fun T0=>?_) fun T0=>?_)
        ·obtain⟨_,A2,z3,_,d2,u1,_,_,G1,Q1⟩:=RdS.get (d0) (i) (by omega);obtain rfl:=Option.some.inj (e0.symm.trans d2);obtain⟨_,_,_,rfl,_⟩:=V0a.open_ Q1;have q4:=r0 a (c0a e0);obtain⟨c2,B2,A3,_,C0,v1,_,_,H0,R1⟩:=RdS.get (hC) (a.cell.toNat) (by omega);obtain⟨rfl,_⟩:=P2a.open_ R1;refine qO (S.q.a G1) [.o 2,.o 1,.x A2 z3,.f 0 0,.x B2 A3] Z ⟨⟨v1,by omega⟩,Z,⟨u1,by omega⟩,Z,Z,U⟩ ?_;rcases(Bool.eq_false_or_eq_true (c2.ghost)).symm with o0|o0
         ·refine j0a E2a Z (fun w1 hw=>by exact(hw.1.old (H0 _ _ Z)).trans (congrArg (fun b=>some (Value.bool b)) o0)) Z ?_;refine lV Z ?_;rintro i2 ⟨y0,j1⟩;refine lU Z Z ⟨C0a (fun h=>?_),y0.fin⟩
          (have hk:=h.k2 (by omega)
           obtain⟨a',l',e1,e2,e3,e4,e5,e6,e7⟩:=hk;have el:s.set.length=l'.length+1:=by rw[e1];rfl
           (obtain rfl:=C5a e1 b0
            (have q:=(e7 a (Z9a e1 e0)).2;rw[y2a C0,o0] at q;cases q;done)))
         refine j0a E2a Z (fun w1 hw=>by exact(hw.1.old (H0 _ _ Z)).trans (congrArg (fun b=>some (Value.bool b)) o0)) Z ?_;refine lV Z ?_;rintro i2 ⟨y0,j1⟩;refine lP1 Z ?_;refine⟨μi-1,by omega,Z,i+1,by omega,by omega,(ht.succ e0 ⟨of_decide_eq_true T0,by rw[y2a C0];exact o0⟩),y0,Z⟩
        refine lV Z ?_;rintro i2 ⟨y0,j1⟩;refine lU Z Z ⟨C0a (fun h=>?_),y0.fin⟩
        (have hk:=h.k2 (by omega)
         obtain⟨a',l',e1,e2,e3,e4,e5,e6,e7⟩:=hk;have el:s.set.length=l'.length+1:=by rw[e1];rfl
         (obtain rfl:=C5a e1 b0
          exact of_decide_eq_false T0 (e7 a (Z9a e1 e0)).1))
       refine lU Z Z ?_;refine⟨H1a ⟨Q0a E0,fun i hi g0=>hv i _ (List.getElem?_eq_getElem hi) (by omega) g0,hc.all (by omega),?_,?_,?_,?_,?_,?_⟩,S.fin⟩<;>intro f1;all_goals first
        | (exfalso;omega)
        | (obtain⟨l,e1,e2⟩:=ht.tail (by omega) b0;exact⟨a0,l,e1,of_decide_eq_true Q0,by rw[y2a B0];exact n0,by omega,of_decide_eq_true S0,by rw[y2a g2];exact u0,e2⟩)
      refine G0a E2a Z (by exact(s0.old (G0 _ _ Z)).trans (congrArg (fun b=>some (Value.bool b)) u0)) Z ?_;refine lU Z Z ⟨C0a (fun h=>?_),s0.fin⟩
      (have hk:=h.k2 (by omega)
       obtain⟨a',l',e1,e2,e3,e4,e5,e6,e7⟩:=hk;have el:s.set.length=l'.length+1:=by rw[e1];rfl
       (obtain rfl:=C5a e1 b0
        (rw[y2a g2,u0] at e6;cases e6;done)))
     refine lU Z Z ⟨C0a (fun h=>?_),s0.fin⟩
     (have hk:=h.k2 (by omega)
      obtain⟨a',l',e1,e2,e3,e4,e5,e6,e7⟩:=hk;have el:s.set.length=l'.length+1:=by rw[e1];rfl
      (obtain rfl:=C5a e1 b0
       exact of_decide_eq_false S0 e5))
    refine j0a E2a Z (fun w1 hw=>by exact(hw.1.old (F0 _ _ Z)).trans (congrArg (fun b=>some (Value.bool b)) n0)) Z ?_;refine lV Z ?_;rintro b1 ⟨j0,O0⟩;refine lU Z Z ⟨C0a (fun h=>?_),j0.fin⟩
    (have hk:=h.k2 (by omega)
     obtain⟨a',l',e1,e2,e3,e4,e5,e6,e7⟩:=hk;have el:s.set.length=l'.length+1:=by rw[e1];rfl
     (obtain rfl:=C5a e1 b0
      (rw[y2a B0,n0] at e3;cases e3;done)))
   refine lV Z ?_;rintro b1 ⟨j0,O0⟩;refine lU Z Z ⟨C0a (fun h=>?_),j0.fin⟩
   (have hk:=h.k2 (by omega)
    obtain⟨a',l',e1,e2,e3,e4,e5,e6,e7⟩:=hk;have el:s.set.length=l'.length+1:=by rw[e1];rfl
    (obtain rfl:=C5a e1 b0
     exact of_decide_eq_false Q0 e2))
  refine lB1 Z (fun L2=>?_) fun L2=>?_
  ·refine lC1 Z (y0a b0a [0,1,2,3,4,5,6,7,8,9,10,11,12,13,14,15,16,17,18,19,20,21,22,23] [] [] Z (Cl _ _ _ _) (Cl.start S) ?_);refine qB1 Z (fun N2=>?_) fun N2=>?_
   ·refine lV Z ?_;rintro d1 ⟨t0,P0⟩;refine lU Z Z ⟨C0a (fun h=>?_),t0.fin⟩
    (have hk:=h.k3 (by omega)
     obtain⟨a',l',e1,e2,e3,e7⟩:=hk;have el:s.set.length=l'.length+1:=by rw[e1];rfl
     omega)
   obtain⟨a0,C2,B3,_,b0,x1,_,_,H1,T1⟩:=RdS.get (d0) (0) (by omega);obtain⟨_,_,_,rfl,_⟩:=V0a.open_ T1;refine qO (S.q.a H1) [.w 1,.o 0,.x C2 B3,.f 0 0] Z ⟨Z,⟨x1,by omega⟩,Z,⟨Z,Z⟩,U⟩ (H2a e7b Z Z (fun w1 S1 X1=>K0b p M _ _ _ (hP.keep (S1.keep0 M)) (r0 a0 (c0a b0)).1 (r0 a0 (c0a b0)).2) (fun U0=>?_) fun U0=>?_)
   ·obtain⟨_,D2,C3,_,f2,y1,_,_,I1,U1⟩:=RdS.get (d0) (0) (by omega);obtain rfl:=Option.some.inj (b0.symm.trans f2);obtain⟨_,_,_,rfl,_⟩:=V0a.open_ U1;have j3:=r0 a0 (c0a b0);obtain⟨c0,E2,D3,_,B0,z1,_,_,I0,V1⟩:=RdS.get (hC) (a0.cell.toNat) (by omega);obtain⟨rfl,_⟩:=P2a.open_ V1;refine qO (S.q.a I1) [.o 1,.o 0,.x D2 C3,.f 0 0,.x E2 D3] Z ⟨⟨z1,by omega⟩,Z,⟨y1,by omega⟩,Z,Z,U⟩ ?_;rcases(Bool.eq_false_or_eq_true (c0.ghost)).symm with p0|p0
    ·refine j0a E2a Z (fun w1 hw=>by exact(hw.1.old (I0 _ _ Z)).trans (congrArg (fun b=>some (Value.bool b)) p0)) Z ?_;refine lV Z ?_;rintro d1 ⟨t0,P0⟩;refine lC1 Z (wL (fun μi D ε w=>D=[]∧∃i:Nat,(i+μi=max (s.set.length) 1)∧(1≤i)∧(L5a s.set 1 i (fun b=>i9a p.cells b.cell=true))∧St [] w0 w [(some g5,60,[.int .i64 s.kind,.int .i64 s.frm,.int .i64 s.to,.int .i64 s.guard.op,.int .i64 s.guard.w,.int .i64 s.guard.n,.slice Ag ng cg,.slice As ns o1,.bool s.release,.int .i64 s.target,.int .i64 s.module_]),(some g3,27,pL Ac nc cc Am nm cm Al nl cl At nt ct)]∧Sl ε [(3,.pointer (some ⟨g3,0,none⟩)),(5,.pointer (some ⟨g5,0,none⟩)),(7,.int .i64 ns),(14,.int .i64 i)]) (μ:=(max (s.set.length) 1-1)) ⟨Z,1,by omega,by omega,L5a.start (by omega),t0,Z⟩ ?_);rintro μi D ε w ⟨rfl,i,hi,p4,ht,S,eZ⟩;refine wK eZ (wB1 Z (fun O2=>?_) fun O2=>?_)
     ·refine lC1 Z (y0a b0a [0,1,2,3,4,5,6,7,8,9,10,11] [] [] Z (Cl _ _ _ _) (Cl.start S) ?_);obtain⟨a,F2,E3,_,e0,A1,_,_,J1,W1⟩:=RdS.get (d0) (i) (by omega);obtain⟨_,_,_,rfl,_⟩:=V0a.open_ W1;have q4:=r0 a (c0a e0);obtain⟨c2,G2,F3,_,C0,B1,_,_,J0,Y1⟩:=RdS.get (hC) (a.cell.toNat) (by omega);obtain⟨rfl,_⟩:=P2a.open_ Y1;refine qO (S.q.a J1) [.o 1,.o 0,.x F2 E3,.f 0 0,.x G2 F3] Z ⟨⟨B1,by omega⟩,Z,⟨A1,by omega⟩,Z,Z,U⟩ ?_;rcases(Bool.eq_false_or_eq_true (c2.ghost)).symm with q0|q0
      ·refine j0a E2a Z (fun w1 hw=>by exact(hw.1.old (J0 _ _ Z)).trans (congrArg (fun b=>some (Value.bool b)) q0)) Z ?_;refine lV Z ?_;rintro M3 ⟨N0,u2⟩;refine lU Z Z ⟨C0a (fun h=>?_),N0.fin⟩
       (have hk:=h.k3 (by omega)
        obtain⟨a',l',e1,e2,e3,e7⟩:=hk;have el:s.set.length=l'.length+1:=by rw[e1];rfl
        (obtain rfl:=C5a e1 b0
         (have q:=e7 a (Z9a e1 e0);rw[y2a C0,q0] at q;cases q;done)))
      refine j0a E2a Z (fun w1 hw=>by exact(hw.1.old (J0 _ _ Z)).trans (congrArg (fun b=>some (Value.bool b)) q0)) Z ?_;refine lV Z ?_;rintro M3 ⟨N0,u2⟩;refine lP1 Z ?_;refine⟨μi-1,by omega,Z,i+1,by omega,by omega,(ht.succ e0 (by rw[y2a C0];exact q0)),N0,Z⟩
     refine lU Z Z ?_;refine⟨H1a ⟨Q0a E0,fun i hi g0=>hv i _ (List.getElem?_eq_getElem hi) (by omega) g0,hc.all (by omega),?_,?_,?_,?_,?_,?_⟩,S.fin⟩<;>intro f1;all_goals first
      | (exfalso;omega)
      | (obtain⟨l,e1,e2⟩:=ht.tail (by omega) b0;exact⟨a0,l,e1,of_decide_eq_true U0,by rw[y2a B0];exact p0,e2⟩)
    refine j0a E2a Z (fun w1 hw=>by exact(hw.1.old (I0 _ _ Z)).trans (congrArg (fun b=>some (Value.bool b)) p0)) Z ?_;refine lV Z ?_;rintro d1 ⟨t0,P0⟩;refine lU Z Z ⟨C0a (fun h=>?_),t0.fin⟩
    (have hk:=h.k3 (by omega)
     obtain⟨a',l',e1,e2,e3,e7⟩:=hk;have el:s.set.length=l'.length+1:=by rw[e1];rfl
     (obtain rfl:=C5a e1 b0
      (rw[y2a B0,p0] at e3;cases e3;done)))
   refine lV Z ?_;rintro d1 ⟨t0,P0⟩;refine lU Z Z ⟨C0a (fun h=>?_),t0.fin⟩
   (have hk:=h.k3 (by omega)
    obtain⟨a',l',e1,e2,e3,e7⟩:=hk;have el:s.set.length=l'.length+1:=by rw[e1];rfl
    (obtain rfl:=C5a e1 b0
     exact of_decide_eq_false U0 e2))
  refine lB1 Z (fun P2=>?_) fun P2=>?_
  ·refine lU Z Z ?_;refine⟨H1a ⟨Q0a E0,fun i hi g0=>hv i _ (List.getElem?_eq_getElem hi) (by omega) g0,hc.all (by omega),?_,?_,?_,?_,?_,?_⟩,S.fin⟩<;>intro f1;all_goals (exfalso;omega)
  refine lC1 Z (y0a b0a [0,1,2,3,4,5,6,7,8] [] [] Z (Cl _ _ _ _) (Cl.start S) ?_);refine qB1 Z (fun Q2=>?_) fun Q2=>?_
  ·refine lV Z ?_;rintro j2 ⟨m0,m1⟩;refine lU Z Z ⟨C0a (fun h=>?_),m0.fin⟩
   (have q:=(h.k5 (by omega)).1;have el:s.set.length=0:=by simp[q]
    omega)
  refine qO S.q [.o 0] Z ⟨Z,U⟩ (k1a T7c Z Z (fun w1 S1 X1=>q5c _) ?_);refine qO1 Z (H2a E2b Z Z (fun w1 S1 X1=>C6a _ ⟨1,1,1,[]⟩ M _ _ _ (RdE.keep (S1.keep0 M) _ _ hG) z4d) (fun z0=>?_) fun z0=>?_)
  ·refine lV Z ?_;rintro j2 ⟨m0,m1⟩;refine lB m0.k [.o 0] Z ⟨Z,U⟩ (fun R2=>?_) fun R2=>?_
   ·refine lU Z Z ?_;refine⟨H1a ⟨Q0a E0,fun i hi g0=>hv i _ (List.getElem?_eq_getElem hi) (by omega) g0,hc.all (by omega),?_,?_,?_,?_,?_,?_⟩,m0.fin⟩<;>intro f1;all_goals first
     | (exfalso;omega)
     | exact⟨List.length_eq_zero_iff.1 (by omega),Q0a z0⟩
   refine lO m0.k [.o 0,.o 1] Z ⟨Z,Z,U⟩ (i0a m0 e4a Z Z (W9a _ _ _) (fun A0 K3 f0 s2=>?_) (fun A0 K3 f0 s2=>?_))
   ·refine lB f0.k [.o 0] Z ⟨Z,U⟩ (fun S2=>?_) fun S2=>?_
    ·refine lB f0.k [.o 0] Z ⟨Z,U⟩ (fun T2=>?_) fun T2=>?_
     ·refine lU Z Z ?_;refine⟨H1a ⟨Q0a E0,fun i hi g0=>hv i _ (List.getElem?_eq_getElem hi) (by omega) g0,hc.all (by omega),?_,?_,?_,?_,?_,?_⟩,f0.fin⟩<;>intro f1;all_goals first
       | (exfalso;omega)
       | exact⟨List.length_eq_zero_iff.1 (by omega),Q0a z0⟩
       | (have P3:=of_decide_eq_true A0;exact⟨by unfold F1a;omega,by omega⟩)
     have P3:=of_decide_eq_true A0;obtain⟨u,H2,H3,_,T3,C1,_,_,K0,Z1⟩:=RdS.get (o4) (s.target.toNat) (by omega);obtain⟨_,_,_,_,_,_,_,_,_,_,_,_,rfl,_⟩:=Z0a.open_ Z1;refine lO f0.k [.o 1,.o 0,.x H2 H3] Z ⟨⟨C1,by omega⟩,Z,Z,U⟩ ?_;cases v0:u.asleep
     ·refine G0a E2a Z (by exact(f0.old (K0 _ _ Z)).trans (congrArg (fun b=>some (Value.bool b)) v0)) Z ?_;refine lU Z Z ⟨C0a (fun h=>?_),f0.fin⟩
      (have q:=h.k7 (by omega) u T3;rw[v0] at q;cases q;done)
     refine G0a E2a Z (by exact(f0.old (K0 _ _ Z)).trans (congrArg (fun b=>some (Value.bool b)) v0)) Z ?_;refine lU Z Z ?_;refine⟨H1a ⟨Q0a E0,fun i hi g0=>hv i _ (List.getElem?_eq_getElem hi) (by omega) g0,hc.all (by omega),?_,?_,?_,?_,?_,?_⟩,f0.fin⟩<;>intro f1;all_goals first
      | (exfalso;omega)
      | exact⟨List.length_eq_zero_iff.1 (by omega),Q0a z0⟩
      | (have P3:=of_decide_eq_true A0;exact⟨by unfold F1a;omega,by omega⟩)
      | (intro u' Q3;rw[T3] at Q3;cases Q3;exact v0)
    refine lU Z Z ⟨C0a (fun h=>?_),f0.fin⟩
    (have q:=(h.k6 (by omega)).2;omega)
   refine lU Z Z ⟨C0a (fun h=>?_),f0.fin⟩
   (have q:=(h.k6 (by omega)).1;unfold F1a at q;have q5:=of_decide_eq_false A0;omega)
  refine lV Z ?_;rintro j2 ⟨m0,m1⟩;refine lU Z Z ⟨C0a (fun h=>?_),m0.fin⟩;exact K0a z0 (h.k5 (by omega)).2
 refine lU Z Z ⟨C0a (fun h=>?_),p2.fin⟩;exact K0a E0 h.guard
theorem n2c(p:m0a)(s:i2a)(x:D1a)(t:Nat)(M:List Nat)(w0:World)(cs ss:LV)(hP:e1a M w0 p cs)(hS:n2a M w0 ss s)(hM:∀g∈M,g<w0.heap.size)
 (hx:p.threads[t]?=some x) (Z1:1≤x.points) (a2:x.points≤48) :
 A0a prog 173 #[.agg cs.toArray,.int .i64 t,.agg ss.toArray] w0 fun v w'=>(∃a,v=.int .i64 a∧(a=0↔d2b p t x.points s))∧Bw w0 w':=by
 obtain⟨Ac,nc,cc,Am,nm,cm,Al,nl,cl,At,nt,ct,rfl,hC,_,_,N1,_⟩:=hP.open_;obtain⟨Ag,ng,cg,As,ns,S0,rfl,⟨_,_⟩,hG,f0,_⟩:=hS.open_;have Y1:=t5a hx;have S:=St.refl w0;have M1:∀w':World,w0.heap.size≤w'.heap.size→∀g∈M,g<w'.heap.size:=fun w' h g hg=>by have:=hM g hg;omega
 refine a0a func173 Z ntmps173 Z ?_;refine wO1 Z (o0a S Z ?_);intro g3 w3 S3 X3 G3;refine o0a S3 Z ?_;intro g5 w5 S5 X5 G5;obtain⟨_,C1,P1,_,O1,d1,_,_,g1,j1⟩:=RdS.get (N1) (t) (by omega);obtain⟨_,_,_,_,_,_,_,_,_,_,_,_,rfl,_⟩:=Z0a.open_ j1;obtain rfl:=Option.some.inj (hx.symm.trans O1);refine lCn 14 (S5.k.a g1) [.o 1,.x C1 P1,.f 0 1] Z ⟨Z,⟨d1,by omega⟩,Z,U⟩ (wX (fun D ε w=>D=[]∧∃y0:Bool,(y0=true↔s.kind=6∨s.kind=7)∧St [] w0 w [(some g5,60,[.int .i64 s.kind,.int .i64 s.frm,.int .i64 s.to,.int .i64 s.guard.op,.int .i64 s.guard.w,.int .i64 s.guard.n,.slice Ag ng cg,.slice As ns S0,.bool s.release,.int .i64 s.target,.int .i64 s.module_]),(some g3,27,pL Ac nc cc Am nm cm Al nl cl At nt ct)]∧Sl ε [(1,.int .i64 t),(3,.pointer (some ⟨g3,0,none⟩)),(5,.pointer (some ⟨g5,0,none⟩)),(7,.int .i64 x.points),(8,.bool y0)]) ?_ ?_)
 ·refine wB S5.k [.o 0] Z ⟨Z,U⟩ (fun E1=>?_) fun E1=>?_
  ·refine lP0 Z U ⟨Z,_,?_,S5,Z⟩;exact iff_of_true Z (by omega)
  refine lB S5.k [.o 0] Z ⟨Z,U⟩ (fun F1=>?_) fun F1=>?_
  ·refine lP0 Z U ⟨Z,_,?_,S5,Z⟩;exact iff_of_true Z (by omega)
  refine lP0 Z U ⟨Z,_,?_,S5,Z⟩;exact iff_of_false Bool.false_ne_true (by omega)
 rintro D ε w ⟨rfl,y0,r0,S,eZ⟩;refine wK eZ (wX (fun D ε w=>D=[]∧((1≤s.kind∧s.kind≤7)∧(0≤s.frm∧s.frm<x.points-1)∧(0≤s.to∧s.to<x.points)∧F1a s.module_ p.modules.length∧(s.release=true→s.kind=3)∧(s.target≠0→s.kind=6∨s.kind=7))∧St [] w0 w [(some g5,60,[.int .i64 s.kind,.int .i64 s.frm,.int .i64 s.to,.int .i64 s.guard.op,.int .i64 s.guard.w,.int .i64 s.guard.n,.slice Ag ng cg,.slice As ns S0,.bool s.release,.int .i64 s.target,.int .i64 s.module_]),(some g3,27,pL Ac nc cc Am nm cm Al nl cl At nt ct)]∧Sl ε [(1,.int .i64 t),(3,.pointer (some ⟨g3,0,none⟩)),(5,.pointer (some ⟨g5,0,none⟩))]) ?_ ?_)
 ·refine wB S.k [.o 0] Z ⟨Z,U⟩ (fun G1=>?_) fun G1=>?_
  ·refine lU Z Z ⟨⟨_,Z,iF (fun h=>?_)⟩,S.fin⟩;have q1:=h.kind;have q2:=h.frm;have q3:=h.to;have q4:=h.mod;have q5:=h.rel;have q6:=h.tgt;unfold F1a at q4;omega
  refine lB S.k [.o 0] Z ⟨Z,U⟩ (fun H1=>?_) fun H1=>?_
  ·refine lU Z Z ⟨⟨_,Z,iF (fun h=>?_)⟩,S.fin⟩;have q1:=h.kind;have q2:=h.frm;have q3:=h.to;have q4:=h.mod;have q5:=h.rel;have q6:=h.tgt;unfold F1a at q4;omega
  refine lO S.k [.o 0] Z ⟨by omega,Z,U⟩ (i0a S e4a Z Z (W9a _ _ _) (fun s0 R1 Q0 y1=>?_) (fun s0 R1 Q0 y1=>?_))
  ·refine lO Q0.k [.o 0] Z ⟨Z,U⟩ (i0a Q0 e4a Z Z (W9a _ _ _) (fun t0 T1 R0 z1=>?_) (fun t0 T1 R0 z1=>?_))
   ·refine lO R0.k [.o 0,.o 1] Z ⟨Z,Z,U⟩ (i0a R0 e4a Z Z (W9a _ _ _) (fun u0 U1 b0 A1=>?_) (fun u0 U1 b0 A1=>?_))
    ·refine lO1 Z ?_;rcases(Bool.eq_false_or_eq_true (s.release)).symm with a0|a0
     ·refine G0a E2a Z (by exact(b0.cell 0 Z Z).trans (congrArg (fun b=>some (Value.bool b)) a0)) Z ?_;refine lB b0.k [.o 0] Z ⟨Z,U⟩ (fun c1=>?_) fun c1=>?_
      ·refine lOn 1 b0.k [] Z U (T2a Z Z Z ?_);cases g0:y0
       ·refine J0a (hv:=Z) (v:=.bool _) Z ?_;refine lU Z Z ⟨⟨_,Z,iF (fun h=>?_)⟩,b0.fin⟩;have q1:=h.kind;have q2:=h.frm;have q3:=h.to;have q4:=h.mod;have q5:=h.rel;have q6:=h.tgt;unfold F1a at q4
        (have z:=r0.2 (q6 (by omega));rw[g0] at z;cases z;done)
       refine J0a (hv:=Z) (v:=.bool _) Z ?_;refine lP0 Z U ⟨Z,?_,b0,Z⟩;refine⟨⟨by omega,by omega⟩,?_,?_,?_,?_,?_⟩
       ·have:=of_decide_eq_true s0;omega
       ·have:=of_decide_eq_true t0;omega
       ·have:=of_decide_eq_true u0;unfold F1a;omega
       ·intro e0;rw[e0] at a0;cases a0;done
       ·intro n1;exact r0.1 g0
      refine lP0 Z U ⟨Z,?_,b0,Z⟩;refine⟨⟨by omega,by omega⟩,?_,?_,?_,?_,?_⟩
      ·have:=of_decide_eq_true s0;omega
      ·have:=of_decide_eq_true t0;omega
      ·have:=of_decide_eq_true u0;unfold F1a;omega
      ·intro e0;rw[e0] at a0;cases a0;done
      ·intro n1;omega
     refine G0a E2a Z (by exact(b0.cell 0 Z Z).trans (congrArg (fun b=>some (Value.bool b)) a0)) Z ?_;refine lB b0.k [.o 0] Z ⟨Z,U⟩ (fun I1=>?_) fun I1=>?_
     ·refine lU Z Z ⟨⟨_,Z,iF (fun h=>?_)⟩,b0.fin⟩;have q1:=h.kind;have q2:=h.frm;have q3:=h.to;have q4:=h.mod;have q5:=h.rel;have q6:=h.tgt;unfold F1a at q4
      (have z:=q5 a0;omega)
     refine lB b0.k [.o 0] Z ⟨Z,U⟩ (fun c1=>?_) fun c1=>?_
     ·refine lOn 1 b0.k [] Z U (T2a Z Z Z ?_);cases g0:y0
      ·refine J0a (hv:=Z) (v:=.bool _) Z ?_;refine lU Z Z ⟨⟨_,Z,iF (fun h=>?_)⟩,b0.fin⟩;have q1:=h.kind;have q2:=h.frm;have q3:=h.to;have q4:=h.mod;have q5:=h.rel;have q6:=h.tgt;unfold F1a at q4;omega
      refine J0a (hv:=Z) (v:=.bool _) Z ?_;refine lP0 Z U ⟨Z,?_,b0,Z⟩;refine⟨⟨by omega,by omega⟩,?_,?_,?_,?_,?_⟩
      ·have:=of_decide_eq_true s0;omega
      ·have:=of_decide_eq_true t0;omega
      ·have:=of_decide_eq_true u0;unfold F1a;omega
      ·intro e0;omega
      ·intro n1;exact r0.1 g0
     refine lP0 Z U ⟨Z,?_,b0,Z⟩;refine⟨⟨by omega,by omega⟩,?_,?_,?_,?_,?_⟩
     ·have:=of_decide_eq_true s0;omega
     ·have:=of_decide_eq_true t0;omega
     ·have:=of_decide_eq_true u0;unfold F1a;omega
     ·intro e0;omega
     ·intro n1;omega
    refine lU Z Z ⟨⟨_,Z,iF (fun h=>?_)⟩,b0.fin⟩;have q1:=h.kind;have q2:=h.frm;have q3:=h.to;have q4:=h.mod;have q5:=h.rel;have q6:=h.tgt;unfold F1a at q4
    (have z:=of_decide_eq_false u0;omega)
   refine lU Z Z ⟨⟨_,Z,iF (fun h=>?_)⟩,R0.fin⟩;have q1:=h.kind;have q2:=h.frm;have q3:=h.to;have q4:=h.mod;have q5:=h.rel;have q6:=h.tgt;unfold F1a at q4
   (have z:=of_decide_eq_false t0;omega)
  refine lU Z Z ⟨⟨_,Z,iF (fun h=>?_)⟩,Q0.fin⟩;have q1:=h.kind;have q2:=h.frm;have q3:=h.to;have q4:=h.mod;have q5:=h.rel;have q6:=h.tgt;unfold F1a at q4
  (have z:=of_decide_eq_false s0;omega)
 rintro D ε w ⟨rfl,c0,S,eZ⟩;refine wK eZ (wO S.k [.o 0,.o 1] Z ⟨Z,Z,U⟩ ?_);refine i0a S F0b Z Z (A8a _ M _ _ _ p.cells false (RdE.keep (S.keep0 M) _ _ hG) (hC.keep (S.keep0 M))) (fun T0 V1 v0 B1=>?_) (fun T0 V1 v0 B1=>?_)
 ·refine lB v0.k [.o 0] Z ⟨Z,U⟩ (fun J1=>?_) fun J1=>?_
  ·refine lU Z Z ⟨⟨_,Z,iF (fun h=>?_)⟩,v0.fin⟩;have q1:=h.kind;have q2:=h.frm;have q3:=h.to;have q4:=h.mod;have q5:=h.rel;have q6:=h.tgt;unfold F1a at q4
   (have z:=h.guard.2;omega)
  refine lC1 Z (wL (fun μk D ε w=>D=[]∧∃k:Nat,(k+μk=(s.set.length))∧(Y0a (s.set) k (fun a=>F1a a.cell p.cells.length∧a.to.valid p.cells false=true∧a.to.w=wAt p.cells a.cell))∧(w3a s.set k (fun a b=>a.cell≠b.cell))∧St [] w0 w [(some g5,60,[.int .i64 s.kind,.int .i64 s.frm,.int .i64 s.to,.int .i64 s.guard.op,.int .i64 s.guard.w,.int .i64 s.guard.n,.slice Ag ng cg,.slice As ns S0,.bool s.release,.int .i64 s.target,.int .i64 s.module_]),(some g3,27,pL Ac nc cc Am nm cm Al nl cl At nt ct)]∧Sl ε [(1,.int .i64 t),(3,.pointer (some ⟨g3,0,none⟩)),(5,.pointer (some ⟨g5,0,none⟩)),(9,.int .i64 k)]) (μ:=(s.set.length)) ⟨Z,0,by omega,Y0a.zero,w3a.zero,v0,Z⟩ ?_);rintro μk D ε w ⟨rfl,k,_,hs,hp,S,eZ⟩;refine wK eZ (wB S.k [.o 0] Z ⟨Z,U⟩ (fun K1=>?_) fun K1=>?_)
  ·obtain⟨a,D1,Q1,_,i0,f1,_,_,i1,m1⟩:=RdS.get (f0) (k) (by omega);obtain⟨_,_,_,rfl,_⟩:=V0a.open_ m1;refine lO (S.k.a i1) [.o 0,.x D1 Q1,.f 0 0,.o 1] Z ⟨Z,Z,⟨f1,by omega⟩,Z,U⟩ (i0a S e4a Z Z (W9a _ _ _) (fun n0 t1 j0 U0=>?_) (fun n0 t1 j0 U0=>?_))
   ·refine lC1 Z (wL (fun μj D ε w=>D=[]∧∃j:Nat,(j+μj=(k))∧(Y0a (s.set) j (fun b=>b.cell≠a.cell))∧St [] w0 w [(some g5,60,[.int .i64 s.kind,.int .i64 s.frm,.int .i64 s.to,.int .i64 s.guard.op,.int .i64 s.guard.w,.int .i64 s.guard.n,.slice Ag ng cg,.slice As ns S0,.bool s.release,.int .i64 s.target,.int .i64 s.module_]),(some g3,27,pL Ac nc cc Am nm cm Al nl cl At nt ct)]∧Sl ε [(1,.int .i64 t),(3,.pointer (some ⟨g3,0,none⟩)),(5,.pointer (some ⟨g5,0,none⟩)),(9,.int .i64 k),(10,.int .i64 a.cell),(11,.int .i64 j)]) (μ:=(k)) ⟨Z,0,by omega,Y0a.zero,j0,Z⟩ ?_);rintro μj D ε w ⟨rfl,j,_,hn,S,eZ⟩;refine wK eZ (wB1 Z (fun a1=>?_) fun a1=>?_)
    ·obtain⟨b,W0,o1,_,v1,z0,_,_,E0,I0⟩:=RdS.get (f0) (j) (by omega);obtain⟨_,_,_,rfl,_⟩:=V0a.open_ I0;refine lB (S.k.a E0) [.o 0,.x W0 o1,.f 0 0] Z ⟨Z,⟨z0,by omega⟩,Z,U⟩ (fun o0=>?_) fun o0=>?_
     ·refine lU Z Z ⟨⟨_,Z,iF (fun h=>?_)⟩,S.fin⟩;have q1:=h.kind;have q2:=h.frm;have q3:=h.to;have q4:=h.mod;have q5:=h.rel;have q6:=h.tgt;unfold F1a at q4;exact y7a h.once v1 i0 (by omega) o0
     refine lP1 Z ⟨μj-1,by omega,Z,j+1,by omega,(hn.succ v1 (o0)),S,Z⟩
    refine lC1 Z (y0a b0a [0,1,2,3,4,5,6,7,8,9,10,11,12,13,14,15,16,17,18,19,20,21,22,23,24,25] [] [] Z (Cl _ _ _ _) (Cl.start S) ?_);obtain⟨_,X0,p1,_,N0,A0,_,_,F0,J0⟩:=RdS.get (f0) (k) (by omega);obtain rfl:=Option.some.inj (i0.symm.trans N0);obtain⟨_,_,_,rfl,_,D0⟩:=V0a.open_ J0;refine qO (S.q.a F0) [.o 0,.x X0 p1,.f 0 1,.o 1] Z ⟨Z,Z,⟨A0,by omega⟩,Z,U⟩ (H2a F0b Z Z (fun w1 S1 X1=>A8a _ M _ _ _ p.cells false (RdE.keep (S1.keep0 M) _ _ D0) (hC.keep (S1.keep0 M))) (fun p0=>?_) fun p0=>?_)
    ·obtain⟨_,Y0,r1,_,O0,B0,_,_,G0,K0⟩:=RdS.get (f0) (k) (by omega);obtain rfl:=Option.some.inj (i0.symm.trans O0);obtain⟨_,_,_,rfl,_⟩:=V0a.open_ K0;have W1:=of_decide_eq_true n0;obtain⟨_,Z0,s1,_,x1,C0,_,_,H0,L0⟩:=RdS.get (hC) (a.cell.toNat) (by omega);obtain⟨rfl,_⟩:=P2a.open_ L0;refine qB ((S.q.a H0).a G0) [.o 0,.x Y0 r1,.f 0 2,.o 1,.x Z0 s1,.f 1 1] Z ⟨Z,⟨C0,by omega⟩,Z,Z,⟨B0,by omega⟩,Z,U⟩ (fun b1=>?_) fun b1=>?_
     ·refine lV Z ?_;rintro P0 ⟨d0,x0⟩;refine lU Z Z ⟨⟨_,Z,iF (fun h=>?_)⟩,d0.fin⟩;have q1:=h.kind;have q2:=h.frm;have q3:=h.to;have q4:=h.mod;have q5:=h.rel;have q6:=h.tgt;unfold F1a at q4
      (have z:=(h.set a (c0a i0)).2.2;rw[c5a x1] at z;omega)
     refine lV Z ?_;rintro P0 ⟨d0,x0⟩;refine lP1 Z ?_;refine⟨μk-1,by omega,Z,k+1,by omega,(hs.succ i0 (⟨by unfold F1a;omega,p0,by rw[c5a x1];omega⟩)),(hp.succ i0 (j:=j) (by omega) hn),d0,Z⟩
    refine lV Z ?_;rintro P0 ⟨d0,x0⟩;refine lU Z Z ⟨⟨_,Z,iF (fun h=>?_)⟩,d0.fin⟩;have q1:=h.kind;have q2:=h.frm;have q3:=h.to;have q4:=h.mod;have q5:=h.rel;have q6:=h.tgt;unfold F1a at q4
    (have z:=(h.set a (c0a i0)).2.1;rw[p0] at z;cases z;done)
   refine lU Z Z ⟨⟨_,Z,iF (fun h=>?_)⟩,j0.fin⟩;have q1:=h.kind;have q2:=h.frm;have q3:=h.to;have q4:=h.mod;have q5:=h.rel;have q6:=h.tgt;unfold F1a at q4
   (have z:=(h.set a (c0a i0)).1;unfold F1a at z;have z2:=of_decide_eq_false n0;omega)
  refine lO S.k [.w 1,.w 0] Z ⟨⟨Z,Z⟩,⟨Z,Z⟩,U⟩ (i0a S w0d Z Z (J0c p s t M _ _ _ (hP.keep (S.keep0 M)) (n2a.keep (S.keep0 M) _ _ hS) (M1 _ S.size) c0.1 T0 (fun a ha=>⟨(hs.all (by omega) a ha).1,(hs.all (by omega) a ha).2.1⟩)) (fun q0 u1 m0 V0=>?_) (fun q0 u1 m0 V0=>?_))
  ·exact lU Z Z ⟨⟨_,Z,iff_of_true (by omega) ⟨c0.1,c0.2.1,c0.2.2.1,c0.2.2.2.1,c0.2.2.2.2.1,c0.2.2.2.2.2,⟨T0,by omega⟩,hs.all (by omega),hp.all (by omega),Q0a q0⟩⟩,m0.fin⟩
  refine lU Z Z ⟨⟨_,Z,iF (fun h=>?_)⟩,m0.fin⟩;have q1:=h.kind;have q2:=h.frm;have q3:=h.to;have q4:=h.mod;have q5:=h.rel;have q6:=h.tgt;unfold F1a at q4;exact K0a q0 h.row
 refine lU Z Z ⟨⟨_,Z,iF (fun h=>?_)⟩,v0.fin⟩;have q1:=h.kind;have q2:=h.frm;have q3:=h.to;have q4:=h.mod;have q5:=h.rel;have q6:=h.tgt;unfold F1a at q4
 (have z:=h.guard.1;rw[T0] at z;cases z;done)
theorem K6b(p:m0a)(t:Nat)(M:List Nat)(w0:World)(cs:LV)(hP:e1a M w0 p cs)(hM:∀g∈M,g<w0.heap.size)(hN:n8a p)(hL:X1c p)(u3:t<p.threads.length):
 A0a prog 115 #[.agg cs.toArray,.int .i64 t] w0 fun v w'=>(∃a b,v=.tuple #[.int .i64 a,.int .i64 b]∧(a=0↔∀x,p.threads[t]?=some x→p5a p t x∧∀y∈p.threads.take t,y.name≠x.name))∧Bw w0 w':=by
 obtain⟨Ac,nc,cc,Am,nm,cm,Al,nl,cl,At,nt,ct,rfl,hC,_,_,A2,_,c0,_⟩:=hP.open_;have S:=St.refl w0;have W1:∀w':World,w0.heap.size≤w'.heap.size→∀g∈M,g<w'.heap.size:=fun w' h g hg=>by have:=hM g hg;omega
 refine a0a func115 Z ntmps115 Z ?_;refine wO1 Z (o0a S Z ?_);intro g2 w2 S2 X2 G2;obtain⟨x,P2,d3,_,a0,R1,_,d2,Y1,f2⟩:=RdS.get (A2) (t) (by omega);obtain⟨d0,o0,i0,f0,q0,m0,g0,r0,n0,e0,p0,j0,rfl,_,W0,Y0,Z0,X0,_⟩:=Z0a.open_ f2;have t3:=hL.2.2.2.2 x (c0a a0);refine lO (S2.k.a Y1) [.o 0,.x P2 d3,.v 0] Z ⟨⟨Z,d2⟩,⟨R1,by omega⟩,Z,U⟩ (g0a S2 M1b Z Z ?_);intro g6 w6 S6 X6 G6;refine d0a (kk:=0) (vs:=[_,_,_,_,_,_,_]) S6 I1b Z Z Z Z Z Z Z ?_;intro m3 D0 L2;dsimp only[e0a,List.set] at D0;refine lO D0.k [.o 0] Z ⟨Z,U⟩ (i0a D0 m3b Z Z (j0b _ _ (hN.threads x (c0a a0))) (fun N1 n3 u1 N2=>?_) (fun N1 n3 u1 N2=>?_))
 ·refine lC1 Z (wL (fun μj D ε w=>D=[]∧∃j:Nat,(j+μj=(t))∧(Y0a (p.threads) j (fun y=>y.name≠x.name))∧St [] w0 w [(some g6,64,[.string x.name,.int .i64 x.points,.slice d0 o0 i0,.slice f0 q0 m0,.slice g0 r0 n0,.slice e0 p0 j0,.bool x.asleep]),(some g2,27,pL Ac nc cc Am nm cm Al nl cl At nt ct)]∧Sl ε [(1,.int .i64 t),(2,.pointer (some ⟨g2,0,none⟩)),(6,.pointer (some ⟨g6,0,none⟩)),(7,.int .i64 j)]) (μ:=(t)) ⟨Z,0,by omega,Y0a.zero,u1,Z⟩ ?_);rintro μj D ε w ⟨rfl,j,_,hn,S,eZ⟩;refine wK eZ (wB1 Z (fun U2=>?_) fun U2=>?_)
  ·refine lC1 Z (y0a b0a [0,1,2,3,4,5,6,7,8] [] [] Z (Cl _ _ _ _) (Cl.start S) ?_);obtain⟨y,Q2,e3,_,H2,T1,_,_,Z1,h2⟩:=RdS.get (A2) (j) (by omega);obtain⟨_,_,_,_,_,_,_,_,_,_,_,_,rfl,_⟩:=Z0a.open_ h2;refine qOn 8 (S.q.a Z1) [.o 1,.x Q2 e3,.f 0 0,.o 0] Z ⟨Z,Z,⟨T1,by omega⟩,Z,U⟩ (J5b Z Z Z (fun O1=>?_) fun O1=>?_)
   ·refine lV Z ?_;rintro p3 ⟨v1,O2⟩;refine lT1 Z Z ⟨⟨_,_,Z,iF (fun hh=>?_)⟩,v1.fin⟩;obtain⟨h,c0⟩:=hh x a0;have q1:=h.points;have q2:=h.asserts;have q3:=h.nmod;exact c0 y (List.mem_of_getElem? (i:=j) (by rw[List.getElem?_take,if_pos (by omega)];exact H2)) O1
   refine lV Z ?_;rintro p3 ⟨v1,O2⟩;refine lP1 Z ⟨μj-1,by omega,Z,j+1,by omega,(hn.succ H2 (O1)),v1,Z⟩
  refine lB S.k [.o 0] Z ⟨Z,U⟩ (fun V2=>?_) fun V2=>?_
  ·refine lT1 Z Z ⟨⟨_,_,Z,iF (fun hh=>?_)⟩,S.fin⟩;obtain⟨h,c0⟩:=hh x a0;have q1:=h.points;have q2:=h.asserts;have q3:=h.nmod;omega
  refine lB S.k [.o 0,.o 0] Z ⟨Z,Z,U⟩ (fun W2=>?_) fun W2=>?_
  ·refine lT1 Z Z ⟨⟨_,_,Z,iF (fun hh=>?_)⟩,S.fin⟩;obtain⟨h,c0⟩:=hh x a0;have q1:=h.points;have q2:=h.asserts;have q3:=h.nmod;omega
  refine lB S.k [.o 0,.o 0] Z ⟨Z,Z,U⟩ (fun Y2=>?_) fun Y2=>?_
  ·refine lT1 Z Z ⟨⟨_,_,Z,iF (fun hh=>?_)⟩,S.fin⟩;obtain⟨h,c0⟩:=hh x a0;have q1:=h.points;have q2:=h.asserts;have q3:=h.nmod;omega
  refine lC1 Z (wL (fun μk D ε w=>D=[]∧∃k:Nat,(k+μk=(x.modules.length))∧(Y0a (x.modules) k (fun m=>F1a m p.modules.length))∧St [] w0 w [(some g6,64,[.string x.name,.int .i64 x.points,.slice d0 o0 i0,.slice f0 q0 m0,.slice g0 r0 n0,.slice e0 p0 j0,.bool x.asleep]),(some g2,27,pL Ac nc cc Am nm cm Al nl cl At nt ct)]∧Sl ε [(1,.int .i64 t),(2,.pointer (some ⟨g2,0,none⟩)),(6,.pointer (some ⟨g6,0,none⟩)),(8,.int .i64 k)]) (μ:=(x.modules.length)) ⟨Z,0,by omega,Y0a.zero,S,Z⟩ ?_);rintro μk D ε w ⟨rfl,k,hk,hm,S,eZ⟩;refine wK eZ (wB S.k [.o 0] Z ⟨Z,U⟩ (fun Z2=>?_) fun Z2=>?_)
  ·refine lC1 Z (y0a b0a [0,1,2,3,4,5,6,7,8,9] [] [] Z (Cl _ _ _ _) (Cl.start S) ?_);obtain⟨m,R2,g3,_,E2,U1,_,_,a2,i2⟩:=RdS.get (Y0) (k) (by omega);obtain⟨rfl,_⟩:=id i2;refine qO (S.q.a a2) [.o 0,.x R2 g3,.f 0 0,.o 1] Z ⟨Z,Z,⟨U1,by omega⟩,Z,U⟩ (H2a e4a Z Z (fun w1 S1 X1=>W9a _ _ _) (fun P1=>?_) fun P1=>?_)
   ·refine lV Z ?_;rintro u2 ⟨E0,C1⟩;refine lP1 Z ?_;refine⟨μk-1,by omega,Z,k+1,by omega,(hm.succ E2 (by have:=of_decide_eq_true P1;unfold F1a;omega)),E0,Z⟩
   refine lV Z ?_;rintro u2 ⟨E0,C1⟩;refine lT1 Z Z ⟨⟨_,_,Z,iF (fun hh=>?_)⟩,E0.fin⟩;obtain⟨h,c0⟩:=hh x a0;have q1:=h.points;have q2:=h.asserts;have q3:=h.nmod
   (have z:=h.modules m (c0a E2);unfold F1a at z;have z2:=of_decide_eq_false P1;omega)
  refine lC1 Z (wL (fun μk D ε w=>D=[]∧∃k:Nat,(k+μk=(x.asserts.length))∧(Y0a (x.asserts) k (fun e=>n6a p.cells e false t))∧St [] w0 w [(some g6,64,[.string x.name,.int .i64 x.points,.slice d0 o0 i0,.slice f0 q0 m0,.slice g0 r0 n0,.slice e0 p0 j0,.bool x.asleep]),(some g2,27,pL Ac nc cc Am nm cm Al nl cl At nt ct)]∧Sl ε [(1,.int .i64 t),(2,.pointer (some ⟨g2,0,none⟩)),(6,.pointer (some ⟨g6,0,none⟩)),(9,.int .i64 k)]) (μ:=(x.asserts.length)) ⟨Z,0,by omega,Y0a.zero,S,Z⟩ ?_);rintro μk D ε w ⟨rfl,k,hk,ha,S,eZ⟩;refine wK eZ (wB S.k [.o 0] Z ⟨Z,U⟩ (fun a3=>?_) fun a3=>?_)
  ·refine lC1 Z (y0a b0a [0,1,2,3,4,5,6,7,8] [] [] Z (Cl _ _ _ _) (Cl.start S) ?_);obtain⟨e,T2,h3,_,D2,V1,_,e2,b2,n1⟩:=RdS.get (W0) (k) (by omega);obtain⟨_,_,_,rfl,_⟩:=RdE.cells n1;refine qO (S.q.a b2) [.w 1,.o 0,.x T2 h3,.v 0] Z ⟨⟨Z,e2⟩,⟨V1,by omega⟩,Z,⟨Z,Z⟩,U⟩ (H2a A1b Z Z (fun w1 S1 X1=>V5a p e M _ _ _ false t (hP.keep (S1.keep0 M)) (RdE.keep (S1.keep0 M) _ _ n1) (W1 _ S1.size)) (fun Q1=>?_) fun Q1=>?_)
   ·refine lV Z ?_;rintro v2 ⟨F0,D1⟩;refine lP1 Z ⟨μk-1,by omega,Z,k+1,by omega,(ha.succ D2 (Q0a Q1)),F0,Z⟩
   refine lV Z ?_;rintro v2 ⟨F0,D1⟩;refine lT1 Z Z ⟨⟨_,_,Z,iF (fun hh=>?_)⟩,F0.fin⟩;obtain⟨h,c0⟩:=hh x a0;have q1:=h.points;have q2:=h.asserts;have q3:=h.nmod;exact K0a Q1 (h.truth e (c0a D2))
  refine lC1 Z (wL (fun μk D ε w=>D=[]∧∃k:Nat,(k+μk=(x.steps.length))∧(Y0a (x.steps) k (fun s=>d2b p t x.points s))∧St [] w0 w [(some g6,64,[.string x.name,.int .i64 x.points,.slice d0 o0 i0,.slice f0 q0 m0,.slice g0 r0 n0,.slice e0 p0 j0,.bool x.asleep]),(some g2,27,pL Ac nc cc Am nm cm Al nl cl At nt ct)]∧Sl ε [(1,.int .i64 t),(2,.pointer (some ⟨g2,0,none⟩)),(6,.pointer (some ⟨g6,0,none⟩)),(10,.int .i64 k)]) (μ:=(x.steps.length)) ⟨Z,0,by omega,Y0a.zero,S,Z⟩ ?_);rintro μk D ε w ⟨rfl,k,hk,hs,S,eZ⟩;refine wK eZ (wB S.k [.o 0] Z ⟨Z,U⟩ (fun b3=>?_) fun b3=>?_)
  ·refine lC1 Z (y0a b0a [0,1,2,3,4,5,6] [] [7,8] Z (Cl _ _ _ _) (Cl.start S) ?_);obtain⟨s,E1,j2,_,F2,S0,_,f1,a1,A0⟩:=RdS.get (Z0) (k) (by omega);obtain⟨_,_,_,_,_,_,rfl,⟨_,_⟩,_⟩:=n2a.open_ A0;refine qN (S.q.a a1) [.w 1,.o 0,.x E1 j2,.v 0] Z ⟨⟨Z,f1⟩,⟨S0,by omega⟩,Z,⟨Z,Z⟩,U⟩ (h4a ?_);refine O1a ?_;rintro o3 ⟨x0,_⟩;refine h0a x0 T8c Z Z (n2c p s x t M _ _ _ (hP.keep (x0.keep0 M)) (n2a.keep (x0.keep0 M) _ _ A0) (W1 _ x0.size) a0 (by omega) (by omega)) ?_;rintro i3 j3 ⟨_,rfl,B2⟩ O0 K2;refine lB1 Z (fun I1=>?_) fun I1=>?_
   ·refine lT1 Z Z ⟨⟨_,_,Z,iF (fun hh=>?_)⟩,O0.fin⟩;obtain⟨h,c0⟩:=hh x a0;have q1:=h.points;have q2:=h.asserts;have q3:=h.nmod
    (have z:=B2.2 (h.steps s (c0a F2));omega)
   refine lP1 Z ⟨μk-1,by omega,Z,k+1,by omega,(hs.succ F2 (B2.1 (by omega))),O0,Z⟩
  refine lC1 Z (wL (fun μk D ε w=>D=[]∧∃k:Nat,(k+μk=(x.loops.length))∧(Y0a (x.loops) k (fun l=>M7b p t x.points l))∧St [] w0 w [(some g6,64,[.string x.name,.int .i64 x.points,.slice d0 o0 i0,.slice f0 q0 m0,.slice g0 r0 n0,.slice e0 p0 j0,.bool x.asleep]),(some g2,27,pL Ac nc cc Am nm cm Al nl cl At nt ct)]∧Sl ε [(1,.int .i64 t),(2,.pointer (some ⟨g2,0,none⟩)),(6,.pointer (some ⟨g6,0,none⟩)),(12,.int .i64 k)]) (μ:=(x.loops.length)) ⟨Z,0,by omega,Y0a.zero,S,Z⟩ ?_);rintro μk D ε w ⟨rfl,k,hk,hl,S,eZ⟩;refine wK eZ (wB S.k [.o 0] Z ⟨Z,U⟩ (fun J1=>?_) fun J1=>?_)
  ·obtain⟨l,F1,m2,_,K0,T0,_,g1,b1,i1⟩:=RdS.get (X0) (k) (by omega);obtain⟨L0,p1,Q0,N0,r1,R0,rfl,_,v0,z0,_⟩:=H5a.open_ i1;refine lO (S.k.a b1) [.o 0,.x F1 m2,.v 0] Z ⟨⟨Z,g1⟩,⟨T0,by omega⟩,Z,U⟩ (g0a S A6c Z Z ?_);intro y2 v3 J2 s3 r3;refine d0a (kk:=0) (vs:=[_,_,_,_,_,_]) J2 M6c Z Z Z Z Z Z Z ?_;intro I2 t0 x2;dsimp only[e0a,List.set] at t0;refine lO t0.k [.o 0,.o 1] Z ⟨Z,Z,U⟩ (i0a t0 e4a Z Z (W9a _ _ _) (fun G0 p2 s0 x1=>?_) (fun G0 p2 s0 x1=>?_))
   ·refine lO s0.k [.o 0] Z ⟨Z,U⟩ (i0a s0 m3c Z Z (H4b M _ _ _ (v0.keep (s0.keep0 M))) (fun H0 r2 B0 y1=>?_) (fun H0 r2 B0 y1=>?_))
    ·refine lC1 Z (wL (fun μi D ε w=>D=[]∧∃i:Nat,(i+μi=(l.body.length))∧(Y0a (l.body) i (fun z=>0≤z∧z<x.points∧z≠l.head))∧St [] w0 w [(some y2,155,[.int .i64 l.head,.slice L0 p1 Q0,.int .i64 l.variant.op,.int .i64 l.variant.w,.int .i64 l.variant.n,.slice N0 r1 R0]),(some g6,64,[.string x.name,.int .i64 x.points,.slice d0 o0 i0,.slice f0 q0 m0,.slice g0 r0 n0,.slice e0 p0 j0,.bool x.asleep]),(some g2,27,pL Ac nc cc Am nm cm Al nl cl At nt ct)]∧Sl ε [(1,.int .i64 t),(2,.pointer (some ⟨g2,0,none⟩)),(6,.pointer (some ⟨g6,0,none⟩)),(12,.int .i64 k),(13,.pointer (some ⟨y2,0,none⟩)),(14,.int .i64 i)]) (μ:=(l.body.length)) ⟨Z,0,by omega,Y0a.zero,B0,Z⟩ ?_);rintro μi D ε w ⟨rfl,i,_,hb,S,eZ⟩;refine wK eZ (wB S.k [.o 0] Z ⟨Z,U⟩ (fun K1=>?_) fun K1=>?_)
     ·refine lC1 Z (y0a b0a [0,1,2,3,4,5,6,7,8,9,10,11,12,13,14,15,16,17,18] [] [] Z (Cl _ _ _ _) (Cl.start S) ?_);obtain⟨z,G1,n2,_,t1,U0,_,_,c1,j1⟩:=RdS.get (v0) (i) (by omega);obtain⟨rfl,_⟩:=id j1;refine qO (S.q.a c1) [.o 0,.x G1 n2,.f 0 0,.o 1] Z ⟨Z,Z,⟨U0,by omega⟩,Z,U⟩ (H2a e4a Z Z (fun w1 S1 X1=>W9a _ _ _) (fun I0=>?_) fun I0=>?_)
      ·obtain⟨_,H1,o2,_,o1,V0,_,_,d1,m1⟩:=RdS.get (v0) (i) (by omega);obtain rfl:=Option.some.inj (t1.symm.trans o1);obtain⟨rfl,_⟩:=id m1;refine qB (S.q.a d1) [.o 0,.x H1 o2,.f 0 0,.o 0] Z ⟨Z,Z,⟨V0,by omega⟩,Z,U⟩ (fun M1=>?_) fun M1=>?_
       ·refine lV Z ?_;rintro s1 ⟨u0,P0⟩;refine lT1 Z Z ⟨⟨_,_,Z,iF (fun hh=>?_)⟩,u0.fin⟩;obtain⟨h,c0⟩:=hh x a0;have q1:=h.points;have q2:=h.asserts;have q3:=h.nmod
        (have zl:=h.loops l (c0a K0)
         have z1:=zl.head
         (have z3:=zl.body z (c0a t1);omega))
       refine lV Z ?_;rintro s1 ⟨u0,P0⟩;refine lP1 Z ?_;refine⟨μi-1,by omega,Z,i+1,by omega,(hb.succ t1 (by have:=of_decide_eq_true I0;omega)),u0,Z⟩
      refine lV Z ?_;rintro s1 ⟨u0,P0⟩;refine lT1 Z Z ⟨⟨_,_,Z,iF (fun hh=>?_)⟩,u0.fin⟩;obtain⟨h,c0⟩:=hh x a0;have q1:=h.points;have q2:=h.asserts;have q3:=h.nmod
      (have zl:=h.loops l (c0a K0)
       have z1:=zl.head
       (have z3:=zl.body z (c0a t1);(have z2:=of_decide_eq_false I0;omega)))
     refine lO S.k [.o 0,.o 2] Z ⟨Z,Z,U⟩ (i0a S F0b Z Z (A8a _ M _ _ _ p.cells false (RdE.keep (S.keep0 M) _ _ z0) (hC.keep (S.keep0 M))) (fun y0 s2 b0 A1=>?_) (fun y0 s2 b0 A1=>?_))
     ·refine lO b0.k [.w 2,.o 0] Z ⟨Z,⟨Z,Z⟩,U⟩ (i0a b0 s0b Z Z (N6a p _ M _ _ _ _ false t (hP.keep (b0.keep0 M)) (RdE.keep (b0.keep0 M) _ _ z0) (W1 _ b0.size) y0) (fun J0 t2 C0 B1=>?_) (fun J0 t2 C0 B1=>?_))
      ·refine lP1 Z ?_;refine⟨μk-1,by omega,Z,k+1,by omega,(hl.succ K0 (⟨by have:=of_decide_eq_true G0;omega,Q0a H0,hb.all (by omega),y0,Q0a J0⟩)),C0.tail,Z⟩
      refine lT1 Z Z ⟨⟨_,_,Z,iF (fun hh=>?_)⟩,C0.fin⟩;obtain⟨h,c0⟩:=hh x a0;have q1:=h.points;have q2:=h.asserts;have q3:=h.nmod
      (have zl:=h.loops l (c0a K0)
       have z1:=zl.head;exact K0a J0 zl.variant.2)
     refine lT1 Z Z ⟨⟨_,_,Z,iF (fun hh=>?_)⟩,b0.fin⟩;obtain⟨h,c0⟩:=hh x a0;have q1:=h.points;have q2:=h.asserts;have q3:=h.nmod
     (have zl:=h.loops l (c0a K0)
      have z1:=zl.head
      (have z4:=zl.variant.1;rw[y0] at z4;cases z4;done))
    refine lT1 Z Z ⟨⟨_,_,Z,iF (fun hh=>?_)⟩,B0.fin⟩;obtain⟨h,c0⟩:=hh x a0;have q1:=h.points;have q2:=h.asserts;have q3:=h.nmod
    (have zl:=h.loops l (c0a K0)
     have z1:=zl.head;exact K0a H0 zl.up)
   refine lT1 Z Z ⟨⟨_,_,Z,iF (fun hh=>?_)⟩,s0.fin⟩;obtain⟨h,c0⟩:=hh x a0;have q1:=h.points;have q2:=h.asserts;have q3:=h.nmod
   (have zl:=h.loops l (c0a K0)
    have z1:=zl.head
    (have z2:=of_decide_eq_false G0;omega))
  refine lT1 Z Z ⟨⟨_,_,Z,iff_of_true (by omega) (fun x' C2=>?_)⟩,S.fin⟩;rw[a0] at C2;cases C2;refine⟨⟨Q0a N1,⟨by omega,by omega⟩,by omega,by omega,by omega,by omega,hm.all (by omega),ha.all (by omega),hs.all (by omega),hl.all (by omega)⟩,fun y hy=>hn y ?_⟩
  rwa [show j=t by omega]
 refine lT1 Z Z ⟨⟨_,_,Z,iF (fun hh=>?_)⟩,u1.fin⟩;obtain⟨h,c0⟩:=hh x a0;have q1:=h.points;have q2:=h.asserts;have q3:=h.nmod;exact K0a N1 h.name
theorem L9a{p:m0a}(h:W0a p):X1c p:=⟨h.ncells,h.nmodules,h.nlocks,h.nthreads,fun x hx=>by
 obtain⟨i,hi,rfl⟩:=List.getElem_of_mem hx;have q:=h.threads i hi;exact⟨q.points.2,q.nsteps,q.nloops⟩⟩
theorem K1d{p:m0a}(hp:W0a p){k:Nat}{x:D1a}(hx:p.threads[k]?=some x):p5a p k x:=by
 obtain⟨h,rfl⟩:=List.getElem?_eq_some_iff.1 hx;exact hp.threads k h
theorem k9c{l:List D1a}(h:l.Pairwise (fun a b=>a.name≠b.name)){t:Nat}{x:D1a}(hx:l[t]?=some x):∀y∈l.take t,y.name≠x.name:=fun y hy=>by
 obtain⟨_,hi⟩:=List.getElem?_of_mem hy;rw[List.getElem?_take] at hi
 split at hi
 ·exact y7a h hi hx (by omega)
 ·cases hi
theorem s1b(p:m0a)(M:List Nat)(w0:World)(cs:LV)(hP:e1a M w0 p cs)(hM:∀g∈M,g<w0.heap.size)(hN:n8a p):
 A0a prog 64 #[.agg cs.toArray] w0 fun v w'=>(∃a b c,v=.tuple #[.int .i64 a,.int .i64 b,.int .i64 c]∧(a=0↔W0a p))∧Bw w0 w':=by
 obtain⟨Ac,nc,cc,Am,nm,cm,Al,nl,cl,At,nt,ct,rfl,_⟩:=hP.open_;have S:=St.refl w0;have e0:∀w':World,w0.heap.size≤w'.heap.size→∀g∈M,g<w'.heap.size:=fun w' h g hg=>by have:=hM g hg;omega
 refine a0a func64 Z ntmps64 Z ?_;refine wO1 Z (o0a S Z ?_);intro g1 w1 S1 X1 G1;refine lO S1.k [.w 0] Z ⟨⟨Z,Z⟩,U⟩ (h0a S1 S9c Z Z (m6b p M _ _ (hP.keep (S1.keep0 M))) ?_);rintro B0 E0 ⟨a1,_,rfl,c0⟩ f0 v0;refine lB1 Z (fun n0=>?_) fun n0=>?_
 ·refine lR1 Z (Q1b Z ?_);refine⟨⟨_,_,_,Z,iF (fun h=>?_)⟩,f0.fin⟩;have z1:=c0.2 (L9a h);omega
 refine lC1 Z (wL (fun μk D ε w=>D=[]∧∃k:Nat,∃ev:Int,(k+μk=(3))∧((1≤k→f9a p)∧(2≤k→k5b p)∧(3≤k→e1b p))∧St [] w0 w [(some g1,27,pL Ac nc cc Am nm cm Al nl cl At nt ct)]∧Sl ε [(1,.pointer (some ⟨g1,0,none⟩)),(5,.int .i64 ev),(7,.int .i64 k)]) (μ:=(3)) ⟨Z,0,a1,by omega,⟨fun h=>absurd h (by omega),fun h=>absurd h (by omega),fun h=>absurd h (by omega)⟩,f0,Z⟩ ?_);rintro μk D ε w ⟨rfl,k,ev,hk,hr,S,eZ⟩;refine wK eZ (wB1 Z (fun o0=>?_) fun o0=>?_)
 ·refine lB1 Z (fun p0=>?_) fun p0=>?_
  ·refine lO S.k [.w 0] Z ⟨⟨Z,Z⟩,U⟩ (h0a S j8c Z Z (Z9b p M _ _ (hP.keep (S.keep0 M)) hN) ?_);rintro v28 F0 ⟨a2,rfl,a0⟩ g0 x0;refine lB1 Z (fun d0=>?_) fun d0=>?_
   ·refine lR1 Z (Q1b Z ?_);refine⟨⟨_,_,_,Z,iF (fun h=>?_)⟩,g0.fin⟩;have z1:=c0.2 (L9a h)
    (have z2:=a0.2 ⟨h.cells,h.cellNames⟩;omega)
   refine lP1 Z ⟨μk-1,by omega,Z,k+1,(a2),by omega,?_,g0,Z⟩;have b0:=a0.1 (by omega);refine⟨fun h=>?_,fun h=>?_,fun h=>?_⟩;all_goals first
    | (exfalso;omega)
    | exact b0
  refine lB1 Z (fun q0=>?_) fun q0=>?_
  ·refine lO S.k [.w 0] Z ⟨⟨Z,Z⟩,U⟩ (h0a S z9c Z Z (p5b p M _ _ (hP.keep (S.keep0 M)) hN (e0 _ S.size)) ?_);rintro C0 G0 ⟨a2,rfl,a0⟩ i0 y0;refine lB1 Z (fun d0=>?_) fun d0=>?_
   ·refine lR1 Z (Q1b Z ?_);refine⟨⟨_,_,_,Z,iF (fun h=>?_)⟩,i0.fin⟩;have z1:=c0.2 (L9a h)
    (have z2:=a0.2 ⟨h.modules,h.moduleNames⟩;omega)
   refine lP1 Z ⟨μk-1,by omega,Z,k+1,(a2),by omega,?_,i0,Z⟩;have b0:=a0.1 (by omega);refine⟨fun h=>?_,fun h=>?_,fun h=>?_⟩;all_goals first
    | (exfalso;omega)
    | exact b0
    | exact hr.1 (by omega)
  refine lB1 Z (fun r0=>?_) (fun r0=>by exfalso;omega);refine lO S.k [.w 0] Z ⟨⟨Z,Z⟩,U⟩ (h0a S h1d Z Z (z9b p M _ _ (hP.keep (S.keep0 M)) (e0 _ S.size)) ?_);rintro D0 H0 ⟨a2,rfl,a0⟩ j0 z0;refine lB1 Z (fun d0=>?_) fun d0=>?_
  ·refine lR1 Z (Q1b Z ?_);refine⟨⟨_,_,_,Z,iF (fun h=>?_)⟩,j0.fin⟩;have z1:=c0.2 (L9a h)
   (have z2:=a0.2 ⟨h.locks,h.lockCells⟩;omega)
  refine lP1 Z ⟨μk-1,by omega,Z,k+1,(a2),by omega,?_,j0,Z⟩;have b0:=a0.1 (by omega);refine⟨fun h=>?_,fun h=>?_,fun h=>?_⟩;all_goals first
   | exact b0
   | exact hr.1 (by omega)
   | exact hr.2.1 (by omega)
 refine lC1 Z (wL (fun μk D ε w=>D=[]∧∃k:Nat,(k+μk=(p.threads.length))∧(∀j x,p.threads[j]?=some x→j<k→p5a p j x∧∀y∈p.threads.take j,y.name≠x.name)∧St [] w0 w [(some g1,27,pL Ac nc cc Am nm cm Al nl cl At nt ct)]∧Sl ε [(1,.pointer (some ⟨g1,0,none⟩)),(8,.int .i64 k)]) (μ:=(p.threads.length)) ⟨Z,0,by omega,(fun j x _ h=>absurd h (by omega)),S,Z⟩ ?_);rintro μk D ε w ⟨rfl,k,hk,ht,S,eZ⟩;refine wK eZ (wB S.k [.o 0] Z ⟨Z,U⟩ (fun s0=>?_) fun s0=>?_)
 ·refine lO S.k [.w 0] Z ⟨⟨Z,Z⟩,U⟩ (h0a S B8c Z Z (K6b p k M _ _ (hP.keep (S.keep0 M)) (e0 _ S.size) hN (c0.1 (by omega)) (by omega)) ?_);rintro v50 I0 ⟨_,_,rfl,b0⟩ m0 A0;refine lB1 Z (fun t0=>?_) fun t0=>?_
  ·refine lR1 Z (Q1b Z ?_);refine⟨⟨_,_,_,Z,iF (fun h=>?_)⟩,m0.fin⟩;have z1:=c0.2 (L9a h)
   (have z3:=b0.2 (fun x hx=>⟨K1d h hx,k9c h.threadNames hx⟩);omega)
  refine lP1 Z ⟨μk-1,by omega,Z,k+1,by omega,?_,m0,Z⟩;intro j x hx hj;by_cases u0:j=k
  ·subst u0;exact b0.1 (by omega) x hx
  ·exact ht j x hx (by omega)
 refine lR1 Z (Q1b Z ?_);refine⟨⟨_,_,_,Z,iff_of_true (by omega) ?_⟩,S.fin⟩;have h1:=c0.1 (by omega);have h2:=hr.1 (by omega);have h3:=hr.2.1 (by omega);have h4:=hr.2.2 (by omega);exact⟨h1.1,h1.2.1,h1.2.2.1,h1.2.2.2.1,h2.1,h2.2,h3.1,h3.2,h4.1,h4.2,fun t h=>(ht t _ (List.getElem?_eq_getElem h) (by omega)).1,T9a (fun j x hx=>(ht j x hx (by have:=t5a hx;omega)).2)⟩
open Go.Maps (Keyed)
section
variable {K':List Deferred→Env→World→Prop} {d:Nat} {t:TypeId} {p:String} {af:Array Edge} {f:FuncId} {args:Array Operand} {at_:Array TypeId} {vs:LV} {x y z:Operand}
theorem O6b{g:Operand}{first caps:Array Value}{R:Value→World→Prop}(hH:Has P f)(hg:ev e g=.func (.func f) first caps)(a0:first.toList++args.toList.map (ev e)++caps.toList=vs)(hd:Nat.ble (d+1) N=true)
 (hc:A0a P f vs.toArray w R) (h:∀v w',R v w'→WL P r N ops rest K D (upd e d v) w') :
 WL P r N ops (⟨some d,.call { callee:=.value g,args:=args,argTypes:=at_ },t,p,af,none⟩::rest) K D e w:=by
 refine E7b Z Z hd ?_ hc h;subst a0;have:(first++args.map (ev e)++caps)=(first.toList++args.toList.map (ev e)++caps.toList).toArray:=by apply Array.ext';simp
 simp[execOp,resolve,Deferred.ofValue,invoke,hg,hH _ w,this]
theorem s2a{fn:Fn}{b0 a0:Array Operand}{us vs:LV}(c0:b0.toList.map (ev e)=us)(d0:a0.toList.map (ev e)=vs)(hd:Nat.ble (d+1) N=true)(h:WL P r N ops rest K D (upd e d (.func fn us.toArray vs.toArray)) w):
 WL P r N ops (⟨some d,.makeFunc fn b0 a0,t,p,af,none⟩::rest) K D e w:=by
 have hc:(a0.map (ev e))=vs.toArray:=by subst d0;apply Array.ext';simp
 have hf:(b0.map (ev e))=us.toArray:=by subst c0;apply Array.ext';simp
 exact U0a Z Z hd (by simp[execOp,Instr.makeFunc,hc,hf]) h
def G2a(P:Program)(M:List Nat)(w:World)(v:Value)(q:Int→Bool):Prop :=
 ∃f first caps,v=.func (.func f) first caps∧Has P f∧∀w',x0a M w w'→∀c,i64 c→A0a P f (first.toList++[Value.int .i64 c]++caps.toList).toArray w' fun v w''=>v=.bool (q c)∧Below w'.heap.size w' w''
theorem G2a.keep{v:Value}{q:Int→Bool}{w':World}(h:G2a P M w v q)(hk:x0a M w w'):G2a P M w' v q:=by
 obtain⟨f,first,caps,h1,h2,h3⟩:=h;exact⟨f,first,caps,h1,h2,fun b0 a0=>h3 b0 (hk.trans a0)⟩
theorem G2a.less{M':List Nat}{v:Value}{q:Int→Bool}(h:G2a P M w v q)(hM:∀g∈M',g∈M):G2a P M' w v q:=by
 obtain⟨f,first,caps,h1,h2,h3⟩:=h;exact⟨f,first,caps,h1,h2,fun b0 a0=>h3 b0 (a0.mono hM)⟩
theorem K7a{M':List Nat}{g:Operand}{c:Int}{q:Int→Bool}{v:Value}{a:Operand}(S:St M w0 w L)(hp:G2a P M' w v q)(hg:ev e g=v)(ha:ev e a=.int .i64 c)(hc:i64 c)(hd:Nat.ble (d+1) N=true)
 (h1:q c=true→∀w1,St M w0 w1 L→x0a [] w w1→WL P r N ops rest K D (upd e d (.bool true)) w1) (h2:q c=false→∀w1,St M w0 w1 L→x0a [] w w1→WL P r N ops rest K D (upd e d (.bool false)) w1) :
 WL P r N ops (⟨some d,.call { callee:=.value g,args:=#[a],argTypes:=at_ },t,p,af,none⟩::rest) K D e w:=by
 obtain⟨_,_,_,rfl,hH,hf⟩:=hp;refine O6b hH hg (by simp[ha]) hd (hf w (x0a.refl _ _) c hc) fun v w' ⟨hv,hb⟩=>?_;subst hv;cases hq:q c
 ·exact h2 hq w' (S.later hb) (x0a.of_below hb)
 ·exact h1 hq w' (S.later hb) (x0a.of_below hb)
def g3a(P:Program)(k:TypeId)(w:World)(b:Nat)(l:List (Value×Value)):Prop :=
 ∃es clock,w.heap[b]?=some (.map es clock)∧es.toList.map (fun x=>(x.key,x.val))=l∧∀x∈l,∃q,keyOf P k x.1=some q
theorem g3a.keep{k:TypeId}{b:Nat}{l:List (Value×Value)}{w':World}(h:g3a P k w b l)(hk:x0a M w w')(hb:b∉M):g3a P k w' b l:=by
 obtain⟨es,a0,h1,h2,h3⟩:=h;refine⟨es,a0,?_,h2,h3⟩;rw[hk.same b (Array.getElem?_eq_some_iff.1 h1).1 hb];exact h1
theorem g3a.lt{k:TypeId}{b:Nat}{l:List (Value×Value)}(h:g3a P k w b l):b<w.heap.size:=by
 obtain⟨_,_,h1,_⟩:=h;exact(Array.getElem?_eq_some_iff.1 h1).1
theorem g3a.ne{k:TypeId}{b g tb:Nat}{cs:LV}{l:List (Value×Value)}(h:g3a P k w b l)(hg:p0a w (g,tb,cs)):b≠g:=by
 obtain⟨_,_,h1,_⟩:=h;rintro rfl;unfold p0a at hg;rw[h1] at hg;cases hg
theorem St.notMap{k:TypeId}{b:Nat}{l:List (Value×Value)}(S:St M w0 w L)(h:g3a P k w b l):∀x∈L,x.1≠some b:=fun x hx hb=>by
 have:=(S.own x hx b hb).2;exact h.ne this Z
theorem T4a{k ty:TypeId}(S:St M w0 w L)(hd:Nat.ble (d+1) N=true)
 (h:∀g w1,St M w0 w1 L→x0a [] w w1→w.heap.size≤g→g3a P k w1 g []→WL P r N ops rest K D (upd e d (.map (some g))) w1) :
 WL P r N ops (⟨some d,.makeMap ty none,t,p,af,none⟩::rest) K D e w:=by
 refine U0a (v:=.map (some w.heap.size)) (w':=w.alloc (.map #[] 0)) Z Z hd ?_ (h _ _ (S.keeps (S.below.alloc _) fun b hb g hg=>Below.heap_alloc w _ g ((S.own b hb g hg).2.lt)) (G1a _ _ _) (Nat.le_refl _) ⟨#[],0,(MapKept.heap_alloc w _).1,Z,by simp⟩);simp[execOp,run_makeMap]
theorem O5c{k el:TypeId}{ty b:Nat}{l:List (Value×Value)}{key zv:Value}{q:Lit}(ok:Bool)(K:Keyed P k)(ht:P.underlying ty=some (.map k el))(hz:∀w,(zeroValue el).run P w=.ok zv w)(h:g3a P k w b l)(a0:keyOf P k key=some q):
 ((Instr.lookup ty (.map (some b)) key ok).run P w=.ok (if ok then .tuple #[zv,.bool false] else zv) w∧∀x∈l,x.1≠key) ∨
 ∃v,(key,v)∈l∧(Instr.lookup ty (.map (some b)) key ok).run P w=.ok (if ok then .tuple #[v,.bool true] else v) w:=by
 obtain⟨es,_,h1,rfl,h3⟩:=h;rcases K.find w a0 es.toList (fun x hx=>h3 _ (List.mem_map.2 ⟨x,hx,Z⟩)) with⟨h4,h5⟩|⟨j,e0,h4,h5,h6⟩
 ·refine .inl ⟨by simp[Instr.lookup,run_underlying ht,MapKept.run_getObj_map h1,K.check w _ a0,h4,hz w,Result.andThen],fun x hx=>?_⟩;obtain⟨y,hy,rfl⟩:=List.mem_map.1 hx;exact h5 y hy
 ·refine .inr ⟨e0.val,List.mem_map.2 ⟨e0,List.mem_of_getElem? h5,by rw[←h6]⟩,by simp[Instr.lookup,run_underlying ht,MapKept.run_getObj_map h1,K.check w _ a0,h4,Result.andThen]⟩
theorem F3c{k el:TypeId}{ty b:Nat}{l:List (Value×Value)}{key zv:Value}{q:Lit}(K:Keyed P k)(ht:P.underlying ty=some (.map k el))(hz:∀w,(zeroValue el).run P w=.ok zv w)(h:g3a P k w b l)(hx:ev e x=.map (some b))(hy:ev e y=key)(a0:keyOf P k key=some q)(hd:Nat.ble (d+1) N=true)
 (h1:∀v,(key,v)∈l→WL P r N ops rest K' D (upd e d (.tuple #[v,.bool true])) w) (h2:(∀x∈l,x.1≠key)→WL P r N ops rest K' D (upd e d (.tuple #[zv,.bool false])) w) :
 WL P r N ops (⟨some d,.lookup ty x y true,t,p,af,none⟩::rest) K' D e w:=by
 rcases O5c true K ht hz h a0 with⟨h4,h5⟩|⟨v,h4,h5⟩
 ·exact U0a Z Z hd (by simp[execOp,hx,hy,h4]) (h2 h5)
 ·exact U0a Z Z hd (by simp[execOp,hx,hy,h5]) (h1 v h4)
theorem c4c{k el:TypeId}{ty b:Nat}{l:List (Value×Value)}{key v:Value}{q:Lit}(S:St M w0 w L)(K:Keyed P k)(ht:P.underlying ty=some (.map k el))(h:g3a P k w b l)(hx:ev e x=.map (some b))(hy:ev e y=key)(hz:ev e z=v)(c0:keyOf P k key=some q)(f0:∀x∈l,x.1≠key)(hb:w0.heap.size≤b∨b∈M)
 (hk:∀w1,St M w0 w1 L→x0a [b] w w1→g3a P k w1 b (l++[(key,v)])→WL P r N ops rest K' D e w1) :
 WL P r N ops (⟨none,.mapUpdate ty x y z,t,p,af,none⟩::rest) K' D e w:=by
 have d0:=h;obtain⟨es,a0,h1,rfl,h3⟩:=h;have g0:b<w.heap.size:=(Array.getElem?_eq_some_iff.1 h1).1;have b0:∀g,g≠b→(w.heap.setIfInBounds b (.map (es.push ⟨key,v,a0⟩) (a0+1)))[g]?=w.heap[g]?:=fun g hg=>Array.getElem?_setIfInBounds_ne (fun e=>hg e.symm);rcases K.find w c0 es.toList (fun x hx=>h3 _ (List.mem_map.2 ⟨x,hx,Z⟩)) with⟨h4,h5⟩|⟨j,e0,h4,h5,h6⟩
 ·refine t9a (w':={ w with heap:=w.heap.setIfInBounds b (.map (es.push ⟨key,v,a0⟩) (a0+1)) }) Z Z ?_ (hk _ ?_ ?_ ?_)
  ·simp[execOp,hx,hy,hz,Instr.mapUpdate,run_underlying ht,MapKept.run_getObj_map h1,K.check w false c0,h4,MapKept.run_setObj_map _ h1,Result.andThen]
  ·refine S.keeps ⟨S.below.os,S.below.tape,S.below.output,by simpa using S.below.size,fun g hg hm=>?_⟩ (fun x hx g hg=>b0 g (fun hh=>S.notMap d0 x hx (hh▸hg)));refine(b0 g (fun hh=>?_)).trans (S.below.block g hg hm);subst hh;rcases hb with hb|hb
   ·omega
   ·exact hm hb
  ·exact⟨by simp,fun g _ hm=>b0 g (fun hh=>hm (by simp[hh]))⟩
  ·refine⟨es.push ⟨key,v,a0⟩,a0+1,by simp[g0],by simp,fun x hx=>?_⟩;rcases List.mem_append.1 hx with hx|hx
   ·exact h3 x hx
   ·rw[List.mem_singleton.1 hx];exact⟨q,c0⟩
 ·exact absurd h6 (f0 _ (List.mem_map.2 ⟨e0,List.mem_of_getElem? h5,Z⟩))
theorem St.reflM(M:List Nat)(w:World):St M w w []:=⟨H0a.refl _ _,by simp,by simp⟩
theorem St.turned{b:Nat}{w1:World}{k:TypeId}{l:List (Value×Value)}(S:St M w0 w L)(hm:g3a P k w b l)(hb:w0.heap.size≤b∨b∈M)(h:H0a [b] w w1):St M w0 w1 L :=
 S.keeps ⟨h.os.trans S.below.os,h.tape.trans S.below.tape,h.output.trans S.below.output,Nat.le_trans S.below.size h.size,fun g hg a0=>(h.block g (Nat.lt_of_lt_of_le hg S.below.size) (fun hh=>by
  rw[List.mem_singleton] at hh;subst hh;rcases hb with hb|hb
  ·omega
  ·exact a0 hb)).trans (S.below.block g hg a0)⟩
  fun x hx g hg=>h.block g (S.own x hx g hg).2.lt (fun hh=>by rw[List.mem_singleton] at hh;subst hh;exact S.notMap hm x hx hg)
variable {kd k2:IntKind} {a:Int} {src dst xt yt:TypeId}
theorem o9c{ds:TypeDesc}(hs:P.underlying src=some ds)(ht:P.underlying dst=some (.int k2))(hx:ev e x=.int kd a)(hd:Nat.ble (d+1) N=true)(h:WL P r N ops rest K D (upd e d (.int k2 (k2.wrap a))) w):
 WL P r N ops (⟨some d,.convert src dst x,t,p,af,none⟩::rest) K D e w :=
 U0a Z Z hd (by simp[execOp,hx,convert,run_underlying hs,run_underlying ht,Conv.intToInt]) h
theorem c0d{n:Nat}(hx:ev e x=.int .i64 1)(hy:ev e y=.int kd (n:Int))(hn:n≤62)(hd:Nat.ble (d+1) N=true)(h:WL P r N ops rest K D (upd e d (.int .i64 ((2 ^ n:Nat):Int))) w):
 WL P r N ops (⟨some d,.binOp .shl xt x y yt,t,p,af,none⟩::rest) K D e w :=
 U0a Z Z hd (by
  have h2:(2:Nat) ^ n≤2 ^ 62:=Nat.pow_le_pow_right (by omega) hn;have h3:min n IntKind.i64.bits=n:=by simp[IntKind.bits];omega
  have h4:((1:Int)*2 ^ n)=((2 ^ n:Nat):Int):=by simp
  have h5:IntKind.i64.wrap ((2 ^ n:Nat):Int)=((2 ^ n:Nat):Int):=by
   generalize (2:Nat) ^ n=q at h2;exact Z5a ⟨by omega,by omega⟩
  have h6:¬((n:Int)<0):=by omega
  simp only[execOp,hx,hy,eqGuard_shl,binOp_shl,Op.shift,h6,if_false,Int.toNat_natCast,h3,h4,h5,Sem.run_bind,Sem.run_pure,Result.andThen_ok]) h
end
def RdP(M:List Nat)(w:World)(e:E)(b o:Nat):Prop:=b∉M∧∃cs,Cells w b o cs∧RdE M w e cs
theorem RdP.keep{M:List Nat}{w w':World}{e:E}{b o:Nat}(h:RdP M w e b o)(hk:x0a M w w'):RdP M w' e b o:=by
 obtain⟨h1,cs,h2,h3⟩:=h;exact⟨h1,cs,h2.keep hk h1,RdE.keep hk _ _ h3⟩
theorem RdP.more{M M':List Nat}{w:World}{e:E}{b o:Nat}(h:RdP M w e b o)(hM:∀g∈M',g∈M∨w.heap.size≤g):RdP M' w e b o:=by
 obtain⟨h1,cs,h2,h3⟩:=h;refine⟨fun hh=>?_,cs,h2,RdE.more hM _ _ h3⟩;rcases hM b hh with h|h
 ·exact h1 h
 ·have hl:=h3.length;have:=World.block_lt_of_cell? w _ (h2 0 cs[0] (List.getElem?_eq_getElem (by omega)));simp at this;omega
theorem RdP.less{M M':List Nat}{w:World}{e:E}{b o:Nat}(h:RdP M w e b o)(hM:∀g∈M',g∈M):RdP M' w e b o:=by
 obtain⟨h1,cs,h2,h3⟩:=h;exact⟨fun hh=>h1 (hM b hh),cs,h2,RdE.less hM _ _ h3⟩
theorem RdP.kid{M:List Nat}{w:World}{e:E}{b o:Nat}(hb:b∉M)(b0:∀(i:Nat) (h:i<e.kids.length),∃a0,Cells w b (o+i*4) a0∧RdE M w e.kids[i] a0)(i:Nat)(hi:i<e.kids.length):RdP M w e.kids[i] b (o+i*4):=by
 obtain⟨cs,h1,h2⟩:=b0 i hi;exact⟨hb,cs,h1,h2⟩
theorem RdP.open_{M:List Nat}{w:World}{e:E}{b o:Nat}(h:RdP M w e b o):b∉M∧i64 e.op∧i64 e.w∧i64 e.n∧w.cell? ⟨b,o,none⟩=some (.int .i64 e.op)∧w.cell? ⟨b,o+1,none⟩=some (.int .i64 e.w)∧w.cell? ⟨b,o+2,none⟩=some (.int .i64 e.n) ∧
 ∃A n c,w.cell? ⟨b,o+3,none⟩=some (.slice A n c)∧n=e.kids.length∧n≤c∧c≤maxLen∧n≤140737488355328 ∧
 (0<n→∃b o,A=some ⟨b,o,none⟩∧b∉M∧∀(i:Nat) (h:i<e.kids.length),∃a0,Cells w b (o+i*4) a0∧RdE M w e.kids[i] a0)∧RdE M w e [.int .i64 e.op,.int .i64 e.w,.int .i64 e.n,.slice A n c]:=by
 obtain⟨h1,_,h2,h3⟩:=h;obtain⟨A,n,c,rfl,o1,o2,o3,h4,h5,h6,h7,h8⟩:=h3.open_;exact⟨h1,o1,o2,o3,h2 0 _ Z,h2 1 _ Z,h2 2 _ Z,A,n,c,h2 3 _ Z,h4,h5,h6,h7,h8,h3⟩
def W1a(M:List Nat)(w:World):Prop:=1∉M∧∀i:Nat,i≤8→w.cell? ⟨1,i,none⟩=some (.int .i64 (H3a i-1))
theorem W1a.keep{M:List Nat}{w w':World}(h:W1a M w)(hk:x0a M w w'):W1a M w':=⟨h.1,fun i hi=>hk.cell (a:=⟨1,i,none⟩) h.1 (h.2 i hi)⟩
theorem W1a.more{M M':List Nat}{w:World}(h:W1a M w)(hM:∀g∈M',g∈M∨w.heap.size≤g):W1a M' w:=by
 refine⟨fun hh=>?_,h.2⟩;rcases hM _ hh with h'|h'
 ·exact h.1 h'
 ·have:=World.block_lt_of_cell? w _ (h.2 0 (by omega));simp at this;omega
theorem W1a.at{M:List Nat}{w:World}(h:W1a M w){x:Int}(h0:0≤x)(h8:x≤8):w.cell? ⟨1,0+x.toNat*1,none⟩=some (.int .i64 (H3a x.toNat-1)):=by
 have:=h.2 x.toNat (by omega);simpa using this
theorem St.ne{M:List Nat}{w0 w:World}{L:List Ent}(S:St M w0 w L)(i j:Nat){g g' t t':Nat}{cs a0:LV}(hi:L[i]?=some (some g,t,cs))(hj:L[j]?=some (some g',t',a0))(b0:i<j):g≠g':=by
 obtain⟨h1,e1⟩:=List.getElem?_eq_some_iff.1 hi;obtain⟨h2,e2⟩:=List.getElem?_eq_some_iff.1 hj;have:=List.pairwise_iff_getElem.1 S.apart i j h1 h2 b0 g (by rw[e1]);rw[e2] at this;exact fun h=>this (by rw[h])
def P1b(e:E)(ws:List Int):Bool:=decide (e.kids.length=ws.length∧∀j,j<ws.length→e.kw j=ws.getD j 0)
theorem B3c{e:E}{a:Int}:P1b e [a]=true↔e.kids.length=1∧e.kw 0=a:=by
 simp only[P1b,decide_eq_true_eq,List.length_cons,List.length_nil];constructor
 ·rintro⟨h1,h2⟩;exact⟨h1,by simpa using h2 0 (by omega)⟩
 ·rintro⟨h1,h2⟩;exact⟨h1,fun j hj=>by obtain rfl:j=0:=by omega
                                      simpa using h2⟩
theorem Y3a{e:E}{a b:Int}:P1b e [a,b]=true↔e.kids.length=2∧e.kw 0=a∧e.kw 1=b:=by
 simp only[P1b,decide_eq_true_eq,List.length_cons,List.length_nil];constructor
 ·rintro⟨h1,h2⟩;exact⟨h1,by simpa using h2 0 (by omega),by simpa using h2 1 (by omega)⟩
 ·rintro⟨h1,h2,h3⟩;refine⟨h1,fun j hj=>?_⟩;rcases(show j=0∨j=1 by omega) with rfl|rfl
  ·simpa using h2
  ·simpa using h3
theorem o1c{e:E}{a b c:Int}:P1b e [a,b,c]=true↔e.kids.length=3∧e.kw 0=a∧e.kw 1=b∧e.kw 2=c:=by
 simp only[P1b,decide_eq_true_eq,List.length_cons,List.length_nil];constructor
 ·rintro⟨h1,h2⟩;exact⟨h1,by simpa using h2 0 (by omega),by simpa using h2 1 (by omega),by simpa using h2 2 (by omega)⟩
 ·rintro⟨h1,h2,h3,h4⟩;refine⟨h1,fun j hj=>?_⟩;rcases(show j=0∨j=1∨j=2 by omega) with rfl|rfl|rfl
  ·simpa using h2
  ·simpa using h3
  ·simpa using h4
theorem p3a{w0 w:World}{L:List Ent}{k g el n:Nat}{M M':List Nat}{l:List Int}(S:St M' w0 w L)(hk:L[k]?=some (some g,el,l.map (Value.int .i64)))(hn:n=l.length)(hl:∀x∈l,i64 x)(hM:g∉M:=by simp)(hb:n≤140737488355328:=by omega):RdI M w (.slice (some ⟨g,0,none⟩) n n) l :=
 S.rd1 hk hM hn hb fun i x hi=>⟨.int .i64 x,by simp[hi],Z,hl x (List.mem_of_getElem? hi)⟩
theorem x6a(e:E)(M:List Nat)(w0:World)(v0 v1 v2:Value)(A:Option Addr)(n c:Nat)(vw:Value)(ws:List Int)(hR:RdE M w0 e [v0,v1,v2,.slice A n c])(hW:RdI M w0 vw ws):
 A0a prog 198 #[.slice A n c,vw] w0 fun v w'=>v=.bool (P1b e ws)∧Bw w0 w':=by
 obtain⟨A',n',c',n0,_,_,_,_,_,_,_,u0⟩:=hR.open_;obtain⟨rfl,rfl,rfl,rfl,rfl,rfl⟩:v0=.int .i64 e.op∧v1=.int .i64 e.w∧v2=.int .i64 e.n∧A=A'∧n=n'∧c=c':=by simpa using n0
 clear n0;obtain⟨Aw,nw,cw,rfl⟩:=hW.form;obtain⟨_,_,_,_,r0⟩:=hW.at;have S:=St.refl w0;refine a0a func198 Z ntmps198 Z ?_;refine wB1 Z (fun o0=>?_) fun o0=>?_
 ·refine lU Z Z ⟨cB ?_,S.fin⟩;unfold P1b;exact(decide_eq_false (fun h=>by have:=h.1;omega)).symm
 refine lC1 Z (wL (fun μ D ε w=>D=[]∧∃k:Nat,(k+μ=ws.length)∧(∀(j:Nat),j<k→e.kw j=ws.getD j 0)∧St [] w0 w []∧ε 0=.slice A n c∧ε 12=.slice Aw nw cw∧ε 13=.int .i64 nw∧ε 14=.int .i64 k) (μ:=ws.length) ⟨Z,0,by omega,fun j h=>absurd h (by omega),S,Z,Z,Z,Z⟩ ?_);rintro μ D ε w ⟨rfl,k,_,hs,S,e0,i0,j0,m0⟩;refine q0a 0 e0 (q0a 12 i0 (q0a 13 j0 (q0a 14 m0 ?_)));clear e0 i0 j0 m0;refine wB1 Z (fun p0=>?_) fun p0=>?_
 ·refine lO1 Z ?_;have a0:k<ws.length:=by omega
  obtain⟨bw,ow,_,_,q0⟩:=r0 (by omega);obtain⟨_,_,f0,g0⟩:=q0 k ws[k] (List.getElem?_eq_getElem a0);have d0:w0.cell? ⟨bw,ow+k*1,none⟩=some (.int .i64 ws[k]):=f0 0 _ (by rw[g0.1];rfl);refine N0a R0a.slT Z (by assumption) Z Z ?_;refine G0a E0a Z (by exact S.old d0) Z ?_;refine lO1 Z ?_;obtain⟨b,o,_,_,t0⟩:=u0 (by omega);have c0:w0.cell? ⟨b,o+k*4+1,none⟩=some (.int .i64 (e.kw k)):=w1a t0 k (by omega);refine N0a T0a.slT Z (by assumption) Z Z ?_;refine lO1 Z (G0a E0a Z (by exact S.old c0) Z ?_);refine lB1 Z (fun b0=>?_) fun b0=>?_
  ·refine lU Z Z ⟨cB ?_,S.fin⟩;unfold P1b;exact(decide_eq_false (fun h=>b0 (by have:=h.2 k a0;simpa[a0] using this))).symm
  refine lP1 Z ⟨μ-1,by omega,Z,k+1,by omega,fun j h=>?_,S,Z,Z,Z,Z⟩;by_cases s0:j=k
  ·subst s0;simpa[a0] using b0
  ·exact hs j (by omega)
 refine lU Z Z ⟨cB ?_,S.fin⟩;unfold P1b;exact(decide_eq_true ⟨by omega,fun j hj=>hs j (by omega)⟩).symm
theorem b1c(e:E)(M:List Nat)(w0:World)(b o:Nat)(hR:RdP M w0 e b o)(hK:W1a M w0):
 A0a prog 146 #[.pointer (some ⟨b,o,none⟩)] w0 fun v w'=>v=.bool e.shapeB∧Bw w0 w':=by
 obtain⟨_,_,o2,_,c0,c1,c2,_,_,_,c3,_,_,_,_,W0,z0⟩:=hR.open_;have S:=St.refl w0;refine a0a func146 Z ntmps146 Z ?_;refine wO1 Z (G0a E0a Z (by exact S.old c1) Z ?_);refine lB1 Z (fun h7=>?_) fun h7=>?_
 ·refine lR1 Z (w0a Z ?_);exact⟨by exact SN,S.fin⟩
 refine lO1 Z (G0a E0a Z (by exact S.old c1) Z ?_);refine lB1 Z (fun f1=>?_) fun f1=>?_
 ·refine lR1 Z (w0a Z ?_);exact⟨by exact SN,S.fin⟩
 refine lO1 Z (G0a E0a Z (by exact S.old c0) Z ?_);refine lB1 Z (fun g1=>?_) fun g1=>?_
 ·refine lC1 Z (y0a b0a [0,1,2,3,4,5,6,7,8,9,10,11,12,13,14,15,16,17,18,19,20,21,22,23,24,25,26] [] [] Z (Cl _ _ _ _) (Cl.start S) ?_);refine qO1 Z (j0a Q1a Z (fun w1 hw=>by exact hw.1.old c3) Z ?_);refine qB1 Z (fun i1=>?_) fun i1=>?_
  ·refine qO1 Z (j0a E0a Z (fun w1 hw=>by exact hw.1.old c2) Z ?_);refine qB1 Z (fun j1=>?_) fun j1=>?_
   ·refine qO1 Z (j0a E0a Z (fun w1 hw=>by exact hw.1.old c2) Z ?_);refine qO1 Z (j0a E0a Z (fun w1 hw=>by exact hw.1.old c1) Z ?_);refine qO1 Z (v0a h3b Z Z Z ?_);refine qO1 Z (j0a E0a Z (fun w1 hw=>by exact hw.1.old (hK.at (by omega) (by omega))) Z ?_);refine qB1 Z (fun m1=>?_) fun m1=>?_
    ·refine lV Z ?_;rintro Z0 ⟨C0,N0⟩;refine lR1 Z (w0a Z ?_);exact⟨by exact ST1,C0.fin⟩
    refine lV Z ?_;rintro Z0 ⟨C0,N0⟩;refine lR1 Z (w0a Z ?_);exact⟨by exact SF1,C0.fin⟩
   refine lV Z ?_;rintro Z0 ⟨C0,N0⟩;refine lR1 Z (w0a Z ?_);exact⟨by exact SF1,C0.fin⟩
  refine lV Z ?_;rintro Z0 ⟨C0,N0⟩;refine lR1 Z (w0a Z ?_);exact⟨by exact SF1,C0.fin⟩
 refine lB1 Z (fun n1=>?_) fun n1=>?_
 ·refine lO1 Z (G0a Q1a Z (by exact S.old c3) Z ?_);refine lB1 Z (fun S0=>?_) fun S0=>?_
  ·refine lO1 Z (G0a E0a Z (by exact S.old c2) Z ?_);refine lB1 Z (fun T0=>?_) fun T0=>?_
   ·refine lO1 Z (G0a E0a Z (by exact S.old c2) Z ?_);refine lB1 Z (fun U0=>?_) fun U0=>?_
    ·refine lR1 Z (w0a Z ?_);exact⟨by exact ST2,S.fin⟩
    refine lR1 Z (w0a Z ?_);exact⟨by exact SF2,S.fin⟩
   refine lR1 Z (w0a Z ?_);exact⟨by exact SF2,S.fin⟩
  refine lR1 Z (w0a Z ?_);exact⟨by exact SF2,S.fin⟩
 refine lB1 Z (fun o1=>?_) fun o1=>?_
 ·refine lO1 Z (G0a Q1a Z (by exact S.old c3) Z ?_);refine lB1 Z (fun S0=>?_) fun S0=>?_
  ·refine lO1 Z (G0a E0a Z (by exact S.old c2) Z ?_);refine lB1 Z (fun T0=>?_) fun T0=>?_
   ·refine lO1 Z (G0a E0a Z (by exact S.old c2) Z ?_);refine lB1 Z (fun U0=>?_) fun U0=>?_
    ·refine lR1 Z (w0a Z ?_);exact⟨by exact ST2,S.fin⟩
    refine lR1 Z (w0a Z ?_);exact⟨by exact SF2,S.fin⟩
   refine lR1 Z (w0a Z ?_);exact⟨by exact SF2,S.fin⟩
  refine lR1 Z (w0a Z ?_);exact⟨by exact SF2,S.fin⟩
 refine lO1 Z (G0a E0a Z (by exact S.old c2) Z ?_);refine lB1 Z (fun p1=>?_) fun p1=>?_
 ·refine lR1 Z (w0a Z ?_);exact⟨by exact z6a (fun⟨x1,x2,x3⟩=>by omega),S.fin⟩
 refine lO1 Z (G0a E0a Z (by exact S.old c0) Z ?_);refine lB1 Z (fun q1=>?_) fun q1=>?_
 ·refine lC1 Z (y0a b0a [0,1,2,3,4,5,6,7] [8] [9,10] Z (Cl _ _ _ _) (Cl.start S) ?_);refine qO1 Z (j0a Q1a Z (fun w1 hw=>by exact hw.1.old c3) Z ?_);refine qO1 Z (j0a E0a Z (fun w1 hw=>by exact hw.1.old c1) Z ?_);refine qN1 Z (h4a ?_);refine N3a Z Z R0a (vs:=[.int .i64 _]) (cs:=[_]) Z Z Z Z Z ?_;refine O1a ?_;rintro A1 ⟨p0,_⟩;intro C1 V0 a1 X0;dsimp only[V3a];clear X0;replace p0:=p0.push_new S V0 a1;refine i0a p0 P6a Z Z (x6a e [] _ _ _ _ _ _ _ _ [e.w] (RdE.less (by simp) _ _ (RdE.keep (p0.keep0 M) _ _ z0)) (p3a (k:=0) p0 Z Z (by simpa using o2))) (fun I0 z1 K0 b1=>?_) (fun I0 z1 K0 b1=>?_)
  ·refine lR1 Z (w0a Z ?_);exact⟨by exact ST4 (by have:=B3c.1 I0;omega),K0.fin⟩
  refine lR1 Z (w0a Z ?_);exact⟨by exact SF4 (g:=(fun g=>by rw[B3c.2 (by omega)] at I0;cases I0)),K0.fin⟩
 refine lB1 Z (fun r1=>?_) fun r1=>?_
 ·refine lC1 Z (y0a b0a [0,1,2,3,4,5,6,7,8,9,10,11] [12] [13,14] Z (Cl _ _ _ _) (Cl.start S) ?_);refine qO1 Z (j0a Q1a Z (fun w1 hw=>by exact hw.1.old c3) Z ?_);refine qO1 Z (j0a E0a Z (fun w1 hw=>by exact hw.1.old c1) Z ?_);refine qO1 Z (j0a E0a Z (fun w1 hw=>by exact hw.1.old c1) Z ?_);refine qN1 Z (h4a ?_);refine N3a Z Z R0a (vs:=[.int .i64 _,.int .i64 _]) (cs:=[_,_]) Z Z Z Z Z ?_;refine O1a ?_;rintro x0 ⟨a0,r0⟩;intro s0 f0 i0 g0;dsimp only[V3a];clear g0;replace a0:=a0.push_new S f0 i0;refine i0a a0 P6a Z Z (x6a e [] _ _ _ _ _ _ _ _ [e.w,e.w] (RdE.less (by simp) _ _ (RdE.keep (a0.keep0 M) _ _ z0)) (p3a (k:=0) a0 Z Z (by simpa using o2))) (fun b0 n0 d0 j0=>?_) (fun b0 n0 d0 j0=>?_)
  ·refine lR1 Z (w0a Z ?_);exact⟨by exact ST5 (by have:=Y3a.1 b0;omega),d0.fin⟩
  refine lR1 Z (w0a Z ?_);exact⟨by exact SF5 (fun g=>by rw[Y3a.2 (by omega)] at b0;cases b0),d0.fin⟩
 refine lB1 Z (fun s1=>?_) fun s1=>?_
 ·refine lC1 Z (y0a b0a [0,1,2,3,4,5,6,7,8,9,10,11] [12] [13,14] Z (Cl _ _ _ _) (Cl.start S) ?_);refine qO1 Z (j0a Q1a Z (fun w1 hw=>by exact hw.1.old c3) Z ?_);refine qO1 Z (j0a E0a Z (fun w1 hw=>by exact hw.1.old c1) Z ?_);refine qO1 Z (j0a E0a Z (fun w1 hw=>by exact hw.1.old c1) Z ?_);refine qN1 Z (h4a ?_);refine N3a Z Z R0a (vs:=[.int .i64 _,.int .i64 _]) (cs:=[_,_]) Z Z Z Z Z ?_;refine O1a ?_;rintro x0 ⟨a0,r0⟩;intro s0 f0 i0 g0;dsimp only[V3a];clear g0;replace a0:=a0.push_new S f0 i0;refine i0a a0 P6a Z Z (x6a e [] _ _ _ _ _ _ _ _ [e.w,e.w] (RdE.less (by simp) _ _ (RdE.keep (a0.keep0 M) _ _ z0)) (p3a (k:=0) a0 Z Z (by simpa using o2))) (fun b0 n0 d0 j0=>?_) (fun b0 n0 d0 j0=>?_)
  ·refine lR1 Z (w0a Z ?_);exact⟨by exact ST5 (by have:=Y3a.1 b0;omega),d0.fin⟩
  refine lR1 Z (w0a Z ?_);exact⟨by exact SF5 (fun g=>by rw[Y3a.2 (by omega)] at b0;cases b0),d0.fin⟩
 refine lB1 Z (fun t1=>?_) fun t1=>?_
 ·refine lC1 Z (y0a b0a [0,1,2,3,4,5,6,7,8,9,10,11] [12] [13,14] Z (Cl _ _ _ _) (Cl.start S) ?_);refine qO1 Z (j0a Q1a Z (fun w1 hw=>by exact hw.1.old c3) Z ?_);refine qO1 Z (j0a E0a Z (fun w1 hw=>by exact hw.1.old c1) Z ?_);refine qO1 Z (j0a E0a Z (fun w1 hw=>by exact hw.1.old c1) Z ?_);refine qN1 Z (h4a ?_);refine N3a Z Z R0a (vs:=[.int .i64 _,.int .i64 _]) (cs:=[_,_]) Z Z Z Z Z ?_;refine O1a ?_;rintro x0 ⟨a0,r0⟩;intro s0 f0 i0 g0;dsimp only[V3a];clear g0;replace a0:=a0.push_new S f0 i0;refine i0a a0 P6a Z Z (x6a e [] _ _ _ _ _ _ _ _ [e.w,e.w] (RdE.less (by simp) _ _ (RdE.keep (a0.keep0 M) _ _ z0)) (p3a (k:=0) a0 Z Z (by simpa using o2))) (fun b0 n0 d0 j0=>?_) (fun b0 n0 d0 j0=>?_)
  ·refine lR1 Z (w0a Z ?_);exact⟨by exact ST5 (by have:=Y3a.1 b0;omega),d0.fin⟩
  refine lR1 Z (w0a Z ?_);exact⟨by exact SF5 (fun g=>by rw[Y3a.2 (by omega)] at b0;cases b0),d0.fin⟩
 refine lB1 Z (fun u1=>?_) fun u1=>?_
 ·refine lC1 Z (y0a b0a [0,1,2,3,4,5,6,7,8,9,10,11] [12] [13,14] Z (Cl _ _ _ _) (Cl.start S) ?_);refine qO1 Z (j0a Q1a Z (fun w1 hw=>by exact hw.1.old c3) Z ?_);refine qO1 Z (j0a E0a Z (fun w1 hw=>by exact hw.1.old c1) Z ?_);refine qO1 Z (j0a E0a Z (fun w1 hw=>by exact hw.1.old c1) Z ?_);refine qN1 Z (h4a ?_);refine N3a Z Z R0a (vs:=[.int .i64 _,.int .i64 _]) (cs:=[_,_]) Z Z Z Z Z ?_;refine O1a ?_;rintro x0 ⟨a0,r0⟩;intro s0 f0 i0 g0;dsimp only[V3a];clear g0;replace a0:=a0.push_new S f0 i0;refine i0a a0 P6a Z Z (x6a e [] _ _ _ _ _ _ _ _ [e.w,e.w] (RdE.less (by simp) _ _ (RdE.keep (a0.keep0 M) _ _ z0)) (p3a (k:=0) a0 Z Z (by simpa using o2))) (fun b0 n0 d0 j0=>?_) (fun b0 n0 d0 j0=>?_)
  ·refine lR1 Z (w0a Z ?_);exact⟨by exact ST5 (by have:=Y3a.1 b0;omega),d0.fin⟩
  refine lR1 Z (w0a Z ?_);exact⟨by exact SF5 (fun g=>by rw[Y3a.2 (by omega)] at b0;cases b0),d0.fin⟩
 refine lB1 Z (fun v1=>?_) fun v1=>?_
 ·refine lC1 Z (y0a b0a [0,1,2,3,4,5,6,7,8,9,10,11] [12] [13,14] Z (Cl _ _ _ _) (Cl.start S) ?_);refine qO1 Z (j0a Q1a Z (fun w1 hw=>by exact hw.1.old c3) Z ?_);refine qO1 Z (j0a E0a Z (fun w1 hw=>by exact hw.1.old c1) Z ?_);refine qO1 Z (j0a E0a Z (fun w1 hw=>by exact hw.1.old c1) Z ?_);refine qN1 Z (h4a ?_);refine N3a Z Z R0a (vs:=[.int .i64 _,.int .i64 _]) (cs:=[_,_]) Z Z Z Z Z ?_;refine O1a ?_;rintro x0 ⟨a0,r0⟩;intro s0 f0 i0 g0;dsimp only[V3a];clear g0;replace a0:=a0.push_new S f0 i0;refine i0a a0 P6a Z Z (x6a e [] _ _ _ _ _ _ _ _ [e.w,e.w] (RdE.less (by simp) _ _ (RdE.keep (a0.keep0 M) _ _ z0)) (p3a (k:=0) a0 Z Z (by simpa using o2))) (fun b0 n0 d0 j0=>?_) (fun b0 n0 d0 j0=>?_)
  ·refine lR1 Z (w0a Z ?_);exact⟨by exact ST5 (by have:=Y3a.1 b0;omega),d0.fin⟩
  refine lR1 Z (w0a Z ?_);exact⟨by exact SF5 (fun g=>by rw[Y3a.2 (by omega)] at b0;cases b0),d0.fin⟩
 refine lB1 Z (fun y1=>?_) fun y1=>?_
 ·refine lC1 Z (y0a b0a [0,1,2,3,4,5,6,7,8,9,10,11] [12] [13,14] Z (Cl _ _ _ _) (Cl.start S) ?_);refine qO1 Z (j0a Q1a Z (fun w1 hw=>by exact hw.1.old c3) Z ?_);refine qO1 Z (j0a E0a Z (fun w1 hw=>by exact hw.1.old c1) Z ?_);refine qO1 Z (j0a E0a Z (fun w1 hw=>by exact hw.1.old c1) Z ?_);refine qN1 Z (h4a ?_);refine N3a Z Z R0a (vs:=[.int .i64 _,.int .i64 _]) (cs:=[_,_]) Z Z Z Z Z ?_;refine O1a ?_;rintro x0 ⟨a0,r0⟩;intro s0 f0 i0 g0;dsimp only[V3a];clear g0;replace a0:=a0.push_new S f0 i0;refine i0a a0 P6a Z Z (x6a e [] _ _ _ _ _ _ _ _ [e.w,e.w] (RdE.less (by simp) _ _ (RdE.keep (a0.keep0 M) _ _ z0)) (p3a (k:=0) a0 Z Z (by simpa using o2))) (fun b0 n0 d0 j0=>?_) (fun b0 n0 d0 j0=>?_)
  ·refine lR1 Z (w0a Z ?_);exact⟨by exact ST5 (by have:=Y3a.1 b0;omega),d0.fin⟩
  refine lR1 Z (w0a Z ?_);exact⟨by exact SF5 (fun g=>by rw[Y3a.2 (by omega)] at b0;cases b0),d0.fin⟩
 refine lB1 Z (fun O0=>?_) fun O0=>?_
 ·refine lC1 Z (y0a b0a [0,1,2,3,4,5,6,7,8,9,10,11,12,13,14,15,16,17,18,19,20,21,22,23,24,25,26,27,28,29,30] [] [] Z (Cl _ _ _ _) (Cl.start S) ?_);refine qO1 Z (j0a E0a Z (fun w1 hw=>by exact hw.1.old c1) Z ?_);refine qB1 Z (fun t0=>?_) fun t0=>?_
  ·refine qO1 Z (j0a Q1a Z (fun w1 hw=>by exact hw.1.old c3) Z ?_);refine qB1 Z (fun u0=>?_) fun u0=>?_
   ·refine qO1 Z (j0a Q1a Z (fun w1 hw=>by exact hw.1.old c3) Z ?_);refine qO1 Z ?_;obtain⟨bk,ok,hA,D0,A0⟩:=W0 (by omega);have F0:=w1a A0 0 (by omega);have G0:=w1a A0 1 (by omega);refine F0a T0a.slT Z (by assumption) Z Z ?_;refine qO1 Z (j0a E0a Z (fun w1 hw=>by exact hw.1.old F0) Z ?_);refine qO1 Z (j0a Q1a Z (fun w1 hw=>by exact hw.1.old c3) Z ?_);refine qO1 Z (F0a T0a.slT Z (by assumption) Z Z ?_);refine qO1 Z (j0a E0a Z (fun w1 hw=>by exact hw.1.old G0) Z ?_);refine qB1 Z (fun v0=>?_) fun v0=>?_
    ·refine lV Z ?_;rintro o0 ⟨e0,m0⟩;refine lR1 Z (w0a Z ?_);exact⟨by exact C1d,e0.fin⟩
    refine lV Z ?_;rintro o0 ⟨e0,m0⟩;refine lR1 Z (w0a Z ?_);exact⟨by exact n4b,e0.fin⟩
   refine lV Z ?_;rintro o0 ⟨e0,m0⟩;refine lR1 Z (w0a Z ?_);exact⟨by exact n4b,e0.fin⟩
  refine lV Z ?_;rintro o0 ⟨e0,m0⟩;refine lR1 Z (w0a Z ?_);exact⟨by exact n4b,e0.fin⟩
 refine lB1 Z (fun P0=>?_) fun P0=>?_
 ·refine lC1 Z (y0a b0a [0,1,2,3,4,5,6,7,8,9,10,11,12,13,14,15,16,17,18,19,20,21,22,23,24,25,26,27,28,29,30] [] [] Z (Cl _ _ _ _) (Cl.start S) ?_);refine qO1 Z (j0a E0a Z (fun w1 hw=>by exact hw.1.old c1) Z ?_);refine qB1 Z (fun t0=>?_) fun t0=>?_
  ·refine qO1 Z (j0a Q1a Z (fun w1 hw=>by exact hw.1.old c3) Z ?_);refine qB1 Z (fun u0=>?_) fun u0=>?_
   ·refine qO1 Z (j0a Q1a Z (fun w1 hw=>by exact hw.1.old c3) Z ?_);refine qO1 Z ?_;obtain⟨bk,ok,hA,D0,A0⟩:=W0 (by omega);have F0:=w1a A0 0 (by omega);have G0:=w1a A0 1 (by omega);refine F0a T0a.slT Z (by assumption) Z Z ?_;refine qO1 Z (j0a E0a Z (fun w1 hw=>by exact hw.1.old F0) Z ?_);refine qO1 Z (j0a Q1a Z (fun w1 hw=>by exact hw.1.old c3) Z ?_);refine qO1 Z (F0a T0a.slT Z (by assumption) Z Z ?_);refine qO1 Z (j0a E0a Z (fun w1 hw=>by exact hw.1.old G0) Z ?_);refine qB1 Z (fun v0=>?_) fun v0=>?_
    ·refine lV Z ?_;rintro o0 ⟨e0,m0⟩;refine lR1 Z (w0a Z ?_);exact⟨by exact C1d,e0.fin⟩
    refine lV Z ?_;rintro o0 ⟨e0,m0⟩;refine lR1 Z (w0a Z ?_);exact⟨by exact n4b,e0.fin⟩
   refine lV Z ?_;rintro o0 ⟨e0,m0⟩;refine lR1 Z (w0a Z ?_);exact⟨by exact n4b,e0.fin⟩
  refine lV Z ?_;rintro o0 ⟨e0,m0⟩;refine lR1 Z (w0a Z ?_);exact⟨by exact n4b,e0.fin⟩
 refine lB1 Z (fun Q0=>?_) fun Q0=>?_
 ·refine lC1 Z (y0a b0a [0,1,2,3,4,5,6,7,8,9,10,11,12,13,14,15,16,17,18,19,20,21,22,23,24,25,26,27,28,29,30] [] [] Z (Cl _ _ _ _) (Cl.start S) ?_);refine qO1 Z (j0a E0a Z (fun w1 hw=>by exact hw.1.old c1) Z ?_);refine qB1 Z (fun t0=>?_) fun t0=>?_
  ·refine qO1 Z (j0a Q1a Z (fun w1 hw=>by exact hw.1.old c3) Z ?_);refine qB1 Z (fun u0=>?_) fun u0=>?_
   ·refine qO1 Z (j0a Q1a Z (fun w1 hw=>by exact hw.1.old c3) Z ?_);refine qO1 Z ?_;obtain⟨bk,ok,hA,D0,A0⟩:=W0 (by omega);have F0:=w1a A0 0 (by omega);have G0:=w1a A0 1 (by omega);refine F0a T0a.slT Z (by assumption) Z Z ?_;refine qO1 Z (j0a E0a Z (fun w1 hw=>by exact hw.1.old F0) Z ?_);refine qO1 Z (j0a Q1a Z (fun w1 hw=>by exact hw.1.old c3) Z ?_);refine qO1 Z (F0a T0a.slT Z (by assumption) Z Z ?_);refine qO1 Z (j0a E0a Z (fun w1 hw=>by exact hw.1.old G0) Z ?_);refine qB1 Z (fun v0=>?_) fun v0=>?_
    ·refine lV Z ?_;rintro o0 ⟨e0,m0⟩;refine lR1 Z (w0a Z ?_);exact⟨by exact C1d,e0.fin⟩
    refine lV Z ?_;rintro o0 ⟨e0,m0⟩;refine lR1 Z (w0a Z ?_);exact⟨by exact n4b,e0.fin⟩
   refine lV Z ?_;rintro o0 ⟨e0,m0⟩;refine lR1 Z (w0a Z ?_);exact⟨by exact n4b,e0.fin⟩
  refine lV Z ?_;rintro o0 ⟨e0,m0⟩;refine lR1 Z (w0a Z ?_);exact⟨by exact n4b,e0.fin⟩
 refine lB1 Z (fun R0=>?_) fun R0=>?_
 ·refine lC1 Z (y0a b0a [0,1,2,3,4,5,6,7,8,9,10,11] [12] [13,14] Z (Cl _ _ _ _) (Cl.start S) ?_);refine qO1 Z (j0a Q1a Z (fun w1 hw=>by exact hw.1.old c3) Z ?_);refine qO1 Z (j0a E0a Z (fun w1 hw=>by exact hw.1.old c1) Z ?_);refine qO1 Z (j0a E0a Z (fun w1 hw=>by exact hw.1.old c1) Z ?_);refine qN1 Z (h4a ?_);refine N3a Z Z R0a (vs:=[.int .i64 _,.int .i64 _,.int .i64 _]) (cs:=[_,_,_]) Z Z Z Z Z ?_;refine O1a ?_;rintro B1 ⟨q0,_⟩;intro d1 E0 J0 H0;dsimp only[V3a];clear H0;replace q0:=q0.push_new S E0 J0;refine i0a q0 P6a Z Z (x6a e [] _ _ _ _ _ _ _ _ [1,e.w,e.w] (RdE.less (by simp) _ _ (RdE.keep (q0.keep0 M) _ _ z0)) (p3a (k:=0) q0 Z Z (by simpa[i64] using o2))) (fun y0 Y0 B0 L0=>?_) (fun y0 Y0 B0 L0=>?_)
  ·refine lR1 Z (w0a Z ?_);exact⟨by exact i5d (by have:=o1c.1 y0;omega),B0.fin⟩
  refine lR1 Z (w0a Z ?_);exact⟨by exact T2d (g:=(fun g=>by rw[o1c.2 (by omega)] at y0;cases y0)),B0.fin⟩
 refine lR1 Z (w0a Z ?_);exact⟨by exact SN,S.fin⟩
theorem U3c(ks:List E)(k:Nat)(h:k<ks.length):E.cnts (ks.take (k+1))=E.cnts (ks.take k)+ks[k].cnt:=by
 induction ks generalizing k with
 | nil=>simp at h
 | cons x xs ih =>
   cases k with
   | zero=>simp[E.cnts]
   | succ k=>simp only[List.take_succ_cons,E.cnts,List.getElem_cons_succ];rw[ih k (by simpa using h)];omega
theorem v5b(ks:List E)(k:Nat):E.cnts (ks.take k)≤E.cnts ks:=by
 induction ks generalizing k with
 | nil=>simp[E.cnts]
 | cons x xs ih =>
   cases k with
   | zero=>simp[E.cnts]
   | succ k=>simp only[List.take_succ_cons,E.cnts];have:=ih k;omega
def C7b(e:E)(depth:Int)(cnt:Nat):Bool:=decide (cnt+e.cnt≤600)&&e.good (41-depth)
theorem W4c:∀(e:E) (M:List Nat) (w0:World) (b o:Nat) (a0:Int) (b0 gc gv:Nat),RdP M w0 e b o→W1a M w0→gc∈M→gv∉M→p0a w0 (gc,3,[.int .i64 (b0:Int)]) →
 w0.cell? ⟨gv,0,none⟩=some (.func (.func 145) #[] #[.pointer (some ⟨gc,0,none⟩),.pointer (some ⟨gv,0,none⟩)])→b0≤600→1≤a0→a0≤41 →
 A0a prog 145 #[.pointer (some ⟨b,o,none⟩),.int .i64 a0,.pointer (some ⟨gc,0,none⟩),.pointer (some ⟨gv,0,none⟩)] w0 fun v w' =>
  ∃i0:Nat,H0a [gc] w0 w'∧p0a w' (gc,3,[.int .i64 (i0:Int)])∧v=.bool (C7b e a0 b0)∧(C7b e a0 b0=true→i0=b0+e.cnt):=by
 intro e
 induction e using E.induct with
 | _ e ih =>
 intro M w0 b o a0 b0 gc gv hR hK A0 B0 u0 D0 N0 X0 Y0;obtain⟨K0,_,_,_,_,_,_,_,n,_,c3,_,_,_,_,R0,_⟩:=hR.open_;have S:=St.borrow1 u0;have f0:∀g∈[gc],g∈M:=fun g hg=>by simp at hg;subst hg;exact A0
 have z0:b∉[gc]:=fun h=>K0 (f0 b h);have hv':gv∉[gc]:=fun h=>B0 (f0 gv h);have o0:=E.good_def e (41-a0);have V0:=E.cnt_def e;have j0:∀k∈e.kids,k.good (41-(a0+1))=false→E.goods e.kids (41-a0-1)=false:=fun k hk hf=>by
  cases hg:E.goods e.kids (41-a0-1) with
  | false=>rfl
  | true=>rw[show 41-(a0+1)=41-a0-1 by omega,(E.goods_iff _ _).1 hg k hk] at hf;cases hf
 refine a0a func145 Z ntmps145 Z ?_;refine wO1 Z (G0a E0a Z (by exact S.cell 0 Z Z) Z ?_);refine lO0 Z ⟨by omega,U⟩ ?_
 first|refine X0a (kk:=0) S L1d Z Z Z (by exact Nat.le_of_ble_eq_true Z) ?_
 intro U0 c0 G0;refine lO1 Z (G0a E0a Z (by exact c0.cell 0 Z Z) Z ?_);refine lB1 Z (fun H0=>?_) fun H0=>?_
 ·refine lR1 Z (w0a Z ?_);have g0:C7b e a0 b0=false:=by
   unfold C7b;rw[o0];rw[decide_eq_false (show ¬b0+e.cnt≤600 by omega)];rfl
  exact⟨b0+1,c0.below,c0.blk 0 Z,by rw[g0],fun h=>by rw[g0] at h;cases h⟩
 refine lB1 Z (fun I0=>?_) fun I0=>?_
 ·refine lR1 Z (w0a Z ?_);have g0:C7b e a0 b0=false:=by
   unfold C7b;rw[o0];simp[show ¬1≤41-a0 by omega];done
  exact⟨b0+1,c0.below,c0.blk 0 Z,by rw[g0],fun h=>by rw[g0] at h;cases h⟩
 refine lO1 Z (i0a c0 F9c Z Z (b1c _ M _ _ _ (hR.keep (c0.keepM.mono f0)) (hK.keep (c0.keepM.mono f0))) (fun r0 T0 m0 F0=>?_) (fun r0 T0 m0 F0=>?_))
 ·refine lO1 Z (G0a Q1a Z (by exact m0.oldM z0 c3) Z ?_);refine lC1 Z ?_;refine wL (fun μ D ε w=>D=[]∧∃k:Nat,(k+μ=e.kids.length)∧(∀(j:Nat) (h:j<e.kids.length),j<k→e.kids[j].good (41-a0-1)=true)∧(b0+1+E.cnts (e.kids.take k)≤600)∧St [gc] w0 w [(some gc,3,[.int .i64 ((b0+1+E.cnts (e.kids.take k):Nat):Int)])]∧ε 0=.pointer (some ⟨b,o,none⟩)∧ε 1=.int .i64 a0∧ε 2=.pointer (some ⟨gc,0,none⟩)∧ε 3=.pointer (some ⟨gv,0,none⟩)∧ε 25=.int .i64 n∧ε 26=.int .i64 k) (μ:=e.kids.length) ⟨Z,0,by omega,fun j _ h=>absurd h (by omega),by simp[E.cnts];omega,by simpa[E.cnts] using m0,Z,Z,Z,Z,Z,Z⟩ ?_;rintro μ D ε w ⟨rfl,k,hk,hs,C0,S,e0,e1,e2,e3,x0,y0⟩;refine q0a 0 e0 (q0a 1 e1 (q0a 2 e2 (q0a 3 e3 (q0a 25 x0 (q0a 26 y0 ?_)))));clear e0 e1 e2 e3 x0 y0;refine wB1 Z (fun J0=>?_) fun J0=>?_
  ·refine lC1 Z (y0a b0a [0,1,2,3,4,5,6,7,8] [] [9,10] Z (Cl _ _ _ _) (Cl.start S) ?_);refine j0a X2c Z (fun w1 hw=>by exact hw.1.oldM hv' D0) Z ?_;refine qO1 Z (j0a Q1a Z (fun w1 hw=>by exact hw.1.oldM z0 c3) Z ?_);refine qO1 Z ?_;have q0:k<e.kids.length:=by omega
   obtain⟨bk,ok,_,t0,Q0⟩:=R0 (by omega);have O0:=U3c e.kids k q0;have W0:=v5b e.kids (k+1);refine F0a T0a.slT Z (by assumption) Z Z ?_;refine qD Z ⟨by omega,U⟩ ?_;rintro b1 ⟨n0,_⟩;refine M7a p2c Z Z Z (ih _ (List.getElem_mem q0) M _ bk (ok+k*4) _ _ gc gv ((RdP.kid t0 Q0 k q0).keep (n0.keepM.mono f0)) (hK.keep (n0.keepM.mono f0)) A0 B0 (n0.blk 0 Z) (n0.oldM hv' D0) C0 (by omega) (by omega)) ?_;rintro Z0 a1 ⟨i0,E0,s0,rfl,v0⟩;have p0:=n0.changed1 0 Z E0 s0;dsimp only[List.set] at p0;cases d0:C7b e.kids[k] (a0+1) (b0+1+E.cnts (e.kids.take k))
   ·refine lR1 Z (w0a Z ?_);have g0:C7b e a0 b0=false:=by
     unfold C7b at d0 ⊢;rw[o0];by_cases hq:b0+1+E.cnts (e.kids.take k)+e.kids[k].cnt≤600
     ·rw[decide_eq_true hq] at d0;simp only[Bool.true_and] at d0;rw[j0 _ (List.getElem_mem q0) d0];simp
     ·rw[decide_eq_false (by omega)];rfl
    exact⟨i0,p0.below,p0.blk 0 Z,by rw[g0],fun h=>by rw[g0] at h;cases h⟩
   refine lP1 Z ?_;have L0:=v0 d0;unfold C7b at d0;simp only[Bool.and_eq_true,decide_eq_true_eq] at d0;refine⟨μ-1,by omega,Z,k+1,by omega,fun j hj h=>?_,by omega,by rw[O0,←Nat.add_assoc,←L0];exact p0,Z,Z,Z,Z,Z,Z⟩;by_cases P0:j=k
   ·subst P0;rw[show 41-a0-1=41-(a0+1) by omega];exact d0.2
   ·exact hs j hj (by omega)
  refine lR1 Z (w0a Z ?_);obtain rfl:k=e.kids.length:=by omega
  rw[List.take_length] at C0 S;have S0:C7b e a0 b0=true:=by
   unfold C7b;rw[o0,decide_eq_true (by omega),(E.goods_iff _ _).2 (fun x hx=>by obtain⟨j,hj,rfl⟩:=List.getElem_of_mem hx;exact hs j hj (by omega))];simp[r0,show 1≤41-a0 by omega]
  exact⟨_,S.below,S.blk 0 Z,by rw[S0],fun _=>by omega⟩
 refine lR1 Z (w0a Z ?_);have g0:C7b e a0 b0=false:=by
  unfold C7b;rw[o0];simp[r0];done
 exact⟨b0+1,m0.below,m0.blk 0 Z,by rw[g0],fun h=>by rw[g0] at h;cases h⟩
theorem M2a(e:E)(M:List Nat)(w0:World)(cs:LV)(hR:RdE M w0 e cs)(hK:W1a M w0):
 A0a prog 87 #[.agg cs.toArray] w0 fun v w'=>v=.bool e.wf∧Bw w0 w':=by
 obtain⟨_,_,_,rfl,_⟩:=hR.open_;have S:=St.refl w0;refine a0a func87 Z ntmps87 Z ?_;refine wO1 Z (o0a S Z ?_);intro g1 w1 S1 X1 G1;refine lO1 Z (g0a S1 u5d Z Z ?_);intro g3 w3 S3 X3 G3;refine X0a (kk:=0) S3 L1d Z Z Z (by exact Nat.le_of_ble_eq_true Z) ?_;intro g0 b0 d0;refine lO1 Z (g0a b0 Z2d Z Z ?_);intro g4 w4 S4 X4 G4;refine lO1 Z (B1a Z Z ?_);refine X0a (kk:=0) S4 M2d Z Z Z (by exact Nat.le_of_ble_eq_true Z) ?_;intro i0 a0 e0;refine lO a0.k [.o 0] Z ⟨Z,U⟩ ?_;have c0:∀g∈[g3] ,g∈M∨w0.heap.size≤g:=fun g hg=>by
  simp at hg;subst hg;right;have:=a0.new 1 Z;simp at this;exact this
 refine M7a p2c Z Z Z (W4c e [g3] _ g1 0 1 0 g3 g4 ?_ ?_ (by simp) ?_ (a0.blk 1 Z) (a0.cell 0 Z Z) (by omega) (by omega) (by omega)) ?_
 ·exact⟨by simpa using(a0.ne 1 2 Z Z (by omega)).symm,_,a0.cells 2 Z,RdE.keep (a0.keep0 _) _ _ (RdE.more c0 _ _ hR)⟩
 ·exact(hK.more c0).keep (a0.keep0 _)
 ·simpa using a0.ne 0 1 Z Z (by omega)
 rintro v7 w7 ⟨_,B7,f0,rfl,-⟩;have S7:=a0.changed1 1 Z B7 f0;refine lR1 Z (w0a Z ?_);refine⟨?_,S7.fin⟩;unfold C7b E.wf;simp
def Y1a(op a b c:Int):Int :=
 if op=4 then b3c (-1) a else if op=5 then N8a a b else if op=6 then bor a b else if op=7 then b3c a b else if op=9 then wr (a+wr (0-b)) else if op=8 then wr (a+b) else
 if op=10 then wr (a*b) else if op=11 then(if a=b then 1 else 0) else if op=13 then(if a=b then 1 else if a<b then 1 else 0) else if op=12 then(if a<b then 1 else 0) else
 if op=14 then(if a=1 then b else c) else 0
mutual
def E.val(old now:List Int):E→Int
 | ⟨op,w,n,ks⟩=>if op=1 then n else if op=2 then N8a (now.getD n.toNat 0) (H3a w.toNat-1) else if op=3 then N8a (old.getD n.toNat 0) (H3a w.toNat-1) else
  N8a (Y1a op ((E.vals old now ks).getD 0 0) ((E.vals old now ks).getD 1 0) ((E.vals old now ks).getD 2 0)) (H3a w.toNat-1)
def E.vals(old now:List Int):List E→List Int
 | []=>[]
 | k::ks=>E.val old now k::E.vals old now ks
end
theorem E.vals_map(b0 a0:List Int)(ks:List E):E.vals b0 a0 ks=ks.map (E.val b0 a0):=by
 induction ks with
 | nil=>simp[E.vals]
 | cons k ks ih=>simp[E.vals,ih]
theorem E.val_def(b0 a0:List Int)(e:E):e.val b0 a0=if e.op=1 then e.n else if e.op=2 then N8a (a0.getD e.n.toNat 0) (H3a e.w.toNat-1) else if e.op=3 then N8a (b0.getD e.n.toNat 0) (H3a e.w.toNat-1) else
 N8a (Y1a e.op ((e.kids.map (E.val b0 a0)).getD 0 0) ((e.kids.map (E.val b0 a0)).getD 1 0) ((e.kids.map (E.val b0 a0)).getD 2 0)) (H3a e.w.toNat-1):=by
 cases e;simp only[E.val,E.vals_map]
def E.evl(old now:List Int)(e:E):Int:=if e.wf then e.val old now else 0
def t3d(vs:List Int)(k:Nat):LV:=[.int .i64 ((vs.take k).getD 0 0),.int .i64 ((vs.take k).getD 1 0),.int .i64 ((vs.take k).getD 2 0)]
@[simp] theorem d4d(vs:List Int)(k:Nat):(t3d vs k).length=3:=Z
theorem v4c(vs:List Int)(k:Nat)(h3:vs.length≤3)(h:k<vs.length):(t3d vs k).set k (.int .i64 (vs.getD k 0))=t3d vs (k+1):=by
 unfold t3d
 match vs,h3 with
 | [],_=>simp at h
 | [a],_=>obtain rfl:k=0:=by simp at h;omega
          simp
 | [a,b],_=>rcases(show k=0∨k=1 by simp at h;omega) with rfl|rfl<;>simp
 | [a,b,c],_=>rcases(show k=0∨k=1∨k=2 by simp at h;omega) with rfl|rfl|rfl<;>simp
 | a::b::c::d::l,h=>simp at h
theorem L2b(M:List Nat)(w0:World)(v:Value)(l:List Int)(i:Int)(hR:RdI M w0 v l)(h0:0≤i:=by omega):
 A0a prog 147 #[v,.int .i64 i] w0 fun v w'=>v=.int .i64 (l.getD i.toNat 0)∧Bw w0 w':=by
 obtain⟨_,_,_,rfl⟩:=hR.form;obtain⟨_,_,_,_,f0⟩:=hR.at;have S:=St.refl w0;refine a0a func147 Z ntmps147 Z ?_;refine wB1 Z (fun h8=>?_) fun h8=>?_
 ·refine lO1 Z ?_;obtain⟨b,o,_,_,e0⟩:=f0 (by omega);have c0:i.toNat<l.length:=by omega
  obtain⟨_,_,a0,b0⟩:=e0 i.toNat l[i.toNat] (List.getElem?_eq_getElem c0);have d0:w0.cell? ⟨b,o+i.toNat*1,none⟩=some (.int .i64 l[i.toNat]):=a0 0 _ (by rw[b0.1];rfl);refine N0a R0a.slT Z (by assumption) Z Z ?_;refine G0a E0a Z (by first|exact S.old d0) Z ?_;refine lR1 Z (w0a Z ?_);refine⟨?_,S.fin⟩;simp[c0];done
 refine lR1 Z (w0a Z ?_);refine⟨?_,S.fin⟩;simp[show l.length≤i.toNat by omega];done
theorem h7a(z:Bool)(w0:World):A0a prog 199 #[.bool z] w0 fun v w'=>v=.int .i64 (if z=true then 1 else 0)∧Bw w0 w':=by
 have S:=St.refl w0;cases z
 ·refine a0a func199 Z ntmps199 Z ?_;refine wR0 Z U (w0a Z ?_);exact⟨by simp,S.fin⟩
 ·refine a0a func199 Z ntmps199 Z ?_;refine wR0 Z U (w0a Z ?_);exact⟨by simp,S.fin⟩
theorem j4c(op a b c:Int)(w0:World):A0a prog 148 #[.int .i64 op,.agg #[.int .i64 a,.int .i64 b,.int .i64 c]] w0 fun v w'=>v=.int .i64 (Y1a op a b c)∧Bw w0 w':=by
 have S:=St.refl w0;refine a0a func148 Z ntmps148 Z ?_;refine wO1 Z (o0a S Z ?_);intro g3 w3 S3 X3 G3;refine lC1 Z (y0a b0a [0,1,2,3,4,5] [] [] Z (Cl _ _ _ _) (Cl.start S3) ?_);refine v0a U2b Z Z Z ?_;refine j0a E0a Z (fun w1 hw=>by first|exact hw.1.cell 0 Z Z) Z ?_;refine v0a U2b Z Z Z ?_;refine j0a E0a Z (fun w1 hw=>by first|exact hw.1.cell 0 Z Z) Z ?_;refine lV Z ?_;rintro A0 ⟨a0,_⟩;refine lB1 Z (fun b0=>?_) fun b0=>?_
 ·refine lU Z Z ⟨congrArg (Value.int .i64) ?_,a0.fin⟩;unfold Y1a;rw[if_pos b0]
 refine lB1 Z (fun c0=>?_) fun c0=>?_
 ·refine lU Z Z ⟨congrArg (Value.int .i64) ?_,a0.fin⟩;unfold Y1a;rw[if_neg b0,if_pos c0]
 refine lB1 Z (fun d0=>?_) fun d0=>?_
 ·refine lU Z Z ⟨congrArg (Value.int .i64) ?_,a0.fin⟩;unfold Y1a;rw[if_neg b0,if_neg c0,if_pos d0]
 refine lB1 Z (fun e0=>?_) fun e0=>?_
 ·refine lU Z Z ⟨congrArg (Value.int .i64) ?_,a0.fin⟩;unfold Y1a;rw[if_neg b0,if_neg c0,if_neg d0,if_pos e0]
 refine lB1 Z (fun f0=>?_) fun f0=>?_
 ·refine lOn 8 a0.k [] Z U (J3d Z Z ?_);refine lOn 9 a0.k [] Z U (H7c Z Z Z ?_);refine lU Z Z ⟨congrArg (Value.int .i64) ?_,a0.fin⟩;unfold Y1a;rw[if_neg b0,if_neg c0,if_neg d0,if_neg e0,if_pos f0]
 refine lB1 Z (fun g0=>?_) fun g0=>?_
 ·refine lOn 11 a0.k [] Z U (H7c Z Z Z ?_);refine lU Z Z ⟨congrArg (Value.int .i64) ?_,a0.fin⟩;unfold Y1a;rw[if_neg b0,if_neg c0,if_neg d0,if_neg e0,if_neg f0,if_pos g0]
 refine lB1 Z (fun i0=>?_) fun i0=>?_
 ·refine lOn 11 a0.k [] Z U (A2d Z Z Z ?_);refine lU Z Z ⟨congrArg (Value.int .i64) ?_,a0.fin⟩;unfold Y1a;rw[if_neg b0,if_neg c0,if_neg d0,if_neg e0,if_neg f0,if_neg g0,if_pos i0]
 refine lB1 Z (fun j0=>?_) fun j0=>?_
 ·refine lB1 Z (fun u0=>?_) fun u0=>?_
  ·refine r0a a0 S8a Z Z (h7a _ _) ?_;intro z0 s0 y0;refine lU Z Z ⟨congrArg (Value.int .i64) ?_,s0.fin⟩;unfold Y1a;rw[if_neg b0,if_neg c0,if_neg d0,if_neg e0,if_neg f0,if_neg g0,if_neg i0,if_pos j0];simp[u0];done
  refine r0a a0 S8a Z Z (h7a _ _) ?_;intro z0 s0 y0;refine lU Z Z ⟨congrArg (Value.int .i64) ?_,s0.fin⟩;unfold Y1a;rw[if_neg b0,if_neg c0,if_neg d0,if_neg e0,if_neg f0,if_neg g0,if_neg i0,if_pos j0];simp[u0];done
 refine lB1 Z (fun m0=>?_) fun m0=>?_
 ·refine lB1 Z (fun r0=>?_) fun r0=>?_
  ·refine lU Z Z ⟨congrArg (Value.int .i64) ?_,a0.fin⟩;unfold Y1a;rw[if_neg b0,if_neg c0,if_neg d0,if_neg e0,if_neg f0,if_neg g0,if_neg i0,if_neg j0,if_pos m0];(simp[r0];done)
  refine lB1 Z (fun o0=>?_) fun o0=>?_
  ·refine r0a a0 S8a Z Z (h7a _ _) ?_;intro x0 n0 t0;refine lU Z Z ⟨congrArg (Value.int .i64) ?_,n0.fin⟩;unfold Y1a;rw[if_neg b0,if_neg c0,if_neg d0,if_neg e0,if_neg f0,if_neg g0,if_neg i0,if_neg j0,if_pos m0];(simp[r0,o0];done)
  refine r0a a0 S8a Z Z (h7a _ _) ?_;intro x0 n0 t0;refine lU Z Z ⟨congrArg (Value.int .i64) ?_,n0.fin⟩;unfold Y1a;rw[if_neg b0,if_neg c0,if_neg d0,if_neg e0,if_neg f0,if_neg g0,if_neg i0,if_neg j0,if_pos m0];(simp[r0,o0];done)
 refine lB1 Z (fun p0=>?_) fun p0=>?_
 ·refine lB1 Z (fun o0=>?_) fun o0=>?_
  ·refine r0a a0 S8a Z Z (h7a _ _) ?_;intro x0 n0 t0;refine lU Z Z ⟨congrArg (Value.int .i64) ?_,n0.fin⟩;unfold Y1a;rw[if_neg b0,if_neg c0,if_neg d0,if_neg e0,if_neg f0,if_neg g0,if_neg i0,if_neg j0,if_neg m0,if_pos p0];(simp[o0];done)
  refine r0a a0 S8a Z Z (h7a _ _) ?_;intro x0 n0 t0;refine lU Z Z ⟨congrArg (Value.int .i64) ?_,n0.fin⟩;unfold Y1a;rw[if_neg b0,if_neg c0,if_neg d0,if_neg e0,if_neg f0,if_neg g0,if_neg i0,if_neg j0,if_neg m0,if_pos p0];(simp[o0];done)
 refine lB1 Z (fun q0=>?_) fun q0=>?_
 ·refine lB1 Z (fun v0=>?_) fun v0=>?_
  ·refine lU Z Z ⟨congrArg (Value.int .i64) ?_,a0.fin⟩;unfold Y1a;rw[if_neg b0,if_neg c0,if_neg d0,if_neg e0,if_neg f0,if_neg g0,if_neg i0,if_neg j0,if_neg m0,if_neg p0,if_pos q0];simp[v0];done
  refine lO1 Z (w2a U2b Z Z Z ?_);refine G0a E0a Z (by first|exact a0.cell 0 Z Z) Z ?_;refine lU Z Z ⟨congrArg (Value.int .i64) ?_,a0.fin⟩;unfold Y1a;rw[if_neg b0,if_neg c0,if_neg d0,if_neg e0,if_neg f0,if_neg g0,if_neg i0,if_neg j0,if_neg m0,if_neg p0,if_pos q0];simp[v0];done
 refine lU Z Z ⟨congrArg (Value.int .i64) ?_,a0.fin⟩;unfold Y1a;rw[if_neg b0,if_neg c0,if_neg d0,if_neg e0,if_neg f0,if_neg g0,if_neg i0,if_neg j0,if_neg m0,if_neg p0,if_neg q0]
theorem y4c:∀(e:E) (M:List Nat) (w0:World) (b o:Nat) (vo vn:Value) (b0 a0:List Int) (q0:Int),RdP M w0 e b o→W1a M w0→RdI M w0 vo b0→RdI M w0 vn a0→e.good q0=true →
 A0a prog 88 #[.pointer (some ⟨b,o,none⟩),vo,vn] w0 fun v w'=>v=.int .i64 (e.val b0 a0)∧Bw w0 w':=by
 intro e
 induction e using E.induct with
 | _ e ih =>
 intro M w0 b o vo vn b0 a0 q0 hR hK hO hN hg;obtain⟨_,_,_,_,c0,c1,c2,_,n,_,c3,_,_,_,_,D0,_⟩:=hR.open_;obtain⟨Ao,no,co,rfl⟩:=hO.form;obtain⟨An,nn,cn,rfl⟩:=hN.form;rw[E.good_def] at hg;simp only[Bool.and_eq_true] at hg;have u0:e.Shape:=of_decide_eq_true hg.1.2;have B0:∀k∈e.kids,k.good (q0-1)=true:=(E.goods_iff _ _).1 hg.2;clear hg;have H0:(e.op=3∨e.op=2)→0≤e.n∧e.n<32:=fun h=>by
  have:=(y5a).1 u0;omega
 have G0:=I3a u0;have A0:=L1a e.op;have S:=St.refl w0;have d0:=E.val_def b0 a0 e;refine a0a func88 Z ntmps88 Z ?_;refine wO1 Z (G0a E0a Z (by exact S.old c0) Z ?_);refine lB1 Z (fun g0=>?_) fun g0=>?_
 ·refine lO1 Z (G0a E0a Z (by exact S.old c2) Z ?_);refine lU Z Z ⟨congrArg (Value.int .i64) ?_,S.fin⟩;rw[d0];rw[if_pos g0]
 refine lB1 Z (fun j0=>?_) fun j0=>?_
 ·refine lC1 Z (y0a b0a [0,1,2,3,4,5,6,7,8,9,10,11,12,13] [] [] Z (Cl _ _ _ _) (Cl.start S) ?_);refine i1a Z ?_;refine qO1 Z (j0a E0a Z (fun w1 hw=>by exact hw.1.old c2) Z ?_);refine k1a h3c Z Z (fun w1 S1 X1=>L2b M _ _ _ _ (RdS.keep (by assumption) (S1.keep0 M))) ?_;refine qO1 Z (j0a E0a Z (fun w1 hw=>by exact hw.1.old c1) Z ?_);refine v0a h3b Z Z Z ?_;refine j0a E0a Z (fun w1 hw=>by exact hw.1.old (hK.at (by omega) (by omega))) Z ?_;refine lV Z ?_;rintro J0 ⟨x0,_⟩;refine lU Z Z ⟨congrArg (Value.int .i64) ?_,x0.fin⟩;rw[d0];rw[if_neg g0,if_pos j0]
 refine lB1 Z (fun o0=>?_) fun o0=>?_
 ·refine lC1 Z (y0a b0a [0,1,2,3,4,5,6,7,8,9,10,11,12,13] [] [] Z (Cl _ _ _ _) (Cl.start S) ?_);refine i1a Z ?_;refine qO1 Z (j0a E0a Z (fun w1 hw=>by exact hw.1.old c2) Z ?_);refine k1a h3c Z Z (fun w1 S1 X1=>L2b M _ _ _ _ (RdS.keep (by assumption) (S1.keep0 M))) ?_;refine qO1 Z (j0a E0a Z (fun w1 hw=>by exact hw.1.old c1) Z ?_);refine v0a h3b Z Z Z ?_;refine j0a E0a Z (fun w1 hw=>by exact hw.1.old (hK.at (by omega) (by omega))) Z ?_;refine lV Z ?_;rintro K0 ⟨y0,_⟩;refine lU Z Z ⟨congrArg (Value.int .i64) ?_,y0.fin⟩;rw[d0];rw[if_neg g0,if_neg j0,if_pos o0]
 refine lO1 Z (g0a S f2d Z Z ?_);intro g7 w7 S7 X7 G7;refine lO1 Z (G0a Q1a Z (by exact S7.old c3) Z ?_);refine lC1 Z (wL (fun μ D ε w=>D=[]∧∃k:Nat,(k+μ=e.kids.length)∧St [] w0 w [(some g7,197,t3d (e.kids.map (E.val b0 a0)) k)]∧ε 0=.pointer (some ⟨b,o,none⟩)∧ε 1=.slice Ao no co∧ε 2=.slice An nn cn∧ε 7=.pointer (some ⟨g7,0,none⟩)∧ε 53=.int .i64 n∧ε 54=.int .i64 k) (μ:=e.kids.length) ⟨Z,0,by omega,by exact S7,Z,Z,Z,Z,Z,Z⟩ ?_);rintro μ D ε w ⟨rfl,k,_,S,e0,e1,e2,e7,s0,t0⟩;refine q0a 0 e0 (q0a 1 e1 (q0a 2 e2 (q0a 7 e7 (q0a 53 s0 (q0a 54 t0 ?_)))));clear e0 e1 e2 e7 s0 t0;refine wB1 Z (fun z0=>?_) fun z0=>?_
 ·refine lO1 Z (G0a Q1a Z (by exact S.old c3) Z ?_);refine lO1 Z ?_;have i0:k<e.kids.length:=by omega
  obtain⟨bk,ok,_,p0,C0⟩:=D0 (by omega);refine N0a T0a.slT Z (by assumption) Z Z ?_;refine lO1 Z (r0a S D6c Z Z (ih _ (List.getElem_mem i0) M _ bk (ok+k*4) _ _ b0 a0 _ ((RdP.kid p0 C0 k i0).keep (S.keep0 M)) (hK.keep (S.keep0 M)) (hO.keep (S.keep0 M)) (hN.keep (S.keep0 M)) (B0 _ (List.getElem_mem i0))) ?_);intro I0 v0 F0;refine w2a U2b Z Z Z ?_
  first|refine X0a (kk:=0) v0 L1d Z Z Z (by(simp;omega)) ?_
  intro r0 f0 n0;refine lP1 Z ⟨μ-1,by omega,Z,k+1,by omega,?_,Z,Z,Z,Z,Z,Z⟩;have h3:(e.kids.map (E.val b0 a0)).length≤3:=by rw[List.length_map];omega
  have hx:=v4c (e.kids.map (E.val b0 a0)) k h3 (by simpa using i0);rw[←hx];simpa[i0] using f0
 refine lC1 Z (y0a b0a [0,1,2,3,4,5,6,7,8,9,10,11,12,13] [] [] Z (Cl _ _ _ _) (Cl.start S) ?_);refine qO1 Z (j0a E0a Z (fun w1 hw=>by exact hw.1.old c0) Z ?_);refine qO S.q [.w 0] Z ⟨⟨Z,by rfl⟩,U⟩ (k1a M0d Z Z (fun w1 S1 X1=>j4c _ _ _ _ _) ?_);refine qO1 Z (j0a E0a Z (fun w1 hw=>by exact hw.1.old c1) Z ?_);refine v0a h3b Z Z Z ?_;refine j0a E0a Z (fun w1 hw=>by exact hw.1.old (hK.at (by omega) (by omega))) Z ?_;refine lV Z ?_;rintro E0 ⟨m0,_⟩;refine lU Z Z ⟨congrArg (Value.int .i64) ?_,m0.fin⟩;rw[d0];obtain rfl:k=e.kids.length:=by omega
 rw[if_neg g0,if_neg j0,if_neg o0];have h3:(e.kids.map (E.val b0 a0)).take e.kids.length=e.kids.map (E.val b0 a0):=List.take_of_length_le (by simp);rw[h3]
theorem z2c(e:E)(M:List Nat)(w0:World)(cs:LV)(vo vn:Value)(b0 a0:List Int)(hR:RdE M w0 e cs)(hK:W1a M w0)(hO:RdI M w0 vo b0)(hN:RdI M w0 vn a0):
 A0a prog 29 #[.agg cs.toArray,vo,vn] w0 fun v w'=>v=.int .i64 (e.evl b0 a0)∧Bw w0 w':=by
 obtain⟨_,_,_,rfl,_⟩:=hR.open_;obtain⟨_,_,_,rfl⟩:=hO.form;obtain⟨_,_,_,rfl⟩:=hN.form;have S:=St.refl w0;refine a0a func29 Z ntmps29 Z ?_;refine wO1 Z (o0a S Z ?_);intro g3 w3 S3 X3 G3;refine lO S3.k [.w 0] Z ⟨⟨Z,by rfl⟩,U⟩ (i0a S3 o2b Z Z (M2a e M _ _ (RdE.keep (S3.keep0 M) _ _ hR) (hK.keep (S3.keep0 M))) (fun h8 w8 S8 X8=>?_) (fun h8 w8 S8 X8=>?_))
 ·refine lO1 Z ?_;refine r0a S8 D6c Z Z (y4c e [] _ g3 0 _ _ b0 a0 40 ⟨by simp,_,S8.cells 0 Z,RdE.less (by simp) _ _ (RdE.keep (S8.keep0 M) _ _ hR)⟩ ((hK.keep (S8.keep0 M)).more (by simp)) ((hO.keep (S8.keep0 M)).less (by simp)) ((hN.keep (S8.keep0 M)).less (by simp)) (by unfold E.wf at h8;simp only[Bool.and_eq_true] at h8;exact h8.2)) ?_;intro e0 c0 d0;refine lU Z Z ⟨congrArg (Value.int .i64) ?_,c0.fin⟩;unfold E.evl;simp[h8]
 refine lU Z Z ⟨congrArg (Value.int .i64) ?_,S8.fin⟩;unfold E.evl;simp[h8]
section
variable {σ:Type}
mutual
def E.lf(step:E→σ→σ):E→σ→σ
 | ⟨op,w,n,ks⟩,s=>E.lfs step ks (if ks.length=0 then step ⟨op,w,n,ks⟩ s else s)
def E.lfs(step:E→σ→σ):List E→σ→σ
 | [],s=>s
 | k::ks,s=>E.lfs step ks (E.lf step k s)
end
theorem E.lf_def(step:E→σ→σ)(e:E)(s:σ):e.lf step s=E.lfs step e.kids (if e.kids.length=0 then step e s else s):=by cases e;simp only[E.lf]
theorem H0a.mono{M M':List Nat}{w w':World}(h:H0a M w w')(hs:∀g∈M,g∈M'):H0a M' w w':=⟨h.os,h.tape,h.output,h.size,fun i hi hm=>h.block i hi fun hh=>hm (hs i hh)⟩
theorem St.more0{M:List Nat}{w0 w w':World}(S:St M w0 w [])(h:H0a M w w'):St M w0 w' [] :=
 S.changed (G:=M) (L':=[]) h (fun _ hg=>.inr hg) Z (by simp)
end
theorem B5b{σ:Type}(M:List Nat)(Inv:σ→World→Prop)(step:E→σ→σ)(f:FuncId)(caps:Array Value)(hf:Has prog f)
 (b0:∀(e:E) (s:σ) (w:World) (b o:Nat),e.Shape→e.kids.length=0→RdP M w e b o→Inv s w →
   A0a prog f (.pointer (some ⟨b,o,none⟩)::caps.toList).toArray w fun _ w'=>Inv (step e s) w'∧H0a M w w') :
 ∀(e:E) (w0:World) (b o:Nat) (s:σ) (g0:Int),RdP M w0 e b o→Inv s w0→e.good g0=true →
 A0a prog 119 #[.pointer (some ⟨b,o,none⟩),.func (.func f) #[] caps] w0 fun _ w'=>Inv (e.lf step s) w'∧H0a M w0 w':=by
 intro e
 induction e using E.induct with
 | _ e ih =>
 intro w0 b o s g0 hR hI hg;obtain⟨d0,_,_,_,_,_,_,_,n,_,c3,_,_,_,_,B0,_⟩:=hR.open_;rw[E.good_def] at hg;simp only[Bool.and_eq_true] at hg;have D0:e.Shape:=of_decide_eq_true hg.1.2;have z0:∀k∈e.kids,k.good (g0-1)=true:=(E.goods_iff _ _).1 hg.2;clear hg;have S:St M w0 w0 []:=⟨H0a.refl _ _,by simp,by simp⟩;have n0:=E.lf_def step e s;refine a0a func119 Z ntmps119 Z ?_;refine wX (fun D ε w=>D=[]∧∃s1:σ,(Inv s1 w)∧(s1=if e.kids.length=0 then step e s else s)∧St M w0 w []∧ε 0=.pointer (some ⟨b,o,none⟩)∧ε 1=.func (.func f) #[] caps) ?_ ?_
 ·refine wO1 Z (G0a Q1a Z (by first|exact S.oldM d0 c3) Z ?_);refine lB1 Z (fun u0=>?_) fun u0=>?_
  ·refine lO1 Z (M7a hf Z Z Z (b0 e s _ b o D0 (by omega) (hR.keep S.keepM) hI) ?_);rintro E0 G0 ⟨q0,o0⟩;have s0:=S.more0 o0;exact lP0 Z U ⟨Z,_,q0,by rw[if_pos (by omega)],s0,Z,Z⟩
  exact lP0 Z U ⟨Z,_,hI,by rw[if_neg (by omega)],S,Z,Z⟩
 rintro D ε w ⟨rfl,s1,x0,C0,S,e0,e1⟩;refine q0a 0 e0 (q0a 1 e1 ?_);clear e0 e1;rw[←C0] at n0;refine wO1 Z (G0a Q1a Z (by first|exact S.oldM d0 c3) Z ?_);refine lC1 Z (wL (fun μ D ε w=>D=[]∧∃k:Nat,∃s2:σ,(k+μ=e.kids.length)∧(Inv s2 w)∧(E.lfs step e.kids s1=E.lfs step (e.kids.drop k) s2)∧St M w0 w []∧ε 0=.pointer (some ⟨b,o,none⟩)∧ε 1=.func (.func f) #[] caps∧ε 18=.int .i64 n∧ε 19=.int .i64 k) (μ:=e.kids.length) ⟨Z,0,s1,by omega,x0,Z,S,Z,Z,Z,Z⟩ ?_);rintro μ D ε w ⟨rfl,k,s2,_,m0,a0,S,e0,e1,i0,j0⟩;refine q0a 0 e0 (q0a 1 e1 (q0a 18 i0 (q0a 19 j0 ?_)));clear e0 e1 i0 j0;refine wB1 Z (fun v0=>?_) fun v0=>?_
 ·refine lO1 Z (G0a Q1a Z (by first|exact S.oldM d0 c3) Z ?_);refine lO1 Z ?_;have c0:k<e.kids.length:=by omega
  obtain⟨bk,ok,_,f0,A0⟩:=B0 (by omega);have y0:e.kids.drop k=e.kids[k]::e.kids.drop (k+1):=List.drop_eq_getElem_cons c0;rw[y0] at a0;simp only[E.lfs] at a0;refine N0a T0a.slT Z (by assumption) Z Z ?_;refine lO1 Z (a2a w7b Z Z (ih _ (List.getElem_mem c0) _ bk (ok+k*4) s2 _ ((RdP.kid f0 A0 k c0).keep S.keepM) m0 (z0 _ (List.getElem_mem c0))) ?_);rintro F0 H0 ⟨r0,p0⟩;have t0:=S.more0 p0;exact lP1 Z ⟨μ-1,by omega,Z,k+1,_,by omega,r0,a0,t0,Z,Z,Z,Z⟩
 refine lF1 Z (J1a Z ?_);obtain rfl:k=e.kids.length:=by omega
 rw[List.drop_length] at a0;simp only[E.lfs] at a0;rw[n0,a0];exact⟨m0,S.below⟩
def Z3d(M:List Nat)(gc gp gg:Nat)(vc:Value)(cells:List g1a)(pair:Bool)(s:Bool)(w:World):Prop :=
 gc∉M∧gp∉M∧w.cell? ⟨gc,0,none⟩=some vc∧w.cell? ⟨gp,0,none⟩=some (.bool pair)∧p0a w (gg,4,[.bool s])∧i0b M w vc cells
theorem U0c(M:List Nat)(gc gp gg:Nat)(vc:Value)(cells:List g1a)(a0:Bool)(L0:gg∈M)(e:E)(s:Bool)(w0:World)(b o:Nat)(B0:e.Shape)(P0:e.kids.length=0)(hR:RdP M w0 e b o)(hI:Z3d M gc gp gg vc cells a0 s w0):
 A0a prog 189 #[.pointer (some ⟨b,o,none⟩),.pointer (some ⟨gc,0,none⟩),.pointer (some ⟨gp,0,none⟩),.pointer (some ⟨gg,0,none⟩)] w0 fun _ w'=>Z3d M gc gp gg vc cells a0 (s&&decide (e.OverN cells a0)) w'∧H0a M w0 w':=by
 obtain⟨y0,z0,s0,x0,q0,hC⟩:=hI;obtain⟨G0,_,_,_,c0,c1,c2,_,n,_,_,_,_,hm,_⟩:=hR.open_;obtain⟨Ac,nc,cc,rfl,_,_,_,_,J0⟩:=id hC;have O0:=I3a B0;have F0:=L1a e.op;have Q0:(e.op=3∨e.op=2)→0≤e.n∧e.n<32:=fun h=>by
  have:=(y5a).1 B0;omega
 have S:=St.borrow1 q0;have d0:∀g∈[gg],g∈M:=fun g hg=>by simp at hg;subst hg;exact L0
 have n0:b∉[gg]:=fun h=>G0 (d0 b h);have r0:gc∉[gg]:=fun h=>y0 (d0 gc h);have u0:gp∉[gg]:=fun h=>z0 (d0 gp h);have i0:∀(z:Bool) (w':World),St [gg] w0 w' [(some gg,4,[.bool z])]→z=(s&&decide (e.OverN cells a0))→Z3d M gc gp gg (.slice Ac nc cc) cells a0 (s&&decide (e.OverN cells a0)) w'∧H0a M w0 w':=by
  intro z w' S' hz;subst hz;exact⟨⟨y0,z0,S'.oldM r0 s0,S'.oldM u0 x0,S'.blk 0 Z,hC.keep (S'.keepM.mono d0)⟩,S'.below.mono d0⟩
 obtain⟨pr,v0⟩:∃pr,pr=a0:=⟨_,Z⟩;have g0:=x0;rw[←v0] at g0;refine a0a func189 Z ntmps189 Z ?_;refine wC1 Z (y0a b0a [0,1,2,3,4,5,6,7,8,9,10,11,12,13,14,15,16,17,18,19,20,21,22,23,24,25,26,27,28,29,30,31,32,33,34,35,36,37,38,39] [] [] Z (Cl _ _ _ _) (Cl.start S) ?_);refine qO1 Z (j0a E0a Z (fun w1 hw=>by exact hw.1.oldM n0 c0) Z ?_);refine qB1 Z (fun h9=>?_) fun h9=>?_
 ·refine qO1 Z (j0a E0a Z (fun w1 hw=>by exact hw.1.oldM n0 c2) Z ?_);refine qO1 Z (j0a Y1b Z (fun w1 hw=>by exact hw.1.oldM r0 s0) Z ?_);refine qB1 Z (fun C0=>?_) fun C0=>?_
  ·refine lV Z ?_;rintro wR0 ⟨f0,m0⟩;refine lO1 Z ?_
   first|refine X0a (kk:=0) f0 p4b Z Z Z (by exact Nat.le_of_ble_eq_true Z) ?_
   intro o0 e0 j0;refine lF1 Z (J1a Z ?_);refine i0 _ _ e0 ?_;rw[decide_eq_false (show ¬e.OverN cells a0 from fun h=>by have:=h.2 (by omega);omega)];simp;done
  refine qO1 Z (j0a Y1b Z (fun w1 hw=>by exact hw.1.oldM r0 s0) Z ?_);refine qO1 Z (j0a E0a Z (fun w1 hw=>by exact hw.1.oldM n0 c2) Z ?_);refine qO1 Z ?_;obtain⟨bc,oc,_,H0,I0⟩:=J0 (by omega);obtain⟨m,hm⟩:=Int.eq_ofNat_of_zero_le (show 0≤e.n by omega);have A0:m<cells.length:=by omega
  have p0:bc∉[gg]:=fun h=>H0 (d0 bc h);obtain⟨_,_,t0,N0⟩:=I0 m cells[m] (List.getElem?_eq_getElem A0);have K0:w0.cell? ⟨bc,oc+e.n.toNat*6+1,none⟩=some (.int .i64 (wAt cells e.n)):=by
   rw[hm];have:=t0 1 (.int .i64 cells[m].w) (by rw[N0.1];rfl);simpa[wAt,A0] using this
  refine F0a v6a.slT Z (by assumption) Z Z ?_;refine qO1 Z (j0a E0a Z (fun w1 hw=>by exact hw.1.oldM p0 K0) Z ?_);refine qO1 Z (j0a E0a Z (fun w1 hw=>by exact hw.1.oldM n0 c1) Z ?_);refine qB1 Z (fun D0=>?_) fun D0=>?_
  ·refine lV Z ?_;rintro wR0 ⟨f0,m0⟩;refine lO1 Z ?_
   first|refine X0a (kk:=0) f0 p4b Z Z Z (by exact Nat.le_of_ble_eq_true Z) ?_
   intro o0 e0 j0;refine lF1 Z (J1a Z ?_);refine i0 _ _ e0 ?_;rw[decide_eq_false (show ¬e.OverN cells a0 from fun h=>by have:=h.2 (by omega);omega)];simp;done
  refine qO1 Z (j0a E0a Z (fun w1 hw=>by exact hw.1.oldM n0 c0) Z ?_);refine qB1 Z (fun E0=>?_) fun E0=>?_
  ·refine qO1 Z ?_;rcases(Bool.eq_false_or_eq_true (pr)).symm with b0|b0
   ·refine j0a E2a Z (fun w1 hw=>by exact(hw.1.oldM u0 (g0.trans (by rw[b0]))).trans (congrArg (fun b=>some (Value.bool b)) b0)) Z ?_;refine lV Z ?_;rintro wR0 ⟨f0,m0⟩;refine lO1 Z ?_
    first|refine X0a (kk:=0) f0 p4b Z Z Z (by exact Nat.le_of_ble_eq_true Z) ?_
    intro o0 e0 j0;refine lF1 Z (J1a Z ?_);refine i0 _ _ e0 ?_;rw[decide_eq_false (show ¬e.OverN cells a0 from fun h=>by have:=h.1 (by omega);rw[←v0,b0] at this;cases this)];simp;done
   refine j0a E2a Z (fun w1 hw=>by exact(hw.1.oldM u0 (g0.trans (by rw[b0]))).trans (congrArg (fun b=>some (Value.bool b)) b0)) Z ?_;refine lV Z ?_;rintro wR0 ⟨f0,m0⟩;refine lF1 Z (J1a Z ?_);refine i0 _ _ f0 ?_;rw[decide_eq_true (show e.OverN cells a0 from⟨fun h=>by rw[←v0,b0],fun h=>by omega⟩)];simp;done
  refine lV Z ?_;rintro wR0 ⟨f0,m0⟩;refine lF1 Z (J1a Z ?_);refine i0 _ _ f0 ?_;rw[decide_eq_true (show e.OverN cells a0 from⟨fun h=>absurd h (by omega),fun h=>by omega⟩)];simp;done
 refine lV Z ?_;rintro wR0 ⟨f0,m0⟩;refine lF1 Z (J1a Z ?_);refine i0 _ _ f0 ?_;rw[decide_eq_true (show e.OverN cells a0 from⟨fun h=>absurd h (by omega),fun h=>by omega⟩)];simp;done
theorem x8c(cells:List g1a)(a0:Bool):∀(e:E) (s:Bool) (b0:Int),e.good b0=true→e.lf (fun e s=>s&&decide (e.OverN cells a0)) s=(s&&e.over cells a0):=by
 intro e
 induction e using E.induct with
 | _ e ih =>
   intro s b0 hg;rw[E.good_def] at hg;simp only[Bool.and_eq_true] at hg;have f0:e.Shape:=of_decide_eq_true hg.1.2;have e0:∀k∈e.kids,k.good (b0-1)=true:=(E.goods_iff _ _).1 hg.2;have i0:=I3a f0;have d0:=L1a e.op;have key:∀(ks:List E),(∀k∈ks,∀(s:Bool) (b0:Int),k.good b0=true→k.lf (fun e s=>s&&decide (e.OverN cells a0)) s=(s&&k.over cells a0))→(∀k∈ks,k.good (b0-1)=true) →
    ∀s:Bool,E.lfs (fun e s=>s&&decide (e.OverN cells a0)) ks s=(s&&E.overs cells a0 ks):=by
    intro ks
    induction ks with
    | nil=>intro _ _ s;simp[E.lfs,E.overs]
    | cons k ks g0 =>
      intro h1 h2 s;simp only[E.lfs,E.overs];rw[g0 (fun k' c0=>h1 k' (by simp[c0])) (fun k' c0=>h2 k' (by simp[c0])),h1 k (by simp) _ (b0-1) (h2 k (by simp)),Bool.and_assoc]
   rw[E.lf_def,key e.kids ih e0,E.over_def];by_cases h0:e.kids.length=0
   ·rw[if_pos h0,Bool.and_assoc]
   ·rw[if_neg h0,decide_eq_true (show e.OverN cells a0 by unfold E.OverN;omega)];simp
theorem N2a(e:E)(M:List Nat)(w0:World)(cs:LV)(vc:Value)(cells:List g1a)(b0:Bool)(hR:RdE M w0 e cs)(hC:i0b M w0 vc cells)(hK:W1a M w0):
 A0a prog 125 #[.agg cs.toArray,vc,.bool b0] w0 fun v w'=>v=.bool (e.valid cells b0)∧Bw w0 w':=by
 obtain⟨_,_,_,rfl,_⟩:=hR.open_;obtain⟨Ac,nc,cc,rfl⟩:=hC.form;have S:=St.refl w0;refine a0a func125 Z ntmps125 Z ?_;refine wO1 Z (o0a S Z ?_);intro g3 w3 S3 X3 G3;refine n2b S3 (v:=.slice _ _ _) Z Z Z ?_;intro g4 w4 S4 X4 G4;refine n2b S4 (v:=.bool _) Z Z Z ?_;intro g5 w5 S5 X5 G5;refine lO S5.k [.w 2] Z ⟨⟨Z,by rfl⟩,U⟩ (i0a S5 o2b Z Z (M2a e M _ _ (RdE.keep (S5.keep0 M) _ _ hR) (hK.keep (S5.keep0 M))) (fun h9 w9 S9 X9=>?_) (fun h9 w9 S9 X9=>?_))
 ·refine lO1 Z (g0a S9 q5d Z Z ?_);intro g7 w7 S7 X7 G7;refine X0a (kk:=0) S7 p4b Z Z Z (by exact Nat.le_of_ble_eq_true Z) ?_;intro j0 a0 i0;refine lO1 Z (B1a Z Z ?_);have e0:∀g∈[g7] ,g∈M∨w0.heap.size≤g:=fun g hg=>by
   simp at hg;subst hg;right;have:=a0.new 0 Z;simp at this;exact this
  have c0:e.good 40=true:=by unfold E.wf at h9;simp only[Bool.and_eq_true] at h9;exact h9.2
  refine a2a w7b Z Z (B5b [g7] (Z3d [g7] g4 g5 g7 (.slice Ac nc cc) cells b0) (fun e s=>s&&decide (e.OverN cells b0)) _ _ p0d (fun e s w b o h1 h2 h3 h4=>U0c [g7] g4 g5 g7 _ cells b0 (by simp) e s w b o h1 h2 h3 h4) e _ g3 0 true 40
   ⟨by simpa using(a0.ne 0 3 Z Z (by omega)).symm,_,a0.cells 3 Z,RdE.keep (a0.keep0 _) _ _ (RdE.more e0 _ _ hR)⟩
   ⟨by simpa using(a0.ne 0 2 Z Z (by omega)).symm,by simpa using(a0.ne 0 1 Z Z (by omega)).symm,a0.cell 2 Z Z,a0.cell 1 Z Z,a0.blk 0 Z,(hC.more (by omega) e0).keep (a0.keep0 _)⟩ c0) ?_
  rintro m0 n0 ⟨⟨-,-,-,-,g0,-⟩,f0⟩;have d0:=a0.changed1 0 Z f0 g0;rw[x8c cells b0 e true 40 c0] at d0;dsimp only[List.set] at d0;refine lR d0.k [.o 0] Z ⟨Z,U⟩ (w0a Z ?_);refine⟨cB ?_,d0.fin⟩;unfold E.valid;simp[h9]
 refine lU Z Z ⟨cB ?_,S9.fin⟩;unfold E.valid;simp[h9]
theorem T0c{M:List Nat}{w:World}:RdI M w (.slice none 0 0) []:=⟨none,0,0,Z,Z,Nat.le_refl _,by unfold maxLen;omega,by omega,fun h=>absurd h (by omega)⟩
def F1d(g1 g2:Nat)(s:List Bool×List Bool)(w:World):Prop :=
 s.1.length=32∧s.2.length=32∧p0a w (g1,175,s.1.map Value.bool)∧p0a w (g2,175,s.2.map Value.bool)
def L6a(e:E)(s:List Bool×List Bool):List Bool×List Bool:=(if e.op=3 then s.1.set e.n.toNat true else s.1,if e.op=2 then s.2.set e.n.toNat true else s.2)
theorem j7b(g1 g2:Nat)(m0:g1≠g2)(e:E)(s:List Bool×List Bool)(w0:World)(b o:Nat)(n0:e.Shape)(hR:RdP [g1,g2] w0 e b o)(hI:F1d g1 g2 s w0):
 A0a prog 120 #[.pointer (some ⟨b,o,none⟩),.pointer (some ⟨g1,0,none⟩),.pointer (some ⟨g2,0,none⟩)] w0 fun _ w'=>F1d g1 g2 (L6a e s) w'∧H0a [g1,g2] w0 w':=by
 obtain⟨l1,l2,f0,g0⟩:=hI;obtain⟨_,_⟩:=s;dsimp only at l1 l2 f0 g0;obtain⟨e0,_,_,_,c0,_,c2,_,n,_⟩:=hR.open_;have q0:(e.op=3∨e.op=2)→0≤e.n∧e.n<32:=fun h=>by
  have:=(y5a).1 n0;omega
 have S:=St.borrow2 f0 g0 m0;refine a0a func120 Z ntmps120 Z ?_;refine wO1 Z (G0a E0a Z (by exact S.oldM e0 c0) Z ?_);refine lB1 Z (fun h9=>?_) fun h9=>?_
 ·refine lO1 Z (G0a E0a Z (by exact S.oldM e0 c2) Z ?_);refine w2a D3b Z Z Z ?_;refine X0a (kk:=0) S p4b Z Z Z (by(simp;omega)) ?_;intro o0 a0 i0;refine lF1 Z (J1a Z ?_);refine⟨?_,a0.below⟩;unfold F1d L6a;refine⟨by dsimp only;split<;>simp[l1],by dsimp only;split<;>simp[l2],?_,?_⟩
  ·have hh:=a0.blk 0 Z;simpa[h9,List.map_set] using hh;done
  ·have hh:=a0.blk 1 Z;simpa[h9,List.map_set] using hh;done
 refine lB1 Z (fun d0=>?_) fun d0=>?_
 ·refine lO1 Z (G0a E0a Z (by exact S.oldM e0 c2) Z ?_);refine w2a D3b Z Z Z ?_;refine X0a (kk:=1) S p4b Z Z Z (by(simp;omega)) ?_;intro p0 b0 j0;refine lF1 Z (J1a Z ?_);refine⟨?_,b0.below⟩;unfold F1d L6a;refine⟨by dsimp only;split<;>simp[l1],by dsimp only;split<;>simp[l2],?_,?_⟩
  ·have hh:=b0.blk 0 Z;simpa[h9,List.map_set] using hh;done
  ·have hh:=b0.blk 1 Z;simpa[h9,d0,List.map_set] using hh;done
 refine lF1 Z (J1a Z ?_);refine⟨?_,S.below⟩;unfold F1d L6a;refine⟨by dsimp only;split<;>simp[l1],by dsimp only;split<;>simp[l2],?_,?_⟩
 ·have hh:=S.blk 0 Z;simpa[h9,List.map_set] using hh;done
 ·have hh:=S.blk 1 Z;simpa[h9,d0,List.map_set] using hh;done
theorem t2b(M:List Nat)(w0:World)(bs:List Bool)(e0:bs.length=32)(hM:∀g∈M,g<w0.heap.size):
 A0a prog 121 #[.agg (bs.map Value.bool).toArray] w0 fun v' w'=>RdI M w' v' (j3a bs)∧Bw w0 w':=by
 have S:=(St.refl w0).nilEnt 3;have x0:(bs.map Value.bool).length=32:=by simpa using e0
 refine a0a func121 Z ntmps121 Z ?_;refine wO1 Z (o0a S Z ?_);intro g1 w1 S1 X1 G1;refine lC S1.k [.w 0] Z ⟨⟨Z,by assumption⟩,U⟩ (wL (fun μ D ε w=>D=[]∧∃k:Nat,∃G:Option Nat,∃cs:LV,∃v:Value,(k+μ=32)∧(S4a G 1 (K1a bs k).length cs v ((K1a bs k).map (Value.int .i64)))∧St [] w0 w [(G,3,cs)]∧ε 3=v∧ε 6=.agg (bs.map Value.bool).toArray∧ε 7=.int .i64 k) (μ:=32) ⟨Z,0,none,[],_,by omega,S4a.nil 1,S1.tail,Z,Z,Z⟩ ?_);rintro μ D ε w ⟨rfl,k,G,cs,v,_,b0,S,e3,e6,e7⟩;refine q0a 3 e3 (q0a 6 e6 (q0a 7 e7 ?_));clear e3 e6 e7;refine wB1 Z (fun h8=>?_) fun h8=>?_
 ·refine lO1 Z ?_;have c0:k<bs.length:=by omega
  have f0:((bs.map Value.bool).toArray)[((k:Nat):Int).toNat]?=some (.bool bs[k]):=by simp[c0]
  have g0:bs.getD k false=bs[k]:=by simp[c0]
  have n0:=p2a bs k;cases a0:bs[k]
  ·have c0:k<bs.length:=by omega
   have f0:((bs.map Value.bool).toArray)[((k:Nat):Int).toNat]?=some (.bool bs[k]):=by simp[c0]
   have g0:bs.getD k false=bs[k]:=by simp[c0]
   have n0:=p2a bs k;refine o6b D3b Z Z (f0.trans (by rw[a0])) Z ?_;refine lP1 Z ⟨μ-1,by omega,Z,k+1,G,cs,v,by omega,?_,S,Z,Z,Z⟩;rw[r3a,g0,a0];simpa using b0
  have c0:k<bs.length:=by omega
  have f0:((bs.map Value.bool).toArray)[((k:Nat):Int).toNat]?=some (.bool bs[k]):=by simp[c0]
  have g0:bs.getD k false=bs[k]:=by simp[c0]
  have n0:=p2a bs k;refine o6b D3b Z Z (f0.trans (by rw[a0])) Z ?_;refine lOn 11 S.k [] Z U (J0a Z ?_);refine lO1 Z (k0a S R0a (vs:=[.int .i64 _]) (cs:=[_]) Z Z Z Z Z Z ?_);intro v0 y0 m0 t0 s0;refine N2b (k:=1) m0 R0a Z b0 Z Z (m0.cells 0 Z) Z (by simp[Value.oneCell']) (by omega) Z ?_;intro r0 o0 j0 z0 i0 d0 u0;have p0:=i0.tail;refine B0a Z ?_;refine lP1 Z ⟨μ-1,by omega,Z,k+1,o0,j0,r0,by omega,?_,p0,Z,Z,Z⟩;rw[r3a,g0,a0];simpa using d0
 refine lOn 8 S.k [] Z U (J0a Z ?_);refine B0a Z ?_;refine lR1 Z (w0a Z ?_);obtain rfl:k=32:=by omega
 have q0:K1a bs 32=j3a bs:=by unfold j3a;rw[e0]
 rw[q0] at b0;refine⟨b0.rdI (k:=0) S Z hM (fun x hx=>?_) ?_,S.nil.fin⟩
 ·obtain⟨_,rfl,_⟩:=(q5a _ _ _).1 hx;unfold i64;omega
 ·have:=p2a bs bs.length;unfold j3a;omega
theorem R3d:∀(e:E) (a1 a2:List Bool) (a0:Int),e.good a0=true→e.lf L6a (a1,a2)=(e.mark 3 a1,e.mark 2 a2):=by
 intro e
 induction e using E.induct with
 | _ e ih =>
   intro a1 a2 a0 hg;rw[E.good_def] at hg;simp only[Bool.and_eq_true] at hg;have e0:e.Shape:=of_decide_eq_true hg.1.2;have c0:∀k∈e.kids,k.good (a0-1)=true:=(E.goods_iff _ _).1 hg.2;have g0:=I3a e0;have d0:=L1a e.op;have key:∀(ks:List E),(∀k∈ks,∀(a1 a2:List Bool) (a0:Int),k.good a0=true→k.lf L6a (a1,a2)=(k.mark 3 a1,k.mark 2 a2))→(∀k∈ks,k.good (a0-1)=true) →
    ∀a1 a2:List Bool,E.lfs L6a ks (a1,a2)=(E.markAll 3 ks a1,E.markAll 2 ks a2):=by
    intro ks
    induction ks with
    | nil=>intro _ _ a1 a2;simp[E.lfs,E.markAll]
    | cons k ks f0 =>
      intro h1 h2 a1 a2;simp only[E.lfs,E.markAll];rw[h1 k (by simp) _ _ (a0-1) (h2 k (by simp)),f0 (fun k' b0=>h1 k' (by simp[b0])) (fun k' b0=>h2 k' (by simp[b0]))]
   rw[E.lf_def,E.mark_def,E.mark_def];by_cases h0:e.kids.length=0
   ·rw[if_pos h0];exact key e.kids ih c0 _ _
   ·rw[if_neg h0,if_neg (by omega),if_neg (by omega)];exact key e.kids ih c0 _ _
theorem j5a(e:E)(M:List Nat)(w0:World)(cs:LV)(hR:RdE M w0 e cs)(hK:W1a M w0)(hM:∀g∈M,g<w0.heap.size):
 A0a prog 66 #[.agg cs.toArray] w0 fun v w'=>(∃a b,v=.tuple #[a,b]∧RdI M w' a (e.sup 3)∧RdI M w' b (e.sup 2))∧Bw w0 w':=by
 obtain⟨_,_,_,rfl,_⟩:=hR.open_;have S:=St.refl w0;refine a0a func66 Z ntmps66 Z ?_;refine wO1 Z (o0a S Z ?_);intro g1 w1 S1 X1 G1;refine lO S1.k [.w 0] Z ⟨⟨Z,by rfl⟩,U⟩ (i0a S1 o2b Z Z (M2a e M _ _ (RdE.keep (S1.keep0 M) _ _ hR) (hK.keep (S1.keep0 M))) (fun h7 w7 S7 X7=>?_) (fun h7 w7 S7 X7=>?_))
 ·refine lO1 Z (g0a S7 E7c Z Z ?_);intro g4 w4 S4 X4 G4;refine g0a S4 E7c Z Z ?_;intro g5 w5 S5 X5 G5;refine lO1 Z (B1a Z Z ?_);have i0:∀g∈[g4,g5] ,g∈M∨w0.heap.size≤g:=fun g hg=>by
   simp at hg;rcases hg with rfl|rfl
   ·right;have:=S5.new 1 Z;simp at this;exact this
   ·right;have:=S5.new 0 Z;simp at this;exact this
  have a0:e.good 40=true:=by unfold E.wf at h7;simp only[Bool.and_eq_true] at h7;exact h7.2
  have j0:=(S5.ne 0 1 Z Z (by omega)).symm;refine a2a w7b Z Z (B5b [g4,g5] (F1d g4 g5) L6a _ _ q8c (fun e s w b o h1 _ h3 h4=>j7b g4 g5 j0 e s w b o h1 h3 h4) e _ g1 0 (List.replicate 32 false,List.replicate 32 false) 40
   ⟨by simpa using⟨(S5.ne 1 2 Z Z (by omega)).symm,(S5.ne 0 2 Z Z (by omega)).symm⟩,_,S5.cells 2 Z,RdE.keep (S5.keep0 _) _ _ (RdE.more i0 _ _ hR)⟩
   ⟨Z,Z,S5.blk 1 Z,S5.blk 0 Z⟩ a0) ?_
  rintro p0 s0 ⟨⟨-,-,I1,I2⟩,e0⟩;rw[R3d e _ _ 40 a0] at I1 I2;dsimp only at I1 I2;have b0:=S5.changed2 1 0 Z Z e0 I1 I2;dsimp only[List.set] at b0;have q1:(e.mark 3 (List.replicate 32 false)).length=32:=by rw[E.mark_len];simp
  have q2:(e.mark 2 (List.replicate 32 false)).length=32:=by rw[E.mark_len];simp
  have n0:((e.mark 3 (List.replicate 32 false)).map Value.bool).length=32:=by simpa using q1
  have o0:((e.mark 2 (List.replicate 32 false)).map Value.bool).length=32:=by simpa using q2
  refine lC1 Z (y0a b0a [0,2] [1] [3,4,5] Z (Cl _ _ _ _) (Cl.start b0) ?_);refine qN b0.q [.w 1,.w 0] Z ⟨⟨Z,by assumption⟩,⟨Z,by assumption⟩,U⟩ (h4a ?_);refine z8b (fun v w=>RdI M w v (j3a (e.mark 3 (List.replicate 32 false)))) Z Z R1c Z (fun v w w' h hk=>h.keep hk.of_nil) (fun w1 S1 X1=>t2b M _ _ q1 (fun g hg=>Nat.lt_of_lt_of_le (hM g hg) S1.size)) ?_;refine O1a ?_;rintro u0 ⟨d0,_⟩;rintro q0 c0;dsimp only[V3a];refine h0a d0 R1c Z Z (t2b M _ _ q2 (fun g hg=>Nat.lt_of_lt_of_le (hM g hg) d0.size)) ?_;rintro r0 t0 m0 f0 g0;replace c0:=c0.keep (g0.of_nil);refine B0a Z ?_;refine B0a Z ?_;refine lT1 Z Z ⟨⟨_,_,Z,?_⟩,f0.fin⟩;unfold E.sup;rw[if_pos h7,if_pos h7];exact⟨c0,m0⟩
 refine lT1 Z Z ⟨⟨_,_,Z,?_⟩,S7.fin⟩;unfold E.sup;rw[if_neg (by simp[h7]),if_neg (by simp[h7])];exact⟨T0c,T0c⟩
theorem x0a.fresh{a b c:World}{g:Nat}(h:x0a [] a b)(k:x0a [g] b c)(hg:a.heap.size≤g):x0a [] a c :=
 ⟨Nat.le_trans h.size k.size,fun i hi hm=>(k.same i (Nat.lt_of_lt_of_le hi h.size) (fun hh=>by rw[List.mem_singleton] at hh;omega)).trans (h.same i hi hm)⟩
def shQ(p:m0a)(c:Int):Bool:=decide ((0≤c∧c<p.cells.length)∧u1a p.cells c=-1)
def d9a(p:m0a)(t:Int)(c:Int):Bool:=decide ((0≤c∧c<p.cells.length)∧u1a p.cells c=t)
def H1b(p:m0a)(t:Int)(c:Int):Bool:=shQ p c||d9a p t c
def x3a(e:E)(q:Int→Bool):Bool:=(e.sup 3).all q&&(e.sup 2).all q
theorem I0b{cells:List g1a}{a0:Bool}{e:E}(h:e.valid cells a0=true):∀x∈e.sup 3++e.sup 2,0≤x∧x<cells.length:=fun x hx=>by
 obtain⟨d0,b0,c0⟩:=h2a h;rcases List.mem_append.1 hx with hx|hx
 ·have h1:=(N7a d0 (.inr Z) x).1 hx;have h2:=I5a (.inr Z) e 40 b0 c0 x h1.2.2;omega
 ·have h1:=(N7a d0 (.inl Z) x).1 hx;have h2:=I5a (.inl Z) e 40 b0 c0 x h1.2.2;omega
theorem m9a{e:E}{q:Int→Bool}:x3a e q=true↔∀x∈e.sup 3++e.sup 2,q x=true:=by
 simp only[x3a,Bool.and_eq_true,List.all_eq_true,List.mem_append];exact⟨fun h x hx=>hx.elim (h.1 x) (h.2 x),fun h=>⟨fun x hx=>h x (.inl hx),fun x hx=>h x (.inr hx)⟩⟩
theorem W0a.thr{p:m0a}(hp:W0a p){x:Int}(h0:0≤x)(h1:x<p.cells.length):-1≤u1a p.cells x:=by
 obtain⟨i,rfl⟩:=Int.eq_ofNat_of_zero_le h0;have hi:i<p.cells.length:=by omega
 have:=(hp.cells _ (List.getElem_mem hi)).thread;rw[j1a (c:=p.cells[i]) (by simp[hi])];omega
theorem t2a(i n:Int)(w0:World):A0a prog 203 #[.int .i64 i,.int .i64 n] w0 fun v w'=>v=.bool (decide (0≤i∧i<n))∧Bw w0 w':=by
 have S:=St.refl w0;refine a0a func203 Z ntmps203 Z ?_;refine wB1 Z (fun h6=>?_) fun h6=>?_
 ·refine lB1 Z (fun a0=>?_) fun a0=>?_
  ·refine lU Z Z ?_;exact⟨cB (by(rw[decide_eq_true];omega)),S.fin⟩
  refine lU Z Z ?_;exact⟨cB (by(rw[decide_eq_false];omega)),S.fin⟩
 refine lU Z Z ?_;exact⟨cB (by(rw[decide_eq_false];omega)),S.fin⟩
theorem m9b(e:E)(M:List Nat)(w0:World)(cs:LV)(hR:RdE M w0 e cs):A0a prog 205 #[.agg cs.toArray] w0 fun v w'=>v=.bool (dec e.absent)∧Bw w0 w':=by
 obtain⟨_,_,_,rfl,hn,_⟩:=hR.cells;have S:=St.refl w0;refine a0a func205 Z ntmps205 Z ?_;refine wO1 Z (o0a S Z ?_);intro g1 w1 S1 X1 G1;refine lB S1.k [.o 0] Z ⟨Z,U⟩ (fun h5=>?_) fun h5=>?_
 ·refine lB S1.k [.o 0] Z ⟨Z,U⟩ (fun h9=>?_) fun h9=>?_
  ·refine lB S1.k [.o 0] Z ⟨Z,U⟩ (fun a0=>?_) fun a0=>?_
   ·refine lB S1.k [.o 0] Z ⟨Z,U⟩ (fun b0=>?_) fun b0=>?_
    ·exact lU Z Z ⟨H1a ⟨by omega,by omega,by omega,List.length_eq_zero_iff.1 (by omega)⟩,S1.fin⟩
    refine lU Z Z ?_;refine⟨C0a (fun h=>?_),S1.fin⟩;obtain⟨a1,a2,a3,a4⟩:=h;rw[a4] at hn;simp at hn;omega
   refine lU Z Z ?_;refine⟨C0a (fun h=>?_),S1.fin⟩;obtain⟨a1,a2,a3,a4⟩:=h;rw[a4] at hn;simp at hn;omega
  refine lU Z Z ?_;refine⟨C0a (fun h=>?_),S1.fin⟩;obtain⟨a1,a2,a3,a4⟩:=h;rw[a4] at hn;simp at hn;omega
 refine lU Z Z ?_;refine⟨C0a (fun h=>?_),S1.fin⟩;obtain⟨a1,a2,a3,a4⟩:=h;rw[a4] at hn;simp at hn;omega
theorem c5b(M:List Nat)(w0:World)(v vf:Value)(l:List Int)(q:Int→Bool)(hR:RdI M w0 v l)(hp:G2a prog M w0 vf q):
 A0a prog 268 #[v,vf] w0 fun v w'=>(∃n,v=.int .i64 n∧(0≤n↔l.any q=true))∧Bw w0 w':=by
 obtain⟨A,n,c,rfl⟩:=hR.form;obtain⟨_,_⟩:=hR.len;have S:=St.refl w0;refine a0a func268 Z ntmps268 Z ?_;refine wC1 Z (wL (fun μk D ε w=>D=[]∧∃k:Nat,(k+μk=(l.length))∧(Y0a (l) k (fun x=>q x=false))∧St [] w0 w []∧Sl ε [(0,.slice A n c),(1,vf),(7,.int .i64 n),(8,.int .i64 k)]) (μ:=(l.length)) ⟨Z,0,by omega,Y0a.zero,S,Z⟩ ?_);rintro μk D ε w ⟨rfl,k,_,ha,S,eZ⟩;refine wK eZ (wB1 Z (fun h9=>?_) fun h9=>?_)
 ·refine lOn 16 S.k [] Z U (J0a Z ?_);obtain⟨x,j0,m0,_,g0,c0,_,_,d0,e0⟩:=RdS.get (hR) (k) (by omega);obtain⟨rfl,f0⟩:=id e0;refine lO (S.k.a d0) [.x j0 m0,.f 0 0] Z ⟨Z,⟨c0,by omega⟩,U⟩ (K7a S (hp.keep (S.keep0 M)) Z Z (f0) Z (fun b0 n0 a0 i0=>?_) (fun b0 n0 a0 i0=>?_))
  ·exact lU Z Z ⟨⟨_,Z,⟨fun _=>List.any_eq_true.2 ⟨x,c0a g0,b0⟩,fun _=>by omega⟩⟩,a0.fin⟩
  refine lP1 Z ⟨μk-1,by omega,Z,k+1,by omega,(ha.succ g0 (b0)),a0,Z⟩
 refine lU Z Z ?_;refine⟨⟨_,Z,⟨fun h=>by omega,fun h=>?_⟩⟩,S.fin⟩;obtain⟨x,h1,h2⟩:=List.any_eq_true.1 h;rw[ha.all (by omega) x h1] at h2;cases h2
theorem R0b(M:List Nat)(w0:World)(v vf:Value)(l:List Int)(q:Int→Bool)(hR:RdI M w0 v l)(hp:G2a prog M w0 vf q):
 A0a prog 246 #[v,vf] w0 fun v w'=>v=.bool (l.any q)∧Bw w0 w':=by
 obtain⟨_,_,_,rfl⟩:=hR.form;have S:=St.refl w0;refine a0a func246 Z ntmps246 Z ?_;refine wOn 8 S.k [] Z U (J0a Z ?_);refine h0a S w9c Z Z (c5b M _ _ _ l q (hR.keep (S.keep0 M)) (hp.keep (S.keep0 M))) ?_;rintro v7 w7 ⟨_,rfl,hm⟩ S7 X7;refine lB1 Z (fun h8=>?_) fun h8=>?_
 ·refine lR1 Z (w0a Z ?_);exact⟨by rw[hm.1 (by omega)],S7.fin⟩
 refine lU Z Z ?_;refine⟨cB ?_,S7.fin⟩;cases hq:l.any q with|false=>rfl|true=>exact absurd (hm.2 hq) (by omega)
theorem R9b(g:Nat)(c:Int)(M:List Nat)(w0:World)(vf:Value)(q:Int→Bool)(hc:w0.cell? ⟨g,0,none⟩=some vf)(hp:G2a prog M w0 vf q)(hi:i64 c):
 A0a prog 247 #[.int .i64 c,.pointer (some ⟨g,0,none⟩)] w0 fun v w'=>v=.bool (!q c)∧Bw w0 w':=by
 have S:=St.refl w0;refine a0a func247 Z ntmps247 Z ?_;refine wO1 Z (G0a i3b Z (by first|exact S.old hc) Z ?_);refine lO1 Z (K7a S (hp.keep (S.keep0 M)) Z Z (hi) Z (fun h6 w6 S6 X6=>?_) (fun h6 w6 S6 X6=>?_))
 ·refine lR1 Z (w0a Z ?_);exact⟨by rw[h6],S6.fin⟩
 refine lR1 Z (w0a Z ?_);exact⟨by rw[h6],S6.fin⟩
theorem W4a{M:List Nat}{w:World}{g:Nat}(hM:∀g∈M,g<w.heap.size)(h:w.heap.size≤g∨g∈([]:List Nat)):g∉M:=fun hh=>by
 rcases h with h|h
 ·have:=hM g hh;omega
 ·cases h
theorem W5a(M:List Nat)(w0:World)(v vf:Value)(l:List Int)(q:Int→Bool)(hR:RdI M w0 v l)(hp:G2a prog M w0 vf q)(hM:∀g∈M,g<w0.heap.size):
 A0a prog 209 #[v,vf] w0 fun v w'=>v=.bool (l.all q)∧Bw w0 w':=by
 obtain⟨_,_,c,rfl⟩:=hR.form;obtain⟨_,_,_,rfl,_⟩:=id hp;have S:=St.refl w0;refine a0a func209 Z ntmps209 Z ?_;refine wO1 Z (n2b S (v:=.func _ _ _) Z Z Z ?_);intro g3 w3 S3 X3 G3;refine lO1 Z (B1a Z Z ?_);refine i0a S3 I9c Z Z (R0b M _ _ _ l (fun c=>!q c) (hR.keep (S3.keep0 M)) ⟨247,#[],_,Z,c1d,fun w' hk c hc=>R9b g3 c M w' _ q (hk.cell (a:=⟨g3,0,none⟩) (W4a hM (S3.new 0 Z)) (S3.cell 0 Z Z)) (hp.keep ((S3.keep0 M).trans hk)) hc⟩) (fun h7 w7 S7 X7=>?_) (fun h7 w7 S7 X7=>?_)
 ·refine lU Z Z ⟨cB ?_,S7.fin⟩;have h8:l.all q=!(l.any fun c=>!q c):=by simp[List.all_eq_not_any_not]
  rw[h8,h7]<;>rfl
 refine lU Z Z ⟨cB ?_,S7.fin⟩;have h8:l.all q=!(l.any fun c=>!q c):=by simp[List.all_eq_not_any_not]
 rw[h8,h7]<;>rfl
theorem J5a(p:m0a)(M:List Nat)(w0:World)(cs:LV)(c:Int)(hP:e1a M w0 p cs):
 A0a prog 207 #[.agg cs.toArray,.int .i64 c] w0 fun v w'=>v=.bool (shQ p c)∧Bw w0 w':=by
 obtain⟨_,_,_,_,_,_,_,_,_,_,_,_,rfl,hC,_⟩:=hP.open_;have S:=St.refl w0;refine a0a func207 Z ntmps207 Z ?_;refine wO1 Z (o0a S Z ?_);intro g2 w2 S2 X2 G2;refine lO S2.k [.o 0] Z ⟨Z,U⟩ (i0a S2 a3a Z Z (t2a _ _ _) (fun b0 n0 a0 g0=>?_) (fun b0 n0 a0 g0=>?_))
 ·have o0:=of_decide_eq_true b0;obtain⟨x,i0,m0,_,f0,c0,_,_,d0,e0⟩:=RdS.get (hC) (c.toNat) (by omega);obtain⟨rfl,_⟩:=P2a.open_ e0;refine lB (a0.k.a d0) [.o 0,.x i0 m0,.f 0 3] Z ⟨Z,⟨c0,by omega⟩,Z,U⟩ (fun j0=>?_) fun j0=>?_
  ·refine lU Z Z ⟨cB ?_,a0.fin⟩;unfold shQ;rw[decide_eq_true];exact⟨by omega,by rw[j1a f0];omega⟩
  refine lU Z Z ⟨cB ?_,a0.fin⟩;unfold shQ;rw[decide_eq_false];intro hh;rw[j1a f0] at hh;omega
 refine lU Z Z ⟨cB ?_,a0.fin⟩;unfold shQ;rw[decide_eq_false];intro hh;have:=of_decide_eq_false b0;omega
theorem y3a{p:m0a}{M:List Nat}{w:World}{cs:LV}(hP:e1a M w p cs):G2a prog M w (.func (.func 207) #[.agg cs.toArray] #[]) (shQ p) :=
 ⟨_,_,_,Z,x0b,fun w' hk c _=>J5a p M w' cs c (hP.keep hk)⟩
theorem Y8c(p:m0a)(t c:Int)(g g':Nat)(M:List Nat)(w0:World)(cs:LV)(hP:e1a M w0 p cs)(hg:Cells w0 g 0 cs)(n0:w0.cell? ⟨g',0,none⟩=some (.int .i64 t)):
 A0a prog 269 #[.int .i64 c,.pointer (some ⟨g,0,none⟩),.pointer (some ⟨g',0,none⟩)] w0 fun v w'=>v=.bool (d9a p t c)∧Bw w0 w':=by
 obtain⟨_,_,_,_,_,_,_,_,_,_,_,_,rfl,hC,_⟩:=hP.open_;have S:=St.refl w0;refine a0a func269 Z ntmps269 Z ?_;refine wC1 Z (y0a b0a [0,1,2,3,4,5,6,7,8,9,10,11,12,13,14,15,16,17] [] [] Z (Cl _ _ _ _) (Cl.start S) ?_);refine qO1 Z (j0a Y1b Z (fun w1 hw=>by exact hw.1.old (hg _ _ Z)) Z ?_);refine qO1 Z (H2a a3a Z Z (fun w1 S1 X1=>t2a _ _ _) (fun b0=>?_) fun b0=>?_)
 ·refine qO1 Z (j0a Y1b Z (fun w1 hw=>by exact hw.1.old (hg _ _ Z)) Z ?_);have p0:=of_decide_eq_true b0;obtain⟨x,j0,o0,_,g0,c0,_,_,d0,e0⟩:=RdS.get (hC) (c.toNat) (by omega);obtain⟨rfl,_⟩:=P2a.open_ e0;refine qO (S.q.a d0) [.x j0 o0,.f 0 3] Z ⟨Z,⟨c0,by omega⟩,U⟩ (j0a E0a Z (fun w1 hw=>by exact hw.1.old n0) Z ?_);refine qB1 Z (fun m0=>?_) fun m0=>?_
  ·refine lV Z ?_;rintro i0 ⟨a0,f0⟩;refine lU Z Z ⟨cB ?_,a0.fin⟩;unfold d9a;rw[decide_eq_true];exact⟨by omega,by rw[j1a g0];omega⟩
  refine lV Z ?_;rintro i0 ⟨a0,f0⟩;refine lU Z Z ⟨cB ?_,a0.fin⟩;unfold d9a;rw[decide_eq_false];intro hh;rw[j1a g0] at hh;omega
 refine lV Z ?_;rintro i0 ⟨a0,f0⟩;refine lU Z Z ⟨cB ?_,a0.fin⟩;unfold d9a;rw[decide_eq_false];intro hh;have:=of_decide_eq_false b0;omega
theorem m1b(p:m0a)(t:Int)(M:List Nat)(w0:World)(cs:LV)(hP:e1a M w0 p cs)(hM:∀g∈M,g<w0.heap.size):
 A0a prog 248 #[.agg cs.toArray,.int .i64 t] w0 fun v w'=>G2a prog M w' v (d9a p t)∧Bw w0 w':=by
 obtain⟨_,_,_,_,_,_,_,_,_,_,_,_,rfl,_⟩:=hP.open_;have S:=St.refl w0;refine a0a func248 Z ntmps248 Z ?_;refine wO1 Z (o0a S Z ?_);intro g2 w2 S2 X2 G2;refine n2b S2 (v:=.int .i64 _) Z Z Z ?_;intro g3 w3 S3 X3 G3;refine lO1 Z (B1a Z Z ?_);exact lU Z Z ⟨⟨_,_,_,Z,q9c,fun w' hk c _=>Y8c p t c g2 g3 M w' _ (hP.keep ((S3.keep0 M).trans hk)) ((S3.cells 1 Z).keep hk (W4a hM (S3.new 1 Z))) (hk.cell (a:=⟨g3,0,none⟩) (W4a hM (S3.new 0 Z)) (S3.cell 0 Z Z))⟩,S3.fin⟩
theorem t6b(p:m0a)(t c:Int)(g g':Nat)(M:List Nat)(w0:World)(cs:LV)(vf:Value)(hP:e1a M w0 p cs)(hg:Cells w0 g 0 cs)(d0:w0.cell? ⟨g',0,none⟩=some vf)(hp:G2a prog M w0 vf (d9a p t))(hc:i64 c):
 A0a prog 249 #[.int .i64 c,.pointer (some ⟨g,0,none⟩),.pointer (some ⟨g',0,none⟩)] w0 fun v w'=>v=.bool (H1b p t c)∧Bw w0 w':=by
 obtain⟨_,_,_,_,_,_,_,_,_,_,_,_,rfl,_⟩:=hP.open_;have S:=St.refl w0;refine a0a func249 Z ntmps249 Z ?_;refine wO1 Z ?_
 first|refine k3a K3b Z ((fun j v hj=>S.old (hg j v hj))) (by rfl) Z ?_
 refine lO1 Z (i0a S x0b Z Z (J5a p M _ _ _ (hP.keep (S.keep0 M))) (fun h7 w7 S7 X7=>?_) (fun h7 w7 S7 X7=>?_))
 ·refine lU Z Z ⟨cB ?_,S7.fin⟩;unfold H1b;rw[h7]<;>rfl
 refine lO1 Z (G0a i3b Z (by first|exact S7.old d0) Z ?_);refine lO1 Z (K7a S7 (hp.keep (S7.keep0 M)) Z Z (hc) Z (fun b0 e0 a0 c0=>?_) (fun b0 e0 a0 c0=>?_))
 ·refine lU Z Z ⟨cB ?_,a0.fin⟩;unfold H1b;rw[h7,b0]<;>rfl
 refine lU Z Z ⟨cB ?_,a0.fin⟩;unfold H1b;rw[h7,b0]<;>rfl
theorem T7a(p:m0a)(t:Int)(M:List Nat)(w0:World)(cs:LV)(hP:e1a M w0 p cs)(hM:∀g∈M,g<w0.heap.size):
 A0a prog 211 #[.agg cs.toArray,.int .i64 t] w0 fun v w'=>G2a prog M w' v (H1b p t)∧Bw w0 w':=by
 obtain⟨_,_,_,_,_,_,_,_,_,_,_,_,rfl,_⟩:=hP.open_;have S:=St.refl w0;refine a0a func211 Z ntmps211 Z ?_;refine wO1 Z (o0a S Z ?_);intro g2 w2 S2 X2 G2;refine lO S2.k [.w 0] Z ⟨⟨Z,by rfl⟩,U⟩ ?_;refine h0a S2 X0b Z Z (m1b p t M _ _ (hP.keep (S2.keep0 M)) (fun g hg=>by have:=hM g hg;have:=S2.size;omega)) ?_;rintro v8 w8 c0 S8 X8;obtain⟨_,_,_,rfl,_⟩:=id c0;refine g0a S8 h7c Z Z ?_;intro g5 w5 S5 X5 G5;refine X0a (kk:=0) S5 T6c Z Z Z (by exact Nat.le_of_ble_eq_true Z) ?_;intro d0 a0 b0;refine lO1 Z (B1a Z Z ?_);exact lU Z Z ⟨⟨_,_,_,Z,v0d,fun w' hk c hc=>t6b p t c g2 g5 M w' _ _ (hP.keep ((a0.keep0 M).trans hk)) ((a0.cells 1 Z).keep hk (W4a hM (a0.new 1 Z))) (hk.cell (a:=⟨g5,0,none⟩) (W4a hM (a0.new 0 Z)) (a0.cell 0 Z Z)) (c0.keep ((x0a.fresh X5 b0 G5).of_nil.trans hk)) hc⟩,a0.fin⟩
theorem f7a(e:E)(M:List Nat)(w0:World)(es:LV)(vf:Value)(q:Int→Bool)(hR:RdE M w0 e es)(hp:G2a prog M w0 vf q)(hK:W1a M w0)(hM:∀g∈M,g<w0.heap.size):
 A0a prog 214 #[.agg es.toArray,vf] w0 fun v w'=>v=.bool (x3a e q)∧Bw w0 w':=by
 obtain⟨_,_,_,rfl,_⟩:=hR.cells;obtain⟨_,_,_,rfl,_⟩:=id hp;have S:=St.refl w0;have f0:∀w':World,w0.heap.size≤w'.heap.size→∀g∈M,g<w'.heap.size:=fun w' h g hg=>by have:=hM g hg;omega
 refine a0a func214 Z ntmps214 Z ?_;refine wO1 Z (o0a S Z ?_);intro g2 w2 S2 X2 G2;refine lO S2.k [.w 0] Z ⟨⟨Z,by rfl⟩,U⟩ (h0a S2 X8b Z Z (j5a e M _ _ (RdE.keep (S2.keep0 M) _ _ hR) (hK.keep (S2.keep0 M)) (f0 _ S2.size)) ?_);rintro v9 w9 ⟨_,_,rfl,ra,rb⟩ S9 X9;obtain⟨_,_,_,rfl⟩:=ra.form;obtain⟨_,_,_,rfl⟩:=rb.form;refine lOn 10 S9.k [] Z U (J0a Z ?_);refine i0a S9 y9a Z Z (W5a M _ _ _ _ q ra (hp.keep (S9.keep0 M)) (f0 _ S9.size)) (fun b0 i0 a0 d0=>?_) (fun b0 i0 a0 d0=>?_)
 ·replace ra:=ra.keep (d0.of_nil);replace rb:=rb.keep (d0.of_nil);refine lOn 2 a0.k [] Z U (T2a Z Z Z ?_);refine J0a Z ?_;refine lO1 Z (i0a a0 y9a Z Z (W5a M _ _ _ _ q rb (hp.keep (a0.keep0 M)) (f0 _ a0.size)) (fun e0 j0 c0 g0=>?_) (fun e0 j0 c0 g0=>?_))
  ·replace ra:=ra.keep (g0.of_nil);refine lU Z Z ⟨cB ?_,c0.fin⟩;unfold x3a;rw[b0,e0]<;>rfl
  refine lU Z Z ⟨cB ?_,c0.fin⟩;unfold x3a;rw[b0,e0]<;>rfl
 refine lU Z Z ⟨cB ?_,a0.fin⟩;unfold x3a;rw[b0]<;>rfl
theorem K6a(p:m0a)(M:List Nat)(w0:World)(cs:LV)(c:Int)(hP:e1a M w0 p cs)(h0:0≤c)(h1:c<p.cells.length):
 A0a prog 281 #[.agg cs.toArray,.int .i64 c] w0 fun v w'=>v=.bool (i9a p.cells c)∧Bw w0 w':=by
 obtain⟨_,_,_,_,_,_,_,_,_,_,_,_,rfl,hC,_⟩:=hP.open_;have S:=St.refl w0;refine a0a func281 Z ntmps281 Z ?_;refine wO1 Z (o0a S Z ?_);intro g2 w2 S2 X2 G2;obtain⟨x,b9,p9,_,d0,a0,_,_,b0,c0⟩:=RdS.get (hC) (c.toNat) (by omega);obtain⟨rfl,_⟩:=P2a.open_ c0;refine lR (S2.k.a b0) [.o 0,.x b9 p9,.f 0 4] Z ⟨Z,⟨a0,by omega⟩,Z,U⟩ (w0a Z ?_);exact⟨by rw[y2a d0],S2.fin⟩
theorem u2a(n:Nat):H3a n=((2 ^ n:Nat):Int):=by
 induction n with
 | zero=>rfl
 | succ n ih=>simp only[H3a,ih,Nat.pow_succ];omega
theorem L2a(a:Int)(h0:0≤a:=by omega)(h1:a<9223372036854775808:=by omega):IntKind.i64.wrap a=a:=by
 unfold IntKind.wrap;have hm:a % (2 ^ IntKind.i64.bits:Int)=a:=Int.emod_eq_of_lt h0 (by simp[IntKind.bits];omega);simp only[hm];rw[if_neg];simp[IntKind.bits,IntKind.signed];omega
theorem M5a(a:Int)(n:Nat)(hn:n≤62:=by omega):N8a a (H3a n-1)=a % H3a n:=by
 have h2:(2:Nat) ^ n≤2 ^ 62:=Nat.pow_le_pow_right (by omega) hn;have c0:0<(2:Nat) ^ n:=Nat.pow_pos (by omega);rw[u2a];have e1:(((2 ^ n:Nat):Int)-1)=((2 ^ n-1:Nat):Int):=by omega
 have key:(BitVec.ofInt 64 a &&& BitVec.ofInt 64 (((2 ^ n:Nat):Int)-1)).toNat=(a % ((2 ^ n:Nat):Int)).toNat:=by
  rw[BitVec.toNat_and,e1,BitVec.ofInt_natCast,BitVec.toNat_ofNat,BitVec.toNat_ofInt];rw[Nat.mod_eq_of_lt (show 2 ^ n-1<2 ^ 64 by omega),Nat.and_two_pow_sub_one_eq_mod];have hd:((2 ^ n:Nat):Int) ∣ ((2 ^ 64:Nat):Int):=Int.natCast_dvd_natCast.2 (Nat.pow_dvd_pow 2 (by omega));have b0:0≤a % ((2 ^ 64:Nat):Int):=Int.emod_nonneg _ (by decide);have a0:0≤a % ((2 ^ n:Nat):Int):=Int.emod_nonneg _ (by omega);have:(((a % ((2 ^ 64:Nat):Int)).toNat % 2 ^ n:Nat):Int)=((a % ((2 ^ n:Nat):Int)).toNat:Int):=by
   rw[Int.natCast_emod,Int.toNat_of_nonneg b0,Int.toNat_of_nonneg a0,Int.emod_emod_of_dvd _ hd]
  omega
 have hb:N8a a (((2 ^ n:Nat):Int)-1)=IntKind.i64.wrap ((BitVec.ofInt 64 a &&& BitVec.ofInt 64 (((2 ^ n:Nat):Int)-1)).toNat:Int):=Z;rw[hb,key];have a0:0≤a % ((2 ^ n:Nat):Int):=Int.emod_nonneg _ (by omega);have d0:a % ((2 ^ n:Nat):Int)<((2 ^ n:Nat):Int):=Int.emod_lt_of_pos _ (by omega);rw[Int.toNat_of_nonneg a0];exact L2a (h0:=a0) _
theorem W0a.thread{p:m0a}(hp:W0a p){k:Nat}{x:D1a}(hx:p.threads[k]?=some x):p5a p k x:=by
 obtain⟨h,rfl⟩:=List.getElem?_eq_some_iff.1 hx;exact hp.threads k h
theorem m5c{a:Int}(h0:0≤a)(h1:a<18446744073709551616):IntKind.u64.wrap a=a:=by
 unfold IntKind.wrap;have hm:a % (2 ^ IntKind.u64.bits:Int)=a:=Int.emod_eq_of_lt h0 (by simp[IntKind.bits];omega);simp only[hm];rw[if_neg];simp[IntKind.bits,IntKind.signed]
def D3a(l:LV):List (Value×Value):=l.map fun x=>(x,.agg #[])
theorem K9b(l:LV)(x:Value):D3a (l++[x])=D3a l++[(x,.agg #[])]:=by simp[D3a]
theorem O2c{l:LV}{x:Value}(h:x∉l):∀y∈D3a l,y.1≠x:=fun y hy e=>by
 obtain⟨_,hz,rfl⟩:=List.mem_map.1 hy;simp only at e;subst e;exact h hz
theorem H4a{α:Type}{l:List α}{k:Nat}{x:α}{f:α→Value}(hp:l.Pairwise fun a b=>f a≠f b)(hx:l[k]?=some x):f x∉(l.take k).map f:=fun hm=>by
 obtain⟨_,hy,he⟩:=List.mem_map.1 hm;obtain⟨j,_,rfl⟩:=List.mem_take_iff_getElem.1 hy;obtain⟨hk,rfl⟩:=List.getElem?_eq_some_iff.1 hx;exact(List.pairwise_iff_getElem.1 hp) j k _ hk (by omega) he
theorem h8b{x:Int}(h:i64 x):keyOf prog 3 (.int .i64 x)=some (.int .i64 x):=Go.Maps.keyOf_int_mk Tryz.underlying3 (by unfold i64 at h;simp[Lit.wf,IntKind.min,IntKind.max,IntKind.signed,IntKind.bits];omega)
def X2a(p:m0a):Prop:=∀c∈p.cells,S1b p c
theorem X2a.thr{p:m0a}(hp:X2a p){x:Int}(h0:0≤x)(h1:x<p.cells.length):-1≤u1a p.cells x:=by
 obtain⟨i,rfl⟩:=Int.eq_ofNat_of_zero_le h0;have hi:i<p.cells.length:=by omega
 have:=(hp _ (List.getElem_mem hi)).thread;rw[j1a (c:=p.cells[i]) (by simp[hi])];omega
theorem I6c{p:m0a}(hc:X2a p){e:E}{a0:Bool}(hv:e.valid p.cells a0=true):x3a e (shQ p)=true↔v4a p.cells e true (-1):=by
 rw[m9a];refine⟨fun h x hx=>⟨fun _=>rfl,fun h0=>?_⟩,fun h x hx=>?_⟩
 ·have:=of_decide_eq_true (h x hx);omega
 ·have h1:=I0b hv x hx;have h2:=h x hx;have h3:=hc.thr h1.1 h1.2;exact decide_eq_true ⟨h1,by omega⟩
theorem G7a{p:m0a}(hc:X2a p){e:E}{a0:Bool}{t:Int}(hv:e.valid p.cells a0=true)(ht:0≤t:=by omega):x3a e (d9a p t)=true↔v4a p.cells e false t:=by
 rw[m9a];refine⟨fun h x hx=>?_,fun h x hx=>?_⟩
 ·have:=of_decide_eq_true (h x hx);exact⟨fun h0=>by omega,fun _=>this.2⟩
 ·have h1:=I0b hv x hx;have h2:=h x hx;have h3:=hc.thr h1.1 h1.2;have h4:u1a p.cells x≠-1:=fun hh=>by have:=h2.1 hh;cases this
  exact decide_eq_true ⟨h1,by omega⟩
theorem F7a{p:m0a}(hc:X2a p){e:E}{a0:Bool}{t:Int}(hv:e.valid p.cells a0=true):x3a e (H1b p t)=true↔v4a p.cells e true t:=by
 rw[m9a];refine⟨fun h x hx=>⟨fun _=>rfl,fun h0=>?_⟩,fun h x hx=>?_⟩
 ·have:=h x hx;unfold H1b shQ d9a at this;rw[Bool.or_eq_true,decide_eq_true_eq,decide_eq_true_eq] at this;omega
 ·have h1:=I0b hv x hx;have h2:=h x hx;have h3:=hc.thr h1.1 h1.2;unfold H1b shQ d9a;rw[Bool.or_eq_true,decide_eq_true_eq,decide_eq_true_eq];by_cases h5:u1a p.cells x=-1
  ·exact .inl ⟨h1,h5⟩
  ·exact .inr ⟨h1,by omega⟩
theorem H4c{l:LV}{x:Value}(h:∀y∈D3a l,y.1≠x):x∉l:=fun hx=>h (x,.agg #[]) (List.mem_map.2 ⟨x,hx,Z⟩) Z
section
variable {P:Program} {r:Option Nat} {N:Nat} {D:List Deferred} {e:Env} {w w0:World} {ops:Array Oper} {rest:List Oper} {K':List Deferred→Env→World→Prop} {L:List Ent} {M:List Nat}
variable {t:TypeId} {p:String} {af:Array Edge} {x y z:Operand}
theorem O0b{k el:TypeId}{ty b d:Nat}{l:LV}{key:Value}{q:Lit}(K:Keyed P k)(ht:P.underlying ty=some (.map k el))(hz:∀w,(zeroValue el).run P w=.ok (.agg #[]) w)(h:g3a P k w b (D3a l))(hx:ev e x=.map (some b))(hy:ev e y=key)(a0:keyOf P k key=some q)(hd:Nat.ble (d+1) N=true)
 (h1:key∈l→WL P r N ops rest K' D (upd e d (.tuple #[.agg #[],.bool true])) w) (h2:key∉l→WL P r N ops rest K' D (upd e d (.tuple #[.agg #[],.bool false])) w) :
 WL P r N ops (⟨some d,.lookup ty x y true,t,p,af,none⟩::rest) K' D e w :=
 F3c K ht hz h hx hy a0 hd (fun v hv=>by
  obtain⟨_,c0,he⟩:=List.mem_map.1 hv;cases he;exact h1 c0) fun b0=>h2 (H4c b0)
theorem Y9a{k el:TypeId}{ty b:Nat}{l:LV}{key:Value}{q:Lit}(S:St M w0 w L)(K:Keyed P k)(ht:P.underlying ty=some (.map k el))(h:g3a P k w b (D3a l))(hx:ev e x=.map (some b))(hy:ev e y=key)(hz:ev e z=.agg #[])(a0:keyOf P k key=some q)(hb:w0.heap.size≤b∨b∈M)
 (hk:∀w1,St M w0 w1 L→x0a [b] w w1→(key∉l→g3a P k w1 b (D3a (l++[key])))→WL P r N ops rest K' D e w1) :
 WL P r N ops (⟨none,.mapUpdate ty x y z,t,p,af,none⟩::rest) K' D e w:=by
 by_cases c0:key∈l
 ·obtain⟨es,b0,h1,h2,h3⟩:=h;rcases K.find w a0 es.toList (fun x hx=>h3 _ (h2▸List.mem_map.2 ⟨x,hx,Z⟩)) with⟨h5,h6⟩|⟨j,e0,h5,h6,h7⟩
  ·have hm:(key,Value.agg #[])∈D3a l:=List.mem_map.2 ⟨key,c0,Z⟩;rw[←h2] at hm;obtain⟨x',g0,he⟩:=List.mem_map.1 hm;exact absurd (congrArg Prod.fst he) (h6 x' g0)
  ·have hv:e0.val=.agg #[]:=by
    have hm:(e0.key,e0.val)∈D3a l:=h2▸List.mem_map.2 ⟨e0,List.mem_of_getElem? h6,Z⟩;obtain⟨_,-,he⟩:=List.mem_map.1 hm;exact(congrArg Prod.snd he).symm
   have d0:es.modify j (fun x=>{ x with key:=key,val:=.agg #[] })=es:=by
    apply Array.ext';rw[Array.toList_modify];apply List.ext_getElem?;intro i;rw[List.getElem?_modify];by_cases f0:j=i
    ·subst f0;rw[h6];simp;cases e0;simp_all
    ·simp[f0]
   refine t9a (w':=w) Z Z ?_ (hk w S (x0a.refl _ _) fun hn=>absurd c0 hn);have hw:({ w with heap:=w.heap.setIfInBounds b (.map es b0) }:World)=w:=by
    have:w.heap.setIfInBounds b (.map es b0)=w.heap:=by
     apply Array.ext_getElem?;intro i;rw[Array.getElem?_setIfInBounds]
     split
     ·rename_i h;subst h;rw[h1,if_pos (Array.getElem?_eq_some_iff.1 h1).1]
     ·rfl
    rw[this]
   have hj:es[j]?=some e0:=by rw[←Array.getElem?_toList];exact h6
   simp only[execOp,hx,hy,hz,Instr.mapUpdate,Sem.run_bind,run_underlying ht,Result.andThen_ok,MapKept.run_getObj_map h1,K.check w false a0,h5,hj,Option.map_some,Option.getD_some,h7,K.stays w a0,d0,MapKept.run_setObj_map _ h1,hw,Sem.run_pure]
 ·exact c4c S K ht h hx hy hz a0 (O2c c0) hb fun w1 S1 X1 M1=>hk w1 S1 X1 fun _=>by rw[K9b];exact M1
end
theorem p8a(s:ByteArray)(w0:World)(hbig:s.size≤140737488355328):A0a prog 202 #[.string s] w0 fun v w'=>v=.bool (dec (z7a s))∧Bw w0 w':=by
 have S:=St.refl w0;refine a0a func202 Z ntmps202 Z ?_;refine wO1 Z (z0b Tryz.underlying9 Z Z ?_);refine lB1 Z (fun h6=>?_) fun h6=>?_
 ·refine lU Z Z ?_;refine⟨C0a (fun h=>?_),S.fin⟩;have h3:=h.1;have h4:=h.2.1;omega
 refine lO1 Z (z0b Tryz.underlying9 Z Z ?_);refine lB1 Z (fun c0=>?_) fun c0=>?_
 ·refine lU Z Z ?_;refine⟨C0a (fun h=>?_),S.fin⟩;have h3:=h.1;have h4:=h.2.1;omega
 refine lO1 Z (z0b Tryz.underlying9 Z Z ?_);refine lC1 Z (wL (fun μk D ε w=>D=[]∧∃k:Nat,(k+μk=(s.size))∧(∀(j:Nat) (h:j<s.size),j<k→33≤(s[j]).toNat∧(s[j]).toNat≤126)∧St [] w0 w []∧Sl ε [(0,.string s),(13,.int .i64 s.size),(14,.int .i64 k)]) (μ:=(s.size)) ⟨Z,0,by omega,(fun j _ h=>absurd h (by omega)),S,Z⟩ ?_);rintro μk D ε w ⟨rfl,k,_,hl,S,eZ⟩;refine wK eZ (wB1 Z (fun d0=>?_) fun d0=>?_)
 ·refine lO1 Z (f0b Tryz.underlying9 Z Z (by omega) (by omega) Z ?_);refine lB1 Z (fun a0=>?_) fun a0=>?_
  ·refine lU Z Z ?_;refine⟨C0a (fun h=>?_),S.fin⟩;have h3:=h.2.2 k (by omega);simp only[Int.toNat_natCast] at a0;omega
  refine lO1 Z (f0b Tryz.underlying9 Z Z (by omega) (by omega) Z ?_);refine lB1 Z (fun b0=>?_) fun b0=>?_
  ·refine lU Z Z ?_;refine⟨C0a (fun h=>?_),S.fin⟩;have h3:=h.2.2 k (by omega);simp only[Int.toNat_natCast] at b0;omega
  refine lP1 Z ⟨μk-1,by omega,Z,k+1,by omega,?_,S,Z⟩;intro j hj h;by_cases e0:j=k
  ·subst e0;simp only[Int.toNat_natCast] at a0 b0;omega
  ·exact hl j hj (by omega)
 exact lU Z Z ⟨H1a ⟨by omega,by omega,fun j h=>hl j h (by omega)⟩,S.fin⟩
theorem u5a(M:List Nat)(w0:World)(v:Value)(l:List Int)(hR:RdI M w0 v l):A0a prog 208 #[v] w0 fun v w'=>v=.bool (dec (t1a l))∧Bw w0 w':=by
 obtain⟨A,n,c,rfl⟩:=hR.form;obtain⟨_,_⟩:=hR.len;have S:=St.refl w0;refine a0a func208 Z ntmps208 Z ?_;refine wC1 Z ?_;refine wL (fun μk D ε w=>D=[]∧∃k:Nat,(k+μk=max (l.length) 1)∧(1≤k)∧(t1a (l.take k))∧St [] w0 w []∧Sl ε [(0,.slice A n c),(3,.int .i64 k)]) (μ:=(max (l.length) 1-1)) ⟨Z,1,by omega,by omega,(by cases l<;>simp[t1a]),S,Z⟩ ?_;rintro μk D ε w ⟨rfl,k,_,_,hp,S,eZ⟩;refine wK eZ (wB1 Z (fun h7=>?_) fun h7=>?_)
 ·refine lC1 Z (y0a b0a [0,1,2,3,4,5,6,7,8,9] [] [] Z (Cl _ _ _ _) (Cl.start S) ?_);obtain⟨_,n0,r0,_,j0,c0,_,_,e0,f0⟩:=RdS.get (hR) (k) (by omega);obtain⟨rfl,_⟩:=id f0;obtain⟨x,o0,s0,_,i0,d0,_,_,a0,g0⟩:=RdS.get (hR) (k-1) (by omega);obtain⟨rfl,_⟩:=id g0;have p0:((k:Int)-1).toNat=k-1:=by omega
  rw[←p0] at a0;refine qB ((S.q.a a0).a e0) [.x n0 r0,.f 0 0,.x o0 s0,.f 1 0] Z ⟨Z,⟨d0,by omega⟩,by omega,Z,⟨c0,by omega⟩,U⟩ (fun q0=>?_) fun q0=>?_
  ·refine lV Z ?_;rintro t0 ⟨b0,m0⟩;refine lU Z Z ?_;refine⟨C0a (fun h=>?_),b0.fin⟩;have:=y7a h i0 j0 (by omega);omega
  refine lV Z ?_;rintro t0 ⟨b0,m0⟩;refine lP1 Z ⟨μk-1,by omega,Z,k+1,by omega,by omega,?_,b0,Z⟩;refine(s8a j0 hp (k0:=k-1) i0)
 exact lU Z Z ⟨H1a ((List.take_of_length_le (show l.length≤k by omega))▸hp),S.fin⟩
theorem r8a(b:Nat)(l:LV)(s:ByteArray)(w0:World)(hm:g3a prog 9 w0 b (D3a l))(hs:s.size≤140737488355328):
 A0a prog 204 #[.map (some b),.string s] w0 fun v w'=>(∃z,v=.bool z∧(z=true↔Value.string s∈l))∧H0a [b] w0 w'∧(Value.string s∉l→g3a prog 9 w' b (D3a (l++[.string s]))):=by
 have S:=St.reflM [b] w0;have hk:keyOf prog 9 (.string s)=some (.string s.data.toList):=Go.WideMaps.keyOf_string_mk Tryz.underlying9 (by unfold maxLen;omega);refine a0a func204 Z ntmps204 Z ?_;refine wO1 Z (O0b (Go.Maps.string_keyed Tryz.underlying9) Tryz.underlying205 W7a hm Z Z hk Z (fun d0=>?_) fun e0=>?_)
 ·refine lO1 Z (g0a S W7a Z Z ?_);intro g5 w5 S5 X5 G5;replace hm:=hm.keep X5 (List.not_mem_nil)
  first|refine d0a (kk:=0) (vs:=[]) S5 G2b Z Z Z Z Z Z Z ?_
  intro c0 a0 b0;dsimp only[e0a,List.set] at a0;replace hm:=hm.keep b0 (fun hh=>by rw[List.mem_singleton] at hh;first|exact hm.ne (S5.blk 0 Z) hh);refine lO1 Z (s0a R2b (vs:=[]) (cs:=[]) Z Z Z Z ?_);refine Y9a a0 (Go.Maps.string_keyed Tryz.underlying9) Tryz.underlying205 hm Z Z Z hk (.inr (by simp)) ?_;intro wm Sm Xm Mm;exact lU Z Z ⟨⟨_,Z,iff_of_true Z d0⟩,Sm.below,Mm⟩
 refine lO1 Z (g0a S W7a Z Z ?_);intro g5 w5 S5 X5 G5;replace hm:=hm.keep X5 (List.not_mem_nil)
 first|refine d0a (kk:=0) (vs:=[]) S5 G2b Z Z Z Z Z Z Z ?_
 intro c0 a0 b0;dsimp only[e0a,List.set] at a0;replace hm:=hm.keep b0 (fun hh=>by rw[List.mem_singleton] at hh;first|exact hm.ne (S5.blk 0 Z) hh);refine lO1 Z (s0a R2b (vs:=[]) (cs:=[]) Z Z Z Z ?_);refine Y9a a0 (Go.Maps.string_keyed Tryz.underlying9) Tryz.underlying205 hm Z Z Z hk (.inr (by simp)) ?_;intro wm Sm Xm Mm;exact lU Z Z ⟨⟨_,Z,iff_of_false (by decide) e0⟩,Sm.below,Mm⟩
theorem h1b(p:m0a)(e:E)(M:List Nat)(w0:World)(cs es:LV)(b0:Bool)(vf:Value)(q:Int→Bool)(hP:e1a M w0 p cs)(hR:RdE M w0 e es)(hp:G2a prog M w0 vf q)(hK:W1a M w0)(hM:∀g∈M,g<w0.heap.size):
 A0a prog 206 #[.agg cs.toArray,.agg es.toArray,.bool b0,vf] w0 fun v w'=>v=.bool (dec (e.w=1∧e.valid p.cells b0=true∧x3a e q=true))∧Bw w0 w':=by
 obtain⟨_,_,_,_,_,_,_,_,_,_,_,_,rfl,hC,_⟩:=hP.open_;obtain⟨_,_,_,rfl,_⟩:=hR.cells;obtain⟨_,_,_,rfl,_⟩:=id hp;have S:=St.refl w0;have j0:∀w':World,w0.heap.size≤w'.heap.size→∀g∈M,g<w'.heap.size:=fun w' h g hg=>by have:=hM g hg;omega
 refine a0a func206 Z ntmps206 Z ?_;refine wO1 Z (o0a S Z ?_);intro g4 w4 S4 X4 G4;refine o0a S4 Z ?_;intro g5 w5 S5 X5 G5;refine lB S5.k [.o 0] Z ⟨Z,U⟩ (fun i0=>?_) fun i0=>?_
 ·refine lO S5.k [.w 0,.o 1] Z ⟨Z,⟨Z,by rfl⟩,U⟩ (i0a S5 b6a Z Z (N2a e M _ _ _ p.cells b0 (RdE.keep (S5.keep0 M) _ _ hR) (hC.keep (S5.keep0 M)) (hK.keep (S5.keep0 M))) (fun c0 m0 a0 f0=>?_) (fun c0 m0 a0 f0=>?_))
  ·refine lOn 3 a0.k [.w 0] Z ⟨⟨Z,by rfl⟩,U⟩ (T2a Z Z Z ?_);refine J0a Z ?_;refine lO1 Z (i0a a0 W8a Z Z (f7a e M _ _ _ q (RdE.keep (a0.keep0 M) _ _ hR) (hp.keep (a0.keep0 M)) (hK.keep (a0.keep0 M)) (j0 _ a0.size)) (fun d0 n0 e0 g0=>?_) (fun d0 n0 e0 g0=>?_))
   ·exact lU Z Z ⟨H1a ⟨by omega,c0,d0⟩,e0.fin⟩
   refine lU Z Z ?_;refine⟨C0a (fun h=>?_),e0.fin⟩;rw[h.2.2] at d0;cases d0;done
  refine lU Z Z ?_;refine⟨C0a (fun h=>?_),a0.fin⟩;rw[h.2.1] at c0;cases c0;done
 refine lU Z Z ?_;refine⟨C0a (fun h=>?_),S5.fin⟩;have:=h.1;omega
theorem H9b(p:m0a)(M:List Nat)(w0:World)(cs:LV)(hP:e1a M w0 p cs):
 A0a prog 151 #[.agg cs.toArray] w0 fun v w'=>(∃a b,v=.tuple #[.int .i64 a,.int .i64 b]∧(a=0↔X1c p))∧Bw w0 w':=by
 obtain⟨Ac,nc,cc,Am,nm,cm,Al,nl,cl,At,nt,ct,rfl,_,_,_,v0,_⟩:=hP.open_;have S:=St.refl w0;refine a0a func151 Z ntmps151 Z ?_;refine wO1 Z (o0a S Z ?_);intro g1 w1 S1 X1 G1;refine lO S1.k [.w 0] Z ⟨⟨Z,Z⟩,U⟩ (g0a S1 k8c Z Z ?_);intro g4 w4 S4 X4 G4;refine d0a (kk:=0) (vs:=[_,_,_,_]) S4 e1d Z Z Z Z Z Z Z ?_;intro y0 a0 i0;dsimp only[e0a,List.set] at a0;refine lB a0.k [.o 0] Z ⟨Z,U⟩ (fun n0=>?_) fun n0=>?_
 ·refine lT1 Z Z ?_;refine⟨⟨_,_,Z,iF (fun h=>?_)⟩,a0.fin⟩;have h1:=h.1;have h2:=h.2.1;have h3:=h.2.2.1;have h4:=h.2.2.2.1;omega
 refine lB a0.k [.o 0] Z ⟨Z,U⟩ (fun o0=>?_) fun o0=>?_
 ·refine lT1 Z Z ?_;refine⟨⟨_,_,Z,iF (fun h=>?_)⟩,a0.fin⟩;have h1:=h.1;have h2:=h.2.1;have h3:=h.2.2.1;have h4:=h.2.2.2.1;omega
 refine lB a0.k [.o 0] Z ⟨Z,U⟩ (fun p0=>?_) fun p0=>?_
 ·refine lT1 Z Z ?_;refine⟨⟨_,_,Z,iF (fun h=>?_)⟩,a0.fin⟩;have h1:=h.1;have h2:=h.2.1;have h3:=h.2.2.1;have h4:=h.2.2.2.1;omega
 refine lB a0.k [.o 0] Z ⟨Z,U⟩ (fun q0=>?_) fun q0=>?_
 ·refine lT1 Z Z ?_;refine⟨⟨_,_,Z,iF (fun h=>?_)⟩,a0.fin⟩;have h1:=h.1;have h2:=h.2.1;have h3:=h.2.2.1;have h4:=h.2.2.2.1;omega
 refine lC a0.k [.o 0] Z ⟨Z,U⟩ (wL (fun μk D ε w=>D=[]∧∃k:Nat,(k+μk=(p.threads.length))∧(Y0a (p.threads) k (fun x=>x.points≤48∧x.steps.length≤64∧x.loops.length≤8))∧St [] w0 w [(some g4,27,pL Ac nc cc Am nm cm Al nl cl At nt ct),(some g1,201,pL Ac nc cc Am nm cm Al nl cl At nt ct)]∧Sl ε [(32,.slice At nt ct),(33,.int .i64 nt),(34,.int .i64 k)]) (μ:=(p.threads.length)) ⟨Z,0,by omega,Y0a.zero,a0,Z⟩ ?_);rintro μk D ε w ⟨rfl,k,_,hs,S,eZ⟩;refine wK eZ (wB1 Z (fun r0=>?_) fun r0=>?_)
 ·obtain⟨x,m0,x0,_,c0,d0,_,f0,e0,g0⟩:=RdS.get (v0) (k) (by omega);obtain⟨_,_,_,_,_,_,_,_,_,_,_,_,rfl,_⟩:=Z0a.open_ g0;refine lO (S.k.a e0) [.x m0 x0,.v 0] Z ⟨⟨Z,f0⟩,⟨d0,by omega⟩,U⟩ (g0a S M1b Z Z ?_);intro g6 w6 S6 X6 G6;refine lO1 Z (d0a (kk:=0) (vs:=[_,_,_,_,_,_,_]) S6 I1b Z Z Z Z Z Z Z ?_);intro z0 b0 j0;dsimp only[e0a,List.set] at b0;refine lB b0.k [.o 0] Z ⟨Z,U⟩ (fun s0=>?_) fun s0=>?_
  ·refine lT1 Z Z ?_;refine⟨⟨_,_,Z,iF (fun h=>?_)⟩,b0.fin⟩;have h5:=h.2.2.2.2 x (c0a c0);omega
  refine lB b0.k [.o 0] Z ⟨Z,U⟩ (fun t0=>?_) fun t0=>?_
  ·refine lT1 Z Z ?_;refine⟨⟨_,_,Z,iF (fun h=>?_)⟩,b0.fin⟩;have h5:=h.2.2.2.2 x (c0a c0);omega
  refine lB b0.k [.o 0] Z ⟨Z,U⟩ (fun u0=>?_) fun u0=>?_
  ·refine lT1 Z Z ?_;refine⟨⟨_,_,Z,iF (fun h=>?_)⟩,b0.fin⟩;have h5:=h.2.2.2.2 x (c0a c0);omega
  refine lP1 Z ⟨μk-1,by omega,Z,k+1,by omega,(hs.succ c0 (⟨by omega,by omega,by omega⟩)),b0.tail,Z⟩
 exact lT1 Z Z ⟨⟨_,_,Z,iff_of_true (by omega) ⟨by omega,by omega,by omega,by omega,hs.all (by omega)⟩⟩,S.fin⟩
theorem C3c(p:m0a)(M:List Nat)(w0:World)(cs:LV)(hP:e1a M w0 p cs)(hN:n8a p):
 A0a prog 152 #[.agg cs.toArray] w0 fun v w'=>(∃a,v=.int .i64 a∧(a=0↔f9a p))∧Bw w0 w':=by
 obtain⟨Ac,nc,cc,Am,nm,cm,Al,nl,cl,At,nt,ct,rfl,hC,_⟩:=hP.open_;have S:=St.refl w0;refine a0a func152 Z ntmps152 Z ?_;refine wO1 Z (o0a S Z ?_);intro g1 w1 S1 X1 G1;refine lO1 Z (T4a (k:=9) S1 Z ?_);intro g6 w6 S6 X6 G6 a0;have G0:w0.heap.size≤g6:=by have:=S1.size;omega
 refine lC S6.k [.o 0] Z ⟨Z,U⟩ (wL (fun μk D ε w=>D=[]∧∃k:Nat,(k+μk=(p.cells.length))∧(Y0a (p.cells) k (fun x=>S1b p x))∧(((p.cells.take k).map fun c=>Value.string c.name).Nodup)∧(g3a prog 9 w g6 (D3a ((p.cells.take k).map fun c=>.string c.name)))∧St [] w0 w [(some g1,201,pL Ac nc cc Am nm cm Al nl cl At nt ct)]∧Sl ε [(1,.pointer (some ⟨g1,0,none⟩)),(3,.map (some g6)),(9,.slice Ac nc cc),(10,.int .i64 nc),(11,.int .i64 k)]) (μ:=(p.cells.length)) ⟨Z,0,by omega,Y0a.zero,(by simp),(by simpa[D3a] using a0),S6,Z⟩ ?_);rintro μk D ε w ⟨rfl,k,_,hs,hd,a0,S,eZ⟩;refine wK eZ (wB1 Z (fun I0=>?_) fun I0=>?_)
 ·obtain⟨x,H0,O0,_,b0,x0,_,z0,y0,A0⟩:=RdS.get (hC) (k) (by omega);obtain⟨rfl,_⟩:=P2a.open_ A0;have B0:x.name.size≤140737488355328:=hN.cells x (c0a b0);refine lO (S.k.a y0) [.x H0 O0,.v 0] Z ⟨⟨Z,z0⟩,⟨x0,by omega⟩,U⟩ (g0a S J9c Z Z ?_);intro g5 w5 S5 X5 G5;replace a0:=a0.keep X5 (List.not_mem_nil);refine d0a (kk:=0) (vs:=[_,_,_,_,_,_]) S5 p9c Z Z Z Z Z Z Z ?_;intro T0 i0 u0;dsimp only[e0a,List.set] at i0;replace a0:=a0.keep u0 (fun hh=>by rw[List.mem_singleton] at hh;exact a0.ne (S5.blk 0 Z) hh);refine lO i0.k [.o 0] Z ⟨Z,U⟩ (i0a i0 M3b Z Z (p8a _ _ B0) (fun p0 Q0 f0 E0=>?_) (fun p0 Q0 f0 E0=>?_))
  ·replace a0:=a0.keep E0 (List.not_mem_nil);refine lB f0.k [.o 0] Z ⟨Z,U⟩ (fun J0=>?_) fun J0=>?_
   ·refine lU Z Z ⟨⟨_,Z,iF (fun h=>?_)⟩,f0.fin⟩;have h1:=h.1 x (c0a b0)
    (have q1:=h1.w;have q2:=h1.init;have q3:=h1.thread;have q4:=h1.mod;unfold F1a at q4;rw[u2a] at q2;omega)
   refine lB f0.k [.o 0] Z ⟨Z,U⟩ (fun K0=>?_) fun K0=>?_
   ·refine lU Z Z ⟨⟨_,Z,iF (fun h=>?_)⟩,f0.fin⟩;have h1:=h.1 x (c0a b0)
    (have q1:=h1.w;have q2:=h1.init;have q3:=h1.thread;have q4:=h1.mod;unfold F1a at q4;rw[u2a] at q2;omega)
   refine lO f0.k [.o 0,.o 0] Z ⟨Z,Z,U⟩ (o9c Tryz.underlying3 Tryz.underlying137 Z Z ?_);rw[m5c (by omega) (by omega),show x.w=((x.w.toNat:Nat):Int) by omega];refine c0d (n:=x.w.toNat) Z (by rfl) (by omega) Z ?_;refine i0a f0 a3a Z Z (t2a _ _ _) (fun q0 R0 g0 F0=>?_) (fun q0 R0 g0 F0=>?_)
   ·replace a0:=a0.keep F0 (List.not_mem_nil);refine lB g0.k [.o 0] Z ⟨Z,U⟩ (fun L0=>?_) fun L0=>?_
    ·refine lO g0.k [.o 0,.o 1] Z ⟨Z,Z,U⟩ (i0a g0 a3a Z Z (t2a _ _ _) (fun v0 S0 o0 t0=>?_) (fun v0 S0 o0 t0=>?_))
     ·replace a0:=a0.keep t0 (List.not_mem_nil);refine lO o0.k [.o 0,.o 1] Z ⟨Z,Z,U⟩ (i0a o0 a3a Z Z (t2a _ _ _) (fun j0 C0 e0 m0=>?_) (fun j0 C0 e0 m0=>?_))
      ·replace a0:=a0.keep m0 (List.not_mem_nil);refine lO e0.k [.o 0] Z ⟨Z,U⟩ (a2a h4b Z Z (r8a g6 _ x.name _ a0 B0) ?_);rintro P0 U0 ⟨⟨D0,rfl,d0⟩,r0,s0⟩;have n0:=e0.turned a0 (.inl G0) r0;cases c0:D0
       ·refine B0a (hv:=Z) (v:=.bool _) Z ?_;refine lP1 Z ?_;refine⟨μk-1,by omega,Z,k+1,by omega,(hs.succ b0 (⟨Q0a p0,⟨by omega,by omega⟩,by rw[u2a];exact of_decide_eq_true q0,by(have:=of_decide_eq_true v0;omega),by have:=of_decide_eq_true j0;unfold F1a;omega⟩)),?_,?_,n0.tail,Z⟩
        ·rw[u0a b0,List.map_append,List.map_singleton,List.nodup_append];exact⟨hd,by simp,fun a ha b hb he=>by rw[List.mem_singleton.1 hb] at he;exact absurd (d0.2 (he▸ha)) (by rw[c0];decide)⟩
        ·rw[u0a b0,List.map_append];exact s0 fun hh=>absurd (d0.2 hh) (by rw[c0];decide)
       refine B0a (hv:=Z) (v:=.bool _) Z ?_;refine lU Z Z ⟨⟨_,Z,iF (fun h=>?_)⟩,n0.fin⟩;have h1:=h.1 x (c0a b0);exact absurd (d0.1 c0) (H4a (f:=fun(c:g1a)=>Value.string c.name) (h.2.imp fun h e=>h (by injection e)) b0)
      replace a0:=a0.keep m0 (List.not_mem_nil);refine lU Z Z ⟨⟨_,Z,iF (fun h=>?_)⟩,e0.fin⟩;have h1:=h.1 x (c0a b0)
      (have q1:=h1.w;have q2:=h1.init;have q3:=h1.thread;have q4:=h1.mod;unfold F1a at q4;rw[u2a] at q2;(have q5:=of_decide_eq_false j0;omega))
     replace a0:=a0.keep t0 (List.not_mem_nil);refine lU Z Z ⟨⟨_,Z,iF (fun h=>?_)⟩,o0.fin⟩;have h1:=h.1 x (c0a b0)
     (have q1:=h1.w;have q2:=h1.init;have q3:=h1.thread;have q4:=h1.mod;unfold F1a at q4;rw[u2a] at q2;(have q5:=of_decide_eq_false v0;omega))
    refine lO g0.k [.o 0,.o 1] Z ⟨Z,Z,U⟩ (i0a g0 a3a Z Z (t2a _ _ _) (fun j0 C0 e0 m0=>?_) (fun j0 C0 e0 m0=>?_))
    ·replace a0:=a0.keep m0 (List.not_mem_nil);refine lO e0.k [.o 0] Z ⟨Z,U⟩ (a2a h4b Z Z (r8a g6 _ x.name _ a0 B0) ?_);rintro P0 U0 ⟨⟨D0,rfl,d0⟩,r0,s0⟩;have n0:=e0.turned a0 (.inl G0) r0;cases c0:D0
     ·refine B0a (hv:=Z) (v:=.bool _) Z ?_;refine lP1 Z ?_;refine⟨μk-1,by omega,Z,k+1,by omega,(hs.succ b0 (⟨Q0a p0,⟨by omega,by omega⟩,by rw[u2a];exact of_decide_eq_true q0,by omega,by have:=of_decide_eq_true j0;unfold F1a;omega⟩)),?_,?_,n0.tail,Z⟩
      ·rw[u0a b0,List.map_append,List.map_singleton,List.nodup_append];exact⟨hd,by simp,fun a ha b hb he=>by rw[List.mem_singleton.1 hb] at he;exact absurd (d0.2 (he▸ha)) (by rw[c0];decide)⟩
      ·rw[u0a b0,List.map_append];exact s0 fun hh=>absurd (d0.2 hh) (by rw[c0];decide)
     refine B0a (hv:=Z) (v:=.bool _) Z ?_;refine lU Z Z ⟨⟨_,Z,iF (fun h=>?_)⟩,n0.fin⟩;have h1:=h.1 x (c0a b0);exact absurd (d0.1 c0) (H4a (f:=fun(c:g1a)=>Value.string c.name) (h.2.imp fun h e=>h (by injection e)) b0)
    refine lU Z Z ⟨⟨_,Z,iF (fun h=>?_)⟩,e0.fin⟩;have h1:=h.1 x (c0a b0)
    (have q1:=h1.w;have q2:=h1.init;have q3:=h1.thread;have q4:=h1.mod;unfold F1a at q4;rw[u2a] at q2;(have q5:=of_decide_eq_false j0;omega))
   refine lU Z Z ⟨⟨_,Z,iF (fun h=>?_)⟩,g0.fin⟩;have h1:=h.1 x (c0a b0)
   (have q1:=h1.w;have q2:=h1.init;have q3:=h1.thread;have q4:=h1.mod;unfold F1a at q4;rw[u2a] at q2;(have q5:=of_decide_eq_false q0;omega))
  refine lU Z Z ⟨⟨_,Z,iF (fun h=>?_)⟩,f0.fin⟩;have h1:=h.1 x (c0a b0);exact K0a p0 h1.name
 have N0:True:=trivial;refine lU Z Z ?_;refine⟨⟨_,Z,iff_of_true (by omega) ⟨hs.all (by omega),?_⟩⟩,S.fin⟩;rw[List.take_of_length_le (by omega)] at hd;exact(List.pairwise_map.1 hd).imp fun h e=>h (by rw[e])
end Go.Fw
