/-
  Part 2 of 9 of the proof of ExploreClosure: what it leans on. No conditions.
-/
import Derived.Test.YtfkfflniambckaaGreatDoorZExploreClosure1
import Derived.Maps.Keyed
import Derived.Carry
set_option maxRecDepth 100000
set_option maxHeartbeats 4000000
namespace Go.Proofs.YtfkfflniambckaaGreatDoor
end Go.Proofs.YtfkfflniambckaaGreatDoor
namespace Go.Fw
open Go.Proofs.YtfkfflniambckaaGreatDoor Go.Proofs Go.RowKit
theorem s4c(n:Nat)(hn:n≤20)(w:World):M0a Tryz.prog 102 #[.int .i64 n] w fun v w'=>v=.int .i64 (G3a n)∧Below w.heap.size w w':=by
 have S:=St.refl w;obtain⟨w0,a0⟩:∃w0,w0=w:=⟨_,rfl⟩;rw[←a0] at S ⊢;clear a0;refine a0a Tryz.func102 rfl Tryz.ntmps102 rfl ?_;refine wC0 rfl ⟨⟩ (wL (fun μ D ε w=>D=[]∧∃k:Nat,(k+μ=n)∧St [] w0 w []∧ε 0=.int .i64 n∧ε 4=.int .i64 k∧ε 3=.int .i64 (G3a k)) (μ:=n) ⟨rfl,0,by omega,S,rfl,rfl,rfl⟩ ?_);rintro μ D ε w ⟨rfl,k,_,S,e0,e4,e3⟩;refine r0a 0 e0 (r0a 4 e4 (r0a 3 e3 ?_));clear e0 e4 e3;have hb:G3a (k+1)≤G3a 21:=g6c _ _ (by omega);have b0:G3a 21=2097152:=by decide
 have hp:=I7a k;simp only[G3a] at hb;refine wB0 rfl ⟨⟩ (fun h7=>?_) fun h7=>?_
 ·exact lP0 rfl ⟨by omega,by omega,⟨⟩⟩ ⟨μ-1,by omega,rfl,k+1,by omega,S,rfl,rfl,rfl⟩
 refine lR0 rfl ⟨⟩ (o0a rfl (by conv=>lhs;whnf) ?_);obtain rfl:k=n:=by omega
 exact⟨rfl,S.fin⟩
theorem R4a(n:Int)(w:World)(h0:0≤n)(hn:n≤20):M0a Tryz.prog 102 #[.int .i64 n] w fun v w'=>v=.int .i64 (G3a n.toNat)∧Below w.heap.size w w':=by
 have h:=s4c n.toNat (by omega) w
 rwa [Int.toNat_of_nonneg h0] at h
theorem i6b:∀(e:E) (M:List Nat) (w0:World) (cs:List Value) (a0:Int),RdE M w0 e cs→i64 a0 →
 M0a Tryz.prog 85 #[.agg cs.toArray,.int .i64 a0] w0 fun v w'=>v=.int .i64 (e.size a0)∧Below w0.heap.size w0 w':=by
 intro e
 induction e using E.induct with
 | _ e ih =>
 intro M w0 cs a0 hR hl;obtain⟨A,n,c,rfl,_,_,_,_,_,_,_,o0⟩:=hR.open_;have S:=St.refl w0;unfold i64 at hl;refine a0a Tryz.func85 rfl Tryz.ntmps85 rfl ?_;refine wO0 rfl ⟨⟩ (h0a S (by conv=>lhs;whnf) rfl ?_);intro g2 w2 S2 X2 G2;refine lB0 rfl ⟨⟩ (fun h8=>?_) fun h8=>?_
 ·refine lR0 rfl ⟨⟩ (o0a rfl (by conv=>lhs;whnf) ?_);exact⟨by rw[E.size_def,if_pos h8],S2.fin⟩
 refine lC0 rfl ⟨⟩ ?_;refine wL (fun μ D ε w=>D=[]∧∃k:Nat,∃nn:Int,(k+μ=e.kids.length)∧(e.size a0=E.sizes (e.kids.drop k) a0 nn)∧(1≤nn)∧(nn≤a0)∧St [] w0 w [(some g2,68,[.int .i64 e.op,.int .i64 e.w,.int .i64 e.n,.slice A n c])]∧ε 1=.int .i64 a0∧ε 2=.pointer (some ⟨g2,0,none⟩)∧ε 5=.int .i64 nn∧ε 6=.int .i64 k) (μ:=e.kids.length) ⟨rfl,0,1,by omega,by rw[E.size_def,if_neg (by omega)];rfl,by omega,by omega,S2,rfl,rfl,rfl,rfl⟩ ?_;rintro μ D ε w ⟨rfl,k,nn,_,hs,_,_,S,e1,e2,e5,e6⟩;refine r0a 1 e1 (r0a 2 e2 (r0a 5 e5 (r0a 6 e6 ?_)));clear e1 e2 e5 e6;refine wB S.k [.o 0] rfl ⟨rfl,⟨⟩⟩ (fun g0=>?_) fun g0=>?_
 ·refine lB0 rfl ⟨⟩ (fun d0=>?_) fun d0=>?_
  ·have b0:k<e.kids.length:=by omega
   obtain⟨_,o,_,h0,n0⟩:=o0 (by omega);obtain⟨ck,i0,e0⟩:=n0 k b0;have p0:ck.length=4:=e0.length;have hb:=E.size_le e.kids[k] (a0-nn) (by omega);have j0:e.kids.drop k=e.kids[k]::e.kids.drop (k+1):=List.drop_eq_getElem_cons b0;rw[j0] at hs;simp only[E.sizes,d0,if_true] at hs;refine lO S.k [.o 0] rfl ⟨rfl,⟨⟩⟩ (w0a j1a.slT rfl (by assumption) rfl (by omega) (by omega) rfl ?_);refine w1a E1a rfl (i0.keep (S.keep0 M) h0) (by assumption) rfl ?_;refine lO0 rfl ⟨by omega,⟨⟩⟩ ?_;refine g0a S W6b rfl rfl (ih _ (List.getElem_mem b0) M _ ck _ (RdE.keep (S.keep0 M) _ _ e0) (by unfold i64;omega)) ?_;intro r0 f0 q0;exact lP0 rfl ⟨by omega,by omega,⟨⟩⟩ ⟨μ-1,by omega,rfl,k+1,_,by omega,hs,by omega,by omega,f0,rfl,rfl,rfl,rfl⟩
  refine lR0 rfl ⟨⟩ (o0a rfl (by conv=>lhs;whnf) ?_);exact⟨by rw[hs,E.sizes_stop _ _ _ _ (by omega)],S.fin⟩
 refine lR0 rfl ⟨⟩ (o0a rfl (by conv=>lhs;whnf) ?_);exact⟨by rw[hs,E.sizes_stop _ _ _ _ (by omega)],S.fin⟩
theorem I2c(op:Int)(w0:World):M0a Tryz.prog 189 #[.int .i64 op] w0 fun v w'=>v=.int .i64 (n8a op)∧Below w0.heap.size w0 w':=by
 have S:=St.refl w0;have ha:=h2a op;refine a0a Tryz.func189 rfl Tryz.ntmps189 rfl ?_;refine wB0 rfl ⟨⟩ (fun h4=>?_) fun h4=>?_
 ·refine lB0 rfl ⟨⟩ (fun h7=>?_) fun h7=>?_
  ·exact lT rfl ⟨⟩ rfl ⟨congrArg (Value.int .i64) (by omega),S.fin⟩
  refine lB0 rfl ⟨⟩ (fun b0=>?_) fun b0=>?_
  ·exact lT rfl ⟨⟩ rfl ⟨congrArg (Value.int .i64) (by omega),S.fin⟩
  refine lB0 rfl ⟨⟩ (fun d0=>?_) fun d0=>?_
  ·refine lB0 rfl ⟨⟩ (fun e0=>?_) fun e0=>?_
   ·exact lT rfl ⟨⟩ rfl ⟨congrArg (Value.int .i64) (by omega),S.fin⟩
   refine lB0 rfl ⟨⟩ (fun a0=>?_) fun a0=>?_
   ·exact lT rfl ⟨⟩ rfl ⟨congrArg (Value.int .i64) (by omega),S.fin⟩
   exact lT rfl ⟨⟩ rfl ⟨congrArg (Value.int .i64) (by omega),S.fin⟩
  refine lB0 rfl ⟨⟩ (fun a0=>?_) fun a0=>?_
  ·exact lT rfl ⟨⟩ rfl ⟨congrArg (Value.int .i64) (by omega),S.fin⟩
  exact lT rfl ⟨⟩ rfl ⟨congrArg (Value.int .i64) (by omega),S.fin⟩
 refine lB0 rfl ⟨⟩ (fun b0=>?_) fun b0=>?_
 ·exact lT rfl ⟨⟩ rfl ⟨congrArg (Value.int .i64) (by omega),S.fin⟩
 refine lB0 rfl ⟨⟩ (fun d0=>?_) fun d0=>?_
 ·refine lB0 rfl ⟨⟩ (fun e0=>?_) fun e0=>?_
  ·exact lT rfl ⟨⟩ rfl ⟨congrArg (Value.int .i64) (by omega),S.fin⟩
  refine lB0 rfl ⟨⟩ (fun a0=>?_) fun a0=>?_
  ·exact lT rfl ⟨⟩ rfl ⟨congrArg (Value.int .i64) (by omega),S.fin⟩
  exact lT rfl ⟨⟩ rfl ⟨congrArg (Value.int .i64) (by omega),S.fin⟩
 refine lB0 rfl ⟨⟩ (fun a0=>?_) fun a0=>?_
 ·exact lT rfl ⟨⟩ rfl ⟨congrArg (Value.int .i64) (by omega),S.fin⟩
 exact lT rfl ⟨⟩ rfl ⟨congrArg (Value.int .i64) (by omega),S.fin⟩
theorem q5c(e:E)(M:List Nat)(w0:World)(cs:List Value)(hR:RdE M w0 e cs):
 M0a Tryz.prog 148 #[.agg cs.toArray] w0 fun v w'=>v=.bool e.shapeB∧Below w0.heap.size w0 w':=by
 obtain⟨_,_,_,rfl,_,_,_,_,_,_,_,s0⟩:=hR.open_;have S:=St.refl w0;have ha:=h2a e.op;refine a0a Tryz.func148 rfl Tryz.ntmps148 rfl ?_;refine wO0 rfl ⟨⟩ (h0a S (by conv=>lhs;whnf) rfl ?_);intro g1 w1 S1 X1 G1;refine lC0 rfl ⟨⟩ (v0a b0a [0,1,2,3,4,5,6,7,8,9,10,11,12,13,14,15,16] [] [] (by kernel_rfl) rfl (Cl _ _ _ _) (Cl.start S1) ?_);refine qO S1.q [.o 0] rfl ⟨rfl,⟨⟩⟩ (r1a Z7c rfl rfl (fun w1 S1 X1=>I2c _ _) ?_);refine qB S1.q [.o 0] rfl ⟨rfl,⟨⟩⟩ (fun h9=>?_) fun h9=>?_
 ·refine qD rfl ⟨⟩ ?_;rintro J0 ⟨a0,B0⟩;refine lR0 rfl ⟨⟩ (o0a rfl (by conv=>lhs;whnf) ?_);exact⟨by exact SN (by omega),a0.fin⟩
 refine qB S1.q [.o 0] rfl ⟨rfl,⟨⟩⟩ (fun N0=>?_) fun N0=>?_
 ·refine qD rfl ⟨⟩ ?_;rintro J0 ⟨a0,B0⟩;refine lR0 rfl ⟨⟩ (o0a rfl (by conv=>lhs;whnf) ?_);exact⟨by exact SN (by omega),a0.fin⟩
 refine qB S1.q [.o 0] rfl ⟨rfl,⟨⟩⟩ (fun O0=>?_) fun O0=>?_
 ·refine qD rfl ⟨⟩ ?_;rintro J0 ⟨a0,B0⟩;refine lR0 rfl ⟨⟩ (o0a rfl (by conv=>lhs;whnf) ?_);exact⟨by exact SN (by omega),a0.fin⟩
 refine qD rfl ⟨⟩ ?_;rintro J0 ⟨a0,B0⟩;refine lB a0.k [.o 0] rfl ⟨rfl,⟨⟩⟩ (fun P0=>?_) fun P0=>?_
 ·refine lC0 rfl ⟨⟩ (v0a b0a [0,1,2,3,4,5,6,7,8,9,10,11] [] [] (by kernel_rfl) rfl (Cl _ _ _ _) (Cl.start a0) ?_);refine qB a0.q [.o 0] rfl ⟨rfl,⟨⟩⟩ (fun Q0=>?_) fun Q0=>?_
  ·refine qO a0.q [.o 0,.o 0] rfl ⟨rfl,rfl,⟨⟩⟩ (r1a E6a rfl rfl (fun w1 S1 X1=>R4a _ _ (by omega) (by omega)) ?_);refine qB0 rfl ⟨⟩ (fun R0=>?_) fun R0=>?_
   ·refine qD rfl ⟨⟩ ?_;rintro L0 ⟨t0,K0⟩;refine lR0 rfl ⟨⟩ (o0a rfl (by conv=>lhs;whnf) ?_);exact⟨by exact ST1 (by omega) (by omega),t0.fin⟩
   refine qD rfl ⟨⟩ ?_;rintro L0 ⟨t0,K0⟩;refine lR0 rfl ⟨⟩ (o0a rfl (by conv=>lhs;whnf) ?_);exact⟨by exact SF1 (by omega) (by omega),t0.fin⟩
  refine qD rfl ⟨⟩ ?_;rintro L0 ⟨t0,K0⟩;refine lR0 rfl ⟨⟩ (o0a rfl (by conv=>lhs;whnf) ?_);exact⟨by exact SF1 (by omega) (by omega),t0.fin⟩
 refine lB0 rfl ⟨⟩ (fun S0=>?_) fun S0=>?_
 ·refine lB a0.k [.o 0] rfl ⟨rfl,⟨⟩⟩ (fun H0=>?_) fun H0=>?_
  ·refine lB a0.k [.o 0] rfl ⟨rfl,⟨⟩⟩ (fun I0=>?_) fun I0=>?_
   ·refine lR0 rfl ⟨⟩ (o0a rfl (by conv=>lhs;whnf) ?_);exact⟨by exact ST2 (by omega) (by omega),a0.fin⟩
   refine lR0 rfl ⟨⟩ (o0a rfl (by conv=>lhs;whnf) ?_);exact⟨by exact SF2 (by omega) (by omega),a0.fin⟩
  refine lR0 rfl ⟨⟩ (o0a rfl (by conv=>lhs;whnf) ?_);exact⟨by exact SF2 (by omega) (by omega),a0.fin⟩
 refine lB0 rfl ⟨⟩ (fun T0=>?_) fun T0=>?_
 ·refine lB a0.k [.o 0] rfl ⟨rfl,⟨⟩⟩ (fun H0=>?_) fun H0=>?_
  ·refine lB a0.k [.o 0] rfl ⟨rfl,⟨⟩⟩ (fun I0=>?_) fun I0=>?_
   ·refine lR0 rfl ⟨⟩ (o0a rfl (by conv=>lhs;whnf) ?_);exact⟨by exact ST2 (by omega) (by omega),a0.fin⟩
   refine lR0 rfl ⟨⟩ (o0a rfl (by conv=>lhs;whnf) ?_);exact⟨by exact SF2 (by omega) (by omega),a0.fin⟩
  refine lR0 rfl ⟨⟩ (o0a rfl (by conv=>lhs;whnf) ?_);exact⟨by exact SF2 (by omega) (by omega),a0.fin⟩
 refine lB0 rfl ⟨⟩ (fun U0=>?_) fun U0=>?_
 ·refine lC0 rfl ⟨⟩ (v0a b0a [0,1,2,3,4,5,6,7,8,9,10,11,12,13] [] [] (by kernel_rfl) rfl (Cl _ _ _ _) (Cl.start a0) ?_);refine qB a0.q [.o 0] rfl ⟨rfl,⟨⟩⟩ (fun V0=>?_) fun V0=>?_
  ·refine qO a0.q [.o 0] rfl ⟨rfl,⟨⟩⟩ ?_;obtain⟨b,o,hA,z0,g0⟩:=s0 (by omega);have j0:=G1a g0 0 (by omega);refine n0a j1a.slT rfl (by assumption) rfl (by omega) (by omega) rfl ?_;refine qO0 rfl ⟨⟩ (j0a K0a rfl (fun w1 hw=>by exact hw.1.old j0) rfl ?_);refine qB a0.q [.o 0] rfl ⟨rfl,⟨⟩⟩ (fun W0=>?_) fun W0=>?_
   ·refine qD rfl ⟨⟩ ?_;rintro A0 ⟨i0,u0⟩;refine lR0 rfl ⟨⟩ (o0a rfl (by conv=>lhs;whnf) ?_);exact⟨by exact ST4 (by omega) (by omega),i0.fin⟩
   refine qD rfl ⟨⟩ ?_;rintro A0 ⟨i0,u0⟩;refine lR0 rfl ⟨⟩ (o0a rfl (by conv=>lhs;whnf) ?_);exact⟨by exact SF4 (by omega) (by omega),i0.fin⟩
  refine qD rfl ⟨⟩ ?_;rintro A0 ⟨i0,u0⟩;refine lR0 rfl ⟨⟩ (o0a rfl (by conv=>lhs;whnf) ?_);exact⟨by exact SF4 (by omega) (by omega),i0.fin⟩
 refine lB0 rfl ⟨⟩ (fun X0=>?_) fun X0=>?_
 ·refine lC0 rfl ⟨⟩ (v0a b0a [0,1,2,3,4,5,6,7,8,9,10,11,12,13,14,15,16,17,18,19,20,21] [] [] (by kernel_rfl) rfl (Cl _ _ _ _) (Cl.start a0) ?_);refine qB a0.q [.o 0] rfl ⟨rfl,⟨⟩⟩ (fun v0=>?_) fun v0=>?_
  ·refine qB a0.q [.o 0] rfl ⟨rfl,⟨⟩⟩ (fun x0=>?_) fun x0=>?_
   ·refine qO a0.q [.o 0] rfl ⟨rfl,⟨⟩⟩ ?_;obtain⟨b,o,hA,z0,g0⟩:=s0 (by omega);have j0:=G1a g0 0 (by omega);have o0:=G1a g0 1 (by omega);refine n0a j1a.slT rfl (by assumption) rfl (by omega) (by omega) rfl ?_;refine qO0 rfl ⟨⟩ (j0a K0a rfl (fun w1 hw=>by exact hw.1.old j0) rfl ?_);refine qO a0.q [.o 0] rfl ⟨rfl,⟨⟩⟩ (n0a j1a.slT rfl (by assumption) rfl (by omega) (by omega) rfl ?_);refine qO0 rfl ⟨⟩ (j0a K0a rfl (fun w1 hw=>by exact hw.1.old o0) rfl ?_);refine qB0 rfl ⟨⟩ (fun y0=>?_) fun y0=>?_
    ·refine qD rfl ⟨⟩ ?_;rintro e0 ⟨b0,d0⟩;refine lR0 rfl ⟨⟩ (o0a rfl (by conv=>lhs;whnf) ?_);exact⟨by exact u8c (by omega) (by omega),b0.fin⟩
    refine qD rfl ⟨⟩ ?_;rintro e0 ⟨b0,d0⟩;refine lR0 rfl ⟨⟩ (o0a rfl (by conv=>lhs;whnf) ?_);exact⟨by exact s3b (by omega) (by omega),b0.fin⟩
   refine qD rfl ⟨⟩ ?_;rintro e0 ⟨b0,d0⟩;refine lR0 rfl ⟨⟩ (o0a rfl (by conv=>lhs;whnf) ?_);exact⟨by exact s3b (by omega) (by omega),b0.fin⟩
  refine qD rfl ⟨⟩ ?_;rintro e0 ⟨b0,d0⟩;refine lR0 rfl ⟨⟩ (o0a rfl (by conv=>lhs;whnf) ?_);exact⟨by exact s3b (by omega) (by omega),b0.fin⟩
 refine lB0 rfl ⟨⟩ (fun Y0=>?_) fun Y0=>?_
 ·refine lC0 rfl ⟨⟩ (v0a b0a [0,1,2,3,4,5,6,7,8,9,10,11,12,13,14,15,16,17,18,19,20,21] [] [] (by kernel_rfl) rfl (Cl _ _ _ _) (Cl.start a0) ?_);refine qB a0.q [.o 0] rfl ⟨rfl,⟨⟩⟩ (fun v0=>?_) fun v0=>?_
  ·refine qB a0.q [.o 0] rfl ⟨rfl,⟨⟩⟩ (fun x0=>?_) fun x0=>?_
   ·refine qO a0.q [.o 0] rfl ⟨rfl,⟨⟩⟩ ?_;obtain⟨b,o,hA,z0,g0⟩:=s0 (by omega);have j0:=G1a g0 0 (by omega);have o0:=G1a g0 1 (by omega);refine n0a j1a.slT rfl (by assumption) rfl (by omega) (by omega) rfl ?_;refine qO0 rfl ⟨⟩ (j0a K0a rfl (fun w1 hw=>by exact hw.1.old j0) rfl ?_);refine qO a0.q [.o 0] rfl ⟨rfl,⟨⟩⟩ (n0a j1a.slT rfl (by assumption) rfl (by omega) (by omega) rfl ?_);refine qO0 rfl ⟨⟩ (j0a K0a rfl (fun w1 hw=>by exact hw.1.old o0) rfl ?_);refine qB0 rfl ⟨⟩ (fun y0=>?_) fun y0=>?_
    ·refine qD rfl ⟨⟩ ?_;rintro e0 ⟨b0,d0⟩;refine lR0 rfl ⟨⟩ (o0a rfl (by conv=>lhs;whnf) ?_);exact⟨by exact u8c (by omega) (by omega),b0.fin⟩
    refine qD rfl ⟨⟩ ?_;rintro e0 ⟨b0,d0⟩;refine lR0 rfl ⟨⟩ (o0a rfl (by conv=>lhs;whnf) ?_);exact⟨by exact s3b (by omega) (by omega),b0.fin⟩
   refine qD rfl ⟨⟩ ?_;rintro e0 ⟨b0,d0⟩;refine lR0 rfl ⟨⟩ (o0a rfl (by conv=>lhs;whnf) ?_);exact⟨by exact s3b (by omega) (by omega),b0.fin⟩
  refine qD rfl ⟨⟩ ?_;rintro e0 ⟨b0,d0⟩;refine lR0 rfl ⟨⟩ (o0a rfl (by conv=>lhs;whnf) ?_);exact⟨by exact s3b (by omega) (by omega),b0.fin⟩
 refine lB0 rfl ⟨⟩ (fun Z0=>?_) fun Z0=>?_
 ·refine lC0 rfl ⟨⟩ (v0a b0a [0,1,2,3,4,5,6,7,8,9,10,11,12,13,14,15,16,17,18,19,20,21] [] [] (by kernel_rfl) rfl (Cl _ _ _ _) (Cl.start a0) ?_);refine qB a0.q [.o 0] rfl ⟨rfl,⟨⟩⟩ (fun v0=>?_) fun v0=>?_
  ·refine qB a0.q [.o 0] rfl ⟨rfl,⟨⟩⟩ (fun x0=>?_) fun x0=>?_
   ·refine qO a0.q [.o 0] rfl ⟨rfl,⟨⟩⟩ ?_;obtain⟨b,o,hA,z0,g0⟩:=s0 (by omega);have j0:=G1a g0 0 (by omega);have o0:=G1a g0 1 (by omega);refine n0a j1a.slT rfl (by assumption) rfl (by omega) (by omega) rfl ?_;refine qO0 rfl ⟨⟩ (j0a K0a rfl (fun w1 hw=>by exact hw.1.old j0) rfl ?_);refine qO a0.q [.o 0] rfl ⟨rfl,⟨⟩⟩ (n0a j1a.slT rfl (by assumption) rfl (by omega) (by omega) rfl ?_);refine qO0 rfl ⟨⟩ (j0a K0a rfl (fun w1 hw=>by exact hw.1.old o0) rfl ?_);refine qB0 rfl ⟨⟩ (fun y0=>?_) fun y0=>?_
    ·refine qD rfl ⟨⟩ ?_;rintro e0 ⟨b0,d0⟩;refine lR0 rfl ⟨⟩ (o0a rfl (by conv=>lhs;whnf) ?_);exact⟨by exact u8c (by omega) (by omega),b0.fin⟩
    refine qD rfl ⟨⟩ ?_;rintro e0 ⟨b0,d0⟩;refine lR0 rfl ⟨⟩ (o0a rfl (by conv=>lhs;whnf) ?_);exact⟨by exact s3b (by omega) (by omega),b0.fin⟩
   refine qD rfl ⟨⟩ ?_;rintro e0 ⟨b0,d0⟩;refine lR0 rfl ⟨⟩ (o0a rfl (by conv=>lhs;whnf) ?_);exact⟨by exact s3b (by omega) (by omega),b0.fin⟩
  refine qD rfl ⟨⟩ ?_;rintro e0 ⟨b0,d0⟩;refine lR0 rfl ⟨⟩ (o0a rfl (by conv=>lhs;whnf) ?_);exact⟨by exact s3b (by omega) (by omega),b0.fin⟩
 refine lB0 rfl ⟨⟩ (fun a1=>?_) fun a1=>?_
 ·refine lC0 rfl ⟨⟩ (v0a b0a [0,1,2,3,4,5,6,7,8,9,10,11,12,13,14,15,16,17,18,19,20,21,22,23,24,25,26,27,28,29,30,31] [] [] (by kernel_rfl) rfl (Cl _ _ _ _) (Cl.start a0) ?_);refine qB a0.q [.o 0] rfl ⟨rfl,⟨⟩⟩ (fun b1=>?_) fun b1=>?_
  ·refine qO a0.q [.o 0] rfl ⟨rfl,⟨⟩⟩ ?_;obtain⟨b,o,hA,z0,g0⟩:=s0 (by omega);have j0:=G1a g0 0 (by omega);have o0:=G1a g0 1 (by omega);have f1:=G1a g0 2 (by omega);refine n0a j1a.slT rfl (by assumption) rfl (by omega) (by omega) rfl ?_;refine qO0 rfl ⟨⟩ (j0a K0a rfl (fun w1 hw=>by exact hw.1.old j0) rfl ?_);refine qB0 rfl ⟨⟩ (fun d1=>?_) fun d1=>?_
   ·refine qO a0.q [.o 0] rfl ⟨rfl,⟨⟩⟩ (n0a j1a.slT rfl (by assumption) rfl (by omega) (by omega) rfl ?_);refine qO0 rfl ⟨⟩ (j0a K0a rfl (fun w1 hw=>by exact hw.1.old o0) rfl ?_);refine qB a0.q [.o 0] rfl ⟨rfl,⟨⟩⟩ (fun C0=>?_) fun C0=>?_
    ·refine qO a0.q [.o 0] rfl ⟨rfl,⟨⟩⟩ (n0a j1a.slT rfl (by assumption) rfl (by omega) (by omega) rfl ?_);refine qO0 rfl ⟨⟩ (j0a K0a rfl (fun w1 hw=>by exact hw.1.old f1) rfl ?_);refine qB a0.q [.o 0] rfl ⟨rfl,⟨⟩⟩ (fun D0=>?_) fun D0=>?_
     ·refine qD rfl ⟨⟩ ?_;rintro p0 ⟨f0,n0⟩;refine lR0 rfl ⟨⟩ (o0a rfl (by conv=>lhs;whnf) ?_);exact⟨by exact H1d (by omega) (by omega),f0.fin⟩
     refine qD rfl ⟨⟩ ?_;rintro p0 ⟨f0,n0⟩;refine lR0 rfl ⟨⟩ (o0a rfl (by conv=>lhs;whnf) ?_);exact⟨by exact V8c (by omega) (by omega),f0.fin⟩
    refine qD rfl ⟨⟩ ?_;rintro p0 ⟨f0,n0⟩;refine lR0 rfl ⟨⟩ (o0a rfl (by conv=>lhs;whnf) ?_);exact⟨by exact V8c (by omega) (by omega),f0.fin⟩
   refine qD rfl ⟨⟩ ?_;rintro p0 ⟨f0,n0⟩;refine lR0 rfl ⟨⟩ (o0a rfl (by conv=>lhs;whnf) ?_);exact⟨by exact V8c (by omega) (by omega),f0.fin⟩
  refine qD rfl ⟨⟩ ?_;rintro p0 ⟨f0,n0⟩;refine lR0 rfl ⟨⟩ (o0a rfl (by conv=>lhs;whnf) ?_);exact⟨by exact V8c (by omega) (by omega),f0.fin⟩
 refine lC0 rfl ⟨⟩ (v0a b0a [0,1,2,3,4,5,6,7,8,9,10,11,12,13,14,15,16,17,18,19,20,21,22,23] [] [] (by kernel_rfl) rfl (Cl _ _ _ _) (Cl.start a0) ?_);refine qB a0.q [.o 0] rfl ⟨rfl,⟨⟩⟩ (fun E0=>?_) fun E0=>?_
 ·refine qO a0.q [.o 0] rfl ⟨rfl,⟨⟩⟩ ?_;obtain⟨b,o,hA,z0,g0⟩:=s0 (by omega);have j0:=G1a g0 0 (by omega);have o0:=G1a g0 1 (by omega);refine n0a j1a.slT rfl (by assumption) rfl (by omega) (by omega) rfl ?_;refine qO0 rfl ⟨⟩ (j0a K0a rfl (fun w1 hw=>by exact hw.1.old j0) rfl ?_);refine qB a0.q [.o 0] rfl ⟨rfl,⟨⟩⟩ (fun F0=>?_) fun F0=>?_
  ·refine qO a0.q [.o 0] rfl ⟨rfl,⟨⟩⟩ (n0a j1a.slT rfl (by assumption) rfl (by omega) (by omega) rfl ?_);refine qO0 rfl ⟨⟩ (j0a K0a rfl (fun w1 hw=>by exact hw.1.old o0) rfl ?_);refine qB a0.q [.o 0] rfl ⟨rfl,⟨⟩⟩ (fun G0=>?_) fun G0=>?_
   ·refine qD rfl ⟨⟩ ?_;rintro r0 ⟨h0,q0⟩;refine lR0 rfl ⟨⟩ (o0a rfl (by conv=>lhs;whnf) ?_);exact⟨by exact ST5 (by omega) (by omega),h0.fin⟩
   refine qD rfl ⟨⟩ ?_;rintro r0 ⟨h0,q0⟩;refine lR0 rfl ⟨⟩ (o0a rfl (by conv=>lhs;whnf) ?_);exact⟨by exact SF5 (by omega) (by omega),h0.fin⟩
  refine qD rfl ⟨⟩ ?_;rintro r0 ⟨h0,q0⟩;refine lR0 rfl ⟨⟩ (o0a rfl (by conv=>lhs;whnf) ?_);exact⟨by exact SF5 (by omega) (by omega),h0.fin⟩
 refine qD rfl ⟨⟩ ?_;rintro r0 ⟨h0,q0⟩;refine lR0 rfl ⟨⟩ (o0a rfl (by conv=>lhs;whnf) ?_);exact⟨by exact SF5 (by omega) (by omega),h0.fin⟩
theorem z6c:∀(e:E) (M:List Nat) (w0:World) (cs:List Value) (a0:Int),RdE M w0 e cs→-1000≤a0→a0≤1000 →
 M0a Tryz.prog 118 #[.agg cs.toArray,.int .i64 a0] w0 fun v w'=>v=.bool (e.good a0)∧Below w0.heap.size w0 w':=by
 intro e
 induction e using E.induct with
 | _ e ih =>
 intro M w0 cs a0 hR z0 A0;obtain⟨A,n,c,rfl,_,_,_,_,_,_,_,u0⟩:=hR.open_;have S:=St.refl w0;have b0:=E.good_def e a0;have d0:∀k∈e.kids,k.good (a0-1)=false→E.goods e.kids (a0-1)=false:=fun k hk hf=>by
  cases hg:E.goods e.kids (a0-1) with
  | false=>rfl
  | true=>rw[(E.goods_iff _ _).1 hg k hk] at hf;cases hf
 refine a0a Tryz.func118 rfl Tryz.ntmps118 rfl ?_;refine wO0 rfl ⟨⟩ (h0a S (by conv=>lhs;whnf) rfl ?_);intro g2 w2 S2 X2 G2;refine lB0 rfl ⟨⟩ (fun h7=>?_) fun h7=>?_
 ·refine lT rfl ⟨⟩ rfl ⟨congrArg Value.bool ?_,S2.fin⟩;rw[b0];simp[show ¬1≤a0 by omega];done
 refine lO S2.k [.w 0] rfl ⟨⟨rfl,by rfl⟩,⟨⟩⟩ (C0a S2 j8c rfl rfl (q5c _ M _ _ (RdE.keep (S2.keep0 M) _ _ hR)) (fun g0 x0 e0 n0=>?_) (fun g0 x0 e0 n0=>?_))
 ·refine lC0 rfl ⟨⟩ (wL (fun μ D ε w=>D=[]∧∃k:Nat,(k+μ=e.kids.length)∧(∀(j:Nat) (h:j<e.kids.length),j<k→e.kids[j].good (a0-1)=true)∧St [] w0 w [(some g2,68,[.int .i64 e.op,.int .i64 e.w,.int .i64 e.n,.slice A n c])]∧ε 1=.int .i64 a0∧ε 2=.pointer (some ⟨g2,0,none⟩)∧ε 5=.int .i64 k) (μ:=e.kids.length) ⟨rfl,0,by omega,fun j _ h=>absurd h (by omega),e0,rfl,rfl,rfl⟩ ?_);rintro μ D ε w ⟨rfl,k,hk,hs,S,e1,e2,e5⟩;refine r0a 1 e1 (r0a 2 e2 (r0a 5 e5 ?_));clear e1 e2 e5;refine wB S.k [.o 0] rfl ⟨rfl,⟨⟩⟩ (fun p0=>?_) fun p0=>?_
  ·have i0:k<e.kids.length:=by omega
   obtain⟨_,o,_,q0,t0⟩:=u0 (by omega);obtain⟨ck,r0,j0⟩:=t0 k i0;have v0:ck.length=4:=j0.length;refine lO S.k [.o 0] rfl ⟨rfl,⟨⟩⟩ (w0a j1a.slT rfl (by assumption) rfl (by omega) (by omega) rfl ?_);refine w1a E1a rfl (r0.keep (S.keep0 M) q0) (by assumption) rfl ?_;refine lO0 rfl ⟨by omega,⟨⟩⟩ (C0a S A1c rfl rfl (ih _ (List.getElem_mem i0) M _ ck _ (RdE.keep (S.keep0 M) _ _ j0) (by omega) (by omega)) (fun h0 y0 f0 o0=>?_) (fun h0 y0 f0 o0=>?_))
   ·refine lP0 rfl ⟨by omega,⟨⟩⟩ ⟨μ-1,by omega,rfl,k+1,by omega,fun j hj h=>?_,f0,rfl,rfl,rfl⟩;by_cases s0:j=k
    ·subst s0;exact h0
    ·exact hs j hj (by omega)
   refine lT rfl ⟨⟩ rfl ⟨congrArg Value.bool ?_,f0.fin⟩;rw[b0];simp[d0 _ (List.getElem_mem i0) h0];done
  refine lT rfl ⟨⟩ rfl ⟨congrArg Value.bool ?_,S.fin⟩;rw[b0];rw[(E.goods_iff _ _).2 (fun x hx=>by obtain⟨j,hj,rfl⟩:=List.getElem_of_mem hx;exact hs j hj (by omega))];simp[g0,show 1≤a0 by omega]
 refine lT rfl ⟨⟩ rfl ⟨congrArg Value.bool ?_,e0.fin⟩;rw[b0];simp[g0];done
theorem E7a(e:E)(M:List Nat)(w0:World)(cs:List Value)(hR:RdE M w0 e cs):
 M0a Tryz.prog 81 #[.agg cs.toArray] w0 fun v w'=>v=.bool e.wf∧Below w0.heap.size w0 w':=by
 obtain⟨_,_,_,rfl,_,_,_,_,_,_,_,_⟩:=hR.open_;have S:=St.refl w0;have a0:=E.size_eq e 601 (by omega);refine a0a Tryz.func81 rfl Tryz.ntmps81 rfl ?_;refine wO0 rfl ⟨⟩ (h0a S (by conv=>lhs;whnf) rfl ?_);intro g1 w1 S1 X1 G1;refine lO S1.k [.w 0] rfl ⟨⟨rfl,by rfl⟩,⟨⟩⟩ ?_;refine g0a S1 W6b rfl rfl (i6b _ M _ _ _ (RdE.keep (S1.keep0 M) _ _ hR) (by unfold i64;omega)) ?_;intro w4 S4 X4;refine lB0 rfl ⟨⟩ (fun h5=>?_) fun h5=>?_
 ·refine lO S4.k [.w 0] rfl ⟨⟨rfl,by rfl⟩,⟨⟩⟩ (C0a S4 A1c rfl rfl (z6c _ M _ _ _ (RdE.keep (S4.keep0 M) _ _ hR) (by omega) (by omega)) (fun h8 w8 S8 X8=>?_) (fun h8 w8 S8 X8=>?_))
  ·refine lT rfl ⟨⟩ rfl ⟨congrArg Value.bool ?_,S8.fin⟩;unfold E.wf;simp[h8,show e.cnt≤600 by omega];done
  refine lT rfl ⟨⟩ rfl ⟨congrArg Value.bool ?_,S8.fin⟩;unfold E.wf;simp[h8,show e.cnt≤600 by omega];done
 refine lT rfl ⟨⟩ rfl ⟨congrArg Value.bool ?_,S4.fin⟩;unfold E.wf;simp[show ¬e.cnt≤600 by omega];done
theorem s2c(e:E)(M:List Nat)(w0:World)(cs:List Value)(a0:Int)(hR:RdE M w0 e cs)(h0:0≤a0)(h1:a0≤1000000):
 M0a Tryz.prog 50 #[.agg cs.toArray,.int .i64 a0] w0 fun v w'=>v=.bool (decide ((e.cnt:Int)≤a0))∧Below w0.heap.size w0 w':=by
 obtain⟨_,_,_,rfl,_,_,_,_,_,_,_,_⟩:=hR.open_;have S:=St.refl w0;have d0:=E.size_eq e (a0+1) (by omega);refine a0a Tryz.func50 rfl Tryz.ntmps50 rfl ?_;refine wO0 rfl ⟨⟩ (h0a S (by conv=>lhs;whnf) rfl ?_);intro g2 w2 S2 X2 G2;refine lO S2.k [.w 0] rfl ⟨by omega,⟨rfl,by rfl⟩,⟨⟩⟩ ?_;refine g0a S2 W6b rfl rfl (i6b _ M _ _ _ (RdE.keep (S2.keep0 M) _ _ hR) (by unfold i64;omega)) ?_;intro w8 S8 X8;refine lB0 rfl ⟨⟩ (fun b0=>?_) fun b0=>?_
 ·refine lT rfl ⟨⟩ rfl ⟨congrArg Value.bool ?_,S8.fin⟩;exact(decide_eq_true (by omega)).symm
 refine lT rfl ⟨⟩ rfl ⟨congrArg Value.bool ?_,S8.fin⟩;exact(decide_eq_false (by omega)).symm
theorem J7c:∀(e:E) (M:List Nat) (w0:World) (cs:List Value) (vc:Value) (cells:List w2a) (h0:Bool) (K0:Int),RdE M w0 e cs→q7c M w0 vc cells→e.good K0=true →
 M0a Tryz.prog 137 #[.agg cs.toArray,vc,.bool h0] w0 fun v w'=>v=.bool (e.over cells h0)∧Below w0.heap.size w0 w':=by
 intro e
 induction e using E.induct with
 | _ e ih =>
 intro M w0 cs vc cells h0 K0 hR hC hg;obtain⟨A,n,c,rfl,_,_,_,_,_,hm,_,O0⟩:=hR.open_;obtain⟨Ac,nc,cc,rfl,_,_,_,_,u0⟩:=id hC;have S:=St.refl w0;have b0:=E.over_def cells h0 e;have p0:∀k∈e.kids,k.over cells h0=false→E.overs cells h0 e.kids=false:=fun k hk hf=>by
  cases hg:E.overs cells h0 e.kids with
  | false=>rfl
  | true=>rw[(E.overs_iff _ _ _).1 hg k hk] at hf;cases hf
 rw[E.good_def] at hg;simp only[Bool.and_eq_true] at hg;have P0:e.Shape:=of_decide_eq_true hg.1.2;have N0:∀k∈e.kids,k.good (K0-1)=true:=(E.goods_iff _ _).1 hg.2;clear hg;have Q0:=h2a e.op;have R0:(e.op=3∨e.op=2)→0≤e.n∧e.n<32:=fun h=>by
  have:=(f5a (by omega)).1 P0;omega
 cases h0
 ·refine a0a Tryz.func137 rfl Tryz.ntmps137 rfl ?_;refine wO0 rfl ⟨⟩ (h0a S (by conv=>lhs;whnf) rfl ?_);intro g3 w3 S3 X3 G3;refine lCn 3 S3.k [] rfl ⟨⟩ (wY (fun D ε w=>D=[]∧(e.OverN cells false)∧St [] w0 w [(some g3,68,[.int .i64 e.op,.int .i64 e.w,.int .i64 e.n,.slice A n c])]∧Sl ε [(1,.slice Ac nc cc),(2,.bool false),(3,.pointer (some ⟨g3,0,none⟩))]) ?_ ?_)
  ·refine wB S3.k [.o 0] rfl ⟨rfl,⟨⟩⟩ (fun D0=>?_) fun D0=>?_
   ·refine lT rfl ⟨⟩ rfl ⟨congrArg Value.bool ?_,S3.fin⟩;rw[b0];rw[decide_eq_false (by unfold E.OverN;simp;omega)];rfl
   refine lC0 rfl ⟨⟩ (v0a b0a [0,1,2,3,4,5,6,7,8,9,10,11,12,13,14,15,16,17,18,19,20,21,22,23,24,25] [] [] (by kernel_rfl) rfl (Cl _ _ _ _) (Cl.start S3) ?_);refine qB S3.q [.o 0] rfl ⟨rfl,⟨⟩⟩ (fun v0=>?_) fun v0=>?_
   ·refine qOn 8 S3.q [.o 0] rfl ⟨rfl,⟨⟩⟩ (J8a rfl rfl ?_);refine h1a (by conv=>lhs;whnf) rfl ?_;refine qB0 rfl ⟨⟩ (fun i0=>?_) fun i0=>?_
    ·refine qD rfl ⟨⟩ ?_;rintro f0 ⟨a0,e0⟩;refine lT rfl ⟨⟩ rfl ⟨congrArg Value.bool ?_,a0.fin⟩;rw[b0];rw[decide_eq_false (by unfold E.OverN;omega)];rfl
    refine qOn 1 S3.q [] rfl ⟨⟩ (J8a rfl rfl ?_);refine h1a (by conv=>lhs;whnf) rfl ?_;refine qO S3.q [.o 0] rfl ⟨rfl,⟨⟩⟩ ?_;obtain⟨bc,oc,y0,z0,n0⟩:=u0 (by omega);obtain⟨m,hm⟩:=Int.eq_ofNat_of_zero_le (show 0≤e.n by omega);have g0:m<cells.length:=by omega
    obtain⟨cl,A0,d0,q0⟩:=n0 m cells[m] (List.getElem?_eq_getElem g0);have o0:w0.cell? ⟨bc,oc+e.n.toNat*6+1,none⟩=some (.int .i64 (wAt cells e.n)):=by
     rw[hm];have:=d0 1 (.int .i64 cells[m].w) (by rw[q0.1];rfl);simpa[wAt,g0] using this
    refine n0a U5a.slT rfl (by assumption) rfl (by omega) (by omega) rfl ?_;refine qO0 rfl ⟨⟩ (j0a K0a rfl (fun w1 hw=>by exact hw.1.old o0) rfl ?_);refine qB S3.q [.o 0] rfl ⟨rfl,⟨⟩⟩ (fun j0=>?_) fun j0=>?_
    ·refine qD rfl ⟨⟩ ?_;rintro f0 ⟨a0,e0⟩;refine lT rfl ⟨⟩ rfl ⟨congrArg Value.bool ?_,a0.fin⟩;rw[b0];rw[decide_eq_false (by unfold E.OverN;omega)];rfl
    refine qD rfl ⟨⟩ ?_;rintro f0 ⟨a0,e0⟩;refine lP0 rfl ⟨⟩ ?_;refine⟨rfl,((by unfold E.OverN;(simp;omega))),a0,rfl⟩
   refine qB S3.q [.o 0] rfl ⟨rfl,⟨⟩⟩ (fun x0=>?_) fun x0=>?_
   ·refine qOn 4 S3.q [.o 0] rfl ⟨rfl,⟨⟩⟩ (J8a rfl rfl ?_);refine h1a (by conv=>lhs;whnf) rfl ?_;refine qB0 rfl ⟨⟩ (fun i0=>?_) fun i0=>?_
    ·refine qD rfl ⟨⟩ ?_;rintro f0 ⟨a0,e0⟩;refine lT rfl ⟨⟩ rfl ⟨congrArg Value.bool ?_,a0.fin⟩;rw[b0];rw[decide_eq_false (by unfold E.OverN;omega)];rfl
    refine qOn 1 S3.q [] rfl ⟨⟩ (J8a rfl rfl ?_);refine h1a (by conv=>lhs;whnf) rfl ?_;refine qO S3.q [.o 0] rfl ⟨rfl,⟨⟩⟩ ?_;obtain⟨bc,oc,y0,z0,n0⟩:=u0 (by omega);obtain⟨m,hm⟩:=Int.eq_ofNat_of_zero_le (show 0≤e.n by omega);have g0:m<cells.length:=by omega
    obtain⟨cl,A0,d0,q0⟩:=n0 m cells[m] (List.getElem?_eq_getElem g0);have o0:w0.cell? ⟨bc,oc+e.n.toNat*6+1,none⟩=some (.int .i64 (wAt cells e.n)):=by
     rw[hm];have:=d0 1 (.int .i64 cells[m].w) (by rw[q0.1];rfl);simpa[wAt,g0] using this
    refine n0a U5a.slT rfl (by assumption) rfl (by omega) (by omega) rfl ?_;refine qO0 rfl ⟨⟩ (j0a K0a rfl (fun w1 hw=>by exact hw.1.old o0) rfl ?_);refine qB S3.q [.o 0] rfl ⟨rfl,⟨⟩⟩ (fun j0=>?_) fun j0=>?_
    ·refine qD rfl ⟨⟩ ?_;rintro f0 ⟨a0,e0⟩;refine lT rfl ⟨⟩ rfl ⟨congrArg Value.bool ?_,a0.fin⟩;rw[b0];rw[decide_eq_false (by unfold E.OverN;omega)];rfl
    refine qD rfl ⟨⟩ ?_;rintro f0 ⟨a0,e0⟩;refine lP0 rfl ⟨⟩ ?_;refine⟨rfl,((by unfold E.OverN;(simp;omega))),a0,rfl⟩
   refine qD rfl ⟨⟩ ?_;rintro f0 ⟨a0,e0⟩;refine lP0 rfl ⟨⟩ ?_;refine⟨rfl,((by unfold E.OverN;(simp;omega))),a0,rfl⟩
  rintro D ε w ⟨rfl,hO,S,eZ⟩;refine wK eZ (wC0 rfl ⟨⟩ ?_);refine wL (fun μ D ε w=>D=[]∧∃k:Nat,(k+μ=e.kids.length)∧(∀(j:Nat) (h:j<e.kids.length),j<k→e.kids[j].over cells false=true)∧St [] w0 w [(some g3,68,[.int .i64 e.op,.int .i64 e.w,.int .i64 e.n,.slice A n c])]∧ε 1=.slice Ac nc cc∧ε 2=.bool false∧ε 3=.pointer (some ⟨g3,0,none⟩)∧ε 7=.int .i64 k) (μ:=e.kids.length) ⟨rfl,0,by omega,fun j _ h=>absurd h (by omega),S,rfl,rfl,rfl,rfl⟩ ?_;rintro μ D ε w ⟨rfl,k,hk,hs,S,e1,e2,e3,e7⟩;refine r0a 1 e1 (r0a 2 e2 (r0a 3 e3 (r0a 7 e7 ?_)));clear e1 e2 e3 e7;refine wB S.k [.o 0] rfl ⟨rfl,⟨⟩⟩ (fun E0=>?_) fun E0=>?_
  ·have r0:k<e.kids.length:=by omega
   obtain⟨b,o,hA,F0,I0⟩:=O0 (by omega);obtain⟨ck,G0,B0⟩:=I0 k r0;have J0:ck.length=4:=B0.length;refine lO S.k [.o 0] rfl ⟨rfl,⟨⟩⟩ (w0a j1a.slT rfl (by assumption) rfl (by omega) (by omega) rfl ?_);refine w1a E1a rfl (G0.keep (S.keep0 M) F0) (by assumption) rfl ?_;refine lO0 rfl ⟨⟩ (C0a S M5b rfl rfl (ih _ (List.getElem_mem r0) M _ ck _ cells false _ (RdE.keep (S.keep0 M) _ _ B0) (hC.keep (S.keep0 M)) (N0 _ (List.getElem_mem r0))) (fun t0 L0 s0 C0=>?_) (fun t0 L0 s0 C0=>?_))
   ·refine lP0 rfl ⟨by omega,⟨⟩⟩ ⟨μ-1,by omega,rfl,k+1,by omega,fun j hj h=>?_,s0,rfl,rfl,rfl,rfl⟩;by_cases H0:j=k
    ·subst H0;exact t0
    ·exact hs j hj (by omega)
   refine lT rfl ⟨⟩ rfl ⟨congrArg Value.bool ?_,s0.fin⟩;rw[b0];rw[p0 _ (List.getElem_mem r0) t0];simp;done
  refine lT rfl ⟨⟩ rfl ⟨congrArg Value.bool ?_,S.fin⟩;rw[b0];rw[(E.overs_iff _ _ _).2 (fun x hx=>by obtain⟨j,hj,rfl⟩:=List.getElem_of_mem hx;exact hs j hj (by omega)),decide_eq_true hO];rfl
 ·refine a0a Tryz.func137 rfl Tryz.ntmps137 rfl ?_;refine wO0 rfl ⟨⟩ (h0a S (by conv=>lhs;whnf) rfl ?_);intro g3 w3 S3 X3 G3;refine lCn 3 S3.k [] rfl ⟨⟩ (wY (fun D ε w=>D=[]∧(e.OverN cells true)∧St [] w0 w [(some g3,68,[.int .i64 e.op,.int .i64 e.w,.int .i64 e.n,.slice A n c])]∧Sl ε [(1,.slice Ac nc cc),(2,.bool true),(3,.pointer (some ⟨g3,0,none⟩))]) ?_ ?_)
  ·refine wB S3.k [.o 0] rfl ⟨rfl,⟨⟩⟩ (fun D0=>?_) fun D0=>?_
   ·refine lC0 rfl ⟨⟩ (v0a b0a [0,1,2,3,4,5,6,7,8,9,10,11,12,13,14,15,16,17,18,19,20,21,22,23,24,25] [] [] (by kernel_rfl) rfl (Cl _ _ _ _) (Cl.start S3) ?_);refine qB S3.q [.o 0] rfl ⟨rfl,⟨⟩⟩ (fun v0=>?_) fun v0=>?_
    ·refine qOn 8 S3.q [.o 0] rfl ⟨rfl,⟨⟩⟩ (J8a rfl rfl ?_);refine h1a (by conv=>lhs;whnf) rfl ?_;refine qB0 rfl ⟨⟩ (fun i0=>?_) fun i0=>?_
     ·refine qD rfl ⟨⟩ ?_;rintro f0 ⟨a0,e0⟩;refine lT rfl ⟨⟩ rfl ⟨congrArg Value.bool ?_,a0.fin⟩;rw[b0];rw[decide_eq_false (by unfold E.OverN;omega)];rfl
     refine qOn 1 S3.q [] rfl ⟨⟩ (J8a rfl rfl ?_);refine h1a (by conv=>lhs;whnf) rfl ?_;refine qO S3.q [.o 0] rfl ⟨rfl,⟨⟩⟩ ?_;obtain⟨bc,oc,y0,z0,n0⟩:=u0 (by omega);obtain⟨m,hm⟩:=Int.eq_ofNat_of_zero_le (show 0≤e.n by omega);have g0:m<cells.length:=by omega
     obtain⟨cl,A0,d0,q0⟩:=n0 m cells[m] (List.getElem?_eq_getElem g0);have o0:w0.cell? ⟨bc,oc+e.n.toNat*6+1,none⟩=some (.int .i64 (wAt cells e.n)):=by
      rw[hm];have:=d0 1 (.int .i64 cells[m].w) (by rw[q0.1];rfl);simpa[wAt,g0] using this
     refine n0a U5a.slT rfl (by assumption) rfl (by omega) (by omega) rfl ?_;refine qO0 rfl ⟨⟩ (j0a K0a rfl (fun w1 hw=>by exact hw.1.old o0) rfl ?_);refine qB S3.q [.o 0] rfl ⟨rfl,⟨⟩⟩ (fun j0=>?_) fun j0=>?_
     ·refine qD rfl ⟨⟩ ?_;rintro f0 ⟨a0,e0⟩;refine lT rfl ⟨⟩ rfl ⟨congrArg Value.bool ?_,a0.fin⟩;rw[b0];rw[decide_eq_false (by unfold E.OverN;omega)];rfl
     refine qD rfl ⟨⟩ ?_;rintro f0 ⟨a0,e0⟩;refine lP0 rfl ⟨⟩ ?_;refine⟨rfl,((by unfold E.OverN;(simp;omega))),a0,rfl⟩
    refine qB S3.q [.o 0] rfl ⟨rfl,⟨⟩⟩ (fun x0=>?_) fun x0=>?_
    ·refine qOn 4 S3.q [.o 0] rfl ⟨rfl,⟨⟩⟩ (J8a rfl rfl ?_);refine h1a (by conv=>lhs;whnf) rfl ?_;refine qB0 rfl ⟨⟩ (fun i0=>?_) fun i0=>?_
     ·refine qD rfl ⟨⟩ ?_;rintro f0 ⟨a0,e0⟩;refine lT rfl ⟨⟩ rfl ⟨congrArg Value.bool ?_,a0.fin⟩;rw[b0];rw[decide_eq_false (by unfold E.OverN;omega)];rfl
     refine qOn 1 S3.q [] rfl ⟨⟩ (J8a rfl rfl ?_);refine h1a (by conv=>lhs;whnf) rfl ?_;refine qO S3.q [.o 0] rfl ⟨rfl,⟨⟩⟩ ?_;obtain⟨bc,oc,y0,z0,n0⟩:=u0 (by omega);obtain⟨m,hm⟩:=Int.eq_ofNat_of_zero_le (show 0≤e.n by omega);have g0:m<cells.length:=by omega
     obtain⟨cl,A0,d0,q0⟩:=n0 m cells[m] (List.getElem?_eq_getElem g0);have o0:w0.cell? ⟨bc,oc+e.n.toNat*6+1,none⟩=some (.int .i64 (wAt cells e.n)):=by
      rw[hm];have:=d0 1 (.int .i64 cells[m].w) (by rw[q0.1];rfl);simpa[wAt,g0] using this
     refine n0a U5a.slT rfl (by assumption) rfl (by omega) (by omega) rfl ?_;refine qO0 rfl ⟨⟩ (j0a K0a rfl (fun w1 hw=>by exact hw.1.old o0) rfl ?_);refine qB S3.q [.o 0] rfl ⟨rfl,⟨⟩⟩ (fun j0=>?_) fun j0=>?_
     ·refine qD rfl ⟨⟩ ?_;rintro f0 ⟨a0,e0⟩;refine lT rfl ⟨⟩ rfl ⟨congrArg Value.bool ?_,a0.fin⟩;rw[b0];rw[decide_eq_false (by unfold E.OverN;omega)];rfl
     refine qD rfl ⟨⟩ ?_;rintro f0 ⟨a0,e0⟩;refine lP0 rfl ⟨⟩ ?_;refine⟨rfl,((by unfold E.OverN;(simp;omega))),a0,rfl⟩
    refine qD rfl ⟨⟩ ?_;rintro f0 ⟨a0,e0⟩;refine lP0 rfl ⟨⟩ ?_;refine⟨rfl,((by unfold E.OverN;(simp;omega))),a0,rfl⟩
   refine lC0 rfl ⟨⟩ (v0a b0a [0,1,2,3,4,5,6,7,8,9,10,11,12,13,14,15,16,17,18,19,20,21,22,23,24,25] [] [] (by kernel_rfl) rfl (Cl _ _ _ _) (Cl.start S3) ?_);refine qB S3.q [.o 0] rfl ⟨rfl,⟨⟩⟩ (fun v0=>?_) fun v0=>?_
   ·refine qOn 8 S3.q [.o 0] rfl ⟨rfl,⟨⟩⟩ (J8a rfl rfl ?_);refine h1a (by conv=>lhs;whnf) rfl ?_;refine qB0 rfl ⟨⟩ (fun i0=>?_) fun i0=>?_
    ·refine qD rfl ⟨⟩ ?_;rintro f0 ⟨a0,e0⟩;refine lT rfl ⟨⟩ rfl ⟨congrArg Value.bool ?_,a0.fin⟩;rw[b0];rw[decide_eq_false (by unfold E.OverN;omega)];rfl
    refine qOn 1 S3.q [] rfl ⟨⟩ (J8a rfl rfl ?_);refine h1a (by conv=>lhs;whnf) rfl ?_;refine qO S3.q [.o 0] rfl ⟨rfl,⟨⟩⟩ ?_;obtain⟨bc,oc,y0,z0,n0⟩:=u0 (by omega);obtain⟨m,hm⟩:=Int.eq_ofNat_of_zero_le (show 0≤e.n by omega);have g0:m<cells.length:=by omega
    obtain⟨cl,A0,d0,q0⟩:=n0 m cells[m] (List.getElem?_eq_getElem g0);have o0:w0.cell? ⟨bc,oc+e.n.toNat*6+1,none⟩=some (.int .i64 (wAt cells e.n)):=by
     rw[hm];have:=d0 1 (.int .i64 cells[m].w) (by rw[q0.1];rfl);simpa[wAt,g0] using this
    refine n0a U5a.slT rfl (by assumption) rfl (by omega) (by omega) rfl ?_;refine qO0 rfl ⟨⟩ (j0a K0a rfl (fun w1 hw=>by exact hw.1.old o0) rfl ?_);refine qB S3.q [.o 0] rfl ⟨rfl,⟨⟩⟩ (fun j0=>?_) fun j0=>?_
    ·refine qD rfl ⟨⟩ ?_;rintro f0 ⟨a0,e0⟩;refine lT rfl ⟨⟩ rfl ⟨congrArg Value.bool ?_,a0.fin⟩;rw[b0];rw[decide_eq_false (by unfold E.OverN;omega)];rfl
    refine qD rfl ⟨⟩ ?_;rintro f0 ⟨a0,e0⟩;refine lP0 rfl ⟨⟩ ?_;refine⟨rfl,((by unfold E.OverN;(simp;omega))),a0,rfl⟩
   refine qB S3.q [.o 0] rfl ⟨rfl,⟨⟩⟩ (fun x0=>?_) fun x0=>?_
   ·refine qOn 4 S3.q [.o 0] rfl ⟨rfl,⟨⟩⟩ (J8a rfl rfl ?_);refine h1a (by conv=>lhs;whnf) rfl ?_;refine qB0 rfl ⟨⟩ (fun i0=>?_) fun i0=>?_
    ·refine qD rfl ⟨⟩ ?_;rintro f0 ⟨a0,e0⟩;refine lT rfl ⟨⟩ rfl ⟨congrArg Value.bool ?_,a0.fin⟩;rw[b0];rw[decide_eq_false (by unfold E.OverN;omega)];rfl
    refine qOn 1 S3.q [] rfl ⟨⟩ (J8a rfl rfl ?_);refine h1a (by conv=>lhs;whnf) rfl ?_;refine qO S3.q [.o 0] rfl ⟨rfl,⟨⟩⟩ ?_;obtain⟨bc,oc,y0,z0,n0⟩:=u0 (by omega);obtain⟨m,hm⟩:=Int.eq_ofNat_of_zero_le (show 0≤e.n by omega);have g0:m<cells.length:=by omega
    obtain⟨cl,A0,d0,q0⟩:=n0 m cells[m] (List.getElem?_eq_getElem g0);have o0:w0.cell? ⟨bc,oc+e.n.toNat*6+1,none⟩=some (.int .i64 (wAt cells e.n)):=by
     rw[hm];have:=d0 1 (.int .i64 cells[m].w) (by rw[q0.1];rfl);simpa[wAt,g0] using this
    refine n0a U5a.slT rfl (by assumption) rfl (by omega) (by omega) rfl ?_;refine qO0 rfl ⟨⟩ (j0a K0a rfl (fun w1 hw=>by exact hw.1.old o0) rfl ?_);refine qB S3.q [.o 0] rfl ⟨rfl,⟨⟩⟩ (fun j0=>?_) fun j0=>?_
    ·refine qD rfl ⟨⟩ ?_;rintro f0 ⟨a0,e0⟩;refine lT rfl ⟨⟩ rfl ⟨congrArg Value.bool ?_,a0.fin⟩;rw[b0];rw[decide_eq_false (by unfold E.OverN;omega)];rfl
    refine qD rfl ⟨⟩ ?_;rintro f0 ⟨a0,e0⟩;refine lP0 rfl ⟨⟩ ?_;refine⟨rfl,((by unfold E.OverN;(simp;omega))),a0,rfl⟩
   refine qD rfl ⟨⟩ ?_;rintro f0 ⟨a0,e0⟩;refine lP0 rfl ⟨⟩ ?_;refine⟨rfl,((by unfold E.OverN;(simp;omega))),a0,rfl⟩
  rintro D ε w ⟨rfl,hO,S,eZ⟩;refine wK eZ (wC0 rfl ⟨⟩ ?_);refine wL (fun μ D ε w=>D=[]∧∃k:Nat,(k+μ=e.kids.length)∧(∀(j:Nat) (h:j<e.kids.length),j<k→e.kids[j].over cells true=true)∧St [] w0 w [(some g3,68,[.int .i64 e.op,.int .i64 e.w,.int .i64 e.n,.slice A n c])]∧ε 1=.slice Ac nc cc∧ε 2=.bool true∧ε 3=.pointer (some ⟨g3,0,none⟩)∧ε 7=.int .i64 k) (μ:=e.kids.length) ⟨rfl,0,by omega,fun j _ h=>absurd h (by omega),S,rfl,rfl,rfl,rfl⟩ ?_;rintro μ D ε w ⟨rfl,k,hk,hs,S,e1,e2,e3,e7⟩;refine r0a 1 e1 (r0a 2 e2 (r0a 3 e3 (r0a 7 e7 ?_)));clear e1 e2 e3 e7;refine wB S.k [.o 0] rfl ⟨rfl,⟨⟩⟩ (fun E0=>?_) fun E0=>?_
  ·have r0:k<e.kids.length:=by omega
   obtain⟨b,o,hA,F0,I0⟩:=O0 (by omega);obtain⟨ck,G0,B0⟩:=I0 k r0;have J0:ck.length=4:=B0.length;refine lO S.k [.o 0] rfl ⟨rfl,⟨⟩⟩ (w0a j1a.slT rfl (by assumption) rfl (by omega) (by omega) rfl ?_);refine w1a E1a rfl (G0.keep (S.keep0 M) F0) (by assumption) rfl ?_;refine lO0 rfl ⟨⟩ (C0a S M5b rfl rfl (ih _ (List.getElem_mem r0) M _ ck _ cells true _ (RdE.keep (S.keep0 M) _ _ B0) (hC.keep (S.keep0 M)) (N0 _ (List.getElem_mem r0))) (fun t0 L0 s0 C0=>?_) (fun t0 L0 s0 C0=>?_))
   ·refine lP0 rfl ⟨by omega,⟨⟩⟩ ⟨μ-1,by omega,rfl,k+1,by omega,fun j hj h=>?_,s0,rfl,rfl,rfl,rfl⟩;by_cases H0:j=k
    ·subst H0;exact t0
    ·exact hs j hj (by omega)
   refine lT rfl ⟨⟩ rfl ⟨congrArg Value.bool ?_,s0.fin⟩;rw[b0];rw[p0 _ (List.getElem_mem r0) t0];simp;done
  refine lT rfl ⟨⟩ rfl ⟨congrArg Value.bool ?_,S.fin⟩;rw[b0];rw[(E.overs_iff _ _ _).2 (fun x hx=>by obtain⟨j,hj,rfl⟩:=List.getElem_of_mem hx;exact hs j hj (by omega)),decide_eq_true hO];rfl
def v1d(cs:List Value)(x:Bool):Prop:=cs=[.bool x]
abbrev RdB(M:List Nat)(w:World)(v:Value)(l:List Bool):Prop:=RdS M w 1 v1d v l
def R2a(bs:List Bool)(k:Nat):List Int:=((List.range k).filter fun i=>bs.getD i false).map fun(i:Nat)=>(i:Int)
def G5a(bs:List Bool):List Int:=R2a bs bs.length
theorem k4a(bs:List Bool)(k:Nat):R2a bs (k+1)=R2a bs k++(if bs.getD k false=true then[(k:Int)] else[]):=by
 unfold R2a;rw[List.range_succ,List.filter_append,List.map_append]
 congr 1
 rw[List.filter_cons]
 split<;>rfl
theorem L2a(bs:List Bool)(k:Nat):(R2a bs k).length≤k:=by
 unfold R2a;rw[List.length_map];exact Nat.le_trans (List.length_filter_le _ _) (by simp)
theorem q6a(bs:List Bool)(k:Nat)(x:Int):x∈R2a bs k↔∃i:Nat,x=i∧i<k∧bs.getD i false=true:=by
 unfold R2a;simp only[List.mem_map,List.mem_filter,List.mem_range];constructor
 ·rintro⟨i,⟨h1,h2⟩,rfl⟩;exact⟨i,rfl,h1,h2⟩
 ·rintro⟨i,rfl,h1,h2⟩;exact⟨i,⟨h1,h2⟩,rfl⟩
mutual
def E.mark(op:Int):E→List Bool→List Bool
 | ⟨o,_,n,ks⟩,bs=>E.markAll op ks (if o=op then bs.set n.toNat true else bs)
def E.markAll(op:Int):List E→List Bool→List Bool
 | [],bs=>bs
 | k::ks,bs=>E.markAll op ks (E.mark op k bs)
end
theorem E.mark_def(op:Int)(e:E)(bs:List Bool):e.mark op bs=E.markAll op e.kids (if e.op=op then bs.set e.n.toNat true else bs):=by cases e;simp only[E.mark]
theorem E.mark_len(op:Int):∀(e:E) (bs:List Bool),(e.mark op bs).length=bs.length:=by
 intro e
 induction e using E.induct with
 | _ e ih =>
   intro bs;have key:∀(ks:List E),(∀k∈ks,∀bs:List Bool,(k.mark op bs).length=bs.length)→∀bs:List Bool,(E.markAll op ks bs).length=bs.length:=by
    intro ks
    induction ks with
    | nil=>intro _ bs;simp only[E.markAll]
    | cons k ks b0=>intro h bs;simp only[E.markAll];rw[b0 (fun k' a0=>h k' (by simp[a0])),h k (by simp)]
   rw[E.mark_def,key _ ih]
   split<;>simp
def E.sup(op:Int)(e:E):List Int:=if e.wf then G5a (e.mark op (List.replicate 32 false)) else[]
theorem M9a(e:E)(M:List Nat)(w0:World)(cs:List Value)(vc:Value)(cells:List w2a)(a0:Bool)(hR:RdE M w0 e cs)(hC:q7c M w0 vc cells):
 M0a Tryz.prog 108 #[.agg cs.toArray,vc,.bool a0] w0 fun v w'=>v=.bool (e.valid cells a0)∧Below w0.heap.size w0 w':=by
 obtain⟨_,_,_,rfl,_,_,_,_,_,_,_,_⟩:=hR.open_;obtain⟨_,_,_,rfl⟩:=hC.form;have S:=St.refl w0;refine a0a Tryz.func108 rfl Tryz.ntmps108 rfl ?_;refine wO0 rfl ⟨⟩ (h0a S (by conv=>lhs;whnf) rfl ?_);intro g3 w3 S3 X3 G3;refine lO S3.k [.w 0] rfl ⟨⟨rfl,by rfl⟩,⟨⟩⟩ (C0a S3 A4b rfl rfl (E7a _ M _ _ (RdE.keep (S3.keep0 M) _ _ hR)) (fun h8 w8 S8 X8=>?_) (fun h8 w8 S8 X8=>?_))
 ·refine lO S8.k [.w 0] rfl ⟨⟨rfl,by rfl⟩,⟨⟩⟩ ?_;refine C0a S8 M5b rfl rfl (J7c _ M _ _ _ cells a0 40 (RdE.keep (S8.keep0 M) _ _ hR) (hC.keep (S8.keep0 M)) (by unfold E.wf at h8;simp only[Bool.and_eq_true] at h8;exact h8.2)) (fun d0 f0 b0 e0=>?_) (fun d0 f0 b0 e0=>?_)
  ·refine lT rfl ⟨⟩ rfl ⟨congrArg Value.bool ?_,b0.fin⟩;unfold E.valid;simp[h8,d0];done
  refine lT rfl ⟨⟩ rfl ⟨congrArg Value.bool ?_,b0.fin⟩;unfold E.valid;simp[h8,d0];done
 refine lT rfl ⟨⟩ rfl ⟨congrArg Value.bool ?_,S8.fin⟩;unfold E.valid;simp[h8];done
theorem g4b(M:List Nat)(w0:World)(v:Value)(bs:List Bool)(hR:RdB M w0 v bs)(hM:∀g∈M,g<w0.heap.size)(u0:bs.length≤1000):
 M0a Tryz.prog 177 #[v] w0 fun v' w'=>RdI M w' v' (G5a bs)∧Below w0.heap.size w0 w':=by
 obtain⟨Ab,nb,cb,rfl⟩:=hR.form;obtain⟨_,_,_,_,t0⟩:=hR.at;have S:=(St.refl w0).nilEnt 3;refine a0a Tryz.func177 rfl Tryz.ntmps177 rfl ?_;refine wC0 rfl ⟨⟩ (wL (fun μ D ε w=>D=[]∧∃k:Nat,∃G:Option Nat,∃cs:List Value,∃v:Value,(k+μ=bs.length)∧(d3a G 1 (R2a bs k).length cs v ((R2a bs k).map (Value.int .i64)))∧St [] w0 w [(G,3,cs)]∧ε 0=.slice Ab nb cb∧ε 3=v∧ε 4=.int .i64 k) (μ:=bs.length) ⟨rfl,0,none,[],_,by omega,d3a.nil 1,S,rfl,rfl,rfl⟩ ?_);rintro μ D ε w ⟨rfl,k,G,cs,v,_,b0,S,e0,e3,e4⟩;refine r0a 0 e0 (r0a 3 e3 (r0a 4 e4 ?_));clear e0 e3 e4;refine wB0 rfl ⟨⟩ (fun h8=>?_) fun h8=>?_
 ·have p0:k<bs.length:=by omega
  obtain⟨b,o,_,_,s0⟩:=t0 (by omega);obtain⟨_,_,h0,i0⟩:=s0 k bs[k] (List.getElem?_eq_getElem p0);have n0:w0.cell? ⟨b,o+k*1,none⟩=some (.bool bs[k]):=h0 0 _ (by rw[i0];rfl);have o0:bs.getD k false=bs[k]:=by simp[p0]
  have B0:=L2a bs k;refine lO0 rfl ⟨⟩ (w0a g7a.slT rfl (by assumption) rfl (by omega) (by omega) rfl ?_);cases a0:bs[k]
  ·refine s0a m2a rfl (by exact(S.old (n0.trans (by rw[a0]))).trans (congrArg (fun b=>some (Value.bool b)) a0)) rfl ?_;refine lP0 rfl ⟨by omega,⟨⟩⟩ ⟨μ-1,by omega,rfl,k+1,G,cs,v,by omega,?_,S,rfl,rfl,rfl⟩;rw[k4a,o0,a0];simpa using b0
  refine s0a m2a rfl (by exact(S.old (n0.trans (by rw[a0]))).trans (congrArg (fun b=>some (Value.bool b)) a0)) rfl ?_;refine lOn 4 S.k [] rfl ⟨⟩ (Z0a (by conv=>lhs;whnf) rfl ?_);refine lO0 rfl ⟨⟩ (u0a S O0a (vs:=[.int .i64 _]) (cs:=[_]) (by rfl) rfl rfl rfl rfl rfl rfl ?_);intro A0 C0 j0 y0 x0;refine o3b (k:=1) j0 O0a rfl b0 rfl rfl (j0.cells 0 rfl) rfl (by simp[Value.oneCell']) (by omega) (by omega) rfl ?_;intro v0 q0 g0 D0 f0 d0 z0;have r0:=f0.tail;refine P0a (by conv=>lhs;whnf) rfl ?_;refine lP0 rfl ⟨by omega,⟨⟩⟩ ⟨μ-1,by omega,rfl,k+1,q0,g0,v0,by omega,?_,r0,rfl,rfl,rfl⟩;rw[k4a,o0,a0];simpa using d0
 refine lOn 7 S.k [] rfl ⟨⟩ (Z0a (by conv=>lhs;whnf) rfl ?_);refine P0a (by conv=>lhs;whnf) rfl ?_;refine lR0 rfl ⟨⟩ (o0a rfl (by conv=>lhs;whnf) ?_);obtain rfl:k=bs.length:=by omega
 refine⟨b0.rdI (k:=0) S rfl hM (fun x hx=>?_) ?_,S.nil.fin⟩
 ·obtain⟨_,rfl,_,_⟩:=(q6a _ _ _).1 hx;unfold i64;omega
 ·have:=L2a bs bs.length;omega
theorem P3c:∀(e:E) (M:List Nat) (w0:World) (cs:List Value) (g1 g2:Nat) (a0 b0:List Bool) (B0:Int),RdE M w0 e cs→e.good B0=true→g1∈M→g2∈M→g1≠g2→a0.length=32→b0.length=32 →
 p0a w0 (g1,4,a0.map Value.bool)→p0a w0 (g2,4,b0.map Value.bool) →
 M0a Tryz.prog 176 #[.agg cs.toArray,.slice (some ⟨g1,0,none⟩) 32 32,.slice (some ⟨g2,0,none⟩) 32 32] w0 fun _ w' =>
  F0a [g1,g2] w0 w'∧p0a w' (g1,4,(e.mark 3 a0).map Value.bool)∧p0a w' (g2,4,(e.mark 2 b0).map Value.bool):=by
 intro e
 induction e using E.induct with
 | _ e ih =>
 intro M w0 cs g1 g2 a0 b0 B0 hR hg D0 E0 A0 H0 I0 K0 L0;obtain⟨A,n,c,rfl,_,_,_,_,_,_,_,G0⟩:=hR.open_;have S:=St.borrow2 K0 L0 A0;rw[E.good_def] at hg;simp only[Bool.and_eq_true] at hg;have N0:e.Shape:=of_decide_eq_true hg.1.2;have F0:∀k∈e.kids,k.good (B0-1)=true:=(E.goods_iff _ _).1 hg.2;clear hg;have R0:(e.op=3∨e.op=2)→0≤e.n∧e.n<32:=fun h=>by
  have:=(f5a (by omega)).1 N0;omega
 rw[E.mark_def,E.mark_def];have f0:∀g∈[g1,g2],g∈M:=fun g hg=>by simp at hg;rcases hg with rfl|rfl<;>assumption
 refine a0a Tryz.func176 rfl Tryz.ntmps176 rfl ?_;refine wO0 rfl ⟨⟩ (h0a S (by conv=>lhs;whnf) rfl ?_);intro g3 w3 S3 X3 G3;refine lB S3.k [.o 0] rfl ⟨rfl,⟨⟩⟩ (fun h9=>?_) fun h9=>?_
 ·refine lO S3.k [.o 0] rfl ⟨rfl,⟨⟩⟩ (w0a g7a.slT rfl (by rfl) rfl (by omega) (by omega) rfl ?_);refine B0a (kk:=1) S3 e4c rfl (by conv=>lhs;whnf) rfl rfl (by(simp;omega)) ?_;intro P0 d0 J0;refine lCn 2 d0.k [] rfl ⟨⟩ (wX (fun D ε w=>D=[]∧St [g1,g2] w0 w [(some g3,68,[.int .i64 e.op,.int .i64 e.w,.int .i64 e.n,.slice A n c]),(some g1,4,(if e.op=3 then a0.set e.n.toNat true else a0).map Value.bool),(some g2,4,(if e.op=2 then b0.set e.n.toNat true else b0).map Value.bool)]∧ε 1=.slice (some ⟨g1,0,none⟩) 32 32∧ε 2=.slice (some ⟨g2,0,none⟩) 32 32∧ε 3=.pointer (some ⟨g3,0,none⟩)) ?_ ?_)
  ·refine wB d0.k [.o 0] rfl ⟨rfl,⟨⟩⟩ (fun i0=>?_) fun i0=>?_
   ·refine lO d0.k [.o 0] rfl ⟨rfl,⟨⟩⟩ (w0a g7a.slT rfl (by rfl) rfl (by omega) (by omega) rfl ?_);refine B0a (kk:=2) d0 e4c rfl (by conv=>lhs;whnf) rfl rfl (by(simp;omega)) ?_;intro C0 j0 q0;refine lP0 rfl ⟨⟩ ?_;exfalso;omega
   exact lP0 rfl ⟨⟩ ⟨rfl,by simpa[h9,i0,List.map_set] using d0,rfl,rfl,rfl⟩
  rintro D ε w ⟨rfl,S,e1,e2,e3⟩;refine r0a 1 e1 (r0a 2 e2 (r0a 3 e3 ?_));clear e1 e2 e3;have g0:(if e.op=3 then a0.set e.n.toNat true else a0).length=32:=by split<;>simp[H0]
  have h0:(if e.op=2 then b0.set e.n.toNat true else b0).length=32:=by split<;>simp[I0]
  generalize (if e.op=3 then a0.set e.n.toNat true else a0)=a1 at *;generalize (if e.op=2 then b0.set e.n.toNat true else b0)=a2 at *;refine wC0 rfl ⟨⟩ (wL (fun μ D ε w=>D=[]∧∃k:Nat,∃m1:List Bool,∃m2:List Bool,(k+μ=e.kids.length)∧(E.markAll 3 (e.kids.drop k) m1=E.markAll 3 e.kids a1)∧(E.markAll 2 (e.kids.drop k) m2=E.markAll 2 e.kids a2)∧(m1.length=32)∧(m2.length=32)∧St [g1,g2] w0 w [(some g3,68,[.int .i64 e.op,.int .i64 e.w,.int .i64 e.n,.slice A n c]),(some g1,4,m1.map Value.bool),(some g2,4,m2.map Value.bool)]∧ε 1=.slice (some ⟨g1,0,none⟩) 32 32∧ε 2=.slice (some ⟨g2,0,none⟩) 32 32∧ε 3=.pointer (some ⟨g3,0,none⟩)∧ε 6=.int .i64 k) (μ:=e.kids.length) ⟨rfl,0,a1,a2,by omega,rfl,rfl,g0,h0,S,rfl,rfl,rfl,rfl⟩ ?_);rintro μ D ε w ⟨rfl,k,m1,m2,hk,h1,h2,l1,l2,S,e1,e2,e3,e6⟩;refine r0a 1 e1 (r0a 2 e2 (r0a 3 e3 (r0a 6 e6 ?_)));clear e1 e2 e3 e6;refine wB S.k [.o 0] rfl ⟨rfl,⟨⟩⟩ (fun r0=>?_) fun r0=>?_
  ·have e0:k<e.kids.length:=by omega
   obtain⟨b,o,hA,u0,y0⟩:=G0 (by omega);obtain⟨ck,v0,n0⟩:=y0 k e0;have z0:ck.length=4:=n0.length;have x0:e.kids.drop k=e.kids[k]::e.kids.drop (k+1):=List.drop_eq_getElem_cons e0;rw[x0] at h1 h2;simp only[E.markAll] at h1 h2;refine lO S.k [.o 0] rfl ⟨rfl,⟨⟩⟩ (w0a j1a.slT rfl (by assumption) rfl (by omega) (by omega) rfl ?_);refine w1a E1a rfl (v0.keep (S.keepM.mono f0) u0) (by assumption) rfl ?_;refine lO0 rfl ⟨⟩ (c2a d5b rfl rfl (ih _ (List.getElem_mem e0) M _ ck g1 g2 m1 m2 _ (RdE.keep (S.keepM.mono f0) _ _ n0) (F0 _ (List.getElem_mem e0)) D0 E0 A0 l1 l2 (S.blk 1 rfl) (S.blk 2 rfl)) ?_);rintro O0 Q0 ⟨o0,s0,t0⟩;have p0:=S.changed2 1 2 rfl rfl o0 s0 t0;refine lP0 rfl ⟨by omega,⟨⟩⟩ ?_;exact⟨μ-1,by omega,rfl,k+1,_,_,by omega,h1,h2,by rw[E.mark_len];exact l1,by rw[E.mark_len];exact l2,p0,rfl,rfl,rfl,rfl⟩
  refine lF0 rfl ⟨⟩ (T1a rfl ?_);obtain rfl:k=e.kids.length:=by omega
  rw[List.drop_length] at h1 h2;simp only[E.markAll] at h1 h2;rw[←h1,←h2];exact⟨S.below,S.blk 1 rfl,S.blk 2 rfl⟩
 refine lCn 5 S3.k [] rfl ⟨⟩ (wX (fun D ε w=>D=[]∧St [g1,g2] w0 w [(some g3,68,[.int .i64 e.op,.int .i64 e.w,.int .i64 e.n,.slice A n c]),(some g1,4,(if e.op=3 then a0.set e.n.toNat true else a0).map Value.bool),(some g2,4,(if e.op=2 then b0.set e.n.toNat true else b0).map Value.bool)]∧ε 1=.slice (some ⟨g1,0,none⟩) 32 32∧ε 2=.slice (some ⟨g2,0,none⟩) 32 32∧ε 3=.pointer (some ⟨g3,0,none⟩)) ?_ ?_)
 ·refine wB S3.k [.o 0] rfl ⟨rfl,⟨⟩⟩ (fun i0=>?_) fun i0=>?_
  ·refine lO S3.k [.o 0] rfl ⟨rfl,⟨⟩⟩ (w0a g7a.slT rfl (by rfl) rfl (by omega) (by omega) rfl ?_);refine B0a (kk:=2) S3 e4c rfl (by conv=>lhs;whnf) rfl rfl (by(simp;omega)) ?_;intro C0 j0 q0;exact lP0 rfl ⟨⟩ ⟨rfl,by simpa[h9,i0,List.map_set] using j0,rfl,rfl,rfl⟩
  exact lP0 rfl ⟨⟩ ⟨rfl,by simpa[h9,i0,List.map_set] using S3,rfl,rfl,rfl⟩
 rintro D ε w ⟨rfl,S,e1,e2,e3⟩;refine r0a 1 e1 (r0a 2 e2 (r0a 3 e3 ?_));clear e1 e2 e3;have g0:(if e.op=3 then a0.set e.n.toNat true else a0).length=32:=by split<;>simp[H0]
 have h0:(if e.op=2 then b0.set e.n.toNat true else b0).length=32:=by split<;>simp[I0]
 generalize (if e.op=3 then a0.set e.n.toNat true else a0)=a1 at *;generalize (if e.op=2 then b0.set e.n.toNat true else b0)=a2 at *;refine wC0 rfl ⟨⟩ (wL (fun μ D ε w=>D=[]∧∃k:Nat,∃m1:List Bool,∃m2:List Bool,(k+μ=e.kids.length)∧(E.markAll 3 (e.kids.drop k) m1=E.markAll 3 e.kids a1)∧(E.markAll 2 (e.kids.drop k) m2=E.markAll 2 e.kids a2)∧(m1.length=32)∧(m2.length=32)∧St [g1,g2] w0 w [(some g3,68,[.int .i64 e.op,.int .i64 e.w,.int .i64 e.n,.slice A n c]),(some g1,4,m1.map Value.bool),(some g2,4,m2.map Value.bool)]∧ε 1=.slice (some ⟨g1,0,none⟩) 32 32∧ε 2=.slice (some ⟨g2,0,none⟩) 32 32∧ε 3=.pointer (some ⟨g3,0,none⟩)∧ε 6=.int .i64 k) (μ:=e.kids.length) ⟨rfl,0,a1,a2,by omega,rfl,rfl,g0,h0,S,rfl,rfl,rfl,rfl⟩ ?_);rintro μ D ε w ⟨rfl,k,m1,m2,hk,h1,h2,l1,l2,S,e1,e2,e3,e6⟩;refine r0a 1 e1 (r0a 2 e2 (r0a 3 e3 (r0a 6 e6 ?_)));clear e1 e2 e3 e6;refine wB S.k [.o 0] rfl ⟨rfl,⟨⟩⟩ (fun r0=>?_) fun r0=>?_
 ·have e0:k<e.kids.length:=by omega
  obtain⟨b,o,hA,u0,y0⟩:=G0 (by omega);obtain⟨ck,v0,n0⟩:=y0 k e0;have z0:ck.length=4:=n0.length;have x0:e.kids.drop k=e.kids[k]::e.kids.drop (k+1):=List.drop_eq_getElem_cons e0;rw[x0] at h1 h2;simp only[E.markAll] at h1 h2;refine lO S.k [.o 0] rfl ⟨rfl,⟨⟩⟩ (w0a j1a.slT rfl (by assumption) rfl (by omega) (by omega) rfl ?_);refine w1a E1a rfl (v0.keep (S.keepM.mono f0) u0) (by assumption) rfl ?_;refine lO0 rfl ⟨⟩ (c2a d5b rfl rfl (ih _ (List.getElem_mem e0) M _ ck g1 g2 m1 m2 _ (RdE.keep (S.keepM.mono f0) _ _ n0) (F0 _ (List.getElem_mem e0)) D0 E0 A0 l1 l2 (S.blk 1 rfl) (S.blk 2 rfl)) ?_);rintro O0 Q0 ⟨o0,s0,t0⟩;have p0:=S.changed2 1 2 rfl rfl o0 s0 t0;refine lP0 rfl ⟨by omega,⟨⟩⟩ ?_;exact⟨μ-1,by omega,rfl,k+1,_,_,by omega,h1,h2,by rw[E.mark_len];exact l1,by rw[E.mark_len];exact l2,p0,rfl,rfl,rfl,rfl⟩
 refine lF0 rfl ⟨⟩ (T1a rfl ?_);obtain rfl:k=e.kids.length:=by omega
 rw[List.drop_length] at h1 h2;simp only[E.markAll] at h1 h2;rw[←h1,←h2];exact⟨S.below,S.blk 1 rfl,S.blk 2 rfl⟩
theorem e1c{w0 w:World}{L:List Ent}{k g:Nat}{M M':List Nat}{bs:List Bool}{el:Nat}(S:St M' w0 w L)(hk:L[k]?=some (some g,el,bs.map Value.bool))(hM:g∉M)(hn:bs.length=32):RdB M w (.slice (some ⟨g,0,none⟩) 32 32) bs :=
 S.rd1 hk hM (by omega) (by omega) fun i x hi=>⟨.bool x,by simp[hi],rfl⟩
theorem d9a(e:E)(M:List Nat)(w0:World)(cs:List Value)(hR:RdE M w0 e cs)(hM:∀g∈M,g<w0.heap.size):
 M0a Tryz.prog 138 #[.agg cs.toArray] w0 fun v w'=>(∃a b,v=.tuple #[a,b]∧RdI M w' a (e.sup 3)∧RdI M w' b (e.sup 2))∧Below w0.heap.size w0 w':=by
 obtain⟨_,n,c,rfl,_,_,_,_,_,_,_,_⟩:=hR.open_;have S:=St.refl w0;refine a0a Tryz.func138 rfl Tryz.ntmps138 rfl ?_;refine wO0 rfl ⟨⟩ (h0a S (by conv=>lhs;whnf) rfl ?_);intro g1 w1 S1 X1 G1;refine lO S1.k [.w 0] rfl ⟨⟨rfl,by rfl⟩,⟨⟩⟩ (C0a S1 A4b rfl rfl (E7a _ M _ _ (RdE.keep (S1.keep0 M) _ _ hR)) (fun h7 w7 S7 X7=>?_) (fun h7 w7 S7 X7=>?_))
 ·refine lO0 rfl ⟨⟩ (z1b (n:=32) (c:=32) S7 g7a rfl rfl (by omega) (by omega) (by omega) rfl rfl ?_);intro g9 w9 S9 X9 G9;refine lO0 rfl ⟨⟩ (z1b (n:=32) (c:=32) S9 g7a rfl rfl (by omega) (by omega) (by omega) rfl rfl ?_);intro b0 z0 a0 t0 s0;refine lO a0.k [.w 2] rfl ⟨⟨rfl,by rfl⟩,⟨⟩⟩ ?_;have d0:e.good 40=true:=by unfold E.wf at h7;simp only[Bool.and_eq_true] at h7;exact h7.2
  have q0:g9≠b0:=by have:=S9.lt 0 rfl;omega
  have p0:∀g∈[g9,b0]++M,g∈M∨w0.heap.size≤g:=fun g hg=>by
   simp at hg;rcases hg with rfl|rfl|hg
   ·right;have:=S9.new 0 rfl;simp at this;exact this
   ·right;have:=a0.new 0 rfl;simp at this;exact this
   ·exact .inl hg
  refine c2a d5b rfl rfl (P3c e ([g9,b0]++M) _ _ g9 b0 (List.replicate 32 false) (List.replicate 32 false) 40 (RdE.keep (a0.keep0 _) _ _ (RdE.more p0 _ _ hR)) d0 (by simp) (by simp) q0 (by simp) (by simp) (by simpa using a0.blk 1 rfl) (by simpa using a0.blk 0 rfl)) ?_;rintro v0 A0 ⟨h0,n0,o0⟩;have e0:=a0.changed2 1 0 rfl rfl h0 n0 o0;refine lO0 rfl ⟨⟩ ?_;refine x0a e0 W8b rfl rfl (g4b M _ _ (e.mark 3 (List.replicate 32 false)) (e1c (k:=1) e0 rfl (fun h=>by have:=hM g9 h;have:=S9.new 0 rfl;simp at this;omega) (by rw[E.mark_len];simp)) (fun g hg=>by have:=hM g hg;have:=e0.size;omega) (by rw[E.mark_len];simp)) ?_;rintro x0 B0 g0 f0 u0;refine lO0 rfl ⟨⟩ ?_;refine x0a f0 W8b rfl rfl (g4b M _ _ (e.mark 2 (List.replicate 32 false)) (e1c (k:=0) f0 rfl (fun h=>by have:=hM b0 h;have:=a0.new 0 rfl;simp at this;omega) (by rw[E.mark_len];simp)) (fun g hg=>by have:=hM g hg;have:=f0.size;omega) (by rw[E.mark_len];simp)) ?_;rintro y0 C0 r0 i0 j0;replace g0:=g0.keep (j0.of_nil);refine P0a (by conv=>lhs;whnf) rfl ?_;refine P0a (by conv=>lhs;whnf) rfl ?_;refine lR0 rfl ⟨⟩ (d4b rfl (by conv=>lhs;whnf) (by conv=>lhs;whnf) ?_);refine⟨?_,i0.fin⟩;unfold E.sup;exact⟨_,_,rfl,by simpa[h7] using g0,by simpa[h7] using r0⟩
 refine lR0 rfl ⟨⟩ (d4b rfl (by conv=>lhs;whnf) (by conv=>lhs;whnf) ?_);refine⟨?_,S7.fin⟩;unfold E.sup;exact⟨_,_,rfl,by simp only[h7];exact⟨_,_,_,rfl,rfl,by omega,by unfold maxLen;omega,by omega,fun h=>absurd h (by omega)⟩,by simp only[h7];exact⟨_,_,_,rfl,rfl,by omega,by unfold maxLen;omega,by omega,fun h=>absurd h (by omega)⟩⟩
mutual
def E.occ(op i:Int):E→Bool
 | ⟨o,_,n,ks⟩=>decide (o=op∧n=i)||E.occs op i ks
def E.occs(op i:Int):List E→Bool
 | []=>false
 | k::ks=>E.occ op i k||E.occs op i ks
end
theorem E.occ_def(op i:Int)(e:E):e.occ op i=(decide (e.op=op∧e.n=i)||E.occs op i e.kids):=by cases e;simp only[E.occ]
theorem E.occs_iff(op i:Int)(ks:List E):E.occs op i ks=true↔∃k∈ks,k.occ op i=true:=by
 induction ks with
 | nil=>simp[E.occs]
 | cons k ks ih=>simp[E.occs,ih]
theorem U2a{e:E}{a0:Int}(h:e.good a0=true):e.Shape∧∀k∈e.kids,k.good (a0-1)=true:=by
 rw[E.good_def] at h;simp only[Bool.and_eq_true] at h;exact⟨of_decide_eq_true h.1.2,(E.goods_iff _ _).1 h.2⟩
theorem C0c(bs:List Bool)(j i:Nat)(hj:j<bs.length):(bs.set j true).getD i false=(bs.getD i false||decide (i=j)):=by
 simp only[List.getD_eq_getElem?_getD,List.getElem?_set];by_cases h:j=i
 ·subst h;simp[hj]
 ·have h':¬i=j:=fun e=>h e.symm;simp[h,h']
theorem F7b(op:Int)(g0:op=2∨op=3):∀(e:E) (a0:Int),e.good a0=true→∀(bs:List Bool),bs.length=32→∀i:Nat,i<32→(e.mark op bs).getD i false=(bs.getD i false||e.occ op i):=by
 intro e
 induction e using E.induct with
 | _ e ih =>
   intro a0 hg bs hb i hi;obtain⟨e0,d0⟩:=U2a hg;have key:∀(ks:List E),(∀k∈ks,k∈e.kids)→∀bs:List Bool,bs.length=32→(E.markAll op ks bs).getD i false=(bs.getD i false||E.occs op i ks):=by
    intro ks
    induction ks with
    | nil=>intro _ bs _;simp[E.markAll,E.occs]
    | cons k ks f0 =>
      intro h bs hb;simp only[E.markAll,E.occs];rw[f0 (fun k' b0=>h k' (by simp[b0])) _ (by rw[E.mark_len];exact hb),ih k (h k (by simp)) (a0-1) (d0 k (h k (by simp))) bs hb i hi,Bool.or_assoc]
   rw[E.mark_def,E.occ_def];by_cases ho:e.op=op
   ·have hn:=(f5a (by omega)).1 e0;rw[if_pos ho,key e.kids (fun k hk=>hk) _ (by simp[hb]),C0c _ _ _ (by omega),Bool.or_assoc]
    congr 2
    rw[decide_eq_decide];omega
   ·rw[if_neg ho,key e.kids (fun k hk=>hk) _ hb];simp[ho]
theorem s2b{e:E}(h:e.wf=true):e.good 40=true:=by
 unfold E.wf at h;simp only[Bool.and_eq_true] at h;exact h.2
theorem N2b{e:E}(h:e.wf=true){op:Int}(a0:op=2∨op=3)(x:Int):x∈e.sup op↔0≤x∧x<32∧e.occ op x=true:=by
 unfold E.sup;rw[if_pos h];unfold G5a;rw[q6a,E.mark_len];constructor
 ·rintro⟨i,rfl,hi,hm⟩;simp at hi;rw[F7b op a0 e 40 (s2b h) _ (by simp) i hi] at hm;refine⟨by omega,by omega,?_⟩;have h0:(List.replicate 32 false).getD i false=false:=by
   simp only[List.getD_eq_getElem?_getD,List.getElem?_replicate]
   split<;>rfl
  rw[h0] at hm;simpa using hm
 ·rintro⟨h0,_,hm⟩;obtain⟨i,rfl⟩:=Int.eq_ofNat_of_zero_le h0;refine⟨i,rfl,by simp;omega,?_⟩;rw[F7b op a0 e 40 (s2b h) _ (by simp) i (by omega),hm];simp
theorem D6a{cells:List w2a}{b0:Bool}{op:Int}(h0:op=2∨op=3):∀(e:E) (a0:Int),e.good a0=true→e.over cells b0=true→∀x:Int,e.occ op x=true →
 0≤x∧x<32∧x<cells.length∧1≤wAt cells x∧wAt cells x≤8:=by
 intro e
 induction e using E.induct with
 | _ e ih =>
   intro a0 hg ho x hx;obtain⟨f0,d0⟩:=U2a hg;rw[E.over_def] at ho;simp only[Bool.and_eq_true,decide_eq_true_eq] at ho;rw[E.occ_def] at hx;simp only[Bool.or_eq_true,decide_eq_true_eq] at hx;rcases hx with⟨h1,h2⟩|hx
   ·have hn:=(f5a (by omega)).1 f0;have g0:=ho.1.2 (by omega);subst h2;omega
   ·obtain⟨k,hk,e0⟩:=(E.occs_iff _ _ _).1 hx;exact ih k hk (a0-1) (d0 k hk) ((E.overs_iff _ _ _).1 ho.2 k hk) x e0
theorem S5a{cells:List w2a}{a0:Bool}{e:E}(h:e.valid cells a0=true):e.wf=true∧e.good 40=true∧e.over cells a0=true:=by
 unfold E.valid at h;simp only[Bool.and_eq_true] at h;exact⟨h.1,s2b h.1,h.2⟩
def t7a(s:ByteArray):Prop:=1≤s.size∧s.size≤64∧∀(i:Nat) (h:i<s.size),33≤(s[i]).toNat∧(s[i]).toNat≤126
def I1a(cells:List w2a)(x:Int):Int:=(cells.getD x.toNat ⟨ByteArray.empty,0,0,0,false,0⟩).thread
def E1b(cells:List w2a)(x:Int):Bool:=(cells.getD x.toNat ⟨ByteArray.empty,0,0,0,false,0⟩).ghost
def D2a(i:Int)(n:Nat):Prop:=0≤i∧i<n
def s5a(cells:List w2a)(e:E)(sh:Bool)(t:Int):Prop:=∀x∈e.sup 3++e.sup 2,(I1a cells x=-1→sh=true)∧(0≤I1a cells x→I1a cells x=t)
def Q7a(cells:List w2a)(e:E)(pair:Bool)(t:Int):Prop:=e.valid cells pair=true∧e.w=1∧s5a cells e true t
def E.absent(e:E):Prop:=e.op=0∧e.w=0∧e.n=0∧e.kids=[]
def d6a:List Int→Prop:=List.Pairwise (·<·)
structure J4b (p:f0a) (t:Int) (s:y1a):Prop where
 guard:s5a p.cells s.guard (decide (s.kind=4)) t
 vals:∀(i:Nat) (h:i<s.set.length),0<i∨s.kind≠2→s5a p.cells (s.set[i]).to (decide (s.kind=4)) t
 cells:∀a∈s.set,I1a p.cells a.cell=t∨I1a p.cells a.cell=-1
 k1:s.kind=1→∀a∈s.set,I1a p.cells a.cell=t
 k2:s.kind=2→∃a l,s.set=a::l∧I1a p.cells a.cell=t∧E1b p.cells a.cell=false∧a.to.op=2∧I1a p.cells a.to.n=-1∧E1b p.cells a.to.n=false∧∀b∈l,I1a p.cells b.cell=t∧E1b p.cells b.cell=true
 k3:s.kind=3→∃a l,s.set=a::l∧I1a p.cells a.cell=-1∧E1b p.cells a.cell=false∧∀b∈l,E1b p.cells b.cell=true
 k5:5≤s.kind→s.set=[]∧s.guard=⟨1,1,1,[]⟩
 k6:6≤s.kind→D2a s.target p.threads.length∧s.target≠t
 k7:s.kind=6→∀u,p.threads[s.target.toNat]?=some u→u.asleep=true
structure p8a (p:f0a) (t:Int) (points:Int) (s:y1a):Prop where
 kind:1≤s.kind∧s.kind≤7
 frm:0≤s.frm∧s.frm<points-1
 to:0≤s.to∧s.to<points
 mod:D2a s.module_ p.modules.length
 rel:s.release=true→s.kind=3
 tgt:s.target≠0→s.kind=6∨s.kind=7
 guard:s.guard.valid p.cells false=true∧s.guard.w=1
 set:∀a∈s.set,D2a a.cell p.cells.length∧a.to.valid p.cells false=true∧a.to.w=wAt p.cells a.cell
 once:s.set.Pairwise (fun a b=>a.cell≠b.cell)
 row:J4b p t s
structure E9b (p:f0a) (t:Int) (points:Int) (l:c6b):Prop where
 head:0≤l.head∧l.head<points
 up:d6a l.body
 body:∀x∈l.body,0≤x∧x<points∧x≠l.head
 variant:l.variant.valid p.cells false=true∧s5a p.cells l.variant true t
structure V6a (p:f0a) (t:Nat) (x:X0a):Prop where
 name:t7a x.name
 points:1≤x.points∧x.points≤48
 nsteps:x.steps.length≤64
 nloops:x.loops.length≤8
 asserts:(x.asserts.length:Int)=x.points
 nmod:(x.modules.length:Int)=x.points
 modules:∀m∈x.modules,D2a m p.modules.length
 truth:∀e∈x.asserts,Q7a p.cells e false t
 steps:∀s∈x.steps,p8a p t x.points s
 loops:∀l∈x.loops,E9b p t x.points l
structure P6b (p:f0a) (c:w2a):Prop where
 name:t7a c.name
 w:1≤c.w∧c.w≤8
 init:0≤c.init∧c.init<G3a c.w.toNat
 thread:-1≤c.thread∧c.thread<p.threads.length
 mod:D2a c.module_ p.modules.length
structure r4c (p:f0a) (m:v4a):Prop where
 name:t7a m.name
 owner:t7a m.owner
 rely:m.rely.absent∨Q7a p.cells m.rely true (-1)
 guar:Q7a p.cells m.guar true (-1)
 frame:∀x∈m.frame,D2a x p.cells.length∧I1a p.cells x=-1
 up:d6a m.frame
structure b7b (p:f0a) (l:B5b):Prop where
 cell:D2a l.cell p.cells.length∧I1a p.cells l.cell=-1∧wAt p.cells l.cell=1∧E1b p.cells l.cell=false
 mod:D2a l.module_ p.modules.length
 inv:Q7a p.cells l.inv false (-1)
structure d1a (p:f0a):Prop where
 ncells:p.cells.length≤32
 nmodules:p.modules.length≤6
 nlocks:p.locks.length≤4
 nthreads:p.threads.length≤4
 cells:∀c∈p.cells,P6b p c
 cellNames:p.cells.Pairwise (fun a b=>a.name≠b.name)
 modules:∀m∈p.modules,r4c p m
 moduleNames:p.modules.Pairwise (fun a b=>a.name≠b.name)
 locks:∀l∈p.locks,b7b p l
 lockCells:p.locks.Pairwise (fun a b=>a.cell≠b.cell)
 threads:∀(t:Nat) (h:t<p.threads.length),V6a p t p.threads[t]
 threadNames:p.threads.Pairwise (fun a b=>a.name≠b.name)
noncomputable def dec(p:Prop):Bool:=@decide p (Classical.propDecidable p)
theorem q9c{p:Prop}(h:p):dec p=true:=@decide_eq_true p (Classical.propDecidable p) h
theorem z1d{p:Prop}(h:¬p):dec p=false:=@decide_eq_false p (Classical.propDecidable p) h
theorem o2a{p:Prop}(h:dec p=true):p:=@of_decide_eq_true p (Classical.propDecidable p) h
theorem P1a{p:Prop}(h:dec p=false):¬p:=@of_decide_eq_false p (Classical.propDecidable p) h
theorem Z3a{p:Prop}(h:p):Value.bool true=.bool (dec p):=by rw[q9c h]
theorem p1a{p:Prop}(h:¬p):Value.bool false=.bool (dec p):=by rw[z1d h]
section
variable {α:Type} {l:List α} {k:Nat} {P:α→Prop}
def o1a(l:List α)(k:Nat)(P:α→Prop):Prop:=∀x∈l.take k,P x
theorem o1a.zero:o1a l 0 P:=fun x hx=>by simp at hx
theorem H0a{x:α}(hx:l[k]?=some x):l.take (k+1)=l.take k++[x]:=by
 obtain⟨a0,rfl⟩:=List.getElem?_eq_some_iff.1 hx;exact List.take_succ_eq_append_getElem a0
theorem o1a.succ{x:α}(h:o1a l k P)(hx:l[k]?=some x)(hk:P x):o1a l (k+1) P:=fun y hy=>by
 rw[H0a hx] at hy;rcases List.mem_append.1 hy with hy|hy
 ·exact h y hy
 ·rw[List.mem_singleton.1 hy];exact hk
theorem o1a.all(h:o1a l k P)(hk:l.length≤k):∀x∈l,P x:=fun x hx=>h x (by rw[List.take_of_length_le hk];exact hx)
theorem o1a.get(h:o1a l k P){j:Nat}(hj:j<k)(hl:j<l.length):P l[j]:=h _ (by
 rw[List.mem_take_iff_getElem];exact⟨j,by omega,rfl⟩)
def L3a(l:List α)(k:Nat)(R:α→α→Prop):Prop:=(l.take k).Pairwise R
variable {R:α→α→Prop}
theorem L3a.zero:L3a l 0 R:=by simp[L3a]
theorem L3a.succ{x:α}(h:L3a l k R)(hx:l[k]?=some x){j:Nat}(hj:k≤j)(hk:o1a l j (fun y=>R y x)):L3a l (k+1) R:=by
 unfold L3a;rw[H0a hx,List.pairwise_append];refine⟨h,by simp,fun a ha b hb=>?_⟩;rw[List.mem_singleton.1 hb];refine hk a ?_;rw[show l.take k=(l.take j).take k by rw[List.take_take,Nat.min_eq_left hj]] at ha;exact List.mem_of_mem_take ha
theorem L3a.all(h:L3a l k R)(hk:l.length≤k):l.Pairwise R:=by
 unfold L3a at h;rwa [List.take_of_length_le hk] at h
theorem A9a(h:∀j x,l[j]?=some x→∀y∈l.take j,R y x):l.Pairwise R:=by
 rw[List.pairwise_iff_getElem];intro i j hi hj a0;refine h j l[j] (List.getElem?_eq_getElem hj) _ ?_;rw[List.mem_take_iff_getElem];exact⟨i,by omega,rfl⟩
def h5a(l:List α)(i k:Nat)(P:α→Prop):Prop:=∀j b,l[j]?=some b→i≤j→j<k→P b
theorem h5a.start{i k:Nat}(h:k≤i):h5a l i k P:=fun j b _ h1 h2=>absurd h1 (by omega)
theorem h5a.succ{i:Nat}{x:α}(h:h5a l i k P)(hx:l[k]?=some x)(hk:P x):h5a l i (k+1) P:=fun j b hb h1 h2=>by
 by_cases a0:j=k
 ·subst a0;rw[hx] at hb;cases hb;exact hk
 ·exact h j b hb h1 (by omega)
theorem h5a.tail{x:α}(h:h5a l 1 k P)(hk:l.length≤k)(hx:l[0]?=some x):∃t,l=x::t∧∀b∈t,P b:=by
 cases l with
 | nil=>simp at hx
 | cons y t =>
   simp at hx;subst hx;refine⟨t,rfl,fun b hb=>?_⟩;obtain⟨j,hj,rfl⟩:=List.getElem_of_mem hb;simp at hk;exact h (j+1) _ (by simp[hj]) (by omega) (by omega)
theorem h5a.all{l:List α}{k:Nat}(h:h5a l 0 k P)(hk:l.length≤k):∀b∈l,P b:=fun b hb=>by
 obtain⟨j,hj,rfl⟩:=List.getElem_of_mem hb;exact h j _ (List.getElem?_eq_getElem hj) (by omega) (by omega)
theorem RdS.get{M:List Nat}{w:World}{size:Nat}{R:List Value→α→Prop}{A:Option Addr}{n c:Nat}{l:List α}(h:RdS M w size R (.slice A n c) l)(i:Nat)(hi:i<l.length):
 ∃x b o cs,l[i]?=some x∧A=some ⟨b,o,none⟩∧b∉M∧cs.length=size∧t1a w b (o+i*size) cs∧R cs x:=by
 obtain⟨_,_,_,_,h5⟩:=h.at;obtain⟨b,o,hA,hb,a0⟩:=h5 (by omega);obtain⟨cs,h6,h7,h8⟩:=a0 i l[i] (List.getElem?_eq_getElem hi);exact⟨l[i],b,o,cs,List.getElem?_eq_getElem hi,hA,hb,h6,h7,h8⟩
theorem c0a{x:α}(hx:l[k]?=some x):x∈l:=List.mem_of_getElem? hx
theorem u1a{x:α}(hx:l[k]?=some x):k<l.length:=(List.getElem?_eq_some_iff.1 hx).1
theorem RdS.len{M:List Nat}{w:World}{size:Nat}{R:List Value→α→Prop}{A:Option Addr}{n c:Nat}{l:List α}(h:RdS M w size R (.slice A n c) l):n=l.length∧n≤c∧n≤140737488355328 :=
 ⟨h.at.1,h.at.2.1,h.at.2.2.2.1⟩
end
theorem t1a.sub{w:World}{b o:Nat}{cs:List Value}(h:t1a w b o cs)(a0 n:Nat):t1a w b (o+a0) ((cs.drop a0).take n):=fun j v hj=>by
 rw[List.getElem?_take] at hj
 split at hj
 ·rw[List.getElem?_drop] at hj;have:=h _ _ hj
  rwa [←Nat.add_assoc] at this
 ·cases hj
section
variable {P:Program} {r:Option Nat} {N:Nat} {D:List Deferred} {e:Env} {w w0:World} {ops:Array Oper} {rest:List Oper} {K:List Deferred→Env→World→Prop} {L:List Ent} {M:List Nat}
variable {d:Nat} {t:TypeId} {p:String} {af:Array Edge} {f:FuncId} {args:Array Operand} {at_:Array TypeId} {vs:List Value}
theorem S1c{Q:Prop}(S:St M w0 w L)(hH:Has P f)(a0:args.toList.map (ev e)=vs)(hd:Nat.ble (d+1) N=true)
 (hc:M0a P f vs.toArray w fun v w'=>(∃b,v=.bool b∧(b=true→Q))∧Below w.heap.size w w') (h1:Q→∀w1,St M w0 w1 L→y0a [] w w1→WL P r N ops rest K D (upd e d (.bool true)) w1)
 (h2:∀w1,St M w0 w1 L→y0a [] w w1→WL P r N ops rest K D (upd e d (.bool false)) w1) :
 WL P r N ops (⟨some d,.call { callee:=.value (.func f),args:=args,argTypes:=at_ },t,p,af,none⟩::rest) K D e w :=
 x0a S hH a0 hd hc fun v w1 ⟨b,hv,hb⟩ S1 X1=>by
  subst hv;cases b
  ·exact h2 w1 S1 X1
  ·exact h1 (hb rfl) w1 S1 X1
theorem O2b{ty el size a0:Nat}{z:Value}(S:St M w0 w L)(hS:SlZ P ty el size z a0)(hd:Nat.ble (d+1) N=true)
 (h:∀g w1,St M w0 w1 ((some g,el,[])::L)→y0a [] w w1→w.heap.size≤g→WL P r N ops rest K D (upd e d (.slice (some ⟨g,0,none⟩) 0 0)) w1) :
 WL P r N ops (⟨some d,.buildSlice ty 0 #[],t,p,af,none⟩::rest) K D e w:=by
 obtain⟨_,hi,_,d0,_⟩:=hS.parts;have b0:(sizeOf el).run P w=.ok size w:=by simp[sizeOf,typeInfo,hi,d0]
 refine k1a (v:=.slice (some ⟨w.heap.size,0,none⟩) 0 0) (w':=w.alloc (.cells #[] el)) rfl rfl hd (by simp) ?_ (h _ _ (S.alloc el []) (T2a _ _ _) (Nat.le_refl _));simp[execOp,Instr.buildSlice,run_underlying hS.und,b0,newRow,Instr.fill];have h0:Array.map (fun _=>(default:Value)) (Array.range 0)=#[]:=by simp
 rw[h0]
theorem d3a.new{g size:Nat}:d3a (some g) size 0 [] (.slice (some ⟨g,0,none⟩) 0 0) []:=⟨by simp,.inr ⟨g,0,rfl,rfl,Nat.le_refl _,by unfold maxLen;omega,by simp,by simp⟩⟩
variable {x y:Operand} {xt yt:TypeId} {kd:IntKind} {a b:Int}
theorem X8c(hx:ev e x=.int kd a)(hy:ev e y=.int kd b)(hd:Nat.ble (d+1) N=true)(h:WL P r N ops rest K D (upd e d (.bool (decide (a=b)))) w):
 WL P r N ops (⟨some d,.binOp .eql xt x y yt,t,p,af,none⟩::rest) K D e w:=by
 refine Q0d hx hy hd (fun hh=>?_) fun hh=>?_
 ·rwa [decide_eq_true hh] at h
 ·rwa [decide_eq_false hh] at h
theorem Y5b{fn:Func}{R:Value→World→Prop}{t u x:Nat}(h:fn.results=#[.tmp t,.tmp u,.tmp x]){v1 v2 v3:Value}(h1:e t=v1)(h2:e u=v2)(h3:e x=v3)(hR:R (.tuple #[v1,v2,v3]) w):c4a P fn R [] e w :=
 ⟨rfl,fun tmps he=>by subst he;subst h1;subst h2;subst h3;exact⟨_,by simp[results,h];rfl,by simpa[W0a] using hR⟩⟩
end
section
variable {M:List Nat} {w:World}
theorem q1a.open_{p:f0a}{cs:List Value}(h:q1a M w p cs):∃Ac nc cc Am nm cm Al nl cl At nt ct,cs=[.slice Ac nc cc,.slice Am nm cm,.slice Al nl cl,.slice At nt ct] ∧
 q7c M w (.slice Ac nc cc) p.cells∧d1d M w (.slice Am nm cm) p.modules∧j1d M w (.slice Al nl cl) p.locks∧V0d M w (.slice At nt ct) p.threads ∧
 nc=p.cells.length∧nm=p.modules.length∧nl=p.locks.length∧nt=p.threads.length∧nc≤140737488355328∧nm≤140737488355328∧nl≤140737488355328∧nt≤140737488355328:=by
 obtain⟨_,_,_,_,rfl,h1,h2,h3,h4⟩:=h;obtain⟨Ac,nc,cc,rfl⟩:=h1.form;obtain⟨Am,nm,cm,rfl⟩:=h2.form;obtain⟨Al,nl,cl,rfl⟩:=h3.form;obtain⟨At,nt,ct,rfl⟩:=h4.form;exact⟨_,_,_,_,_,_,_,_,_,_,_,_,rfl,h1,h2,h3,h4,h1.len.1,h2.len.1,h3.len.1,h4.len.1,h1.len.2.2,h2.len.2.2,h3.len.2.2,h4.len.2.2⟩
theorem RdE.cells{e:E}{cs:List Value}(h:RdE M w e cs):∃A n c,cs=[.int .i64 e.op,.int .i64 e.w,.int .i64 e.n,.slice A n c]∧n=e.kids.length∧n≤140737488355328∧i64 e.op∧i64 e.w∧i64 e.n:=by
 obtain⟨A,n,c,rfl,o1,o2,o3,hn,_,_,a0,_⟩:=h.open_;exact⟨A,n,c,rfl,hn,a0,o1,o2,o3⟩
theorem RdE.kidsRd{e:E}{v0 v1 v2 v3:Value}(h:RdE M w e [v0,v1,v2,v3]):V9c M w v3 e.kids:=by
 obtain⟨A,n,c,he,_,_,_,hn,hc,hm,a0,b0⟩:=h.open_;simp only[List.cons.injEq,and_true] at he;obtain⟨rfl,rfl,rfl,rfl⟩:=he;refine⟨A,n,c,rfl,hn,hc,hm,a0,fun h0=>?_⟩;obtain⟨b,o,hA,hb,hk⟩:=b0 h0;refine⟨b,o,hA,hb,fun i x hx=>?_⟩;obtain⟨d0,rfl⟩:=List.getElem?_eq_some_iff.1 hx;obtain⟨cs,h1,h2⟩:=hk i d0;exact⟨cs,h2.length,h1,h2⟩
theorem U0a.open_{a:L1a}{cs:List Value}(h:U0a M w cs a):∃A n c,cs=[.int .i64 a.cell,.int .i64 a.to.op,.int .i64 a.to.w,.int .i64 a.to.n,.slice A n c]∧i64 a.cell∧RdE M w a.to [.int .i64 a.to.op,.int .i64 a.to.w,.int .i64 a.to.n,.slice A n c]:=by
 obtain⟨_,rfl,h1,h2⟩:=h;obtain⟨A,n,c,rfl,_⟩:=h2.cells;exact⟨A,n,c,rfl,h1,h2⟩
theorem q2a.open_{s:y1a}{cs:List Value}(h:q2a M w cs s):∃Ag ng cg As ns a0,cs=[.int .i64 s.kind,.int .i64 s.frm,.int .i64 s.to,.int .i64 s.guard.op,.int .i64 s.guard.w,.int .i64 s.guard.n,.slice Ag ng cg,.slice As ns a0,.bool s.release,.int .i64 s.target,.int .i64 s.module_] ∧
 (i64 s.kind∧i64 s.frm∧i64 s.to∧i64 s.target∧i64 s.module_)∧RdE M w s.guard [.int .i64 s.guard.op,.int .i64 s.guard.w,.int .i64 s.guard.n,.slice Ag ng cg]∧k5c M w (.slice As ns a0) s.set∧ns=s.set.length∧ns≤140737488355328:=by
 obtain⟨_,_,_,_,_,rfl,h1,h2,h3,h4,h5,h6,h7⟩:=h;obtain⟨_,n,_,he,_⟩:=h6.cells;simp only[List.cons.injEq,and_true] at he;obtain⟨rfl,rfl,rfl,rfl⟩:=he;obtain⟨As,ns,a0,rfl⟩:=h7.form;exact⟨_,_,_,_,_,_,rfl,⟨h1,h2,h3,h4,h5⟩,h6,h7,h7.len.1,h7.len.2.2⟩
theorem E5a.open_{l:c6b}{cs:List Value}(h:E5a M w cs l):∃Ab nb cb Ag ng cg,cs=[.int .i64 l.head,.slice Ab nb cb,.int .i64 l.variant.op,.int .i64 l.variant.w,.int .i64 l.variant.n,.slice Ag ng cg]∧i64 l.head∧RdI M w (.slice Ab nb cb) l.body ∧
 RdE M w l.variant [.int .i64 l.variant.op,.int .i64 l.variant.w,.int .i64 l.variant.n,.slice Ag ng cg]∧nb=l.body.length∧nb≤140737488355328:=by
 obtain⟨_,_,_,_,_,rfl,h1,h2,h3⟩:=h;obtain⟨_,n,_,he,_⟩:=h3.cells;simp only[List.cons.injEq,and_true] at he;obtain⟨rfl,rfl,rfl,rfl⟩:=he;obtain⟨Ab,nb,cb,rfl⟩:=h2.form;exact⟨_,_,_,_,_,_,rfl,h1,h2,h3,h2.len.1,h2.len.2.2⟩
theorem N0a.open_{t:X0a}{cs:List Value}(h:N0a M w cs t):∃Aa na ca Am nm cm As ns a0 Al nl cl,cs=[.string t.name,.int .i64 t.points,.slice Aa na ca,.slice Am nm cm,.slice As ns a0,.slice Al nl cl,.bool t.asleep]∧i64 t.points ∧
 V9c M w (.slice Aa na ca) t.asserts∧RdI M w (.slice Am nm cm) t.modules∧E0d M w (.slice As ns a0) t.steps∧w1d M w (.slice Al nl cl) t.loops ∧
 na=t.asserts.length∧nm=t.modules.length∧ns=t.steps.length∧nl=t.loops.length∧na≤140737488355328∧nm≤140737488355328∧ns≤140737488355328∧nl≤140737488355328:=by
 obtain⟨_,_,_,_,rfl,h0,h1,h2,h3,h4⟩:=h;obtain⟨Aa,na,ca,rfl⟩:=h1.form;obtain⟨Am,nm,cm,rfl⟩:=h2.form;obtain⟨As,ns,a0,rfl⟩:=h3.form;obtain⟨Al,nl,cl,rfl⟩:=h4.form;exact⟨_,_,_,_,_,_,_,_,_,_,_,_,rfl,h0,h1,h2,h3,h4,h1.len.1,h2.len.1,h3.len.1,h4.len.1,h1.len.2.2,h2.len.2.2,h3.len.2.2,h4.len.2.2⟩
theorem C1a.open_{c:v4a}{cs:List Value}(h:C1a M w cs c):∃Ar nr cr Ag ng cg Af nf cf,cs=[.string c.name,.string c.owner,.int .i64 c.rely.op,.int .i64 c.rely.w,.int .i64 c.rely.n,.slice Ar nr cr,.int .i64 c.guar.op,.int .i64 c.guar.w,.int .i64 c.guar.n,.slice Ag ng cg,.slice Af nf cf] ∧
 RdE M w c.rely [.int .i64 c.rely.op,.int .i64 c.rely.w,.int .i64 c.rely.n,.slice Ar nr cr]∧RdE M w c.guar [.int .i64 c.guar.op,.int .i64 c.guar.w,.int .i64 c.guar.n,.slice Ag ng cg]∧RdI M w (.slice Af nf cf) c.frame∧nf=c.frame.length∧nf≤140737488355328:=by
 obtain⟨_,_,_,_,_,_,_,_,_,rfl,h1,h2,h3⟩:=h;obtain⟨_,n,_,he,_⟩:=h1.cells;simp only[List.cons.injEq,and_true] at he;obtain⟨rfl,rfl,rfl,rfl⟩:=he;obtain⟨_,_,_,he,_⟩:=h2.cells;simp only[List.cons.injEq,and_true] at he;obtain⟨rfl,rfl,rfl,rfl⟩:=he;obtain⟨Af,nf,cf,rfl⟩:=h3.form;exact⟨_,_,_,_,_,_,_,_,_,rfl,h1,h2,h3,h3.len.1,h3.len.2.2⟩
theorem w5a.open_{l:B5b}{cs:List Value}(h:w5a M w cs l):∃Ag ng cg,cs=[.int .i64 l.cell,.int .i64 l.inv.op,.int .i64 l.inv.w,.int .i64 l.inv.n,.slice Ag ng cg,.int .i64 l.module_]∧i64 l.cell∧i64 l.module_∧RdE M w l.inv [.int .i64 l.inv.op,.int .i64 l.inv.w,.int .i64 l.inv.n,.slice Ag ng cg]:=by
 obtain⟨_,_,_,_,rfl,h1,h2,h3⟩:=h;obtain⟨_,n,_,he,_⟩:=h3.cells;simp only[List.cons.injEq,and_true] at he;obtain⟨rfl,rfl,rfl,rfl⟩:=he;exact⟨_,_,_,rfl,h1,h2,h3⟩
theorem F2a.open_{c:w2a}{cs:List Value}(h:F2a cs c):cs=[.string c.name,.int .i64 c.w,.int .i64 c.init,.int .i64 c.thread,.bool c.ghost,.int .i64 c.module_]∧i64 c.w∧i64 c.init∧i64 c.thread∧i64 c.module_:=h
end
section
variable {cells:List w2a} {x:Int} {c:w2a}
theorem i1a(h:cells[x.toNat]?=some c):I1a cells x=c.thread:=by unfold I1a;rw[List.getD_eq_getElem?_getD,h];rfl
theorem G2a(h:cells[x.toNat]?=some c):E1b cells x=c.ghost:=by unfold E1b;rw[List.getD_eq_getElem?_getD,h];rfl
theorem i5a(h0:0≤x)(h:cells[x.toNat]?=some c):wAt cells x=c.w:=by unfold wAt;rw[if_pos h0,h];rfl
end
theorem v2b{l:List Int}{k k0:Nat}{x y:Int}(hy:l[k]?=some y)(hp:d6a (l.take k))(h0:k0+1=k)(hx:l[k0]?=some x)(a0:x<y):d6a (l.take (k+1)):=by
 subst h0;unfold d6a at *;rw[H0a hy,List.pairwise_append];refine⟨hp,by simp,fun a ha b hb=>?_⟩;rw[List.mem_singleton.1 hb];rw[H0a hx] at hp ha;rcases List.mem_append.1 ha with h|h
 ·have:=(List.pairwise_append.1 hp).2.2 a h x (by simp);omega
 ·rw[List.mem_singleton.1 h];exact a0
theorem D1c{l:List Int}{i j:Nat}{x y:Int}(h:d6a l)(hx:l[i]?=some x)(hy:l[j]?=some y)(a0:i<j):x<y:=by
 obtain⟨h1,rfl⟩:=List.getElem?_eq_some_iff.1 hx;obtain⟨h2,rfl⟩:=List.getElem?_eq_some_iff.1 hy;exact(List.pairwise_iff_getElem.1 h) i j h1 h2 a0
theorem Q0c(e:E)(op:Int):(e.sup op).length≤32:=by
 unfold E.sup
 split
 ·unfold G5a;have h1:=L2a (e.mark op (List.replicate 32 false)) (e.mark op (List.replicate 32 false)).length;rw[E.mark_len] at h1 ⊢;simpa using h1
 ·simp
theorem e1b{cells:List w2a}{a0:Bool}{e:E}(h:e.valid cells a0=true)(ho:e.op=2):0≤e.n∧e.n<cells.length:=by
 obtain⟨_,h2,h3⟩:=S5a h;have:=D6a (.inl rfl) e 40 h2 h3 e.n (by rw[E.occ_def];simp[ho]);omega
theorem E.ext{a b:E}(h1:a.op=b.op)(h2:a.w=b.w)(h3:a.n=b.n)(h4:a.kids=b.kids):a=b:=by
 cases a;cases b;simp only at h1 h2 h3 h4;subst h1 h2 h3 h4;rfl
structure y2b (p:f0a):Prop where
 cells:∀c∈p.cells,c.name.size≤140737488355328
 mods:∀m∈p.modules,m.name.size≤140737488355328∧m.owner.size≤140737488355328
 threads:∀t∈p.threads,t.name.size≤140737488355328
theorem i6a{α:Type}{R:α→α→Prop}{l:List α}(h:l.Pairwise R){i j:Nat}{x y:α}(hx:l[i]?=some x)(hy:l[j]?=some y)(a0:i<j):R x y:=by
 obtain⟨h1,rfl⟩:=List.getElem?_eq_some_iff.1 hx;obtain⟨h2,rfl⟩:=List.getElem?_eq_some_iff.1 hy;exact List.pairwise_iff_getElem.1 h i j h1 h2 a0
theorem n7a(i n:Int)(w0:World):M0a Tryz.prog 103 #[.int .i64 i,.int .i64 n] w0 fun v w'=>v=.bool (decide (0≤i∧i<n))∧Below w0.heap.size w0 w':=by
 have S:=St.refl w0;refine a0a Tryz.func103 rfl Tryz.ntmps103 rfl ?_;refine wB0 rfl ⟨⟩ (fun h6=>?_) fun h6=>?_
 ·refine lB0 rfl ⟨⟩ (fun a0=>?_) fun a0=>?_
  ·refine lT rfl ⟨⟩ rfl ?_;exact⟨congrArg Value.bool (by(rw[decide_eq_true];omega)),S.fin⟩
  refine lT rfl ⟨⟩ rfl ?_;exact⟨congrArg Value.bool (by(rw[decide_eq_false];omega)),S.fin⟩
 refine lT rfl ⟨⟩ rfl ?_;exact⟨congrArg Value.bool (by(rw[decide_eq_false];omega)),S.fin⟩
theorem J9a(s:ByteArray)(w0:World)(g0:s.size≤140737488355328):M0a Tryz.prog 101 #[.string s] w0 fun v w'=>v=.bool (dec (t7a s))∧Below w0.heap.size w0 w':=by
 have S:=St.refl w0;refine a0a Tryz.func101 rfl Tryz.ntmps101 rfl ?_;refine wC0 rfl ⟨⟩ (wL (fun μ D ε w=>D=[]∧∃k:Nat,(k+μ=s.size)∧(∀(j:Nat) (h:j<s.size),j<k→33≤(s[j]).toNat∧(s[j]).toNat≤126)∧St [] w0 w []∧ε 0=.string s∧ε 3=.int .i64 k) (μ:=s.size) ⟨rfl,0,by omega,fun j _ h=>absurd h (by omega),S,rfl,rfl⟩ ?_);rintro μ D ε w ⟨rfl,k,_,hl,S,e0,e3⟩;refine r0a 0 e0 (r0a 3 e3 ?_);clear e0 e3;refine wO0 rfl ⟨⟩ (t1b Tryz.underlying9 rfl rfl ?_);refine lB0 rfl ⟨⟩ (fun h7=>?_) fun h7=>?_
 ·refine lO0 rfl ⟨⟩ (C9a Tryz.underlying9 rfl rfl (by omega) (by omega) rfl ?_);refine lB0 rfl ⟨⟩ (fun a0=>?_) fun a0=>?_
  ·refine lT rfl ⟨⟩ rfl ?_;refine⟨p1a (fun h=>?_),S.fin⟩;have h3:=h.2.2 k (by omega);simp only[Int.toNat_natCast] at a0;omega
  refine lO0 rfl ⟨⟩ (C9a Tryz.underlying9 rfl rfl (by omega) (by omega) rfl ?_);refine lB0 rfl ⟨⟩ (fun b0=>?_) fun b0=>?_
  ·refine lT rfl ⟨⟩ rfl ?_;refine⟨p1a (fun h=>?_),S.fin⟩;have h3:=h.2.2 k (by omega);simp only[Int.toNat_natCast] at b0;omega
  refine lP0 rfl ⟨by omega,⟨⟩⟩ ⟨μ-1,by omega,rfl,k+1,by omega,fun j hj h=>?_,S,rfl,rfl⟩;by_cases h0:j=k
  ·subst h0;simp only[Int.toNat_natCast] at a0 b0;omega
  ·exact hl j hj (by omega)
 refine lO0 rfl ⟨⟩ (t1b Tryz.underlying9 rfl rfl ?_);refine lB0 rfl ⟨⟩ (fun d0=>?_) fun d0=>?_
 ·refine lO0 rfl ⟨⟩ (t1b Tryz.underlying9 rfl rfl ?_);refine lB0 rfl ⟨⟩ (fun f0=>?_) fun f0=>?_
  ·exact lT rfl ⟨⟩ rfl ⟨Z3a ⟨by omega,by omega,fun j h=>hl j h (by omega)⟩,S.fin⟩
  refine lT rfl ⟨⟩ rfl ?_;refine⟨p1a (fun h=>?_),S.fin⟩;have h3:=h.1;have h4:=h.2.1;omega
 refine lT rfl ⟨⟩ rfl ?_;refine⟨p1a (fun h=>?_),S.fin⟩;have h3:=h.1;have h4:=h.2.1;omega
theorem n4b(M:List Nat)(w0:World)(v:Value)(l:List Int)(hR:RdI M w0 v l):M0a Tryz.prog 106 #[v] w0 fun v w'=>v=.bool (dec (d6a l))∧Below w0.heap.size w0 w':=by
 obtain⟨A,n,c,rfl⟩:=hR.form;obtain⟨_,_,_⟩:=hR.len;have S:=St.refl w0;refine a0a Tryz.func106 rfl Tryz.ntmps106 rfl ?_;refine wC0 rfl ⟨⟩ ?_;refine wL (fun μk D ε w=>D=[]∧∃k:Nat,(k+μk=max (l.length) 1)∧(1≤k)∧(d6a (l.take k))∧St [] w0 w []∧Sl ε [(0,.slice A n c),(3,.int .i64 k)]) (μ:=(max (l.length) 1-1)) ⟨rfl,1,by omega,by omega,(by cases l<;>simp[d6a]),S,rfl⟩ ?_;rintro μk D ε w ⟨rfl,k,_,_,hp,S,eZ⟩;refine wK eZ (wB0 rfl ⟨⟩ (fun h7=>?_) fun h7=>?_)
 ·refine lC0 rfl ⟨⟩ (v0a b0a [0,1,2,3,4,5,6,7,8,9] [] [] (by kernel_rfl) rfl (Cl _ _ _ _) (Cl.start S) ?_);obtain⟨x,o0,s0,_,i0,d0,_,_,a0,g0⟩:=RdS.get (hR) (k-1) (by omega);obtain⟨rfl,_⟩:=id g0;have q0:((k:Int)-1).toNat=k-1:=by omega
  rw[←q0] at a0;obtain⟨_,p0,t0,_,j0,e0,_,_,f0,h0⟩:=RdS.get (hR) (k) (by omega);obtain⟨rfl,_⟩:=id h0;refine qB ((S.q.a f0).a a0) [.x o0 s0,.f 0 0,.x p0 t0,.f 1 0] rfl ⟨rfl,⟨e0,by omega⟩,rfl,⟨d0,by omega⟩,by omega,⟨⟩⟩ (fun r0=>?_) fun r0=>?_
  ·refine qD rfl ⟨⟩ ?_;rintro u0 ⟨b0,n0⟩;refine lT rfl ⟨⟩ rfl ?_;refine⟨p1a (fun h=>?_),b0.fin⟩;have:=i6a h i0 j0 (by omega);omega
  refine qD rfl ⟨⟩ ?_;rintro u0 ⟨b0,n0⟩;refine lP0 rfl ⟨by omega,⟨⟩⟩ ⟨μk-1,by omega,rfl,(k+1),(by omega),(by omega),?_,b0,rfl⟩;refine(v2b j0 hp (k0:=k-1) (by omega) i0 (by omega))
 exact lT rfl ⟨⟩ rfl ⟨Z3a ((List.take_of_length_le (show l.length≤k by omega))▸hp),S.fin⟩
theorem q5b(e:E)(M:List Nat)(w0:World)(cs:List Value)(hR:RdE M w0 e cs):M0a Tryz.prog 104 #[.agg cs.toArray] w0 fun v w'=>v=.bool (dec e.absent)∧Below w0.heap.size w0 w':=by
 obtain⟨_,_,_,rfl,hn,_,_,_,_⟩:=hR.cells;have S:=St.refl w0;refine a0a Tryz.func104 rfl Tryz.ntmps104 rfl ?_;refine wO0 rfl ⟨⟩ (h0a S (by conv=>lhs;whnf) rfl ?_);intro g1 w1 S1 X1 G1;refine lB S1.k [.o 0] rfl ⟨rfl,⟨⟩⟩ (fun h5=>?_) fun h5=>?_
 ·refine lB S1.k [.o 0] rfl ⟨rfl,⟨⟩⟩ (fun h9=>?_) fun h9=>?_
  ·refine lB S1.k [.o 0] rfl ⟨rfl,⟨⟩⟩ (fun a0=>?_) fun a0=>?_
   ·refine lB S1.k [.o 0] rfl ⟨rfl,⟨⟩⟩ (fun b0=>?_) fun b0=>?_
    ·exact lT rfl ⟨⟩ rfl ⟨Z3a ⟨by omega,by omega,by omega,List.length_eq_zero_iff.1 (by omega)⟩,S1.fin⟩
    refine lT rfl ⟨⟩ rfl ?_;refine⟨p1a (fun h=>?_),S1.fin⟩;obtain⟨a1,a2,a3,a4⟩:=h;rw[a4] at hn;simp at hn;omega
   refine lT rfl ⟨⟩ rfl ?_;refine⟨p1a (fun h=>?_),S1.fin⟩;obtain⟨a1,a2,a3,a4⟩:=h;rw[a4] at hn;simp at hn;omega
  refine lT rfl ⟨⟩ rfl ?_;refine⟨p1a (fun h=>?_),S1.fin⟩;obtain⟨a1,a2,a3,a4⟩:=h;rw[a4] at hn;simp at hn;omega
 refine lT rfl ⟨⟩ rfl ?_;refine⟨p1a (fun h=>?_),S1.fin⟩;obtain⟨a1,a2,a3,a4⟩:=h;rw[a4] at hn;simp at hn;omega
theorem c7b(p:f0a)(M:List Nat)(w0:World)(cs:List Value)(c t:Int)(hP:q1a M w0 p cs)(h0:0≤c)(h1:c<p.cells.length):
 M0a Tryz.prog 172 #[.agg cs.toArray,.int .i64 c,.int .i64 t] w0 fun v w'=>v=.bool (decide (I1a p.cells c=t))∧Below w0.heap.size w0 w':=by
 obtain⟨_,_,_,_,_,_,_,_,_,_,_,_,rfl,hC,_,_,_,_,_,_,_,_,_,_,_⟩:=hP.open_;have S:=St.refl w0;refine a0a Tryz.func172 rfl Tryz.ntmps172 rfl ?_;refine wO0 rfl ⟨⟩ (h0a S (by conv=>lhs;whnf) rfl ?_);intro g3 w3 S3 X3 G3;obtain⟨x,f0,i0,_,e0,a0,_,_,b0,d0⟩:=RdS.get (hC) (c.toNat) (by omega);obtain⟨rfl,_,_,_,_⟩:=F2a.open_ d0;refine lB (S3.k.a b0) [.o 0,.x f0 i0,.f 0 3] rfl ⟨rfl,⟨a0,by omega⟩,rfl,⟨⟩⟩ (fun g0=>?_) fun g0=>?_
 ·refine lR0 rfl ⟨⟩ (o0a rfl (by conv=>lhs;whnf) ?_);exact⟨by rw[decide_eq_true (by rw[i1a e0];omega)],S3.fin⟩
 refine lR0 rfl ⟨⟩ (o0a rfl (by conv=>lhs;whnf) ?_);exact⟨by rw[decide_eq_false (by rw[i1a e0];omega)],S3.fin⟩
theorem m0b(p:f0a)(M:List Nat)(w0:World)(cs:List Value)(c:Int)(hP:q1a M w0 p cs)(h0:0≤c)(h1:c<p.cells.length):
 M0a Tryz.prog 173 #[.agg cs.toArray,.int .i64 c] w0 fun v w'=>v=.bool (decide (I1a p.cells c=-1))∧Below w0.heap.size w0 w':=by
 obtain⟨_,_,_,_,_,_,_,_,_,_,_,_,rfl,hC,_,_,_,_,_,_,_,_,_,_,_⟩:=hP.open_;have S:=St.refl w0;refine a0a Tryz.func173 rfl Tryz.ntmps173 rfl ?_;refine wO0 rfl ⟨⟩ (h0a S (by conv=>lhs;whnf) rfl ?_);intro g2 w2 S2 X2 G2;obtain⟨x,b8,p8,_,a0,d0,_,_,e0,f0⟩:=RdS.get (hC) (c.toNat) (by omega);obtain⟨rfl,_,_,_,_⟩:=F2a.open_ f0;refine lB (S2.k.a e0) [.o 0,.x b8 p8,.f 0 3] rfl ⟨rfl,⟨d0,by omega⟩,rfl,⟨⟩⟩ (fun b0=>?_) fun b0=>?_
 ·refine lR0 rfl ⟨⟩ (o0a rfl (by conv=>lhs;whnf) ?_);exact⟨by rw[decide_eq_true (by rw[i1a a0];omega)],S2.fin⟩
 refine lR0 rfl ⟨⟩ (o0a rfl (by conv=>lhs;whnf) ?_);exact⟨by rw[decide_eq_false (by rw[i1a a0];omega)],S2.fin⟩
theorem B6a(p:f0a)(e:E)(M:List Nat)(w0:World)(cs es:List Value)(sh W0:Bool)(t:Int)(hP:q1a M w0 p cs)(hR:RdE M w0 e es)(hM:∀g∈M,g<w0.heap.size)(hv:e.valid p.cells W0=true):
 M0a Tryz.prog 109 #[.agg cs.toArray,.agg es.toArray,.bool sh,.int .i64 t] w0 fun v w'=>v=.bool (dec (s5a p.cells e sh t))∧Below w0.heap.size w0 w':=by
 obtain⟨Ac,nc,cc,Am,nm,cm,Al,nl,cl,At,nt,ct,rfl,hC,_,_,_,_,_,_,_,_,_,_,_⟩:=hP.open_;obtain⟨Ae,ne,ce,rfl,_,_,_,_,_⟩:=hR.cells;obtain⟨d1,a1,b1⟩:=S5a hv;have p0:∀x∈e.sup 3++e.sup 2,0≤x∧x<p.cells.length:=fun x hx=>by
  rcases List.mem_append.1 hx with hx|hx
  ·have h1:=(N2b d1 (.inr rfl) x).1 hx;have h2:=D6a (.inr rfl) e 40 a1 b1 x h1.2.2;omega
  ·have h1:=(N2b d1 (.inl rfl) x).1 hx;have h2:=D6a (.inl rfl) e 40 a1 b1 x h1.2.2;omega
 have y1:(e.sup 3).length≤32:=Q0c e 3;have x1:(e.sup 2).length≤32:=Q0c e 2;have S:=St.refl w0;cases sh
 ·refine a0a Tryz.func109 rfl Tryz.ntmps109 rfl ?_;refine wO0 rfl ⟨⟩ (h0a S (by conv=>lhs;whnf) rfl ?_);intro g4 w4 S4 X4 G4;refine h0a S4 (by conv=>lhs;whnf) rfl ?_;intro g5 w5 S5 X5 G5;refine lO S5.k [.w 0] rfl ⟨⟨rfl,rfl⟩,⟨⟩⟩ ?_;refine x0a S5 s1c rfl rfl (d9a e M _ _ (RdE.keep (S5.keep0 M) _ _ hR) (fun g hg=>by have:=hM g hg;have:=S5.size;omega)) ?_;rintro p1 s1 ⟨va,vb,rfl,ra,rb⟩ C0 g1;obtain⟨Aa,na,ca,rfl⟩:=ra.form;obtain⟨Ab,nb,cb,rfl⟩:=rb.form;refine lO0 rfl ⟨⟩ (O2b C0 O0a rfl ?_);intro u0 t1 D0 t0 q0;have X0:=(RdS.more ra (by omega) (M':=[u0]) (fun g hg=>by simp at hg;subst hg;exact .inr q0)).keep t0.of_nil;have Y0:=(RdS.more rb (by omega) (M':=[u0]) (fun g hg=>by simp at hg;subst hg;exact .inr q0)).keep t0.of_nil;refine lO0 rfl ⟨⟩ ?_;refine o6a (k:=0) (xs:=[]) D0 O0a rfl d3a.new rfl rfl X0 (by simp;omega) (by omega) rfl ?_;intro q1 f1 I0 u1 E0 r0 F0;have Z0:=Y0.keep F0;simp only[List.nil_append] at r0;refine lO0 rfl ⟨⟩ (o6a (k:=0) E0 O0a rfl r0 rfl rfl Z0 (by omega) (by omega) rfl ?_);intro r1 A0 g0 v1 s0 B0 i1;have rl:=B0.rdI (k:=0) (M:=M) s0 rfl hM (fun x hx=>by have:=p0 x hx;unfold i64;omega) (by simp;omega);obtain⟨l,el⟩:∃l,l=e.sup 3++e.sup 2:=⟨_,rfl⟩;rw[←el] at rl p0;obtain⟨Ax,nx,cx,rfl⟩:=rl.form;obtain⟨o1,-,n1⟩:=rl.len;refine lC0 rfl ⟨⟩ (wL (fun μk D ε w=>D=[]∧∃k:Nat,(k+μk=(l.length))∧(RdI M w (.slice Ax nx cx) l)∧(o1a (l) k (fun x=>(I1a p.cells x=-1→false=true)∧(0≤I1a p.cells x→I1a p.cells x=t)))∧St [] w0 w [(A0,3,g0),(some g5,68,[.int .i64 e.op,.int .i64 e.w,.int .i64 e.n,.slice Ae ne ce]),(some g4,27,[.slice Ac nc cc,.slice Am nm cm,.slice Al nl cl,.slice At nt ct])]∧Sl ε [(2,.bool false),(3,.int .i64 t),(4,.pointer (some ⟨g4,0,none⟩)),(11,.slice Ax nx cx),(12,.int .i64 k)]) (μ:=(l.length)) ⟨rfl,0,by omega,rl,o1a.zero,s0,rfl⟩ ?_);rintro μk D ε w ⟨rfl,k,hk,rl,hs,S,eZ⟩;refine wK eZ (wB0 rfl ⟨⟩ (fun J0=>?_) fun J0=>?_)
  ·refine lC0 rfl ⟨⟩ (v0a b0a [0,1,2,3,4,5,6,7,8,9] [] [] (by kernel_rfl) rfl (Cl _ _ _ _) (Cl.start S) ?_);obtain⟨y,G0,U0,j1,b0,h0,x0,N0,e0,n0⟩:=RdS.get (rl) (k) (by omega);obtain⟨rfl,P0⟩:=id n0;have L0:=p0 y (c0a b0);obtain⟨x,H0,V0,m1,a0,i0,K0,O0,j0,o0⟩:=RdS.get (hC) (y.toNat) (by omega);obtain⟨rfl,Q0,R0,S0,T0⟩:=F2a.open_ o0;refine qN ((S.q.a j0).b e0) [.o 2,.x G0 U0,.f 0 0,.x H0 V0,.f 1 3] rfl ⟨rfl,⟨i0,by omega⟩,rfl,⟨h0,by omega⟩,rfl,⟨⟩⟩ (V3a ?_);refine R1a ?_;rintro w1 ⟨d0,y0⟩;replace e0:=e0.keep (y0.of_nil) x0;replace rl:=rl.keep (y0.of_nil);refine lB0 rfl ⟨⟩ (fun z0=>?_) fun z0=>?_
   ·refine lR0 rfl ⟨⟩ (o0a rfl (by conv=>lhs;whnf) ?_);rw[s5a,←el];refine⟨p1a (fun h=>?_),d0.nil.fin⟩;have h1:=h y (c0a b0);rw[i1a a0] at h1;have h2:=h1.1 z0;cases h2;done
   refine lB0 rfl ⟨⟩ (fun f0=>?_) fun f0=>?_
   ·refine lB0 rfl ⟨⟩ (fun v0=>?_) fun v0=>?_
    ·refine lR0 rfl ⟨⟩ (o0a rfl (by conv=>lhs;whnf) ?_);rw[s5a,←el];refine⟨p1a (fun h=>?_),d0.nil.fin⟩;have h1:=h y (c0a b0);rw[i1a a0] at h1;have h2:=h1.2 f0;omega
    refine lP0 rfl ⟨by omega,⟨⟩⟩ ⟨μk-1,by omega,rfl,(k+1),(by omega),(rl),?_,d0,rfl⟩;exact hs.succ b0 ⟨fun h=>by rw[i1a a0] at h;omega,fun h=>by rw[i1a a0] at h ⊢;omega⟩
   refine lP0 rfl ⟨by omega,⟨⟩⟩ ⟨μk-1,by omega,rfl,(k+1),(by omega),(rl),?_,d0,rfl⟩;exact hs.succ b0 ⟨fun h=>by rw[i1a a0] at h;omega,fun h=>by rw[i1a a0] at h ⊢;omega⟩
  refine lR0 rfl ⟨⟩ (o0a rfl (by conv=>lhs;whnf) ?_);rw[s5a,←el];exact⟨Z3a (hs.all (by omega)),S.nil.fin⟩
 ·refine a0a Tryz.func109 rfl Tryz.ntmps109 rfl ?_;refine wO0 rfl ⟨⟩ (h0a S (by conv=>lhs;whnf) rfl ?_);intro g4 w4 S4 X4 G4;refine h0a S4 (by conv=>lhs;whnf) rfl ?_;intro g5 w5 S5 X5 G5;refine lO S5.k [.w 0] rfl ⟨⟨rfl,rfl⟩,⟨⟩⟩ ?_;refine x0a S5 s1c rfl rfl (d9a e M _ _ (RdE.keep (S5.keep0 M) _ _ hR) (fun g hg=>by have:=hM g hg;have:=S5.size;omega)) ?_;rintro p1 s1 ⟨va,vb,rfl,ra,rb⟩ C0 g1;obtain⟨Aa,na,ca,rfl⟩:=ra.form;obtain⟨Ab,nb,cb,rfl⟩:=rb.form;refine lO0 rfl ⟨⟩ (O2b C0 O0a rfl ?_);intro u0 t1 D0 t0 q0;have X0:=(RdS.more ra (by omega) (M':=[u0]) (fun g hg=>by simp at hg;subst hg;exact .inr q0)).keep t0.of_nil;have Y0:=(RdS.more rb (by omega) (M':=[u0]) (fun g hg=>by simp at hg;subst hg;exact .inr q0)).keep t0.of_nil;refine lO0 rfl ⟨⟩ ?_;refine o6a (k:=0) (xs:=[]) D0 O0a rfl d3a.new rfl rfl X0 (by simp;omega) (by omega) rfl ?_;intro q1 f1 I0 u1 E0 r0 F0;have Z0:=Y0.keep F0;simp only[List.nil_append] at r0;refine lO0 rfl ⟨⟩ (o6a (k:=0) E0 O0a rfl r0 rfl rfl Z0 (by omega) (by omega) rfl ?_);intro r1 A0 g0 v1 s0 B0 i1;have rl:=B0.rdI (k:=0) (M:=M) s0 rfl hM (fun x hx=>by have:=p0 x hx;unfold i64;omega) (by simp;omega);obtain⟨l,el⟩:∃l,l=e.sup 3++e.sup 2:=⟨_,rfl⟩;rw[←el] at rl p0;obtain⟨Ax,nx,cx,rfl⟩:=rl.form;obtain⟨o1,-,n1⟩:=rl.len;refine lC0 rfl ⟨⟩ (wL (fun μk D ε w=>D=[]∧∃k:Nat,(k+μk=(l.length))∧(RdI M w (.slice Ax nx cx) l)∧(o1a (l) k (fun x=>(I1a p.cells x=-1→true=true)∧(0≤I1a p.cells x→I1a p.cells x=t)))∧St [] w0 w [(A0,3,g0),(some g5,68,[.int .i64 e.op,.int .i64 e.w,.int .i64 e.n,.slice Ae ne ce]),(some g4,27,[.slice Ac nc cc,.slice Am nm cm,.slice Al nl cl,.slice At nt ct])]∧Sl ε [(2,.bool true),(3,.int .i64 t),(4,.pointer (some ⟨g4,0,none⟩)),(11,.slice Ax nx cx),(12,.int .i64 k)]) (μ:=(l.length)) ⟨rfl,0,by omega,rl,o1a.zero,s0,rfl⟩ ?_);rintro μk D ε w ⟨rfl,k,hk,rl,hs,S,eZ⟩;refine wK eZ (wB0 rfl ⟨⟩ (fun J0=>?_) fun J0=>?_)
  ·refine lC0 rfl ⟨⟩ (v0a b0a [0,1,2,3,4,5,6,7,8,9] [] [] (by kernel_rfl) rfl (Cl _ _ _ _) (Cl.start S) ?_);obtain⟨y,G0,U0,j1,b0,h0,x0,N0,e0,n0⟩:=RdS.get (rl) (k) (by omega);obtain⟨rfl,P0⟩:=id n0;have L0:=p0 y (c0a b0);obtain⟨x,H0,V0,m1,a0,i0,K0,O0,j0,o0⟩:=RdS.get (hC) (y.toNat) (by omega);obtain⟨rfl,Q0,R0,S0,T0⟩:=F2a.open_ o0;refine qN ((S.q.a j0).b e0) [.o 2,.x G0 U0,.f 0 0,.x H0 V0,.f 1 3] rfl ⟨rfl,⟨i0,by omega⟩,rfl,⟨h0,by omega⟩,rfl,⟨⟩⟩ (V3a ?_);refine R1a ?_;rintro w1 ⟨d0,y0⟩;replace rl:=rl.keep (y0.of_nil);refine lB0 rfl ⟨⟩ (fun z0=>?_) fun z0=>?_
   ·refine lB0 rfl ⟨⟩ (fun f0=>?_) fun f0=>?_
    ·refine lB0 rfl ⟨⟩ (fun v0=>?_) fun v0=>?_
     ·refine lR0 rfl ⟨⟩ (o0a rfl (by conv=>lhs;whnf) ?_);rw[s5a,←el];refine⟨p1a (fun h=>?_),d0.nil.fin⟩;have h1:=h y (c0a b0);rw[i1a a0] at h1;have h2:=h1.2 f0;omega
     refine lP0 rfl ⟨by omega,⟨⟩⟩ ⟨μk-1,by omega,rfl,(k+1),(by omega),(rl),?_,d0,rfl⟩;exact hs.succ b0 ⟨fun _=>rfl,fun h=>by rw[i1a a0] at h ⊢;omega⟩
    refine lP0 rfl ⟨by omega,⟨⟩⟩ ⟨μk-1,by omega,rfl,(k+1),(by omega),(rl),?_,d0,rfl⟩;exact hs.succ b0 ⟨fun _=>rfl,fun h=>by rw[i1a a0] at h ⊢;omega⟩
   refine lB0 rfl ⟨⟩ (fun f0=>?_) fun f0=>?_
   ·refine lB0 rfl ⟨⟩ (fun v0=>?_) fun v0=>?_
    ·refine lR0 rfl ⟨⟩ (o0a rfl (by conv=>lhs;whnf) ?_);rw[s5a,←el];refine⟨p1a (fun h=>?_),d0.nil.fin⟩;have h1:=h y (c0a b0);rw[i1a a0] at h1;have h2:=h1.2 f0;omega
    refine lP0 rfl ⟨by omega,⟨⟩⟩ ⟨μk-1,by omega,rfl,(k+1),(by omega),(rl),?_,d0,rfl⟩;exact hs.succ b0 ⟨fun _=>rfl,fun h=>by rw[i1a a0] at h ⊢;omega⟩
   refine lP0 rfl ⟨by omega,⟨⟩⟩ ⟨μk-1,by omega,rfl,(k+1),(by omega),(rl),?_,d0,rfl⟩;exact hs.succ b0 ⟨fun _=>rfl,fun h=>by rw[i1a a0] at h ⊢;omega⟩
  refine lR0 rfl ⟨⟩ (o0a rfl (by conv=>lhs;whnf) ?_);rw[s5a,←el];exact⟨Z3a (hs.all (by omega)),S.nil.fin⟩
theorem z5a(p:f0a)(e:E)(M:List Nat)(w0:World)(cs es:List Value)(b0:Bool)(t:Int)(hP:q1a M w0 p cs)(hR:RdE M w0 e es)(hM:∀g∈M,g<w0.heap.size):
 M0a Tryz.prog 105 #[.agg cs.toArray,.agg es.toArray,.bool b0,.int .i64 t] w0 fun v w'=>v=.bool (dec (Q7a p.cells e b0 t))∧Below w0.heap.size w0 w':=by
 obtain⟨_,_,_,_,_,_,_,_,_,_,_,_,rfl,hC,_,_,_,_,_,_,_,_,_,_,_⟩:=hP.open_;obtain⟨_,_,_,rfl,_,_,_,_,_⟩:=hR.cells;have S:=St.refl w0;refine a0a Tryz.func105 rfl Tryz.ntmps105 rfl ?_;refine wO0 rfl ⟨⟩ (h0a S (by conv=>lhs;whnf) rfl ?_);intro g4 w4 S4 X4 G4;refine h0a S4 (by conv=>lhs;whnf) rfl ?_;intro g5 w5 S5 X5 G5;refine lO S5.k [.w 0,.o 1] rfl ⟨rfl,⟨rfl,by rfl⟩,⟨⟩⟩ (C0a S5 U2b rfl rfl (M9a _ M _ _ _ p.cells b0 (RdE.keep (S5.keep0 M) _ _ hR) (hC.keep (S5.keep0 M))) (fun d0 j0 a0 g0=>?_) (fun d0 j0 a0 g0=>?_))
 ·refine lB a0.k [.o 0] rfl ⟨rfl,⟨⟩⟩ (fun i0=>?_) fun i0=>?_
  ·refine lO a0.k [.w 1,.w 0] rfl ⟨⟨rfl,by rfl⟩,⟨rfl,by rfl⟩,⟨⟩⟩ ?_;refine C0a a0 j0b rfl rfl (B6a p e M _ _ _ true b0 t (hP.keep (a0.keep0 M)) (RdE.keep (a0.keep0 M) _ _ hR) (fun g hg=>by have:=hM g hg;have:=a0.size;omega) d0) (fun f0 n0 e0 h0=>?_) (fun f0 n0 e0 h0=>?_)
   ·exact lT rfl ⟨⟩ rfl ⟨Z3a ⟨d0,by omega,o2a f0⟩,e0.fin⟩
   exact lT rfl ⟨⟩ rfl ⟨p1a (fun h=>P1a f0 h.2.2),e0.fin⟩
  refine lT rfl ⟨⟩ rfl ?_;exact⟨p1a (fun h=>by have:=h.2.1;omega),a0.fin⟩
 refine lT rfl ⟨⟩ rfl ?_;exact⟨p1a (fun h=>by rw[h.1] at d0;cases d0),a0.fin⟩
def E7c(p:f0a):Prop:=p.cells.length≤32∧p.modules.length≤6∧p.locks.length≤4∧p.threads.length≤4∧∀x∈p.threads,x.points≤48∧x.steps.length≤64∧x.loops.length≤8
theorem n6b(p:f0a)(M:List Nat)(w0:World)(cs:List Value)(hP:q1a M w0 p cs):
 M0a Tryz.prog 68 #[.agg cs.toArray] w0 fun v w'=>(∃a b,v=.tuple #[.int .i64 a,.int .i64 b]∧(a=0↔E7c p))∧Below w0.heap.size w0 w':=by
 obtain⟨Ac,nc,cc,Am,nm,cm,Al,nl,cl,At,nt,ct,rfl,_,_,_,t0,_,_,_,_,_,_,_,_⟩:=hP.open_;have S:=St.refl w0;refine a0a Tryz.func68 rfl Tryz.ntmps68 rfl ?_;refine wO0 rfl ⟨⟩ (h0a S (by conv=>lhs;whnf) rfl ?_);intro g1 w1 S1 X1 G1;refine lB S1.k [.o 0] rfl ⟨rfl,⟨⟩⟩ (fun h9=>?_) fun h9=>?_
 ·refine lT2 rfl ⟨⟩ rfl ?_;refine⟨⟨_,_,rfl,iff_of_false (by omega) (fun h=>?_)⟩,S1.fin⟩;have h1:=h.1;have h2:=h.2.1;have h3:=h.2.2.1;have h4:=h.2.2.2.1;omega
 refine lB S1.k [.o 0] rfl ⟨rfl,⟨⟩⟩ (fun j0=>?_) fun j0=>?_
 ·refine lT2 rfl ⟨⟩ rfl ?_;refine⟨⟨_,_,rfl,iff_of_false (by omega) (fun h=>?_)⟩,S1.fin⟩;have h1:=h.1;have h2:=h.2.1;have h3:=h.2.2.1;have h4:=h.2.2.2.1;omega
 refine lB S1.k [.o 0] rfl ⟨rfl,⟨⟩⟩ (fun n0=>?_) fun n0=>?_
 ·refine lT2 rfl ⟨⟩ rfl ?_;refine⟨⟨_,_,rfl,iff_of_false (by omega) (fun h=>?_)⟩,S1.fin⟩;have h1:=h.1;have h2:=h.2.1;have h3:=h.2.2.1;have h4:=h.2.2.2.1;omega
 refine lB S1.k [.o 0] rfl ⟨rfl,⟨⟩⟩ (fun o0=>?_) fun o0=>?_
 ·refine lT2 rfl ⟨⟩ rfl ?_;refine⟨⟨_,_,rfl,iff_of_false (by omega) (fun h=>?_)⟩,S1.fin⟩;have h1:=h.1;have h2:=h.2.1;have h3:=h.2.2.1;have h4:=h.2.2.2.1;omega
 refine lC0 rfl ⟨⟩ (wL (fun μk D ε w=>D=[]∧∃k:Nat,(k+μk=(p.threads.length))∧(o1a (p.threads) k (fun x=>x.points≤48∧x.steps.length≤64∧x.loops.length≤8))∧St [] w0 w [(some g1,27,[.slice Ac nc cc,.slice Am nm cm,.slice Al nl cl,.slice At nt ct])]∧Sl ε [(1,.pointer (some ⟨g1,0,none⟩)),(4,.int .i64 k)]) (μ:=(p.threads.length)) ⟨rfl,0,by omega,o1a.zero,S1,rfl⟩ ?_);rintro μk D ε w ⟨rfl,k,_,hs,S,eZ⟩;refine wK eZ (wB S.k [.o 0] rfl ⟨rfl,⟨⟩⟩ (fun p0=>?_) fun p0=>?_)
 ·obtain⟨x,i0,u0,_,b0,d0,_,f0,e0,g0⟩:=RdS.get (t0) (k) (by omega);obtain⟨_,_,_,_,_,_,_,_,_,_,_,_,rfl,_,_,_,_,_,_,_,_,_,_,_,_,_⟩:=N0a.open_ g0;refine lO (S.k.a e0) [.o 0,.x i0 u0,.v 0] rfl ⟨⟨rfl,f0⟩,⟨d0,by omega⟩,rfl,⟨⟩⟩ (m0a S F4b rfl rfl ?_);intro g5 w5 S5 X5 G5;refine e0a (kk:=0) (vs:=[_,_,_,_,_,_,_]) S5 O3b rfl rfl rfl rfl rfl rfl rfl ?_;intro v0 a0 h0;dsimp only[k0a,List.set] at a0;refine lB a0.k [.o 0] rfl ⟨rfl,⟨⟩⟩ (fun q0=>?_) fun q0=>?_
  ·refine lT2 rfl ⟨⟩ rfl ?_;refine⟨⟨_,_,rfl,iff_of_false (by omega) (fun h=>?_)⟩,a0.fin⟩;have h5:=h.2.2.2.2 x (c0a b0);omega
  refine lB a0.k [.o 0] rfl ⟨rfl,⟨⟩⟩ (fun r0=>?_) fun r0=>?_
  ·refine lT2 rfl ⟨⟩ rfl ?_;refine⟨⟨_,_,rfl,iff_of_false (by omega) (fun h=>?_)⟩,a0.fin⟩;have h5:=h.2.2.2.2 x (c0a b0);omega
  refine lB a0.k [.o 0] rfl ⟨rfl,⟨⟩⟩ (fun s0=>?_) fun s0=>?_
  ·refine lT2 rfl ⟨⟩ rfl ?_;refine⟨⟨_,_,rfl,iff_of_false (by omega) (fun h=>?_)⟩,a0.fin⟩;have h5:=h.2.2.2.2 x (c0a b0);omega
  refine lP0 rfl ⟨by omega,⟨⟩⟩ ⟨μk-1,by omega,rfl,(k+1),(by omega),(hs.succ b0 (⟨by omega,by omega,by omega⟩)),a0.tail,rfl⟩
 exact lT2 rfl ⟨⟩ rfl ⟨⟨_,_,rfl,iff_of_true (by omega) ⟨by omega,by omega,by omega,by omega,hs.all (by omega)⟩⟩,S.fin⟩
def y9b(p:f0a):Prop:=(∀c∈p.cells,P6b p c)∧p.cells.Pairwise (fun a b=>a.name≠b.name)
theorem K7b(p:f0a)(M:List Nat)(w0:World)(cs:List Value)(hP:q1a M w0 p cs)(hN:y2b p):
 M0a Tryz.prog 69 #[.agg cs.toArray] w0 fun v w'=>(∃a,v=.int .i64 a∧(a=0↔y9b p))∧Below w0.heap.size w0 w':=by
 obtain⟨Ac,nc,cc,Am,nm,cm,Al,nl,cl,At,nt,ct,rfl,hC,_,_,_,_,_,_,_,_,_,_,_⟩:=hP.open_;have S:=St.refl w0;refine a0a Tryz.func69 rfl Tryz.ntmps69 rfl ?_;refine wO0 rfl ⟨⟩ (h0a S (by conv=>lhs;whnf) rfl ?_);intro g1 w1 S1 X1 G1;refine lC0 rfl ⟨⟩ (wL (fun μk D ε w=>D=[]∧∃k:Nat,(k+μk=(p.cells.length))∧(o1a (p.cells) k (fun x=>P6b p x))∧(L3a p.cells k (fun a b=>a.name≠b.name))∧St [] w0 w [(some g1,27,[.slice Ac nc cc,.slice Am nm cm,.slice Al nl cl,.slice At nt ct])]∧Sl ε [(1,.pointer (some ⟨g1,0,none⟩)),(3,.int .i64 k)]) (μ:=(p.cells.length)) ⟨rfl,0,by omega,o1a.zero,L3a.zero,S1,rfl⟩ ?_);rintro μk D ε w ⟨rfl,k,_,hs,hp,S,eZ⟩;refine wK eZ (wB S.k [.o 0] rfl ⟨rfl,⟨⟩⟩ (fun B0=>?_) fun B0=>?_)
 ·obtain⟨x,z0,J0,_,d0,o0,_,s0,q0,t0⟩:=RdS.get (hC) (k) (by omega);obtain⟨rfl,_,_,_,_⟩:=F2a.open_ t0;refine lO (S.k.a q0) [.o 0,.x z0 J0,.v 0] rfl ⟨⟨rfl,s0⟩,⟨o0,by omega⟩,rfl,⟨⟩⟩ (m0a S p0c rfl rfl ?_);intro g4 w4 S4 X4 G4;refine e0a (kk:=0) (vs:=[_,_,_,_,_,_]) S4 f0c rfl rfl rfl rfl rfl rfl rfl ?_;intro L0 a0 y0;dsimp only[k0a,List.set] at a0;refine lC0 rfl ⟨⟩ (v0a b0a [0,1,2,3,4,5,6,7,8,9,10,11,12,13,14,15,16,17,18,19,20,21,22,23,24,25,26,27,28,29,30,31,32,33,34,35,36,37,38,39,40,41,42,43,44,45,46,47,48] [] [] (by kernel_rfl) rfl (Cl _ _ _ _) (Cl.start a0) ?_);refine qO a0.q [.o 0] rfl ⟨rfl,⟨⟩⟩ (Y1a D2b rfl rfl (fun w1 S1 X1=>J9a _ _ (hN.cells x (c0a d0))) (fun i0=>?_) fun i0=>?_)
  ·refine qB a0.q [.o 0] rfl ⟨rfl,⟨⟩⟩ (fun C0=>?_) fun C0=>?_
   ·refine qD rfl ⟨⟩ ?_;rintro f0 ⟨b0,e0⟩;refine lT rfl ⟨⟩ rfl ⟨⟨_,rfl,iff_of_false (by omega) (fun h=>?_)⟩,b0.fin⟩;have h1:=h.1 x (c0a d0)
    (have q1:=h1.w;have q2:=h1.init;have q3:=h1.thread;have q4:=h1.mod;unfold D2a at q4;omega)
   refine qB a0.q [.o 0] rfl ⟨rfl,⟨⟩⟩ (fun D0=>?_) fun D0=>?_
   ·refine qD rfl ⟨⟩ ?_;rintro f0 ⟨b0,e0⟩;refine lT rfl ⟨⟩ rfl ⟨⟨_,rfl,iff_of_false (by omega) (fun h=>?_)⟩,b0.fin⟩;have h1:=h.1 x (c0a d0)
    (have q1:=h1.w;have q2:=h1.init;have q3:=h1.thread;have q4:=h1.mod;unfold D2a at q4;omega)
   refine qB a0.q [.o 0] rfl ⟨rfl,⟨⟩⟩ (fun E0=>?_) fun E0=>?_
   ·refine qD rfl ⟨⟩ ?_;rintro f0 ⟨b0,e0⟩;refine lT rfl ⟨⟩ rfl ⟨⟨_,rfl,iff_of_false (by omega) (fun h=>?_)⟩,b0.fin⟩;have h1:=h.1 x (c0a d0)
    (have q1:=h1.w;have q2:=h1.init;have q3:=h1.thread;have q4:=h1.mod;unfold D2a at q4;omega)
   refine qO a0.q [.o 0,.o 0] rfl ⟨rfl,rfl,⟨⟩⟩ (r1a E6a rfl rfl (fun w1 S1 X1=>R4a _ _ (by omega) (by omega)) ?_);refine qB0 rfl ⟨⟩ (fun F0=>?_) fun F0=>?_
   ·refine qD rfl ⟨⟩ ?_;rintro f0 ⟨b0,e0⟩;refine lT rfl ⟨⟩ rfl ⟨⟨_,rfl,iff_of_false (by omega) (fun h=>?_)⟩,b0.fin⟩;have h1:=h.1 x (c0a d0)
    (have q1:=h1.w;have q2:=h1.init;have q3:=h1.thread;have q4:=h1.mod;unfold D2a at q4;omega)
   refine qB a0.q [.o 0] rfl ⟨rfl,⟨⟩⟩ (fun G0=>?_) fun G0=>?_
   ·refine qD rfl ⟨⟩ ?_;rintro f0 ⟨b0,e0⟩;refine lT rfl ⟨⟩ rfl ⟨⟨_,rfl,iff_of_false (by omega) (fun h=>?_)⟩,b0.fin⟩;have h1:=h.1 x (c0a d0)
    (have q1:=h1.w;have q2:=h1.init;have q3:=h1.thread;have q4:=h1.mod;unfold D2a at q4;omega)
   refine qB a0.q [.o 0,.o 1] rfl ⟨rfl,rfl,⟨⟩⟩ (fun H0=>?_) fun H0=>?_
   ·refine qD rfl ⟨⟩ ?_;rintro f0 ⟨b0,e0⟩;refine lT rfl ⟨⟩ rfl ⟨⟨_,rfl,iff_of_false (by omega) (fun h=>?_)⟩,b0.fin⟩;have h1:=h.1 x (c0a d0)
    (have q1:=h1.w;have q2:=h1.init;have q3:=h1.thread;have q4:=h1.mod;unfold D2a at q4;omega)
   refine qO a0.q [.o 0,.o 1] rfl ⟨rfl,rfl,⟨⟩⟩ (Y1a m3a rfl rfl (fun w1 S1 X1=>n7a _ _ _) (fun j0=>?_) fun j0=>?_)
   ·refine qD rfl ⟨⟩ ?_;rintro f0 ⟨b0,e0⟩;refine lC0 rfl ⟨⟩ (wL (fun μj D ε w=>D=[]∧∃j:Nat,(j+μj=(k))∧(o1a (p.cells) j (fun y=>y.name≠x.name))∧St [] w0 w [(some g4,108,[.string x.name,.int .i64 x.w,.int .i64 x.init,.int .i64 x.thread,.bool x.ghost,.int .i64 x.module_]),(some g1,27,[.slice Ac nc cc,.slice Am nm cm,.slice Al nl cl,.slice At nt ct])]∧Sl ε [(1,.pointer (some ⟨g1,0,none⟩)),(3,.int .i64 k),(4,.pointer (some ⟨g4,0,none⟩)),(5,.int .i64 j)]) (μ:=(k)) ⟨rfl,0,by omega,o1a.zero,b0,rfl⟩ ?_);rintro μj D ε w ⟨rfl,j,_,hn,S,eZ⟩;refine wK eZ (wB0 rfl ⟨⟩ (fun I0=>?_) fun I0=>?_)
    ·refine lC0 rfl ⟨⟩ (v0a b0a [0,1,2,3,4,5,6,7,8] [] [] (by kernel_rfl) rfl (Cl _ _ _ _) (Cl.start S) ?_);obtain⟨y,A0,K0,_,x0,p0,_,_,r0,u0⟩:=RdS.get (hC) (j) (by omega);obtain⟨rfl,_,_,_,_⟩:=F2a.open_ u0;refine qOn 8 (S.q.a r0) [.o 1,.x A0 K0,.f 0 0,.o 0] rfl ⟨rfl,rfl,⟨p0,by omega⟩,rfl,⟨⟩⟩ (h1c rfl rfl rfl (fun n0=>?_) fun n0=>?_)
     ·refine qD rfl ⟨⟩ ?_;rintro v0 ⟨g0,h0⟩;refine lT rfl ⟨⟩ rfl ⟨⟨_,rfl,iff_of_false (by omega) (fun h=>?_)⟩,g0.fin⟩;have h1:=h.1 x (c0a d0);exact i6a h.2 x0 d0 (by omega) n0
     refine qD rfl ⟨⟩ ?_;rintro v0 ⟨g0,h0⟩;refine lP0 rfl ⟨by omega,⟨⟩⟩ ⟨μj-1,by omega,rfl,(j+1),(by omega),(hn.succ x0 (n0)),g0,rfl⟩
    refine lP0 rfl ⟨by omega,⟨⟩⟩ ?_;refine⟨μk-1,by omega,rfl,(k+1),(by omega),(hs.succ d0 (⟨o2a i0,⟨by omega,by omega⟩,⟨by omega,by omega⟩,⟨by omega,by omega⟩,by have:=of_decide_eq_true j0;unfold D2a;omega⟩)),(hp.succ d0 (j:=j) (by omega) hn),S.tail,rfl⟩
   refine qD rfl ⟨⟩ ?_;rintro f0 ⟨b0,e0⟩;refine lT rfl ⟨⟩ rfl ⟨⟨_,rfl,iff_of_false (by omega) (fun h=>?_)⟩,b0.fin⟩;have h1:=h.1 x (c0a d0)
   (have q1:=h1.w;have q2:=h1.init;have q3:=h1.thread;have q4:=h1.mod;unfold D2a at q4;(have q5:=of_decide_eq_false j0;omega))
  refine qD rfl ⟨⟩ ?_;rintro f0 ⟨b0,e0⟩;refine lT rfl ⟨⟩ rfl ⟨⟨_,rfl,iff_of_false (by omega) (fun h=>?_)⟩,b0.fin⟩;have h1:=h.1 x (c0a d0);exact P1a i0 h1.name
 exact lT rfl ⟨⟩ rfl ⟨⟨_,rfl,iff_of_true (by omega) ⟨hs.all (by omega),hp.all (by omega)⟩⟩,S.fin⟩
def M4c(p:f0a):Prop:=(∀m∈p.modules,r4c p m)∧p.modules.Pairwise (fun a b=>a.name≠b.name)
theorem A3b(p:f0a)(M:List Nat)(w0:World)(cs:List Value)(hP:q1a M w0 p cs)(hN:y2b p)(hM:∀g∈M,g<w0.heap.size):
 M0a Tryz.prog 70 #[.agg cs.toArray] w0 fun v w'=>(∃a,v=.int .i64 a∧(a=0↔M4c p))∧Below w0.heap.size w0 w':=by
 obtain⟨Ac,nc,cc,Am,nm,cm,Al,nl,cl,At,nt,ct,rfl,hC,o1,_,_,_,_,_,_,_,_,_,_⟩:=hP.open_;have S:=St.refl w0;refine a0a Tryz.func70 rfl Tryz.ntmps70 rfl ?_;refine wO0 rfl ⟨⟩ (h0a S (by conv=>lhs;whnf) rfl ?_);intro g1 w1 S1 X1 G1;refine lC0 rfl ⟨⟩ (wL (fun μk D ε w=>D=[]∧∃k:Nat,(k+μk=(p.modules.length))∧(o1a (p.modules) k (fun x=>r4c p x))∧(L3a p.modules k (fun a b=>a.name≠b.name))∧St [] w0 w [(some g1,27,[.slice Ac nc cc,.slice Am nm cm,.slice Al nl cl,.slice At nt ct])]∧Sl ε [(1,.pointer (some ⟨g1,0,none⟩)),(3,.int .i64 k)]) (μ:=(p.modules.length)) ⟨rfl,0,by omega,o1a.zero,L3a.zero,S1,rfl⟩ ?_);rintro μk D ε w ⟨rfl,k,_,hs,hp,S,eZ⟩;refine wK eZ (wB S.k [.o 0] rfl ⟨rfl,⟨⟩⟩ (fun D1=>?_) fun D1=>?_)
 ·obtain⟨x,y1,K1,_,a0,P0,_,Z0,U0,a1⟩:=RdS.get (o1) (k) (by omega);obtain⟨g0,v0,q0,f0,u0,p0,e0,t0,o0,rfl,z0,y0,s0,_,_⟩:=C1a.open_ a1;refine lO (S.k.a U0) [.o 0,.x y1 K1,.v 0] rfl ⟨⟨rfl,Z0⟩,⟨P0,by omega⟩,rfl,⟨⟩⟩ (m0a S O0c rfl rfl ?_);intro g4 w4 S4 X4 G4;refine e0a (kk:=0) (vs:=[_,_,_,_,_,_,_,_,_,_,_]) S4 B1c rfl rfl rfl rfl rfl rfl rfl ?_;intro U1 h0 u1;dsimp only[k0a,List.set] at h0;refine lO h0.k [.o 0] rfl ⟨rfl,⟨⟩⟩ (C0a h0 D2b rfl rfl (J9a _ _ (hN.mods x (c0a a0)).1) (fun H0 Q1 B0 r1=>?_) (fun H0 Q1 B0 r1=>?_))
  ·refine lO B0.k [.o 0] rfl ⟨rfl,⟨⟩⟩ (C0a B0 D2b rfl rfl (J9a _ _ (hN.mods x (c0a a0)).2) (fun I0 R1 D0 s1=>?_) (fun I0 R1 D0 s1=>?_))
   ·refine lC0 rfl ⟨⟩ (wL (fun μj D ε w=>D=[]∧∃j:Nat,(j+μj=(k))∧(o1a (p.modules) j (fun y=>y.name≠x.name))∧St [] w0 w [(some g4,111,[.string x.name,.string x.owner,.int .i64 x.rely.op,.int .i64 x.rely.w,.int .i64 x.rely.n,.slice g0 v0 q0,.int .i64 x.guar.op,.int .i64 x.guar.w,.int .i64 x.guar.n,.slice f0 u0 p0,.slice e0 t0 o0]),(some g1,27,[.slice Ac nc cc,.slice Am nm cm,.slice Al nl cl,.slice At nt ct])]∧Sl ε [(1,.pointer (some ⟨g1,0,none⟩)),(3,.int .i64 k),(4,.pointer (some ⟨g4,0,none⟩)),(5,.int .i64 j)]) (μ:=(k)) ⟨rfl,0,by omega,o1a.zero,D0,rfl⟩ ?_);rintro μj D ε w ⟨rfl,j,_,hn,S,eZ⟩;refine wK eZ (wB0 rfl ⟨⟩ (fun E1=>?_) fun E1=>?_)
    ·refine lC0 rfl ⟨⟩ (v0a b0a [0,1,2,3,4,5,6,7,8] [] [] (by kernel_rfl) rfl (Cl _ _ _ _) (Cl.start S) ?_);obtain⟨y,z1,M1,_,q1,Q0,_,_,V0,b1⟩:=RdS.get (o1) (j) (by omega);obtain⟨_,_,_,_,_,_,_,_,_,rfl,_,_,_,_,_⟩:=C1a.open_ b1;refine qOn 8 (S.q.a V0) [.o 1,.x z1 M1,.f 0 0,.o 0] rfl ⟨rfl,rfl,⟨Q0,by omega⟩,rfl,⟨⟩⟩ (h1c rfl rfl rfl (fun J0=>?_) fun J0=>?_)
     ·refine qD rfl ⟨⟩ ?_;rintro n1 ⟨n0,G0⟩;refine lT rfl ⟨⟩ rfl ⟨⟨_,rfl,iff_of_false (by omega) (fun h=>?_)⟩,n0.fin⟩;have h1:=h.1 x (c0a a0);exact i6a h.2 q1 a0 (by omega) J0
     refine qD rfl ⟨⟩ ?_;rintro n1 ⟨n0,G0⟩;refine lP0 rfl ⟨by omega,⟨⟩⟩ ⟨μj-1,by omega,rfl,(j+1),(by omega),(hn.succ q1 (J0)),n0,rfl⟩
    refine lCn 5 S.k [] rfl ⟨⟩ (wX (fun D ε w=>D=[]∧(x.rely.absent∨Q7a p.cells x.rely true (-1))∧(Q7a p.cells x.guar true (-1))∧St [] w0 w [(some g4,111,[.string x.name,.string x.owner,.int .i64 x.rely.op,.int .i64 x.rely.w,.int .i64 x.rely.n,.slice g0 v0 q0,.int .i64 x.guar.op,.int .i64 x.guar.w,.int .i64 x.guar.n,.slice f0 u0 p0,.slice e0 t0 o0]),(some g1,27,[.slice Ac nc cc,.slice Am nm cm,.slice Al nl cl,.slice At nt ct])]∧Sl ε [(1,.pointer (some ⟨g1,0,none⟩)),(3,.int .i64 k),(4,.pointer (some ⟨g4,0,none⟩))]) ?_ ?_)
    ·refine wO S.k [.o 0] rfl ⟨rfl,⟨⟩⟩ (C0a S y6c rfl rfl (q5b _ M _ _ (RdE.keep (S.keep0 M) _ _ z0)) (fun K0 T1 b0 t1=>?_) (fun K0 T1 b0 t1=>?_))
     ·refine lO b0.k [.w 1,.o 0] rfl ⟨rfl,⟨rfl,rfl⟩,⟨⟩⟩ ?_;refine C0a b0 x0b rfl rfl (z5a p _ M _ _ _ true (-1) (hP.keep (b0.keep0 M)) (RdE.keep (b0.keep0 M) _ _ y0) (fun g hg=>by have:=hM g hg;have:=b0.size;omega)) (fun r0 m1 j0 F0=>?_) (fun r0 m1 j0 F0=>?_)
      ·refine lP0 rfl ⟨⟩ ⟨rfl,?_,(o2a r0),j0,rfl⟩;exact .inl (o2a K0)
      refine lT rfl ⟨⟩ rfl ⟨⟨_,rfl,iff_of_false (by omega) (fun h=>?_)⟩,j0.fin⟩;have h1:=h.1 x (c0a a0);exact P1a r0 h1.guar
     refine lO b0.k [.w 1,.o 0] rfl ⟨rfl,⟨rfl,rfl⟩,⟨⟩⟩ ?_;refine C0a b0 x0b rfl rfl (z5a p _ M _ _ _ true (-1) (hP.keep (b0.keep0 M)) (RdE.keep (b0.keep0 M) _ _ z0) (fun g hg=>by have:=hM g hg;have:=b0.size;omega)) (fun L0 V1 i0 v1=>?_) (fun L0 V1 i0 v1=>?_)
     ·refine lO i0.k [.w 1,.o 0] rfl ⟨rfl,⟨rfl,rfl⟩,⟨⟩⟩ ?_;refine C0a i0 x0b rfl rfl (z5a p _ M _ _ _ true (-1) (hP.keep (i0.keep0 M)) (RdE.keep (i0.keep0 M) _ _ y0) (fun g hg=>by have:=hM g hg;have:=i0.size;omega)) (fun r0 m1 j0 F0=>?_) (fun r0 m1 j0 F0=>?_)
      ·refine lP0 rfl ⟨⟩ ⟨rfl,?_,(o2a r0),j0,rfl⟩;exact .inr (o2a L0)
      refine lT rfl ⟨⟩ rfl ⟨⟨_,rfl,iff_of_false (by omega) (fun h=>?_)⟩,j0.fin⟩;have h1:=h.1 x (c0a a0);exact P1a r0 h1.guar
     refine lT rfl ⟨⟩ rfl ⟨⟨_,rfl,iff_of_false (by omega) (fun h=>?_)⟩,i0.fin⟩;have h1:=h.1 x (c0a a0);exact h1.rely.elim (P1a K0) (P1a L0)
    rintro D ε w ⟨rfl,J1,I1,S,eZ⟩;refine wK eZ (wC0 rfl ⟨⟩ ?_);refine wL (fun μi D ε w=>D=[]∧∃i:Nat,(i+μi=(x.frame.length))∧(o1a (x.frame) i (fun z=>D2a z p.cells.length∧I1a p.cells z=-1))∧St [] w0 w [(some g4,111,[.string x.name,.string x.owner,.int .i64 x.rely.op,.int .i64 x.rely.w,.int .i64 x.rely.n,.slice g0 v0 q0,.int .i64 x.guar.op,.int .i64 x.guar.w,.int .i64 x.guar.n,.slice f0 u0 p0,.slice e0 t0 o0]),(some g1,27,[.slice Ac nc cc,.slice Am nm cm,.slice Al nl cl,.slice At nt ct])]∧Sl ε [(1,.pointer (some ⟨g1,0,none⟩)),(3,.int .i64 k),(4,.pointer (some ⟨g4,0,none⟩)),(6,.int .i64 i)]) (μ:=(x.frame.length)) ⟨rfl,0,by omega,o1a.zero,S,rfl⟩ ?_;rintro μi D ε w ⟨rfl,i,_,hf,S,eZ⟩;refine wK eZ (wB S.k [.o 0] rfl ⟨rfl,⟨⟩⟩ (fun F1=>?_) fun F1=>?_)
    ·refine lC0 rfl ⟨⟩ (v0a b0a [0,1,2,3,4,5,6,7,8,9,10,11,12,13,14,15,16,17,18,19,20,21,22] [] [] (by kernel_rfl) rfl (Cl _ _ _ _) (Cl.start S) ?_);obtain⟨z,A1,N1,_,C0,R0,_,_,W0,d1⟩:=RdS.get (s0) (i) (by omega);obtain⟨rfl,_⟩:=id d1;refine qO (S.q.a W0) [.o 0,.x A1 N1,.f 0 0,.o 1] rfl ⟨rfl,rfl,⟨R0,by omega⟩,rfl,⟨⟩⟩ (Y1a m3a rfl rfl (fun w1 S1 X1=>n7a _ _ _) (fun N0=>?_) fun N0=>?_)
     ·obtain⟨_,B1,O1,_,j1,S0,_,_,X0,f1⟩:=RdS.get (s0) (i) (by omega);obtain rfl:=Option.some.inj (C0.symm.trans j1);obtain⟨rfl,_⟩:=id f1;have Y1:=of_decide_eq_true N0;obtain⟨_,C1,P1,_,p1,T0,_,_,Y0,i1⟩:=RdS.get (hC) (z.toNat) (by omega);obtain⟨rfl,_,_,_,_⟩:=F2a.open_ i1;refine qB ((S.q.a Y0).a X0) [.o 1,.o 0,.x B1 O1,.f 0 0,.x C1 P1,.f 1 3] rfl ⟨rfl,⟨T0,by omega⟩,rfl,⟨S0,by omega⟩,rfl,rfl,⟨⟩⟩ (fun H1=>?_) fun H1=>?_
      ·refine qD rfl ⟨⟩ ?_;rintro A0 ⟨d0,x0⟩;refine lT rfl ⟨⟩ rfl ⟨⟨_,rfl,iff_of_false (by omega) (fun h=>?_)⟩,d0.fin⟩;have h1:=h.1 x (c0a a0)
       (have q:=(h1.frame z (c0a C0)).2;rw[i1a p1] at q;omega)
      refine qD rfl ⟨⟩ ?_;rintro A0 ⟨d0,x0⟩;refine lP0 rfl ⟨by omega,⟨⟩⟩ ?_;refine⟨μi-1,by omega,rfl,(i+1),(by omega),(hf.succ C0 (⟨by unfold D2a;omega,by rw[i1a p1];omega⟩)),d0,rfl⟩
     refine qD rfl ⟨⟩ ?_;rintro A0 ⟨d0,x0⟩;refine lT rfl ⟨⟩ rfl ⟨⟨_,rfl,iff_of_false (by omega) (fun h=>?_)⟩,d0.fin⟩;have h1:=h.1 x (c0a a0)
     (have q:=h1.frame z (c0a C0);unfold D2a at q;have q5:=of_decide_eq_false N0;omega)
    refine lO S.k [.o 0] rfl ⟨rfl,⟨⟩⟩ (C0a S F0c rfl rfl (n4b M _ _ _ (s0.keep (S.keep0 M))) (fun O0 W1 E0 x1=>?_) (fun O0 W1 E0 x1=>?_))
    ·refine lP0 rfl ⟨by omega,⟨⟩⟩ ⟨μk-1,by omega,rfl,(k+1),(by omega),?_,(hp.succ a0 (j:=j) (by omega) hn),E0.tail,rfl⟩;exact hs.succ a0 ⟨o2a H0,o2a I0,J1,I1,hf.all (by omega),o2a O0⟩
    refine lT rfl ⟨⟩ rfl ⟨⟨_,rfl,iff_of_false (by omega) (fun h=>?_)⟩,E0.fin⟩;have h1:=h.1 x (c0a a0);exact P1a O0 h1.up
   refine lT rfl ⟨⟩ rfl ⟨⟨_,rfl,iff_of_false (by omega) (fun h=>?_)⟩,D0.fin⟩;have h1:=h.1 x (c0a a0);exact P1a I0 h1.owner
  refine lT rfl ⟨⟩ rfl ⟨⟨_,rfl,iff_of_false (by omega) (fun h=>?_)⟩,B0.fin⟩;have h1:=h.1 x (c0a a0);exact P1a H0 h1.name
 exact lT rfl ⟨⟩ rfl ⟨⟨_,rfl,iff_of_true (by omega) ⟨hs.all (by omega),hp.all (by omega)⟩⟩,S.fin⟩
def P0c(p:f0a):Prop:=(∀l∈p.locks,b7b p l)∧p.locks.Pairwise (fun a b=>a.cell≠b.cell)
theorem y8b(p:f0a)(M:List Nat)(w0:World)(cs:List Value)(hP:q1a M w0 p cs)(hM:∀g∈M,g<w0.heap.size):
 M0a Tryz.prog 71 #[.agg cs.toArray] w0 fun v w'=>(∃a,v=.int .i64 a∧(a=0↔P0c p))∧Below w0.heap.size w0 w':=by
 obtain⟨Ac,nc,cc,Am,nm,cm,Al,nl,cl,At,nt,ct,rfl,hC,_,H0,_,_,_,_,_,_,_,_,_⟩:=hP.open_;have S:=St.refl w0;refine a0a Tryz.func71 rfl Tryz.ntmps71 rfl ?_;refine wO0 rfl ⟨⟩ (h0a S (by conv=>lhs;whnf) rfl ?_);intro g1 w1 S1 X1 G1;refine lC0 rfl ⟨⟩ (wL (fun μk D ε w=>D=[]∧∃k:Nat,(k+μk=(p.locks.length))∧(o1a (p.locks) k (fun x=>b7b p x))∧(L3a p.locks k (fun a b=>a.cell≠b.cell))∧St [] w0 w [(some g1,27,[.slice Ac nc cc,.slice Am nm cm,.slice Al nl cl,.slice At nt ct])]∧Sl ε [(1,.pointer (some ⟨g1,0,none⟩)),(3,.int .i64 k)]) (μ:=(p.locks.length)) ⟨rfl,0,by omega,o1a.zero,L3a.zero,S1,rfl⟩ ?_);rintro μk D ε w ⟨rfl,k,_,hs,hp,S,eZ⟩;refine wK eZ (wB S.k [.o 0] rfl ⟨rfl,⟨⟩⟩ (fun R0=>?_) fun R0=>?_)
 ·obtain⟨x,O0,V0,_,d0,u0,_,B0,z0,C0⟩:=RdS.get (H0) (k) (by omega);obtain⟨i0,F0,p0,rfl,_,_,y0⟩:=w5a.open_ C0;refine lO (S.k.a z0) [.o 0,.x O0 V0,.v 0] rfl ⟨⟨rfl,B0⟩,⟨u0,by omega⟩,rfl,⟨⟩⟩ (m0a S N1c rfl rfl ?_);intro g4 w4 S4 X4 G4;refine e0a (kk:=0) (vs:=[_,_,_,_,_,_]) S4 s0c rfl rfl rfl rfl rfl rfl rfl ?_;intro Z0 g0 K0;dsimp only[k0a,List.set] at g0;refine lO g0.k [.o 0,.o 1] rfl ⟨rfl,rfl,⟨⟩⟩ (C0a g0 m3a rfl rfl (n7a _ _ _) (fun q0 Y0 a0 J0=>?_) (fun q0 Y0 a0 J0=>?_))
  ·have d1:=of_decide_eq_true q0;obtain⟨c,P0,W0,_,b0,v0,_,_,f0,D0⟩:=RdS.get (hC) (x.cell.toNat) (by omega);obtain⟨rfl,_,_,_,_⟩:=F2a.open_ D0;refine lB (a0.k.a f0) [.o 1,.o 0,.x P0 W0,.f 0 3] rfl ⟨rfl,⟨v0,by omega⟩,rfl,rfl,⟨⟩⟩ (fun S0=>?_) fun S0=>?_
   ·refine lT rfl ⟨⟩ rfl ⟨⟨_,rfl,iff_of_false (by omega) (fun h=>?_)⟩,a0.fin⟩;have h1:=h.1 x (c0a d0)
    (have q:=h1.cell;rw[i1a b0,i5a (by omega) b0,G2a b0] at q;omega)
   refine lO a0.k [.o 1,.o 0] rfl ⟨rfl,rfl,⟨⟩⟩ (w0a U5a.slT rfl (by assumption) rfl (by omega) (by omega) rfl ?_);refine lO0 rfl ⟨⟩ (s0a K0a rfl (by exact a0.old (f0 _ _ rfl)) rfl ?_);refine lB0 rfl ⟨⟩ (fun T0=>?_) fun T0=>?_
   ·refine lT rfl ⟨⟩ rfl ⟨⟨_,rfl,iff_of_false (by omega) (fun h=>?_)⟩,a0.fin⟩;have h1:=h.1 x (c0a d0)
    (have q:=h1.cell;rw[i1a b0,i5a (by omega) b0,G2a b0] at q;omega)
   refine lO a0.k [.o 1,.o 0] rfl ⟨rfl,rfl,⟨⟩⟩ (w0a U5a.slT rfl (by assumption) rfl (by omega) (by omega) rfl ?_);refine lO0 rfl ⟨⟩ ?_;cases e0:c.ghost
   ·refine s0a m2a rfl (by exact(a0.old (f0 _ _ rfl)).trans (congrArg (fun b=>some (Value.bool b)) e0)) rfl ?_;refine lO a0.k [.o 0,.o 1] rfl ⟨rfl,rfl,⟨⟩⟩ (C0a a0 m3a rfl rfl (n7a _ _ _) (fun r0 a1 j0 L0=>?_) (fun r0 a1 j0 L0=>?_))
    ·refine lC0 rfl ⟨⟩ (wL (fun μj D ε w=>D=[]∧∃j:Nat,(j+μj=(k))∧(o1a (p.locks) j (fun y=>y.cell≠x.cell))∧St [] w0 w [(some g4,113,[.int .i64 x.cell,.int .i64 x.inv.op,.int .i64 x.inv.w,.int .i64 x.inv.n,.slice i0 F0 p0,.int .i64 x.module_]),(some g1,27,[.slice Ac nc cc,.slice Am nm cm,.slice Al nl cl,.slice At nt ct])]∧Sl ε [(1,.pointer (some ⟨g1,0,none⟩)),(3,.int .i64 k),(4,.pointer (some ⟨g4,0,none⟩)),(5,.int .i64 j)]) (μ:=(k)) ⟨rfl,0,by omega,o1a.zero,j0,rfl⟩ ?_);rintro μj D ε w ⟨rfl,j,_,hn,S,eZ⟩;refine wK eZ (wB0 rfl ⟨⟩ (fun U0=>?_) fun U0=>?_)
     ·refine lC0 rfl ⟨⟩ (v0a b0a [0,1,2,3,4,5,6,7,8] [] [] (by kernel_rfl) rfl (Cl _ _ _ _) (Cl.start S) ?_);obtain⟨y,Q0,X0,_,I0,x0,_,_,A0,E0⟩:=RdS.get (H0) (j) (by omega);obtain⟨_,_,_,rfl,_,_,_⟩:=w5a.open_ E0;refine qB (S.q.a A0) [.o 1,.x Q0 X0,.f 0 0,.o 0] rfl ⟨rfl,rfl,⟨x0,by omega⟩,rfl,⟨⟩⟩ (fun s0=>?_) fun s0=>?_
      ·refine qD rfl ⟨⟩ ?_;rintro G0 ⟨h0,o0⟩;refine lT rfl ⟨⟩ rfl ⟨⟨_,rfl,iff_of_false (by omega) (fun h=>?_)⟩,h0.fin⟩;have h1:=h.1 x (c0a d0);exact i6a h.2 I0 d0 (by omega) s0
      refine qD rfl ⟨⟩ ?_;rintro G0 ⟨h0,o0⟩;refine lP0 rfl ⟨by omega,⟨⟩⟩ ⟨μj-1,by omega,rfl,(j+1),(by omega),(hn.succ I0 (s0)),h0,rfl⟩
     refine lO S.k [.w 1,.o 0] rfl ⟨rfl,⟨rfl,rfl⟩,⟨⟩⟩ ?_;refine C0a S x0b rfl rfl (z5a p _ M _ _ _ false (-1) (hP.keep (S.keep0 M)) (RdE.keep (S.keep0 M) _ _ y0) (fun g hg=>by have:=hM g hg;have:=S.size;omega)) (fun t0 b1 n0 N0=>?_) (fun t0 b1 n0 N0=>?_)
     ·refine lP0 rfl ⟨by omega,⟨⟩⟩ ?_;refine⟨μk-1,by omega,rfl,(k+1),(by omega),(hs.succ d0 (⟨⟨by unfold D2a;omega,by rw[i1a b0];omega,by rw[i5a (by omega) b0];omega,by rw[G2a b0];exact e0⟩,by have:=of_decide_eq_true r0;unfold D2a;omega,o2a t0⟩)),(hp.succ d0 (j:=j) (by omega) hn),n0.tail,rfl⟩
     refine lT rfl ⟨⟩ rfl ⟨⟨_,rfl,iff_of_false (by omega) (fun h=>?_)⟩,n0.fin⟩;have h1:=h.1 x (c0a d0);exact P1a t0 h1.inv
    refine lT rfl ⟨⟩ rfl ⟨⟨_,rfl,iff_of_false (by omega) (fun h=>?_)⟩,j0.fin⟩;have h1:=h.1 x (c0a d0)
    (have q:=h1.mod;unfold D2a at q;have q5:=of_decide_eq_false r0;omega)
   refine s0a m2a rfl (by exact(a0.old (f0 _ _ rfl)).trans (congrArg (fun b=>some (Value.bool b)) e0)) rfl ?_;refine lT rfl ⟨⟩ rfl ⟨⟨_,rfl,iff_of_false (by omega) (fun h=>?_)⟩,a0.fin⟩;have h1:=h.1 x (c0a d0)
   (have q:=h1.cell;rw[i1a b0,i5a (by omega) b0,G2a b0] at q;(rw[e0] at q;cases q.2.2.2))
  refine lT rfl ⟨⟩ rfl ⟨⟨_,rfl,iff_of_false (by omega) (fun h=>?_)⟩,a0.fin⟩;have h1:=h.1 x (c0a d0)
  (have q:=h1.cell;unfold D2a at q;have q5:=of_decide_eq_false q0;omega)
 exact lT rfl ⟨⟩ rfl ⟨⟨_,rfl,iff_of_true (by omega) ⟨hs.all (by omega),hp.all (by omega)⟩⟩,S.fin⟩
theorem X8a{P:Program}{fn:Func}{e:Env}{w:World}{a t n g:Nat}{cs:List Value}(h:fn.results=#[.cell a t])(hM:F7a P t n)(ha:e a=.pointer (some ⟨g,0,none⟩))(hc:t1a w g 0 cs)(hn:cs.length=n)
 {tmps:Array Value} (he:W0a { tmps,defers:=[] }=e):(results fn tmps).run P w=.ok (.agg cs.toArray) w:=by
 subst he;subst hn;simp only[W0a,Array.getD_eq_getD_getElem?] at ha;have:=run_loadCells_list (P:=P) w ⟨g,0,none⟩ cs (fun j v hj=>by rw[Addr.add_lit];exact hc j v hj);simp[results,h,asAddr,ha,hM w,this]
theorem n1a{P:Program}{fn:Func}{e:Env}{w:World}{R:Value→World→Prop}{a t n g:Nat}{cs:List Value}(h:fn.results=#[.cell a t])(hM:F7a P t n)(ha:e a=.pointer (some ⟨g,0,none⟩))(hc:t1a w g 0 cs)(hn:cs.length=n)
 (hR:R (.agg cs.toArray) w):c4a P fn R [] e w :=
 ⟨rfl,fun _ he=>⟨_,X8a h hM ha hc hn he,hR⟩⟩
theorem g2a{P:Program}{fn:Func}{e:Env}{w:World}{R:Value→World→Prop}{a t n g u:Nat}{cs:List Value}{v:Value}(h:fn.results=#[.cell a t,.tmp u])(hM:F7a P t n)(ha:e a=.pointer (some ⟨g,0,none⟩))(hc:t1a w g 0 cs)(hn:cs.length=n)(hu:e u=v)
 (hR:R (.tuple #[.agg cs.toArray,v]) w):c4a P fn R [] e w:=by
 refine⟨rfl,fun tmps he=>⟨_,?_,hR⟩⟩;subst he;subst hn;subst hu;simp only[W0a,Array.getD_eq_getD_getElem?] at ha;have:=run_loadCells_list (P:=P) w ⟨g,0,none⟩ cs (fun j v hj=>by rw[Addr.add_lit];exact hc j v hj);simp[results,h,asAddr,ha,hM w,this,W0a]
theorem A3a{M:List Nat}{w:World}{op wd n:Int}(h1:i64 op)(h2:i64 wd)(h3:i64 n):RdE M w ⟨op,wd,n,[]⟩ [.int .i64 op,.int .i64 wd,.int .i64 n,.slice none 0 0]:=by
 rw[RdE];exact⟨none,0,0,rfl,h1,h2,h3,rfl,Nat.le_refl _,by unfold maxLen;omega,by omega,fun h=>absurd h (by omega)⟩
theorem U5c{M:List Nat}{w:World}{op wd:Int}{a b:E}{ca cb:List Value}{g:Nat}(h1:i64 op)(h2:i64 wd)(hg:g∉M)(hc:t1a w g 0 (ca++cb))(ha:RdE M w a ca)(hb:RdE M w b cb):
 RdE M w ⟨op,wd,0,[a,b]⟩ [.int .i64 op,.int .i64 wd,.int .i64 0,.slice (some ⟨g,0,none⟩) 2 2]:=by
 have la:=ha.length;rw[RdE];refine⟨_,2,2,rfl,h1,h2,by unfold i64;simp,rfl,Nat.le_refl _,by unfold maxLen;omega,by omega,fun _=>⟨g,0,rfl,hg,fun i hi=>?_⟩⟩;have a0:i<2:=hi;rcases(show i=0∨i=1 by omega) with rfl|rfl
 ·refine⟨ca,fun j v hj=>?_,ha⟩;have hl:j<ca.length:=(List.getElem?_eq_some_iff.1 hj).1;have:=hc j v (by rw[List.getElem?_append_left hl];exact hj);simpa using this
 ·refine⟨cb,fun j v hj=>?_,hb⟩;have:=hc (4+j) v (by rw[List.getElem?_append_right (by omega)];simpa[la] using hj);simpa using this
theorem J4b.val{p:f0a}{t:Int}{s:y1a}(h:J4b p t s){k:Nat}{a:L1a}(hx:s.set[k]?=some a)(ho:0<k∨s.kind≠2):s5a p.cells a.to (decide (s.kind=4)) t:=by
 obtain⟨h1,rfl⟩:=List.getElem?_eq_some_iff.1 hx;exact h.vals k h1 ho
theorem e3b{α:Type}{l l':List α}{a b:α}{i:Nat}(e:l=a::l')(hx:l[i]?=some b)(hi:1≤i):b∈l':=by
 subst e;obtain⟨j,rfl⟩:∃j,i=j+1:=⟨i-1,by omega⟩;exact List.mem_of_getElem? (by simpa using hx)
theorem Y4a{α:Type}{l l':List α}{a b:α}(e:l=a::l')(hx:l[0]?=some b):a=b:=by subst e;simpa using hx
theorem p0b(n wd:Int)(w0:World):M0a Tryz.prog 30 #[.int .i64 n,.int .i64 wd] w0 fun v w'=>v=.agg #[.int .i64 1,.int .i64 wd,.int .i64 n,.slice none 0 0]∧Below w0.heap.size w0 w':=by
 have S:=St.refl w0;refine a0a Tryz.func30 rfl Tryz.ntmps30 rfl ?_;refine wO0 rfl ⟨⟩ (m0a S j8a rfl rfl ?_);intro g4 w4 S4 X4 G4;refine lO0 rfl ⟨⟩ (f1a s4b (vs:=[(0,.int .i64 _),(1,.int .i64 _),(2,.int .i64 _)]) (cs:=[_,_,_,_]) rfl rfl rfl rfl ?_)
 first|refine e0a (kk:=0) (vs:=[_,_,_,_]) S4 t6a rfl rfl rfl rfl rfl rfl rfl ?_
 intro d0 a0 b0;dsimp only[k0a,List.set] at a0;exact lR0 rfl ⟨⟩ (n1a rfl E1a rfl (a0.cells 0 rfl) rfl ⟨rfl,a0.fin⟩)
theorem t3c(w0:World):M0a Tryz.prog 175 #[] w0 fun v w'=>v=.agg #[.int .i64 1,.int .i64 1,.int .i64 1,.slice none 0 0]∧Below w0.heap.size w0 w':=by
 have S:=St.refl w0;refine a0a Tryz.func175 rfl Tryz.ntmps175 rfl ?_;refine wO0 rfl ⟨⟩ (m0a S j8a rfl rfl ?_);intro g0 w0 S0 X0 G0;refine lO0 rfl ⟨⟩ (g0a S0 V1b rfl rfl (p0b 1 1 _) ?_);intro w1 S1 X1
 first|refine e0a (kk:=0) (vs:=[_,_,_,_]) S1 t6a rfl rfl rfl rfl rfl rfl rfl ?_
 intro d0 a0 b0;dsimp only[k0a,List.set] at a0;exact lR0 rfl ⟨⟩ (n1a rfl E1a rfl (a0.cells 0 rfl) rfl ⟨rfl,a0.fin⟩)
theorem k9b:∀(a:E) (b:E) (M:List Nat) (w0:World) (ca cb:List Value),RdE M w0 a ca→RdE M w0 b cb →
 M0a Tryz.prog 174 #[.agg ca.toArray,.agg cb.toArray] w0 fun v w'=>v=.bool (dec (a=b))∧Below w0.heap.size w0 w':=by
 intro a
 induction a using E.induct with
 | _ a ih =>
 intro b M w0 ca cb ha hb;obtain⟨A,n,c,rfl,_,_,_,_,_⟩:=ha.cells;obtain⟨B,m,d,rfl,_,_,_,_,_⟩:=hb.cells;have z0:=ha.kidsRd;have A0:=hb.kidsRd;have S:=St.refl w0;refine a0a Tryz.func174 rfl Tryz.ntmps174 rfl ?_;refine wO0 rfl ⟨⟩ (h0a S (by conv=>lhs;whnf) rfl ?_);intro g2 w2 S2 X2 G2;refine h0a S2 (by conv=>lhs;whnf) rfl ?_;intro g3 w3 S3 X3 G3;refine lB S3.k [.o 1,.o 0] rfl ⟨rfl,rfl,⟨⟩⟩ (fun t0=>?_) fun t0=>?_
 ·refine lT rfl ⟨⟩ rfl ?_;refine⟨p1a (fun h=>?_),S3.fin⟩;subst h;omega
 refine lB S3.k [.o 1,.o 0] rfl ⟨rfl,rfl,⟨⟩⟩ (fun u0=>?_) fun u0=>?_
 ·refine lT rfl ⟨⟩ rfl ?_;refine⟨p1a (fun h=>?_),S3.fin⟩;subst h;omega
 refine lB S3.k [.o 1,.o 0] rfl ⟨rfl,rfl,⟨⟩⟩ (fun v0=>?_) fun v0=>?_
 ·refine lT rfl ⟨⟩ rfl ?_;refine⟨p1a (fun h=>?_),S3.fin⟩;subst h;omega
 refine lB S3.k [.o 1,.o 0] rfl ⟨rfl,rfl,⟨⟩⟩ (fun x0=>?_) fun x0=>?_
 ·refine lT rfl ⟨⟩ rfl ?_;refine⟨p1a (fun h=>?_),S3.fin⟩;subst h;omega
 refine lC0 rfl ⟨⟩ (wL (fun μk D ε w=>D=[]∧∃k:Nat,(k+μk=(a.kids.length))∧(a.kids.take k=b.kids.take k)∧St [] w0 w [(some g3,68,[.int .i64 b.op,.int .i64 b.w,.int .i64 b.n,.slice B m d]),(some g2,68,[.int .i64 a.op,.int .i64 a.w,.int .i64 a.n,.slice A n c])]∧Sl ε [(2,.pointer (some ⟨g2,0,none⟩)),(3,.pointer (some ⟨g3,0,none⟩)),(5,.int .i64 k)]) (μ:=(a.kids.length)) ⟨rfl,0,by omega,by simp,S3,rfl⟩ ?_);rintro μk D ε w ⟨rfl,k,_,hs,S,eZ⟩;refine wK eZ (wB S.k [.o 1] rfl ⟨rfl,⟨⟩⟩ (fun y0=>?_) fun y0=>?_)
 ·refine lC0 rfl ⟨⟩ (v0a b0a [0,1,2,3,4,5,6,7,8,9,10,11] [] [] (by kernel_rfl) rfl (Cl _ _ _ _) (Cl.start S) ?_);obtain⟨x,r0,B0,_,o0,f0,_,j0,h0,a0⟩:=RdS.get (z0) (k) (by omega);obtain⟨_,_,_,rfl,_,_,_,_,_⟩:=RdE.cells a0;obtain⟨y,s0,C0,_,p0,g0,_,n0,i0,b0⟩:=RdS.get (A0) (k) (by omega);obtain⟨_,_,_,rfl,_,_,_,_,_⟩:=RdE.cells b0;refine qO ((S.q.a i0).a h0) [.o 1,.x r0 B0,.v 0,.o 0,.x s0 C0,.v 1] rfl ⟨⟨rfl,n0⟩,⟨g0,by omega⟩,rfl,⟨rfl,j0⟩,⟨f0,by omega⟩,rfl,⟨⟩⟩ (Y1a P9b rfl rfl (fun w1 S1 X1=>ih x (c0a o0) y M _ _ _ (RdE.keep (S1.keep0 M) _ _ a0) (RdE.keep (S1.keep0 M) _ _ b0)) (fun e0=>?_) fun e0=>?_)
  ·refine qD rfl ⟨⟩ ?_;rintro D0 ⟨d0,q0⟩;refine lP0 rfl ⟨by omega,⟨⟩⟩ ⟨μk-1,by omega,rfl,(k+1),(by omega),((by rw[H0a o0,H0a p0,hs,o2a e0])),d0,rfl⟩
  refine qD rfl ⟨⟩ ?_;rintro D0 ⟨d0,q0⟩;refine lT rfl ⟨⟩ rfl ?_;refine⟨p1a (fun h=>P1a e0 ?_),d0.fin⟩;subst h;rw[o0] at p0;exact Option.some.inj p0
 refine lT rfl ⟨⟩ rfl ?_;refine⟨Z3a (E.ext (by omega) (by omega) (by omega) ?_),S.fin⟩;rwa [List.take_of_length_le (by omega),List.take_of_length_le (by omega)] at hs
theorem k1d{M:List Nat}{w:World}:RdE M w ⟨1,1,1,[]⟩ [.int .i64 1,.int .i64 1,.int .i64 1,.slice none 0 0]:=A3a (by unfold i64;omega) (by unfold i64;omega) (by unfold i64;omega)
theorem k0c(p:f0a)(s:y1a)(t:Int)(M:List Nat)(w0:World)(cs ss:List Value)(hP:q1a M w0 p cs)(hS:q2a M w0 ss s)(hM:∀g∈M,g<w0.heap.size)
 (z4:1≤s.kind∧s.kind≤7) (hg:s.guard.valid p.cells false=true) (hs:∀a∈s.set,D2a a.cell p.cells.length∧a.to.valid p.cells false=true) :
 M0a Tryz.prog 136 #[.agg cs.toArray,.int .i64 t,.agg ss.toArray] w0 fun v w'=>v=.bool (dec (J4b p t s))∧Below w0.heap.size w0 w':=by
 obtain⟨Ac,nc,cc,Am,nm,cm,Al,nl,cl,At,nt,ct,rfl,hC,_,_,o4,_,_,_,_,_,_,_,_⟩:=hP.open_;obtain⟨Ag,ng,cg,As,ns,n1,rfl,⟨_,_,_,_,_⟩,hG,d0,_,_⟩:=hS.open_;have S:=St.refl w0;have Z2:∀w':World,w0.heap.size≤w'.heap.size→∀g∈M,g<w'.heap.size:=fun w' h g hg=>by have:=hM g hg;omega
 have r0:∀a∈s.set,0≤a.cell∧a.cell<p.cells.length:=fun a ha=>(hs a ha).1;refine a0a Tryz.func136 rfl Tryz.ntmps136 rfl ?_;refine wO0 rfl ⟨⟩ (h0a S (by conv=>lhs;whnf) rfl ?_);intro g3 w3 S3 X3 G3;refine h0a S3 (by conv=>lhs;whnf) rfl ?_;intro g5 w5 S5 X5 G5;refine lOn 15 S5.k [.o 0,.o 0] rfl ⟨rfl,rfl,⟨⟩⟩ (X8c rfl rfl rfl ?_);refine lO S5.k [.w 1,.o 0] rfl ⟨rfl,⟨rfl,rfl⟩,⟨⟩⟩ (C0a S5 j0b rfl rfl (B6a p _ M _ _ _ _ false t (hP.keep (S5.keep0 M)) (RdE.keep (S5.keep0 M) _ _ hG) (Z2 _ S5.size) hg) (fun E0 u4 o2 V3=>?_) (fun E0 u4 o2 V3=>?_))
 ·refine lC0 rfl ⟨⟩ (wL (fun μk D ε w=>D=[]∧∃k:Nat,(k+μk=(s.set.length))∧(∀j a,s.set[j]?=some a→j<k→0<j∨s.kind≠2→s5a p.cells a.to (decide (s.kind=4)) t)∧(o1a (s.set) k (fun a=>I1a p.cells a.cell=t∨I1a p.cells a.cell=-1))∧St [] w0 w [(some g5,97,[.int .i64 s.kind,.int .i64 s.frm,.int .i64 s.to,.int .i64 s.guard.op,.int .i64 s.guard.w,.int .i64 s.guard.n,.slice Ag ng cg,.slice As ns n1,.bool s.release,.int .i64 s.target,.int .i64 s.module_]),(some g3,27,[.slice Ac nc cc,.slice Am nm cm,.slice Al nl cl,.slice At nt ct])]∧Sl ε [(1,.int .i64 t),(3,.pointer (some ⟨g3,0,none⟩)),(5,.pointer (some ⟨g5,0,none⟩)),(7,.int .i64 ns),(8,.bool (decide (s.kind=4))),(9,.int .i64 k)]) (μ:=(s.set.length)) ⟨rfl,0,by omega,(fun j a _ h=>absurd h (by omega)),o1a.zero,o2,rfl⟩ ?_);rintro μk D ε w ⟨rfl,k,hk,hv,hc,S,eZ⟩;refine wK eZ (wB0 rfl ⟨⟩ (fun g4=>?_) fun g4=>?_)
  ·refine lCn 7 S.k [] rfl ⟨⟩ (wX (fun D ε w=>D=[]∧(∀a',s.set[k]?=some a'→0<k∨s.kind≠2→s5a p.cells a'.to (decide (s.kind=4)) t)∧St [] w0 w [(some g5,97,[.int .i64 s.kind,.int .i64 s.frm,.int .i64 s.to,.int .i64 s.guard.op,.int .i64 s.guard.w,.int .i64 s.guard.n,.slice Ag ng cg,.slice As ns n1,.bool s.release,.int .i64 s.target,.int .i64 s.module_]),(some g3,27,[.slice Ac nc cc,.slice Am nm cm,.slice Al nl cl,.slice At nt ct])]∧Sl ε [(1,.int .i64 t),(3,.pointer (some ⟨g3,0,none⟩)),(5,.pointer (some ⟨g5,0,none⟩)),(7,.int .i64 ns),(8,.bool (decide (s.kind=4))),(9,.int .i64 k)]) ?_ ?_)
   ·refine wC0 rfl ⟨⟩ (v0a b0a [0,1,2,3,4,5,6,7,8,9,10,11,12,13,14,15,16,17,18,19] [] [] (by kernel_rfl) rfl (Cl _ _ _ _) (Cl.start S) ?_);refine qB0 rfl ⟨⟩ (fun h4=>?_) fun h4=>?_
    ·obtain⟨a,H2,H3,d4,e0,W0,a3,m3,Y0,Z0⟩:=RdS.get (d0) (k) (by omega);obtain⟨n2,r3,I2,rfl,q3,X0⟩:=U0a.open_ Z0;refine qO (S.q.a Y0) [.w 1,.o 0,.x H2 H3,.f 0 1] rfl ⟨rfl,⟨W0,by omega⟩,rfl,⟨rfl,rfl⟩,⟨⟩⟩ (Y1a j0b rfl rfl (fun w1 S1 X1=>B6a p _ M _ _ _ _ false t (hP.keep (S1.keep0 M)) (RdE.keep (S1.keep0 M) _ _ X0) (Z2 _ S1.size) (hs a (c0a e0)).2) (fun V0=>?_) fun V0=>?_)
     ·refine qD rfl ⟨⟩ ?_;rintro m2 ⟨D0,j2⟩;refine lP0 rfl ⟨⟩ ⟨rfl,?_,D0,rfl⟩;intro a' x0 g0;rw[e0] at x0;cases x0;exact o2a V0
     refine qD rfl ⟨⟩ ?_;rintro m2 ⟨D0,j2⟩;refine lT rfl ⟨⟩ rfl ⟨p1a (fun h=>?_),D0.fin⟩;exact P1a V0 (h.val e0 (by omega))
    refine qB S.q [.o 0] rfl ⟨rfl,⟨⟩⟩ (fun i4=>?_) fun i4=>?_
    ·obtain⟨a,H2,H3,d4,e0,W0,a3,m3,Y0,Z0⟩:=RdS.get (d0) (k) (by omega);obtain⟨n2,r3,I2,rfl,q3,X0⟩:=U0a.open_ Z0;refine qO (S.q.a Y0) [.w 1,.o 0,.x H2 H3,.f 0 1] rfl ⟨rfl,⟨W0,by omega⟩,rfl,⟨rfl,rfl⟩,⟨⟩⟩ (Y1a j0b rfl rfl (fun w1 S1 X1=>B6a p _ M _ _ _ _ false t (hP.keep (S1.keep0 M)) (RdE.keep (S1.keep0 M) _ _ X0) (Z2 _ S1.size) (hs a (c0a e0)).2) (fun V0=>?_) fun V0=>?_)
     ·refine qD rfl ⟨⟩ ?_;rintro m2 ⟨D0,j2⟩;refine lP0 rfl ⟨⟩ ⟨rfl,?_,D0,rfl⟩;intro a' x0 g0;rw[e0] at x0;cases x0;exact o2a V0
     refine qD rfl ⟨⟩ ?_;rintro m2 ⟨D0,j2⟩;refine lT rfl ⟨⟩ rfl ⟨p1a (fun h=>?_),D0.fin⟩;exact P1a V0 (h.val e0 (by omega))
    refine qD rfl ⟨⟩ ?_;rintro m2 ⟨D0,j2⟩;refine lP0 rfl ⟨⟩ ⟨rfl,?_,D0,rfl⟩;intro a' x0 g0;exfalso;omega
   rintro D ε w ⟨rfl,Q3,S,eZ⟩;refine wK eZ ?_;obtain⟨b,Z3,r4,_,a1,W2,_,_,b3,n3⟩:=RdS.get (d0) (k) (by omega);obtain⟨_,_,_,rfl,_,_⟩:=U0a.open_ n3;refine wO (S.k.a b3) [.o 0,.x Z3 r4,.f 0 0,.w 1] rfl ⟨⟨rfl,rfl⟩,rfl,⟨W2,by omega⟩,rfl,⟨⟩⟩ (C0a S w2b rfl rfl (c7b p M _ _ _ t (hP.keep (S.keep0 M)) (r0 b (c0a a1)).1 (r0 b (c0a a1)).2) (fun T2 v4 h1 W3=>?_) (fun T2 v4 h1 W3=>?_))
   ·refine lP0 rfl ⟨by omega,⟨⟩⟩ ⟨μk-1,by omega,rfl,(k+1),(by omega),?_,?_,h1,rfl⟩
    ·intro j a' x0 hj g0;by_cases j3:j=k
     ·subst j3;exact Q3 a' x0 g0
     ·exact hv j a' x0 (by omega) g0
    ·refine hc.succ a1 ?_;exact .inl (of_decide_eq_true T2)
   refine lO h1.k [.w 1] rfl ⟨⟨rfl,rfl⟩,⟨⟩⟩ (C0a h1 A6b rfl rfl (m0b p M _ _ _ (hP.keep (h1.keep0 M)) (r0 b (c0a a1)).1 (r0 b (c0a a1)).2) (fun U2 w4 p2 Y3=>?_) (fun U2 w4 p2 Y3=>?_))
   ·refine lP0 rfl ⟨by omega,⟨⟩⟩ ⟨μk-1,by omega,rfl,(k+1),(by omega),?_,?_,p2,rfl⟩
    ·intro j a' x0 hj g0;by_cases j3:j=k
     ·subst j3;exact Q3 a' x0 g0
     ·exact hv j a' x0 (by omega) g0
    ·refine hc.succ a1 ?_;exact .inr (of_decide_eq_true U2)
   refine lT rfl ⟨⟩ rfl ⟨p1a (fun h=>?_),p2.fin⟩;exact(h.cells b (c0a a1)).elim (of_decide_eq_false T2) (of_decide_eq_false U2)
  refine lB S.k [.o 0] rfl ⟨rfl,⟨⟩⟩ (fun j4=>?_) fun j4=>?_
  ·refine lC0 rfl ⟨⟩ (wL (fun μi D ε w=>D=[]∧∃i:Nat,(i+μi=(s.set.length))∧(o1a (s.set) i (fun a=>I1a p.cells a.cell=t))∧St [] w0 w [(some g5,97,[.int .i64 s.kind,.int .i64 s.frm,.int .i64 s.to,.int .i64 s.guard.op,.int .i64 s.guard.w,.int .i64 s.guard.n,.slice Ag ng cg,.slice As ns n1,.bool s.release,.int .i64 s.target,.int .i64 s.module_]),(some g3,27,[.slice Ac nc cc,.slice Am nm cm,.slice Al nl cl,.slice At nt ct])]∧Sl ε [(1,.int .i64 t),(3,.pointer (some ⟨g3,0,none⟩)),(5,.pointer (some ⟨g5,0,none⟩)),(7,.int .i64 ns),(11,.int .i64 i)]) (μ:=(s.set.length)) ⟨rfl,0,by omega,o1a.zero,S,rfl⟩ ?_);rintro μi D ε w ⟨rfl,i,hi,ho,S,eZ⟩;refine wK eZ (wB0 rfl ⟨⟩ (fun k4=>?_) fun k4=>?_)
   ·refine lC0 rfl ⟨⟩ (v0a b0a [0,1,2,3,4,5,6,7,8,9] [] [] (by kernel_rfl) rfl (Cl _ _ _ _) (Cl.start S) ?_);obtain⟨a,a4,s4,_,e0,X2,_,_,d3,o3⟩:=RdS.get (d0) (i) (by omega);obtain⟨_,_,_,rfl,_,_⟩:=U0a.open_ o3;refine qO (S.q.a d3) [.w 1,.o 0,.x a4 s4,.f 0 0] rfl ⟨rfl,⟨X2,by omega⟩,rfl,⟨rfl,rfl⟩,⟨⟩⟩ (Y1a w2b rfl rfl (fun w1 S1 X1=>c7b p M _ _ _ t (hP.keep (S1.keep0 M)) (r0 a (c0a e0)).1 (r0 a (c0a e0)).2) (fun V2=>?_) fun V2=>?_)
    ·refine qD rfl ⟨⟩ ?_;rintro K3 ⟨L0,s2⟩;refine lP0 rfl ⟨by omega,⟨⟩⟩ ⟨μi-1,by omega,rfl,(i+1),(by omega),(ho.succ e0 (of_decide_eq_true V2)),L0,rfl⟩
    refine qD rfl ⟨⟩ ?_;rintro K3 ⟨L0,s2⟩;refine lT rfl ⟨⟩ rfl ⟨p1a (fun h=>?_),L0.fin⟩;exact of_decide_eq_false V2 (h.k1 (by omega) a (c0a e0))
   refine lT rfl ⟨⟩ rfl ?_;refine⟨Z3a ⟨o2a E0,fun i hi g0=>hv i _ (List.getElem?_eq_getElem hi) (by omega) g0,hc.all (by omega),?_,?_,?_,?_,?_,?_⟩,S.fin⟩<;>intro f1;all_goals first
    | (exfalso;omega)
    | exact ho.all (by omega)
  refine lB0 rfl ⟨⟩ (fun m4=>?_) fun m4=>?_
  ·refine lC0 rfl ⟨⟩ (v0a b0a [0,1,2,3,4,5,6,7,8,9,10,11,12,13,14,15,16,17,18,19,20,21,22,23,24] [] [] (by kernel_rfl) rfl (Cl _ _ _ _) (Cl.start S) ?_);refine qB0 rfl ⟨⟩ (fun n4=>?_) fun n4=>?_
   ·refine qD rfl ⟨⟩ ?_;rintro b1 ⟨i0,O0⟩;refine lT rfl ⟨⟩ rfl ⟨p1a (fun h=>?_),i0.fin⟩
    (have hk:=h.k2 (by omega)
     obtain⟨a',l',e1,e2,e3,e4,e5,e6,e7⟩:=hk;have el:s.set.length=l'.length+1:=by rw[e1];rfl
     omega)
   obtain⟨a0,b4,t4,_,b0,Y2,_,_,h3,p3⟩:=RdS.get (d0) (0) (by omega);obtain⟨_,_,_,rfl,_,_⟩:=U0a.open_ p3;refine qO (S.q.a h3) [.w 1,.o 0,.x b4 t4,.f 0 0] rfl ⟨rfl,⟨Y2,by omega⟩,rfl,⟨rfl,rfl⟩,⟨⟩⟩ (Y1a w2b rfl rfl (fun w1 S1 X1=>c7b p M _ _ _ t (hP.keep (S1.keep0 M)) (r0 a0 (c0a b0)).1 (r0 a0 (c0a b0)).2) (fun Q0=>?_) fun Q0=>?_)
   ·obtain⟨_,u2,s3,_,Z1,o1,_,_,C1,J1⟩:=RdS.get (d0) (0) (by omega);obtain rfl:=Option.some.inj (b0.symm.trans Z1);obtain⟨_,_,_,rfl,_,_⟩:=U0a.open_ J1;have i3:=r0 a0 (c0a b0);obtain⟨c0,v2,t3,_,B0,p1,_,_,F0,K1⟩:=RdS.get (hC) (a0.cell.toNat) (by omega);obtain⟨rfl,_,_,_,_⟩:=F2a.open_ K1;refine qO (S.q.a C1) [.o 1,.o 0,.x u2 s3,.f 0 0,.x v2 t3] rfl ⟨⟨p1,by omega⟩,rfl,⟨o1,by omega⟩,rfl,rfl,⟨⟩⟩ ?_;rcases(Bool.eq_false_or_eq_true (c0.ghost)).symm with n0|n0
    ·refine j0a m2a rfl (fun w1 hw=>by exact(hw.1.old (F0 _ _ rfl)).trans (congrArg (fun b=>some (Value.bool b)) n0)) rfl ?_;refine qD rfl ⟨⟩ ?_;rintro b1 ⟨i0,O0⟩;obtain⟨_,w2,u3,_,a2,q1,_,_,D1,M1⟩:=RdS.get (d0) (0) (by omega);obtain rfl:=Option.some.inj (b0.symm.trans a2);obtain⟨g1,g2,m1,rfl,_,_⟩:=U0a.open_ M1;refine lO (i0.k.a D1) [.o 0,.x w2 u3,.f 0 1] rfl ⟨rfl,⟨q1,by omega⟩,rfl,⟨⟩⟩ (m0a i0 j8a rfl rfl ?_);intro f4 A4 U3 y4 x4;refine e0a (kk:=0) (vs:=[_,_,_,_]) U3 t6a rfl rfl rfl rfl rfl rfl rfl ?_;intro T3 h0 M3;dsimp only[k0a,List.set] at h0;refine lB h0.k [.o 0] rfl ⟨rfl,⟨⟩⟩ (fun R0=>?_) fun R0=>?_
     ·refine lT rfl ⟨⟩ rfl ⟨p1a (fun h=>?_),h0.fin⟩
      (have hk:=h.k2 (by omega)
       obtain⟨a',l',e1,e2,e3,e4,e5,e6,e7⟩:=hk;have el:s.set.length=l'.length+1:=by rw[e1];rfl
       (obtain rfl:=Y4a e1 b0
        exact R0 e4))
     refine lO h0.k [.w 2,.o 0] rfl ⟨rfl,⟨rfl,rfl⟩,⟨⟩⟩ ?_;have N3:=e1b (hs a0 (c0a b0)).2 R0;refine C0a h0 A6b rfl rfl (m0b p M _ _ _ (hP.keep (h0.keep0 M)) N3.1 N3.2) (fun S0 I3 s0 q2=>?_) (fun S0 I3 s0 q2=>?_)
     ·obtain⟨c1,x2,v3,_,f2,r1,_,_,G0,N1⟩:=RdS.get (hC) (a0.to.n.toNat) (by omega);obtain⟨rfl,_,_,_,_⟩:=F2a.open_ N1;refine lO s0.k [.o 2,.o 0,.x x2 v3] rfl ⟨⟨r1,by omega⟩,rfl,rfl,⟨⟩⟩ ?_;cases u0:c1.ghost
      ·refine s0a m2a rfl (by exact(s0.old (G0 _ _ rfl)).trans (congrArg (fun b=>some (Value.bool b)) u0)) rfl ?_;refine lC0 rfl ⟨⟩ (wL (fun μi D ε w=>D=[]∧∃i:Nat,(i+μi=max (s.set.length) 1)∧(1≤i)∧(h5a s.set 1 i (fun b=>I1a p.cells b.cell=t∧E1b p.cells b.cell=true))∧St [] w0 w [(some f4,68,[.int .i64 a0.to.op,.int .i64 a0.to.w,.int .i64 a0.to.n,.slice g1 g2 m1]),(some g5,97,[.int .i64 s.kind,.int .i64 s.frm,.int .i64 s.to,.int .i64 s.guard.op,.int .i64 s.guard.w,.int .i64 s.guard.n,.slice Ag ng cg,.slice As ns n1,.bool s.release,.int .i64 s.target,.int .i64 s.module_]),(some g3,27,[.slice Ac nc cc,.slice Am nm cm,.slice Al nl cl,.slice At nt ct])]∧Sl ε [(1,.int .i64 t),(3,.pointer (some ⟨g3,0,none⟩)),(5,.pointer (some ⟨g5,0,none⟩)),(7,.int .i64 ns),(13,.int .i64 i)]) (μ:=(max (s.set.length) 1-1)) ⟨rfl,1,by omega,by omega,h5a.start (by omega),s0,rfl⟩ ?_);rintro μi D ε w ⟨rfl,i,hi,p4,ht,S,eZ⟩;refine wK eZ (wB0 rfl ⟨⟩ (fun J2=>?_) fun J2=>?_)
       ·refine lC0 rfl ⟨⟩ (v0a b0a [0,1,2,3,4,5,6,7,8,9,10,11,12,13,14,15,16,17,18,19,20,21,22,23] [] [] (by kernel_rfl) rfl (Cl _ _ _ _) (Cl.start S) ?_);obtain⟨a,y2,x3,_,e0,s1,_,_,E1,O1⟩:=RdS.get (d0) (i) (by omega);obtain⟨_,_,_,rfl,_,_⟩:=U0a.open_ O1;refine qO (S.q.a E1) [.w 2,.o 1,.x y2 x3,.f 0 0] rfl ⟨rfl,⟨s1,by omega⟩,rfl,⟨rfl,rfl⟩,⟨⟩⟩ (Y1a w2b rfl rfl (fun w1 S1 X1=>c7b p M _ _ _ t (hP.keep (S1.keep0 M)) (r0 a (c0a e0)).1 (r0 a (c0a e0)).2) (fun T0=>?_) fun T0=>?_)
        ·obtain⟨_,z2,y3,_,b2,t1,_,_,F1,P1⟩:=RdS.get (d0) (i) (by omega);obtain rfl:=Option.some.inj (e0.symm.trans b2);obtain⟨_,_,_,rfl,_,_⟩:=U0a.open_ P1;have q4:=r0 a (c0a e0);obtain⟨c2,A2,z3,_,C0,u1,_,_,H0,Q1⟩:=RdS.get (hC) (a.cell.toNat) (by omega);obtain⟨rfl,_,_,_,_⟩:=F2a.open_ Q1;refine qO (S.q.a F1) [.o 2,.o 1,.x z2 y3,.f 0 0,.x A2 z3] rfl ⟨⟨u1,by omega⟩,rfl,⟨t1,by omega⟩,rfl,rfl,⟨⟩⟩ ?_;rcases(Bool.eq_false_or_eq_true (c2.ghost)).symm with o0|o0
         ·refine j0a m2a rfl (fun w1 hw=>by exact(hw.1.old (H0 _ _ rfl)).trans (congrArg (fun b=>some (Value.bool b)) o0)) rfl ?_;refine qD rfl ⟨⟩ ?_;rintro h2 ⟨y0,i1⟩;refine lT rfl ⟨⟩ rfl ⟨p1a (fun h=>?_),y0.fin⟩
          (have hk:=h.k2 (by omega)
           obtain⟨a',l',e1,e2,e3,e4,e5,e6,e7⟩:=hk;have el:s.set.length=l'.length+1:=by rw[e1];rfl
           (obtain rfl:=Y4a e1 b0
            (have q:=(e7 a (e3b e1 e0 (by omega))).2;rw[G2a C0,o0] at q;cases q;done)))
         refine j0a m2a rfl (fun w1 hw=>by exact(hw.1.old (H0 _ _ rfl)).trans (congrArg (fun b=>some (Value.bool b)) o0)) rfl ?_;refine qD rfl ⟨⟩ ?_;rintro h2 ⟨y0,i1⟩;refine lP0 rfl ⟨by omega,⟨⟩⟩ ?_;refine⟨μi-1,by omega,rfl,(i+1),(by omega),(by omega),(ht.succ e0 ⟨of_decide_eq_true T0,by rw[G2a C0];exact o0⟩),y0,rfl⟩
        refine qD rfl ⟨⟩ ?_;rintro h2 ⟨y0,i1⟩;refine lT rfl ⟨⟩ rfl ⟨p1a (fun h=>?_),y0.fin⟩
        (have hk:=h.k2 (by omega)
         obtain⟨a',l',e1,e2,e3,e4,e5,e6,e7⟩:=hk;have el:s.set.length=l'.length+1:=by rw[e1];rfl
         (obtain rfl:=Y4a e1 b0
          exact of_decide_eq_false T0 (e7 a (e3b e1 e0 (by omega))).1))
       refine lT rfl ⟨⟩ rfl ?_;refine⟨Z3a ⟨o2a E0,fun i hi g0=>hv i _ (List.getElem?_eq_getElem hi) (by omega) g0,hc.all (by omega),?_,?_,?_,?_,?_,?_⟩,S.fin⟩<;>intro f1;all_goals first
        | (exfalso;omega)
        | (obtain⟨l,e1,e2⟩:=ht.tail (by omega) b0;exact⟨a0,l,e1,of_decide_eq_true Q0,by rw[G2a B0];exact n0,by omega,of_decide_eq_true S0,by rw[G2a f2];exact u0,e2⟩)
      refine s0a m2a rfl (by exact(s0.old (G0 _ _ rfl)).trans (congrArg (fun b=>some (Value.bool b)) u0)) rfl ?_;refine lT rfl ⟨⟩ rfl ⟨p1a (fun h=>?_),s0.fin⟩
      (have hk:=h.k2 (by omega)
       obtain⟨a',l',e1,e2,e3,e4,e5,e6,e7⟩:=hk;have el:s.set.length=l'.length+1:=by rw[e1];rfl
       (obtain rfl:=Y4a e1 b0
        (rw[G2a f2,u0] at e6;cases e6;done)))
     refine lT rfl ⟨⟩ rfl ⟨p1a (fun h=>?_),s0.fin⟩
     (have hk:=h.k2 (by omega)
      obtain⟨a',l',e1,e2,e3,e4,e5,e6,e7⟩:=hk;have el:s.set.length=l'.length+1:=by rw[e1];rfl
      (obtain rfl:=Y4a e1 b0
       exact of_decide_eq_false S0 e5))
    refine j0a m2a rfl (fun w1 hw=>by exact(hw.1.old (F0 _ _ rfl)).trans (congrArg (fun b=>some (Value.bool b)) n0)) rfl ?_;refine qD rfl ⟨⟩ ?_;rintro b1 ⟨i0,O0⟩;refine lT rfl ⟨⟩ rfl ⟨p1a (fun h=>?_),i0.fin⟩
    (have hk:=h.k2 (by omega)
     obtain⟨a',l',e1,e2,e3,e4,e5,e6,e7⟩:=hk;have el:s.set.length=l'.length+1:=by rw[e1];rfl
     (obtain rfl:=Y4a e1 b0
      (rw[G2a B0,n0] at e3;cases e3;done)))
   refine qD rfl ⟨⟩ ?_;rintro b1 ⟨i0,O0⟩;refine lT rfl ⟨⟩ rfl ⟨p1a (fun h=>?_),i0.fin⟩
   (have hk:=h.k2 (by omega)
    obtain⟨a',l',e1,e2,e3,e4,e5,e6,e7⟩:=hk;have el:s.set.length=l'.length+1:=by rw[e1];rfl
    (obtain rfl:=Y4a e1 b0
     exact of_decide_eq_false Q0 e2))
  refine lB0 rfl ⟨⟩ (fun K2=>?_) fun K2=>?_
  ·refine lC0 rfl ⟨⟩ (v0a b0a [0,1,2,3,4,5,6,7,8,9,10,11,12,13,14,15,16,17,18,19,20,21,22,23] [] [] (by kernel_rfl) rfl (Cl _ _ _ _) (Cl.start S) ?_);refine qB0 rfl ⟨⟩ (fun L2=>?_) fun L2=>?_
   ·refine qD rfl ⟨⟩ ?_;rintro d1 ⟨t0,P0⟩;refine lT rfl ⟨⟩ rfl ⟨p1a (fun h=>?_),t0.fin⟩
    (have hk:=h.k3 (by omega)
     obtain⟨a',l',e1,e2,e3,e7⟩:=hk;have el:s.set.length=l'.length+1:=by rw[e1];rfl
     omega)
   obtain⟨a0,B2,A3,_,b0,v1,_,_,G1,R1⟩:=RdS.get (d0) (0) (by omega);obtain⟨_,_,_,rfl,_,_⟩:=U0a.open_ R1;refine qO (S.q.a G1) [.w 1,.o 0,.x B2 A3,.f 0 0] rfl ⟨rfl,⟨v1,by omega⟩,rfl,⟨rfl,rfl⟩,⟨⟩⟩ (Y1a A6b rfl rfl (fun w1 S1 X1=>m0b p M _ _ _ (hP.keep (S1.keep0 M)) (r0 a0 (c0a b0)).1 (r0 a0 (c0a b0)).2) (fun U0=>?_) fun U0=>?_)
   ·obtain⟨_,C2,B3,_,d2,x1,_,_,H1,T1⟩:=RdS.get (d0) (0) (by omega);obtain rfl:=Option.some.inj (b0.symm.trans d2);obtain⟨_,_,_,rfl,_,_⟩:=U0a.open_ T1;have i3:=r0 a0 (c0a b0);obtain⟨c0,D2,C3,_,B0,y1,_,_,I0,U1⟩:=RdS.get (hC) (a0.cell.toNat) (by omega);obtain⟨rfl,_,_,_,_⟩:=F2a.open_ U1;refine qO (S.q.a H1) [.o 1,.o 0,.x C2 B3,.f 0 0,.x D2 C3] rfl ⟨⟨y1,by omega⟩,rfl,⟨x1,by omega⟩,rfl,rfl,⟨⟩⟩ ?_;rcases(Bool.eq_false_or_eq_true (c0.ghost)).symm with p0|p0
    ·refine j0a m2a rfl (fun w1 hw=>by exact(hw.1.old (I0 _ _ rfl)).trans (congrArg (fun b=>some (Value.bool b)) p0)) rfl ?_;refine qD rfl ⟨⟩ ?_;rintro d1 ⟨t0,P0⟩;refine lC0 rfl ⟨⟩ (wL (fun μi D ε w=>D=[]∧∃i:Nat,(i+μi=max (s.set.length) 1)∧(1≤i)∧(h5a s.set 1 i (fun b=>E1b p.cells b.cell=true))∧St [] w0 w [(some g5,97,[.int .i64 s.kind,.int .i64 s.frm,.int .i64 s.to,.int .i64 s.guard.op,.int .i64 s.guard.w,.int .i64 s.guard.n,.slice Ag ng cg,.slice As ns n1,.bool s.release,.int .i64 s.target,.int .i64 s.module_]),(some g3,27,[.slice Ac nc cc,.slice Am nm cm,.slice Al nl cl,.slice At nt ct])]∧Sl ε [(3,.pointer (some ⟨g3,0,none⟩)),(5,.pointer (some ⟨g5,0,none⟩)),(7,.int .i64 ns),(14,.int .i64 i)]) (μ:=(max (s.set.length) 1-1)) ⟨rfl,1,by omega,by omega,h5a.start (by omega),t0,rfl⟩ ?_);rintro μi D ε w ⟨rfl,i,hi,p4,ht,S,eZ⟩;refine wK eZ (wB0 rfl ⟨⟩ (fun N2=>?_) fun N2=>?_)
     ·refine lC0 rfl ⟨⟩ (v0a b0a [0,1,2,3,4,5,6,7,8,9,10,11] [] [] (by kernel_rfl) rfl (Cl _ _ _ _) (Cl.start S) ?_);obtain⟨a,E2,D3,_,e0,z1,_,_,I1,V1⟩:=RdS.get (d0) (i) (by omega);obtain⟨_,_,_,rfl,_,_⟩:=U0a.open_ V1;have q4:=r0 a (c0a e0);obtain⟨c2,F2,E3,_,C0,A1,_,_,J0,W1⟩:=RdS.get (hC) (a.cell.toNat) (by omega);obtain⟨rfl,_,_,_,_⟩:=F2a.open_ W1;refine qO (S.q.a I1) [.o 1,.o 0,.x E2 D3,.f 0 0,.x F2 E3] rfl ⟨⟨A1,by omega⟩,rfl,⟨z1,by omega⟩,rfl,rfl,⟨⟩⟩ ?_;rcases(Bool.eq_false_or_eq_true (c2.ghost)).symm with q0|q0
      ·refine j0a m2a rfl (fun w1 hw=>by exact(hw.1.old (J0 _ _ rfl)).trans (congrArg (fun b=>some (Value.bool b)) q0)) rfl ?_;refine qD rfl ⟨⟩ ?_;rintro L3 ⟨N0,t2⟩;refine lT rfl ⟨⟩ rfl ⟨p1a (fun h=>?_),N0.fin⟩
       (have hk:=h.k3 (by omega)
        obtain⟨a',l',e1,e2,e3,e7⟩:=hk;have el:s.set.length=l'.length+1:=by rw[e1];rfl
        (obtain rfl:=Y4a e1 b0
         (have q:=e7 a (e3b e1 e0 (by omega));rw[G2a C0,q0] at q;cases q;done)))
      refine j0a m2a rfl (fun w1 hw=>by exact(hw.1.old (J0 _ _ rfl)).trans (congrArg (fun b=>some (Value.bool b)) q0)) rfl ?_;refine qD rfl ⟨⟩ ?_;rintro L3 ⟨N0,t2⟩;refine lP0 rfl ⟨by omega,⟨⟩⟩ ?_;refine⟨μi-1,by omega,rfl,(i+1),(by omega),(by omega),(ht.succ e0 (by rw[G2a C0];exact q0)),N0,rfl⟩
     refine lT rfl ⟨⟩ rfl ?_;refine⟨Z3a ⟨o2a E0,fun i hi g0=>hv i _ (List.getElem?_eq_getElem hi) (by omega) g0,hc.all (by omega),?_,?_,?_,?_,?_,?_⟩,S.fin⟩<;>intro f1;all_goals first
      | (exfalso;omega)
      | (obtain⟨l,e1,e2⟩:=ht.tail (by omega) b0;exact⟨a0,l,e1,of_decide_eq_true U0,by rw[G2a B0];exact p0,e2⟩)
    refine j0a m2a rfl (fun w1 hw=>by exact(hw.1.old (I0 _ _ rfl)).trans (congrArg (fun b=>some (Value.bool b)) p0)) rfl ?_;refine qD rfl ⟨⟩ ?_;rintro d1 ⟨t0,P0⟩;refine lT rfl ⟨⟩ rfl ⟨p1a (fun h=>?_),t0.fin⟩
    (have hk:=h.k3 (by omega)
     obtain⟨a',l',e1,e2,e3,e7⟩:=hk;have el:s.set.length=l'.length+1:=by rw[e1];rfl
     (obtain rfl:=Y4a e1 b0
      (rw[G2a B0,p0] at e3;cases e3;done)))
   refine qD rfl ⟨⟩ ?_;rintro d1 ⟨t0,P0⟩;refine lT rfl ⟨⟩ rfl ⟨p1a (fun h=>?_),t0.fin⟩
   (have hk:=h.k3 (by omega)
    obtain⟨a',l',e1,e2,e3,e7⟩:=hk;have el:s.set.length=l'.length+1:=by rw[e1];rfl
    (obtain rfl:=Y4a e1 b0
     exact of_decide_eq_false U0 e2))
  refine lB0 rfl ⟨⟩ (fun O2=>?_) fun O2=>?_
  ·refine lT rfl ⟨⟩ rfl ?_;refine⟨Z3a ⟨o2a E0,fun i hi g0=>hv i _ (List.getElem?_eq_getElem hi) (by omega) g0,hc.all (by omega),?_,?_,?_,?_,?_,?_⟩,S.fin⟩<;>intro f1;all_goals (exfalso;omega)
  refine lC0 rfl ⟨⟩ (v0a b0a [0,1,2,3,4,5,6,7,8] [] [] (by kernel_rfl) rfl (Cl _ _ _ _) (Cl.start S) ?_);refine qB0 rfl ⟨⟩ (fun P2=>?_) fun P2=>?_
  ·refine qD rfl ⟨⟩ ?_;rintro i2 ⟨j0,j1⟩;refine lT rfl ⟨⟩ rfl ⟨p1a (fun h=>?_),j0.fin⟩
   (have q:=(h.k5 (by omega)).1;have el:s.set.length=0:=by simp[q]
    omega)
  refine qO S.q [.o 0] rfl ⟨rfl,⟨⟩⟩ (r1a M7c rfl rfl (fun w1 S1 X1=>t3c _) ?_);refine qO0 rfl ⟨⟩ (Y1a P9b rfl rfl (fun w1 S1 X1=>k9b _ ⟨1,1,1,[]⟩ M _ _ _ (RdE.keep (S1.keep0 M) _ _ hG) k1d) (fun z0=>?_) fun z0=>?_)
  ·refine qD rfl ⟨⟩ ?_;rintro i2 ⟨j0,j1⟩;refine lB j0.k [.o 0] rfl ⟨rfl,⟨⟩⟩ (fun Q2=>?_) fun Q2=>?_
   ·refine lT rfl ⟨⟩ rfl ?_;refine⟨Z3a ⟨o2a E0,fun i hi g0=>hv i _ (List.getElem?_eq_getElem hi) (by omega) g0,hc.all (by omega),?_,?_,?_,?_,?_,?_⟩,j0.fin⟩<;>intro f1;all_goals first
     | (exfalso;omega)
     | exact⟨List.length_eq_zero_iff.1 (by omega),o2a z0⟩
   refine lO j0.k [.o 0,.o 1] rfl ⟨rfl,rfl,⟨⟩⟩ (C0a j0 m3a rfl rfl (n7a _ _ _) (fun A0 J3 f0 r2=>?_) (fun A0 J3 f0 r2=>?_))
   ·refine lB f0.k [.o 0] rfl ⟨rfl,⟨⟩⟩ (fun R2=>?_) fun R2=>?_
    ·refine lB f0.k [.o 0] rfl ⟨rfl,⟨⟩⟩ (fun S2=>?_) fun S2=>?_
     ·refine lT rfl ⟨⟩ rfl ?_;refine⟨Z3a ⟨o2a E0,fun i hi g0=>hv i _ (List.getElem?_eq_getElem hi) (by omega) g0,hc.all (by omega),?_,?_,?_,?_,?_,?_⟩,f0.fin⟩<;>intro f1;all_goals first
       | (exfalso;omega)
       | exact⟨List.length_eq_zero_iff.1 (by omega),o2a z0⟩
       | (have O3:=of_decide_eq_true A0;exact⟨by unfold D2a;omega,by omega⟩)
     have O3:=of_decide_eq_true A0;obtain⟨u,G2,F3,_,R3,B1,_,_,K0,Y1⟩:=RdS.get (o4) (s.target.toNat) (by omega);obtain⟨_,_,_,_,_,_,_,_,_,_,_,_,rfl,_,_,_,_,_,_,_,_,_,_,_,_,_⟩:=N0a.open_ Y1;refine lO f0.k [.o 1,.o 0,.x G2 F3] rfl ⟨⟨B1,by omega⟩,rfl,rfl,⟨⟩⟩ ?_;cases v0:u.asleep
     ·refine s0a m2a rfl (by exact(f0.old (K0 _ _ rfl)).trans (congrArg (fun b=>some (Value.bool b)) v0)) rfl ?_;refine lT rfl ⟨⟩ rfl ⟨p1a (fun h=>?_),f0.fin⟩
      (have q:=h.k7 (by omega) u R3;rw[v0] at q;cases q;done)
     refine s0a m2a rfl (by exact(f0.old (K0 _ _ rfl)).trans (congrArg (fun b=>some (Value.bool b)) v0)) rfl ?_;refine lT rfl ⟨⟩ rfl ?_;refine⟨Z3a ⟨o2a E0,fun i hi g0=>hv i _ (List.getElem?_eq_getElem hi) (by omega) g0,hc.all (by omega),?_,?_,?_,?_,?_,?_⟩,f0.fin⟩<;>intro f1;all_goals first
      | (exfalso;omega)
      | exact⟨List.length_eq_zero_iff.1 (by omega),o2a z0⟩
      | (have O3:=of_decide_eq_true A0;exact⟨by unfold D2a;omega,by omega⟩)
      | (intro u' P3;rw[R3] at P3;cases P3;exact v0)
    refine lT rfl ⟨⟩ rfl ⟨p1a (fun h=>?_),f0.fin⟩
    (have q:=(h.k6 (by omega)).2;omega)
   refine lT rfl ⟨⟩ rfl ⟨p1a (fun h=>?_),f0.fin⟩
   (have q:=(h.k6 (by omega)).1;unfold D2a at q;have q5:=of_decide_eq_false A0;omega)
  refine qD rfl ⟨⟩ ?_;rintro i2 ⟨j0,j1⟩;refine lT rfl ⟨⟩ rfl ⟨p1a (fun h=>?_),j0.fin⟩;exact P1a z0 (h.k5 (by omega)).2
 refine lT rfl ⟨⟩ rfl ⟨p1a (fun h=>?_),o2.fin⟩;exact P1a E0 h.guard
theorem b0c(p:f0a)(s:y1a)(x:X0a)(t:Nat)(M:List Nat)(w0:World)(cs ss:List Value)(hP:q1a M w0 p cs)(hS:q2a M w0 ss s)(hM:∀g∈M,g<w0.heap.size)
 (hx:p.threads[t]?=some x) (a2:1≤x.points) (b2:x.points≤48) :
 M0a Tryz.prog 107 #[.agg cs.toArray,.int .i64 t,.agg ss.toArray] w0 fun v w'=>(∃a,v=.int .i64 a∧(a=0↔p8a p t x.points s))∧Below w0.heap.size w0 w':=by
 obtain⟨Ac,nc,cc,Am,nm,cm,Al,nl,cl,At,nt,ct,rfl,hC,_,_,O1,_,_,_,_,_,_,_,_⟩:=hP.open_;obtain⟨Ag,ng,cg,As,ns,T0,rfl,⟨_,_,_,_,_⟩,hG,g0,_,_⟩:=hS.open_;have Z1:=u1a hx;have S:=St.refl w0;have N1:∀w':World,w0.heap.size≤w'.heap.size→∀g∈M,g<w'.heap.size:=fun w' h g hg=>by have:=hM g hg;omega
 refine a0a Tryz.func107 rfl Tryz.ntmps107 rfl ?_;refine wO0 rfl ⟨⟩ (h0a S (by conv=>lhs;whnf) rfl ?_);intro g3 w3 S3 X3 G3;refine h0a S3 (by conv=>lhs;whnf) rfl ?_;intro g5 w5 S5 X5 G5;obtain⟨_,D1,Q1,_,P1,g1,_,_,i1,m1⟩:=RdS.get (O1) (t) (by omega);obtain⟨_,_,_,_,_,_,_,_,_,_,_,_,rfl,_,_,_,_,_,_,_,_,_,_,_,_,_⟩:=N0a.open_ m1;obtain rfl:=Option.some.inj (hx.symm.trans P1);refine lCn 14 (S5.k.a i1) [.o 1,.x D1 Q1,.f 0 1] rfl ⟨rfl,⟨g1,by omega⟩,rfl,⟨⟩⟩ (wX (fun D ε w=>D=[]∧∃z0:Bool,(z0=true↔s.kind=6∨s.kind=7)∧St [] w0 w [(some g5,97,[.int .i64 s.kind,.int .i64 s.frm,.int .i64 s.to,.int .i64 s.guard.op,.int .i64 s.guard.w,.int .i64 s.guard.n,.slice Ag ng cg,.slice As ns T0,.bool s.release,.int .i64 s.target,.int .i64 s.module_]),(some g3,27,[.slice Ac nc cc,.slice Am nm cm,.slice Al nl cl,.slice At nt ct])]∧Sl ε [(1,.int .i64 t),(3,.pointer (some ⟨g3,0,none⟩)),(5,.pointer (some ⟨g5,0,none⟩)),(7,.int .i64 x.points),(8,.bool z0)]) ?_ ?_)
 ·refine wB S5.k [.o 0] rfl ⟨rfl,⟨⟩⟩ (fun F1=>?_) fun F1=>?_
  ·refine lP0 rfl ⟨⟩ ⟨rfl,(_),?_,S5,rfl⟩;exact iff_of_true rfl (by omega)
  refine lB S5.k [.o 0] rfl ⟨rfl,⟨⟩⟩ (fun G1=>?_) fun G1=>?_
  ·refine lP0 rfl ⟨⟩ ⟨rfl,(_),?_,S5,rfl⟩;exact iff_of_true rfl (by omega)
  refine lP0 rfl ⟨⟩ ⟨rfl,(_),?_,S5,rfl⟩;exact iff_of_false Bool.false_ne_true (by omega)
 rintro D ε w ⟨rfl,z0,s0,S,eZ⟩;refine wK eZ (wX (fun D ε w=>D=[]∧((1≤s.kind∧s.kind≤7)∧(0≤s.frm∧s.frm<x.points-1)∧(0≤s.to∧s.to<x.points)∧D2a s.module_ p.modules.length∧(s.release=true→s.kind=3)∧(s.target≠0→s.kind=6∨s.kind=7))∧St [] w0 w [(some g5,97,[.int .i64 s.kind,.int .i64 s.frm,.int .i64 s.to,.int .i64 s.guard.op,.int .i64 s.guard.w,.int .i64 s.guard.n,.slice Ag ng cg,.slice As ns T0,.bool s.release,.int .i64 s.target,.int .i64 s.module_]),(some g3,27,[.slice Ac nc cc,.slice Am nm cm,.slice Al nl cl,.slice At nt ct])]∧Sl ε [(1,.int .i64 t),(3,.pointer (some ⟨g3,0,none⟩)),(5,.pointer (some ⟨g5,0,none⟩))]) ?_ ?_)
 ·refine wB S.k [.o 0] rfl ⟨rfl,⟨⟩⟩ (fun H1=>?_) fun H1=>?_
  ·refine lT rfl ⟨⟩ rfl ⟨⟨_,rfl,iff_of_false (by omega) (fun h=>?_)⟩,S.fin⟩;have q1:=h.kind;have q2:=h.frm;have q3:=h.to;have q4:=h.mod;have q5:=h.rel;have q6:=h.tgt;unfold D2a at q4;omega
  refine lB S.k [.o 0] rfl ⟨rfl,⟨⟩⟩ (fun I1=>?_) fun I1=>?_
  ·refine lT rfl ⟨⟩ rfl ⟨⟨_,rfl,iff_of_false (by omega) (fun h=>?_)⟩,S.fin⟩;have q1:=h.kind;have q2:=h.frm;have q3:=h.to;have q4:=h.mod;have q5:=h.rel;have q6:=h.tgt;unfold D2a at q4;omega
  refine lO S.k [.o 0] rfl ⟨by omega,rfl,⟨⟩⟩ (C0a S m3a rfl rfl (n7a _ _ _) (fun t0 T1 R0 z1=>?_) (fun t0 T1 R0 z1=>?_))
  ·refine lO R0.k [.o 0] rfl ⟨rfl,⟨⟩⟩ (C0a R0 m3a rfl rfl (n7a _ _ _) (fun u0 U1 S0 A1=>?_) (fun u0 U1 S0 A1=>?_))
   ·refine lO S0.k [.o 0,.o 1] rfl ⟨rfl,rfl,⟨⟩⟩ (C0a S0 m3a rfl rfl (n7a _ _ _) (fun v0 V1 b0 B1=>?_) (fun v0 V1 b0 B1=>?_))
    ·refine lO0 rfl ⟨⟩ ?_;rcases(Bool.eq_false_or_eq_true (s.release)).symm with a0|a0
     ·refine s0a m2a rfl (by exact(b0.cell 0 rfl rfl).trans (congrArg (fun b=>some (Value.bool b)) a0)) rfl ?_;refine lB b0.k [.o 0] rfl ⟨rfl,⟨⟩⟩ (fun f1=>?_) fun f1=>?_
      ·refine lOn 1 b0.k [] rfl ⟨⟩ (s6b rfl rfl rfl ?_);cases h0:z0
       ·refine Z0a (v:=.bool _) rfl rfl ?_;refine lT rfl ⟨⟩ rfl ⟨⟨_,rfl,iff_of_false (by omega) (fun h=>?_)⟩,b0.fin⟩;have q1:=h.kind;have q2:=h.frm;have q3:=h.to;have q4:=h.mod;have q5:=h.rel;have q6:=h.tgt;unfold D2a at q4
        (have z:=s0.2 (q6 (by omega));rw[h0] at z;cases z;done)
       refine Z0a (v:=.bool _) rfl rfl ?_;refine lP0 rfl ⟨⟩ ⟨rfl,?_,b0,rfl⟩;refine⟨⟨by omega,by omega⟩,?_,?_,?_,?_,?_⟩
       ·have:=of_decide_eq_true t0;omega
       ·have:=of_decide_eq_true u0;omega
       ·have:=of_decide_eq_true v0;unfold D2a;omega
       ·intro f0;rw[f0] at a0;cases a0;done
       ·intro o1;exact s0.1 h0
      refine lP0 rfl ⟨⟩ ⟨rfl,?_,b0,rfl⟩;refine⟨⟨by omega,by omega⟩,?_,?_,?_,?_,?_⟩
      ·have:=of_decide_eq_true t0;omega
      ·have:=of_decide_eq_true u0;omega
      ·have:=of_decide_eq_true v0;unfold D2a;omega
      ·intro f0;rw[f0] at a0;cases a0;done
      ·intro o1;omega
     refine s0a m2a rfl (by exact(b0.cell 0 rfl rfl).trans (congrArg (fun b=>some (Value.bool b)) a0)) rfl ?_;refine lB b0.k [.o 0] rfl ⟨rfl,⟨⟩⟩ (fun J1=>?_) fun J1=>?_
     ·refine lT rfl ⟨⟩ rfl ⟨⟨_,rfl,iff_of_false (by omega) (fun h=>?_)⟩,b0.fin⟩;have q1:=h.kind;have q2:=h.frm;have q3:=h.to;have q4:=h.mod;have q5:=h.rel;have q6:=h.tgt;unfold D2a at q4
      (have z:=q5 a0;omega)
     refine lB b0.k [.o 0] rfl ⟨rfl,⟨⟩⟩ (fun f1=>?_) fun f1=>?_
     ·refine lOn 1 b0.k [] rfl ⟨⟩ (s6b rfl rfl rfl ?_);cases h0:z0
      ·refine Z0a (v:=.bool _) rfl rfl ?_;refine lT rfl ⟨⟩ rfl ⟨⟨_,rfl,iff_of_false (by omega) (fun h=>?_)⟩,b0.fin⟩;have q1:=h.kind;have q2:=h.frm;have q3:=h.to;have q4:=h.mod;have q5:=h.rel;have q6:=h.tgt;unfold D2a at q4;omega
      refine Z0a (v:=.bool _) rfl rfl ?_;refine lP0 rfl ⟨⟩ ⟨rfl,?_,b0,rfl⟩;refine⟨⟨by omega,by omega⟩,?_,?_,?_,?_,?_⟩
      ·have:=of_decide_eq_true t0;omega
      ·have:=of_decide_eq_true u0;omega
      ·have:=of_decide_eq_true v0;unfold D2a;omega
      ·intro f0;omega
      ·intro o1;exact s0.1 h0
     refine lP0 rfl ⟨⟩ ⟨rfl,?_,b0,rfl⟩;refine⟨⟨by omega,by omega⟩,?_,?_,?_,?_,?_⟩
     ·have:=of_decide_eq_true t0;omega
     ·have:=of_decide_eq_true u0;omega
     ·have:=of_decide_eq_true v0;unfold D2a;omega
     ·intro f0;omega
     ·intro o1;omega
    refine lT rfl ⟨⟩ rfl ⟨⟨_,rfl,iff_of_false (by omega) (fun h=>?_)⟩,b0.fin⟩;have q1:=h.kind;have q2:=h.frm;have q3:=h.to;have q4:=h.mod;have q5:=h.rel;have q6:=h.tgt;unfold D2a at q4
    (have z:=of_decide_eq_false v0;omega)
   refine lT rfl ⟨⟩ rfl ⟨⟨_,rfl,iff_of_false (by omega) (fun h=>?_)⟩,S0.fin⟩;have q1:=h.kind;have q2:=h.frm;have q3:=h.to;have q4:=h.mod;have q5:=h.rel;have q6:=h.tgt;unfold D2a at q4
   (have z:=of_decide_eq_false u0;omega)
  refine lT rfl ⟨⟩ rfl ⟨⟨_,rfl,iff_of_false (by omega) (fun h=>?_)⟩,R0.fin⟩;have q1:=h.kind;have q2:=h.frm;have q3:=h.to;have q4:=h.mod;have q5:=h.rel;have q6:=h.tgt;unfold D2a at q4
  (have z:=of_decide_eq_false t0;omega)
 rintro D ε w ⟨rfl,d0,S,eZ⟩;refine wK eZ (wO S.k [.o 0,.o 1] rfl ⟨rfl,rfl,⟨⟩⟩ ?_);refine C0a S U2b rfl rfl (M9a _ M _ _ _ p.cells false (RdE.keep (S.keep0 M) _ _ hG) (hC.keep (S.keep0 M))) (fun U0 W1 x0 C1=>?_) (fun U0 W1 x0 C1=>?_)
 ·refine lB x0.k [.o 0] rfl ⟨rfl,⟨⟩⟩ (fun K1=>?_) fun K1=>?_
  ·refine lT rfl ⟨⟩ rfl ⟨⟨_,rfl,iff_of_false (by omega) (fun h=>?_)⟩,x0.fin⟩;have q1:=h.kind;have q2:=h.frm;have q3:=h.to;have q4:=h.mod;have q5:=h.rel;have q6:=h.tgt;unfold D2a at q4
   (have z:=h.guard.2;omega)
  refine lC0 rfl ⟨⟩ (wL (fun μk D ε w=>D=[]∧∃k:Nat,(k+μk=(s.set.length))∧(o1a (s.set) k (fun a=>D2a a.cell p.cells.length∧a.to.valid p.cells false=true∧a.to.w=wAt p.cells a.cell))∧(L3a s.set k (fun a b=>a.cell≠b.cell))∧St [] w0 w [(some g5,97,[.int .i64 s.kind,.int .i64 s.frm,.int .i64 s.to,.int .i64 s.guard.op,.int .i64 s.guard.w,.int .i64 s.guard.n,.slice Ag ng cg,.slice As ns T0,.bool s.release,.int .i64 s.target,.int .i64 s.module_]),(some g3,27,[.slice Ac nc cc,.slice Am nm cm,.slice Al nl cl,.slice At nt ct])]∧Sl ε [(1,.int .i64 t),(3,.pointer (some ⟨g3,0,none⟩)),(5,.pointer (some ⟨g5,0,none⟩)),(9,.int .i64 k)]) (μ:=(s.set.length)) ⟨rfl,0,by omega,o1a.zero,L3a.zero,x0,rfl⟩ ?_);rintro μk D ε w ⟨rfl,k,_,hs,hp,S,eZ⟩;refine wK eZ (wB S.k [.o 0] rfl ⟨rfl,⟨⟩⟩ (fun M1=>?_) fun M1=>?_)
  ·obtain⟨a,E1,R1,_,i0,h1,_,_,j1,n1⟩:=RdS.get (g0) (k) (by omega);obtain⟨_,_,_,rfl,_,_⟩:=U0a.open_ n1;refine lO (S.k.a j1) [.o 0,.x E1 R1,.f 0 0,.o 1] rfl ⟨rfl,rfl,⟨h1,by omega⟩,rfl,⟨⟩⟩ (C0a S m3a rfl rfl (n7a _ _ _) (fun o0 u1 j0 V0=>?_) (fun o0 u1 j0 V0=>?_))
   ·refine lC0 rfl ⟨⟩ (wL (fun μj D ε w=>D=[]∧∃j:Nat,(j+μj=(k))∧(o1a (s.set) j (fun b=>b.cell≠a.cell))∧St [] w0 w [(some g5,97,[.int .i64 s.kind,.int .i64 s.frm,.int .i64 s.to,.int .i64 s.guard.op,.int .i64 s.guard.w,.int .i64 s.guard.n,.slice Ag ng cg,.slice As ns T0,.bool s.release,.int .i64 s.target,.int .i64 s.module_]),(some g3,27,[.slice Ac nc cc,.slice Am nm cm,.slice Al nl cl,.slice At nt ct])]∧Sl ε [(1,.int .i64 t),(3,.pointer (some ⟨g3,0,none⟩)),(5,.pointer (some ⟨g5,0,none⟩)),(9,.int .i64 k),(10,.int .i64 a.cell),(11,.int .i64 j)]) (μ:=(k)) ⟨rfl,0,by omega,o1a.zero,j0,rfl⟩ ?_);rintro μj D ε w ⟨rfl,j,_,hn,S,eZ⟩;refine wK eZ (wB0 rfl ⟨⟩ (fun b1=>?_) fun b1=>?_)
    ·obtain⟨b,X0,p1,_,x1,A0,_,_,F0,J0⟩:=RdS.get (g0) (j) (by omega);obtain⟨_,_,_,rfl,_,_⟩:=U0a.open_ J0;refine lB (S.k.a F0) [.o 0,.x X0 p1,.f 0 0] rfl ⟨rfl,⟨A0,by omega⟩,rfl,⟨⟩⟩ (fun p0=>?_) fun p0=>?_
     ·refine lT rfl ⟨⟩ rfl ⟨⟨_,rfl,iff_of_false (by omega) (fun h=>?_)⟩,S.fin⟩;have q1:=h.kind;have q2:=h.frm;have q3:=h.to;have q4:=h.mod;have q5:=h.rel;have q6:=h.tgt;unfold D2a at q4;exact i6a h.once x1 i0 (by omega) p0
     refine lP0 rfl ⟨by omega,⟨⟩⟩ ⟨μj-1,by omega,rfl,(j+1),(by omega),(hn.succ x1 (p0)),S,rfl⟩
    refine lC0 rfl ⟨⟩ (v0a b0a [0,1,2,3,4,5,6,7,8,9,10,11,12,13,14,15,16,17,18,19,20,21,22,23,24,25] [] [] (by kernel_rfl) rfl (Cl _ _ _ _) (Cl.start S) ?_);obtain⟨_,Y0,r1,_,O0,B0,_,_,G0,K0⟩:=RdS.get (g0) (k) (by omega);obtain rfl:=Option.some.inj (i0.symm.trans O0);obtain⟨_,_,_,rfl,_,E0⟩:=U0a.open_ K0;refine qO (S.q.a G0) [.o 0,.x Y0 r1,.f 0 1,.o 1] rfl ⟨rfl,rfl,⟨B0,by omega⟩,rfl,⟨⟩⟩ (Y1a U2b rfl rfl (fun w1 S1 X1=>M9a _ M _ _ _ p.cells false (RdE.keep (S1.keep0 M) _ _ E0) (hC.keep (S1.keep0 M))) (fun q0=>?_) fun q0=>?_)
    ·obtain⟨_,Z0,s1,_,P0,C0,_,_,H0,L0⟩:=RdS.get (g0) (k) (by omega);obtain rfl:=Option.some.inj (i0.symm.trans P0);obtain⟨_,_,_,rfl,_,_⟩:=U0a.open_ L0;have Y1:=of_decide_eq_true o0;obtain⟨_,a1,t1,_,y1,D0,_,_,I0,N0⟩:=RdS.get (hC) (a.cell.toNat) (by omega);obtain⟨rfl,_,_,_,_⟩:=F2a.open_ N0;refine qB ((S.q.a I0).a H0) [.o 0,.x Z0 s1,.f 0 2,.o 1,.x a1 t1,.f 1 1] rfl ⟨rfl,⟨D0,by omega⟩,rfl,rfl,⟨C0,by omega⟩,rfl,⟨⟩⟩ (fun d1=>?_) fun d1=>?_
     ·refine qD rfl ⟨⟩ ?_;rintro Q0 ⟨e0,y0⟩;refine lT rfl ⟨⟩ rfl ⟨⟨_,rfl,iff_of_false (by omega) (fun h=>?_)⟩,e0.fin⟩;have q1:=h.kind;have q2:=h.frm;have q3:=h.to;have q4:=h.mod;have q5:=h.rel;have q6:=h.tgt;unfold D2a at q4
      (have z:=(h.set a (c0a i0)).2.2;rw[i5a (by omega) y1] at z;omega)
     refine qD rfl ⟨⟩ ?_;rintro Q0 ⟨e0,y0⟩;refine lP0 rfl ⟨by omega,⟨⟩⟩ ?_;refine⟨μk-1,by omega,rfl,(k+1),(by omega),(hs.succ i0 (⟨by unfold D2a;omega,q0,by rw[i5a (by omega) y1];omega⟩)),(hp.succ i0 (j:=j) (by omega) hn),e0,rfl⟩
    refine qD rfl ⟨⟩ ?_;rintro Q0 ⟨e0,y0⟩;refine lT rfl ⟨⟩ rfl ⟨⟨_,rfl,iff_of_false (by omega) (fun h=>?_)⟩,e0.fin⟩;have q1:=h.kind;have q2:=h.frm;have q3:=h.to;have q4:=h.mod;have q5:=h.rel;have q6:=h.tgt;unfold D2a at q4
    (have z:=(h.set a (c0a i0)).2.1;rw[q0] at z;cases z;done)
   refine lT rfl ⟨⟩ rfl ⟨⟨_,rfl,iff_of_false (by omega) (fun h=>?_)⟩,j0.fin⟩;have q1:=h.kind;have q2:=h.frm;have q3:=h.to;have q4:=h.mod;have q5:=h.rel;have q6:=h.tgt;unfold D2a at q4
   (have z:=(h.set a (c0a i0)).1;unfold D2a at z;have z2:=of_decide_eq_false o0;omega)
  refine lO S.k [.w 1,.w 0] rfl ⟨⟨rfl,rfl⟩,⟨rfl,rfl⟩,⟨⟩⟩ (C0a S S6c rfl rfl (k0c p s t M _ _ _ (hP.keep (S.keep0 M)) (q2a.keep (S.keep0 M) _ _ hS) (N1 _ S.size) d0.1 U0 (fun a ha=>⟨(hs.all (by omega) a ha).1,(hs.all (by omega) a ha).2.1⟩)) (fun r0 v1 n0 W0=>?_) (fun r0 v1 n0 W0=>?_))
  ·exact lT rfl ⟨⟩ rfl ⟨⟨_,rfl,iff_of_true (by omega) ⟨d0.1,d0.2.1,d0.2.2.1,d0.2.2.2.1,d0.2.2.2.2.1,d0.2.2.2.2.2,⟨U0,by omega⟩,hs.all (by omega),hp.all (by omega),o2a r0⟩⟩,n0.fin⟩
  refine lT rfl ⟨⟩ rfl ⟨⟨_,rfl,iff_of_false (by omega) (fun h=>?_)⟩,n0.fin⟩;have q1:=h.kind;have q2:=h.frm;have q3:=h.to;have q4:=h.mod;have q5:=h.rel;have q6:=h.tgt;unfold D2a at q4;exact P1a r0 h.row
 refine lT rfl ⟨⟩ rfl ⟨⟨_,rfl,iff_of_false (by omega) (fun h=>?_)⟩,x0.fin⟩;have q1:=h.kind;have q2:=h.frm;have q3:=h.to;have q4:=h.mod;have q5:=h.rel;have q6:=h.tgt;unfold D2a at q4
 (have z:=h.guard.1;rw[U0] at z;cases z;done)
theorem Q5b(p:f0a)(t:Nat)(M:List Nat)(w0:World)(cs:List Value)(hP:q1a M w0 p cs)(hM:∀g∈M,g<w0.heap.size)(hN:y2b p)(hL:E7c p)(w3:t<p.threads.length):
 M0a Tryz.prog 72 #[.agg cs.toArray,.int .i64 t] w0 fun v w'=>(∃a b,v=.tuple #[.int .i64 a,.int .i64 b]∧(a=0↔∀x,p.threads[t]?=some x→V6a p t x∧∀y∈p.threads.take t,y.name≠x.name))∧Below w0.heap.size w0 w':=by
 obtain⟨Ac,nc,cc,Am,nm,cm,Al,nl,cl,At,nt,ct,rfl,hC,_,_,C2,_,d0,_,_,_,_,_,_⟩:=hP.open_;have S:=St.refl w0;have Y1:∀w':World,w0.heap.size≤w'.heap.size→∀g∈M,g<w'.heap.size:=fun w' h g hg=>by have:=hM g hg;omega
 refine a0a Tryz.func72 rfl Tryz.ntmps72 rfl ?_;refine wO0 rfl ⟨⟩ (h0a S (by conv=>lhs;whnf) rfl ?_);intro g2 w2 S2 X2 G2;obtain⟨x,R2,g3,_,a0,T1,_,f2,Z1,i2⟩:=RdS.get (C2) (t) (by omega);obtain⟨e0,p0,i0,g0,r0,n0,h0,s0,o0,f0,q0,j0,rfl,_,X0,Z0,a1,Y0,_,_,_,_,_,_,_,_⟩:=N0a.open_ i2;have v3:=hL.2.2.2.2 x (c0a a0);refine lO (S2.k.a Z1) [.o 0,.x R2 g3,.v 0] rfl ⟨⟨rfl,f2⟩,⟨T1,by omega⟩,rfl,⟨⟩⟩ (m0a S2 F4b rfl rfl ?_);intro g6 w6 S6 X6 G6;refine e0a (kk:=0) (vs:=[_,_,_,_,_,_,_]) S6 O3b rfl rfl rfl rfl rfl rfl rfl ?_;intro o3 E0 O2;dsimp only[k0a,List.set] at E0;refine lO E0.k [.o 0] rfl ⟨rfl,⟨⟩⟩ (C0a E0 D2b rfl rfl (J9a _ _ (hN.threads x (c0a a0))) (fun O1 p3 v1 P2=>?_) (fun O1 p3 v1 P2=>?_))
 ·refine lC0 rfl ⟨⟩ (wL (fun μj D ε w=>D=[]∧∃j:Nat,(j+μj=(t))∧(o1a (p.threads) j (fun y=>y.name≠x.name))∧St [] w0 w [(some g6,93,[.string x.name,.int .i64 x.points,.slice e0 p0 i0,.slice g0 r0 n0,.slice h0 s0 o0,.slice f0 q0 j0,.bool x.asleep]),(some g2,27,[.slice Ac nc cc,.slice Am nm cm,.slice Al nl cl,.slice At nt ct])]∧Sl ε [(1,.int .i64 t),(2,.pointer (some ⟨g2,0,none⟩)),(6,.pointer (some ⟨g6,0,none⟩)),(7,.int .i64 j)]) (μ:=(t)) ⟨rfl,0,by omega,o1a.zero,v1,rfl⟩ ?_);rintro μj D ε w ⟨rfl,j,_,hn,S,eZ⟩;refine wK eZ (wB0 rfl ⟨⟩ (fun W2=>?_) fun W2=>?_)
  ·refine lC0 rfl ⟨⟩ (v0a b0a [0,1,2,3,4,5,6,7,8] [] [] (by kernel_rfl) rfl (Cl _ _ _ _) (Cl.start S) ?_);obtain⟨y,T2,h3,_,J2,U1,_,_,a2,j2⟩:=RdS.get (C2) (j) (by omega);obtain⟨_,_,_,_,_,_,_,_,_,_,_,_,rfl,_,_,_,_,_,_,_,_,_,_,_,_,_⟩:=N0a.open_ j2;refine qOn 8 (S.q.a a2) [.o 1,.x T2 h3,.f 0 0,.o 0] rfl ⟨rfl,rfl,⟨U1,by omega⟩,rfl,⟨⟩⟩ (h1c rfl rfl rfl (fun P1=>?_) fun P1=>?_)
   ·refine qD rfl ⟨⟩ ?_;rintro s3 ⟨x1,Q2⟩;refine lT2 rfl ⟨⟩ rfl ⟨⟨_,_,rfl,iff_of_false (by omega) (fun hh=>?_)⟩,x1.fin⟩;obtain⟨h,d0⟩:=hh x a0;have q1:=h.points;have q2:=h.asserts;have q3:=h.nmod;exact d0 y (List.mem_of_getElem? (i:=j) (by rw[List.getElem?_take,if_pos (by omega)];exact J2)) P1
   refine qD rfl ⟨⟩ ?_;rintro s3 ⟨x1,Q2⟩;refine lP0 rfl ⟨by omega,⟨⟩⟩ ⟨μj-1,by omega,rfl,(j+1),(by omega),(hn.succ J2 (P1)),x1,rfl⟩
  refine lB S.k [.o 0] rfl ⟨rfl,⟨⟩⟩ (fun Y2=>?_) fun Y2=>?_
  ·refine lT2 rfl ⟨⟩ rfl ⟨⟨_,_,rfl,iff_of_false (by omega) (fun hh=>?_)⟩,S.fin⟩;obtain⟨h,d0⟩:=hh x a0;have q1:=h.points;have q2:=h.asserts;have q3:=h.nmod;omega
  refine lB S.k [.o 0,.o 0] rfl ⟨rfl,rfl,⟨⟩⟩ (fun Z2=>?_) fun Z2=>?_
  ·refine lT2 rfl ⟨⟩ rfl ⟨⟨_,_,rfl,iff_of_false (by omega) (fun hh=>?_)⟩,S.fin⟩;obtain⟨h,d0⟩:=hh x a0;have q1:=h.points;have q2:=h.asserts;have q3:=h.nmod;omega
  refine lB S.k [.o 0,.o 0] rfl ⟨rfl,rfl,⟨⟩⟩ (fun a3=>?_) fun a3=>?_
  ·refine lT2 rfl ⟨⟩ rfl ⟨⟨_,_,rfl,iff_of_false (by omega) (fun hh=>?_)⟩,S.fin⟩;obtain⟨h,d0⟩:=hh x a0;have q1:=h.points;have q2:=h.asserts;have q3:=h.nmod;omega
  refine lC0 rfl ⟨⟩ (wL (fun μk D ε w=>D=[]∧∃k:Nat,(k+μk=(x.modules.length))∧(o1a (x.modules) k (fun m=>D2a m p.modules.length))∧St [] w0 w [(some g6,93,[.string x.name,.int .i64 x.points,.slice e0 p0 i0,.slice g0 r0 n0,.slice h0 s0 o0,.slice f0 q0 j0,.bool x.asleep]),(some g2,27,[.slice Ac nc cc,.slice Am nm cm,.slice Al nl cl,.slice At nt ct])]∧Sl ε [(1,.int .i64 t),(2,.pointer (some ⟨g2,0,none⟩)),(6,.pointer (some ⟨g6,0,none⟩)),(8,.int .i64 k)]) (μ:=(x.modules.length)) ⟨rfl,0,by omega,o1a.zero,S,rfl⟩ ?_);rintro μk D ε w ⟨rfl,k,hk,hm,S,eZ⟩;refine wK eZ (wB S.k [.o 0] rfl ⟨rfl,⟨⟩⟩ (fun b3=>?_) fun b3=>?_)
  ·refine lC0 rfl ⟨⟩ (v0a b0a [0,1,2,3,4,5,6,7,8,9] [] [] (by kernel_rfl) rfl (Cl _ _ _ _) (Cl.start S) ?_);obtain⟨m,U2,i3,_,H2,V1,_,_,b2,m2⟩:=RdS.get (Z0) (k) (by omega);obtain⟨rfl,_⟩:=id m2;refine qO (S.q.a b2) [.o 0,.x U2 i3,.f 0 0,.o 1] rfl ⟨rfl,rfl,⟨V1,by omega⟩,rfl,⟨⟩⟩ (Y1a m3a rfl rfl (fun w1 S1 X1=>n7a _ _ _) (fun Q1=>?_) fun Q1=>?_)
   ·refine qD rfl ⟨⟩ ?_;rintro x2 ⟨F0,D1⟩;refine lP0 rfl ⟨by omega,⟨⟩⟩ ?_;refine⟨μk-1,by omega,rfl,(k+1),(by omega),(hm.succ H2 (by have:=of_decide_eq_true Q1;unfold D2a;omega)),F0,rfl⟩
   refine qD rfl ⟨⟩ ?_;rintro x2 ⟨F0,D1⟩;refine lT2 rfl ⟨⟩ rfl ⟨⟨_,_,rfl,iff_of_false (by omega) (fun hh=>?_)⟩,F0.fin⟩;obtain⟨h,d0⟩:=hh x a0;have q1:=h.points;have q2:=h.asserts;have q3:=h.nmod
   (have z:=h.modules m (c0a H2);unfold D2a at z;have z2:=of_decide_eq_false Q1;omega)
  refine lC0 rfl ⟨⟩ (wL (fun μk D ε w=>D=[]∧∃k:Nat,(k+μk=(x.asserts.length))∧(o1a (x.asserts) k (fun e=>Q7a p.cells e false t))∧St [] w0 w [(some g6,93,[.string x.name,.int .i64 x.points,.slice e0 p0 i0,.slice g0 r0 n0,.slice h0 s0 o0,.slice f0 q0 j0,.bool x.asleep]),(some g2,27,[.slice Ac nc cc,.slice Am nm cm,.slice Al nl cl,.slice At nt ct])]∧Sl ε [(1,.int .i64 t),(2,.pointer (some ⟨g2,0,none⟩)),(6,.pointer (some ⟨g6,0,none⟩)),(9,.int .i64 k)]) (μ:=(x.asserts.length)) ⟨rfl,0,by omega,o1a.zero,S,rfl⟩ ?_);rintro μk D ε w ⟨rfl,k,hk,ha,S,eZ⟩;refine wK eZ (wB S.k [.o 0] rfl ⟨rfl,⟨⟩⟩ (fun d3=>?_) fun d3=>?_)
  ·refine lC0 rfl ⟨⟩ (v0a b0a [0,1,2,3,4,5,6,7,8] [] [] (by kernel_rfl) rfl (Cl _ _ _ _) (Cl.start S) ?_);obtain⟨e,V2,j3,_,F2,W1,_,h2,d2,o1⟩:=RdS.get (X0) (k) (by omega);obtain⟨_,_,_,rfl,_,_,_,_,_⟩:=RdE.cells o1;refine qO (S.q.a d2) [.w 1,.o 0,.x V2 j3,.v 0] rfl ⟨⟨rfl,h2⟩,⟨W1,by omega⟩,rfl,⟨rfl,rfl⟩,⟨⟩⟩ (Y1a x0b rfl rfl (fun w1 S1 X1=>z5a p e M _ _ _ false t (hP.keep (S1.keep0 M)) (RdE.keep (S1.keep0 M) _ _ o1) (Y1 _ S1.size)) (fun R1=>?_) fun R1=>?_)
   ·refine qD rfl ⟨⟩ ?_;rintro y2 ⟨G0,E1⟩;refine lP0 rfl ⟨by omega,⟨⟩⟩ ⟨μk-1,by omega,rfl,(k+1),(by omega),(ha.succ F2 (o2a R1)),G0,rfl⟩
   refine qD rfl ⟨⟩ ?_;rintro y2 ⟨G0,E1⟩;refine lT2 rfl ⟨⟩ rfl ⟨⟨_,_,rfl,iff_of_false (by omega) (fun hh=>?_)⟩,G0.fin⟩;obtain⟨h,d0⟩:=hh x a0;have q1:=h.points;have q2:=h.asserts;have q3:=h.nmod;exact P1a R1 (h.truth e (c0a F2))
  refine lC0 rfl ⟨⟩ (wL (fun μk D ε w=>D=[]∧∃k:Nat,(k+μk=(x.steps.length))∧(o1a (x.steps) k (fun s=>p8a p t x.points s))∧St [] w0 w [(some g6,93,[.string x.name,.int .i64 x.points,.slice e0 p0 i0,.slice g0 r0 n0,.slice h0 s0 o0,.slice f0 q0 j0,.bool x.asleep]),(some g2,27,[.slice Ac nc cc,.slice Am nm cm,.slice Al nl cl,.slice At nt ct])]∧Sl ε [(1,.int .i64 t),(2,.pointer (some ⟨g2,0,none⟩)),(6,.pointer (some ⟨g6,0,none⟩)),(10,.int .i64 k)]) (μ:=(x.steps.length)) ⟨rfl,0,by omega,o1a.zero,S,rfl⟩ ?_);rintro μk D ε w ⟨rfl,k,hk,hs,S,eZ⟩;refine wK eZ (wB S.k [.o 0] rfl ⟨rfl,⟨⟩⟩ (fun e3=>?_) fun e3=>?_)
  ·refine lC0 rfl ⟨⟩ (v0a b0a [0,1,2,3,4,5,6] [] [7,8] (by kernel_rfl) rfl (Cl _ _ _ _) (Cl.start S) ?_);obtain⟨s,F1,n2,_,I2,T0,_,h1,b1,B0⟩:=RdS.get (a1) (k) (by omega);obtain⟨_,_,_,_,_,_,rfl,⟨_,_,_,_,_⟩,_,_,_,_⟩:=q2a.open_ B0;refine qN (S.q.a b1) [.w 1,.o 0,.x F1 n2,.v 0] rfl ⟨⟨rfl,h1⟩,⟨T0,by omega⟩,rfl,⟨rfl,rfl⟩,⟨⟩⟩ (V3a ?_);refine R1a ?_;rintro r3 ⟨y0,_⟩;refine x0a y0 Z5c rfl rfl (b0c p s x t M _ _ _ (hP.keep (y0.keep0 M)) (q2a.keep (y0.keep0 M) _ _ B0) (Y1 _ y0.size) a0 (by omega) (by omega)) ?_;rintro m3 n3 ⟨_,rfl,D2⟩ P0 N2;refine lB0 rfl ⟨⟩ (fun J1=>?_) fun J1=>?_
   ·refine lT2 rfl ⟨⟩ rfl ⟨⟨_,_,rfl,iff_of_false (by omega) (fun hh=>?_)⟩,P0.fin⟩;obtain⟨h,d0⟩:=hh x a0;have q1:=h.points;have q2:=h.asserts;have q3:=h.nmod
    (have z:=D2.2 (h.steps s (c0a I2));omega)
   refine lP0 rfl ⟨by omega,⟨⟩⟩ ⟨μk-1,by omega,rfl,(k+1),(by omega),(hs.succ I2 (D2.1 (by omega))),P0,rfl⟩
  refine lC0 rfl ⟨⟩ (wL (fun μk D ε w=>D=[]∧∃k:Nat,(k+μk=(x.loops.length))∧(o1a (x.loops) k (fun l=>E9b p t x.points l))∧St [] w0 w [(some g6,93,[.string x.name,.int .i64 x.points,.slice e0 p0 i0,.slice g0 r0 n0,.slice h0 s0 o0,.slice f0 q0 j0,.bool x.asleep]),(some g2,27,[.slice Ac nc cc,.slice Am nm cm,.slice Al nl cl,.slice At nt ct])]∧Sl ε [(1,.int .i64 t),(2,.pointer (some ⟨g2,0,none⟩)),(6,.pointer (some ⟨g6,0,none⟩)),(12,.int .i64 k)]) (μ:=(x.loops.length)) ⟨rfl,0,by omega,o1a.zero,S,rfl⟩ ?_);rintro μk D ε w ⟨rfl,k,hk,hl,S,eZ⟩;refine wK eZ (wB S.k [.o 0] rfl ⟨rfl,⟨⟩⟩ (fun K1=>?_) fun K1=>?_)
  ·obtain⟨l,G1,o2,_,L0,U0,_,i1,d1,j1⟩:=RdS.get (Y0) (k) (by omega);obtain⟨N0,r1,R0,O0,s1,S0,rfl,_,x0,A0,_,_⟩:=E5a.open_ j1;refine lO (S.k.a d1) [.o 0,.x G1 o2,.v 0] rfl ⟨⟨rfl,i1⟩,⟨U0,by omega⟩,rfl,⟨⟩⟩ (m0a S o9b rfl rfl ?_);intro B2 x3 L2 u3 t3;refine e0a (kk:=0) (vs:=[_,_,_,_,_,_]) L2 M9b rfl rfl rfl rfl rfl rfl rfl ?_;intro K2 u0 A2;dsimp only[k0a,List.set] at u0;refine lO u0.k [.o 0,.o 1] rfl ⟨rfl,rfl,⟨⟩⟩ (C0a u0 m3a rfl rfl (n7a _ _ _) (fun H0 s2 t0 y1=>?_) (fun H0 s2 t0 y1=>?_))
   ·refine lO t0.k [.o 0] rfl ⟨rfl,⟨⟩⟩ (C0a t0 F0c rfl rfl (n4b M _ _ _ (x0.keep (t0.keep0 M))) (fun I0 t2 C0 A1=>?_) (fun I0 t2 C0 A1=>?_))
    ·refine lC0 rfl ⟨⟩ (wL (fun μi D ε w=>D=[]∧∃i:Nat,(i+μi=(l.body.length))∧(o1a (l.body) i (fun z=>0≤z∧z<x.points∧z≠l.head))∧St [] w0 w [(some B2,115,[.int .i64 l.head,.slice N0 r1 R0,.int .i64 l.variant.op,.int .i64 l.variant.w,.int .i64 l.variant.n,.slice O0 s1 S0]),(some g6,93,[.string x.name,.int .i64 x.points,.slice e0 p0 i0,.slice g0 r0 n0,.slice h0 s0 o0,.slice f0 q0 j0,.bool x.asleep]),(some g2,27,[.slice Ac nc cc,.slice Am nm cm,.slice Al nl cl,.slice At nt ct])]∧Sl ε [(1,.int .i64 t),(2,.pointer (some ⟨g2,0,none⟩)),(6,.pointer (some ⟨g6,0,none⟩)),(12,.int .i64 k),(13,.pointer (some ⟨B2,0,none⟩)),(14,.int .i64 i)]) (μ:=(l.body.length)) ⟨rfl,0,by omega,o1a.zero,C0,rfl⟩ ?_);rintro μi D ε w ⟨rfl,i,_,hb,S,eZ⟩;refine wK eZ (wB S.k [.o 0] rfl ⟨rfl,⟨⟩⟩ (fun M1=>?_) fun M1=>?_)
     ·refine lC0 rfl ⟨⟩ (v0a b0a [0,1,2,3,4,5,6,7,8,9,10,11,12,13,14,15,16,17,18] [] [] (by kernel_rfl) rfl (Cl _ _ _ _) (Cl.start S) ?_);obtain⟨z,H1,p2,_,u1,V0,_,_,f1,m1⟩:=RdS.get (x0) (i) (by omega);obtain⟨rfl,_⟩:=id m1;refine qO (S.q.a f1) [.o 0,.x H1 p2,.f 0 0,.o 1] rfl ⟨rfl,rfl,⟨V0,by omega⟩,rfl,⟨⟩⟩ (Y1a m3a rfl rfl (fun w1 S1 X1=>n7a _ _ _) (fun J0=>?_) fun J0=>?_)
      ·obtain⟨_,I1,r2,_,p1,W0,_,_,g1,n1⟩:=RdS.get (x0) (i) (by omega);obtain rfl:=Option.some.inj (u1.symm.trans p1);obtain⟨rfl,_⟩:=id n1;refine qB (S.q.a g1) [.o 0,.x I1 r2,.f 0 0,.o 0] rfl ⟨rfl,rfl,⟨W0,by omega⟩,rfl,⟨⟩⟩ (fun N1=>?_) fun N1=>?_
       ·refine qD rfl ⟨⟩ ?_;rintro t1 ⟨v0,Q0⟩;refine lT2 rfl ⟨⟩ rfl ⟨⟨_,_,rfl,iff_of_false (by omega) (fun hh=>?_)⟩,v0.fin⟩;obtain⟨h,d0⟩:=hh x a0;have q1:=h.points;have q2:=h.asserts;have q3:=h.nmod
        (have zl:=h.loops l (c0a L0)
         have z1:=zl.head
         (have z3:=zl.body z (c0a u1);omega))
       refine qD rfl ⟨⟩ ?_;rintro t1 ⟨v0,Q0⟩;refine lP0 rfl ⟨by omega,⟨⟩⟩ ?_;refine⟨μi-1,by omega,rfl,(i+1),(by omega),(hb.succ u1 (by have:=of_decide_eq_true J0;omega)),v0,rfl⟩
      refine qD rfl ⟨⟩ ?_;rintro t1 ⟨v0,Q0⟩;refine lT2 rfl ⟨⟩ rfl ⟨⟨_,_,rfl,iff_of_false (by omega) (fun hh=>?_)⟩,v0.fin⟩;obtain⟨h,d0⟩:=hh x a0;have q1:=h.points;have q2:=h.asserts;have q3:=h.nmod
      (have zl:=h.loops l (c0a L0)
       have z1:=zl.head
       (have z3:=zl.body z (c0a u1);(have z2:=of_decide_eq_false J0;omega)))
     refine lO S.k [.o 0,.o 2] rfl ⟨rfl,rfl,⟨⟩⟩ (C0a S U2b rfl rfl (M9a _ M _ _ _ p.cells false (RdE.keep (S.keep0 M) _ _ A0) (hC.keep (S.keep0 M))) (fun z0 u2 b0 B1=>?_) (fun z0 u2 b0 B1=>?_))
     ·refine lO b0.k [.w 2,.o 0] rfl ⟨rfl,⟨rfl,rfl⟩,⟨⟩⟩ (C0a b0 j0b rfl rfl (B6a p _ M _ _ _ _ false t (hP.keep (b0.keep0 M)) (RdE.keep (b0.keep0 M) _ _ A0) (Y1 _ b0.size) z0) (fun K0 v2 D0 C1=>?_) (fun K0 v2 D0 C1=>?_))
      ·refine lP0 rfl ⟨by omega,⟨⟩⟩ ?_;refine⟨μk-1,by omega,rfl,(k+1),(by omega),(hl.succ L0 (⟨by have:=of_decide_eq_true H0;omega,o2a I0,hb.all (by omega),z0,o2a K0⟩)),D0.tail,rfl⟩
      refine lT2 rfl ⟨⟩ rfl ⟨⟨_,_,rfl,iff_of_false (by omega) (fun hh=>?_)⟩,D0.fin⟩;obtain⟨h,d0⟩:=hh x a0;have q1:=h.points;have q2:=h.asserts;have q3:=h.nmod
      (have zl:=h.loops l (c0a L0)
       have z1:=zl.head;exact P1a K0 zl.variant.2)
     refine lT2 rfl ⟨⟩ rfl ⟨⟨_,_,rfl,iff_of_false (by omega) (fun hh=>?_)⟩,b0.fin⟩;obtain⟨h,d0⟩:=hh x a0;have q1:=h.points;have q2:=h.asserts;have q3:=h.nmod
     (have zl:=h.loops l (c0a L0)
      have z1:=zl.head
      (have z4:=zl.variant.1;rw[z0] at z4;cases z4;done))
    refine lT2 rfl ⟨⟩ rfl ⟨⟨_,_,rfl,iff_of_false (by omega) (fun hh=>?_)⟩,C0.fin⟩;obtain⟨h,d0⟩:=hh x a0;have q1:=h.points;have q2:=h.asserts;have q3:=h.nmod
    (have zl:=h.loops l (c0a L0)
     have z1:=zl.head;exact P1a I0 zl.up)
   refine lT2 rfl ⟨⟩ rfl ⟨⟨_,_,rfl,iff_of_false (by omega) (fun hh=>?_)⟩,t0.fin⟩;obtain⟨h,d0⟩:=hh x a0;have q1:=h.points;have q2:=h.asserts;have q3:=h.nmod
   (have zl:=h.loops l (c0a L0)
    have z1:=zl.head
    (have z2:=of_decide_eq_false H0;omega))
  refine lT2 rfl ⟨⟩ rfl ⟨⟨_,_,rfl,iff_of_true (by omega) (fun x' E2=>?_)⟩,S.fin⟩;rw[a0] at E2;cases E2;refine⟨⟨o2a O1,⟨by omega,by omega⟩,by omega,by omega,by omega,by omega,hm.all (by omega),ha.all (by omega),hs.all (by omega),hl.all (by omega)⟩,fun y hy=>hn y ?_⟩
  rwa [show j=t by omega]
 refine lT2 rfl ⟨⟩ rfl ⟨⟨_,_,rfl,iff_of_false (by omega) (fun hh=>?_)⟩,v1.fin⟩;obtain⟨h,d0⟩:=hh x a0;have q1:=h.points;have q2:=h.asserts;have q3:=h.nmod;exact P1a O1 h.name
theorem c4b{p:f0a}(h:d1a p):E7c p:=⟨h.ncells,h.nmodules,h.nlocks,h.nthreads,fun x hx=>by
 obtain⟨i,hi,rfl⟩:=List.getElem_of_mem hx;have q:=h.threads i hi;exact⟨q.points.2,q.nsteps,q.nloops⟩⟩
theorem R8c{p:f0a}(hp:d1a p){k:Nat}{x:X0a}(hx:p.threads[k]?=some x):V6a p k x:=by
 obtain⟨h,rfl⟩:=List.getElem?_eq_some_iff.1 hx;exact hp.threads k h
theorem v5c{l:List X0a}(h:l.Pairwise (fun a b=>a.name≠b.name)){t:Nat}{x:X0a}(hx:l[t]?=some x):∀y∈l.take t,y.name≠x.name:=fun y hy=>by
 obtain⟨_,hi⟩:=List.getElem?_of_mem hy;rw[List.getElem?_take] at hi
 split at hi
 ·exact i6a h hi hx (by omega)
 ·cases hi
theorem x7a(p:f0a)(M:List Nat)(w0:World)(cs:List Value)(hP:q1a M w0 p cs)(hM:∀g∈M,g<w0.heap.size)(hN:y2b p):
 M0a Tryz.prog 33 #[.agg cs.toArray] w0 fun v w'=>(∃a b c,v=.tuple #[.int .i64 a,.int .i64 b,.int .i64 c]∧(a=0↔d1a p))∧Below w0.heap.size w0 w':=by
 obtain⟨Ac,nc,cc,Am,nm,cm,Al,nl,cl,At,nt,ct,rfl,_,_,_,_,_,_,_,_,_,_,_,_⟩:=hP.open_;have S:=St.refl w0;have f0:∀w':World,w0.heap.size≤w'.heap.size→∀g∈M,g<w'.heap.size:=fun w' h g hg=>by have:=hM g hg;omega
 refine a0a Tryz.func33 rfl Tryz.ntmps33 rfl ?_;refine wO0 rfl ⟨⟩ (h0a S (by conv=>lhs;whnf) rfl ?_);intro g1 w1 S1 X1 G1;refine lO S1.k [.w 0] rfl ⟨⟨rfl,rfl⟩,⟨⟩⟩ (x0a S1 k0d rfl rfl (n6b p M _ _ (hP.keep (S1.keep0 M))) ?_);rintro C0 H0 ⟨a1,_,rfl,d0⟩ g0 x0;refine lB0 rfl ⟨⟩ (fun o0=>?_) fun o0=>?_
 ·refine lR0 rfl ⟨⟩ (Y5b rfl (by conv=>lhs;whnf) (by conv=>lhs;whnf) (by conv=>lhs;whnf) ?_);refine⟨⟨_,_,_,rfl,iff_of_false (by omega) (fun h=>?_)⟩,g0.fin⟩;have z1:=d0.2 (c4b h);omega
 refine lC0 rfl ⟨⟩ (wL (fun μk D ε w=>D=[]∧∃k:Nat,∃ev:Int,(k+μk=(3))∧((1≤k→y9b p)∧(2≤k→M4c p)∧(3≤k→P0c p))∧St [] w0 w [(some g1,27,[.slice Ac nc cc,.slice Am nm cm,.slice Al nl cl,.slice At nt ct])]∧Sl ε [(1,.pointer (some ⟨g1,0,none⟩)),(5,.int .i64 ev),(7,.int .i64 k)]) (μ:=(3)) ⟨rfl,0,a1,by omega,⟨fun h=>absurd h (by omega),fun h=>absurd h (by omega),fun h=>absurd h (by omega)⟩,g0,rfl⟩ ?_);rintro μk D ε w ⟨rfl,k,ev,hk,hr,S,eZ⟩;refine wK eZ (wB0 rfl ⟨⟩ (fun p0=>?_) fun p0=>?_)
 ·refine lB0 rfl ⟨⟩ (fun q0=>?_) fun q0=>?_
  ·refine lO S.k [.w 0] rfl ⟨⟨rfl,rfl⟩,⟨⟩⟩ (x0a S C9c rfl rfl (K7b p M _ _ (hP.keep (S.keep0 M)) hN) ?_);rintro D0 I0 ⟨a2,rfl,a0⟩ h0 y0;refine lB0 rfl ⟨⟩ (fun e0=>?_) fun e0=>?_
   ·refine lR0 rfl ⟨⟩ (Y5b rfl (by conv=>lhs;whnf) (by conv=>lhs;whnf) (by conv=>lhs;whnf) ?_);refine⟨⟨_,_,_,rfl,iff_of_false (by omega) (fun h=>?_)⟩,h0.fin⟩;have z1:=d0.2 (c4b h)
    (have z2:=a0.2 ⟨h.cells,h.cellNames⟩;omega)
   refine lP0 rfl ⟨by omega,⟨⟩⟩ ⟨μk-1,by omega,rfl,(k+1),(a2),(by omega),?_,h0,rfl⟩;have b0:=a0.1 (by omega);refine⟨fun h=>?_,fun h=>?_,fun h=>?_⟩;all_goals first
    | (exfalso;omega)
    | exact b0
  refine lB0 rfl ⟨⟩ (fun r0=>?_) fun r0=>?_
  ·refine lO S.k [.w 0] rfl ⟨⟨rfl,rfl⟩,⟨⟩⟩ (x0a S x9c rfl rfl (A3b p M _ _ (hP.keep (S.keep0 M)) hN (f0 _ S.size)) ?_);rintro E0 J0 ⟨a2,rfl,a0⟩ i0 z0;refine lB0 rfl ⟨⟩ (fun e0=>?_) fun e0=>?_
   ·refine lR0 rfl ⟨⟩ (Y5b rfl (by conv=>lhs;whnf) (by conv=>lhs;whnf) (by conv=>lhs;whnf) ?_);refine⟨⟨_,_,_,rfl,iff_of_false (by omega) (fun h=>?_)⟩,i0.fin⟩;have z1:=d0.2 (c4b h)
    (have z2:=a0.2 ⟨h.modules,h.moduleNames⟩;omega)
   refine lP0 rfl ⟨by omega,⟨⟩⟩ ⟨μk-1,by omega,rfl,(k+1),(a2),(by omega),?_,i0,rfl⟩;have b0:=a0.1 (by omega);refine⟨fun h=>?_,fun h=>?_,fun h=>?_⟩;all_goals first
    | (exfalso;omega)
    | exact b0
    | exact hr.1 (by omega)
  refine lB0 rfl ⟨⟩ (fun s0=>?_) (fun s0=>by exfalso;omega);refine lO S.k [.w 0] rfl ⟨⟨rfl,rfl⟩,⟨⟩⟩ (x0a S W8c rfl rfl (y8b p M _ _ (hP.keep (S.keep0 M)) (f0 _ S.size)) ?_);rintro F0 K0 ⟨a2,rfl,a0⟩ j0 A0;refine lB0 rfl ⟨⟩ (fun e0=>?_) fun e0=>?_
  ·refine lR0 rfl ⟨⟩ (Y5b rfl (by conv=>lhs;whnf) (by conv=>lhs;whnf) (by conv=>lhs;whnf) ?_);refine⟨⟨_,_,_,rfl,iff_of_false (by omega) (fun h=>?_)⟩,j0.fin⟩;have z1:=d0.2 (c4b h)
   (have z2:=a0.2 ⟨h.locks,h.lockCells⟩;omega)
  refine lP0 rfl ⟨by omega,⟨⟩⟩ ⟨μk-1,by omega,rfl,(k+1),(a2),(by omega),?_,j0,rfl⟩;have b0:=a0.1 (by omega);refine⟨fun h=>?_,fun h=>?_,fun h=>?_⟩;all_goals first
   | exact b0
   | exact hr.1 (by omega)
   | exact hr.2.1 (by omega)
 refine lC0 rfl ⟨⟩ (wL (fun μk D ε w=>D=[]∧∃k:Nat,(k+μk=(p.threads.length))∧(∀j x,p.threads[j]?=some x→j<k→V6a p j x∧∀y∈p.threads.take j,y.name≠x.name)∧St [] w0 w [(some g1,27,[.slice Ac nc cc,.slice Am nm cm,.slice Al nl cl,.slice At nt ct])]∧Sl ε [(1,.pointer (some ⟨g1,0,none⟩)),(8,.int .i64 k)]) (μ:=(p.threads.length)) ⟨rfl,0,by omega,(fun j x _ h=>absurd h (by omega)),S,rfl⟩ ?_);rintro μk D ε w ⟨rfl,k,hk,ht,S,eZ⟩;refine wK eZ (wB S.k [.o 0] rfl ⟨rfl,⟨⟩⟩ (fun t0=>?_) fun t0=>?_)
 ·refine lO S.k [.w 0] rfl ⟨⟨rfl,rfl⟩,⟨⟩⟩ (x0a S T8c rfl rfl (Q5b p k M _ _ (hP.keep (S.keep0 M)) (f0 _ S.size) hN (d0.1 (by omega)) (by omega)) ?_);rintro G0 L0 ⟨_,_,rfl,b0⟩ n0 B0;refine lB0 rfl ⟨⟩ (fun u0=>?_) fun u0=>?_
  ·refine lR0 rfl ⟨⟩ (Y5b rfl (by conv=>lhs;whnf) (by conv=>lhs;whnf) (by conv=>lhs;whnf) ?_);refine⟨⟨_,_,_,rfl,iff_of_false (by omega) (fun h=>?_)⟩,n0.fin⟩;have z1:=d0.2 (c4b h)
   (have z3:=b0.2 (fun x hx=>⟨R8c h hx,v5c h.threadNames hx⟩);omega)
  refine lP0 rfl ⟨by omega,⟨⟩⟩ ⟨μk-1,by omega,rfl,(k+1),(by omega),?_,n0,rfl⟩;intro j x hx hj;by_cases v0:j=k
  ·subst v0;exact b0.1 (by omega) x hx
  ·exact ht j x hx (by omega)
 refine lR0 rfl ⟨⟩ (Y5b rfl (by conv=>lhs;whnf) (by conv=>lhs;whnf) (by conv=>lhs;whnf) ?_);refine⟨⟨_,_,_,rfl,iff_of_true (by omega) ?_⟩,S.fin⟩;have h1:=d0.1 (by omega);have h2:=hr.1 (by omega);have h3:=hr.2.1 (by omega);have h4:=hr.2.2 (by omega);exact⟨h1.1,h1.2.1,h1.2.2.1,h1.2.2.2.1,h2.1,h2.2,h3.1,h3.2,h4.1,h4.2,fun t h=>(ht t _ (List.getElem?_eq_getElem h) (by omega)).1,A9a (fun j x hx=>(ht j x hx (by have:=u1a hx;omega)).2)⟩
theorem G8b(p:f0a)(M:List Nat)(w0:World)(cs:List Value)(hP:q1a M w0 p cs)(hM:∀g∈M,g<w0.heap.size)(hN:y2b p):
 M0a Tryz.prog 33 #[.agg cs.toArray] w0 fun v w'=>(∃a b c,v=.tuple #[.int .i64 a,.int .i64 b,.int .i64 c]∧(a=0→d1a p))∧Below w0.heap.size w0 w' :=
 (x7a p M w0 cs hP hM hN).mono fun _ _ ⟨⟨a,b,c,h1,h2⟩,hb⟩=>⟨⟨a,b,c,h1,h2.1⟩,hb⟩
open Go.Maps (Keyed)
section
variable {P:Program} {r:Option Nat} {N:Nat} {D:List Deferred} {e:Env} {w w0:World} {ops:Array Oper} {rest:List Oper} {K:List Deferred→Env→World→Prop} {L:List Ent} {M:List Nat}
variable {K':List Deferred→Env→World→Prop} {d:Nat} {t:TypeId} {p:String} {af:Array Edge} {f:FuncId} {args:Array Operand} {at_:Array TypeId} {vs:List Value} {x y z:Operand}
theorem e5a{g:Operand}{first caps:Array Value}{R:Value→World→Prop}(hH:Has P f)(hg:ev e g=.func (.func f) first caps)(a0:first.toList++args.toList.map (ev e)++caps.toList=vs)(hd:Nat.ble (d+1) N=true)
 (hc:M0a P f vs.toArray w R) (h:∀v w',R v w'→WL P r N ops rest K D (upd e d v) w') :
 WL P r N ops (⟨some d,.call { callee:=.value g,args:=args,argTypes:=at_ },t,p,af,none⟩::rest) K D e w:=by
 refine D5b rfl rfl hd (by simp) ?_ hc h;subst a0;have:(first++args.map (ev e)++caps)=(first.toList++args.toList.map (ev e)++caps.toList).toArray:=by apply Array.ext';simp
 simp[execOp,resolve,Deferred.ofValue,invoke,hg,hH _ w,this]
theorem z2a{fn:Fn}{b0 a0:Array Operand}{us vs:List Value}(d0:b0.toList.map (ev e)=us)(e0:a0.toList.map (ev e)=vs)(hd:Nat.ble (d+1) N=true)(h:WL P r N ops rest K D (upd e d (.func fn us.toArray vs.toArray)) w):
 WL P r N ops (⟨some d,.makeFunc fn b0 a0,t,p,af,none⟩::rest) K D e w:=by
 have hc:(a0.map (ev e))=vs.toArray:=by subst e0;apply Array.ext';simp
 have hf:(b0.map (ev e))=us.toArray:=by subst d0;apply Array.ext';simp
 exact k1a rfl rfl hd (by simp) (by simp[execOp,Instr.makeFunc,hc,hf]) h
def A2a(P:Program)(M:List Nat)(w:World)(v:Value)(q:Int→Bool):Prop :=
 ∃f first caps,v=.func (.func f) first caps∧Has P f∧∀w',y0a M w w'→∀c,i64 c→M0a P f (first.toList++[Value.int .i64 c]++caps.toList).toArray w' fun v w''=>v=.bool (q c)∧Below w'.heap.size w' w''
theorem A2a.keep{v:Value}{q:Int→Bool}{w':World}(h:A2a P M w v q)(hk:y0a M w w'):A2a P M w' v q:=by
 obtain⟨f,first,caps,h1,h2,h3⟩:=h;exact⟨f,first,caps,h1,h2,fun b0 a0=>h3 b0 (hk.trans a0)⟩
theorem A2a.less{M':List Nat}{v:Value}{q:Int→Bool}(h:A2a P M w v q)(hM:∀g∈M',g∈M):A2a P M' w v q:=by
 obtain⟨f,first,caps,h1,h2,h3⟩:=h;exact⟨f,first,caps,h1,h2,fun b0 a0=>h3 b0 (a0.mono hM)⟩
theorem d3b{M':List Nat}{g:Operand}{c:Int}{q:Int→Bool}{v:Value}{a:Operand}(S:St M w0 w L)(hp:A2a P M' w v q)(hg:ev e g=v)(ha:ev e a=.int .i64 c)(hc:i64 c)(hd:Nat.ble (d+1) N=true)
 (h1:q c=true→∀w1,St M w0 w1 L→y0a [] w w1→WL P r N ops rest K D (upd e d (.bool true)) w1) (h2:q c=false→∀w1,St M w0 w1 L→y0a [] w w1→WL P r N ops rest K D (upd e d (.bool false)) w1) :
 WL P r N ops (⟨some d,.call { callee:=.value g,args:=#[a],argTypes:=at_ },t,p,af,none⟩::rest) K D e w:=by
 obtain⟨_,_,_,rfl,hH,hf⟩:=hp;refine e5a hH hg (by simp[ha]) hd (hf w (y0a.refl _ _) c hc) fun v w' ⟨hv,hb⟩=>?_;subst hv;cases hq:q c
 ·exact h2 hq w' (S.later hb) (y0a.of_below hb)
 ·exact h1 hq w' (S.later hb) (y0a.of_below hb)
theorem F9a{M':List Nat}{g:Operand}{c:Int}{q:Int→Bool}{v:Value}{a:Operand}(S:St M w0 w L)(hp:A2a P M' w v q)(hg:ev e g=v)(ha:ev e a=.int .i64 c)(hc:i64 c)(hq:q c=true)(hd:Nat.ble (d+1) N=true)
 (h1:∀w1,St M w0 w1 L→y0a [] w w1→WL P r N ops rest K D (upd e d (.bool true)) w1) :
 WL P r N ops (⟨some d,.call { callee:=.value g,args:=#[a],argTypes:=at_ },t,p,af,none⟩::rest) K D e w :=
 d3b S hp hg ha hc hd (fun _=>h1) (fun h=>by rw[hq] at h;cases h)
def B3a(P:Program)(k:TypeId)(w:World)(b:Nat)(l:List (Value×Value)):Prop :=
 ∃es clock,w.heap[b]?=some (.map es clock)∧es.toList.map (fun x=>(x.key,x.val))=l∧∀x∈l,∃q,keyOf P k x.1=some q
theorem B3a.keep{k:TypeId}{b:Nat}{l:List (Value×Value)}{w':World}(h:B3a P k w b l)(hk:y0a M w w')(hb:b∉M):B3a P k w' b l:=by
 obtain⟨es,a0,h1,h2,h3⟩:=h;refine⟨es,a0,?_,h2,h3⟩;rw[hk.same b (Array.getElem?_eq_some_iff.1 h1).1 hb];exact h1
theorem B3a.lt{k:TypeId}{b:Nat}{l:List (Value×Value)}(h:B3a P k w b l):b<w.heap.size:=by
 obtain⟨_,_,h1,_,_⟩:=h;exact(Array.getElem?_eq_some_iff.1 h1).1
theorem B3a.ne{k:TypeId}{b g tb:Nat}{cs:List Value}{l:List (Value×Value)}(h:B3a P k w b l)(hg:p0a w (g,tb,cs)):b≠g:=by
 obtain⟨_,_,h1,_,_⟩:=h;rintro rfl;unfold p0a at hg;rw[h1] at hg;cases hg
theorem St.notMap{k:TypeId}{b:Nat}{l:List (Value×Value)}(S:St M w0 w L)(h:B3a P k w b l):∀x∈L,x.1≠some b:=fun x hx hb=>by
 have:=(S.own x hx b hb).2;exact h.ne this rfl
theorem G4a{k ty:TypeId}(S:St M w0 w L)(hd:Nat.ble (d+1) N=true)
 (h:∀g w1,St M w0 w1 L→y0a [] w w1→w.heap.size≤g→B3a P k w1 g []→WL P r N ops rest K D (upd e d (.map (some g))) w1) :
 WL P r N ops (⟨some d,.makeMap ty none,t,p,af,none⟩::rest) K D e w:=by
 refine k1a (v:=.map (some w.heap.size)) (w':=w.alloc (.map #[] 0)) rfl rfl hd (by simp) ?_ (h _ _ (S.keeps (S.below.alloc _) fun b hb g hg=>Below.heap_alloc w _ g ((S.own b hb g hg).2.lt)) (T2a _ _ _) (Nat.le_refl _) ⟨#[],0,(MapKept.heap_alloc w _).1,rfl,by simp⟩);simp[execOp,run_makeMap]
theorem k7b{k el:TypeId}{ty b:Nat}{l:List (Value×Value)}{key zv:Value}{q:Lit}(ok:Bool)(K:Keyed P k)(ht:P.underlying ty=some (.map k el))(hz:∀w,(zeroValue el).run P w=.ok zv w)(h:B3a P k w b l)(a0:keyOf P k key=some q):
 ((Instr.lookup ty (.map (some b)) key ok).run P w=.ok (if ok then .tuple #[zv,.bool false] else zv) w∧∀x∈l,x.1≠key) ∨
 ∃v,(key,v)∈l∧(Instr.lookup ty (.map (some b)) key ok).run P w=.ok (if ok then .tuple #[v,.bool true] else v) w:=by
 obtain⟨es,_,h1,rfl,h3⟩:=h;rcases K.find w a0 es.toList (fun x hx=>h3 _ (List.mem_map.2 ⟨x,hx,rfl⟩)) with⟨h4,h5⟩|⟨j,e0,h4,h5,h6⟩
 ·refine .inl ⟨by simp[Instr.lookup,run_underlying ht,MapKept.run_getObj_map h1,K.check w _ a0,h4,hz w,Result.andThen],fun x hx=>?_⟩;obtain⟨y,hy,rfl⟩:=List.mem_map.1 hx;exact h5 y hy
 ·refine .inr ⟨e0.val,List.mem_map.2 ⟨e0,List.mem_of_getElem? h5,by rw[←h6]⟩,by simp[Instr.lookup,run_underlying ht,MapKept.run_getObj_map h1,K.check w _ a0,h4,Result.andThen]⟩
theorem C6a{k el:TypeId}{ty b:Nat}{l:List (Value×Value)}{key zv:Value}{q:Lit}(K:Keyed P k)(ht:P.underlying ty=some (.map k el))(hz:∀w,(zeroValue el).run P w=.ok zv w)(h:B3a P k w b l)(hx:ev e x=.map (some b))(hy:ev e y=key)(a0:keyOf P k key=some q)(hd:Nat.ble (d+1) N=true)
 (h1:∀v,(key,v)∈l→WL P r N ops rest K' D (upd e d (.tuple #[v,.bool true])) w) (h2:(∀x∈l,x.1≠key)→WL P r N ops rest K' D (upd e d (.tuple #[zv,.bool false])) w) :
 WL P r N ops (⟨some d,.lookup ty x y true,t,p,af,none⟩::rest) K' D e w:=by
 rcases k7b true K ht hz h a0 with⟨h4,h5⟩|⟨v,h4,h5⟩
 ·exact k1a rfl rfl hd (by simp) (by simp[execOp,hx,hy,h4]) (h2 h5)
 ·exact k1a rfl rfl hd (by simp) (by simp[execOp,hx,hy,h5]) (h1 v h4)
theorem i0c{k el:TypeId}{ty b:Nat}{l:List (Value×Value)}{key zv:Value}{q:Lit}(K:Keyed P k)(ht:P.underlying ty=some (.map k el))(hz:∀w,(zeroValue el).run P w=.ok zv w)(h:B3a P k w b l)(hx:ev e x=.map (some b))(hy:ev e y=key)(a0:keyOf P k key=some q)(hd:Nat.ble (d+1) N=true)
 (h1:∀v,(key,v)∈l→WL P r N ops rest K' D (upd e d v) w) (h2:(∀x∈l,x.1≠key)→WL P r N ops rest K' D (upd e d zv) w) :
 WL P r N ops (⟨some d,.lookup ty x y false,t,p,af,none⟩::rest) K' D e w:=by
 rcases k7b false K ht hz h a0 with⟨h4,h5⟩|⟨v,h4,h5⟩
 ·exact k1a rfl rfl hd (by simp) (by simp[execOp,hx,hy,h4]) (h2 h5)
 ·exact k1a rfl rfl hd (by simp) (by simp[execOp,hx,hy,h5]) (h1 v h4)
theorem m8a{k el:TypeId}{ty b:Nat}{l:List (Value×Value)}{key v:Value}{q:Lit}(S:St M w0 w L)(K:Keyed P k)(ht:P.underlying ty=some (.map k el))(h:B3a P k w b l)(hx:ev e x=.map (some b))(hy:ev e y=key)(hz:ev e z=v)(d0:keyOf P k key=some q)(g0:∀x∈l,x.1≠key)(hb:w0.heap.size≤b∨b∈M)
 (hk:∀w1,St M w0 w1 L→y0a [b] w w1→B3a P k w1 b (l++[(key,v)])→WL P r N ops rest K' D e w1) :
 WL P r N ops (⟨none,.mapUpdate ty x y z,t,p,af,none⟩::rest) K' D e w:=by
 have f0:=h;obtain⟨es,a0,h1,rfl,h3⟩:=h;have h0:b<w.heap.size:=(Array.getElem?_eq_some_iff.1 h1).1;have b0:∀g,g≠b→(w.heap.setIfInBounds b (.map (es.push ⟨key,v,a0⟩) (a0+1)))[g]?=w.heap[g]?:=fun g hg=>Array.getElem?_setIfInBounds_ne (fun e=>hg e.symm);rcases K.find w d0 es.toList (fun x hx=>h3 _ (List.mem_map.2 ⟨x,hx,rfl⟩)) with⟨h4,h5⟩|⟨j,e0,h4,h5,h6⟩
 ·refine G5b (w':={ w with heap:=w.heap.setIfInBounds b (.map (es.push ⟨key,v,a0⟩) (a0+1)) }) rfl rfl (by simp) ?_ (hk _ ?_ ?_ ?_)
  ·simp[execOp,hx,hy,hz,Instr.mapUpdate,run_underlying ht,MapKept.run_getObj_map h1,K.check w false d0,h4,MapKept.run_setObj_map _ h1,Result.andThen]
  ·refine S.keeps ⟨S.below.os,S.below.tape,S.below.output,by simpa using S.below.size,fun g hg hm=>?_⟩ (fun x hx g hg=>b0 g (fun hh=>S.notMap f0 x hx (hh▸hg)));refine(b0 g (fun hh=>?_)).trans (S.below.block g hg hm);subst hh;rcases hb with hb|hb
   ·omega
   ·exact hm hb
  ·exact⟨by simp,fun g _ hm=>b0 g (fun hh=>hm (by simp[hh]))⟩
  ·refine⟨es.push ⟨key,v,a0⟩,a0+1,by simp[h0],by simp,fun x hx=>?_⟩;rcases List.mem_append.1 hx with hx|hx
   ·exact h3 x hx
   ·rw[List.mem_singleton.1 hx];exact⟨q,d0⟩
 ·exact absurd h6 (g0 _ (List.mem_map.2 ⟨e0,List.mem_of_getElem? h5,rfl⟩))
theorem St.reflM(M:List Nat)(w:World):St M w w []:=⟨F0a.refl _ _,by simp,by simp⟩
theorem St.turned{b:Nat}{w1:World}{k:TypeId}{l:List (Value×Value)}(S:St M w0 w L)(hm:B3a P k w b l)(hb:w0.heap.size≤b∨b∈M)(h:F0a [b] w w1):St M w0 w1 L :=
 S.keeps ⟨h.os.trans S.below.os,h.tape.trans S.below.tape,h.output.trans S.below.output,Nat.le_trans S.below.size h.size,fun g hg a0=>(h.block g (Nat.lt_of_lt_of_le hg S.below.size) (fun hh=>by
  rw[List.mem_singleton] at hh;subst hh;rcases hb with hb|hb
  ·omega
  ·exact a0 hb)).trans (S.below.block g hg a0)⟩
  fun x hx g hg=>h.block g (S.own x hx g hg).2.lt (fun hh=>by rw[List.mem_singleton] at hh;subst hh;exact S.notMap hm x hx hg)
theorem y0a.of_belowB{b:Nat}{w1:World}(h:F0a [b] w w1):y0a [b] w w1:=⟨h.size,fun i hi hm=>h.block i hi hm⟩
variable {kd k2:IntKind} {a:Int} {src dst xt yt:TypeId}
theorem U5b{ds:TypeDesc}(hs:P.underlying src=some ds)(ht:P.underlying dst=some (.int k2))(hx:ev e x=.int kd a)(hd:Nat.ble (d+1) N=true)(h:WL P r N ops rest K D (upd e d (.int k2 (k2.wrap a))) w):
 WL P r N ops (⟨some d,.convert src dst x,t,p,af,none⟩::rest) K D e w :=
 k1a rfl rfl hd (by simp) (by simp[execOp,hx,convert,run_underlying hs,run_underlying ht,Conv.intToInt]) h
theorem V7c{n:Nat}(hx:ev e x=.int .i64 1)(hy:ev e y=.int kd (n:Int))(hn:n≤62)(hd:Nat.ble (d+1) N=true)(h:WL P r N ops rest K D (upd e d (.int .i64 ((2 ^ n:Nat):Int))) w):
 WL P r N ops (⟨some d,.binOp .shl xt x y yt,t,p,af,none⟩::rest) K D e w :=
 k1a rfl rfl hd (by simp) (by
  have h2:(2:Nat) ^ n≤2 ^ 62:=Nat.pow_le_pow_right (by omega) hn;have h3:min n IntKind.i64.bits=n:=by simp[IntKind.bits];omega
  have h4:((1:Int)*2 ^ n)=((2 ^ n:Nat):Int):=by simp
  have h5:IntKind.i64.wrap ((2 ^ n:Nat):Int)=((2 ^ n:Nat):Int):=by
   generalize (2:Nat) ^ n=q at h2;exact F4a ⟨by omega,by omega⟩
  have h6:¬((n:Int)<0):=by omega
  simp only[execOp,hx,hy,eqGuard_shl,binOp_shl,Op.shift,h6,if_false,Int.toNat_natCast,h3,h4,h5,Sem.run_bind,Sem.run_pure,Result.andThen_ok]) h
end
def RdP(M:List Nat)(w:World)(e:E)(b o:Nat):Prop:=b∉M∧∃cs,t1a w b o cs∧RdE M w e cs
theorem RdP.keep{M:List Nat}{w w':World}{e:E}{b o:Nat}(h:RdP M w e b o)(hk:y0a M w w'):RdP M w' e b o:=by
 obtain⟨h1,cs,h2,h3⟩:=h;exact⟨h1,cs,h2.keep hk h1,RdE.keep hk _ _ h3⟩
theorem RdP.more{M M':List Nat}{w:World}{e:E}{b o:Nat}(h:RdP M w e b o)(hM:∀g∈M',g∈M∨w.heap.size≤g):RdP M' w e b o:=by
 obtain⟨h1,cs,h2,h3⟩:=h;refine⟨fun hh=>?_,cs,h2,RdE.more hM _ _ h3⟩;rcases hM b hh with h|h
 ·exact h1 h
 ·have hl:=h3.length;have:=World.block_lt_of_cell? w _ (h2 0 cs[0] (List.getElem?_eq_getElem (by omega)));simp at this;omega
theorem RdP.less{M M':List Nat}{w:World}{e:E}{b o:Nat}(h:RdP M w e b o)(hM:∀g∈M',g∈M):RdP M' w e b o:=by
 obtain⟨h1,cs,h2,h3⟩:=h;exact⟨fun hh=>h1 (hM b hh),cs,h2,RdE.less hM _ _ h3⟩
theorem RdP.kid{M:List Nat}{w:World}{e:E}{b o:Nat}(hb:b∉M)(b0:∀(i:Nat) (h:i<e.kids.length),∃a0,t1a w b (o+i*4) a0∧RdE M w e.kids[i] a0)(i:Nat)(hi:i<e.kids.length):RdP M w e.kids[i] b (o+i*4):=by
 obtain⟨cs,h1,h2⟩:=b0 i hi;exact⟨hb,cs,h1,h2⟩
theorem RdP.open_{M:List Nat}{w:World}{e:E}{b o:Nat}(h:RdP M w e b o):b∉M∧i64 e.op∧i64 e.w∧i64 e.n∧w.cell? ⟨b,o,none⟩=some (.int .i64 e.op)∧w.cell? ⟨b,o+1,none⟩=some (.int .i64 e.w)∧w.cell? ⟨b,o+2,none⟩=some (.int .i64 e.n) ∧
 ∃A n c,w.cell? ⟨b,o+3,none⟩=some (.slice A n c)∧n=e.kids.length∧n≤c∧c≤maxLen∧n≤140737488355328 ∧
 (0<n→∃b o,A=some ⟨b,o,none⟩∧b∉M∧∀(i:Nat) (h:i<e.kids.length),∃a0,t1a w b (o+i*4) a0∧RdE M w e.kids[i] a0)∧RdE M w e [.int .i64 e.op,.int .i64 e.w,.int .i64 e.n,.slice A n c]:=by
 obtain⟨h1,_,h2,h3⟩:=h;obtain⟨A,n,c,rfl,o1,o2,o3,h4,h5,h6,h7,h8⟩:=h3.open_;exact⟨h1,o1,o2,o3,h2 0 _ rfl,h2 1 _ rfl,h2 2 _ rfl,A,n,c,h2 3 _ rfl,h4,h5,h6,h7,h8,h3⟩
def q3a(M:List Nat)(w:World):Prop:=0∉M∧∀i:Nat,i≤8→w.cell? ⟨0,i,none⟩=some (.int .i64 (G3a i-1))
theorem q3a.keep{M:List Nat}{w w':World}(h:q3a M w)(hk:y0a M w w'):q3a M w':=⟨h.1,fun i hi=>hk.cell (a:=⟨0,i,none⟩) h.1 (h.2 i hi)⟩
theorem q3a.more{M M':List Nat}{w:World}(h:q3a M w)(hM:∀g∈M',g∈M∨w.heap.size≤g):q3a M' w:=by
 refine⟨fun hh=>?_,h.2⟩;rcases hM _ hh with h'|h'
 ·exact h.1 h'
 ·have:=World.block_lt_of_cell? w _ (h.2 0 (by omega));simp at this;omega
theorem q3a.at{M:List Nat}{w:World}(h:q3a M w){x:Int}(h0:0≤x)(h8:x≤8):w.cell? ⟨0,0+x.toNat*1,none⟩=some (.int .i64 (G3a x.toNat-1)):=by
 have:=h.2 x.toNat (by omega);simpa using this
theorem St.ne{M:List Nat}{w0 w:World}{L:List Ent}(S:St M w0 w L)(i j:Nat){g g' t t':Nat}{cs a0:List Value}(hi:L[i]?=some (some g,t,cs))(hj:L[j]?=some (some g',t',a0))(b0:i<j):g≠g':=by
 obtain⟨h1,e1⟩:=List.getElem?_eq_some_iff.1 hi;obtain⟨h2,e2⟩:=List.getElem?_eq_some_iff.1 hj;have:=List.pairwise_iff_getElem.1 S.apart i j h1 h2 b0 g (by rw[e1]);rw[e2] at this;exact fun h=>this (by rw[h])
def Y0b(e:E)(ws:List Int):Bool:=decide (e.kids.length=ws.length∧∀j,j<ws.length→e.kw j=ws.getD j 0)
theorem V1c{e:E}{a:Int}:Y0b e [a]=true↔e.kids.length=1∧e.kw 0=a:=by
 simp only[Y0b,decide_eq_true_eq,List.length_cons,List.length_nil];constructor
 ·rintro⟨h1,h2⟩;exact⟨h1,by simpa using h2 0 (by omega)⟩
 ·rintro⟨h1,h2⟩;exact⟨h1,fun j hj=>by obtain rfl:j=0:=by omega
                                      simpa using h2⟩
theorem h4a{e:E}{a b:Int}:Y0b e [a,b]=true↔e.kids.length=2∧e.kw 0=a∧e.kw 1=b:=by
 simp only[Y0b,decide_eq_true_eq,List.length_cons,List.length_nil];constructor
 ·rintro⟨h1,h2⟩;exact⟨h1,by simpa using h2 0 (by omega),by simpa using h2 1 (by omega)⟩
 ·rintro⟨h1,h2,h3⟩;refine⟨h1,fun j hj=>?_⟩;rcases(show j=0∨j=1 by omega) with rfl|rfl
  ·simpa using h2
  ·simpa using h3
theorem V0c{e:E}{a b c:Int}:Y0b e [a,b,c]=true↔e.kids.length=3∧e.kw 0=a∧e.kw 1=b∧e.kw 2=c:=by
 simp only[Y0b,decide_eq_true_eq,List.length_cons,List.length_nil];constructor
 ·rintro⟨h1,h2⟩;exact⟨h1,by simpa using h2 0 (by omega),by simpa using h2 1 (by omega),by simpa using h2 2 (by omega)⟩
 ·rintro⟨h1,h2,h3,h4⟩;refine⟨h1,fun j hj=>?_⟩;rcases(show j=0∨j=1∨j=2 by omega) with rfl|rfl|rfl
  ·simpa using h2
  ·simpa using h3
  ·simpa using h4
theorem a5a{w0 w:World}{L:List Ent}{k g el n:Nat}{M M':List Nat}{l:List Int}(S:St M' w0 w L)(hk:L[k]?=some (some g,el,l.map (Value.int .i64)))(hM:g∉M)(hn:n=l.length)(hb:n≤140737488355328)(hl:∀x∈l,i64 x):RdI M w (.slice (some ⟨g,0,none⟩) n n) l :=
 S.rd1 hk hM hn hb fun i x hi=>⟨.int .i64 x,by simp[hi],rfl,hl x (List.mem_of_getElem? hi)⟩
theorem b6a(e:E)(M:List Nat)(w0:World)(v0 v1 v2:Value)(A:Option Addr)(n c:Nat)(vw:Value)(ws:List Int)(hR:RdE M w0 e [v0,v1,v2,.slice A n c])(hW:RdI M w0 vw ws):
 M0a Tryz.prog 197 #[.slice A n c,vw] w0 fun v w'=>v=.bool (Y0b e ws)∧Below w0.heap.size w0 w':=by
 obtain⟨A',n',c',o0,_,_,_,_,_,_,_,x0⟩:=hR.open_;obtain⟨rfl,rfl,rfl,rfl,rfl,rfl⟩:v0=.int .i64 e.op∧v1=.int .i64 e.w∧v2=.int .i64 e.n∧A=A'∧n=n'∧c=c':=by simpa using o0
 clear o0;obtain⟨Aw,nw,cw,rfl⟩:=hW.form;obtain⟨_,_,_,_,s0⟩:=hW.at;have S:=St.refl w0;refine a0a Tryz.func197 rfl Tryz.ntmps197 rfl ?_;refine wB0 rfl ⟨⟩ (fun p0=>?_) fun p0=>?_
 ·refine lT rfl ⟨⟩ rfl ⟨congrArg Value.bool ?_,S.fin⟩;unfold Y0b;exact(decide_eq_false (fun h=>by have:=h.1;omega)).symm
 refine lC0 rfl ⟨⟩ (wL (fun μ D ε w=>D=[]∧∃k:Nat,(k+μ=ws.length)∧(∀(j:Nat),j<k→e.kw j=ws.getD j 0)∧St [] w0 w []∧ε 0=.slice A n c∧ε 12=.slice Aw nw cw∧ε 13=.int .i64 nw∧ε 14=.int .i64 k) (μ:=ws.length) ⟨rfl,0,by omega,fun j h=>absurd h (by omega),S,rfl,rfl,rfl,rfl⟩ ?_);rintro μ D ε w ⟨rfl,k,_,hs,S,e0,i0,j0,n0⟩;refine r0a 0 e0 (r0a 12 i0 (r0a 13 j0 (r0a 14 n0 ?_)));clear e0 i0 j0 n0;refine wB0 rfl ⟨⟩ (fun q0=>?_) fun q0=>?_
 ·refine lO0 rfl ⟨⟩ ?_;have a0:k<ws.length:=by omega
  obtain⟨bw,ow,_,_,r0⟩:=s0 (by omega);obtain⟨_,_,g0,h0⟩:=r0 k ws[k] (List.getElem?_eq_getElem a0);have f0:w0.cell? ⟨bw,ow+k*1,none⟩=some (.int .i64 ws[k]):=g0 0 _ (by rw[h0.1];rfl);refine w0a O0a.slT rfl (by assumption) rfl (by omega) (by omega) rfl ?_;refine s0a K0a rfl (by exact S.old f0) rfl ?_;refine lO0 rfl ⟨⟩ ?_;obtain⟨b,o,_,_,u0⟩:=x0 (by omega);have d0:w0.cell? ⟨b,o+k*4+1,none⟩=some (.int .i64 (e.kw k)):=G1a u0 k (by omega);refine w0a j1a.slT rfl (by assumption) rfl (by omega) (by omega) rfl ?_;refine lO0 rfl ⟨⟩ (s0a K0a rfl (by exact S.old d0) rfl ?_);refine lB0 rfl ⟨⟩ (fun b0=>?_) fun b0=>?_
  ·refine lT rfl ⟨⟩ rfl ⟨congrArg Value.bool ?_,S.fin⟩;unfold Y0b;exact(decide_eq_false (fun h=>b0 (by have:=h.2 k a0;simpa[a0] using this))).symm
  refine lP0 rfl ⟨by omega,⟨⟩⟩ ⟨μ-1,by omega,rfl,k+1,by omega,fun j h=>?_,S,rfl,rfl,rfl,rfl⟩;by_cases t0:j=k
  ·subst t0;simpa[a0] using b0
  ·exact hs j (by omega)
 refine lT rfl ⟨⟩ rfl ⟨congrArg Value.bool ?_,S.fin⟩;unfold Y0b;exact(decide_eq_true ⟨by omega,fun j hj=>hs j (by omega)⟩).symm
theorem O9b(e:E)(M:List Nat)(w0:World)(b o:Nat)(hR:RdP M w0 e b o)(hK:q3a M w0):
 M0a Tryz.prog 156 #[.pointer (some ⟨b,o,none⟩)] w0 fun v w'=>v=.bool e.shapeB∧Below w0.heap.size w0 w':=by
 obtain⟨_,_,o2,_,c0,c1,c2,_,_,_,c3,_,_,_,_,W0,z0⟩:=hR.open_;have S:=St.refl w0;refine a0a Tryz.func156 rfl Tryz.ntmps156 rfl ?_;refine wO0 rfl ⟨⟩ (s0a K0a rfl (by exact S.old c1) rfl ?_);refine lB0 rfl ⟨⟩ (fun h7=>?_) fun h7=>?_
 ·refine lR0 rfl ⟨⟩ (o0a rfl (by conv=>lhs;whnf) ?_);exact⟨by exact SN (by omega),S.fin⟩
 refine lO0 rfl ⟨⟩ (s0a K0a rfl (by exact S.old c1) rfl ?_);refine lB0 rfl ⟨⟩ (fun f1=>?_) fun f1=>?_
 ·refine lR0 rfl ⟨⟩ (o0a rfl (by conv=>lhs;whnf) ?_);exact⟨by exact SN (by omega),S.fin⟩
 refine lO0 rfl ⟨⟩ (s0a K0a rfl (by exact S.old c0) rfl ?_);refine lB0 rfl ⟨⟩ (fun g1=>?_) fun g1=>?_
 ·refine lC0 rfl ⟨⟩ (v0a b0a [0,1,2,3,4,5,6,7,8,9,10,11,12,13,14,15,16,17,18,19,20,21,22,23,24,25,26] [] [] (by kernel_rfl) rfl (Cl _ _ _ _) (Cl.start S) ?_);refine qO0 rfl ⟨⟩ (j0a p2a rfl (fun w1 hw=>by exact hw.1.old c3) rfl ?_);refine qB0 rfl ⟨⟩ (fun h1=>?_) fun h1=>?_
  ·refine qO0 rfl ⟨⟩ (j0a K0a rfl (fun w1 hw=>by exact hw.1.old c2) rfl ?_);refine qB0 rfl ⟨⟩ (fun i1=>?_) fun i1=>?_
   ·refine qO0 rfl ⟨⟩ (j0a K0a rfl (fun w1 hw=>by exact hw.1.old c2) rfl ?_);refine qO0 rfl ⟨⟩ (j0a K0a rfl (fun w1 hw=>by exact hw.1.old c1) rfl ?_);refine qO0 rfl ⟨⟩ (r4a q3b rfl rfl (by omega) (by omega) rfl ?_);refine qO0 rfl ⟨⟩ (j0a K0a rfl (fun w1 hw=>by exact hw.1.old (hK.at (by omega) (by omega))) rfl ?_);refine qB0 rfl ⟨⟩ (fun j1=>?_) fun j1=>?_
    ·refine qD rfl ⟨⟩ ?_;rintro Z0 ⟨C0,N0⟩;refine lR0 rfl ⟨⟩ (o0a rfl (by conv=>lhs;whnf) ?_);exact⟨by exact ST1 (by omega) (by omega),C0.fin⟩
    refine qD rfl ⟨⟩ ?_;rintro Z0 ⟨C0,N0⟩;refine lR0 rfl ⟨⟩ (o0a rfl (by conv=>lhs;whnf) ?_);exact⟨by exact SF1 (by omega) (by omega),C0.fin⟩
   refine qD rfl ⟨⟩ ?_;rintro Z0 ⟨C0,N0⟩;refine lR0 rfl ⟨⟩ (o0a rfl (by conv=>lhs;whnf) ?_);exact⟨by exact SF1 (by omega) (by omega),C0.fin⟩
  refine qD rfl ⟨⟩ ?_;rintro Z0 ⟨C0,N0⟩;refine lR0 rfl ⟨⟩ (o0a rfl (by conv=>lhs;whnf) ?_);exact⟨by exact SF1 (by omega) (by omega),C0.fin⟩
 refine lB0 rfl ⟨⟩ (fun m1=>?_) fun m1=>?_
 ·refine lO0 rfl ⟨⟩ (s0a p2a rfl (by exact S.old c3) rfl ?_);refine lB0 rfl ⟨⟩ (fun S0=>?_) fun S0=>?_
  ·refine lO0 rfl ⟨⟩ (s0a K0a rfl (by exact S.old c2) rfl ?_);refine lB0 rfl ⟨⟩ (fun T0=>?_) fun T0=>?_
   ·refine lO0 rfl ⟨⟩ (s0a K0a rfl (by exact S.old c2) rfl ?_);refine lB0 rfl ⟨⟩ (fun U0=>?_) fun U0=>?_
    ·refine lR0 rfl ⟨⟩ (o0a rfl (by conv=>lhs;whnf) ?_);exact⟨by exact ST2 (by omega) (by omega),S.fin⟩
    refine lR0 rfl ⟨⟩ (o0a rfl (by conv=>lhs;whnf) ?_);exact⟨by exact SF2 (by omega) (by omega),S.fin⟩
   refine lR0 rfl ⟨⟩ (o0a rfl (by conv=>lhs;whnf) ?_);exact⟨by exact SF2 (by omega) (by omega),S.fin⟩
  refine lR0 rfl ⟨⟩ (o0a rfl (by conv=>lhs;whnf) ?_);exact⟨by exact SF2 (by omega) (by omega),S.fin⟩
 refine lB0 rfl ⟨⟩ (fun n1=>?_) fun n1=>?_
 ·refine lO0 rfl ⟨⟩ (s0a p2a rfl (by exact S.old c3) rfl ?_);refine lB0 rfl ⟨⟩ (fun S0=>?_) fun S0=>?_
  ·refine lO0 rfl ⟨⟩ (s0a K0a rfl (by exact S.old c2) rfl ?_);refine lB0 rfl ⟨⟩ (fun T0=>?_) fun T0=>?_
   ·refine lO0 rfl ⟨⟩ (s0a K0a rfl (by exact S.old c2) rfl ?_);refine lB0 rfl ⟨⟩ (fun U0=>?_) fun U0=>?_
    ·refine lR0 rfl ⟨⟩ (o0a rfl (by conv=>lhs;whnf) ?_);exact⟨by exact ST2 (by omega) (by omega),S.fin⟩
    refine lR0 rfl ⟨⟩ (o0a rfl (by conv=>lhs;whnf) ?_);exact⟨by exact SF2 (by omega) (by omega),S.fin⟩
   refine lR0 rfl ⟨⟩ (o0a rfl (by conv=>lhs;whnf) ?_);exact⟨by exact SF2 (by omega) (by omega),S.fin⟩
  refine lR0 rfl ⟨⟩ (o0a rfl (by conv=>lhs;whnf) ?_);exact⟨by exact SF2 (by omega) (by omega),S.fin⟩
 refine lO0 rfl ⟨⟩ (s0a K0a rfl (by exact S.old c2) rfl ?_);refine lB0 rfl ⟨⟩ (fun o1=>?_) fun o1=>?_
 ·refine lR0 rfl ⟨⟩ (o0a rfl (by conv=>lhs;whnf) ?_);exact⟨by exact k6a (fun⟨x1,x2,x3⟩=>by omega),S.fin⟩
 refine lO0 rfl ⟨⟩ (s0a K0a rfl (by exact S.old c0) rfl ?_);refine lB0 rfl ⟨⟩ (fun p1=>?_) fun p1=>?_
 ·refine lC0 rfl ⟨⟩ (v0a b0a [0,1,2,3,4,5,6,7] [8] [9,10] (by kernel_rfl) rfl (Cl _ _ _ _) (Cl.start S) ?_);refine qO0 rfl ⟨⟩ (j0a p2a rfl (fun w1 hw=>by exact hw.1.old c3) rfl ?_);refine qO0 rfl ⟨⟩ (j0a K0a rfl (fun w1 hw=>by exact hw.1.old c1) rfl ?_);refine qN0 rfl ⟨⟩ (V3a ?_);refine x3a rfl rfl O0a (vs:=[.int .i64 _]) (cs:=[_]) (by rfl) rfl rfl rfl rfl rfl ?_;refine R1a ?_;rintro z1 ⟨p0,_⟩;intro B1 V0 a1 X0;dsimp only[R3a];clear X0;replace p0:=p0.push_new S V0 a1;refine C0a p0 A6a rfl rfl (b6a e [] _ _ _ _ _ _ _ _ [e.w] (RdE.less (by simp) _ _ (RdE.keep (p0.keep0 M) _ _ z0)) (a5a (k:=0) p0 rfl (by simp) rfl (by omega) (by simpa using o2))) (fun I0 y1 K0 b1=>?_) (fun I0 y1 K0 b1=>?_)
  ·refine lR0 rfl ⟨⟩ (o0a rfl (by conv=>lhs;whnf) ?_);exact⟨by exact ST4 (by omega) (by have:=V1c.1 I0;omega),K0.fin⟩
  refine lR0 rfl ⟨⟩ (o0a rfl (by conv=>lhs;whnf) ?_);exact⟨by exact SF4 (by omega) (fun g=>by rw[V1c.2 (by omega)] at I0;cases I0),K0.fin⟩
 refine lB0 rfl ⟨⟩ (fun q1=>?_) fun q1=>?_
 ·refine lC0 rfl ⟨⟩ (v0a b0a [0,1,2,3,4,5,6,7,8,9,10,11] [12] [13,14] (by kernel_rfl) rfl (Cl _ _ _ _) (Cl.start S) ?_);refine qO0 rfl ⟨⟩ (j0a p2a rfl (fun w1 hw=>by exact hw.1.old c3) rfl ?_);refine qO0 rfl ⟨⟩ (j0a K0a rfl (fun w1 hw=>by exact hw.1.old c1) rfl ?_);refine qO0 rfl ⟨⟩ (j0a K0a rfl (fun w1 hw=>by exact hw.1.old c1) rfl ?_);refine qN0 rfl ⟨⟩ (V3a ?_);refine x3a rfl rfl O0a (vs:=[.int .i64 _,.int .i64 _]) (cs:=[_,_]) (by rfl) rfl rfl rfl rfl rfl ?_;refine R1a ?_;rintro x0 ⟨a0,r0⟩;intro s0 f0 h0 g0;dsimp only[R3a];clear g0;replace a0:=a0.push_new S f0 h0;refine C0a a0 A6a rfl rfl (b6a e [] _ _ _ _ _ _ _ _ [e.w,e.w] (RdE.less (by simp) _ _ (RdE.keep (a0.keep0 M) _ _ z0)) (a5a (k:=0) a0 rfl (by simp) rfl (by omega) (by simpa using o2))) (fun b0 n0 d0 i0=>?_) (fun b0 n0 d0 i0=>?_)
  ·refine lR0 rfl ⟨⟩ (o0a rfl (by conv=>lhs;whnf) ?_);exact⟨by exact ST5 (by omega) (by have:=h4a.1 b0;omega),d0.fin⟩
  refine lR0 rfl ⟨⟩ (o0a rfl (by conv=>lhs;whnf) ?_);exact⟨by exact SF5 (by omega) (fun g=>by rw[h4a.2 (by omega)] at b0;cases b0),d0.fin⟩
 refine lB0 rfl ⟨⟩ (fun r1=>?_) fun r1=>?_
 ·refine lC0 rfl ⟨⟩ (v0a b0a [0,1,2,3,4,5,6,7,8,9,10,11] [12] [13,14] (by kernel_rfl) rfl (Cl _ _ _ _) (Cl.start S) ?_);refine qO0 rfl ⟨⟩ (j0a p2a rfl (fun w1 hw=>by exact hw.1.old c3) rfl ?_);refine qO0 rfl ⟨⟩ (j0a K0a rfl (fun w1 hw=>by exact hw.1.old c1) rfl ?_);refine qO0 rfl ⟨⟩ (j0a K0a rfl (fun w1 hw=>by exact hw.1.old c1) rfl ?_);refine qN0 rfl ⟨⟩ (V3a ?_);refine x3a rfl rfl O0a (vs:=[.int .i64 _,.int .i64 _]) (cs:=[_,_]) (by rfl) rfl rfl rfl rfl rfl ?_;refine R1a ?_;rintro x0 ⟨a0,r0⟩;intro s0 f0 h0 g0;dsimp only[R3a];clear g0;replace a0:=a0.push_new S f0 h0;refine C0a a0 A6a rfl rfl (b6a e [] _ _ _ _ _ _ _ _ [e.w,e.w] (RdE.less (by simp) _ _ (RdE.keep (a0.keep0 M) _ _ z0)) (a5a (k:=0) a0 rfl (by simp) rfl (by omega) (by simpa using o2))) (fun b0 n0 d0 i0=>?_) (fun b0 n0 d0 i0=>?_)
  ·refine lR0 rfl ⟨⟩ (o0a rfl (by conv=>lhs;whnf) ?_);exact⟨by exact ST5 (by omega) (by have:=h4a.1 b0;omega),d0.fin⟩
  refine lR0 rfl ⟨⟩ (o0a rfl (by conv=>lhs;whnf) ?_);exact⟨by exact SF5 (by omega) (fun g=>by rw[h4a.2 (by omega)] at b0;cases b0),d0.fin⟩
 refine lB0 rfl ⟨⟩ (fun s1=>?_) fun s1=>?_
 ·refine lC0 rfl ⟨⟩ (v0a b0a [0,1,2,3,4,5,6,7,8,9,10,11] [12] [13,14] (by kernel_rfl) rfl (Cl _ _ _ _) (Cl.start S) ?_);refine qO0 rfl ⟨⟩ (j0a p2a rfl (fun w1 hw=>by exact hw.1.old c3) rfl ?_);refine qO0 rfl ⟨⟩ (j0a K0a rfl (fun w1 hw=>by exact hw.1.old c1) rfl ?_);refine qO0 rfl ⟨⟩ (j0a K0a rfl (fun w1 hw=>by exact hw.1.old c1) rfl ?_);refine qN0 rfl ⟨⟩ (V3a ?_);refine x3a rfl rfl O0a (vs:=[.int .i64 _,.int .i64 _]) (cs:=[_,_]) (by rfl) rfl rfl rfl rfl rfl ?_;refine R1a ?_;rintro x0 ⟨a0,r0⟩;intro s0 f0 h0 g0;dsimp only[R3a];clear g0;replace a0:=a0.push_new S f0 h0;refine C0a a0 A6a rfl rfl (b6a e [] _ _ _ _ _ _ _ _ [e.w,e.w] (RdE.less (by simp) _ _ (RdE.keep (a0.keep0 M) _ _ z0)) (a5a (k:=0) a0 rfl (by simp) rfl (by omega) (by simpa using o2))) (fun b0 n0 d0 i0=>?_) (fun b0 n0 d0 i0=>?_)
  ·refine lR0 rfl ⟨⟩ (o0a rfl (by conv=>lhs;whnf) ?_);exact⟨by exact ST5 (by omega) (by have:=h4a.1 b0;omega),d0.fin⟩
  refine lR0 rfl ⟨⟩ (o0a rfl (by conv=>lhs;whnf) ?_);exact⟨by exact SF5 (by omega) (fun g=>by rw[h4a.2 (by omega)] at b0;cases b0),d0.fin⟩
 refine lB0 rfl ⟨⟩ (fun t1=>?_) fun t1=>?_
 ·refine lC0 rfl ⟨⟩ (v0a b0a [0,1,2,3,4,5,6,7,8,9,10,11] [12] [13,14] (by kernel_rfl) rfl (Cl _ _ _ _) (Cl.start S) ?_);refine qO0 rfl ⟨⟩ (j0a p2a rfl (fun w1 hw=>by exact hw.1.old c3) rfl ?_);refine qO0 rfl ⟨⟩ (j0a K0a rfl (fun w1 hw=>by exact hw.1.old c1) rfl ?_);refine qO0 rfl ⟨⟩ (j0a K0a rfl (fun w1 hw=>by exact hw.1.old c1) rfl ?_);refine qN0 rfl ⟨⟩ (V3a ?_);refine x3a rfl rfl O0a (vs:=[.int .i64 _,.int .i64 _]) (cs:=[_,_]) (by rfl) rfl rfl rfl rfl rfl ?_;refine R1a ?_;rintro x0 ⟨a0,r0⟩;intro s0 f0 h0 g0;dsimp only[R3a];clear g0;replace a0:=a0.push_new S f0 h0;refine C0a a0 A6a rfl rfl (b6a e [] _ _ _ _ _ _ _ _ [e.w,e.w] (RdE.less (by simp) _ _ (RdE.keep (a0.keep0 M) _ _ z0)) (a5a (k:=0) a0 rfl (by simp) rfl (by omega) (by simpa using o2))) (fun b0 n0 d0 i0=>?_) (fun b0 n0 d0 i0=>?_)
  ·refine lR0 rfl ⟨⟩ (o0a rfl (by conv=>lhs;whnf) ?_);exact⟨by exact ST5 (by omega) (by have:=h4a.1 b0;omega),d0.fin⟩
  refine lR0 rfl ⟨⟩ (o0a rfl (by conv=>lhs;whnf) ?_);exact⟨by exact SF5 (by omega) (fun g=>by rw[h4a.2 (by omega)] at b0;cases b0),d0.fin⟩
 refine lB0 rfl ⟨⟩ (fun u1=>?_) fun u1=>?_
 ·refine lC0 rfl ⟨⟩ (v0a b0a [0,1,2,3,4,5,6,7,8,9,10,11] [12] [13,14] (by kernel_rfl) rfl (Cl _ _ _ _) (Cl.start S) ?_);refine qO0 rfl ⟨⟩ (j0a p2a rfl (fun w1 hw=>by exact hw.1.old c3) rfl ?_);refine qO0 rfl ⟨⟩ (j0a K0a rfl (fun w1 hw=>by exact hw.1.old c1) rfl ?_);refine qO0 rfl ⟨⟩ (j0a K0a rfl (fun w1 hw=>by exact hw.1.old c1) rfl ?_);refine qN0 rfl ⟨⟩ (V3a ?_);refine x3a rfl rfl O0a (vs:=[.int .i64 _,.int .i64 _]) (cs:=[_,_]) (by rfl) rfl rfl rfl rfl rfl ?_;refine R1a ?_;rintro x0 ⟨a0,r0⟩;intro s0 f0 h0 g0;dsimp only[R3a];clear g0;replace a0:=a0.push_new S f0 h0;refine C0a a0 A6a rfl rfl (b6a e [] _ _ _ _ _ _ _ _ [e.w,e.w] (RdE.less (by simp) _ _ (RdE.keep (a0.keep0 M) _ _ z0)) (a5a (k:=0) a0 rfl (by simp) rfl (by omega) (by simpa using o2))) (fun b0 n0 d0 i0=>?_) (fun b0 n0 d0 i0=>?_)
  ·refine lR0 rfl ⟨⟩ (o0a rfl (by conv=>lhs;whnf) ?_);exact⟨by exact ST5 (by omega) (by have:=h4a.1 b0;omega),d0.fin⟩
  refine lR0 rfl ⟨⟩ (o0a rfl (by conv=>lhs;whnf) ?_);exact⟨by exact SF5 (by omega) (fun g=>by rw[h4a.2 (by omega)] at b0;cases b0),d0.fin⟩
 refine lB0 rfl ⟨⟩ (fun v1=>?_) fun v1=>?_
 ·refine lC0 rfl ⟨⟩ (v0a b0a [0,1,2,3,4,5,6,7,8,9,10,11] [12] [13,14] (by kernel_rfl) rfl (Cl _ _ _ _) (Cl.start S) ?_);refine qO0 rfl ⟨⟩ (j0a p2a rfl (fun w1 hw=>by exact hw.1.old c3) rfl ?_);refine qO0 rfl ⟨⟩ (j0a K0a rfl (fun w1 hw=>by exact hw.1.old c1) rfl ?_);refine qO0 rfl ⟨⟩ (j0a K0a rfl (fun w1 hw=>by exact hw.1.old c1) rfl ?_);refine qN0 rfl ⟨⟩ (V3a ?_);refine x3a rfl rfl O0a (vs:=[.int .i64 _,.int .i64 _]) (cs:=[_,_]) (by rfl) rfl rfl rfl rfl rfl ?_;refine R1a ?_;rintro x0 ⟨a0,r0⟩;intro s0 f0 h0 g0;dsimp only[R3a];clear g0;replace a0:=a0.push_new S f0 h0;refine C0a a0 A6a rfl rfl (b6a e [] _ _ _ _ _ _ _ _ [e.w,e.w] (RdE.less (by simp) _ _ (RdE.keep (a0.keep0 M) _ _ z0)) (a5a (k:=0) a0 rfl (by simp) rfl (by omega) (by simpa using o2))) (fun b0 n0 d0 i0=>?_) (fun b0 n0 d0 i0=>?_)
  ·refine lR0 rfl ⟨⟩ (o0a rfl (by conv=>lhs;whnf) ?_);exact⟨by exact ST5 (by omega) (by have:=h4a.1 b0;omega),d0.fin⟩
  refine lR0 rfl ⟨⟩ (o0a rfl (by conv=>lhs;whnf) ?_);exact⟨by exact SF5 (by omega) (fun g=>by rw[h4a.2 (by omega)] at b0;cases b0),d0.fin⟩
 refine lB0 rfl ⟨⟩ (fun O0=>?_) fun O0=>?_
 ·refine lC0 rfl ⟨⟩ (v0a b0a [0,1,2,3,4,5,6,7,8,9,10,11,12,13,14,15,16,17,18,19,20,21,22,23,24,25,26,27,28,29,30] [] [] (by kernel_rfl) rfl (Cl _ _ _ _) (Cl.start S) ?_);refine qO0 rfl ⟨⟩ (j0a K0a rfl (fun w1 hw=>by exact hw.1.old c1) rfl ?_);refine qB0 rfl ⟨⟩ (fun t0=>?_) fun t0=>?_
  ·refine qO0 rfl ⟨⟩ (j0a p2a rfl (fun w1 hw=>by exact hw.1.old c3) rfl ?_);refine qB0 rfl ⟨⟩ (fun u0=>?_) fun u0=>?_
   ·refine qO0 rfl ⟨⟩ (j0a p2a rfl (fun w1 hw=>by exact hw.1.old c3) rfl ?_);refine qO0 rfl ⟨⟩ ?_;obtain⟨bk,ok,hA,D0,A0⟩:=W0 (by omega);have F0:=G1a A0 0 (by omega);have G0:=G1a A0 1 (by omega);refine n0a j1a.slT rfl (by assumption) rfl (by omega) (by omega) rfl ?_;refine qO0 rfl ⟨⟩ (j0a K0a rfl (fun w1 hw=>by exact hw.1.old F0) rfl ?_);refine qO0 rfl ⟨⟩ (j0a p2a rfl (fun w1 hw=>by exact hw.1.old c3) rfl ?_);refine qO0 rfl ⟨⟩ (n0a j1a.slT rfl (by assumption) rfl (by omega) (by omega) rfl ?_);refine qO0 rfl ⟨⟩ (j0a K0a rfl (fun w1 hw=>by exact hw.1.old G0) rfl ?_);refine qB0 rfl ⟨⟩ (fun v0=>?_) fun v0=>?_
    ·refine qD rfl ⟨⟩ ?_;rintro o0 ⟨e0,j0⟩;refine lR0 rfl ⟨⟩ (o0a rfl (by conv=>lhs;whnf) ?_);exact⟨by exact u8c (by omega) (by omega),e0.fin⟩
    refine qD rfl ⟨⟩ ?_;rintro o0 ⟨e0,j0⟩;refine lR0 rfl ⟨⟩ (o0a rfl (by conv=>lhs;whnf) ?_);exact⟨by exact s3b (by omega) (by omega),e0.fin⟩
   refine qD rfl ⟨⟩ ?_;rintro o0 ⟨e0,j0⟩;refine lR0 rfl ⟨⟩ (o0a rfl (by conv=>lhs;whnf) ?_);exact⟨by exact s3b (by omega) (by omega),e0.fin⟩
  refine qD rfl ⟨⟩ ?_;rintro o0 ⟨e0,j0⟩;refine lR0 rfl ⟨⟩ (o0a rfl (by conv=>lhs;whnf) ?_);exact⟨by exact s3b (by omega) (by omega),e0.fin⟩
 refine lB0 rfl ⟨⟩ (fun P0=>?_) fun P0=>?_
 ·refine lC0 rfl ⟨⟩ (v0a b0a [0,1,2,3,4,5,6,7,8,9,10,11,12,13,14,15,16,17,18,19,20,21,22,23,24,25,26,27,28,29,30] [] [] (by kernel_rfl) rfl (Cl _ _ _ _) (Cl.start S) ?_);refine qO0 rfl ⟨⟩ (j0a K0a rfl (fun w1 hw=>by exact hw.1.old c1) rfl ?_);refine qB0 rfl ⟨⟩ (fun t0=>?_) fun t0=>?_
  ·refine qO0 rfl ⟨⟩ (j0a p2a rfl (fun w1 hw=>by exact hw.1.old c3) rfl ?_);refine qB0 rfl ⟨⟩ (fun u0=>?_) fun u0=>?_
   ·refine qO0 rfl ⟨⟩ (j0a p2a rfl (fun w1 hw=>by exact hw.1.old c3) rfl ?_);refine qO0 rfl ⟨⟩ ?_;obtain⟨bk,ok,hA,D0,A0⟩:=W0 (by omega);have F0:=G1a A0 0 (by omega);have G0:=G1a A0 1 (by omega);refine n0a j1a.slT rfl (by assumption) rfl (by omega) (by omega) rfl ?_;refine qO0 rfl ⟨⟩ (j0a K0a rfl (fun w1 hw=>by exact hw.1.old F0) rfl ?_);refine qO0 rfl ⟨⟩ (j0a p2a rfl (fun w1 hw=>by exact hw.1.old c3) rfl ?_);refine qO0 rfl ⟨⟩ (n0a j1a.slT rfl (by assumption) rfl (by omega) (by omega) rfl ?_);refine qO0 rfl ⟨⟩ (j0a K0a rfl (fun w1 hw=>by exact hw.1.old G0) rfl ?_);refine qB0 rfl ⟨⟩ (fun v0=>?_) fun v0=>?_
    ·refine qD rfl ⟨⟩ ?_;rintro o0 ⟨e0,j0⟩;refine lR0 rfl ⟨⟩ (o0a rfl (by conv=>lhs;whnf) ?_);exact⟨by exact u8c (by omega) (by omega),e0.fin⟩
    refine qD rfl ⟨⟩ ?_;rintro o0 ⟨e0,j0⟩;refine lR0 rfl ⟨⟩ (o0a rfl (by conv=>lhs;whnf) ?_);exact⟨by exact s3b (by omega) (by omega),e0.fin⟩
   refine qD rfl ⟨⟩ ?_;rintro o0 ⟨e0,j0⟩;refine lR0 rfl ⟨⟩ (o0a rfl (by conv=>lhs;whnf) ?_);exact⟨by exact s3b (by omega) (by omega),e0.fin⟩
  refine qD rfl ⟨⟩ ?_;rintro o0 ⟨e0,j0⟩;refine lR0 rfl ⟨⟩ (o0a rfl (by conv=>lhs;whnf) ?_);exact⟨by exact s3b (by omega) (by omega),e0.fin⟩
 refine lB0 rfl ⟨⟩ (fun Q0=>?_) fun Q0=>?_
 ·refine lC0 rfl ⟨⟩ (v0a b0a [0,1,2,3,4,5,6,7,8,9,10,11,12,13,14,15,16,17,18,19,20,21,22,23,24,25,26,27,28,29,30] [] [] (by kernel_rfl) rfl (Cl _ _ _ _) (Cl.start S) ?_);refine qO0 rfl ⟨⟩ (j0a K0a rfl (fun w1 hw=>by exact hw.1.old c1) rfl ?_);refine qB0 rfl ⟨⟩ (fun t0=>?_) fun t0=>?_
  ·refine qO0 rfl ⟨⟩ (j0a p2a rfl (fun w1 hw=>by exact hw.1.old c3) rfl ?_);refine qB0 rfl ⟨⟩ (fun u0=>?_) fun u0=>?_
   ·refine qO0 rfl ⟨⟩ (j0a p2a rfl (fun w1 hw=>by exact hw.1.old c3) rfl ?_);refine qO0 rfl ⟨⟩ ?_;obtain⟨bk,ok,hA,D0,A0⟩:=W0 (by omega);have F0:=G1a A0 0 (by omega);have G0:=G1a A0 1 (by omega);refine n0a j1a.slT rfl (by assumption) rfl (by omega) (by omega) rfl ?_;refine qO0 rfl ⟨⟩ (j0a K0a rfl (fun w1 hw=>by exact hw.1.old F0) rfl ?_);refine qO0 rfl ⟨⟩ (j0a p2a rfl (fun w1 hw=>by exact hw.1.old c3) rfl ?_);refine qO0 rfl ⟨⟩ (n0a j1a.slT rfl (by assumption) rfl (by omega) (by omega) rfl ?_);refine qO0 rfl ⟨⟩ (j0a K0a rfl (fun w1 hw=>by exact hw.1.old G0) rfl ?_);refine qB0 rfl ⟨⟩ (fun v0=>?_) fun v0=>?_
    ·refine qD rfl ⟨⟩ ?_;rintro o0 ⟨e0,j0⟩;refine lR0 rfl ⟨⟩ (o0a rfl (by conv=>lhs;whnf) ?_);exact⟨by exact u8c (by omega) (by omega),e0.fin⟩
    refine qD rfl ⟨⟩ ?_;rintro o0 ⟨e0,j0⟩;refine lR0 rfl ⟨⟩ (o0a rfl (by conv=>lhs;whnf) ?_);exact⟨by exact s3b (by omega) (by omega),e0.fin⟩
   refine qD rfl ⟨⟩ ?_;rintro o0 ⟨e0,j0⟩;refine lR0 rfl ⟨⟩ (o0a rfl (by conv=>lhs;whnf) ?_);exact⟨by exact s3b (by omega) (by omega),e0.fin⟩
  refine qD rfl ⟨⟩ ?_;rintro o0 ⟨e0,j0⟩;refine lR0 rfl ⟨⟩ (o0a rfl (by conv=>lhs;whnf) ?_);exact⟨by exact s3b (by omega) (by omega),e0.fin⟩
 refine lB0 rfl ⟨⟩ (fun R0=>?_) fun R0=>?_
 ·refine lC0 rfl ⟨⟩ (v0a b0a [0,1,2,3,4,5,6,7,8,9,10,11] [12] [13,14] (by kernel_rfl) rfl (Cl _ _ _ _) (Cl.start S) ?_);refine qO0 rfl ⟨⟩ (j0a p2a rfl (fun w1 hw=>by exact hw.1.old c3) rfl ?_);refine qO0 rfl ⟨⟩ (j0a K0a rfl (fun w1 hw=>by exact hw.1.old c1) rfl ?_);refine qO0 rfl ⟨⟩ (j0a K0a rfl (fun w1 hw=>by exact hw.1.old c1) rfl ?_);refine qN0 rfl ⟨⟩ (V3a ?_);refine x3a rfl rfl O0a (vs:=[.int .i64 _,.int .i64 _,.int .i64 _]) (cs:=[_,_,_]) (by rfl) rfl rfl rfl rfl rfl ?_;refine R1a ?_;rintro A1 ⟨q0,_⟩;intro d1 E0 J0 H0;dsimp only[R3a];clear H0;replace q0:=q0.push_new S E0 J0;refine C0a q0 A6a rfl rfl (b6a e [] _ _ _ _ _ _ _ _ [1,e.w,e.w] (RdE.less (by simp) _ _ (RdE.keep (q0.keep0 M) _ _ z0)) (a5a (k:=0) q0 rfl (by simp) rfl (by omega) (by simpa[i64] using o2))) (fun y0 Y0 B0 L0=>?_) (fun y0 Y0 B0 L0=>?_)
  ·refine lR0 rfl ⟨⟩ (o0a rfl (by conv=>lhs;whnf) ?_);exact⟨by exact H1d (by omega) (by have:=V0c.1 y0;omega),B0.fin⟩
  refine lR0 rfl ⟨⟩ (o0a rfl (by conv=>lhs;whnf) ?_);exact⟨by exact V8c (by omega) (fun g=>by rw[V0c.2 (by omega)] at y0;cases y0),B0.fin⟩
 refine lR0 rfl ⟨⟩ (o0a rfl (by conv=>lhs;whnf) ?_);exact⟨by exact SN (by omega),S.fin⟩
theorem t0c(ks:List E)(k:Nat)(h:k<ks.length):E.cnts (ks.take (k+1))=E.cnts (ks.take k)+ks[k].cnt:=by
 induction ks generalizing k with
 | nil=>simp at h
 | cons x xs ih =>
   cases k with
   | zero=>simp[E.cnts]
   | succ k=>simp only[List.take_succ_cons,E.cnts,List.getElem_cons_succ];rw[ih k (by simpa using h)];omega
theorem J3b(ks:List E)(k:Nat):E.cnts (ks.take k)≤E.cnts ks:=by
 induction ks generalizing k with
 | nil=>simp[E.cnts]
 | cons x xs ih =>
   cases k with
   | zero=>simp[E.cnts]
   | succ k=>simp only[List.take_succ_cons,E.cnts];have:=ih k;omega
def Y4b(e:E)(depth:Int)(cnt:Nat):Bool:=decide (cnt+e.cnt≤600)&&e.good (41-depth)
theorem b4c:∀(e:E) (M:List Nat) (w0:World) (b o:Nat) (a0:Int) (b0 gc gv:Nat),RdP M w0 e b o→q3a M w0→gc∈M→gv∉M→p0a w0 (gc,3,[.int .i64 (b0:Int)]) →
 w0.cell? ⟨gv,0,none⟩=some (.func (.func 155) #[] #[.pointer (some ⟨gc,0,none⟩),.pointer (some ⟨gv,0,none⟩)])→b0≤600→1≤a0→a0≤41 →
 M0a Tryz.prog 155 #[.pointer (some ⟨b,o,none⟩),.int .i64 a0,.pointer (some ⟨gc,0,none⟩),.pointer (some ⟨gv,0,none⟩)] w0 fun v w' =>
  ∃i0:Nat,F0a [gc] w0 w'∧p0a w' (gc,3,[.int .i64 (i0:Int)])∧v=.bool (Y4b e a0 b0)∧(Y4b e a0 b0=true→i0=b0+e.cnt):=by
 intro e
 induction e using E.induct with
 | _ e ih =>
 intro M w0 b o a0 b0 gc gv hR hK B0 C0 v0 F0 P0 Z0 a1;obtain⟨N0,_,_,_,_,_,_,_,n,_,c3,_,_,_,_,T0,_⟩:=hR.open_;have S:=St.borrow1 v0;have g0:∀g∈[gc],g∈M:=fun g hg=>by simp at hg;subst hg;exact B0
 have A0:b∉[gc]:=fun h=>N0 (g0 b h);have E0:gv∉[gc]:=fun h=>C0 (g0 gv h);have p0:=E.good_def e (41-a0);have X0:=E.cnt_def e;have j0:∀k∈e.kids,k.good (41-(a0+1))=false→E.goods e.kids (41-a0-1)=false:=fun k hk hf=>by
  cases hg:E.goods e.kids (41-a0-1) with
  | false=>rfl
  | true=>rw[show 41-(a0+1)=41-a0-1 by omega,(E.goods_iff _ _).1 hg k hk] at hf;cases hf
 refine a0a Tryz.func155 rfl Tryz.ntmps155 rfl ?_;refine wO0 rfl ⟨⟩ (s0a K0a rfl (by exact S.cell 0 rfl rfl) rfl ?_);refine lO0 rfl ⟨by omega,⟨⟩⟩ ?_
 first|refine B0a (kk:=0) S u9a rfl (by conv=>lhs;whnf) rfl rfl (by exact Nat.le_of_ble_eq_true rfl) ?_
 intro W0 d0 I0;refine lO0 rfl ⟨⟩ (s0a K0a rfl (by exact d0.cell 0 rfl rfl) rfl ?_);refine lB0 rfl ⟨⟩ (fun J0=>?_) fun J0=>?_
 ·refine lR0 rfl ⟨⟩ (o0a rfl (by conv=>lhs;whnf) ?_);have h0:Y4b e a0 b0=false:=by
   unfold Y4b;rw[p0];rw[decide_eq_false (show ¬b0+e.cnt≤600 by omega)];rfl
  exact⟨b0+1,d0.below,d0.blk 0 rfl,by rw[h0],fun h=>by rw[h0] at h;cases h⟩
 refine lB0 rfl ⟨⟩ (fun K0=>?_) fun K0=>?_
 ·refine lR0 rfl ⟨⟩ (o0a rfl (by conv=>lhs;whnf) ?_);have h0:Y4b e a0 b0=false:=by
   unfold Y4b;rw[p0];simp[show ¬1≤41-a0 by omega];done
  exact⟨b0+1,d0.below,d0.blk 0 rfl,by rw[h0],fun h=>by rw[h0] at h;cases h⟩
 refine lO0 rfl ⟨⟩ (C0a d0 U7c rfl rfl (O9b _ M _ _ _ (hR.keep (d0.keepM.mono g0)) (hK.keep (d0.keepM.mono g0))) (fun s0 V0 n0 H0=>?_) (fun s0 V0 n0 H0=>?_))
 ·refine lO0 rfl ⟨⟩ (s0a p2a rfl (by exact n0.oldM A0 c3) rfl ?_);refine lC0 rfl ⟨⟩ ?_;refine wL (fun μ D ε w=>D=[]∧∃k:Nat,(k+μ=e.kids.length)∧(∀(j:Nat) (h:j<e.kids.length),j<k→e.kids[j].good (41-a0-1)=true)∧(b0+1+E.cnts (e.kids.take k)≤600)∧St [gc] w0 w [(some gc,3,[.int .i64 ((b0+1+E.cnts (e.kids.take k):Nat):Int)])]∧ε 0=.pointer (some ⟨b,o,none⟩)∧ε 1=.int .i64 a0∧ε 2=.pointer (some ⟨gc,0,none⟩)∧ε 3=.pointer (some ⟨gv,0,none⟩)∧ε 25=.int .i64 n∧ε 26=.int .i64 k) (μ:=e.kids.length) ⟨rfl,0,by omega,fun j _ h=>absurd h (by omega),by simp[E.cnts];omega,by simpa[E.cnts] using n0,rfl,rfl,rfl,rfl,rfl,rfl⟩ ?_;rintro μ D ε w ⟨rfl,k,hk,hs,D0,S,e0,e1,e2,e3,y0,z0⟩;refine r0a 0 e0 (r0a 1 e1 (r0a 2 e2 (r0a 3 e3 (r0a 25 y0 (r0a 26 z0 ?_)))));clear e0 e1 e2 e3 y0 z0;refine wB0 rfl ⟨⟩ (fun L0=>?_) fun L0=>?_
  ·refine lC0 rfl ⟨⟩ (v0a b0a [0,1,2,3,4,5,6,7,8] [] [9,10] (by kernel_rfl) rfl (Cl _ _ _ _) (Cl.start S) ?_);refine j0a o1c rfl (fun w1 hw=>by exact hw.1.oldM E0 F0) rfl ?_;refine qO0 rfl ⟨⟩ (j0a p2a rfl (fun w1 hw=>by exact hw.1.oldM A0 c3) rfl ?_);refine qO0 rfl ⟨⟩ ?_;have r0:k<e.kids.length:=by omega
   obtain⟨bk,ok,_,u0,S0⟩:=T0 (by omega);have Q0:=t0c e.kids k r0;have Y0:=J3b e.kids (k+1);refine n0a j1a.slT rfl (by assumption) rfl (by omega) (by omega) rfl ?_;refine qD rfl ⟨by omega,⟨⟩⟩ ?_;rintro f1 ⟨o0,_⟩;refine r2b w1c rfl rfl rfl (ih _ (List.getElem_mem r0) M _ bk (ok+k*4) _ _ gc gv ((RdP.kid u0 S0 k r0).keep (o0.keepM.mono g0)) (hK.keep (o0.keepM.mono g0)) B0 C0 (o0.blk 0 rfl) (o0.oldM E0 F0) D0 (by omega) (by omega)) ?_;rintro b1 d1 ⟨i0,G0,t0,rfl,x0⟩;have q0:=o0.changed1 0 rfl G0 t0;dsimp only[List.set] at q0;cases f0:Y4b e.kids[k] (a0+1) (b0+1+E.cnts (e.kids.take k))
   ·refine lR0 rfl ⟨⟩ (o0a rfl (by conv=>lhs;whnf) ?_);have h0:Y4b e a0 b0=false:=by
     unfold Y4b at f0 ⊢;rw[p0];by_cases hq:b0+1+E.cnts (e.kids.take k)+e.kids[k].cnt≤600
     ·rw[decide_eq_true hq] at f0;simp only[Bool.true_and] at f0;rw[j0 _ (List.getElem_mem r0) f0];simp
     ·rw[decide_eq_false (by omega)];rfl
    exact⟨i0,q0.below,q0.blk 0 rfl,by rw[h0],fun h=>by rw[h0] at h;cases h⟩
   refine lP0 rfl ⟨by omega,⟨⟩⟩ ?_;have O0:=x0 f0;unfold Y4b at f0;simp only[Bool.and_eq_true,decide_eq_true_eq] at f0;refine⟨μ-1,by omega,rfl,k+1,by omega,fun j hj h=>?_,by omega,by rw[Q0,←Nat.add_assoc,←O0];exact q0,rfl,rfl,rfl,rfl,rfl,rfl⟩;by_cases R0:j=k
   ·subst R0;rw[show 41-a0-1=41-(a0+1) by omega];exact f0.2
   ·exact hs j hj (by omega)
  refine lR0 rfl ⟨⟩ (o0a rfl (by conv=>lhs;whnf) ?_);obtain rfl:k=e.kids.length:=by omega
  rw[List.take_length] at D0 S;have U0:Y4b e a0 b0=true:=by
   unfold Y4b;rw[p0,decide_eq_true (by omega),(E.goods_iff _ _).2 (fun x hx=>by obtain⟨j,hj,rfl⟩:=List.getElem_of_mem hx;exact hs j hj (by omega))];simp[s0,show 1≤41-a0 by omega]
  exact⟨_,S.below,S.blk 0 rfl,by rw[U0],fun _=>by omega⟩
 refine lR0 rfl ⟨⟩ (o0a rfl (by conv=>lhs;whnf) ?_);have h0:Y4b e a0 b0=false:=by
  unfold Y4b;rw[p0];simp[s0];done
 exact⟨b0+1,n0.below,n0.blk 0 rfl,by rw[h0],fun h=>by rw[h0] at h;cases h⟩
theorem D5a(e:E)(M:List Nat)(w0:World)(cs:List Value)(hR:RdE M w0 e cs)(hK:q3a M w0):
 M0a Tryz.prog 126 #[.agg cs.toArray] w0 fun v w'=>v=.bool e.wf∧Below w0.heap.size w0 w':=by
 obtain⟨_,_,_,rfl,_,_,_,_,_,_,_,_⟩:=hR.open_;have S:=St.refl w0;refine a0a Tryz.func126 rfl Tryz.ntmps126 rfl ?_;refine wO0 rfl ⟨⟩ (h0a S (by conv=>lhs;whnf) rfl ?_);intro g1 w1 S1 X1 G1;refine lO0 rfl ⟨⟩ (m0a S1 p0d rfl rfl ?_);intro g3 w3 S3 X3 G3;refine B0a (kk:=0) S3 u9a rfl (by conv=>lhs;whnf) rfl rfl (by exact Nat.le_of_ble_eq_true rfl) ?_;intro h0 b0 e0;refine lO0 rfl ⟨⟩ (m0a b0 W9c rfl rfl ?_);intro g4 w4 S4 X4 G4;refine lO0 rfl ⟨⟩ (N1a rfl rfl ?_);refine B0a (kk:=0) S4 b0d rfl (by conv=>lhs;whnf) rfl rfl (by exact Nat.le_of_ble_eq_true rfl) ?_;intro i0 a0 f0;refine lO a0.k [.o 0] rfl ⟨rfl,⟨⟩⟩ ?_;have d0:∀g∈[g3] ,g∈M∨w0.heap.size≤g:=fun g hg=>by
  simp at hg;subst hg;right;have:=a0.new 1 rfl;simp at this;exact this
 refine r2b w1c rfl rfl rfl (b4c e [g3] _ g1 0 1 0 g3 g4 ?_ ?_ (by simp) ?_ (a0.blk 1 rfl) (a0.cell 0 rfl rfl) (by omega) (by omega) (by omega)) ?_
 ·exact⟨by simpa using(a0.ne 1 2 rfl rfl (by omega)).symm,_,a0.cells 2 rfl,RdE.keep (a0.keep0 _) _ _ (RdE.more d0 _ _ hR)⟩
 ·exact(hK.more d0).keep (a0.keep0 _)
 ·simpa using a0.ne 0 1 rfl rfl (by omega)
 rintro v7 w7 ⟨_,B7,g0,rfl,-⟩;have S7:=a0.changed1 1 rfl B7 g0;refine lR0 rfl ⟨⟩ (o0a rfl (by conv=>lhs;whnf) ?_);refine⟨?_,S7.fin⟩;unfold Y4b E.wf;simp
def b2a(op a b c:Int):Int :=
 if op=4 then j0c (-1) a else if op=5 then s0b a b else if op=6 then bor a b else if op=7 then j0c a b else if op=9 then wr (a+wr (0-b)) else if op=8 then wr (a+b) else
 if op=10 then wr (a*b) else if op=11 then(if a=b then 1 else 0) else if op=13 then(if a=b then 1 else if a<b then 1 else 0) else if op=12 then(if a<b then 1 else 0) else
 if op=14 then(if a=1 then b else c) else 0
mutual
def E.val(old now:List Int):E→Int
 | ⟨op,w,n,ks⟩=>if op=1 then n else if op=2 then s0b (now.getD n.toNat 0) (G3a w.toNat-1) else if op=3 then s0b (old.getD n.toNat 0) (G3a w.toNat-1) else
  s0b (b2a op ((E.vals old now ks).getD 0 0) ((E.vals old now ks).getD 1 0) ((E.vals old now ks).getD 2 0)) (G3a w.toNat-1)
def E.vals(old now:List Int):List E→List Int
 | []=>[]
 | k::ks=>E.val old now k::E.vals old now ks
end
theorem E.vals_map(old a0:List Int)(ks:List E):E.vals old a0 ks=ks.map (E.val old a0):=by
 induction ks with
 | nil=>simp[E.vals]
 | cons k ks ih=>simp[E.vals,ih]
theorem E.val_def(old a0:List Int)(e:E):e.val old a0=if e.op=1 then e.n else if e.op=2 then s0b (a0.getD e.n.toNat 0) (G3a e.w.toNat-1) else if e.op=3 then s0b (old.getD e.n.toNat 0) (G3a e.w.toNat-1) else
 s0b (b2a e.op ((e.kids.map (E.val old a0)).getD 0 0) ((e.kids.map (E.val old a0)).getD 1 0) ((e.kids.map (E.val old a0)).getD 2 0)) (G3a e.w.toNat-1):=by
 cases e;simp only[E.val,E.vals_map]
def E.evl(old now:List Int)(e:E):Int:=if e.wf then e.val old now else 0
def j0d(vs:List Int)(k:Nat):List Value:=[.int .i64 ((vs.take k).getD 0 0),.int .i64 ((vs.take k).getD 1 0),.int .i64 ((vs.take k).getD 2 0)]
@[simp] theorem A0d(vs:List Int)(k:Nat):(j0d vs k).length=3:=rfl
theorem K2c(vs:List Int)(k:Nat)(h3:vs.length≤3)(h:k<vs.length):(j0d vs k).set k (.int .i64 (vs.getD k 0))=j0d vs (k+1):=by
 unfold j0d
 match vs,h3 with
 | [],_=>simp at h
 | [a],_=>obtain rfl:k=0:=by simp at h;omega
          simp
 | [a,b],_=>rcases(show k=0∨k=1 by simp at h;omega) with rfl|rfl<;>simp
 | [a,b,c],_=>rcases(show k=0∨k=1∨k=2 by simp at h;omega) with rfl|rfl|rfl<;>simp
 | a::b::c::d::l,h=>simp at h
theorem U1b(M:List Nat)(w0:World)(v:Value)(l:List Int)(i:Int)(hR:RdI M w0 v l)(h0:0≤i):
 M0a Tryz.prog 157 #[v,.int .i64 i] w0 fun v w'=>v=.int .i64 (l.getD i.toNat 0)∧Below w0.heap.size w0 w':=by
 obtain⟨_,_,_,rfl⟩:=hR.form;obtain⟨_,_,_,_,g0⟩:=hR.at;have S:=St.refl w0;refine a0a Tryz.func157 rfl Tryz.ntmps157 rfl ?_;refine wB0 rfl ⟨⟩ (fun h8=>?_) fun h8=>?_
 ·refine lO0 rfl ⟨⟩ ?_;obtain⟨b,o,_,_,f0⟩:=g0 (by omega);have d0:i.toNat<l.length:=by omega
  obtain⟨_,_,a0,b0⟩:=f0 i.toNat l[i.toNat] (List.getElem?_eq_getElem d0);have e0:w0.cell? ⟨b,o+i.toNat*1,none⟩=some (.int .i64 l[i.toNat]):=a0 0 _ (by rw[b0.1];rfl);refine w0a O0a.slT rfl (by assumption) rfl (by omega) (by omega) rfl ?_;refine s0a K0a rfl (by first|exact S.old e0) rfl ?_;refine lR0 rfl ⟨⟩ (o0a rfl (by conv=>lhs;whnf) ?_);refine⟨?_,S.fin⟩;simp[d0];done
 refine lR0 rfl ⟨⟩ (o0a rfl (by conv=>lhs;whnf) ?_);refine⟨?_,S.fin⟩;simp[show l.length≤i.toNat by omega];done
theorem M6a(z:Bool)(w0:World):M0a Tryz.prog 198 #[.bool z] w0 fun v w'=>v=.int .i64 (if z=true then 1 else 0)∧Below w0.heap.size w0 w':=by
 have S:=St.refl w0;cases z
 ·refine a0a Tryz.func198 rfl Tryz.ntmps198 rfl ?_;refine wR0 rfl ⟨⟩ (o0a rfl (by conv=>lhs;whnf) ?_);exact⟨by simp,S.fin⟩
 ·refine a0a Tryz.func198 rfl Tryz.ntmps198 rfl ?_;refine wR0 rfl ⟨⟩ (o0a rfl (by conv=>lhs;whnf) ?_);exact⟨by simp,S.fin⟩
theorem u3c(op a b c:Int)(w0:World):M0a Tryz.prog 158 #[.int .i64 op,.agg #[.int .i64 a,.int .i64 b,.int .i64 c]] w0 fun v w'=>v=.int .i64 (b2a op a b c)∧Below w0.heap.size w0 w':=by
 have S:=St.refl w0;refine a0a Tryz.func158 rfl Tryz.ntmps158 rfl ?_;refine wO0 rfl ⟨⟩ (h0a S (by conv=>lhs;whnf) rfl ?_);intro g3 w3 S3 X3 G3;refine lC0 rfl ⟨⟩ (v0a b0a [0,1,2,3,4,5] [] [] (by kernel_rfl) rfl (Cl _ _ _ _) (Cl.start S3) ?_);refine r4a Z2b rfl rfl (by omega) (by omega) rfl ?_;refine j0a K0a rfl (fun w1 hw=>by first|exact hw.1.cell 0 rfl rfl) rfl ?_;refine r4a Z2b rfl rfl (by omega) (by omega) rfl ?_;refine j0a K0a rfl (fun w1 hw=>by first|exact hw.1.cell 0 rfl rfl) rfl ?_;refine qD rfl ⟨⟩ ?_;rintro B0 ⟨a0,_⟩;refine lB0 rfl ⟨⟩ (fun b0=>?_) fun b0=>?_
 ·refine lT rfl ⟨⟩ rfl ⟨congrArg (Value.int .i64) ?_,a0.fin⟩;unfold b2a;rw[if_pos b0]
 refine lB0 rfl ⟨⟩ (fun d0=>?_) fun d0=>?_
 ·refine lT rfl ⟨⟩ rfl ⟨congrArg (Value.int .i64) ?_,a0.fin⟩;unfold b2a;rw[if_neg b0,if_pos d0]
 refine lB0 rfl ⟨⟩ (fun e0=>?_) fun e0=>?_
 ·refine lT rfl ⟨⟩ rfl ⟨congrArg (Value.int .i64) ?_,a0.fin⟩;unfold b2a;rw[if_neg b0,if_neg d0,if_pos e0]
 refine lB0 rfl ⟨⟩ (fun f0=>?_) fun f0=>?_
 ·refine lT rfl ⟨⟩ rfl ⟨congrArg (Value.int .i64) ?_,a0.fin⟩;unfold b2a;rw[if_neg b0,if_neg d0,if_neg e0,if_pos f0]
 refine lB0 rfl ⟨⟩ (fun g0=>?_) fun g0=>?_
 ·refine lOn 8 a0.k [] rfl ⟨⟩ (I8c rfl rfl ?_);refine lOn 9 a0.k [] rfl ⟨⟩ (U4c rfl rfl rfl ?_);refine lT rfl ⟨⟩ rfl ⟨congrArg (Value.int .i64) ?_,a0.fin⟩;unfold b2a;rw[if_neg b0,if_neg d0,if_neg e0,if_neg f0,if_pos g0]
 refine lB0 rfl ⟨⟩ (fun h0=>?_) fun h0=>?_
 ·refine lOn 11 a0.k [] rfl ⟨⟩ (U4c rfl rfl rfl ?_);refine lT rfl ⟨⟩ rfl ⟨congrArg (Value.int .i64) ?_,a0.fin⟩;unfold b2a;rw[if_neg b0,if_neg d0,if_neg e0,if_neg f0,if_neg g0,if_pos h0]
 refine lB0 rfl ⟨⟩ (fun i0=>?_) fun i0=>?_
 ·refine lOn 11 a0.k [] rfl ⟨⟩ (U8c rfl rfl rfl ?_);refine lT rfl ⟨⟩ rfl ⟨congrArg (Value.int .i64) ?_,a0.fin⟩;unfold b2a;rw[if_neg b0,if_neg d0,if_neg e0,if_neg f0,if_neg g0,if_neg h0,if_pos i0]
 refine lB0 rfl ⟨⟩ (fun j0=>?_) fun j0=>?_
 ·refine lB0 rfl ⟨⟩ (fun v0=>?_) fun v0=>?_
  ·refine g0a a0 Q8a rfl rfl (M6a _ _) ?_;intro A0 t0 z0;refine lT rfl ⟨⟩ rfl ⟨congrArg (Value.int .i64) ?_,t0.fin⟩;unfold b2a;rw[if_neg b0,if_neg d0,if_neg e0,if_neg f0,if_neg g0,if_neg h0,if_neg i0,if_pos j0];simp[v0];done
  refine g0a a0 Q8a rfl rfl (M6a _ _) ?_;intro A0 t0 z0;refine lT rfl ⟨⟩ rfl ⟨congrArg (Value.int .i64) ?_,t0.fin⟩;unfold b2a;rw[if_neg b0,if_neg d0,if_neg e0,if_neg f0,if_neg g0,if_neg h0,if_neg i0,if_pos j0];simp[v0];done
 refine lB0 rfl ⟨⟩ (fun n0=>?_) fun n0=>?_
 ·refine lB0 rfl ⟨⟩ (fun s0=>?_) fun s0=>?_
  ·refine lT rfl ⟨⟩ rfl ⟨congrArg (Value.int .i64) ?_,a0.fin⟩;unfold b2a;rw[if_neg b0,if_neg d0,if_neg e0,if_neg f0,if_neg g0,if_neg h0,if_neg i0,if_neg j0,if_pos n0];(simp[s0];done)
  refine lB0 rfl ⟨⟩ (fun p0=>?_) fun p0=>?_
  ·refine g0a a0 Q8a rfl rfl (M6a _ _) ?_;intro y0 o0 u0;refine lT rfl ⟨⟩ rfl ⟨congrArg (Value.int .i64) ?_,o0.fin⟩;unfold b2a;rw[if_neg b0,if_neg d0,if_neg e0,if_neg f0,if_neg g0,if_neg h0,if_neg i0,if_neg j0,if_pos n0];(simp[s0,p0];done)
  refine g0a a0 Q8a rfl rfl (M6a _ _) ?_;intro y0 o0 u0;refine lT rfl ⟨⟩ rfl ⟨congrArg (Value.int .i64) ?_,o0.fin⟩;unfold b2a;rw[if_neg b0,if_neg d0,if_neg e0,if_neg f0,if_neg g0,if_neg h0,if_neg i0,if_neg j0,if_pos n0];(simp[s0,p0];done)
 refine lB0 rfl ⟨⟩ (fun q0=>?_) fun q0=>?_
 ·refine lB0 rfl ⟨⟩ (fun p0=>?_) fun p0=>?_
  ·refine g0a a0 Q8a rfl rfl (M6a _ _) ?_;intro y0 o0 u0;refine lT rfl ⟨⟩ rfl ⟨congrArg (Value.int .i64) ?_,o0.fin⟩;unfold b2a;rw[if_neg b0,if_neg d0,if_neg e0,if_neg f0,if_neg g0,if_neg h0,if_neg i0,if_neg j0,if_neg n0,if_pos q0];(simp[p0];done)
  refine g0a a0 Q8a rfl rfl (M6a _ _) ?_;intro y0 o0 u0;refine lT rfl ⟨⟩ rfl ⟨congrArg (Value.int .i64) ?_,o0.fin⟩;unfold b2a;rw[if_neg b0,if_neg d0,if_neg e0,if_neg f0,if_neg g0,if_neg h0,if_neg i0,if_neg j0,if_neg n0,if_pos q0];(simp[p0];done)
 refine lB0 rfl ⟨⟩ (fun r0=>?_) fun r0=>?_
 ·refine lB0 rfl ⟨⟩ (fun x0=>?_) fun x0=>?_
  ·refine lT rfl ⟨⟩ rfl ⟨congrArg (Value.int .i64) ?_,a0.fin⟩;unfold b2a;rw[if_neg b0,if_neg d0,if_neg e0,if_neg f0,if_neg g0,if_neg h0,if_neg i0,if_neg j0,if_neg n0,if_neg q0,if_pos r0];simp[x0];done
  refine lO0 rfl ⟨⟩ (J6a Z2b rfl rfl (by omega) (by omega) rfl ?_);refine s0a K0a rfl (by first|exact a0.cell 0 rfl rfl) rfl ?_;refine lT rfl ⟨⟩ rfl ⟨congrArg (Value.int .i64) ?_,a0.fin⟩;unfold b2a;rw[if_neg b0,if_neg d0,if_neg e0,if_neg f0,if_neg g0,if_neg h0,if_neg i0,if_neg j0,if_neg n0,if_neg q0,if_pos r0];simp[x0];done
 refine lT rfl ⟨⟩ rfl ⟨congrArg (Value.int .i64) ?_,a0.fin⟩;unfold b2a;rw[if_neg b0,if_neg d0,if_neg e0,if_neg f0,if_neg g0,if_neg h0,if_neg i0,if_neg j0,if_neg n0,if_neg q0,if_neg r0]
theorem S2c:∀(e:E) (M:List Nat) (w0:World) (b o:Nat) (vo vn:Value) (old a0:List Int) (p0:Int),RdP M w0 e b o→q3a M w0→RdI M w0 vo old→RdI M w0 vn a0→e.good p0=true →
 M0a Tryz.prog 129 #[.pointer (some ⟨b,o,none⟩),vo,vn] w0 fun v w'=>v=.int .i64 (e.val old a0)∧Below w0.heap.size w0 w':=by
 intro e
 induction e using E.induct with
 | _ e ih =>
 intro M w0 b o vo vn old a0 p0 hR hK hO hN hg;obtain⟨_,_,_,_,c0,c1,c2,_,n,_,c3,_,_,_,_,C0,_⟩:=hR.open_;obtain⟨Ao,no,co,rfl⟩:=hO.form;obtain⟨An,nn,cn,rfl⟩:=hN.form;rw[E.good_def] at hg;simp only[Bool.and_eq_true] at hg;have t0:e.Shape:=of_decide_eq_true hg.1.2;have A0:∀k∈e.kids,k.good (p0-1)=true:=(E.goods_iff _ _).1 hg.2;clear hg;have G0:(e.op=3∨e.op=2)→0≤e.n∧e.n<32:=fun h=>by
  have:=(f5a (by omega)).1 t0;omega
 have F0:=Q5a t0;have z0:=h2a e.op;have S:=St.refl w0;have b0:=E.val_def old a0 e;refine a0a Tryz.func129 rfl Tryz.ntmps129 rfl ?_;refine wO0 rfl ⟨⟩ (s0a K0a rfl (by exact S.old c0) rfl ?_);refine lB0 rfl ⟨⟩ (fun f0=>?_) fun f0=>?_
 ·refine lO0 rfl ⟨⟩ (s0a K0a rfl (by exact S.old c2) rfl ?_);refine lT rfl ⟨⟩ rfl ⟨congrArg (Value.int .i64) ?_,S.fin⟩;rw[b0];rw[if_pos f0]
 refine lB0 rfl ⟨⟩ (fun h0=>?_) fun h0=>?_
 ·refine lC0 rfl ⟨⟩ (v0a b0a [0,1,2,3,4,5,6,7,8,9,10,11,12,13] [] [] (by kernel_rfl) rfl (Cl _ _ _ _) (Cl.start S) ?_);refine h1a (by conv=>lhs;whnf) rfl ?_;refine qO0 rfl ⟨⟩ (j0a K0a rfl (fun w1 hw=>by exact hw.1.old c2) rfl ?_);refine r1a J1c rfl rfl (fun w1 S1 X1=>U1b M _ _ _ _ (RdS.keep (by assumption) (S1.keep0 M)) (by omega)) ?_;refine qO0 rfl ⟨⟩ (j0a K0a rfl (fun w1 hw=>by exact hw.1.old c1) rfl ?_);refine r4a q3b rfl rfl (by omega) (by omega) rfl ?_;refine j0a K0a rfl (fun w1 hw=>by exact hw.1.old (hK.at (by omega) (by omega))) rfl ?_;refine qD rfl ⟨⟩ ?_;rintro I0 ⟨v0,_⟩;refine lT rfl ⟨⟩ rfl ⟨congrArg (Value.int .i64) ?_,v0.fin⟩;rw[b0];rw[if_neg f0,if_pos h0]
 refine lB0 rfl ⟨⟩ (fun n0=>?_) fun n0=>?_
 ·refine lC0 rfl ⟨⟩ (v0a b0a [0,1,2,3,4,5,6,7,8,9,10,11,12,13] [] [] (by kernel_rfl) rfl (Cl _ _ _ _) (Cl.start S) ?_);refine h1a (by conv=>lhs;whnf) rfl ?_;refine qO0 rfl ⟨⟩ (j0a K0a rfl (fun w1 hw=>by exact hw.1.old c2) rfl ?_);refine r1a J1c rfl rfl (fun w1 S1 X1=>U1b M _ _ _ _ (RdS.keep (by assumption) (S1.keep0 M)) (by omega)) ?_;refine qO0 rfl ⟨⟩ (j0a K0a rfl (fun w1 hw=>by exact hw.1.old c1) rfl ?_);refine r4a q3b rfl rfl (by omega) (by omega) rfl ?_;refine j0a K0a rfl (fun w1 hw=>by exact hw.1.old (hK.at (by omega) (by omega))) rfl ?_;refine qD rfl ⟨⟩ ?_;rintro J0 ⟨x0,_⟩;refine lT rfl ⟨⟩ rfl ⟨congrArg (Value.int .i64) ?_,x0.fin⟩;rw[b0];rw[if_neg f0,if_neg h0,if_pos n0]
 refine lO0 rfl ⟨⟩ (m0a S e0d rfl rfl ?_);intro g7 w7 S7 X7 G7;refine lO0 rfl ⟨⟩ (s0a p2a rfl (by exact S7.old c3) rfl ?_);refine lC0 rfl ⟨⟩ (wL (fun μ D ε w=>D=[]∧∃k:Nat,(k+μ=e.kids.length)∧St [] w0 w [(some g7,222,j0d (e.kids.map (E.val old a0)) k)]∧ε 0=.pointer (some ⟨b,o,none⟩)∧ε 1=.slice Ao no co∧ε 2=.slice An nn cn∧ε 7=.pointer (some ⟨g7,0,none⟩)∧ε 53=.int .i64 n∧ε 54=.int .i64 k) (μ:=e.kids.length) ⟨rfl,0,by omega,by exact S7,rfl,rfl,rfl,rfl,rfl,rfl⟩ ?_);rintro μ D ε w ⟨rfl,k,_,S,e0,e1,e2,e7,r0,s0⟩;refine r0a 0 e0 (r0a 1 e1 (r0a 2 e2 (r0a 7 e7 (r0a 53 r0 (r0a 54 s0 ?_)))));clear e0 e1 e2 e7 r0 s0;refine wB0 rfl ⟨⟩ (fun y0=>?_) fun y0=>?_
 ·refine lO0 rfl ⟨⟩ (s0a p2a rfl (by exact S.old c3) rfl ?_);refine lO0 rfl ⟨⟩ ?_;have g0:k<e.kids.length:=by omega
  obtain⟨bk,ok,_,o0,B0⟩:=C0 (by omega);refine w0a j1a.slT rfl (by assumption) rfl (by omega) (by omega) rfl ?_;refine lO0 rfl ⟨⟩ (g0a S r9b rfl rfl (ih _ (List.getElem_mem g0) M _ bk (ok+k*4) _ _ old a0 _ ((RdP.kid o0 B0 k g0).keep (S.keep0 M)) (hK.keep (S.keep0 M)) (hO.keep (S.keep0 M)) (hN.keep (S.keep0 M)) (A0 _ (List.getElem_mem g0))) ?_);intro H0 u0 E0;refine J6a Z2b rfl rfl (by omega) (by omega) rfl ?_
  first|refine B0a (kk:=0) u0 u9a rfl (by conv=>lhs;whnf) rfl rfl (by(simp;omega)) ?_
  intro q0 d0 j0;refine lP0 rfl ⟨by omega,⟨⟩⟩ ⟨μ-1,by omega,rfl,k+1,by omega,?_,rfl,rfl,rfl,rfl,rfl,rfl⟩;have h3:(e.kids.map (E.val old a0)).length≤3:=by rw[List.length_map];omega
  have hx:=K2c (e.kids.map (E.val old a0)) k h3 (by simpa using g0);rw[←hx];simpa[g0] using d0
 refine lC0 rfl ⟨⟩ (v0a b0a [0,1,2,3,4,5,6,7,8,9,10,11,12,13] [] [] (by kernel_rfl) rfl (Cl _ _ _ _) (Cl.start S) ?_);refine qO0 rfl ⟨⟩ (j0a K0a rfl (fun w1 hw=>by exact hw.1.old c0) rfl ?_);refine qO S.q [.w 0] rfl ⟨⟨rfl,by rfl⟩,⟨⟩⟩ (r1a v7c rfl rfl (fun w1 S1 X1=>u3c _ _ _ _ _) ?_);refine qO0 rfl ⟨⟩ (j0a K0a rfl (fun w1 hw=>by exact hw.1.old c1) rfl ?_);refine r4a q3b rfl rfl (by omega) (by omega) rfl ?_;refine j0a K0a rfl (fun w1 hw=>by exact hw.1.old (hK.at (by omega) (by omega))) rfl ?_;refine qD rfl ⟨⟩ ?_;rintro D0 ⟨i0,_⟩;refine lT rfl ⟨⟩ rfl ⟨congrArg (Value.int .i64) ?_,i0.fin⟩;rw[b0];obtain rfl:k=e.kids.length:=by omega
 rw[if_neg f0,if_neg h0,if_neg n0];have h3:(e.kids.map (E.val old a0)).take e.kids.length=e.kids.map (E.val old a0):=List.take_of_length_le (by simp);rw[h3]
theorem O8a(e:E)(M:List Nat)(w0:World)(cs:List Value)(vo vn:Value)(old a0:List Int)(hR:RdE M w0 e cs)(hK:q3a M w0)(hO:RdI M w0 vo old)(hN:RdI M w0 vn a0):
 M0a Tryz.prog 98 #[.agg cs.toArray,vo,vn] w0 fun v w'=>v=.int .i64 (e.evl old a0)∧Below w0.heap.size w0 w':=by
 obtain⟨_,_,_,rfl,_,_,_,_,_,_,_,_⟩:=hR.open_;obtain⟨_,_,_,rfl⟩:=hO.form;obtain⟨_,_,_,rfl⟩:=hN.form;have S:=St.refl w0;refine a0a Tryz.func98 rfl Tryz.ntmps98 rfl ?_;refine wO0 rfl ⟨⟩ (h0a S (by conv=>lhs;whnf) rfl ?_);intro g3 w3 S3 X3 G3;refine lO S3.k [.w 0] rfl ⟨⟨rfl,by rfl⟩,⟨⟩⟩ (C0a S3 j5b rfl rfl (D5a e M _ _ (RdE.keep (S3.keep0 M) _ _ hR) (hK.keep (S3.keep0 M))) (fun h8 w8 S8 X8=>?_) (fun h8 w8 S8 X8=>?_))
 ·refine lO0 rfl ⟨⟩ ?_;refine g0a S8 r9b rfl rfl (S2c e [] _ g3 0 _ _ old a0 40 ⟨by simp,_,S8.cells 0 rfl,RdE.less (by simp) _ _ (RdE.keep (S8.keep0 M) _ _ hR)⟩ ((hK.keep (S8.keep0 M)).more (by simp)) ((hO.keep (S8.keep0 M)).less (by simp)) ((hN.keep (S8.keep0 M)).less (by simp)) (by unfold E.wf at h8;simp only[Bool.and_eq_true] at h8;exact h8.2)) ?_;intro e0 b0 d0;refine lT rfl ⟨⟩ rfl ⟨congrArg (Value.int .i64) ?_,b0.fin⟩;unfold E.evl;simp[h8]
 refine lT rfl ⟨⟩ rfl ⟨congrArg (Value.int .i64) ?_,S8.fin⟩;unfold E.evl;simp[h8]
section
variable {σ:Type}
mutual
def E.lf(step:E→σ→σ):E→σ→σ
 | ⟨op,w,n,ks⟩,s=>E.lfs step ks (if ks.length=0 then step ⟨op,w,n,ks⟩ s else s)
def E.lfs(step:E→σ→σ):List E→σ→σ
 | [],s=>s
 | k::ks,s=>E.lfs step ks (E.lf step k s)
end
theorem E.lf_def(step:E→σ→σ)(e:E)(s:σ):e.lf step s=E.lfs step e.kids (if e.kids.length=0 then step e s else s):=by cases e;simp only[E.lf]
theorem F0a.mono{M M':List Nat}{w w':World}(h:F0a M w w')(hs:∀g∈M,g∈M'):F0a M' w w':=⟨h.os,h.tape,h.output,h.size,fun i hi hm=>h.block i hi fun hh=>hm (hs i hh)⟩
theorem St.more0{M:List Nat}{w0 w w':World}(S:St M w0 w [])(h:F0a M w w'):St M w0 w' [] :=
 S.changed (G:=M) (L':=[]) h (fun _ hg=>.inr hg) rfl (by simp)
end
theorem H4b{σ:Type}(M:List Nat)(Inv:σ→World→Prop)(step:E→σ→σ)(f:FuncId)(caps:Array Value)(hf:Has Tryz.prog f)
 (b0:∀(e:E) (s:σ) (w:World) (b o:Nat),e.Shape→e.kids.length=0→RdP M w e b o→Inv s w →
   M0a Tryz.prog f (.pointer (some ⟨b,o,none⟩)::caps.toList).toArray w fun _ w'=>Inv (step e s) w'∧F0a M w w') :
 ∀(e:E) (w0:World) (b o:Nat) (s:σ) (h0:Int),RdP M w0 e b o→Inv s w0→e.good h0=true →
 M0a Tryz.prog 127 #[.pointer (some ⟨b,o,none⟩),.func (.func f) #[] caps] w0 fun _ w'=>Inv (e.lf step s) w'∧F0a M w0 w':=by
 intro e
 induction e using E.induct with
 | _ e ih =>
 intro w0 b o s h0 hR hI hg;obtain⟨f0,_,_,_,_,_,_,_,n,_,c3,_,_,_,_,C0,_⟩:=hR.open_;rw[E.good_def] at hg;simp only[Bool.and_eq_true] at hg;have E0:e.Shape:=of_decide_eq_true hg.1.2;have A0:∀k∈e.kids,k.good (h0-1)=true:=(E.goods_iff _ _).1 hg.2;clear hg;have S:St M w0 w0 []:=⟨F0a.refl _ _,by simp,by simp⟩;have o0:=E.lf_def step e s;refine a0a Tryz.func127 rfl Tryz.ntmps127 rfl ?_;refine wX (fun D ε w=>D=[]∧∃s1:σ,(Inv s1 w)∧(s1=if e.kids.length=0 then step e s else s)∧St M w0 w []∧ε 0=.pointer (some ⟨b,o,none⟩)∧ε 1=.func (.func f) #[] caps) ?_ ?_
 ·refine wO0 rfl ⟨⟩ (s0a p2a rfl (by first|exact S.oldM f0 c3) rfl ?_);refine lB0 rfl ⟨⟩ (fun v0=>?_) fun v0=>?_
  ·refine lO0 rfl ⟨⟩ (r2b hf rfl rfl rfl (b0 e s _ b o E0 (by omega) (hR.keep S.keepM) hI) ?_);rintro F0 H0 ⟨r0,p0⟩;have t0:=S.more0 p0;exact lP0 rfl ⟨⟩ ⟨rfl,_,r0,by rw[if_pos (by omega)],t0,rfl,rfl⟩
  exact lP0 rfl ⟨⟩ ⟨rfl,_,hI,by rw[if_neg (by omega)],S,rfl,rfl⟩
 rintro D ε w ⟨rfl,s1,y0,D0,S,e0,e1⟩;refine r0a 0 e0 (r0a 1 e1 ?_);clear e0 e1;rw[←D0] at o0;refine wO0 rfl ⟨⟩ (s0a p2a rfl (by first|exact S.oldM f0 c3) rfl ?_);refine lC0 rfl ⟨⟩ (wL (fun μ D ε w=>D=[]∧∃k:Nat,∃s2:σ,(k+μ=e.kids.length)∧(Inv s2 w)∧(E.lfs step e.kids s1=E.lfs step (e.kids.drop k) s2)∧St M w0 w []∧ε 0=.pointer (some ⟨b,o,none⟩)∧ε 1=.func (.func f) #[] caps∧ε 18=.int .i64 n∧ε 19=.int .i64 k) (μ:=e.kids.length) ⟨rfl,0,s1,by omega,y0,rfl,S,rfl,rfl,rfl,rfl⟩ ?_);rintro μ D ε w ⟨rfl,k,s2,_,n0,a0,S,e0,e1,i0,j0⟩;refine r0a 0 e0 (r0a 1 e1 (r0a 18 i0 (r0a 19 j0 ?_)));clear e0 e1 i0 j0;refine wB0 rfl ⟨⟩ (fun x0=>?_) fun x0=>?_
 ·refine lO0 rfl ⟨⟩ (s0a p2a rfl (by first|exact S.oldM f0 c3) rfl ?_);refine lO0 rfl ⟨⟩ ?_;have d0:k<e.kids.length:=by omega
  obtain⟨bk,ok,_,g0,B0⟩:=C0 (by omega);have z0:e.kids.drop k=e.kids[k]::e.kids.drop (k+1):=List.drop_eq_getElem_cons d0;rw[z0] at a0;simp only[E.lfs] at a0;refine w0a j1a.slT rfl (by assumption) rfl (by omega) (by omega) rfl ?_;refine lO0 rfl ⟨⟩ (c2a d6b rfl rfl (ih _ (List.getElem_mem d0) _ bk (ok+k*4) s2 _ ((RdP.kid g0 B0 k d0).keep S.keepM) n0 (A0 _ (List.getElem_mem d0))) ?_);rintro G0 I0 ⟨s0,q0⟩;have u0:=S.more0 q0;exact lP0 rfl ⟨by omega,⟨⟩⟩ ⟨μ-1,by omega,rfl,k+1,_,by omega,s0,a0,u0,rfl,rfl,rfl,rfl⟩
 refine lF0 rfl ⟨⟩ (T1a rfl ?_);obtain rfl:k=e.kids.length:=by omega
 rw[List.drop_length] at a0;simp only[E.lfs] at a0;rw[o0,a0];exact⟨n0,S.below⟩
def y0d(M:List Nat)(gc gp gg:Nat)(vc:Value)(cells:List w2a)(pair:Bool)(s:Bool)(w:World):Prop :=
 gc∉M∧gp∉M∧w.cell? ⟨gc,0,none⟩=some vc∧w.cell? ⟨gp,0,none⟩=some (.bool pair)∧p0a w (gg,4,[.bool s])∧q7c M w vc cells
theorem t9b(M:List Nat)(gc gp gg:Nat)(vc:Value)(cells:List w2a)(a0:Bool)(L0:gg∈M)(e:E)(s:Bool)(w0:World)(b o:Nat)(B0:e.Shape)(P0:e.kids.length=0)(hR:RdP M w0 e b o)(hI:y0d M gc gp gg vc cells a0 s w0):
 M0a Tryz.prog 128 #[.pointer (some ⟨b,o,none⟩),.pointer (some ⟨gc,0,none⟩),.pointer (some ⟨gp,0,none⟩),.pointer (some ⟨gg,0,none⟩)] w0 fun _ w'=>y0d M gc gp gg vc cells a0 (s&&decide (e.OverN cells a0)) w'∧F0a M w0 w':=by
 obtain⟨y0,z0,s0,x0,q0,hC⟩:=hI;obtain⟨G0,_,_,_,c0,c1,c2,_,n,_,_,_,_,hm,_,_,_⟩:=hR.open_;obtain⟨Ac,nc,cc,rfl,_,_,_,_,J0⟩:=id hC;have O0:=Q5a B0;have F0:=h2a e.op;have Q0:(e.op=3∨e.op=2)→0≤e.n∧e.n<32:=fun h=>by
  have:=(f5a (by omega)).1 B0;omega
 have S:=St.borrow1 q0;have d0:∀g∈[gg],g∈M:=fun g hg=>by simp at hg;subst hg;exact L0
 have n0:b∉[gg]:=fun h=>G0 (d0 b h);have r0:gc∉[gg]:=fun h=>y0 (d0 gc h);have u0:gp∉[gg]:=fun h=>z0 (d0 gp h);have h0:∀(z:Bool) (w':World),St [gg] w0 w' [(some gg,4,[.bool z])]→z=(s&&decide (e.OverN cells a0))→y0d M gc gp gg (.slice Ac nc cc) cells a0 (s&&decide (e.OverN cells a0)) w'∧F0a M w0 w':=by
  intro z w' S' hz;subst hz;exact⟨⟨y0,z0,S'.oldM r0 s0,S'.oldM u0 x0,S'.blk 0 rfl,hC.keep (S'.keepM.mono d0)⟩,S'.below.mono d0⟩
 obtain⟨pr,v0⟩:∃pr,pr=a0:=⟨_,rfl⟩;have g0:=x0;rw[←v0] at g0;refine a0a Tryz.func128 rfl Tryz.ntmps128 rfl ?_;refine wC0 rfl ⟨⟩ (v0a b0a [0,1,2,3,4,5,6,7,8,9,10,11,12,13,14,15,16,17,18,19,20,21,22,23,24,25,26,27,28,29,30,31,32,33,34,35,36,37,38,39] [] [] (by kernel_rfl) rfl (Cl _ _ _ _) (Cl.start S) ?_);refine qO0 rfl ⟨⟩ (j0a K0a rfl (fun w1 hw=>by exact hw.1.oldM n0 c0) rfl ?_);refine qB0 rfl ⟨⟩ (fun h9=>?_) fun h9=>?_
 ·refine qO0 rfl ⟨⟩ (j0a K0a rfl (fun w1 hw=>by exact hw.1.oldM n0 c2) rfl ?_);refine qO0 rfl ⟨⟩ (j0a t9a rfl (fun w1 hw=>by exact hw.1.oldM r0 s0) rfl ?_);refine qB0 rfl ⟨⟩ (fun C0=>?_) fun C0=>?_
  ·refine qD rfl ⟨⟩ ?_;rintro wR0 ⟨f0,j0⟩;refine lO0 rfl ⟨⟩ ?_
   first|refine B0a (kk:=0) f0 e4c rfl (by conv=>lhs;whnf) rfl rfl (by exact Nat.le_of_ble_eq_true rfl) ?_
   intro o0 e0 i0;refine lF0 rfl ⟨⟩ (T1a rfl ?_);refine h0 _ _ e0 ?_;rw[decide_eq_false (show ¬e.OverN cells a0 from fun h=>by have:=h.2 (by omega);omega)];simp;done
  refine qO0 rfl ⟨⟩ (j0a t9a rfl (fun w1 hw=>by exact hw.1.oldM r0 s0) rfl ?_);refine qO0 rfl ⟨⟩ (j0a K0a rfl (fun w1 hw=>by exact hw.1.oldM n0 c2) rfl ?_);refine qO0 rfl ⟨⟩ ?_;obtain⟨bc,oc,_,H0,I0⟩:=J0 (by omega);obtain⟨m,hm⟩:=Int.eq_ofNat_of_zero_le (show 0≤e.n by omega);have A0:m<cells.length:=by omega
  have p0:bc∉[gg]:=fun h=>H0 (d0 bc h);obtain⟨_,_,t0,N0⟩:=I0 m cells[m] (List.getElem?_eq_getElem A0);have K0:w0.cell? ⟨bc,oc+e.n.toNat*6+1,none⟩=some (.int .i64 (wAt cells e.n)):=by
   rw[hm];have:=t0 1 (.int .i64 cells[m].w) (by rw[N0.1];rfl);simpa[wAt,A0] using this
  refine n0a U5a.slT rfl (by assumption) rfl (by omega) (by omega) rfl ?_;refine qO0 rfl ⟨⟩ (j0a K0a rfl (fun w1 hw=>by exact hw.1.oldM p0 K0) rfl ?_);refine qO0 rfl ⟨⟩ (j0a K0a rfl (fun w1 hw=>by exact hw.1.oldM n0 c1) rfl ?_);refine qB0 rfl ⟨⟩ (fun D0=>?_) fun D0=>?_
  ·refine qD rfl ⟨⟩ ?_;rintro wR0 ⟨f0,j0⟩;refine lO0 rfl ⟨⟩ ?_
   first|refine B0a (kk:=0) f0 e4c rfl (by conv=>lhs;whnf) rfl rfl (by exact Nat.le_of_ble_eq_true rfl) ?_
   intro o0 e0 i0;refine lF0 rfl ⟨⟩ (T1a rfl ?_);refine h0 _ _ e0 ?_;rw[decide_eq_false (show ¬e.OverN cells a0 from fun h=>by have:=h.2 (by omega);omega)];simp;done
  refine qO0 rfl ⟨⟩ (j0a K0a rfl (fun w1 hw=>by exact hw.1.oldM n0 c0) rfl ?_);refine qB0 rfl ⟨⟩ (fun E0=>?_) fun E0=>?_
  ·refine qO0 rfl ⟨⟩ ?_;rcases(Bool.eq_false_or_eq_true (pr)).symm with b0|b0
   ·refine j0a m2a rfl (fun w1 hw=>by exact(hw.1.oldM u0 (g0.trans (by rw[b0]))).trans (congrArg (fun b=>some (Value.bool b)) b0)) rfl ?_;refine qD rfl ⟨⟩ ?_;rintro wR0 ⟨f0,j0⟩;refine lO0 rfl ⟨⟩ ?_
    first|refine B0a (kk:=0) f0 e4c rfl (by conv=>lhs;whnf) rfl rfl (by exact Nat.le_of_ble_eq_true rfl) ?_
    intro o0 e0 i0;refine lF0 rfl ⟨⟩ (T1a rfl ?_);refine h0 _ _ e0 ?_;rw[decide_eq_false (show ¬e.OverN cells a0 from fun h=>by have:=h.1 (by omega);rw[←v0,b0] at this;cases this)];simp;done
   refine j0a m2a rfl (fun w1 hw=>by exact(hw.1.oldM u0 (g0.trans (by rw[b0]))).trans (congrArg (fun b=>some (Value.bool b)) b0)) rfl ?_;refine qD rfl ⟨⟩ ?_;rintro wR0 ⟨f0,j0⟩;refine lF0 rfl ⟨⟩ (T1a rfl ?_);refine h0 _ _ f0 ?_;rw[decide_eq_true (show e.OverN cells a0 from⟨fun h=>by rw[←v0,b0],fun h=>by omega⟩)];simp;done
  refine qD rfl ⟨⟩ ?_;rintro wR0 ⟨f0,j0⟩;refine lF0 rfl ⟨⟩ (T1a rfl ?_);refine h0 _ _ f0 ?_;rw[decide_eq_true (show e.OverN cells a0 from⟨fun h=>absurd h (by omega),fun h=>by omega⟩)];simp;done
 refine qD rfl ⟨⟩ ?_;rintro wR0 ⟨f0,j0⟩;refine lF0 rfl ⟨⟩ (T1a rfl ?_);refine h0 _ _ f0 ?_;rw[decide_eq_true (show e.OverN cells a0 from⟨fun h=>absurd h (by omega),fun h=>by omega⟩)];simp;done
theorem Y5c(cells:List w2a)(a0:Bool):∀(e:E) (s:Bool) (b0:Int),e.good b0=true→e.lf (fun e s=>s&&decide (e.OverN cells a0)) s=(s&&e.over cells a0):=by
 intro e
 induction e using E.induct with
 | _ e ih =>
   intro s b0 hg;rw[E.good_def] at hg;simp only[Bool.and_eq_true] at hg;have g0:e.Shape:=of_decide_eq_true hg.1.2;have f0:∀k∈e.kids,k.good (b0-1)=true:=(E.goods_iff _ _).1 hg.2;have j0:=Q5a g0;have e0:=h2a e.op;have key:∀(ks:List E),(∀k∈ks,∀(s:Bool) (b0:Int),k.good b0=true→k.lf (fun e s=>s&&decide (e.OverN cells a0)) s=(s&&k.over cells a0))→(∀k∈ks,k.good (b0-1)=true) →
    ∀s:Bool,E.lfs (fun e s=>s&&decide (e.OverN cells a0)) ks s=(s&&E.overs cells a0 ks):=by
    intro ks
    induction ks with
    | nil=>intro _ _ s;simp[E.lfs,E.overs]
    | cons k ks i0 =>
      intro h1 h2 s;simp only[E.lfs,E.overs];rw[i0 (fun k' d0=>h1 k' (by simp[d0])) (fun k' d0=>h2 k' (by simp[d0])),h1 k (by simp) _ (b0-1) (h2 k (by simp)),Bool.and_assoc]
   rw[E.lf_def,key e.kids ih f0,E.over_def];by_cases h0:e.kids.length=0
   ·rw[if_pos h0,Bool.and_assoc]
   ·rw[if_neg h0,decide_eq_true (show e.OverN cells a0 by unfold E.OverN;omega)];simp
theorem S2a(e:E)(M:List Nat)(w0:World)(cs:List Value)(vc:Value)(cells:List w2a)(b0:Bool)(hR:RdE M w0 e cs)(hC:q7c M w0 vc cells)(hK:q3a M w0):
 M0a Tryz.prog 96 #[.agg cs.toArray,vc,.bool b0] w0 fun v w'=>v=.bool (e.valid cells b0)∧Below w0.heap.size w0 w':=by
 obtain⟨_,_,_,rfl,_,_,_,_,_,_,_,_⟩:=hR.open_;obtain⟨Ac,nc,cc,rfl⟩:=hC.form;have S:=St.refl w0;refine a0a Tryz.func96 rfl Tryz.ntmps96 rfl ?_;refine wO0 rfl ⟨⟩ (h0a S (by conv=>lhs;whnf) rfl ?_);intro g3 w3 S3 X3 G3;refine Z6a S3 (v:=.slice _ _ _) rfl rfl rfl ?_;intro g4 w4 S4 X4 G4;refine Z6a S4 (v:=.bool _) rfl rfl rfl ?_;intro g5 w5 S5 X5 G5;refine lO S5.k [.w 2] rfl ⟨⟨rfl,by rfl⟩,⟨⟩⟩ (C0a S5 j5b rfl rfl (D5a e M _ _ (RdE.keep (S5.keep0 M) _ _ hR) (hK.keep (S5.keep0 M))) (fun h9 w9 S9 X9=>?_) (fun h9 w9 S9 X9=>?_))
 ·refine lO0 rfl ⟨⟩ (m0a S9 B1d rfl rfl ?_);intro g7 w7 S7 X7 G7;refine B0a (kk:=0) S7 e4c rfl (by conv=>lhs;whnf) rfl rfl (by exact Nat.le_of_ble_eq_true rfl) ?_;intro j0 a0 i0;refine lO0 rfl ⟨⟩ (N1a rfl rfl ?_);have f0:∀g∈[g7] ,g∈M∨w0.heap.size≤g:=fun g hg=>by
   simp at hg;subst hg;right;have:=a0.new 0 rfl;simp at this;exact this
  have d0:e.good 40=true:=by unfold E.wf at h9;simp only[Bool.and_eq_true] at h9;exact h9.2
  refine c2a d6b rfl rfl (H4b [g7] (y0d [g7] g4 g5 g7 (.slice Ac nc cc) cells b0) (fun e s=>s&&decide (e.OverN cells b0)) _ _ W7c (fun e s w b o h1 h2 h3 h4=>t9b [g7] g4 g5 g7 _ cells b0 (by simp) e s w b o h1 h2 h3 h4) e _ g3 0 true 40
   ⟨by simpa using(a0.ne 0 3 rfl rfl (by omega)).symm,_,a0.cells 3 rfl,RdE.keep (a0.keep0 _) _ _ (RdE.more f0 _ _ hR)⟩
   ⟨by simpa using(a0.ne 0 2 rfl rfl (by omega)).symm,by simpa using(a0.ne 0 1 rfl rfl (by omega)).symm,a0.cell 2 rfl rfl,a0.cell 1 rfl rfl,a0.blk 0 rfl,(hC.more (by omega) f0).keep (a0.keep0 _)⟩ d0) ?_
  rintro n0 o0 ⟨⟨-,-,-,-,h0,-⟩,g0⟩;have e0:=a0.changed1 0 rfl g0 h0;rw[Y5c cells b0 e true 40 d0] at e0;dsimp only[List.set] at e0;refine lR e0.k [.o 0] rfl ⟨rfl,⟨⟩⟩ (o0a rfl (by conv=>lhs;whnf) ?_);refine⟨congrArg Value.bool ?_,e0.fin⟩;unfold E.valid;simp[h9]
 refine lT rfl ⟨⟩ rfl ⟨congrArg Value.bool ?_,S9.fin⟩;unfold E.valid;simp[h9]
theorem f9b{M:List Nat}{w:World}:RdI M w (.slice none 0 0) []:=⟨none,0,0,rfl,rfl,Nat.le_refl _,by unfold maxLen;omega,by omega,fun h=>absurd h (by omega)⟩
def s8c(g1 g2:Nat)(s:List Bool×List Bool)(w:World):Prop :=
 s.1.length=32∧s.2.length=32∧p0a w (g1,259,s.1.map Value.bool)∧p0a w (g2,259,s.2.map Value.bool)
def m6a(e:E)(s:List Bool×List Bool):List Bool×List Bool:=(if e.op=3 then s.1.set e.n.toNat true else s.1,if e.op=2 then s.2.set e.n.toNat true else s.2)
theorem h5b(g1 g2:Nat)(j0:g1≠g2)(e:E)(s:List Bool×List Bool)(w0:World)(b o:Nat)(n0:e.Shape)(hR:RdP [g1,g2] w0 e b o)(hI:s8c g1 g2 s w0):
 M0a Tryz.prog 219 #[.pointer (some ⟨b,o,none⟩),.pointer (some ⟨g1,0,none⟩),.pointer (some ⟨g2,0,none⟩)] w0 fun _ w'=>s8c g1 g2 (m6a e s) w'∧F0a [g1,g2] w0 w':=by
 obtain⟨l1,l2,f0,g0⟩:=hI;obtain⟨_,_⟩:=s;dsimp only at l1 l2 f0 g0;obtain⟨e0,_,_,_,c0,_,c2,_,n,_,_,_,_,_,_,_,_⟩:=hR.open_;have q0:(e.op=3∨e.op=2)→0≤e.n∧e.n<32:=fun h=>by
  have:=(f5a (by omega)).1 n0;omega
 have S:=St.borrow2 f0 g0 j0;refine a0a Tryz.func219 rfl Tryz.ntmps219 rfl ?_;refine wO0 rfl ⟨⟩ (s0a K0a rfl (by exact S.oldM e0 c0) rfl ?_);refine lB0 rfl ⟨⟩ (fun h9=>?_) fun h9=>?_
 ·refine lO0 rfl ⟨⟩ (s0a K0a rfl (by exact S.oldM e0 c2) rfl ?_);refine J6a p3b rfl rfl (by omega) (by omega) rfl ?_;refine B0a (kk:=0) S e4c rfl (by conv=>lhs;whnf) rfl rfl (by(simp;omega)) ?_;intro o0 a0 h0;refine lF0 rfl ⟨⟩ (T1a rfl ?_);refine⟨?_,a0.below⟩;unfold s8c m6a;refine⟨by dsimp only;split<;>simp[l1],by dsimp only;split<;>simp[l2],?_,?_⟩
  ·have hh:=a0.blk 0 rfl;simpa[h9,List.map_set] using hh;done
  ·have hh:=a0.blk 1 rfl;simpa[h9,List.map_set] using hh;done
 refine lB0 rfl ⟨⟩ (fun d0=>?_) fun d0=>?_
 ·refine lO0 rfl ⟨⟩ (s0a K0a rfl (by exact S.oldM e0 c2) rfl ?_);refine J6a p3b rfl rfl (by omega) (by omega) rfl ?_;refine B0a (kk:=1) S e4c rfl (by conv=>lhs;whnf) rfl rfl (by(simp;omega)) ?_;intro p0 b0 i0;refine lF0 rfl ⟨⟩ (T1a rfl ?_);refine⟨?_,b0.below⟩;unfold s8c m6a;refine⟨by dsimp only;split<;>simp[l1],by dsimp only;split<;>simp[l2],?_,?_⟩
  ·have hh:=b0.blk 0 rfl;simpa[h9,List.map_set] using hh;done
  ·have hh:=b0.blk 1 rfl;simpa[h9,d0,List.map_set] using hh;done
 refine lF0 rfl ⟨⟩ (T1a rfl ?_);refine⟨?_,S.below⟩;unfold s8c m6a;refine⟨by dsimp only;split<;>simp[l1],by dsimp only;split<;>simp[l2],?_,?_⟩
 ·have hh:=S.blk 0 rfl;simpa[h9,List.map_set] using hh;done
 ·have hh:=S.blk 1 rfl;simpa[h9,d0,List.map_set] using hh;done
theorem K1b(M:List Nat)(w0:World)(bs:List Bool)(f0:bs.length=32)(hM:∀g∈M,g<w0.heap.size):
 M0a Tryz.prog 220 #[.agg (bs.map Value.bool).toArray] w0 fun v' w'=>RdI M w' v' (G5a bs)∧Below w0.heap.size w0 w':=by
 have S:=(St.refl w0).nilEnt 3;have y0:(bs.map Value.bool).length=32:=by simpa using f0
 refine a0a Tryz.func220 rfl Tryz.ntmps220 rfl ?_;refine wO0 rfl ⟨⟩ (h0a S (by conv=>lhs;whnf) rfl ?_);intro g1 w1 S1 X1 G1;refine lC S1.k [.w 0] rfl ⟨⟨rfl,by assumption⟩,⟨⟩⟩ (wL (fun μ D ε w=>D=[]∧∃k:Nat,∃G:Option Nat,∃cs:List Value,∃v:Value,(k+μ=32)∧(d3a G 1 (R2a bs k).length cs v ((R2a bs k).map (Value.int .i64)))∧St [] w0 w [(G,3,cs)]∧ε 3=v∧ε 6=.agg (bs.map Value.bool).toArray∧ε 7=.int .i64 k) (μ:=32) ⟨rfl,0,none,[],_,by omega,d3a.nil 1,S1.tail,rfl,rfl,rfl⟩ ?_);rintro μ D ε w ⟨rfl,k,G,cs,v,_,b0,S,e3,e6,e7⟩;refine r0a 3 e3 (r0a 6 e6 (r0a 7 e7 ?_));clear e3 e6 e7;refine wB0 rfl ⟨⟩ (fun h8=>?_) fun h8=>?_
 ·refine lO0 rfl ⟨⟩ ?_;have d0:k<bs.length:=by omega
  have g0:((bs.map Value.bool).toArray)[((k:Nat):Int).toNat]?=some (.bool bs[k]):=by simp[d0]
  have h0:bs.getD k false=bs[k]:=by simp[d0]
  have o0:=L2a bs k;cases a0:bs[k]
  ·have d0:k<bs.length:=by omega
   have g0:((bs.map Value.bool).toArray)[((k:Nat):Int).toNat]?=some (.bool bs[k]):=by simp[d0]
   have h0:bs.getD k false=bs[k]:=by simp[d0]
   have o0:=L2a bs k;refine w6b p3b rfl rfl (by omega) (by omega) (g0.trans (by rw[a0])) rfl ?_;refine lP0 rfl ⟨by omega,⟨⟩⟩ ⟨μ-1,by omega,rfl,k+1,G,cs,v,by omega,?_,S,rfl,rfl,rfl⟩;rw[k4a,h0,a0];simpa using b0
  have d0:k<bs.length:=by omega
  have g0:((bs.map Value.bool).toArray)[((k:Nat):Int).toNat]?=some (.bool bs[k]):=by simp[d0]
  have h0:bs.getD k false=bs[k]:=by simp[d0]
  have o0:=L2a bs k;refine w6b p3b rfl rfl (by omega) (by omega) (g0.trans (by rw[a0])) rfl ?_;refine lOn 11 S.k [] rfl ⟨⟩ (Z0a (by conv=>lhs;whnf) rfl ?_);refine lO0 rfl ⟨⟩ (u0a S O0a (vs:=[.int .i64 _]) (cs:=[_]) (by rfl) rfl rfl rfl rfl rfl rfl ?_);intro x0 z0 n0 u0 t0;refine o3b (k:=1) n0 O0a rfl b0 rfl rfl (n0.cells 0 rfl) rfl (by simp[Value.oneCell']) (by omega) (by omega) rfl ?_;intro s0 p0 j0 A0 i0 e0 v0;have q0:=i0.tail;refine P0a (by conv=>lhs;whnf) rfl ?_;refine lP0 rfl ⟨by omega,⟨⟩⟩ ⟨μ-1,by omega,rfl,k+1,p0,j0,s0,by omega,?_,q0,rfl,rfl,rfl⟩;rw[k4a,h0,a0];simpa using e0
 refine lOn 8 S.k [] rfl ⟨⟩ (Z0a (by conv=>lhs;whnf) rfl ?_);refine P0a (by conv=>lhs;whnf) rfl ?_;refine lR0 rfl ⟨⟩ (o0a rfl (by conv=>lhs;whnf) ?_);obtain rfl:k=32:=by omega
 have r0:R2a bs 32=G5a bs:=by unfold G5a;rw[f0]
 rw[r0] at b0;refine⟨b0.rdI (k:=0) S rfl hM (fun x hx=>?_) ?_,S.nil.fin⟩
 ·obtain⟨_,rfl,_,_⟩:=(q6a _ _ _).1 hx;unfold i64;omega
 ·have:=L2a bs bs.length;unfold G5a;omega
theorem t9c:∀(e:E) (a1 a2:List Bool) (a0:Int),e.good a0=true→e.lf m6a (a1,a2)=(e.mark 3 a1,e.mark 2 a2):=by
 intro e
 induction e using E.induct with
 | _ e ih =>
   intro a1 a2 a0 hg;rw[E.good_def] at hg;simp only[Bool.and_eq_true] at hg;have f0:e.Shape:=of_decide_eq_true hg.1.2;have d0:∀k∈e.kids,k.good (a0-1)=true:=(E.goods_iff _ _).1 hg.2;have i0:=Q5a f0;have e0:=h2a e.op;have key:∀(ks:List E),(∀k∈ks,∀(a1 a2:List Bool) (a0:Int),k.good a0=true→k.lf m6a (a1,a2)=(k.mark 3 a1,k.mark 2 a2))→(∀k∈ks,k.good (a0-1)=true) →
    ∀a1 a2:List Bool,E.lfs m6a ks (a1,a2)=(E.markAll 3 ks a1,E.markAll 2 ks a2):=by
    intro ks
    induction ks with
    | nil=>intro _ _ a1 a2;simp[E.lfs,E.markAll]
    | cons k ks g0 =>
      intro h1 h2 a1 a2;simp only[E.lfs,E.markAll];rw[h1 k (by simp) _ _ (a0-1) (h2 k (by simp)),g0 (fun k' b0=>h1 k' (by simp[b0])) (fun k' b0=>h2 k' (by simp[b0]))]
   rw[E.lf_def,E.mark_def,E.mark_def];by_cases h0:e.kids.length=0
   ·rw[if_pos h0];exact key e.kids ih d0 _ _
   ·rw[if_neg h0,if_neg (by omega),if_neg (by omega)];exact key e.kids ih d0 _ _
theorem H3b(e:E)(M:List Nat)(w0:World)(cs:List Value)(hR:RdE M w0 e cs)(hK:q3a M w0)(hM:∀g∈M,g<w0.heap.size):
 M0a Tryz.prog 204 #[.agg cs.toArray] w0 fun v w'=>(∃a b,v=.tuple #[a,b]∧RdI M w' a (e.sup 3)∧RdI M w' b (e.sup 2))∧Below w0.heap.size w0 w':=by
 obtain⟨_,_,_,rfl,_,_,_,_,_,_,_,_⟩:=hR.open_;have S:=St.refl w0;refine a0a Tryz.func204 rfl Tryz.ntmps204 rfl ?_;refine wO0 rfl ⟨⟩ (h0a S (by conv=>lhs;whnf) rfl ?_);intro g1 w1 S1 X1 G1;refine lO S1.k [.w 0] rfl ⟨⟨rfl,by rfl⟩,⟨⟩⟩ (C0a S1 j5b rfl rfl (D5a e M _ _ (RdE.keep (S1.keep0 M) _ _ hR) (hK.keep (S1.keep0 M))) (fun h7 w7 S7 X7=>?_) (fun h7 w7 S7 X7=>?_))
 ·refine lO0 rfl ⟨⟩ (m0a S7 J4c rfl rfl ?_);intro g4 w4 S4 X4 G4;refine m0a S4 J4c rfl rfl ?_;intro g5 w5 S5 X5 G5;refine lO0 rfl ⟨⟩ (N1a rfl rfl ?_);have i0:∀g∈[g4,g5] ,g∈M∨w0.heap.size≤g:=fun g hg=>by
   simp at hg;rcases hg with rfl|rfl
   ·right;have:=S5.new 1 rfl;simp at this;exact this
   ·right;have:=S5.new 0 rfl;simp at this;exact this
  have a0:e.good 40=true:=by unfold E.wf at h7;simp only[Bool.and_eq_true] at h7;exact h7.2
  have j0:=(S5.ne 0 1 rfl rfl (by omega)).symm;refine c2a d6b rfl rfl (H4b [g4,g5] (s8c g4 g5) m6a _ _ d6c (fun e s w b o h1 _ h3 h4=>h5b g4 g5 j0 e s w b o h1 h3 h4) e _ g1 0 (List.replicate 32 false,List.replicate 32 false) 40
   ⟨by simpa using⟨(S5.ne 1 2 rfl rfl (by omega)).symm,(S5.ne 0 2 rfl rfl (by omega)).symm⟩,_,S5.cells 2 rfl,RdE.keep (S5.keep0 _) _ _ (RdE.more i0 _ _ hR)⟩
   ⟨rfl,rfl,S5.blk 1 rfl,S5.blk 0 rfl⟩ a0) ?_
  rintro q0 t0 ⟨⟨-,-,I1,I2⟩,f0⟩;rw[t9c e _ _ 40 a0] at I1 I2;dsimp only at I1 I2;have b0:=S5.changed2 1 0 rfl rfl f0 I1 I2;dsimp only[List.set] at b0;have q1:(e.mark 3 (List.replicate 32 false)).length=32:=by rw[E.mark_len];simp
  have q2:(e.mark 2 (List.replicate 32 false)).length=32:=by rw[E.mark_len];simp
  have o0:((e.mark 3 (List.replicate 32 false)).map Value.bool).length=32:=by simpa using q1
  have p0:((e.mark 2 (List.replicate 32 false)).map Value.bool).length=32:=by simpa using q2
  refine lC0 rfl ⟨⟩ (v0a b0a [0,2] [1] [3,4,5] (by kernel_rfl) rfl (Cl _ _ _ _) (Cl.start b0) ?_);refine qN b0.q [.w 1,.w 0] rfl ⟨⟨rfl,by assumption⟩,⟨rfl,by assumption⟩,⟨⟩⟩ (V3a ?_);refine o8a (fun v w=>RdI M w v (G5a (e.mark 3 (List.replicate 32 false)))) rfl rfl T8b rfl (fun v w w' h hk=>h.keep hk.of_nil) (fun w1 S1 X1=>K1b M _ _ q1 (fun g hg=>Nat.lt_of_lt_of_le (hM g hg) S1.size)) ?_;refine R1a ?_;rintro v0 ⟨e0,_⟩;rintro r0 d0;dsimp only[R3a];refine x0a e0 T8b rfl rfl (K1b M _ _ q2 (fun g hg=>Nat.lt_of_lt_of_le (hM g hg) e0.size)) ?_;rintro s0 u0 n0 g0 h0;replace d0:=d0.keep (h0.of_nil);refine P0a (by conv=>lhs;whnf) rfl ?_;refine P0a (by conv=>lhs;whnf) rfl ?_;refine lT2 rfl ⟨⟩ rfl ⟨⟨_,_,rfl,?_⟩,g0.fin⟩;unfold E.sup;rw[if_pos h7,if_pos h7];exact⟨d0,n0⟩
 refine lT2 rfl ⟨⟩ rfl ⟨⟨_,_,rfl,?_⟩,S7.fin⟩;unfold E.sup;rw[if_neg (by simp[h7]),if_neg (by simp[h7])];exact⟨f9b,f9b⟩
theorem y0a.fresh{a b c:World}{g:Nat}(h:y0a [] a b)(k:y0a [g] b c)(hg:a.heap.size≤g):y0a [] a c :=
 ⟨Nat.le_trans h.size k.size,fun i hi hm=>(k.same i (Nat.lt_of_lt_of_le hi h.size) (fun hh=>by rw[List.mem_singleton] at hh;omega)).trans (h.same i hi hm)⟩
def shQ(p:f0a)(c:Int):Bool:=decide ((0≤c∧c<p.cells.length)∧I1a p.cells c=-1)
def E9a(p:f0a)(t:Int)(c:Int):Bool:=decide ((0≤c∧c<p.cells.length)∧I1a p.cells c=t)
def R2b(p:f0a)(t:Int)(c:Int):Bool:=shQ p c||E9a p t c
def p3a(e:E)(q:Int→Bool):Bool:=(e.sup 3).all q&&(e.sup 2).all q
theorem a0b{cells:List w2a}{a0:Bool}{e:E}(h:e.valid cells a0=true):∀x∈e.sup 3++e.sup 2,0≤x∧x<cells.length:=fun x hx=>by
 obtain⟨e0,b0,d0⟩:=S5a h;rcases List.mem_append.1 hx with hx|hx
 ·have h1:=(N2b e0 (.inr rfl) x).1 hx;have h2:=D6a (.inr rfl) e 40 b0 d0 x h1.2.2;omega
 ·have h1:=(N2b e0 (.inl rfl) x).1 hx;have h2:=D6a (.inl rfl) e 40 b0 d0 x h1.2.2;omega
theorem s8a{e:E}{q:Int→Bool}:p3a e q=true↔∀x∈e.sup 3++e.sup 2,q x=true:=by
 simp only[p3a,Bool.and_eq_true,List.all_eq_true,List.mem_append];exact⟨fun h x hx=>hx.elim (h.1 x) (h.2 x),fun h=>⟨fun x hx=>h x (.inl hx),fun x hx=>h x (.inr hx)⟩⟩
theorem d1a.thr{p:f0a}(hp:d1a p){x:Int}(h0:0≤x)(h1:x<p.cells.length):-1≤I1a p.cells x:=by
 obtain⟨i,rfl⟩:=Int.eq_ofNat_of_zero_le h0;have hi:i<p.cells.length:=by omega
 have:=(hp.cells _ (List.getElem_mem hi)).thread;rw[i1a (c:=p.cells[i]) (by simp[hi])];omega
theorem D7b{p:f0a}(hp:d1a p){e:E}{a0:Bool}(hv:e.valid p.cells a0=true)(h:s5a p.cells e true (-1)):p3a e (shQ p)=true:=s8a.2 fun x hx=>by
 have h1:=a0b hv x hx;have h2:=h x hx;have h3:=hp.thr h1.1 h1.2;exact decide_eq_true ⟨h1,by omega⟩
theorem A8a{p:f0a}(hp:d1a p){e:E}{a0:Bool}{t:Int}(hv:e.valid p.cells a0=true)(h:s5a p.cells e false t):p3a e (E9a p t)=true:=s8a.2 fun x hx=>by
 have h1:=a0b hv x hx;have h2:=h x hx;have h3:=hp.thr h1.1 h1.2;have h4:I1a p.cells x≠-1:=fun hh=>by have:=h2.1 hh;cases this
 exact decide_eq_true ⟨h1,by omega⟩
theorem h2b{p:f0a}(hp:d1a p){e:E}{a0:Bool}{t:Int}(hv:e.valid p.cells a0=true)(h:s5a p.cells e true t):p3a e (R2b p t)=true:=s8a.2 fun x hx=>by
 have h1:=a0b hv x hx;have h2:=h x hx;have h3:=hp.thr h1.1 h1.2;unfold R2b shQ E9a;rw[Bool.or_eq_true,decide_eq_true_eq,decide_eq_true_eq];by_cases h5:I1a p.cells x=-1
 ·exact .inl ⟨h1,h5⟩
 ·exact .inr ⟨h1,by omega⟩
theorem y2a(i n:Int)(w0:World):M0a Tryz.prog 160 #[.int .i64 i,.int .i64 n] w0 fun v w'=>v=.bool (decide (0≤i∧i<n))∧Below w0.heap.size w0 w':=by
 have S:=St.refl w0;refine a0a Tryz.func160 rfl Tryz.ntmps160 rfl ?_;refine wB0 rfl ⟨⟩ (fun h6=>?_) fun h6=>?_
 ·refine lB0 rfl ⟨⟩ (fun a0=>?_) fun a0=>?_
  ·refine lT rfl ⟨⟩ rfl ?_;exact⟨congrArg Value.bool (by(rw[decide_eq_true];omega)),S.fin⟩
  refine lT rfl ⟨⟩ rfl ?_;exact⟨congrArg Value.bool (by(rw[decide_eq_false];omega)),S.fin⟩
 refine lT rfl ⟨⟩ rfl ?_;exact⟨congrArg Value.bool (by(rw[decide_eq_false];omega)),S.fin⟩
theorem T7a(s:ByteArray)(w0:World)(hs:t7a s):M0a Tryz.prog 159 #[.string s] w0 fun v w'=>v=.bool true∧Below w0.heap.size w0 w':=by
 have S:=St.refl w0;have h1:=hs.1;have h2:=hs.2.1;refine a0a Tryz.func159 rfl Tryz.ntmps159 rfl ?_;refine wO0 rfl ⟨⟩ (t1b Tryz.underlying9 rfl rfl ?_);refine lB0 rfl ⟨⟩ (fun h6=>by exfalso;omega) fun h6=>?_;refine lO0 rfl ⟨⟩ (t1b Tryz.underlying9 rfl rfl ?_);refine lB0 rfl ⟨⟩ (fun d0=>by exfalso;omega) fun d0=>?_;refine lO0 rfl ⟨⟩ (t1b Tryz.underlying9 rfl rfl ?_);refine lC0 rfl ⟨⟩ (wL (fun μk D ε w=>D=[]∧∃k:Nat,(k+μk=(s.size))∧St [] w0 w []∧Sl ε [(0,.string s),(13,.int .i64 s.size),(14,.int .i64 k)]) (μ:=(s.size)) ⟨rfl,0,by omega,S,rfl⟩ ?_);rintro μk D ε w ⟨rfl,k,_,S,eZ⟩;refine wK eZ (wB0 rfl ⟨⟩ (fun e0=>?_) fun e0=>?_)
 ·refine lO0 rfl ⟨⟩ ?_;have h3:=hs.2.2 k (by omega);refine C9a Tryz.underlying9 rfl rfl (by omega) (by omega) rfl ?_;refine lB0 rfl ⟨⟩ (fun a0=>by exfalso;simp only[Int.toNat_natCast] at a0;omega) (fun a0=>?_);refine lO0 rfl ⟨⟩ (C9a Tryz.underlying9 rfl rfl (by omega) (by omega) rfl ?_);refine lB0 rfl ⟨⟩ (fun b0=>by exfalso;simp only[Int.toNat_natCast] at b0;omega) (fun b0=>?_);refine lP0 rfl ⟨by omega,⟨⟩⟩ ⟨μk-1,by omega,rfl,(k+1),(by omega),S,rfl⟩
 exact lT rfl ⟨⟩ rfl ⟨rfl,S.fin⟩
theorem L8b(e:E)(M:List Nat)(w0:World)(cs:List Value)(hR:RdE M w0 e cs):M0a Tryz.prog 162 #[.agg cs.toArray] w0 fun v w'=>v=.bool (dec e.absent)∧Below w0.heap.size w0 w':=by
 obtain⟨_,_,_,rfl,hn,_,_,_,_⟩:=hR.cells;have S:=St.refl w0;refine a0a Tryz.func162 rfl Tryz.ntmps162 rfl ?_;refine wO0 rfl ⟨⟩ (h0a S (by conv=>lhs;whnf) rfl ?_);intro g1 w1 S1 X1 G1;refine lB S1.k [.o 0] rfl ⟨rfl,⟨⟩⟩ (fun h5=>?_) fun h5=>?_
 ·refine lB S1.k [.o 0] rfl ⟨rfl,⟨⟩⟩ (fun h9=>?_) fun h9=>?_
  ·refine lB S1.k [.o 0] rfl ⟨rfl,⟨⟩⟩ (fun a0=>?_) fun a0=>?_
   ·refine lB S1.k [.o 0] rfl ⟨rfl,⟨⟩⟩ (fun b0=>?_) fun b0=>?_
    ·exact lT rfl ⟨⟩ rfl ⟨Z3a ⟨by omega,by omega,by omega,List.length_eq_zero_iff.1 (by omega)⟩,S1.fin⟩
    refine lT rfl ⟨⟩ rfl ?_;refine⟨p1a (fun h=>?_),S1.fin⟩;obtain⟨a1,a2,a3,a4⟩:=h;rw[a4] at hn;simp at hn;omega
   refine lT rfl ⟨⟩ rfl ?_;refine⟨p1a (fun h=>?_),S1.fin⟩;obtain⟨a1,a2,a3,a4⟩:=h;rw[a4] at hn;simp at hn;omega
  refine lT rfl ⟨⟩ rfl ?_;refine⟨p1a (fun h=>?_),S1.fin⟩;obtain⟨a1,a2,a3,a4⟩:=h;rw[a4] at hn;simp at hn;omega
 refine lT rfl ⟨⟩ rfl ?_;refine⟨p1a (fun h=>?_),S1.fin⟩;obtain⟨a1,a2,a3,a4⟩:=h;rw[a4] at hn;simp at hn;omega
theorem N5a(M:List Nat)(w0:World)(v:Value)(l:List Int)(hR:RdI M w0 v l)(hr:d6a l):M0a Tryz.prog 165 #[v] w0 fun v w'=>v=.bool true∧Below w0.heap.size w0 w':=by
 obtain⟨A,n,c,rfl⟩:=hR.form;obtain⟨_,_,_⟩:=hR.len;have S:=St.refl w0;refine a0a Tryz.func165 rfl Tryz.ntmps165 rfl ?_;refine wC0 rfl ⟨⟩ (wL (fun μk D ε w=>D=[]∧∃k:Nat,(k+μk=max (l.length) 1)∧(1≤k)∧St [] w0 w []∧Sl ε [(0,.slice A n c),(3,.int .i64 k)]) (μ:=(max (l.length) 1-1)) ⟨rfl,1,by omega,by omega,S,rfl⟩ ?_);rintro μk D ε w ⟨rfl,k,_,_,S,eZ⟩;refine wK eZ (wB0 rfl ⟨⟩ (fun h7=>?_) fun h7=>?_)
 ·refine lC0 rfl ⟨⟩ (v0a b0a [0,1,2,3,4,5,6,7,8,9] [] [] (by kernel_rfl) rfl (Cl _ _ _ _) (Cl.start S) ?_);obtain⟨_,i0,s0,_,q0,b0,_,_,e0,f0⟩:=RdS.get (hR) (k) (by omega);obtain⟨rfl,_⟩:=id f0;obtain⟨x,j0,t0,_,p0,d0,_,_,a0,g0⟩:=RdS.get (hR) (k-1) (by omega);obtain⟨rfl,_⟩:=id g0;have n0:((k:Int)-1).toNat=k-1:=by omega
  rw[←n0] at a0;have r0:=D1c hr p0 q0 (by omega);refine qB ((S.q.a a0).a e0) [.x i0 s0,.f 0 0,.x j0 t0,.f 1 0] rfl ⟨rfl,⟨d0,by omega⟩,by omega,rfl,⟨b0,by omega⟩,⟨⟩⟩ (fun o0=>by exfalso;omega) fun o0=>?_;refine qD rfl ⟨⟩ ?_;rintro u0 ⟨h0,_⟩;refine lP0 rfl ⟨by omega,⟨⟩⟩ ⟨μk-1,by omega,rfl,(k+1),(by omega),(by omega),h0,rfl⟩
 exact lT rfl ⟨⟩ rfl ⟨rfl,S.fin⟩
theorem e4b(M:List Nat)(w0:World)(v vf:Value)(l:List Int)(q:Int→Bool)(hR:RdI M w0 v l)(hp:A2a Tryz.prog M w0 vf q):
 M0a Tryz.prog 210 #[v,vf] w0 fun v w'=>(∃n,v=.int .i64 n∧(0≤n↔l.any q=true))∧Below w0.heap.size w0 w':=by
 obtain⟨A,n,c,rfl⟩:=hR.form;obtain⟨_,_,_⟩:=hR.len;have S:=St.refl w0;refine a0a Tryz.func210 rfl Tryz.ntmps210 rfl ?_;refine wC0 rfl ⟨⟩ (wL (fun μk D ε w=>D=[]∧∃k:Nat,(k+μk=(l.length))∧(o1a (l) k (fun x=>q x=false))∧St [] w0 w []∧Sl ε [(0,.slice A n c),(1,vf),(7,.int .i64 n),(8,.int .i64 k)]) (μ:=(l.length)) ⟨rfl,0,by omega,o1a.zero,S,rfl⟩ ?_);rintro μk D ε w ⟨rfl,k,_,ha,S,eZ⟩;refine wK eZ (wB0 rfl ⟨⟩ (fun h9=>?_) fun h9=>?_)
 ·refine lOn 16 S.k [] rfl ⟨⟩ (Z0a (by conv=>lhs;whnf) rfl ?_);obtain⟨x,j0,n0,_,h0,d0,_,_,e0,f0⟩:=RdS.get (hR) (k) (by omega);obtain⟨rfl,g0⟩:=id f0;refine lO (S.k.a e0) [.x j0 n0,.f 0 0] rfl ⟨rfl,⟨d0,by omega⟩,⟨⟩⟩ (d3b S (hp.keep (S.keep0 M)) rfl rfl (g0) rfl (fun b0 o0 a0 i0=>?_) (fun b0 o0 a0 i0=>?_))
  ·exact lT rfl ⟨⟩ rfl ⟨⟨_,rfl,⟨fun _=>List.any_eq_true.2 ⟨x,c0a h0,b0⟩,fun _=>by omega⟩⟩,a0.fin⟩
  refine lP0 rfl ⟨by omega,⟨⟩⟩ ⟨μk-1,by omega,rfl,(k+1),(by omega),(ha.succ h0 (b0)),a0,rfl⟩
 refine lT rfl ⟨⟩ rfl ?_;refine⟨⟨_,rfl,⟨fun h=>by omega,fun h=>?_⟩⟩,S.fin⟩;obtain⟨x,h1,h2⟩:=List.any_eq_true.1 h;rw[ha.all (by omega) x h1] at h2;cases h2
theorem Y9a(M:List Nat)(w0:World)(v vf:Value)(l:List Int)(q:Int→Bool)(hR:RdI M w0 v l)(hp:A2a Tryz.prog M w0 vf q):
 M0a Tryz.prog 199 #[v,vf] w0 fun v w'=>v=.bool (l.any q)∧Below w0.heap.size w0 w':=by
 obtain⟨_,_,_,rfl⟩:=hR.form;have S:=St.refl w0;refine a0a Tryz.func199 rfl Tryz.ntmps199 rfl ?_;refine wOn 8 S.k [] rfl ⟨⟩ (Z0a (by conv=>lhs;whnf) rfl ?_);refine x0a S E5c rfl rfl (e4b M _ _ _ l q (hR.keep (S.keep0 M)) (hp.keep (S.keep0 M))) ?_;rintro v7 w7 ⟨_,rfl,hm⟩ S7 X7;refine lB0 rfl ⟨⟩ (fun h8=>?_) fun h8=>?_
 ·refine lR0 rfl ⟨⟩ (o0a rfl (by conv=>lhs;whnf) ?_);exact⟨by rw[hm.1 (by omega)],S7.fin⟩
 refine lT rfl ⟨⟩ rfl ?_;refine⟨congrArg Value.bool ?_,S7.fin⟩;cases hq:l.any q with|false=>rfl|true=>exact absurd (hm.2 hq) (by omega)
theorem A8b(g:Nat)(c:Int)(M:List Nat)(w0:World)(vf:Value)(q:Int→Bool)(hc:w0.cell? ⟨g,0,none⟩=some vf)(hp:A2a Tryz.prog M w0 vf q)(hi:i64 c):
 M0a Tryz.prog 200 #[.int .i64 c,.pointer (some ⟨g,0,none⟩)] w0 fun v w'=>v=.bool (!q c)∧Below w0.heap.size w0 w':=by
 have S:=St.refl w0;refine a0a Tryz.func200 rfl Tryz.ntmps200 rfl ?_;refine wO0 rfl ⟨⟩ (s0a Q0b rfl (by first|exact S.old hc) rfl ?_);refine lO0 rfl ⟨⟩ (d3b S (hp.keep (S.keep0 M)) rfl rfl (hi) rfl (fun h6 w6 S6 X6=>?_) (fun h6 w6 S6 X6=>?_))
 ·refine lR0 rfl ⟨⟩ (o0a rfl (by conv=>lhs;whnf) ?_);exact⟨by rw[h6],S6.fin⟩
 refine lR0 rfl ⟨⟩ (o0a rfl (by conv=>lhs;whnf) ?_);exact⟨by rw[h6],S6.fin⟩
theorem Q0a{M:List Nat}{w:World}{g:Nat}(hM:∀g∈M,g<w.heap.size)(h:w.heap.size≤g∨g∈([]:List Nat)):g∉M:=fun hh=>by
 rcases h with h|h
 ·have:=hM g hh;omega
 ·cases h
theorem p6a(M:List Nat)(w0:World)(v vf:Value)(l:List Int)(q:Int→Bool)(hR:RdI M w0 v l)(hp:A2a Tryz.prog M w0 vf q)(hM:∀g∈M,g<w0.heap.size):
 M0a Tryz.prog 166 #[v,vf] w0 fun v w'=>v=.bool (l.all q)∧Below w0.heap.size w0 w':=by
 obtain⟨_,_,c,rfl⟩:=hR.form;obtain⟨_,_,_,rfl,_,_⟩:=id hp;have S:=St.refl w0;refine a0a Tryz.func166 rfl Tryz.ntmps166 rfl ?_;refine wO0 rfl ⟨⟩ (Z6a S (v:=.func _ _ _) rfl rfl rfl ?_);intro g3 w3 S3 X3 G3;refine lO0 rfl ⟨⟩ (N1a rfl rfl ?_);refine C0a S3 f8c rfl rfl (Y9a M _ _ _ l (fun c=>!q c) (hR.keep (S3.keep0 M)) ⟨200,#[],_,rfl,O5c,fun w' hk c hc=>A8b g3 c M w' _ q (hk.cell (a:=⟨g3,0,none⟩) (Q0a hM (S3.new 0 rfl)) (S3.cell 0 rfl rfl)) (hp.keep ((S3.keep0 M).trans hk)) hc⟩) (fun h7 w7 S7 X7=>?_) (fun h7 w7 S7 X7=>?_)
 ·refine lT rfl ⟨⟩ rfl ⟨congrArg Value.bool ?_,S7.fin⟩;have h8:l.all q=!(l.any fun c=>!q c):=by simp[List.all_eq_not_any_not]
  rw[h8,h7]<;>rfl
 refine lT rfl ⟨⟩ rfl ⟨congrArg Value.bool ?_,S7.fin⟩;have h8:l.all q=!(l.any fun c=>!q c):=by simp[List.all_eq_not_any_not]
 rw[h8,h7]<;>rfl
theorem x5a(p:f0a)(M:List Nat)(w0:World)(cs:List Value)(c:Int)(hP:q1a M w0 p cs):
 M0a Tryz.prog 164 #[.agg cs.toArray,.int .i64 c] w0 fun v w'=>v=.bool (shQ p c)∧Below w0.heap.size w0 w':=by
 obtain⟨_,_,_,_,_,_,_,_,_,_,_,_,rfl,hC,_,_,_,_,_,_,_,_,_,_,_⟩:=hP.open_;have S:=St.refl w0;refine a0a Tryz.func164 rfl Tryz.ntmps164 rfl ?_;refine wO0 rfl ⟨⟩ (h0a S (by conv=>lhs;whnf) rfl ?_);intro g2 w2 S2 X2 G2;refine lO S2.k [.o 0] rfl ⟨rfl,⟨⟩⟩ (C0a S2 k3a rfl rfl (y2a _ _ _) (fun b0 o0 a0 h0=>?_) (fun b0 o0 a0 h0=>?_))
 ·have p0:=of_decide_eq_true b0;obtain⟨x,i0,n0,_,g0,d0,_,_,e0,f0⟩:=RdS.get (hC) (c.toNat) (by omega);obtain⟨rfl,_,_,_,_⟩:=F2a.open_ f0;refine lB (a0.k.a e0) [.o 0,.x i0 n0,.f 0 3] rfl ⟨rfl,⟨d0,by omega⟩,rfl,⟨⟩⟩ (fun j0=>?_) fun j0=>?_
  ·refine lT rfl ⟨⟩ rfl ⟨congrArg Value.bool ?_,a0.fin⟩;unfold shQ;rw[decide_eq_true];exact⟨by omega,by rw[i1a g0];omega⟩
  refine lT rfl ⟨⟩ rfl ⟨congrArg Value.bool ?_,a0.fin⟩;unfold shQ;rw[decide_eq_false];intro hh;rw[i1a g0] at hh;omega
 refine lT rfl ⟨⟩ rfl ⟨congrArg Value.bool ?_,a0.fin⟩;unfold shQ;rw[decide_eq_false];intro hh;have:=of_decide_eq_false b0;omega
theorem N3a{p:f0a}{M:List Nat}{w:World}{cs:List Value}(hP:q1a M w p cs):A2a Tryz.prog M w (.func (.func 164) #[.agg cs.toArray] #[]) (shQ p) :=
 ⟨_,_,_,rfl,A0b,fun w' hk c _=>x5a p M w' cs c (hP.keep hk)⟩
theorem T7c(p:f0a)(t c:Int)(g g':Nat)(M:List Nat)(w0:World)(cs:List Value)(hP:q1a M w0 p cs)(hg:t1a w0 g 0 cs)(o0:w0.cell? ⟨g',0,none⟩=some (.int .i64 t)):
 M0a Tryz.prog 211 #[.int .i64 c,.pointer (some ⟨g,0,none⟩),.pointer (some ⟨g',0,none⟩)] w0 fun v w'=>v=.bool (E9a p t c)∧Below w0.heap.size w0 w':=by
 obtain⟨_,_,_,_,_,_,_,_,_,_,_,_,rfl,hC,_,_,_,_,_,_,_,_,_,_,_⟩:=hP.open_;have S:=St.refl w0;refine a0a Tryz.func211 rfl Tryz.ntmps211 rfl ?_;refine wC0 rfl ⟨⟩ (v0a b0a [0,1,2,3,4,5,6,7,8,9,10,11,12,13,14,15,16,17] [] [] (by kernel_rfl) rfl (Cl _ _ _ _) (Cl.start S) ?_);refine qO0 rfl ⟨⟩ (j0a t9a rfl (fun w1 hw=>by exact hw.1.old (hg _ _ rfl)) rfl ?_);refine qO0 rfl ⟨⟩ (Y1a k3a rfl rfl (fun w1 S1 X1=>y2a _ _ _) (fun b0=>?_) fun b0=>?_)
 ·refine qO0 rfl ⟨⟩ (j0a t9a rfl (fun w1 hw=>by exact hw.1.old (hg _ _ rfl)) rfl ?_);have q0:=of_decide_eq_true b0;obtain⟨x,j0,p0,_,h0,d0,_,_,e0,f0⟩:=RdS.get (hC) (c.toNat) (by omega);obtain⟨rfl,_,_,_,_⟩:=F2a.open_ f0;refine qO (S.q.a e0) [.x j0 p0,.f 0 3] rfl ⟨rfl,⟨d0,by omega⟩,⟨⟩⟩ (j0a K0a rfl (fun w1 hw=>by exact hw.1.old o0) rfl ?_);refine qB0 rfl ⟨⟩ (fun n0=>?_) fun n0=>?_
  ·refine qD rfl ⟨⟩ ?_;rintro i0 ⟨a0,g0⟩;refine lT rfl ⟨⟩ rfl ⟨congrArg Value.bool ?_,a0.fin⟩;unfold E9a;rw[decide_eq_true];exact⟨by omega,by rw[i1a h0];omega⟩
  refine qD rfl ⟨⟩ ?_;rintro i0 ⟨a0,g0⟩;refine lT rfl ⟨⟩ rfl ⟨congrArg Value.bool ?_,a0.fin⟩;unfold E9a;rw[decide_eq_false];intro hh;rw[i1a h0] at hh;omega
 refine qD rfl ⟨⟩ ?_;rintro i0 ⟨a0,g0⟩;refine lT rfl ⟨⟩ rfl ⟨congrArg Value.bool ?_,a0.fin⟩;unfold E9a;rw[decide_eq_false];intro hh;have:=of_decide_eq_false b0;omega
theorem G2b(p:f0a)(t:Int)(M:List Nat)(w0:World)(cs:List Value)(hP:q1a M w0 p cs)(hM:∀g∈M,g<w0.heap.size):
 M0a Tryz.prog 201 #[.agg cs.toArray,.int .i64 t] w0 fun v w'=>A2a Tryz.prog M w' v (E9a p t)∧Below w0.heap.size w0 w':=by
 obtain⟨_,_,_,_,_,_,_,_,_,_,_,_,rfl,_,_,_,_,_,_,_,_,_,_,_,_⟩:=hP.open_;have S:=St.refl w0;refine a0a Tryz.func201 rfl Tryz.ntmps201 rfl ?_;refine wO0 rfl ⟨⟩ (h0a S (by conv=>lhs;whnf) rfl ?_);intro g2 w2 S2 X2 G2;refine Z6a S2 (v:=.int .i64 _) rfl rfl rfl ?_;intro g3 w3 S3 X3 G3;refine lO0 rfl ⟨⟩ (N1a rfl rfl ?_);exact lT rfl ⟨⟩ rfl ⟨⟨_,_,_,rfl,D5c,fun w' hk c _=>T7c p t c g2 g3 M w' _ (hP.keep ((S3.keep0 M).trans hk)) ((S3.cells 1 rfl).keep hk (Q0a hM (S3.new 1 rfl))) (hk.cell (a:=⟨g3,0,none⟩) (Q0a hM (S3.new 0 rfl)) (S3.cell 0 rfl rfl))⟩,S3.fin⟩
theorem f6b(p:f0a)(t c:Int)(g g':Nat)(M:List Nat)(w0:World)(cs:List Value)(vf:Value)(hP:q1a M w0 p cs)(hg:t1a w0 g 0 cs)(e0:w0.cell? ⟨g',0,none⟩=some vf)(hp:A2a Tryz.prog M w0 vf (E9a p t))(hc:i64 c):
 M0a Tryz.prog 202 #[.int .i64 c,.pointer (some ⟨g,0,none⟩),.pointer (some ⟨g',0,none⟩)] w0 fun v w'=>v=.bool (R2b p t c)∧Below w0.heap.size w0 w':=by
 obtain⟨_,_,_,_,_,_,_,_,_,_,_,_,rfl,_,_,_,_,_,_,_,_,_,_,_,_⟩:=hP.open_;have S:=St.refl w0;refine a0a Tryz.func202 rfl Tryz.ntmps202 rfl ?_;refine wO0 rfl ⟨⟩ ?_
 first|refine w1a m3b rfl ((fun j v hj=>S.old (hg j v hj))) (by rfl) rfl ?_
 refine lO0 rfl ⟨⟩ (C0a S A0b rfl rfl (x5a p M _ _ _ (hP.keep (S.keep0 M))) (fun h7 w7 S7 X7=>?_) (fun h7 w7 S7 X7=>?_))
 ·refine lT rfl ⟨⟩ rfl ⟨congrArg Value.bool ?_,S7.fin⟩;unfold R2b;rw[h7]<;>rfl
 refine lO0 rfl ⟨⟩ (s0a Q0b rfl (by first|exact S7.old e0) rfl ?_);refine lO0 rfl ⟨⟩ (d3b S7 (hp.keep (S7.keep0 M)) rfl rfl (hc) rfl (fun b0 f0 a0 d0=>?_) (fun b0 f0 a0 d0=>?_))
 ·refine lT rfl ⟨⟩ rfl ⟨congrArg Value.bool ?_,a0.fin⟩;unfold R2b;rw[h7,b0]<;>rfl
 refine lT rfl ⟨⟩ rfl ⟨congrArg Value.bool ?_,a0.fin⟩;unfold R2b;rw[h7,b0]<;>rfl
theorem r7a(p:f0a)(t:Int)(M:List Nat)(w0:World)(cs:List Value)(hP:q1a M w0 p cs)(hM:∀g∈M,g<w0.heap.size):
 M0a Tryz.prog 168 #[.agg cs.toArray,.int .i64 t] w0 fun v w'=>A2a Tryz.prog M w' v (R2b p t)∧Below w0.heap.size w0 w':=by
 obtain⟨_,_,_,_,_,_,_,_,_,_,_,_,rfl,_,_,_,_,_,_,_,_,_,_,_,_⟩:=hP.open_;have S:=St.refl w0;refine a0a Tryz.func168 rfl Tryz.ntmps168 rfl ?_;refine wO0 rfl ⟨⟩ (h0a S (by conv=>lhs;whnf) rfl ?_);intro g2 w2 S2 X2 G2;refine lO S2.k [.w 0] rfl ⟨⟨rfl,by rfl⟩,⟨⟩⟩ ?_;refine x0a S2 b2b rfl rfl (G2b p t M _ _ (hP.keep (S2.keep0 M)) (fun g hg=>by have:=hM g hg;have:=S2.size;omega)) ?_;rintro v8 w8 d0 S8 X8;obtain⟨_,_,_,rfl,_,_⟩:=id d0;refine m0a S8 v4c rfl rfl ?_;intro g5 w5 S5 X5 G5;refine B0a (kk:=0) S5 R4c rfl (by conv=>lhs;whnf) rfl rfl (by exact Nat.le_of_ble_eq_true rfl) ?_;intro e0 a0 b0;refine lO0 rfl ⟨⟩ (N1a rfl rfl ?_);exact lT rfl ⟨⟩ rfl ⟨⟨_,_,_,rfl,a7c,fun w' hk c hc=>f6b p t c g2 g5 M w' _ _ (hP.keep ((a0.keep0 M).trans hk)) ((a0.cells 1 rfl).keep hk (Q0a hM (a0.new 1 rfl))) (hk.cell (a:=⟨g5,0,none⟩) (Q0a hM (a0.new 0 rfl)) (a0.cell 0 rfl rfl)) (d0.keep ((y0a.fresh X5 b0 G5).of_nil.trans hk)) hc⟩,a0.fin⟩
theorem G6a(e:E)(M:List Nat)(w0:World)(es:List Value)(vf:Value)(q:Int→Bool)(hR:RdE M w0 e es)(hp:A2a Tryz.prog M w0 vf q)(hK:q3a M w0)(hM:∀g∈M,g<w0.heap.size):
 M0a Tryz.prog 171 #[.agg es.toArray,vf] w0 fun v w'=>v=.bool (p3a e q)∧Below w0.heap.size w0 w':=by
 obtain⟨_,_,_,rfl,_,_,_,_,_⟩:=hR.cells;obtain⟨_,_,_,rfl,_,_⟩:=id hp;have S:=St.refl w0;have g0:∀w':World,w0.heap.size≤w'.heap.size→∀g∈M,g<w'.heap.size:=fun w' h g hg=>by have:=hM g hg;omega
 refine a0a Tryz.func171 rfl Tryz.ntmps171 rfl ?_;refine wO0 rfl ⟨⟩ (h0a S (by conv=>lhs;whnf) rfl ?_);intro g2 w2 S2 X2 G2;refine lO S2.k [.w 0] rfl ⟨⟨rfl,by rfl⟩,⟨⟩⟩ (x0a S2 O7c rfl rfl (H3b e M _ _ (RdE.keep (S2.keep0 M) _ _ hR) (hK.keep (S2.keep0 M)) (g0 _ S2.size)) ?_);rintro v9 w9 ⟨_,_,rfl,ra,rb⟩ S9 X9;obtain⟨_,_,_,rfl⟩:=ra.form;obtain⟨_,_,_,rfl⟩:=rb.form;refine lOn 10 S9.k [] rfl ⟨⟩ (Z0a (by conv=>lhs;whnf) rfl ?_);refine C0a S9 S8a rfl rfl (p6a M _ _ _ _ q ra (hp.keep (S9.keep0 M)) (g0 _ S9.size)) (fun b0 i0 a0 e0=>?_) (fun b0 i0 a0 e0=>?_)
 ·replace ra:=ra.keep (e0.of_nil);replace rb:=rb.keep (e0.of_nil);refine lOn 2 a0.k [] rfl ⟨⟩ (s6b rfl rfl rfl ?_);refine Z0a (by conv=>lhs;whnf) rfl ?_;refine lO0 rfl ⟨⟩ (C0a a0 S8a rfl rfl (p6a M _ _ _ _ q rb (hp.keep (a0.keep0 M)) (g0 _ a0.size)) (fun f0 j0 d0 h0=>?_) (fun f0 j0 d0 h0=>?_))
  ·replace ra:=ra.keep (h0.of_nil);refine lT rfl ⟨⟩ rfl ⟨congrArg Value.bool ?_,d0.fin⟩;unfold p3a;rw[b0,f0]<;>rfl
  refine lT rfl ⟨⟩ rfl ⟨congrArg Value.bool ?_,d0.fin⟩;unfold p3a;rw[b0,f0]<;>rfl
 refine lT rfl ⟨⟩ rfl ⟨congrArg Value.bool ?_,a0.fin⟩;unfold p3a;rw[b0]<;>rfl
theorem L0b(p:f0a)(e:E)(M:List Nat)(w0:World)(cs es:List Value)(a0:Bool)(vf:Value)(q:Int→Bool)(hP:q1a M w0 p cs)(hR:RdE M w0 e es)(hp:A2a Tryz.prog M w0 vf q)(hK:q3a M w0)(hM:∀g∈M,g<w0.heap.size)
 (hw:e.w=1) (hv:e.valid p.cells a0=true) (hs:p3a e q=true) :
 M0a Tryz.prog 163 #[.agg cs.toArray,.agg es.toArray,.bool a0,vf] w0 fun v w'=>v=.bool true∧Below w0.heap.size w0 w':=by
 obtain⟨_,_,_,_,_,_,_,_,_,_,_,_,rfl,hC,_,_,_,_,_,_,_,_,_,_,_⟩:=hP.open_;obtain⟨_,_,_,rfl,_,_,_,_,_⟩:=hR.cells;obtain⟨_,_,_,rfl,_,_⟩:=id hp;have S:=St.refl w0;have f0:∀w':World,w0.heap.size≤w'.heap.size→∀g∈M,g<w'.heap.size:=fun w' h g hg=>by have:=hM g hg;omega
 refine a0a Tryz.func163 rfl Tryz.ntmps163 rfl ?_;refine wO0 rfl ⟨⟩ (h0a S (by conv=>lhs;whnf) rfl ?_);intro g4 w4 S4 X4 G4;refine h0a S4 (by conv=>lhs;whnf) rfl ?_;intro g5 w5 S5 X5 G5;refine lB S5.k [.o 0] rfl ⟨rfl,⟨⟩⟩ (fun e0=>?_) (fun e0=>by exfalso;omega);refine lO S5.k [.w 0,.o 1] rfl ⟨rfl,⟨rfl,by rfl⟩,⟨⟩⟩ (g0a S5 O7a rfl rfl (hv▸S2a e M _ _ _ p.cells a0 (RdE.keep (S5.keep0 M) _ _ hR) (hC.keep (S5.keep0 M)) (hK.keep (S5.keep0 M))) ?_);intro i0 b0 g0;refine lOn 3 b0.k [.w 0] rfl ⟨⟨rfl,by rfl⟩,⟨⟩⟩ (s6b rfl rfl rfl ?_);refine Z0a (by conv=>lhs;whnf) rfl ?_;refine lO0 rfl ⟨⟩ (g0a b0 H8a rfl rfl (hs▸G6a e M _ _ _ q (RdE.keep (b0.keep0 M) _ _ hR) (hp.keep (b0.keep0 M)) (hK.keep (b0.keep0 M)) (f0 _ b0.size)) ?_);intro j0 d0 h0;exact lT rfl ⟨⟩ rfl ⟨rfl,d0.fin⟩
theorem r6a(p:f0a)(M:List Nat)(w0:World)(cs:List Value)(c:Int)(hP:q1a M w0 p cs)(h0:0≤c)(h1:c<p.cells.length):
 M0a Tryz.prog 224 #[.agg cs.toArray,.int .i64 c] w0 fun v w'=>v=.bool (E1b p.cells c)∧Below w0.heap.size w0 w':=by
 obtain⟨_,_,_,_,_,_,_,_,_,_,_,_,rfl,hC,_,_,_,_,_,_,_,_,_,_,_⟩:=hP.open_;have S:=St.refl w0;refine a0a Tryz.func224 rfl Tryz.ntmps224 rfl ?_;refine wO0 rfl ⟨⟩ (h0a S (by conv=>lhs;whnf) rfl ?_);intro g2 w2 S2 X2 G2;obtain⟨x,b9,p9,_,e0,a0,_,_,b0,d0⟩:=RdS.get (hC) (c.toNat) (by omega);obtain⟨rfl,_,_,_,_⟩:=F2a.open_ d0;refine lR (S2.k.a b0) [.o 0,.x b9 p9,.f 0 4] rfl ⟨rfl,⟨a0,by omega⟩,rfl,⟨⟩⟩ (o0a rfl (by conv=>lhs;whnf) ?_);exact⟨by rw[G2a e0],S2.fin⟩
theorem a3a(n:Nat):G3a n=((2 ^ n:Nat):Int):=by
 induction n with
 | zero=>rfl
 | succ n ih=>simp only[G3a,ih,Nat.pow_succ];omega
theorem p4a(a:Int)(h0:0≤a)(h1:a<9223372036854775808):IntKind.i64.wrap a=a:=by
 unfold IntKind.wrap;have hm:a % (2 ^ IntKind.i64.bits:Int)=a:=Int.emod_eq_of_lt h0 (by simp[IntKind.bits];omega);simp only[hm];rw[if_neg];simp[IntKind.bits,IntKind.signed];omega
theorem A4a(a:Int)(n:Nat)(hn:n≤62):s0b a (G3a n-1)=a % G3a n:=by
 have h2:(2:Nat) ^ n≤2 ^ 62:=Nat.pow_le_pow_right (by omega) hn;have d0:0<(2:Nat) ^ n:=Nat.pow_pos (by omega);rw[a3a];have e1:(((2 ^ n:Nat):Int)-1)=((2 ^ n-1:Nat):Int):=by omega
 have key:(BitVec.ofInt 64 a &&& BitVec.ofInt 64 (((2 ^ n:Nat):Int)-1)).toNat=(a % ((2 ^ n:Nat):Int)).toNat:=by
  rw[BitVec.toNat_and,e1,BitVec.ofInt_natCast,BitVec.toNat_ofNat,BitVec.toNat_ofInt];rw[Nat.mod_eq_of_lt (show 2 ^ n-1<2 ^ 64 by omega),Nat.and_two_pow_sub_one_eq_mod];have hd:((2 ^ n:Nat):Int) ∣ ((2 ^ 64:Nat):Int):=Int.natCast_dvd_natCast.2 (Nat.pow_dvd_pow 2 (by omega));have b0:0≤a % ((2 ^ 64:Nat):Int):=Int.emod_nonneg _ (by decide);have a0:0≤a % ((2 ^ n:Nat):Int):=Int.emod_nonneg _ (by omega);have:(((a % ((2 ^ 64:Nat):Int)).toNat % 2 ^ n:Nat):Int)=((a % ((2 ^ n:Nat):Int)).toNat:Int):=by
   rw[Int.natCast_emod,Int.toNat_of_nonneg b0,Int.toNat_of_nonneg a0,Int.emod_emod_of_dvd _ hd]
  omega
 have hb:s0b a (((2 ^ n:Nat):Int)-1)=IntKind.i64.wrap ((BitVec.ofInt 64 a &&& BitVec.ofInt 64 (((2 ^ n:Nat):Int)-1)).toNat:Int):=rfl;rw[hb,key];have a0:0≤a % ((2 ^ n:Nat):Int):=Int.emod_nonneg _ (by omega);have e0:a % ((2 ^ n:Nat):Int)<((2 ^ n:Nat):Int):=Int.emod_lt_of_pos _ (by omega);rw[Int.toNat_of_nonneg a0];exact p4a _ a0 (by omega)
end Go.Fw
