/-
  Part 2 of 6 of a proof: SchedulePrefixes of package relyguardlaw13 returns true for every input, and its arguments read as before.
  Conditions: those of the given row (the listed package variables as the program's text lays them).
-/
import Derived.Test.YtgnbfmifjlnigaaGreatDoorZSchedulePrefixes1
import Derived.Maps.Keyed
import Derived.Carry
namespace Go.Proofs.YtgnbfmifjlnigaaGreatDoor
open Go.Fw Go.RowKit
theorem power_fn (n : Nat) (hn : n ≤ 20) (w : World) : Does Tryz.prog 77 #[.int .i64 n] w fun v w' => v = .int .i64 (pow2 n) ∧ Below w.heap.size w w' := by
 have S := St.refl w
 obtain ⟨w0, hw0⟩ : ∃ w0, w0 = w := ⟨_, rfl⟩
 rw [← hw0] at S ⊢
 clear hw0
 refine Does_enter Tryz.func77 rfl Tryz.ntmps77 rfl ?_
 refine gw8 ?_; refine gw4 ?_; refine gw2 ?_
 refine W_loop (fun μ D ε w => D = [] ∧ ∃ k : Nat, (k + μ = n) ∧ St [] w0 w [] ∧ ε 0 = .int .i64 n ∧ ε 4 = .int .i64 k ∧ ε 3 = .int .i64 (pow2 k)) (μ := n) ⟨rfl, 0, by omega, S, rfl, rfl, rfl⟩ ?_
 rintro μ D ε w ⟨rfl, k, _, S, e0, e4, e3⟩
 refine W_known 0 e0 (W_known 4 e4 (W_known 3 e3 ?_))
 clear e0 e4 e3
 have hb : pow2 (k+1) ≤ pow2 21 := pow2_le _ _ (by omega)
 have hb' : pow2 21 = 2097152 := by decide
 have hp := pow2_pos k
 simp only [pow2] at hb
 refine gw4 ?_; refine gw1 ?_
 refine o_lss rfl rfl rfl (fun h7 => ?_) (fun h7 => ?_)
 ·refine gw4 ?_; refine gw2 ?_; refine gw1 ?_
  refine o_mul rfl rfl (by unfold i64; omega) rfl ?_
  refine gw4 ?_; refine gw2 ?_; refine gw1 ?_
  exact ⟨μ - 1, by omega, rfl, k + 1, by omega, S, rfl, rfl, rfl⟩
 refine gw8 ?_; refine gw2 ?_; refine gw1 ?_
 obtain rfl : k = n := by omega
 exact ⟨rfl, S.fin⟩
theorem power_eq (n : Int) (w : World) (h0 : 0 ≤ n) (hn : n ≤ 20) : Does Tryz.prog 77 #[.int .i64 n] w fun v w' => v = .int .i64 (pow2 n.toNat) ∧ Below w.heap.size w w' := by
 have h := power_fn n.toNat (by omega) w
 rwa [Int.toNat_of_nonneg h0] at h
theorem size_fn : ∀ (e : E) (M : List Nat) (w0 : World) (cs : List Value) (lim : Int), RdE M w0 e cs → i64 lim →
 Does Tryz.prog 51 #[.agg cs.toArray, .int .i64 lim] w0 fun v w' => v = .int .i64 (e.size lim) ∧ Below w0.heap.size w0 w' := by
 intro e
 induction e using E.induct with
 | _ e ih =>
 intro M w0 cs lim hR hl
 obtain ⟨A, n, c, rfl, _, _, _, _, _, _, _, hks⟩ := hR.open_
 have S := St.refl w0
 unfold i64 at hl
 refine Does_enter Tryz.func51 rfl Tryz.ntmps51 rfl ?_
 refine gw2 ?_
 refine o_boxa S (by conv => lhs; whnf) rfl ?_
 intro g2 w2 S2 X2 G2
 refine gw4 ?_; refine gw2 ?_
 refine o_leq rfl rfl rfl (fun h8 => ?_) (fun h8 => ?_)
 ·refine gw8 ?_
  exact ⟨by rw [E.size_def, if_pos h8], S2.fin⟩
 refine gw8 ?_; refine gw4 ?_; refine gw1 ?_
 refine W_loop (fun μ D ε w => D = [] ∧ ∃ k : Nat, ∃ nn : Int, (k + μ = e.kids.length) ∧ (e.size lim = E.sizes (e.kids.drop k) lim nn) ∧ (1 ≤ nn) ∧ (nn ≤ lim) ∧ St [] w0 w [(some g2, 73, [.int .i64 e.op, .int .i64 e.w, .int .i64 e.n, .slice A n c])] ∧ ε 1 = .int .i64 lim ∧ ε 2 = .pointer (some ⟨g2, 0, none⟩) ∧ ε 5 = .int .i64 nn ∧ ε 6 = .int .i64 k) (μ := e.kids.length) ⟨rfl, 0, 1, by omega, by rw [E.size_def, if_neg (by omega)]; rfl, by omega, by omega, S2, rfl, rfl, rfl, rfl⟩ ?_
 rintro μ D ε w ⟨rfl, k, nn, _, hs, _, _, S, e1, e2, e5, e6⟩
 refine W_known 1 e1 (W_known 2 e2 (W_known 5 e5 (W_known 6 e6 ?_)))
 clear e1 e2 e5 e6
 refine gw4 ?_; refine gw1 ?_
 refine o_load one_71 rfl (by first | exact S.cell 0 rfl rfl) rfl ?_
 refine gw1 ?_
 refine o_lss rfl rfl rfl (fun h13 => ?_) (fun h13 => ?_)
 ·refine gw4 ?_; refine gw2 ?_
  refine o_lss rfl rfl rfl (fun h17 => ?_) (fun h17 => ?_)
  ·refine gw4 ?_; refine gw2 ?_; refine gw1 ?_
   have hlt : k < e.kids.length := by omega
   obtain ⟨_, _, _, hbM, hkk⟩ := hks (by omega)
   obtain ⟨ck, hck, hrk⟩ := hkk k hlt
   have hlen : ck.length = 4 := hrk.length
   have hb := E.size_le e.kids[k] (lim - nn) (by omega)
   have hdr : e.kids.drop k = e.kids[k] :: e.kids.drop (k + 1) := List.drop_eq_getElem_cons hlt
   rw [hdr] at hs
   simp only [E.sizes, h17, if_true] at hs
   refine gw2 ?_
   refine o_load one_71 rfl (by first | exact S.cell 0 rfl rfl) rfl ?_
   refine gw2 ?_
   refine o_loadN many_73 rfl (hck.keep (S.keep0 M) hbM) (by assumption) rfl ?_
   refine gw2 ?_
   refine o_sub rfl rfl (by unfold i64; omega) rfl ?_
   refine o_callr S has_51 rfl rfl (ih _ (List.getElem_mem hlt) M _ ck _ (RdE.keep (S.keep0 M) _ _ hrk) (by unfold i64; omega)) ?_
   intro w30 S30 X30
   refine gw8 ?_
   exact ⟨μ - 1, by omega, rfl, k + 1, _, by omega, hs, by omega, by omega, S30, rfl, rfl, rfl, rfl⟩
  refine gw8 ?_; refine gw4 ?_
  exact ⟨by rw [hs, E.sizes_stop _ _ _ _ (by omega)], S.fin⟩
 refine gw16 ?_
 exact ⟨by rw [hs, E.sizes_stop _ _ _ _ (by omega)], S.fin⟩
theorem arity_fn (op : Int) (w0 : World) : Does Tryz.prog 166 #[.int .i64 op] w0 fun v w' => v = .int .i64 (arityL op) ∧ Below w0.heap.size w0 w' := by
 have S := St.refl w0
 have ha := arityL_spec op
 refine Does_enter Tryz.func166 rfl Tryz.ntmps166 rfl ?_
 refine gw8 ?_
 refine o_geq rfl rfl rfl (fun h4 => ?_) (fun h4 => ?_)
 ·refine gw4 ?_
  refine o_leq rfl rfl rfl (fun h7 => ?_) (fun h7 => ?_)
  ·refine gw8 ?_; refine gw1 ?_
   exact ⟨congrArg (Value.int .i64) (by omega), S.fin⟩
  refine gw8 ?_
  refine o_eql rfl rfl rfl (fun h10 => ?_) (fun h10 => ?_)
  ·refine gw8 ?_
   exact ⟨congrArg (Value.int .i64) (by omega), S.fin⟩
  refine gw4 ?_; refine gw2 ?_; refine gw1 ?_
  refine o_geq rfl rfl rfl (fun h12 => ?_) (fun h12 => ?_)
  ·refine gw4 ?_
   refine o_leq rfl rfl rfl (fun h15 => ?_) (fun h15 => ?_)
   ·refine gw8 ?_; refine gw1 ?_
    exact ⟨congrArg (Value.int .i64) (by omega), S.fin⟩
   refine gw8 ?_
   refine o_eql rfl rfl rfl (fun h18 => ?_) (fun h18 => ?_)
   ·refine gw8 ?_
    exact ⟨congrArg (Value.int .i64) (by omega), S.fin⟩
   refine gw8 ?_; refine gw1 ?_
   exact ⟨congrArg (Value.int .i64) (by omega), S.fin⟩
  refine gw8 ?_; refine gw2 ?_; refine gw1 ?_
  refine o_eql rfl rfl rfl (fun h18 => ?_) (fun h18 => ?_)
  ·refine gw8 ?_
   exact ⟨congrArg (Value.int .i64) (by omega), S.fin⟩
  refine gw8 ?_; refine gw1 ?_
  exact ⟨congrArg (Value.int .i64) (by omega), S.fin⟩
 refine gw8 ?_; refine gw2 ?_; refine gw1 ?_
 refine o_eql rfl rfl rfl (fun h10 => ?_) (fun h10 => ?_)
 ·refine gw8 ?_
  exact ⟨congrArg (Value.int .i64) (by omega), S.fin⟩
 refine gw4 ?_; refine gw2 ?_; refine gw1 ?_
 refine o_geq rfl rfl rfl (fun h12 => ?_) (fun h12 => ?_)
 ·refine gw4 ?_
  refine o_leq rfl rfl rfl (fun h15 => ?_) (fun h15 => ?_)
  ·refine gw8 ?_; refine gw1 ?_
   exact ⟨congrArg (Value.int .i64) (by omega), S.fin⟩
  refine gw8 ?_
  refine o_eql rfl rfl rfl (fun h18 => ?_) (fun h18 => ?_)
  ·refine gw8 ?_
   exact ⟨congrArg (Value.int .i64) (by omega), S.fin⟩
  refine gw8 ?_; refine gw1 ?_
  exact ⟨congrArg (Value.int .i64) (by omega), S.fin⟩
 refine gw8 ?_; refine gw2 ?_; refine gw1 ?_
 refine o_eql rfl rfl rfl (fun h18 => ?_) (fun h18 => ?_)
 ·refine gw8 ?_
  exact ⟨congrArg (Value.int .i64) (by omega), S.fin⟩
 refine gw8 ?_; refine gw1 ?_
 exact ⟨congrArg (Value.int .i64) (by omega), S.fin⟩
set_option maxHeartbeats 4000000 in
theorem node_fn (e : E) (M : List Nat) (w0 : World) (cs : List Value) (hR : RdE M w0 e cs) :
 Does Tryz.prog 158 #[.agg cs.toArray] w0 fun v w' => v = .bool e.shapeB ∧ Below w0.heap.size w0 w' := by
 obtain ⟨_, _, _, rfl, _, _, _, _, _, _, _, hks⟩ := hR.open_
 have S := St.refl w0
 have ha := arityL_spec e.op
 refine Does_enter Tryz.func158 rfl Tryz.ntmps158 rfl ?_
 refine gw2 ?_
 refine o_boxa S (by conv => lhs; whnf) rfl ?_
 intro g1 w1 S1 X1 G1
 refine gw4 ?_
 refine W_draw follows_mixed [0, 1, 2, 3, 4, 5, 6, 7, 8, 9, 10, 11, 12, 13, 14, 15, 16] [] [] (by kernel_rfl) rfl (Cl _ _ _ _) (Cl.start S1) ?_
 refine gq1 ?_
 refine q_load one_3 rfl (fun w1 hw => by exact hw.1.cell 0 rfl rfl) rfl ?_
 refine q_callr has_166 rfl rfl (fun w1 S1 X1 => arity_fn _ _) ?_
 refine gq1 ?_
 refine q_load one_71 rfl (fun w1 hw => by exact hw.1.cell 0 rfl rfl) rfl ?_
 refine gq1 ?_
 refine q_neq rfl rfl rfl (fun h9 => ?_) (fun h9 => ?_)
 ·refine gq8 ?_; refine gq2 ?_; refine gq1 ?_
  refine BK_of ?_
  refine BKL_nil ?_
  rintro wR1 ⟨SR1, XR1⟩
  refine gw8 ?_
  exact ⟨by exact SN (by omega), SR1.fin⟩
 refine gq4 ?_
 refine q_load one_3 rfl (fun w1 hw => by exact hw.1.cell 0 rfl rfl) rfl ?_
 refine gq1 ?_
 refine q_lss rfl rfl rfl (fun h13 => ?_) (fun h13 => ?_)
 ·refine gq4 ?_; refine gq2 ?_; refine gq1 ?_
  refine BK_of ?_
  refine BKL_nil ?_
  rintro wR1 ⟨SR1, XR1⟩
  refine gw8 ?_
  exact ⟨by exact SN (by omega), SR1.fin⟩
 refine gq4 ?_; refine gq1 ?_
 refine q_load one_3 rfl (fun w1 hw => by exact hw.1.cell 0 rfl rfl) rfl ?_
 refine gq1 ?_
 refine q_gtr rfl rfl rfl (fun h18 => ?_) (fun h18 => ?_)
 ·refine gq2 ?_
  refine BK_of ?_
  refine BKL_nil ?_
  rintro wR1 ⟨SR1, XR1⟩
  refine gw8 ?_
  exact ⟨by exact SN (by omega), SR1.fin⟩
 refine gq2 ?_
 refine BK_of ?_
 refine BKL_nil ?_
 rintro wR1 ⟨SR1, XR1⟩
 refine gw4 ?_; refine gw2 ?_; refine gw1 ?_
 refine o_load one_3 rfl (by exact SR1.cell 0 rfl rfl) rfl ?_
 refine gw4 ?_
 refine o_eql rfl rfl rfl (fun h23 => ?_) (fun h23 => ?_)
 ·refine gw4 ?_
  refine W_draw follows_mixed [0, 1, 2, 3, 4, 5, 6, 7, 8, 9, 10, 11] [] [] (by kernel_rfl) rfl (Cl _ _ _ _) (Cl.start SR1) ?_
  refine gq1 ?_
  refine q_load one_3 rfl (fun w1 hw => by exact hw.1.cell 0 rfl rfl) rfl ?_
  refine q_geq rfl rfl rfl (fun h26 => ?_) (fun h26 => ?_)
  ·refine gq4 ?_
   refine q_load one_3 rfl (fun w1 hw => by exact hw.1.cell 0 rfl rfl) rfl ?_
   refine gq2 ?_; refine gq1 ?_
   refine q_load one_3 rfl (fun w1 hw => by exact hw.1.cell 0 rfl rfl) rfl ?_
   refine gq1 ?_
   refine q_callr has_77 rfl rfl (fun w1 S1 X1 => power_eq _ _ (by omega) (by omega)) ?_
   refine gq1 ?_
   refine q_lss rfl rfl rfl (fun h33 => ?_) (fun h33 => ?_)
   ·refine gq2 ?_; refine gq1 ?_
    refine BK_of ?_
    refine BKL_nil ?_
    rintro wR5 ⟨SR5, XR5⟩
    refine gw2 ?_; refine gw1 ?_
    exact ⟨by exact ST1 (by omega) (by omega), SR5.fin⟩
   refine gq2 ?_; refine gq1 ?_
   refine BK_of ?_
   refine BKL_nil ?_
   rintro wR5 ⟨SR5, XR5⟩
   refine gw2 ?_; refine gw1 ?_
   exact ⟨by exact SF1 (by omega) (by omega), SR5.fin⟩
  refine gq8 ?_; refine gq2 ?_
  refine BK_of ?_
  refine BKL_nil ?_
  rintro wR5 ⟨SR5, XR5⟩
  refine gw2 ?_; refine gw1 ?_
  exact ⟨by exact SF1 (by omega) (by omega), SR5.fin⟩
 refine gw4 ?_; refine gw2 ?_
 refine o_eql rfl rfl rfl (fun h36 => ?_) (fun h36 => ?_)
 ·refine gw8 ?_
  refine o_load one_3 rfl (by exact SR1.cell 0 rfl rfl) rfl ?_
  refine o_geq rfl rfl rfl (fun h40 => ?_) (fun h40 => ?_)
  ·refine gw4 ?_
   refine o_load one_3 rfl (by exact SR1.cell 0 rfl rfl) rfl ?_
   refine gw1 ?_
   refine o_lss rfl rfl rfl (fun h44 => ?_) (fun h44 => ?_)
   ·refine gw4 ?_; refine gw1 ?_
    exact ⟨by exact ST2 (by omega) (by omega), SR1.fin⟩
   refine gw4 ?_; refine gw1 ?_
   exact ⟨by exact SF2 (by omega) (by omega), SR1.fin⟩
  refine gw8 ?_; refine gw1 ?_
  exact ⟨by exact SF2 (by omega) (by omega), SR1.fin⟩
 refine gw4 ?_
 refine o_eql rfl rfl rfl (fun h37 => ?_) (fun h37 => ?_)
 ·refine gw4 ?_; refine gw2 ?_
  refine o_load one_3 rfl (by exact SR1.cell 0 rfl rfl) rfl ?_
  refine o_geq rfl rfl rfl (fun h40 => ?_) (fun h40 => ?_)
  ·refine gw4 ?_
   refine o_load one_3 rfl (by exact SR1.cell 0 rfl rfl) rfl ?_
   refine gw1 ?_
   refine o_lss rfl rfl rfl (fun h44 => ?_) (fun h44 => ?_)
   ·refine gw4 ?_; refine gw1 ?_
    exact ⟨by exact ST2 (by omega) (by omega), SR1.fin⟩
   refine gw4 ?_; refine gw1 ?_
   exact ⟨by exact SF2 (by omega) (by omega), SR1.fin⟩
  refine gw8 ?_; refine gw1 ?_
  exact ⟨by exact SF2 (by omega) (by omega), SR1.fin⟩
 refine gw4 ?_; refine gw1 ?_
 refine o_eql rfl rfl rfl (fun h47 => ?_) (fun h47 => ?_)
 ·refine gw4 ?_
  refine W_draw follows_mixed [0, 1, 2, 3, 4, 5, 6, 7, 8, 9, 10, 11, 12, 13] [] [] (by kernel_rfl) rfl (Cl _ _ _ _) (Cl.start SR1) ?_
  refine gq1 ?_
  refine q_load one_3 rfl (fun w1 hw => by exact hw.1.cell 0 rfl rfl) rfl ?_
  refine q_eql rfl rfl rfl (fun h50 => ?_) (fun h50 => ?_)
  ·refine gq4 ?_
   refine q_load one_71 rfl (fun w1 hw => by exact hw.1.cell 0 rfl rfl) rfl ?_
   refine gq1 ?_
   obtain ⟨b, o, hA, hbM, hkk⟩ := hks (by omega)
   have hk0 := kid_cells hkk 0 (by omega)
   refine gq4 ?_
   refine q_load one_3 rfl (fun w1 hw => by exact hw.1.old hk0) rfl ?_
   refine gq2 ?_; refine gq1 ?_
   refine q_load one_3 rfl (fun w1 hw => by exact hw.1.cell 0 rfl rfl) rfl ?_
   refine gq1 ?_
   refine q_eql rfl rfl rfl (fun h59 => ?_) (fun h59 => ?_)
   ·refine gq2 ?_; refine gq1 ?_
    refine BK_of ?_
    refine BKL_nil ?_
    rintro wR10 ⟨SR10, XR10⟩
    refine gw2 ?_; refine gw1 ?_
    exact ⟨by exact ST4 (by omega) (by omega), SR10.fin⟩
   refine gq2 ?_; refine gq1 ?_
   refine BK_of ?_
   refine BKL_nil ?_
   rintro wR10 ⟨SR10, XR10⟩
   refine gw2 ?_; refine gw1 ?_
   exact ⟨by exact SF4 (by omega) (by omega), SR10.fin⟩
  refine gq8 ?_; refine gq4 ?_
  refine BK_of ?_
  refine BKL_nil ?_
  rintro wR10 ⟨SR10, XR10⟩
  refine gw2 ?_; refine gw1 ?_
  exact ⟨by exact SF4 (by omega) (by omega), SR10.fin⟩
 refine gw4 ?_; refine gw2 ?_
 refine o_eql rfl rfl rfl (fun h62 => ?_) (fun h62 => ?_)
 ·refine gw4 ?_; refine gw2 ?_
  refine W_draw follows_mixed [0, 1, 2, 3, 4, 5, 6, 7, 8, 9, 10, 11, 12, 13, 14, 15, 16, 17, 18, 19, 20, 21] [] [] (by kernel_rfl) rfl (Cl _ _ _ _) (Cl.start SR1) ?_
  refine gq1 ?_
  refine q_load one_3 rfl (fun w1 hw => by exact hw.1.cell 0 rfl rfl) rfl ?_
  refine q_eql rfl rfl rfl (fun h67 => ?_) (fun h67 => ?_)
  ·refine gq4 ?_
   refine q_load one_3 rfl (fun w1 hw => by exact hw.1.cell 0 rfl rfl) rfl ?_
   refine gq1 ?_
   refine q_eql rfl rfl rfl (fun h71 => ?_) (fun h71 => ?_)
   ·refine gq4 ?_; refine gq1 ?_
    refine q_load one_71 rfl (fun w1 hw => by exact hw.1.cell 0 rfl rfl) rfl ?_
    refine gq1 ?_
    obtain ⟨b, o, hA, hbM, hkk⟩ := hks (by omega)
    have hk0 := kid_cells hkk 0 (by omega)
    have hk1 := kid_cells hkk 1 (by omega)
    refine gq4 ?_
    refine q_load one_3 rfl (fun w1 hw => by exact hw.1.old hk0) rfl ?_
    refine gq2 ?_; refine gq1 ?_
    refine q_load one_71 rfl (fun w1 hw => by exact hw.1.cell 0 rfl rfl) rfl ?_
    refine gq4 ?_; refine gq1 ?_
    refine q_load one_3 rfl (fun w1 hw => by exact hw.1.old hk1) rfl ?_
    refine gq1 ?_
    refine q_eql rfl rfl rfl (fun h84 => ?_) (fun h84 => ?_)
    ·refine gq2 ?_; refine gq1 ?_
     refine BK_of ?_
     refine BKL_nil ?_
     rintro wR14 ⟨SR14, XR14⟩
     refine gw2 ?_; refine gw1 ?_
     exact ⟨by exact ST11 (by omega) (by omega), SR14.fin⟩
    refine gq2 ?_; refine gq1 ?_
    refine BK_of ?_
    refine BKL_nil ?_
    rintro wR14 ⟨SR14, XR14⟩
    refine gw2 ?_; refine gw1 ?_
    exact ⟨by exact SF11 (by omega) (by omega), SR14.fin⟩
   refine gq16 ?_
   refine BK_of ?_
   refine BKL_nil ?_
   rintro wR14 ⟨SR14, XR14⟩
   refine gw2 ?_; refine gw1 ?_
   exact ⟨by exact SF11 (by omega) (by omega), SR14.fin⟩
  refine gq16 ?_; refine gq4 ?_
  refine BK_of ?_
  refine BKL_nil ?_
  rintro wR14 ⟨SR14, XR14⟩
  refine gw2 ?_; refine gw1 ?_
  exact ⟨by exact SF11 (by omega) (by omega), SR14.fin⟩
 refine gw4 ?_; refine gw1 ?_
 refine o_eql rfl rfl rfl (fun h63 => ?_) (fun h63 => ?_)
 ·refine gw4 ?_; refine gw2 ?_
  refine W_draw follows_mixed [0, 1, 2, 3, 4, 5, 6, 7, 8, 9, 10, 11, 12, 13, 14, 15, 16, 17, 18, 19, 20, 21] [] [] (by kernel_rfl) rfl (Cl _ _ _ _) (Cl.start SR1) ?_
  refine gq1 ?_
  refine q_load one_3 rfl (fun w1 hw => by exact hw.1.cell 0 rfl rfl) rfl ?_
  refine q_eql rfl rfl rfl (fun h67 => ?_) (fun h67 => ?_)
  ·refine gq4 ?_
   refine q_load one_3 rfl (fun w1 hw => by exact hw.1.cell 0 rfl rfl) rfl ?_
   refine gq1 ?_
   refine q_eql rfl rfl rfl (fun h71 => ?_) (fun h71 => ?_)
   ·refine gq4 ?_; refine gq1 ?_
    refine q_load one_71 rfl (fun w1 hw => by exact hw.1.cell 0 rfl rfl) rfl ?_
    refine gq1 ?_
    obtain ⟨b, o, hA, hbM, hkk⟩ := hks (by omega)
    have hk0 := kid_cells hkk 0 (by omega)
    have hk1 := kid_cells hkk 1 (by omega)
    refine gq4 ?_
    refine q_load one_3 rfl (fun w1 hw => by exact hw.1.old hk0) rfl ?_
    refine gq2 ?_; refine gq1 ?_
    refine q_load one_71 rfl (fun w1 hw => by exact hw.1.cell 0 rfl rfl) rfl ?_
    refine gq4 ?_; refine gq1 ?_
    refine q_load one_3 rfl (fun w1 hw => by exact hw.1.old hk1) rfl ?_
    refine gq1 ?_
    refine q_eql rfl rfl rfl (fun h84 => ?_) (fun h84 => ?_)
    ·refine gq2 ?_; refine gq1 ?_
     refine BK_of ?_
     refine BKL_nil ?_
     rintro wR14 ⟨SR14, XR14⟩
     refine gw2 ?_; refine gw1 ?_
     exact ⟨by exact ST11 (by omega) (by omega), SR14.fin⟩
    refine gq2 ?_; refine gq1 ?_
    refine BK_of ?_
    refine BKL_nil ?_
    rintro wR14 ⟨SR14, XR14⟩
    refine gw2 ?_; refine gw1 ?_
    exact ⟨by exact SF11 (by omega) (by omega), SR14.fin⟩
   refine gq16 ?_
   refine BK_of ?_
   refine BKL_nil ?_
   rintro wR14 ⟨SR14, XR14⟩
   refine gw2 ?_; refine gw1 ?_
   exact ⟨by exact SF11 (by omega) (by omega), SR14.fin⟩
  refine gq16 ?_; refine gq4 ?_
  refine BK_of ?_
  refine BKL_nil ?_
  rintro wR14 ⟨SR14, XR14⟩
  refine gw2 ?_; refine gw1 ?_
  exact ⟨by exact SF11 (by omega) (by omega), SR14.fin⟩
 refine gw4 ?_
 refine o_eql rfl rfl rfl (fun h64 => ?_) (fun h64 => ?_)
 ·refine gw4 ?_
  refine W_draw follows_mixed [0, 1, 2, 3, 4, 5, 6, 7, 8, 9, 10, 11, 12, 13, 14, 15, 16, 17, 18, 19, 20, 21] [] [] (by kernel_rfl) rfl (Cl _ _ _ _) (Cl.start SR1) ?_
  refine gq1 ?_
  refine q_load one_3 rfl (fun w1 hw => by exact hw.1.cell 0 rfl rfl) rfl ?_
  refine q_eql rfl rfl rfl (fun h67 => ?_) (fun h67 => ?_)
  ·refine gq4 ?_
   refine q_load one_3 rfl (fun w1 hw => by exact hw.1.cell 0 rfl rfl) rfl ?_
   refine gq1 ?_
   refine q_eql rfl rfl rfl (fun h71 => ?_) (fun h71 => ?_)
   ·refine gq4 ?_; refine gq1 ?_
    refine q_load one_71 rfl (fun w1 hw => by exact hw.1.cell 0 rfl rfl) rfl ?_
    refine gq1 ?_
    obtain ⟨b, o, hA, hbM, hkk⟩ := hks (by omega)
    have hk0 := kid_cells hkk 0 (by omega)
    have hk1 := kid_cells hkk 1 (by omega)
    refine gq4 ?_
    refine q_load one_3 rfl (fun w1 hw => by exact hw.1.old hk0) rfl ?_
    refine gq2 ?_; refine gq1 ?_
    refine q_load one_71 rfl (fun w1 hw => by exact hw.1.cell 0 rfl rfl) rfl ?_
    refine gq4 ?_; refine gq1 ?_
    refine q_load one_3 rfl (fun w1 hw => by exact hw.1.old hk1) rfl ?_
    refine gq1 ?_
    refine q_eql rfl rfl rfl (fun h84 => ?_) (fun h84 => ?_)
    ·refine gq2 ?_; refine gq1 ?_
     refine BK_of ?_
     refine BKL_nil ?_
     rintro wR14 ⟨SR14, XR14⟩
     refine gw2 ?_; refine gw1 ?_
     exact ⟨by exact ST11 (by omega) (by omega), SR14.fin⟩
    refine gq2 ?_; refine gq1 ?_
    refine BK_of ?_
    refine BKL_nil ?_
    rintro wR14 ⟨SR14, XR14⟩
    refine gw2 ?_; refine gw1 ?_
    exact ⟨by exact SF11 (by omega) (by omega), SR14.fin⟩
   refine gq16 ?_
   refine BK_of ?_
   refine BKL_nil ?_
   rintro wR14 ⟨SR14, XR14⟩
   refine gw2 ?_; refine gw1 ?_
   exact ⟨by exact SF11 (by omega) (by omega), SR14.fin⟩
  refine gq16 ?_; refine gq4 ?_
  refine BK_of ?_
  refine BKL_nil ?_
  rintro wR14 ⟨SR14, XR14⟩
  refine gw2 ?_; refine gw1 ?_
  exact ⟨by exact SF11 (by omega) (by omega), SR14.fin⟩
 refine gw4 ?_; refine gw1 ?_
 refine o_eql rfl rfl rfl (fun h87 => ?_) (fun h87 => ?_)
 ·refine gw4 ?_
  refine W_draw follows_mixed [0, 1, 2, 3, 4, 5, 6, 7, 8, 9, 10, 11, 12, 13, 14, 15, 16, 17, 18, 19, 20, 21, 22, 23, 24, 25, 26, 27, 28, 29, 30, 31] [] [] (by kernel_rfl) rfl (Cl _ _ _ _) (Cl.start SR1) ?_
  refine gq1 ?_
  refine q_load one_3 rfl (fun w1 hw => by exact hw.1.cell 0 rfl rfl) rfl ?_
  refine q_eql rfl rfl rfl (fun h90 => ?_) (fun h90 => ?_)
  ·refine gq4 ?_
   refine q_load one_71 rfl (fun w1 hw => by exact hw.1.cell 0 rfl rfl) rfl ?_
   refine gq1 ?_
   obtain ⟨b, o, hA, hbM, hkk⟩ := hks (by omega)
   have hk0 := kid_cells hkk 0 (by omega)
   have hk1 := kid_cells hkk 1 (by omega)
   have hk2 := kid_cells hkk 2 (by omega)
   refine gq4 ?_
   refine q_load one_3 rfl (fun w1 hw => by exact hw.1.old hk0) rfl ?_
   refine gq1 ?_
   refine q_eql rfl rfl rfl (fun h97 => ?_) (fun h97 => ?_)
   ·refine gq4 ?_; refine gq1 ?_
    refine q_load one_71 rfl (fun w1 hw => by exact hw.1.cell 0 rfl rfl) rfl ?_
    refine gq4 ?_; refine gq1 ?_
    refine q_load one_3 rfl (fun w1 hw => by exact hw.1.old hk1) rfl ?_
    refine gq2 ?_; refine gq1 ?_
    refine q_load one_3 rfl (fun w1 hw => by exact hw.1.cell 0 rfl rfl) rfl ?_
    refine gq1 ?_
    refine q_eql rfl rfl rfl (fun h107 => ?_) (fun h107 => ?_)
    ·refine gq4 ?_; refine gq1 ?_
     refine q_load one_71 rfl (fun w1 hw => by exact hw.1.cell 0 rfl rfl) rfl ?_
     refine gq4 ?_; refine gq1 ?_
     refine q_load one_3 rfl (fun w1 hw => by exact hw.1.old hk2) rfl ?_
     refine gq2 ?_; refine gq1 ?_
     refine q_load one_3 rfl (fun w1 hw => by exact hw.1.cell 0 rfl rfl) rfl ?_
     refine gq1 ?_
     refine q_eql rfl rfl rfl (fun h117 => ?_) (fun h117 => ?_)
     ·refine gq2 ?_; refine gq1 ?_
      refine BK_of ?_
      refine BKL_nil ?_
      rintro wR16 ⟨SR16, XR16⟩
      refine gw2 ?_; refine gw1 ?_
      exact ⟨by exact ST14 (by omega) (by omega), SR16.fin⟩
     refine gq2 ?_; refine gq1 ?_
     refine BK_of ?_
     refine BKL_nil ?_
     rintro wR16 ⟨SR16, XR16⟩
     refine gw2 ?_; refine gw1 ?_
     exact ⟨by exact SF14 (by omega) (by omega), SR16.fin⟩
    refine gq8 ?_; refine gq4 ?_; refine gq1 ?_
    refine BK_of ?_
    refine BKL_nil ?_
    rintro wR16 ⟨SR16, XR16⟩
    refine gw2 ?_; refine gw1 ?_
    exact ⟨by exact SF14 (by omega) (by omega), SR16.fin⟩
   refine gq16 ?_; refine gq4 ?_; refine gq2 ?_; refine gq1 ?_
   refine BK_of ?_
   refine BKL_nil ?_
   rintro wR16 ⟨SR16, XR16⟩
   refine gw2 ?_; refine gw1 ?_
   exact ⟨by exact SF14 (by omega) (by omega), SR16.fin⟩
  refine gq16 ?_; refine gq8 ?_; refine gq4 ?_; refine gq2 ?_
  refine BK_of ?_
  refine BKL_nil ?_
  rintro wR16 ⟨SR16, XR16⟩
  refine gw2 ?_; refine gw1 ?_
  exact ⟨by exact SF14 (by omega) (by omega), SR16.fin⟩
 refine gw4 ?_; refine gw1 ?_
 refine W_draw follows_mixed [0, 1, 2, 3, 4, 5, 6, 7, 8, 9, 10, 11, 12, 13, 14, 15, 16, 17, 18, 19, 20, 21, 22, 23] [] [] (by kernel_rfl) rfl (Cl _ _ _ _) (Cl.start SR1) ?_
 refine gq1 ?_
 refine q_load one_3 rfl (fun w1 hw => by exact hw.1.cell 0 rfl rfl) rfl ?_
 refine q_eql rfl rfl rfl (fun h121 => ?_) (fun h121 => ?_)
 ·refine gq4 ?_
  refine q_load one_71 rfl (fun w1 hw => by exact hw.1.cell 0 rfl rfl) rfl ?_
  refine gq1 ?_
  obtain ⟨b, o, hA, hbM, hkk⟩ := hks (by omega)
  have hk0 := kid_cells hkk 0 (by omega)
  have hk1 := kid_cells hkk 1 (by omega)
  refine gq4 ?_
  refine q_load one_3 rfl (fun w1 hw => by exact hw.1.old hk0) rfl ?_
  refine gq2 ?_; refine gq1 ?_
  refine q_load one_3 rfl (fun w1 hw => by exact hw.1.cell 0 rfl rfl) rfl ?_
  refine gq1 ?_
  refine q_eql rfl rfl rfl (fun h130 => ?_) (fun h130 => ?_)
  ·refine gq4 ?_; refine gq1 ?_
   refine q_load one_71 rfl (fun w1 hw => by exact hw.1.cell 0 rfl rfl) rfl ?_
   refine gq4 ?_; refine gq1 ?_
   refine q_load one_3 rfl (fun w1 hw => by exact hw.1.old hk1) rfl ?_
   refine gq2 ?_; refine gq1 ?_
   refine q_load one_3 rfl (fun w1 hw => by exact hw.1.cell 0 rfl rfl) rfl ?_
   refine gq1 ?_
   refine q_eql rfl rfl rfl (fun h140 => ?_) (fun h140 => ?_)
   ·refine gq2 ?_; refine gq1 ?_
    refine BK_of ?_
    refine BKL_nil ?_
    rintro wR17 ⟨SR17, XR17⟩
    refine gw2 ?_; refine gw1 ?_
    exact ⟨by exact ST5 (by omega) (by omega), SR17.fin⟩
   refine gq2 ?_; refine gq1 ?_
   refine BK_of ?_
   refine BKL_nil ?_
   rintro wR17 ⟨SR17, XR17⟩
   refine gw2 ?_; refine gw1 ?_
   exact ⟨by exact SF5 (by omega) (by omega), SR17.fin⟩
  refine gq8 ?_; refine gq4 ?_; refine gq1 ?_
  refine BK_of ?_
  refine BKL_nil ?_
  rintro wR17 ⟨SR17, XR17⟩
  refine gw2 ?_; refine gw1 ?_
  exact ⟨by exact SF5 (by omega) (by omega), SR17.fin⟩
 refine gq16 ?_; refine gq4 ?_; refine gq2 ?_
 refine BK_of ?_
 refine BKL_nil ?_
 rintro wR17 ⟨SR17, XR17⟩
 refine gw2 ?_; refine gw1 ?_
 exact ⟨by exact SF5 (by omega) (by omega), SR17.fin⟩
theorem deep_fn : ∀ (e : E) (M : List Nat) (w0 : World) (cs : List Value) (lim : Int), RdE M w0 e cs → -1000 ≤ lim → lim ≤ 1000 →
 Does Tryz.prog 136 #[.agg cs.toArray, .int .i64 lim] w0 fun v w' => v = .bool (e.good lim) ∧ Below w0.heap.size w0 w' := by
 intro e
 induction e using E.induct with
 | _ e ih =>
 intro M w0 cs lim hR hl1 hl2
 obtain ⟨A, n, c, rfl, _, _, _, _, _, _, _, hks⟩ := hR.open_
 have S := St.refl w0
 have hdef := E.good_def e lim
 have hfalse : ∀ k ∈ e.kids, k.good (lim - 1) = false → E.goods e.kids (lim - 1) = false := fun k hk hf => by
  cases hg : E.goods e.kids (lim - 1) with
  | false => rfl
  | true => rw [(E.goods_iff _ _).1 hg k hk] at hf; cases hf
 refine Does_enter Tryz.func136 rfl Tryz.ntmps136 rfl ?_
 refine gw2 ?_
 refine o_boxa S (by conv => lhs; whnf) rfl ?_
 intro g2 w2 S2 X2 G2
 refine gw4 ?_; refine gw2 ?_
 refine o_lss rfl rfl rfl (fun h7 => ?_) (fun h7 => ?_)
 ·refine gw8 ?_; refine gw4 ?_; refine gw1 ?_
  refine ⟨congrArg Value.bool ?_, S2.fin⟩
  rw [hdef]
  simp [show ¬ 1 ≤ lim by omega]; done
 refine gw2 ?_
 refine o_loadN many_73 rfl (S2.cells 0 rfl) rfl rfl ?_
 refine gw1 ?_
 refine o_callb S2 has_158 rfl rfl (node_fn _ M _ _ (RdE.keep (S2.keep0 M) _ _ hR)) (fun h10 w10 S10 X10 => ?_) (fun h10 w10 S10 X10 => ?_)
 ·refine gw8 ?_; refine gw4 ?_
  refine W_loop (fun μ D ε w => D = [] ∧ ∃ k : Nat, (k + μ = e.kids.length) ∧ (∀ (j : Nat) (h : j < e.kids.length), j < k → e.kids[j].good (lim - 1) = true) ∧ St [] w0 w [(some g2, 73, [.int .i64 e.op, .int .i64 e.w, .int .i64 e.n, .slice A n c])] ∧ ε 1 = .int .i64 lim ∧ ε 2 = .pointer (some ⟨g2, 0, none⟩) ∧ ε 5 = .int .i64 k) (μ := e.kids.length) ⟨rfl, 0, by omega, fun j _ h => absurd h (by omega), S10, rfl, rfl, rfl⟩ ?_
  rintro μ D ε w ⟨rfl, k, hk, hs, S, e1, e2, e5⟩
  refine W_known 1 e1 (W_known 2 e2 (W_known 5 e5 ?_))
  clear e1 e2 e5
  refine gw4 ?_; refine gw1 ?_
  refine o_load one_71 rfl (by first | exact S.cell 0 rfl rfl) rfl ?_
  refine gw1 ?_
  refine o_lss rfl rfl rfl (fun h17 => ?_) (fun h17 => ?_)
  ·refine gw4 ?_; refine gw2 ?_; refine gw1 ?_
   have hlt : k < e.kids.length := by omega
   obtain ⟨_, _, _, hbM, hkk⟩ := hks (by omega)
   obtain ⟨ck, hck, hrk⟩ := hkk k hlt
   have hlen : ck.length = 4 := hrk.length
   refine gw1 ?_
   refine o_load one_71 rfl (by first | exact S.cell 0 rfl rfl) rfl ?_
   refine gw2 ?_
   refine o_loadN many_73 rfl (hck.keep (S.keep0 M) hbM) (by assumption) rfl ?_
   refine gw1 ?_
   refine o_sub rfl rfl (by unfold i64; omega) rfl ?_
   refine o_callb S has_136 rfl rfl (ih _ (List.getElem_mem hlt) M _ ck _ (RdE.keep (S.keep0 M) _ _ hrk) (by omega) (by omega)) (fun h27 w27 S27 X27 => ?_) (fun h27 w27 S27 X27 => ?_)
   ·refine gw8 ?_; refine gw1 ?_
    refine ⟨μ - 1, by omega, rfl, k + 1, by omega, fun j hj h => ?_, S27, rfl, rfl, rfl⟩
    by_cases hjk : j = k
    ·subst hjk; exact h27
    ·exact hs j hj (by omega)
   refine gw8 ?_; refine gw1 ?_
   refine ⟨congrArg Value.bool ?_, S27.fin⟩
   rw [hdef]
   simp [hfalse _ (List.getElem_mem hlt) h27]; done
  refine gw8 ?_; refine gw2 ?_
  refine ⟨congrArg Value.bool ?_, S.fin⟩
  rw [hdef]
  rw [(E.goods_iff _ _).2 (fun x hx => by obtain ⟨j, hj, rfl⟩ := List.getElem_of_mem hx; exact hs j hj (by omega))]; simp [h10, show 1 ≤ lim by omega]
 refine gw8 ?_; refine gw2 ?_; refine gw1 ?_
 refine ⟨congrArg Value.bool ?_, S10.fin⟩
 rw [hdef]
 simp [h10]; done
theorem formed_fn (e : E) (M : List Nat) (w0 : World) (cs : List Value) (hR : RdE M w0 e cs) :
 Does Tryz.prog 110 #[.agg cs.toArray] w0 fun v w' => v = .bool e.wf ∧ Below w0.heap.size w0 w' := by
 obtain ⟨_, _, _, rfl, _, _, _, _, _, _, _, _⟩ := hR.open_
 have S := St.refl w0
 have hsz := E.size_eq e 601 (by omega)
 refine Does_enter Tryz.func110 rfl Tryz.ntmps110 rfl ?_
 refine gw2 ?_
 refine o_boxa S (by conv => lhs; whnf) rfl ?_
 intro g1 w1 S1 X1 G1
 refine gw4 ?_
 first | refine o_loadN many_73 rfl (S1.cells 0 rfl) rfl rfl ?_
 refine o_callr S1 has_51 rfl rfl (size_fn _ M _ _ _ (RdE.keep (S1.keep0 M) _ _ hR) (by unfold i64; omega)) ?_
 intro w4 S4 X4
 refine o_leq rfl rfl rfl (fun h5 => ?_) (fun h5 => ?_)
 ·refine gw2 ?_
  first | refine o_loadN many_73 rfl (S4.cells 0 rfl) rfl rfl ?_
  refine gw1 ?_
  refine o_callb S4 has_136 rfl rfl (deep_fn _ M _ _ _ (RdE.keep (S4.keep0 M) _ _ hR) (by omega) (by omega)) (fun h8 w8 S8 X8 => ?_) (fun h8 w8 S8 X8 => ?_)
  ·refine gw4 ?_; refine gw1 ?_
   refine ⟨congrArg Value.bool ?_, S8.fin⟩
   unfold E.wf
   simp [h8, show e.cnt ≤ 600 by omega]; done
  refine gw4 ?_; refine gw1 ?_
  refine ⟨congrArg Value.bool ?_, S8.fin⟩
  unfold E.wf
  simp [h8, show e.cnt ≤ 600 by omega]; done
 refine gw8 ?_
 refine ⟨congrArg Value.bool ?_, S4.fin⟩
 unfold E.wf
 simp [show ¬ e.cnt ≤ 600 by omega]; done
theorem small_fn (e : E) (M : List Nat) (w0 : World) (cs : List Value) (lim : Int) (hR : RdE M w0 e cs) (h0 : 0 ≤ lim) (h1 : lim ≤ 1000000) :
 Does Tryz.prog 30 #[.agg cs.toArray, .int .i64 lim] w0 fun v w' => v = .bool (decide ((e.cnt : Int) ≤ lim)) ∧ Below w0.heap.size w0 w' := by
 obtain ⟨_, _, _, rfl, _, _, _, _, _, _, _, _⟩ := hR.open_
 have S := St.refl w0
 have hsz := E.size_eq e (lim + 1) (by omega)
 refine Does_enter Tryz.func30 rfl Tryz.ntmps30 rfl ?_
 refine gw2 ?_
 refine o_boxa S (by conv => lhs; whnf) rfl ?_
 intro g2 w2 S2 X2 G2
 refine gw4 ?_
 first | refine o_loadN many_73 rfl (S2.cells 0 rfl) rfl rfl ?_
 refine gw2 ?_
 refine o_callr S2 has_51 rfl rfl (size_fn _ M _ _ _ (RdE.keep (S2.keep0 M) _ _ hR) (by unfold i64; omega)) ?_
 intro w8 S8 X8
 refine gw1 ?_
 refine o_leq rfl rfl rfl (fun h10 => ?_) (fun h10 => ?_)
 ·refine gw4 ?_
  refine ⟨congrArg Value.bool ?_, S8.fin⟩
  exact (decide_eq_true (by omega)).symm
 refine gw4 ?_
 refine ⟨congrArg Value.bool ?_, S8.fin⟩
 exact (decide_eq_false (by omega)).symm
theorem over_fn : ∀ (e : E) (M : List Nat) (w0 : World) (cs : List Value) (vc : Value) (cells : List CellD) (pair : Bool) (lim : Int), RdE M w0 e cs → RdCs M w0 vc cells → e.good lim = true →
 Does Tryz.prog 111 #[.agg cs.toArray, vc, .bool pair] w0 fun v w' => v = .bool (e.over cells pair) ∧ Below w0.heap.size w0 w' := by
 intro e
 induction e using E.induct with
 | _ e ih =>
 intro M w0 cs vc cells pair lim hR hC hg
 obtain ⟨A, n, c, rfl, _, _, _, _, _, hm, _, hks⟩ := hR.open_
 obtain ⟨Ac, nc, cc, rfl, _, _, _, _, hcs⟩ := id hC
 have S := St.refl w0
 have hdef := E.over_def cells pair e
 have hfalse : ∀ k ∈ e.kids, k.over cells pair = false → E.overs cells pair e.kids = false := fun k hk hf => by
  cases hg : E.overs cells pair e.kids with
  | false => rfl
  | true => rw [(E.overs_iff _ _ _).1 hg k hk] at hf; cases hf
 rw [E.good_def] at hg
 simp only [Bool.and_eq_true] at hg
 have hsh : e.Shape := of_decide_eq_true hg.1.2
 have hkg : ∀ k ∈ e.kids, k.good (lim - 1) = true := (E.goods_iff _ _).1 hg.2
 clear hg
 have har := arityL_spec e.op
 have hov : (e.op = 3 ∨ e.op = 2) → 0 ≤ e.n ∧ e.n < 32 := fun h => by
  have := (Shape_2 (by omega)).1 hsh; omega
 cases pair
 ·refine Does_enter Tryz.func111 rfl Tryz.ntmps111 rfl ?_
  refine gw2 ?_
  refine o_boxa S (by conv => lhs; whnf) rfl ?_
  intro g3 w3 S3 X3 G3
  refine gw4 ?_; refine gw2 ?_
  refine o_load one_3 rfl (by exact S3.cell 0 rfl rfl) rfl ?_
  refine o_eql rfl rfl rfl (fun h10 => ?_) (fun h10 => ?_)
  ·refine gw8 ?_; refine gw4 ?_; refine gw2 ?_
   refine ⟨congrArg Value.bool ?_, S3.fin⟩
   rw [hdef]
   rw [decide_eq_false (by unfold E.OverN; simp; omega)]; rfl
  refine gw8 ?_; refine gw1 ?_
  refine W_draw follows_mixed [0, 1, 2, 3, 4, 5, 6, 7, 8, 9, 10, 11, 12, 13, 14, 15, 16, 17, 18, 19, 20, 21, 22, 23, 24, 25] [] [] (by kernel_rfl) rfl (Cl _ _ _ _) (Cl.start S3) ?_
  refine gq1 ?_
  refine q_load one_3 rfl (fun w1 hw => by exact hw.1.cell 0 rfl rfl) rfl ?_
  refine q_eql rfl rfl rfl (fun h17 => ?_) (fun h17 => ?_)
  ·refine gq8 ?_; refine gq1 ?_
   refine q_load one_3 rfl (fun w1 hw => by exact hw.1.cell 0 rfl rfl) rfl ?_
   refine gq4 ?_; refine gq1 ?_
   refine q_geq rfl rfl rfl (fun h28 => ?_) (fun h28 => ?_)
   ·refine gq8 ?_; refine gq4 ?_; refine gq2 ?_; refine gq1 ?_
    refine BK_of ?_
    refine BKL_nil ?_
    rintro wR3 ⟨SR3, XR3⟩
    refine gw8 ?_
    refine ⟨congrArg Value.bool ?_, SR3.fin⟩
    rw [hdef]
    rw [decide_eq_false (by unfold E.OverN; omega)]; rfl
   refine gq4 ?_; refine gq2 ?_; refine gq1 ?_
   refine q_load one_3 rfl (fun w1 hw => by exact hw.1.cell 0 rfl rfl) rfl ?_
   refine gq1 ?_
   obtain ⟨bc, oc, hAc, hbc, hce⟩ := hcs (by omega)
   obtain ⟨m, hm⟩ := Int.eq_ofNat_of_zero_le (show 0 ≤ e.n by omega)
   have hml : m < cells.length := by omega
   obtain ⟨cl, hcl, hcw', hrc⟩ := hce m cells[m] (List.getElem?_eq_getElem hml)
   have hcw : w0.cell? ⟨bc, oc + e.n.toNat * 6 + 1, none⟩ = some (.int .i64 (wAt cells e.n)) := by
    rw [hm]; have := hcw' 1 (.int .i64 cells[m].w) (by rw [hrc.1]; rfl)
    simpa [wAt, hml] using this
   refine gq4 ?_
   refine q_load one_3 rfl (fun w1 hw => by exact hw.1.old hcw) rfl ?_
   refine gq2 ?_; refine gq1 ?_
   refine q_load one_3 rfl (fun w1 hw => by exact hw.1.cell 0 rfl rfl) rfl ?_
   refine gq1 ?_
   refine q_neq rfl rfl rfl (fun h38 => ?_) (fun h38 => ?_)
   ·refine gq4 ?_
    refine BK_of ?_
    refine BKL_nil ?_
    rintro wR3 ⟨SR3, XR3⟩
    refine gw8 ?_
    refine ⟨congrArg Value.bool ?_, SR3.fin⟩
    rw [hdef]
    rw [decide_eq_false (by unfold E.OverN; omega)]; rfl
   refine gq4 ?_
   refine BK_of ?_
   refine BKL_nil ?_
   rintro wR3 ⟨SR3, XR3⟩
   refine gw8 ?_; refine gw1 ?_
   refine W_loop (fun μ D ε w => D = [] ∧ ∃ k : Nat, (k + μ = e.kids.length) ∧ (∀ (j : Nat) (h : j < e.kids.length), j < k → e.kids[j].over cells false = true) ∧ St [] w0 w [(some g3, 73, [.int .i64 e.op, .int .i64 e.w, .int .i64 e.n, .slice A n c])] ∧ ε 1 = .slice Ac nc cc ∧ ε 2 = .bool false ∧ ε 3 = .pointer (some ⟨g3, 0, none⟩) ∧ ε 7 = .int .i64 k) (μ := e.kids.length) ⟨rfl, 0, by omega, fun j _ h => absurd h (by omega), SR3, rfl, rfl, rfl, rfl⟩ ?_
   rintro μ D ε w ⟨rfl, k, hk, hs, S, e1, e2, e3, e7⟩
   refine W_known 1 e1 (W_known 2 e2 (W_known 3 e3 (W_known 7 e7 ?_)))
   clear e1 e2 e3 e7
   refine gw4 ?_; refine gw1 ?_
   refine o_load one_71 rfl (by exact S.cell 0 rfl rfl) rfl ?_
   refine gw1 ?_
   refine o_lss rfl rfl rfl (fun h45 => ?_) (fun h45 => ?_)
   ·refine gw4 ?_; refine gw2 ?_; refine gw1 ?_
    have hlt : k < e.kids.length := by omega
    obtain ⟨b, o, hA, hbM, hkk⟩ := hks (by omega)
    obtain ⟨ck, hck, hrk⟩ := hkk k hlt
    have hlen : ck.length = 4 := hrk.length
    refine gw1 ?_
    refine o_load one_71 rfl (by exact S.cell 0 rfl rfl) rfl ?_
    refine gw2 ?_
    refine o_loadN many_73 rfl (hck.keep (S.keep0 M) hbM) (by assumption) rfl ?_
    refine gw2 ?_
    refine o_callb S has_111 rfl rfl (ih _ (List.getElem_mem hlt) M _ ck _ cells false _ (RdE.keep (S.keep0 M) _ _ hrk) (hC.keep (S.keep0 M)) (hkg _ (List.getElem_mem hlt))) (fun h55 w55 S55 X55 => ?_) (fun h55 w55 S55 X55 => ?_)
    ·refine gw8 ?_; refine gw1 ?_
     refine ⟨μ - 1, by omega, rfl, k + 1, by omega, fun j hj h => ?_, S55, rfl, rfl, rfl, rfl⟩
     by_cases hjk : j = k
     ·subst hjk; exact h55
     ·exact hs j hj (by omega)
    refine gw8 ?_; refine gw1 ?_
    refine ⟨congrArg Value.bool ?_, S55.fin⟩
    rw [hdef]
    rw [decide_eq_false (by unfold E.OverN; omega)]; rfl
   refine gw8 ?_; refine gw2 ?_
   refine ⟨congrArg Value.bool ?_, S.fin⟩
   rw [hdef]
   rw [(E.overs_iff _ _ _).2 (fun x hx => by obtain ⟨j, hj, rfl⟩ := List.getElem_of_mem hx; exact hs j hj (by omega)), decide_eq_true (by unfold E.OverN; simp; omega)]; rfl
  refine gq4 ?_
  refine q_load one_3 rfl (fun w1 hw => by exact hw.1.cell 0 rfl rfl) rfl ?_
  refine gq1 ?_
  refine q_eql rfl rfl rfl (fun h21 => ?_) (fun h21 => ?_)
  ·refine gq4 ?_; refine gq1 ?_
   refine q_load one_3 rfl (fun w1 hw => by exact hw.1.cell 0 rfl rfl) rfl ?_
   refine gq4 ?_; refine gq1 ?_
   refine q_geq rfl rfl rfl (fun h28 => ?_) (fun h28 => ?_)
   ·refine gq8 ?_; refine gq4 ?_; refine gq2 ?_; refine gq1 ?_
    refine BK_of ?_
    refine BKL_nil ?_
    rintro wR3 ⟨SR3, XR3⟩
    refine gw8 ?_
    refine ⟨congrArg Value.bool ?_, SR3.fin⟩
    rw [hdef]
    rw [decide_eq_false (by unfold E.OverN; omega)]; rfl
   refine gq4 ?_; refine gq2 ?_; refine gq1 ?_
   refine q_load one_3 rfl (fun w1 hw => by exact hw.1.cell 0 rfl rfl) rfl ?_
   refine gq1 ?_
   obtain ⟨bc, oc, hAc, hbc, hce⟩ := hcs (by omega)
   obtain ⟨m, hm⟩ := Int.eq_ofNat_of_zero_le (show 0 ≤ e.n by omega)
   have hml : m < cells.length := by omega
   obtain ⟨cl, hcl, hcw', hrc⟩ := hce m cells[m] (List.getElem?_eq_getElem hml)
   have hcw : w0.cell? ⟨bc, oc + e.n.toNat * 6 + 1, none⟩ = some (.int .i64 (wAt cells e.n)) := by
    rw [hm]; have := hcw' 1 (.int .i64 cells[m].w) (by rw [hrc.1]; rfl)
    simpa [wAt, hml] using this
   refine gq4 ?_
   refine q_load one_3 rfl (fun w1 hw => by exact hw.1.old hcw) rfl ?_
   refine gq2 ?_; refine gq1 ?_
   refine q_load one_3 rfl (fun w1 hw => by exact hw.1.cell 0 rfl rfl) rfl ?_
   refine gq1 ?_
   refine q_neq rfl rfl rfl (fun h38 => ?_) (fun h38 => ?_)
   ·refine gq4 ?_
    refine BK_of ?_
    refine BKL_nil ?_
    rintro wR3 ⟨SR3, XR3⟩
    refine gw8 ?_
    refine ⟨congrArg Value.bool ?_, SR3.fin⟩
    rw [hdef]
    rw [decide_eq_false (by unfold E.OverN; omega)]; rfl
   refine gq4 ?_
   refine BK_of ?_
   refine BKL_nil ?_
   rintro wR3 ⟨SR3, XR3⟩
   refine gw8 ?_; refine gw1 ?_
   refine W_loop (fun μ D ε w => D = [] ∧ ∃ k : Nat, (k + μ = e.kids.length) ∧ (∀ (j : Nat) (h : j < e.kids.length), j < k → e.kids[j].over cells false = true) ∧ St [] w0 w [(some g3, 73, [.int .i64 e.op, .int .i64 e.w, .int .i64 e.n, .slice A n c])] ∧ ε 1 = .slice Ac nc cc ∧ ε 2 = .bool false ∧ ε 3 = .pointer (some ⟨g3, 0, none⟩) ∧ ε 7 = .int .i64 k) (μ := e.kids.length) ⟨rfl, 0, by omega, fun j _ h => absurd h (by omega), SR3, rfl, rfl, rfl, rfl⟩ ?_
   rintro μ D ε w ⟨rfl, k, hk, hs, S, e1, e2, e3, e7⟩
   refine W_known 1 e1 (W_known 2 e2 (W_known 3 e3 (W_known 7 e7 ?_)))
   clear e1 e2 e3 e7
   refine gw4 ?_; refine gw1 ?_
   refine o_load one_71 rfl (by exact S.cell 0 rfl rfl) rfl ?_
   refine gw1 ?_
   refine o_lss rfl rfl rfl (fun h45 => ?_) (fun h45 => ?_)
   ·refine gw4 ?_; refine gw2 ?_; refine gw1 ?_
    have hlt : k < e.kids.length := by omega
    obtain ⟨b, o, hA, hbM, hkk⟩ := hks (by omega)
    obtain ⟨ck, hck, hrk⟩ := hkk k hlt
    have hlen : ck.length = 4 := hrk.length
    refine gw1 ?_
    refine o_load one_71 rfl (by exact S.cell 0 rfl rfl) rfl ?_
    refine gw2 ?_
    refine o_loadN many_73 rfl (hck.keep (S.keep0 M) hbM) (by assumption) rfl ?_
    refine gw2 ?_
    refine o_callb S has_111 rfl rfl (ih _ (List.getElem_mem hlt) M _ ck _ cells false _ (RdE.keep (S.keep0 M) _ _ hrk) (hC.keep (S.keep0 M)) (hkg _ (List.getElem_mem hlt))) (fun h55 w55 S55 X55 => ?_) (fun h55 w55 S55 X55 => ?_)
    ·refine gw8 ?_; refine gw1 ?_
     refine ⟨μ - 1, by omega, rfl, k + 1, by omega, fun j hj h => ?_, S55, rfl, rfl, rfl, rfl⟩
     by_cases hjk : j = k
     ·subst hjk; exact h55
     ·exact hs j hj (by omega)
    refine gw8 ?_; refine gw1 ?_
    refine ⟨congrArg Value.bool ?_, S55.fin⟩
    rw [hdef]
    rw [hfalse _ (List.getElem_mem hlt) h55]; simp; done
   refine gw8 ?_; refine gw2 ?_
   refine ⟨congrArg Value.bool ?_, S.fin⟩
   rw [hdef]
   rw [(E.overs_iff _ _ _).2 (fun x hx => by obtain ⟨j, hj, rfl⟩ := List.getElem_of_mem hx; exact hs j hj (by omega)), decide_eq_true (by unfold E.OverN; simp; omega)]; rfl
  refine gq16 ?_; refine gq4 ?_
  refine BK_of ?_
  refine BKL_nil ?_
  rintro wR3 ⟨SR3, XR3⟩
  refine gw8 ?_; refine gw1 ?_
  refine W_loop (fun μ D ε w => D = [] ∧ ∃ k : Nat, (k + μ = e.kids.length) ∧ (∀ (j : Nat) (h : j < e.kids.length), j < k → e.kids[j].over cells false = true) ∧ St [] w0 w [(some g3, 73, [.int .i64 e.op, .int .i64 e.w, .int .i64 e.n, .slice A n c])] ∧ ε 1 = .slice Ac nc cc ∧ ε 2 = .bool false ∧ ε 3 = .pointer (some ⟨g3, 0, none⟩) ∧ ε 7 = .int .i64 k) (μ := e.kids.length) ⟨rfl, 0, by omega, fun j _ h => absurd h (by omega), SR3, rfl, rfl, rfl, rfl⟩ ?_
  rintro μ D ε w ⟨rfl, k, hk, hs, S, e1, e2, e3, e7⟩
  refine W_known 1 e1 (W_known 2 e2 (W_known 3 e3 (W_known 7 e7 ?_)))
  clear e1 e2 e3 e7
  refine gw4 ?_; refine gw1 ?_
  refine o_load one_71 rfl (by exact S.cell 0 rfl rfl) rfl ?_
  refine gw1 ?_
  refine o_lss rfl rfl rfl (fun h45 => ?_) (fun h45 => ?_)
  ·refine gw4 ?_; refine gw2 ?_; refine gw1 ?_
   have hlt : k < e.kids.length := by omega
   obtain ⟨b, o, hA, hbM, hkk⟩ := hks (by omega)
   obtain ⟨ck, hck, hrk⟩ := hkk k hlt
   have hlen : ck.length = 4 := hrk.length
   refine gw1 ?_
   refine o_load one_71 rfl (by exact S.cell 0 rfl rfl) rfl ?_
   refine gw2 ?_
   refine o_loadN many_73 rfl (hck.keep (S.keep0 M) hbM) (by assumption) rfl ?_
   refine gw2 ?_
   refine o_callb S has_111 rfl rfl (ih _ (List.getElem_mem hlt) M _ ck _ cells false _ (RdE.keep (S.keep0 M) _ _ hrk) (hC.keep (S.keep0 M)) (hkg _ (List.getElem_mem hlt))) (fun h55 w55 S55 X55 => ?_) (fun h55 w55 S55 X55 => ?_)
   ·refine gw8 ?_; refine gw1 ?_
    refine ⟨μ - 1, by omega, rfl, k + 1, by omega, fun j hj h => ?_, S55, rfl, rfl, rfl, rfl⟩
    by_cases hjk : j = k
    ·subst hjk; exact h55
    ·exact hs j hj (by omega)
   refine gw8 ?_; refine gw1 ?_
   refine ⟨congrArg Value.bool ?_, S55.fin⟩
   rw [hdef]
   rw [hfalse _ (List.getElem_mem hlt) h55]; simp; done
  refine gw8 ?_; refine gw2 ?_
  refine ⟨congrArg Value.bool ?_, S.fin⟩
  rw [hdef]
  rw [(E.overs_iff _ _ _).2 (fun x hx => by obtain ⟨j, hj, rfl⟩ := List.getElem_of_mem hx; exact hs j hj (by omega)), decide_eq_true (by unfold E.OverN; simp; omega)]; rfl
 ·refine Does_enter Tryz.func111 rfl Tryz.ntmps111 rfl ?_
  refine gw2 ?_
  refine o_boxa S (by conv => lhs; whnf) rfl ?_
  intro g3 w3 S3 X3 G3
  refine gw4 ?_; refine gw2 ?_
  refine o_load one_3 rfl (by exact S3.cell 0 rfl rfl) rfl ?_
  refine o_eql rfl rfl rfl (fun h10 => ?_) (fun h10 => ?_)
  ·refine gw8 ?_; refine gw2 ?_; refine gw1 ?_
   refine W_draw follows_mixed [0, 1, 2, 3, 4, 5, 6, 7, 8, 9, 10, 11, 12, 13, 14, 15, 16, 17, 18, 19, 20, 21, 22, 23, 24, 25] [] [] (by kernel_rfl) rfl (Cl _ _ _ _) (Cl.start S3) ?_
   refine gq1 ?_
   refine q_load one_3 rfl (fun w1 hw => by exact hw.1.cell 0 rfl rfl) rfl ?_
   refine q_eql rfl rfl rfl (fun h17 => ?_) (fun h17 => ?_)
   ·refine gq8 ?_; refine gq1 ?_
    refine q_load one_3 rfl (fun w1 hw => by exact hw.1.cell 0 rfl rfl) rfl ?_
    refine gq4 ?_; refine gq1 ?_
    refine q_geq rfl rfl rfl (fun h28 => ?_) (fun h28 => ?_)
    ·refine gq8 ?_; refine gq4 ?_; refine gq2 ?_; refine gq1 ?_
     refine BK_of ?_
     refine BKL_nil ?_
     rintro wR3 ⟨SR3, XR3⟩
     refine gw8 ?_
     refine ⟨congrArg Value.bool ?_, SR3.fin⟩
     rw [hdef]
     rw [decide_eq_false (by unfold E.OverN; omega)]; rfl
    refine gq4 ?_; refine gq2 ?_; refine gq1 ?_
    refine q_load one_3 rfl (fun w1 hw => by exact hw.1.cell 0 rfl rfl) rfl ?_
    refine gq1 ?_
    obtain ⟨bc, oc, hAc, hbc, hce⟩ := hcs (by omega)
    obtain ⟨m, hm⟩ := Int.eq_ofNat_of_zero_le (show 0 ≤ e.n by omega)
    have hml : m < cells.length := by omega
    obtain ⟨cl, hcl, hcw', hrc⟩ := hce m cells[m] (List.getElem?_eq_getElem hml)
    have hcw : w0.cell? ⟨bc, oc + e.n.toNat * 6 + 1, none⟩ = some (.int .i64 (wAt cells e.n)) := by
     rw [hm]; have := hcw' 1 (.int .i64 cells[m].w) (by rw [hrc.1]; rfl)
     simpa [wAt, hml] using this
    refine gq4 ?_
    refine q_load one_3 rfl (fun w1 hw => by exact hw.1.old hcw) rfl ?_
    refine gq2 ?_; refine gq1 ?_
    refine q_load one_3 rfl (fun w1 hw => by exact hw.1.cell 0 rfl rfl) rfl ?_
    refine gq1 ?_
    refine q_neq rfl rfl rfl (fun h38 => ?_) (fun h38 => ?_)
    ·refine gq4 ?_
     refine BK_of ?_
     refine BKL_nil ?_
     rintro wR3 ⟨SR3, XR3⟩
     refine gw8 ?_
     refine ⟨congrArg Value.bool ?_, SR3.fin⟩
     rw [hdef]
     rw [decide_eq_false (by unfold E.OverN; omega)]; rfl
    refine gq4 ?_
    refine BK_of ?_
    refine BKL_nil ?_
    rintro wR3 ⟨SR3, XR3⟩
    refine gw8 ?_; refine gw1 ?_
    refine W_loop (fun μ D ε w => D = [] ∧ ∃ k : Nat, (k + μ = e.kids.length) ∧ (∀ (j : Nat) (h : j < e.kids.length), j < k → e.kids[j].over cells true = true) ∧ St [] w0 w [(some g3, 73, [.int .i64 e.op, .int .i64 e.w, .int .i64 e.n, .slice A n c])] ∧ ε 1 = .slice Ac nc cc ∧ ε 2 = .bool true ∧ ε 3 = .pointer (some ⟨g3, 0, none⟩) ∧ ε 7 = .int .i64 k) (μ := e.kids.length) ⟨rfl, 0, by omega, fun j _ h => absurd h (by omega), SR3, rfl, rfl, rfl, rfl⟩ ?_
    rintro μ D ε w ⟨rfl, k, hk, hs, S, e1, e2, e3, e7⟩
    refine W_known 1 e1 (W_known 2 e2 (W_known 3 e3 (W_known 7 e7 ?_)))
    clear e1 e2 e3 e7
    refine gw4 ?_; refine gw1 ?_
    refine o_load one_71 rfl (by exact S.cell 0 rfl rfl) rfl ?_
    refine gw1 ?_
    refine o_lss rfl rfl rfl (fun h45 => ?_) (fun h45 => ?_)
    ·refine gw4 ?_; refine gw2 ?_; refine gw1 ?_
     have hlt : k < e.kids.length := by omega
     obtain ⟨b, o, hA, hbM, hkk⟩ := hks (by omega)
     obtain ⟨ck, hck, hrk⟩ := hkk k hlt
     have hlen : ck.length = 4 := hrk.length
     refine gw1 ?_
     refine o_load one_71 rfl (by exact S.cell 0 rfl rfl) rfl ?_
     refine gw2 ?_
     refine o_loadN many_73 rfl (hck.keep (S.keep0 M) hbM) (by assumption) rfl ?_
     refine gw2 ?_
     refine o_callb S has_111 rfl rfl (ih _ (List.getElem_mem hlt) M _ ck _ cells true _ (RdE.keep (S.keep0 M) _ _ hrk) (hC.keep (S.keep0 M)) (hkg _ (List.getElem_mem hlt))) (fun h55 w55 S55 X55 => ?_) (fun h55 w55 S55 X55 => ?_)
     ·refine gw8 ?_; refine gw1 ?_
      refine ⟨μ - 1, by omega, rfl, k + 1, by omega, fun j hj h => ?_, S55, rfl, rfl, rfl, rfl⟩
      by_cases hjk : j = k
      ·subst hjk; exact h55
      ·exact hs j hj (by omega)
     refine gw8 ?_; refine gw1 ?_
     refine ⟨congrArg Value.bool ?_, S55.fin⟩
     rw [hdef]
     rw [hfalse _ (List.getElem_mem hlt) h55]; simp; done
    refine gw8 ?_; refine gw2 ?_
    refine ⟨congrArg Value.bool ?_, S.fin⟩
    rw [hdef]
    rw [(E.overs_iff _ _ _).2 (fun x hx => by obtain ⟨j, hj, rfl⟩ := List.getElem_of_mem hx; exact hs j hj (by omega)), decide_eq_true (by unfold E.OverN; simp; omega)]; rfl
   refine gq4 ?_
   refine q_load one_3 rfl (fun w1 hw => by exact hw.1.cell 0 rfl rfl) rfl ?_
   refine gq1 ?_
   refine q_eql rfl rfl rfl (fun h21 => ?_) (fun h21 => ?_)
   ·refine gq4 ?_; refine gq1 ?_
    refine q_load one_3 rfl (fun w1 hw => by exact hw.1.cell 0 rfl rfl) rfl ?_
    refine gq4 ?_; refine gq1 ?_
    refine q_geq rfl rfl rfl (fun h28 => ?_) (fun h28 => ?_)
    ·refine gq8 ?_; refine gq4 ?_; refine gq2 ?_; refine gq1 ?_
     refine BK_of ?_
     refine BKL_nil ?_
     rintro wR3 ⟨SR3, XR3⟩
     refine gw8 ?_
     refine ⟨congrArg Value.bool ?_, SR3.fin⟩
     rw [hdef]
     rw [decide_eq_false (by unfold E.OverN; omega)]; rfl
    refine gq4 ?_; refine gq2 ?_; refine gq1 ?_
    refine q_load one_3 rfl (fun w1 hw => by exact hw.1.cell 0 rfl rfl) rfl ?_
    refine gq1 ?_
    obtain ⟨bc, oc, hAc, hbc, hce⟩ := hcs (by omega)
    obtain ⟨m, hm⟩ := Int.eq_ofNat_of_zero_le (show 0 ≤ e.n by omega)
    have hml : m < cells.length := by omega
    obtain ⟨cl, hcl, hcw', hrc⟩ := hce m cells[m] (List.getElem?_eq_getElem hml)
    have hcw : w0.cell? ⟨bc, oc + e.n.toNat * 6 + 1, none⟩ = some (.int .i64 (wAt cells e.n)) := by
     rw [hm]; have := hcw' 1 (.int .i64 cells[m].w) (by rw [hrc.1]; rfl)
     simpa [wAt, hml] using this
    refine gq4 ?_
    refine q_load one_3 rfl (fun w1 hw => by exact hw.1.old hcw) rfl ?_
    refine gq2 ?_; refine gq1 ?_
    refine q_load one_3 rfl (fun w1 hw => by exact hw.1.cell 0 rfl rfl) rfl ?_
    refine gq1 ?_
    refine q_neq rfl rfl rfl (fun h38 => ?_) (fun h38 => ?_)
    ·refine gq4 ?_
     refine BK_of ?_
     refine BKL_nil ?_
     rintro wR3 ⟨SR3, XR3⟩
     refine gw8 ?_
     refine ⟨congrArg Value.bool ?_, SR3.fin⟩
     rw [hdef]
     rw [decide_eq_false (by unfold E.OverN; omega)]; rfl
    refine gq4 ?_
    refine BK_of ?_
    refine BKL_nil ?_
    rintro wR3 ⟨SR3, XR3⟩
    refine gw8 ?_; refine gw1 ?_
    refine W_loop (fun μ D ε w => D = [] ∧ ∃ k : Nat, (k + μ = e.kids.length) ∧ (∀ (j : Nat) (h : j < e.kids.length), j < k → e.kids[j].over cells true = true) ∧ St [] w0 w [(some g3, 73, [.int .i64 e.op, .int .i64 e.w, .int .i64 e.n, .slice A n c])] ∧ ε 1 = .slice Ac nc cc ∧ ε 2 = .bool true ∧ ε 3 = .pointer (some ⟨g3, 0, none⟩) ∧ ε 7 = .int .i64 k) (μ := e.kids.length) ⟨rfl, 0, by omega, fun j _ h => absurd h (by omega), SR3, rfl, rfl, rfl, rfl⟩ ?_
    rintro μ D ε w ⟨rfl, k, hk, hs, S, e1, e2, e3, e7⟩
    refine W_known 1 e1 (W_known 2 e2 (W_known 3 e3 (W_known 7 e7 ?_)))
    clear e1 e2 e3 e7
    refine gw4 ?_; refine gw1 ?_
    refine o_load one_71 rfl (by exact S.cell 0 rfl rfl) rfl ?_
    refine gw1 ?_
    refine o_lss rfl rfl rfl (fun h45 => ?_) (fun h45 => ?_)
    ·refine gw4 ?_; refine gw2 ?_; refine gw1 ?_
     have hlt : k < e.kids.length := by omega
     obtain ⟨b, o, hA, hbM, hkk⟩ := hks (by omega)
     obtain ⟨ck, hck, hrk⟩ := hkk k hlt
     have hlen : ck.length = 4 := hrk.length
     refine gw1 ?_
     refine o_load one_71 rfl (by exact S.cell 0 rfl rfl) rfl ?_
     refine gw2 ?_
     refine o_loadN many_73 rfl (hck.keep (S.keep0 M) hbM) (by assumption) rfl ?_
     refine gw2 ?_
     refine o_callb S has_111 rfl rfl (ih _ (List.getElem_mem hlt) M _ ck _ cells true _ (RdE.keep (S.keep0 M) _ _ hrk) (hC.keep (S.keep0 M)) (hkg _ (List.getElem_mem hlt))) (fun h55 w55 S55 X55 => ?_) (fun h55 w55 S55 X55 => ?_)
     ·refine gw8 ?_; refine gw1 ?_
      refine ⟨μ - 1, by omega, rfl, k + 1, by omega, fun j hj h => ?_, S55, rfl, rfl, rfl, rfl⟩
      by_cases hjk : j = k
      ·subst hjk; exact h55
      ·exact hs j hj (by omega)
     refine gw8 ?_; refine gw1 ?_
     refine ⟨congrArg Value.bool ?_, S55.fin⟩
     rw [hdef]
     rw [decide_eq_false (by unfold E.OverN; omega)]; rfl
    refine gw8 ?_; refine gw2 ?_
    refine ⟨congrArg Value.bool ?_, S.fin⟩
    rw [hdef]
    rw [(E.overs_iff _ _ _).2 (fun x hx => by obtain ⟨j, hj, rfl⟩ := List.getElem_of_mem hx; exact hs j hj (by omega)), decide_eq_true (by unfold E.OverN; simp; omega)]; rfl
   refine gq16 ?_; refine gq4 ?_
   refine BK_of ?_
   refine BKL_nil ?_
   rintro wR3 ⟨SR3, XR3⟩
   refine gw8 ?_; refine gw1 ?_
   refine W_loop (fun μ D ε w => D = [] ∧ ∃ k : Nat, (k + μ = e.kids.length) ∧ (∀ (j : Nat) (h : j < e.kids.length), j < k → e.kids[j].over cells true = true) ∧ St [] w0 w [(some g3, 73, [.int .i64 e.op, .int .i64 e.w, .int .i64 e.n, .slice A n c])] ∧ ε 1 = .slice Ac nc cc ∧ ε 2 = .bool true ∧ ε 3 = .pointer (some ⟨g3, 0, none⟩) ∧ ε 7 = .int .i64 k) (μ := e.kids.length) ⟨rfl, 0, by omega, fun j _ h => absurd h (by omega), SR3, rfl, rfl, rfl, rfl⟩ ?_
   rintro μ D ε w ⟨rfl, k, hk, hs, S, e1, e2, e3, e7⟩
   refine W_known 1 e1 (W_known 2 e2 (W_known 3 e3 (W_known 7 e7 ?_)))
   clear e1 e2 e3 e7
   refine gw4 ?_; refine gw1 ?_
   refine o_load one_71 rfl (by exact S.cell 0 rfl rfl) rfl ?_
   refine gw1 ?_
   refine o_lss rfl rfl rfl (fun h45 => ?_) (fun h45 => ?_)
   ·refine gw4 ?_; refine gw2 ?_; refine gw1 ?_
    have hlt : k < e.kids.length := by omega
    obtain ⟨b, o, hA, hbM, hkk⟩ := hks (by omega)
    obtain ⟨ck, hck, hrk⟩ := hkk k hlt
    have hlen : ck.length = 4 := hrk.length
    refine gw1 ?_
    refine o_load one_71 rfl (by exact S.cell 0 rfl rfl) rfl ?_
    refine gw2 ?_
    refine o_loadN many_73 rfl (hck.keep (S.keep0 M) hbM) (by assumption) rfl ?_
    refine gw2 ?_
    refine o_callb S has_111 rfl rfl (ih _ (List.getElem_mem hlt) M _ ck _ cells true _ (RdE.keep (S.keep0 M) _ _ hrk) (hC.keep (S.keep0 M)) (hkg _ (List.getElem_mem hlt))) (fun h55 w55 S55 X55 => ?_) (fun h55 w55 S55 X55 => ?_)
    ·refine gw8 ?_; refine gw1 ?_
     refine ⟨μ - 1, by omega, rfl, k + 1, by omega, fun j hj h => ?_, S55, rfl, rfl, rfl, rfl⟩
     by_cases hjk : j = k
     ·subst hjk; exact h55
     ·exact hs j hj (by omega)
    refine gw8 ?_; refine gw1 ?_
    refine ⟨congrArg Value.bool ?_, S55.fin⟩
    rw [hdef]
    rw [decide_eq_false (by unfold E.OverN; omega)]; rfl
   refine gw8 ?_; refine gw2 ?_
   refine ⟨congrArg Value.bool ?_, S.fin⟩
   rw [hdef]
   rw [(E.overs_iff _ _ _).2 (fun x hx => by obtain ⟨j, hj, rfl⟩ := List.getElem_of_mem hx; exact hs j hj (by omega)), decide_eq_true (by unfold E.OverN; simp; omega)]; rfl
  refine gw8 ?_; refine gw1 ?_
  refine W_draw follows_mixed [0, 1, 2, 3, 4, 5, 6, 7, 8, 9, 10, 11, 12, 13, 14, 15, 16, 17, 18, 19, 20, 21, 22, 23, 24, 25] [] [] (by kernel_rfl) rfl (Cl _ _ _ _) (Cl.start S3) ?_
  refine gq1 ?_
  refine q_load one_3 rfl (fun w1 hw => by exact hw.1.cell 0 rfl rfl) rfl ?_
  refine q_eql rfl rfl rfl (fun h17 => ?_) (fun h17 => ?_)
  ·refine gq8 ?_; refine gq1 ?_
   refine q_load one_3 rfl (fun w1 hw => by exact hw.1.cell 0 rfl rfl) rfl ?_
   refine gq4 ?_; refine gq1 ?_
   refine q_geq rfl rfl rfl (fun h28 => ?_) (fun h28 => ?_)
   ·refine gq8 ?_; refine gq4 ?_; refine gq2 ?_; refine gq1 ?_
    refine BK_of ?_
    refine BKL_nil ?_
    rintro wR3 ⟨SR3, XR3⟩
    refine gw8 ?_
    refine ⟨congrArg Value.bool ?_, SR3.fin⟩
    rw [hdef]
    rw [decide_eq_false (by unfold E.OverN; omega)]; rfl
   refine gq4 ?_; refine gq2 ?_; refine gq1 ?_
   refine q_load one_3 rfl (fun w1 hw => by exact hw.1.cell 0 rfl rfl) rfl ?_
   refine gq1 ?_
   obtain ⟨bc, oc, hAc, hbc, hce⟩ := hcs (by omega)
   obtain ⟨m, hm⟩ := Int.eq_ofNat_of_zero_le (show 0 ≤ e.n by omega)
   have hml : m < cells.length := by omega
   obtain ⟨cl, hcl, hcw', hrc⟩ := hce m cells[m] (List.getElem?_eq_getElem hml)
   have hcw : w0.cell? ⟨bc, oc + e.n.toNat * 6 + 1, none⟩ = some (.int .i64 (wAt cells e.n)) := by
    rw [hm]; have := hcw' 1 (.int .i64 cells[m].w) (by rw [hrc.1]; rfl)
    simpa [wAt, hml] using this
   refine gq4 ?_
   refine q_load one_3 rfl (fun w1 hw => by exact hw.1.old hcw) rfl ?_
   refine gq2 ?_; refine gq1 ?_
   refine q_load one_3 rfl (fun w1 hw => by exact hw.1.cell 0 rfl rfl) rfl ?_
   refine gq1 ?_
   refine q_neq rfl rfl rfl (fun h38 => ?_) (fun h38 => ?_)
   ·refine gq4 ?_
    refine BK_of ?_
    refine BKL_nil ?_
    rintro wR3 ⟨SR3, XR3⟩
    refine gw8 ?_
    refine ⟨congrArg Value.bool ?_, SR3.fin⟩
    rw [hdef]
    rw [decide_eq_false (by unfold E.OverN; omega)]; rfl
   refine gq4 ?_
   refine BK_of ?_
   refine BKL_nil ?_
   rintro wR3 ⟨SR3, XR3⟩
   refine gw8 ?_; refine gw1 ?_
   refine W_loop (fun μ D ε w => D = [] ∧ ∃ k : Nat, (k + μ = e.kids.length) ∧ (∀ (j : Nat) (h : j < e.kids.length), j < k → e.kids[j].over cells true = true) ∧ St [] w0 w [(some g3, 73, [.int .i64 e.op, .int .i64 e.w, .int .i64 e.n, .slice A n c])] ∧ ε 1 = .slice Ac nc cc ∧ ε 2 = .bool true ∧ ε 3 = .pointer (some ⟨g3, 0, none⟩) ∧ ε 7 = .int .i64 k) (μ := e.kids.length) ⟨rfl, 0, by omega, fun j _ h => absurd h (by omega), SR3, rfl, rfl, rfl, rfl⟩ ?_
   rintro μ D ε w ⟨rfl, k, hk, hs, S, e1, e2, e3, e7⟩
   refine W_known 1 e1 (W_known 2 e2 (W_known 3 e3 (W_known 7 e7 ?_)))
   clear e1 e2 e3 e7
   refine gw4 ?_; refine gw1 ?_
   refine o_load one_71 rfl (by exact S.cell 0 rfl rfl) rfl ?_
   refine gw1 ?_
   refine o_lss rfl rfl rfl (fun h45 => ?_) (fun h45 => ?_)
   ·refine gw4 ?_; refine gw2 ?_; refine gw1 ?_
    have hlt : k < e.kids.length := by omega
    obtain ⟨b, o, hA, hbM, hkk⟩ := hks (by omega)
    obtain ⟨ck, hck, hrk⟩ := hkk k hlt
    have hlen : ck.length = 4 := hrk.length
    refine gw1 ?_
    refine o_load one_71 rfl (by exact S.cell 0 rfl rfl) rfl ?_
    refine gw2 ?_
    refine o_loadN many_73 rfl (hck.keep (S.keep0 M) hbM) (by assumption) rfl ?_
    refine gw2 ?_
    refine o_callb S has_111 rfl rfl (ih _ (List.getElem_mem hlt) M _ ck _ cells true _ (RdE.keep (S.keep0 M) _ _ hrk) (hC.keep (S.keep0 M)) (hkg _ (List.getElem_mem hlt))) (fun h55 w55 S55 X55 => ?_) (fun h55 w55 S55 X55 => ?_)
    ·refine gw8 ?_; refine gw1 ?_
     refine ⟨μ - 1, by omega, rfl, k + 1, by omega, fun j hj h => ?_, S55, rfl, rfl, rfl, rfl⟩
     by_cases hjk : j = k
     ·subst hjk; exact h55
     ·exact hs j hj (by omega)
    refine gw8 ?_; refine gw1 ?_
    refine ⟨congrArg Value.bool ?_, S55.fin⟩
    rw [hdef]
    rw [decide_eq_false (by unfold E.OverN; omega)]; rfl
   refine gw8 ?_; refine gw2 ?_
   refine ⟨congrArg Value.bool ?_, S.fin⟩
   rw [hdef]
   rw [(E.overs_iff _ _ _).2 (fun x hx => by obtain ⟨j, hj, rfl⟩ := List.getElem_of_mem hx; exact hs j hj (by omega)), decide_eq_true (by unfold E.OverN; simp; omega)]; rfl
  refine gq4 ?_
  refine q_load one_3 rfl (fun w1 hw => by exact hw.1.cell 0 rfl rfl) rfl ?_
  refine gq1 ?_
  refine q_eql rfl rfl rfl (fun h21 => ?_) (fun h21 => ?_)
  ·refine gq4 ?_; refine gq1 ?_
   refine q_load one_3 rfl (fun w1 hw => by exact hw.1.cell 0 rfl rfl) rfl ?_
   refine gq4 ?_; refine gq1 ?_
   refine q_geq rfl rfl rfl (fun h28 => ?_) (fun h28 => ?_)
   ·refine gq8 ?_; refine gq4 ?_; refine gq2 ?_; refine gq1 ?_
    refine BK_of ?_
    refine BKL_nil ?_
    rintro wR3 ⟨SR3, XR3⟩
    refine gw8 ?_
    refine ⟨congrArg Value.bool ?_, SR3.fin⟩
    rw [hdef]
    rw [decide_eq_false (by unfold E.OverN; omega)]; rfl
   refine gq4 ?_; refine gq2 ?_; refine gq1 ?_
   refine q_load one_3 rfl (fun w1 hw => by exact hw.1.cell 0 rfl rfl) rfl ?_
   refine gq1 ?_
   obtain ⟨bc, oc, hAc, hbc, hce⟩ := hcs (by omega)
   obtain ⟨m, hm⟩ := Int.eq_ofNat_of_zero_le (show 0 ≤ e.n by omega)
   have hml : m < cells.length := by omega
   obtain ⟨cl, hcl, hcw', hrc⟩ := hce m cells[m] (List.getElem?_eq_getElem hml)
   have hcw : w0.cell? ⟨bc, oc + e.n.toNat * 6 + 1, none⟩ = some (.int .i64 (wAt cells e.n)) := by
    rw [hm]; have := hcw' 1 (.int .i64 cells[m].w) (by rw [hrc.1]; rfl)
    simpa [wAt, hml] using this
   refine gq4 ?_
   refine q_load one_3 rfl (fun w1 hw => by exact hw.1.old hcw) rfl ?_
   refine gq2 ?_; refine gq1 ?_
   refine q_load one_3 rfl (fun w1 hw => by exact hw.1.cell 0 rfl rfl) rfl ?_
   refine gq1 ?_
   refine q_neq rfl rfl rfl (fun h38 => ?_) (fun h38 => ?_)
   ·refine gq4 ?_
    refine BK_of ?_
    refine BKL_nil ?_
    rintro wR3 ⟨SR3, XR3⟩
    refine gw8 ?_
    refine ⟨congrArg Value.bool ?_, SR3.fin⟩
    rw [hdef]
    rw [decide_eq_false (by unfold E.OverN; omega)]; rfl
   refine gq4 ?_
   refine BK_of ?_
   refine BKL_nil ?_
   rintro wR3 ⟨SR3, XR3⟩
   refine gw8 ?_; refine gw1 ?_
   refine W_loop (fun μ D ε w => D = [] ∧ ∃ k : Nat, (k + μ = e.kids.length) ∧ (∀ (j : Nat) (h : j < e.kids.length), j < k → e.kids[j].over cells true = true) ∧ St [] w0 w [(some g3, 73, [.int .i64 e.op, .int .i64 e.w, .int .i64 e.n, .slice A n c])] ∧ ε 1 = .slice Ac nc cc ∧ ε 2 = .bool true ∧ ε 3 = .pointer (some ⟨g3, 0, none⟩) ∧ ε 7 = .int .i64 k) (μ := e.kids.length) ⟨rfl, 0, by omega, fun j _ h => absurd h (by omega), SR3, rfl, rfl, rfl, rfl⟩ ?_
   rintro μ D ε w ⟨rfl, k, hk, hs, S, e1, e2, e3, e7⟩
   refine W_known 1 e1 (W_known 2 e2 (W_known 3 e3 (W_known 7 e7 ?_)))
   clear e1 e2 e3 e7
   refine gw4 ?_; refine gw1 ?_
   refine o_load one_71 rfl (by exact S.cell 0 rfl rfl) rfl ?_
   refine gw1 ?_
   refine o_lss rfl rfl rfl (fun h45 => ?_) (fun h45 => ?_)
   ·refine gw4 ?_; refine gw2 ?_; refine gw1 ?_
    have hlt : k < e.kids.length := by omega
    obtain ⟨b, o, hA, hbM, hkk⟩ := hks (by omega)
    obtain ⟨ck, hck, hrk⟩ := hkk k hlt
    have hlen : ck.length = 4 := hrk.length
    refine gw1 ?_
    refine o_load one_71 rfl (by exact S.cell 0 rfl rfl) rfl ?_
    refine gw2 ?_
    refine o_loadN many_73 rfl (hck.keep (S.keep0 M) hbM) (by assumption) rfl ?_
    refine gw2 ?_
    refine o_callb S has_111 rfl rfl (ih _ (List.getElem_mem hlt) M _ ck _ cells true _ (RdE.keep (S.keep0 M) _ _ hrk) (hC.keep (S.keep0 M)) (hkg _ (List.getElem_mem hlt))) (fun h55 w55 S55 X55 => ?_) (fun h55 w55 S55 X55 => ?_)
    ·refine gw8 ?_; refine gw1 ?_
     refine ⟨μ - 1, by omega, rfl, k + 1, by omega, fun j hj h => ?_, S55, rfl, rfl, rfl, rfl⟩
     by_cases hjk : j = k
     ·subst hjk; exact h55
     ·exact hs j hj (by omega)
    refine gw8 ?_; refine gw1 ?_
    refine ⟨congrArg Value.bool ?_, S55.fin⟩
    rw [hdef]
    rw [hfalse _ (List.getElem_mem hlt) h55]; simp; done
   refine gw8 ?_; refine gw2 ?_
   refine ⟨congrArg Value.bool ?_, S.fin⟩
   rw [hdef]
   rw [(E.overs_iff _ _ _).2 (fun x hx => by obtain ⟨j, hj, rfl⟩ := List.getElem_of_mem hx; exact hs j hj (by omega)), decide_eq_true (by unfold E.OverN; simp; omega)]; rfl
  refine gq16 ?_; refine gq4 ?_
  refine BK_of ?_
  refine BKL_nil ?_
  rintro wR3 ⟨SR3, XR3⟩
  refine gw8 ?_; refine gw1 ?_
  refine W_loop (fun μ D ε w => D = [] ∧ ∃ k : Nat, (k + μ = e.kids.length) ∧ (∀ (j : Nat) (h : j < e.kids.length), j < k → e.kids[j].over cells true = true) ∧ St [] w0 w [(some g3, 73, [.int .i64 e.op, .int .i64 e.w, .int .i64 e.n, .slice A n c])] ∧ ε 1 = .slice Ac nc cc ∧ ε 2 = .bool true ∧ ε 3 = .pointer (some ⟨g3, 0, none⟩) ∧ ε 7 = .int .i64 k) (μ := e.kids.length) ⟨rfl, 0, by omega, fun j _ h => absurd h (by omega), SR3, rfl, rfl, rfl, rfl⟩ ?_
  rintro μ D ε w ⟨rfl, k, hk, hs, S, e1, e2, e3, e7⟩
  refine W_known 1 e1 (W_known 2 e2 (W_known 3 e3 (W_known 7 e7 ?_)))
  clear e1 e2 e3 e7
  refine gw4 ?_; refine gw1 ?_
  refine o_load one_71 rfl (by exact S.cell 0 rfl rfl) rfl ?_
  refine gw1 ?_
  refine o_lss rfl rfl rfl (fun h45 => ?_) (fun h45 => ?_)
  ·refine gw4 ?_; refine gw2 ?_; refine gw1 ?_
   have hlt : k < e.kids.length := by omega
   obtain ⟨b, o, hA, hbM, hkk⟩ := hks (by omega)
   obtain ⟨ck, hck, hrk⟩ := hkk k hlt
   have hlen : ck.length = 4 := hrk.length
   refine gw1 ?_
   refine o_load one_71 rfl (by exact S.cell 0 rfl rfl) rfl ?_
   refine gw2 ?_
   refine o_loadN many_73 rfl (hck.keep (S.keep0 M) hbM) (by assumption) rfl ?_
   refine gw2 ?_
   refine o_callb S has_111 rfl rfl (ih _ (List.getElem_mem hlt) M _ ck _ cells true _ (RdE.keep (S.keep0 M) _ _ hrk) (hC.keep (S.keep0 M)) (hkg _ (List.getElem_mem hlt))) (fun h55 w55 S55 X55 => ?_) (fun h55 w55 S55 X55 => ?_)
   ·refine gw8 ?_; refine gw1 ?_
    refine ⟨μ - 1, by omega, rfl, k + 1, by omega, fun j hj h => ?_, S55, rfl, rfl, rfl, rfl⟩
    by_cases hjk : j = k
    ·subst hjk; exact h55
    ·exact hs j hj (by omega)
   refine gw8 ?_; refine gw1 ?_
   refine ⟨congrArg Value.bool ?_, S55.fin⟩
   rw [hdef]
   rw [hfalse _ (List.getElem_mem hlt) h55]; simp; done
  refine gw8 ?_; refine gw2 ?_
  refine ⟨congrArg Value.bool ?_, S.fin⟩
  rw [hdef]
  rw [(E.overs_iff _ _ _).2 (fun x hx => by obtain ⟨j, hj, rfl⟩ := List.getElem_of_mem hx; exact hs j hj (by omega)), decide_eq_true (by unfold E.OverN; simp; omega)]; rfl
end Go.Proofs.YtgnbfmifjlnigaaGreatDoor
namespace Go.Fw
open Go.RowKit
def RBool (cs : List Value) (x : Bool) : Prop := cs = [.bool x]
abbrev RdB (M : List Nat) (w : World) (v : Value) (l : List Bool) : Prop := RdS M w 1 RBool v l
def markedTo (bs : List Bool) (k : Nat) : List Int := ((List.range k).filter fun i => bs.getD i false).map fun (i : Nat) => (i : Int)
def markedL (bs : List Bool) : List Int := markedTo bs bs.length
theorem markedTo_succ (bs : List Bool) (k : Nat) : markedTo bs (k + 1) = markedTo bs k ++ (if bs.getD k false = true then [(k : Int)] else []) := by
 unfold markedTo
 rw [List.range_succ, List.filter_append, List.map_append]
 congr 1
 rw [List.filter_cons]
 split <;> rfl
theorem markedTo_len (bs : List Bool) (k : Nat) : (markedTo bs k).length ≤ k := by
 unfold markedTo
 rw [List.length_map]
 exact Nat.le_trans (List.length_filter_le _ _) (by simp)
theorem markedTo_mem (bs : List Bool) (k : Nat) (x : Int) : x ∈ markedTo bs k ↔ ∃ i : Nat, x = i ∧ i < k ∧ bs.getD i false = true := by
 unfold markedTo
 simp only [List.mem_map, List.mem_filter, List.mem_range]
 constructor
 ·rintro ⟨i, ⟨h1, h2⟩, rfl⟩; exact ⟨i, rfl, h1, h2⟩
 ·rintro ⟨i, rfl, h1, h2⟩; exact ⟨i, ⟨h1, h2⟩, rfl⟩
mutual
def E.mark (op : Int) : E → List Bool → List Bool
 | ⟨o, _, n, ks⟩, bs => E.markAll op ks (if o = op then bs.set n.toNat true else bs)
def E.markAll (op : Int) : List E → List Bool → List Bool
 | [], bs => bs
 | k :: ks, bs => E.markAll op ks (E.mark op k bs)
end
theorem E.mark_def (op : Int) (e : E) (bs : List Bool) : e.mark op bs = E.markAll op e.kids (if e.op = op then bs.set e.n.toNat true else bs) := by cases e; simp only [E.mark]
theorem E.mark_len (op : Int) : ∀ (e : E) (bs : List Bool), (e.mark op bs).length = bs.length := by
 intro e
 induction e using E.induct with
 | _ e ih =>
   intro bs
   have key : ∀ (ks : List E), (∀ k ∈ ks, ∀ bs : List Bool, (k.mark op bs).length = bs.length) → ∀ bs : List Bool, (E.markAll op ks bs).length = bs.length := by
    intro ks
    induction ks with
    | nil => intro _ bs; simp only [E.markAll]
    | cons k ks ih2 => intro h bs; simp only [E.markAll]; rw [ih2 (fun k' hk' => h k' (by simp [hk'])), h k (by simp)]
   rw [E.mark_def, key _ ih]
   split <;> simp
def E.sup (op : Int) (e : E) : List Int := if e.wf then markedL (e.mark op (List.replicate 32 false)) else []
end Go.Fw
namespace Go.Proofs.YtgnbfmifjlnigaaGreatDoor
open Go.Fw Go.RowKit
theorem valid_fn (e : E) (M : List Nat) (w0 : World) (cs : List Value) (vc : Value) (cells : List CellD) (pair : Bool) (hR : RdE M w0 e cs) (hC : RdCs M w0 vc cells) :
 Does Tryz.prog 83 #[.agg cs.toArray, vc, .bool pair] w0 fun v w' => v = .bool (e.valid cells pair) ∧ Below w0.heap.size w0 w' := by
 obtain ⟨_, _, _, rfl, _, _, _, _, _, _, _, _⟩ := hR.open_
 obtain ⟨_, _, _, rfl⟩ := hC.form
 have S := St.refl w0
 refine Does_enter Tryz.func83 rfl Tryz.ntmps83 rfl ?_
 refine gw2 ?_
 refine o_boxa S (by conv => lhs; whnf) rfl ?_
 intro g3 w3 S3 X3 G3
 refine gw4 ?_
 first | refine o_loadN many_73 rfl (S3.cells 0 rfl) rfl rfl ?_
 refine o_callb S3 has_110 rfl rfl (formed_fn _ M _ _ (RdE.keep (S3.keep0 M) _ _ hR)) (fun h8 w8 S8 X8 => ?_) (fun h8 w8 S8 X8 => ?_)
 ·refine gw2 ?_
  first | refine o_loadN many_73 rfl (S8.cells 0 rfl) rfl rfl ?_
  refine gw4 ?_; refine gw1 ?_
  refine o_callb S8 has_111 rfl rfl (over_fn _ M _ _ _ cells pair 40 (RdE.keep (S8.keep0 M) _ _ hR) (hC.keep (S8.keep0 M)) (by unfold E.wf at h8; simp only [Bool.and_eq_true] at h8; exact h8.2)) (fun h13 w13 S13 X13 => ?_) (fun h13 w13 S13 X13 => ?_)
  ·refine gw4 ?_; refine gw1 ?_
   refine ⟨congrArg Value.bool ?_, S13.fin⟩
   unfold E.valid
   simp [h8, h13]; done
  refine gw4 ?_; refine gw1 ?_
  refine ⟨congrArg Value.bool ?_, S13.fin⟩
  unfold E.valid
  simp [h8, h13]; done
 refine gw8 ?_; refine gw2 ?_
 refine ⟨congrArg Value.bool ?_, S8.fin⟩
 unfold E.valid
 simp [h8]; done
theorem marked_fn (M : List Nat) (w0 : World) (v : Value) (bs : List Bool) (hR : RdB M w0 v bs) (hM : ∀ g ∈ M, g < w0.heap.size) (hlen : bs.length ≤ 1000) :
 Does Tryz.prog 138 #[v] w0 fun v' w' => RdI M w' v' (markedL bs) ∧ Below w0.heap.size w0 w' := by
 obtain ⟨Ab, nb, cb, rfl⟩ := hR.form
 obtain ⟨_, _, _, _, hel⟩ := hR.at
 have S := (St.refl w0).nilEnt 3
 refine Does_enter Tryz.func138 rfl Tryz.ntmps138 rfl ?_
 refine gw8 ?_; refine gw4 ?_; refine gw2 ?_
 refine W_loop (fun μ D ε w => D = [] ∧ ∃ k : Nat, ∃ G : Option Nat, ∃ cs : List Value, ∃ v : Value, (k + μ = bs.length) ∧ (RowV G 1 (markedTo bs k).length cs v ((markedTo bs k).map (Value.int .i64))) ∧ St [] w0 w [(G, 3, cs)] ∧ ε 0 = .slice Ab nb cb ∧ ε 3 = v ∧ ε 4 = .int .i64 k) (μ := bs.length) ⟨rfl, 0, none, [], _, by omega, RowV.nil 1, S, rfl, rfl, rfl⟩ ?_
 rintro μ D ε w ⟨rfl, k, G, cs, v, _, hrow, S, e0, e3, e4⟩
 refine W_known 0 e0 (W_known 3 e3 (W_known 4 e4 ?_))
 clear e0 e3 e4
 refine gw4 ?_; refine gw2 ?_
 refine o_lss rfl rfl rfl (fun h8 => ?_) (fun h8 => ?_)
 ·refine gw4 ?_; refine gw2 ?_; refine gw1 ?_
  have hlt : k < bs.length := by omega
  obtain ⟨b, o, _, _, hee⟩ := hel (by omega)
  obtain ⟨_, _, hck2, hck3⟩ := hee k bs[k] (List.getElem?_eq_getElem hlt)
  have hcb : w0.cell? ⟨b, o + k * 1, none⟩ = some (.bool bs[k]) := hck2 0 _ (by rw [hck3]; rfl)
  have hgd : bs.getD k false = bs[k] := by simp [hlt]
  have hml := markedTo_len bs k
  refine gw2 ?_; refine gw1 ?_
  cases hb14 : bs[k]
  ·refine o_load one_4 rfl (by exact (S.old (hcb.trans (by rw [hb14]))).trans (congrArg (fun b => some (Value.bool b)) hb14)) rfl ?_
   refine gw8 ?_
   refine ⟨μ - 1, by omega, rfl, k + 1, G, cs, v, by omega, ?_, S, rfl, rfl, rfl⟩
   rw [markedTo_succ, hgd, hb14]; simpa using hrow
  refine o_load one_4 rfl (by exact (S.old (hcb.trans (by rw [hb14]))).trans (congrArg (fun b => some (Value.bool b)) hb14)) rfl ?_
  refine gw4 ?_; refine gw1 ?_
  refine o_buildSlice S slz_43 (vs := [.int .i64 _]) (cs := [_]) (by rfl) rfl rfl rfl rfl rfl rfl ?_
  intro g17 w17 S17 X17 G17
  refine o_append (k := 1) S17 slz_43 rfl hrow rfl rfl (S17.cells 0 rfl) rfl (by simp [Value.oneCell']) (by omega) (by omega) rfl ?_
  intro v18 G18 cs18 w18 S18' hrow18 X18
  have S18 := S18'.tail
  refine gw4 ?_; refine gw2 ?_; refine gw1 ?_
  refine ⟨μ - 1, by omega, rfl, k + 1, G18, cs18, v18, by omega, ?_, S18, rfl, rfl, rfl⟩
  rw [markedTo_succ, hgd, hb14]; simpa using hrow18
 refine gw8 ?_; refine gw2 ?_; refine gw1 ?_
 obtain rfl : k = bs.length := by omega
 refine ⟨hrow.rdI (k := 0) S rfl hM (fun x hx => ?_) ?_, S.nil.fin⟩
 ·obtain ⟨_, rfl, _, _⟩ := (markedTo_mem _ _ _).1 hx; unfold i64; omega
 ·have := markedTo_len bs bs.length; omega
theorem marks_fn : ∀ (e : E) (M : List Nat) (w0 : World) (cs : List Value) (g1 g2 : Nat) (bs1 bs2 : List Bool) (lim : Int), RdE M w0 e cs → e.good lim = true → g1 ∈ M → g2 ∈ M → g1 ≠ g2 → bs1.length = 32 → bs2.length = 32 →
 hasBlk w0 (g1, 4, bs1.map Value.bool) → hasBlk w0 (g2, 4, bs2.map Value.bool) →
 Does Tryz.prog 137 #[.agg cs.toArray, .slice (some ⟨g1, 0, none⟩) 32 32, .slice (some ⟨g2, 0, none⟩) 32 32] w0 fun _ w' =>
  BelowB [g1, g2] w0 w' ∧ hasBlk w' (g1, 4, (e.mark 3 bs1).map Value.bool) ∧ hasBlk w' (g2, 4, (e.mark 2 bs2).map Value.bool) := by
 intro e
 induction e using E.induct with
 | _ e ih =>
 intro M w0 cs g1 g2 bs1 bs2 lim hR hg hM1 hM2 hne hl1 hl2 hb1 hb2
 obtain ⟨A, n, c, rfl, _, _, _, _, _, _, _, hks⟩ := hR.open_
 have S := St.borrow2 hb1 hb2 hne
 rw [E.good_def] at hg
 simp only [Bool.and_eq_true] at hg
 have hsh : e.Shape := of_decide_eq_true hg.1.2
 have hkg : ∀ k ∈ e.kids, k.good (lim - 1) = true := (E.goods_iff _ _).1 hg.2
 clear hg
 have hov : (e.op = 3 ∨ e.op = 2) → 0 ≤ e.n ∧ e.n < 32 := fun h => by
  have := (Shape_2 (by omega)).1 hsh; omega
 rw [E.mark_def, E.mark_def]
 have hsub : ∀ g ∈ [g1, g2], g ∈ M := fun g hg => by simp at hg; rcases hg with rfl | rfl <;> assumption
 refine Does_enter Tryz.func137 rfl Tryz.ntmps137 rfl ?_
 refine gw2 ?_
 refine o_boxa S (by conv => lhs; whnf) rfl ?_
 intro g3 w3 S3 X3 G3
 refine gw4 ?_; refine gw1 ?_
 refine o_load one_3 rfl (by exact S3.cell 0 rfl rfl) rfl ?_
 refine o_eql rfl rfl rfl (fun h9 => ?_) (fun h9 => ?_)
 ·refine gw4 ?_; refine gw1 ?_
  refine o_load one_3 rfl (by exact S3.cell 0 rfl rfl) rfl ?_
  refine gw1 ?_
  refine o_store (kk := 1) S3 sz_4 rfl (by conv => lhs; whnf) rfl rfl (by (simp; omega)) ?_
  intro w2_4 S2_4 X2_4
  refine gw1 ?_
  refine W_cut (fun D ε w => D = [] ∧ St [g1, g2] w0 w [(some g3, 73, [.int .i64 e.op, .int .i64 e.w, .int .i64 e.n, .slice A n c]), (some g1, 4, (if e.op = 3 then bs1.set e.n.toNat true else bs1).map Value.bool), (some g2, 4, (if e.op = 2 then bs2.set e.n.toNat true else bs2).map Value.bool)] ∧ ε 1 = .slice (some ⟨g1, 0, none⟩) 32 32 ∧ ε 2 = .slice (some ⟨g2, 0, none⟩) 32 32 ∧ ε 3 = .pointer (some ⟨g3, 0, none⟩)) ?_ ?_
  ·refine gw2 ?_; refine gw1 ?_
   refine o_load one_3 rfl (by exact S2_4.cell 0 rfl rfl) rfl ?_
   refine o_eql rfl rfl rfl (fun h16 => ?_) (fun h16 => ?_)
   ·refine gw4 ?_; refine gw1 ?_
    refine o_load one_3 rfl (by exact S2_4.cell 0 rfl rfl) rfl ?_
    refine gw1 ?_
    refine o_store (kk := 2) S2_4 sz_4 rfl (by conv => lhs; whnf) rfl rfl (by (simp; omega)) ?_
    intro w4_4 S4_4 X4_4
    refine gw1 ?_
    exfalso; omega
   refine gw2 ?_; refine gw1 ?_
   exact ⟨rfl, by simpa [h9, h16, List.map_set] using S2_4, rfl, rfl, rfl⟩
  rintro D ε w ⟨rfl, S, e1, e2, e3⟩
  refine W_known 1 e1 (W_known 2 e2 (W_known 3 e3 ?_))
  clear e1 e2 e3
  have hl1' : (if e.op = 3 then bs1.set e.n.toNat true else bs1).length = 32 := by split <;> simp [hl1]
  have hl2' : (if e.op = 2 then bs2.set e.n.toNat true else bs2).length = 32 := by split <;> simp [hl2]
  generalize (if e.op = 3 then bs1.set e.n.toNat true else bs1) = a1 at *
  generalize (if e.op = 2 then bs2.set e.n.toNat true else bs2) = a2 at *
  refine gw4 ?_; refine gw1 ?_
  refine W_loop (fun μ D ε w => D = [] ∧ ∃ k : Nat, ∃ m1 : List Bool, ∃ m2 : List Bool, (k + μ = e.kids.length) ∧ (E.markAll 3 (e.kids.drop k) m1 = E.markAll 3 e.kids a1) ∧ (E.markAll 2 (e.kids.drop k) m2 = E.markAll 2 e.kids a2) ∧ (m1.length = 32) ∧ (m2.length = 32) ∧ St [g1, g2] w0 w [(some g3, 73, [.int .i64 e.op, .int .i64 e.w, .int .i64 e.n, .slice A n c]), (some g1, 4, m1.map Value.bool), (some g2, 4, m2.map Value.bool)] ∧ ε 1 = .slice (some ⟨g1, 0, none⟩) 32 32 ∧ ε 2 = .slice (some ⟨g2, 0, none⟩) 32 32 ∧ ε 3 = .pointer (some ⟨g3, 0, none⟩) ∧ ε 6 = .int .i64 k) (μ := e.kids.length) ⟨rfl, 0, a1, a2, by omega, rfl, rfl, hl1', hl2', S, rfl, rfl, rfl, rfl⟩ ?_
  rintro μ D ε w ⟨rfl, k, m1, m2, hk, h1, h2, l1, l2, S, e1, e2, e3, e6⟩
  refine W_known 1 e1 (W_known 2 e2 (W_known 3 e3 (W_known 6 e6 ?_)))
  clear e1 e2 e3 e6
  refine gw4 ?_; refine gw1 ?_
  refine o_load one_71 rfl (by exact S.cell 0 rfl rfl) rfl ?_
  refine gw1 ?_
  refine o_lss rfl rfl rfl (fun h25 => ?_) (fun h25 => ?_)
  ·refine gw4 ?_; refine gw2 ?_
   have hlt : k < e.kids.length := by omega
   obtain ⟨b, o, hA, hbM, hkk⟩ := hks (by omega)
   obtain ⟨ck, hck, hrk⟩ := hkk k hlt
   have hlen : ck.length = 4 := hrk.length
   have hdr : e.kids.drop k = e.kids[k] :: e.kids.drop (k + 1) := List.drop_eq_getElem_cons hlt
   rw [hdr] at h1 h2
   simp only [E.markAll] at h1 h2
   refine gw1 ?_
   refine o_load one_71 rfl (by exact S.cell 0 rfl rfl) rfl ?_
   refine gw2 ?_
   refine o_loadN many_73 rfl (hck.keep (S.keepM.mono hsub) hbM) (by assumption) rfl ?_
   refine gw2 ?_
   refine o_call has_137 rfl rfl (ih _ (List.getElem_mem hlt) M _ ck g1 g2 m1 m2 _ (RdE.keep (S.keepM.mono hsub) _ _ hrk) (hkg _ (List.getElem_mem hlt)) hM1 hM2 hne l1 l2 (S.blk 1 rfl) (S.blk 2 rfl)) ?_
   rintro v35 w35 ⟨B35, hB1, hB2⟩
   have S35 := S.changed2 1 2 rfl rfl B35 hB1 hB2
   refine gw4 ?_; refine gw2 ?_
   exact ⟨μ - 1, by omega, rfl, k + 1, _, _, by omega, h1, h2, by rw [E.mark_len]; exact l1, by rw [E.mark_len]; exact l2, S35, rfl, rfl, rfl, rfl⟩
  refine gw4 ?_; refine gw1 ?_
  obtain rfl : k = e.kids.length := by omega
  rw [List.drop_length] at h1 h2
  simp only [E.markAll] at h1 h2
  rw [← h1, ← h2]
  exact ⟨S.below, S.blk 1 rfl, S.blk 2 rfl⟩
 refine gw2 ?_; refine gw1 ?_
 refine W_cut (fun D ε w => D = [] ∧ St [g1, g2] w0 w [(some g3, 73, [.int .i64 e.op, .int .i64 e.w, .int .i64 e.n, .slice A n c]), (some g1, 4, (if e.op = 3 then bs1.set e.n.toNat true else bs1).map Value.bool), (some g2, 4, (if e.op = 2 then bs2.set e.n.toNat true else bs2).map Value.bool)] ∧ ε 1 = .slice (some ⟨g1, 0, none⟩) 32 32 ∧ ε 2 = .slice (some ⟨g2, 0, none⟩) 32 32 ∧ ε 3 = .pointer (some ⟨g3, 0, none⟩)) ?_ ?_
 ·refine gw2 ?_; refine gw1 ?_
  refine o_load one_3 rfl (by exact S3.cell 0 rfl rfl) rfl ?_
  refine o_eql rfl rfl rfl (fun h16 => ?_) (fun h16 => ?_)
  ·refine gw4 ?_; refine gw1 ?_
   refine o_load one_3 rfl (by exact S3.cell 0 rfl rfl) rfl ?_
   refine gw1 ?_
   refine o_store (kk := 2) S3 sz_4 rfl (by conv => lhs; whnf) rfl rfl (by (simp; omega)) ?_
   intro w4_4 S4_4 X4_4
   refine gw1 ?_
   exact ⟨rfl, by simpa [h9, h16, List.map_set] using S4_4, rfl, rfl, rfl⟩
  refine gw2 ?_; refine gw1 ?_
  exact ⟨rfl, by simpa [h9, h16, List.map_set] using S3, rfl, rfl, rfl⟩
 rintro D ε w ⟨rfl, S, e1, e2, e3⟩
 refine W_known 1 e1 (W_known 2 e2 (W_known 3 e3 ?_))
 clear e1 e2 e3
 have hl1' : (if e.op = 3 then bs1.set e.n.toNat true else bs1).length = 32 := by split <;> simp [hl1]
 have hl2' : (if e.op = 2 then bs2.set e.n.toNat true else bs2).length = 32 := by split <;> simp [hl2]
 generalize (if e.op = 3 then bs1.set e.n.toNat true else bs1) = a1 at *
 generalize (if e.op = 2 then bs2.set e.n.toNat true else bs2) = a2 at *
 refine gw4 ?_; refine gw1 ?_
 refine W_loop (fun μ D ε w => D = [] ∧ ∃ k : Nat, ∃ m1 : List Bool, ∃ m2 : List Bool, (k + μ = e.kids.length) ∧ (E.markAll 3 (e.kids.drop k) m1 = E.markAll 3 e.kids a1) ∧ (E.markAll 2 (e.kids.drop k) m2 = E.markAll 2 e.kids a2) ∧ (m1.length = 32) ∧ (m2.length = 32) ∧ St [g1, g2] w0 w [(some g3, 73, [.int .i64 e.op, .int .i64 e.w, .int .i64 e.n, .slice A n c]), (some g1, 4, m1.map Value.bool), (some g2, 4, m2.map Value.bool)] ∧ ε 1 = .slice (some ⟨g1, 0, none⟩) 32 32 ∧ ε 2 = .slice (some ⟨g2, 0, none⟩) 32 32 ∧ ε 3 = .pointer (some ⟨g3, 0, none⟩) ∧ ε 6 = .int .i64 k) (μ := e.kids.length) ⟨rfl, 0, a1, a2, by omega, rfl, rfl, hl1', hl2', S, rfl, rfl, rfl, rfl⟩ ?_
 rintro μ D ε w ⟨rfl, k, m1, m2, hk, h1, h2, l1, l2, S, e1, e2, e3, e6⟩
 refine W_known 1 e1 (W_known 2 e2 (W_known 3 e3 (W_known 6 e6 ?_)))
 clear e1 e2 e3 e6
 refine gw4 ?_; refine gw1 ?_
 refine o_load one_71 rfl (by exact S.cell 0 rfl rfl) rfl ?_
 refine gw1 ?_
 refine o_lss rfl rfl rfl (fun h25 => ?_) (fun h25 => ?_)
 ·refine gw4 ?_; refine gw2 ?_
  have hlt : k < e.kids.length := by omega
  obtain ⟨b, o, hA, hbM, hkk⟩ := hks (by omega)
  obtain ⟨ck, hck, hrk⟩ := hkk k hlt
  have hlen : ck.length = 4 := hrk.length
  have hdr : e.kids.drop k = e.kids[k] :: e.kids.drop (k + 1) := List.drop_eq_getElem_cons hlt
  rw [hdr] at h1 h2
  simp only [E.markAll] at h1 h2
  refine gw1 ?_
  refine o_load one_71 rfl (by exact S.cell 0 rfl rfl) rfl ?_
  refine gw2 ?_
  refine o_loadN many_73 rfl (hck.keep (S.keepM.mono hsub) hbM) (by assumption) rfl ?_
  refine gw2 ?_
  refine o_call has_137 rfl rfl (ih _ (List.getElem_mem hlt) M _ ck g1 g2 m1 m2 _ (RdE.keep (S.keepM.mono hsub) _ _ hrk) (hkg _ (List.getElem_mem hlt)) hM1 hM2 hne l1 l2 (S.blk 1 rfl) (S.blk 2 rfl)) ?_
  rintro v35 w35 ⟨B35, hB1, hB2⟩
  have S35 := S.changed2 1 2 rfl rfl B35 hB1 hB2
  refine gw4 ?_; refine gw2 ?_
  exact ⟨μ - 1, by omega, rfl, k + 1, _, _, by omega, h1, h2, by rw [E.mark_len]; exact l1, by rw [E.mark_len]; exact l2, S35, rfl, rfl, rfl, rfl⟩
 refine gw4 ?_; refine gw1 ?_
 obtain rfl : k = e.kids.length := by omega
 rw [List.drop_length] at h1 h2
 simp only [E.markAll] at h1 h2
 rw [← h1, ← h2]
 exact ⟨S.below, S.blk 1 rfl, S.blk 2 rfl⟩
end Go.Proofs.YtgnbfmifjlnigaaGreatDoor
namespace Go.Fw
open Go.RowKit
end Go.Fw
namespace Go.Proofs.YtgnbfmifjlnigaaGreatDoor
open Go.Fw Go.RowKit
theorem rdB_own {w0 w : World} {L : List Ent} {k g : Nat} {M M' : List Nat} {bs : List Bool} {el : Nat} (S : St M' w0 w L) (hk : L[k]? = some (some g, el, bs.map Value.bool)) (hM : g ∉ M) (hn : bs.length = 32) : RdB M w (.slice (some ⟨g, 0, none⟩) 32 32) bs :=
 S.rd1 hk hM (by omega) (by omega) fun i x hi => ⟨.bool x, by simp [hi], rfl⟩
theorem support06_fn (e : E) (M : List Nat) (w0 : World) (cs : List Value) (hR : RdE M w0 e cs) (hM : ∀ g ∈ M, g < w0.heap.size) :
 Does Tryz.prog 112 #[.agg cs.toArray] w0 fun v w' => (∃ a b, v = .tuple #[a, b] ∧ RdI M w' a (e.sup 3) ∧ RdI M w' b (e.sup 2)) ∧ Below w0.heap.size w0 w' := by
 obtain ⟨_, n, c, rfl, _, _, _, _, _, _, _, _⟩ := hR.open_
 have S := St.refl w0
 refine Does_enter Tryz.func112 rfl Tryz.ntmps112 rfl ?_
 refine gw2 ?_
 refine o_boxa S (by conv => lhs; whnf) rfl ?_
 intro g1 w1 S1 X1 G1
 refine gw4 ?_; refine gw2 ?_
 first | refine o_loadN many_73 rfl (S1.cells 0 rfl) rfl rfl ?_
 refine o_callb S1 has_110 rfl rfl (formed_fn _ M _ _ (RdE.keep (S1.keep0 M) _ _ hR)) (fun h7 w7 S7 X7 => ?_) (fun h7 w7 S7 X7 => ?_)
 ·refine gw4 ?_; refine gw2 ?_
  refine o_make (n := 32) (c := 32) S7 slz_205 rfl rfl (by omega) (by omega) (by omega) rfl rfl ?_
  intro g9 w9 S9 X9 G9
  refine gw4 ?_
  refine o_make (n := 32) (c := 32) S9 slz_205 rfl rfl (by omega) (by omega) (by omega) rfl rfl ?_
  intro g10 w10 S10 X10 G10
  refine gw4 ?_
  refine o_loadN many_73 rfl (S10.cells 2 rfl) rfl rfl ?_
  refine gw2 ?_
  have hgood : e.good 40 = true := by unfold E.wf at h7; simp only [Bool.and_eq_true] at h7; exact h7.2
  have hne : g9 ≠ g10 := by have := S9.lt 0 rfl; omega
  have hM' : ∀ g ∈ [g9, g10] ++ M, g ∈ M ∨ w0.heap.size ≤ g := fun g hg => by
   simp at hg; rcases hg with rfl | rfl | hg
   ·right; have := S9.new 0 rfl; simp at this; exact this
   ·right; have := S10.new 0 rfl; simp at this; exact this
   ·exact .inl hg
  refine o_call has_137 rfl rfl (marks_fn e ([g9, g10] ++ M) _ _ g9 g10 (List.replicate 32 false) (List.replicate 32 false) 40 (RdE.keep (S10.keep0 _) _ _ (RdE.more hM' _ _ hR)) hgood (by simp) (by simp) hne (by simp) (by simp) (by simpa using S10.blk 1 rfl) (by simpa using S10.blk 0 rfl)) ?_
  rintro v14 w14 ⟨B14, hB1, hB2⟩
  have S14 := S10.changed2 1 0 rfl rfl B14 hB1 hB2
  refine gw4 ?_
  refine o_calln S14 has_138 rfl rfl (marked_fn M _ _ (e.mark 3 (List.replicate 32 false)) (rdB_own (k := 1) S14 rfl (fun h => by have := hM g9 h; have := S9.new 0 rfl; simp at this; omega) (by rw [E.mark_len]; simp)) (fun g hg => by have := hM g hg; have := S14.size; omega) (by rw [E.mark_len]; simp)) ?_
  rintro v16 w16 r16 S16 X16
  refine gw1 ?_
  refine o_calln S16 has_138 rfl rfl (marked_fn M _ _ (e.mark 2 (List.replicate 32 false)) (rdB_own (k := 0) S16 rfl (fun h => by have := hM g10 h; have := S10.new 0 rfl; simp at this; omega) (by rw [E.mark_len]; simp)) (fun g hg => by have := hM g hg; have := S16.size; omega) (by rw [E.mark_len]; simp)) ?_
  rintro v18 w18 r18 S18 X18
  replace r16 := r16.keep (X18.of_nil)
  refine gw4 ?_; refine gw1 ?_
  refine ⟨?_, S18.fin⟩
  unfold E.sup
  exact ⟨_, _, rfl, by simpa [h7] using r16, by simpa [h7] using r18⟩
 refine gw8 ?_; refine gw2 ?_
 refine ⟨?_, S7.fin⟩
 unfold E.sup
 exact ⟨_, _, rfl, by simp only [h7]; exact ⟨_, _, _, rfl, rfl, by omega, by unfold maxLen; omega, by omega, fun h => absurd h (by omega)⟩, by simp only [h7]; exact ⟨_, _, _, rfl, rfl, by omega, by unfold maxLen; omega, by omega, fun h => absurd h (by omega)⟩⟩
end Go.Proofs.YtgnbfmifjlnigaaGreatDoor
namespace Go.Fw
open Go.RowKit
mutual
def E.occ (op i : Int) : E → Bool
 | ⟨o, _, n, ks⟩ => decide (o = op ∧ n = i) || E.occs op i ks
def E.occs (op i : Int) : List E → Bool
 | [] => false
 | k :: ks => E.occ op i k || E.occs op i ks
end
theorem E.occ_def (op i : Int) (e : E) : e.occ op i = (decide (e.op = op ∧ e.n = i) || E.occs op i e.kids) := by cases e; simp only [E.occ]
theorem E.occs_iff (op i : Int) (ks : List E) : E.occs op i ks = true ↔ ∃ k ∈ ks, k.occ op i = true := by
 induction ks with
 | nil => simp [E.occs]
 | cons k ks ih => simp [E.occs, ih]
theorem good_shape {e : E} {lim : Int} (h : e.good lim = true) : e.Shape ∧ ∀ k ∈ e.kids, k.good (lim - 1) = true := by
 rw [E.good_def] at h
 simp only [Bool.and_eq_true] at h
 exact ⟨of_decide_eq_true h.1.2, (E.goods_iff _ _).1 h.2⟩
theorem getD_set' (bs : List Bool) (j i : Nat) (hj : j < bs.length) : (bs.set j true).getD i false = (bs.getD i false || decide (i = j)) := by
 simp only [List.getD_eq_getElem?_getD, List.getElem?_set]
 by_cases h : j = i
 ·subst h; simp [hj]
 ·have h' : ¬ i = j := fun e => h e.symm
  simp [h, h']
theorem mark_get (op : Int) (hop : op = 2 ∨ op = 3) : ∀ (e : E) (lim : Int), e.good lim = true → ∀ (bs : List Bool), bs.length = 32 → ∀ i : Nat, i < 32 → (e.mark op bs).getD i false = (bs.getD i false || e.occ op i) := by
 intro e
 induction e using E.induct with
 | _ e ih =>
   intro lim hg bs hb i hi
   obtain ⟨hsh, hkg⟩ := good_shape hg
   have key : ∀ (ks : List E), (∀ k ∈ ks, k ∈ e.kids) → ∀ bs : List Bool, bs.length = 32 → (E.markAll op ks bs).getD i false = (bs.getD i false || E.occs op i ks) := by
    intro ks
    induction ks with
    | nil => intro _ bs _; simp [E.markAll, E.occs]
    | cons k ks ih2 =>
      intro h bs hb
      simp only [E.markAll, E.occs]
      rw [ih2 (fun k' hk' => h k' (by simp [hk'])) _ (by rw [E.mark_len]; exact hb), ih k (h k (by simp)) (lim - 1) (hkg k (h k (by simp))) bs hb i hi, Bool.or_assoc]
   rw [E.mark_def, E.occ_def]
   by_cases ho : e.op = op
   ·have hn := (Shape_2 (by omega)).1 hsh
    rw [if_pos ho, key e.kids (fun k hk => hk) _ (by simp [hb]), getD_set' _ _ _ (by omega), Bool.or_assoc]
    congr 2
    rw [decide_eq_decide]
    omega
   ·rw [if_neg ho, key e.kids (fun k hk => hk) _ hb]
    simp [ho]
theorem wf_good {e : E} (h : e.wf = true) : e.good 40 = true := by
 unfold E.wf at h; simp only [Bool.and_eq_true] at h; exact h.2
theorem mem_sup {e : E} (h : e.wf = true) {op : Int} (hop : op = 2 ∨ op = 3) (x : Int) : x ∈ e.sup op ↔ 0 ≤ x ∧ x < 32 ∧ e.occ op x = true := by
 unfold E.sup
 rw [if_pos h]
 unfold markedL
 rw [markedTo_mem, E.mark_len]
 constructor
 ·rintro ⟨i, rfl, hi, hm⟩
  simp at hi
  rw [mark_get op hop e 40 (wf_good h) _ (by simp) i hi] at hm
  refine ⟨by omega, by omega, ?_⟩
  have h0 : (List.replicate 32 false).getD i false = false := by
   simp only [List.getD_eq_getElem?_getD, List.getElem?_replicate]
   split <;> rfl
  rw [h0] at hm
  simpa using hm
 ·rintro ⟨h0, _, hm⟩
  obtain ⟨i, rfl⟩ := Int.eq_ofNat_of_zero_le h0
  refine ⟨i, rfl, by simp; omega, ?_⟩
  rw [mark_get op hop e 40 (wf_good h) _ (by simp) i (by omega), hm]
  simp
theorem valid_occ {cells : List CellD} {pair : Bool} {op : Int} (hop : op = 2 ∨ op = 3) : ∀ (e : E) (lim : Int), e.good lim = true → e.over cells pair = true → ∀ x : Int, e.occ op x = true →
 0 ≤ x ∧ x < 32 ∧ x < cells.length ∧ 1 ≤ wAt cells x ∧ wAt cells x ≤ 8 := by
 intro e
 induction e using E.induct with
 | _ e ih =>
   intro lim hg ho x hx
   obtain ⟨hsh, hkg⟩ := good_shape hg
   rw [E.over_def] at ho
   simp only [Bool.and_eq_true, decide_eq_true_eq] at ho
   rw [E.occ_def] at hx
   simp only [Bool.or_eq_true, decide_eq_true_eq] at hx
   rcases hx with ⟨h1, h2⟩ | hx
   ·have hn := (Shape_2 (by omega)).1 hsh
    have ho1 := ho.1.2 (by omega)
    subst h2
    omega
   ·obtain ⟨k, hk, hkx⟩ := (E.occs_iff _ _ _).1 hx
    exact ih k hk (lim - 1) (hkg k hk) ((E.overs_iff _ _ _).1 ho.2 k hk) x hkx
theorem valid_parts {cells : List CellD} {pair : Bool} {e : E} (h : e.valid cells pair = true) : e.wf = true ∧ e.good 40 = true ∧ e.over cells pair = true := by
 unfold E.valid at h; simp only [Bool.and_eq_true] at h; exact ⟨h.1, wf_good h.1, h.2⟩
end Go.Fw
namespace Go.Fw
open Go.RowKit
def isLabel (s : ByteArray) : Prop := 1 ≤ s.size ∧ s.size ≤ 64 ∧ ∀ (i : Nat) (h : i < s.size), 33 ≤ (s[i]).toNat ∧ (s[i]).toNat ≤ 126
def thrAt (cells : List CellD) (x : Int) : Int := (cells.getD x.toNat ⟨ByteArray.empty, 0, 0, 0, false, 0⟩).thread
def ghAt (cells : List CellD) (x : Int) : Bool := (cells.getD x.toNat ⟨ByteArray.empty, 0, 0, 0, false, 0⟩).ghost
def isIn (i : Int) (n : Nat) : Prop := 0 ≤ i ∧ i < n
def overT (cells : List CellD) (e : E) (sh : Bool) (t : Int) : Prop := ∀ x ∈ e.sup 3 ++ e.sup 2, (thrAt cells x = -1 → sh = true) ∧ (0 ≤ thrAt cells x → thrAt cells x = t)
def truthP (cells : List CellD) (e : E) (pair : Bool) (t : Int) : Prop := e.valid cells pair = true ∧ e.w = 1 ∧ overT cells e true t
def E.absent (e : E) : Prop := e.op = 0 ∧ e.w = 0 ∧ e.n = 0 ∧ e.kids = []
def rising : List Int → Prop := List.Pairwise (· < ·)
structure KindOK (p : ProgD) (t : Int) (s : StepD) : Prop where
 guard : overT p.cells s.guard (decide (s.kind = 4)) t
 vals : ∀ (i : Nat) (h : i < s.set.length), 0 < i ∨ s.kind ≠ 2 → overT p.cells (s.set[i]).to (decide (s.kind = 4)) t
 cells : ∀ a ∈ s.set, thrAt p.cells a.cell = t ∨ thrAt p.cells a.cell = -1
 k1 : s.kind = 1 → ∀ a ∈ s.set, thrAt p.cells a.cell = t
 k2 : s.kind = 2 → ∃ a l, s.set = a :: l ∧ thrAt p.cells a.cell = t ∧ ghAt p.cells a.cell = false ∧ a.to.op = 2 ∧ thrAt p.cells a.to.n = -1 ∧ ghAt p.cells a.to.n = false ∧ ∀ b ∈ l, thrAt p.cells b.cell = t ∧ ghAt p.cells b.cell = true
 k3 : s.kind = 3 → ∃ a l, s.set = a :: l ∧ thrAt p.cells a.cell = -1 ∧ ghAt p.cells a.cell = false ∧ ∀ b ∈ l, ghAt p.cells b.cell = true
 k5 : 5 ≤ s.kind → s.set = [] ∧ s.guard = ⟨1, 1, 1, []⟩
 k6 : 6 ≤ s.kind → isIn s.target p.threads.length ∧ s.target ≠ t
 k7 : s.kind = 6 → ∀ u, p.threads[s.target.toNat]? = some u → u.asleep = true
structure StepOK (p : ProgD) (t : Int) (points : Int) (s : StepD) : Prop where
 kind : 1 ≤ s.kind ∧ s.kind ≤ 7
 frm : 0 ≤ s.frm ∧ s.frm < points - 1
 to : 0 ≤ s.to ∧ s.to < points
 mod : isIn s.module_ p.modules.length
 rel : s.release = true → s.kind = 3
 tgt : s.target ≠ 0 → s.kind = 6 ∨ s.kind = 7
 guard : s.guard.valid p.cells false = true ∧ s.guard.w = 1
 set : ∀ a ∈ s.set, isIn a.cell p.cells.length ∧ a.to.valid p.cells false = true ∧ a.to.w = wAt p.cells a.cell
 once : s.set.Pairwise (fun a b => a.cell ≠ b.cell)
 row : KindOK p t s
structure LoopOK (p : ProgD) (t : Int) (points : Int) (l : LoopD) : Prop where
 head : 0 ≤ l.head ∧ l.head < points
 up : rising l.body
 body : ∀ x ∈ l.body, 0 ≤ x ∧ x < points ∧ x ≠ l.head
 variant : l.variant.valid p.cells false = true ∧ overT p.cells l.variant true t
structure ThreadOK (p : ProgD) (t : Nat) (x : ThreadD) : Prop where
 name : isLabel x.name
 points : 1 ≤ x.points ∧ x.points ≤ 48
 nsteps : x.steps.length ≤ 64
 nloops : x.loops.length ≤ 8
 asserts : (x.asserts.length : Int) = x.points
 nmod : (x.modules.length : Int) = x.points
 modules : ∀ m ∈ x.modules, isIn m p.modules.length
 truth : ∀ e ∈ x.asserts, truthP p.cells e false t
 steps : ∀ s ∈ x.steps, StepOK p t x.points s
 loops : ∀ l ∈ x.loops, LoopOK p t x.points l
structure CellOK (p : ProgD) (c : CellD) : Prop where
 name : isLabel c.name
 w : 1 ≤ c.w ∧ c.w ≤ 8
 init : 0 ≤ c.init ∧ c.init < pow2 c.w.toNat
 thread : -1 ≤ c.thread ∧ c.thread < p.threads.length
 mod : isIn c.module_ p.modules.length
structure ModOK (p : ProgD) (m : ContractD) : Prop where
 name : isLabel m.name
 owner : isLabel m.owner
 rely : m.rely.absent ∨ truthP p.cells m.rely true (-1)
 guar : truthP p.cells m.guar true (-1)
 frame : ∀ x ∈ m.frame, isIn x p.cells.length ∧ thrAt p.cells x = -1
 up : rising m.frame
structure LockOK (p : ProgD) (l : LockD) : Prop where
 cell : isIn l.cell p.cells.length ∧ thrAt p.cells l.cell = -1 ∧ wAt p.cells l.cell = 1 ∧ ghAt p.cells l.cell = false
 mod : isIn l.module_ p.modules.length
 inv : truthP p.cells l.inv false (-1)
structure ProgOK (p : ProgD) : Prop where
 ncells : p.cells.length ≤ 32
 nmodules : p.modules.length ≤ 6
 nlocks : p.locks.length ≤ 4
 nthreads : p.threads.length ≤ 4
 cells : ∀ c ∈ p.cells, CellOK p c
 cellNames : p.cells.Pairwise (fun a b => a.name ≠ b.name)
 modules : ∀ m ∈ p.modules, ModOK p m
 moduleNames : p.modules.Pairwise (fun a b => a.name ≠ b.name)
 locks : ∀ l ∈ p.locks, LockOK p l
 lockCells : p.locks.Pairwise (fun a b => a.cell ≠ b.cell)
 threads : ∀ (t : Nat) (h : t < p.threads.length), ThreadOK p t p.threads[t]
 threadNames : p.threads.Pairwise (fun a b => a.name ≠ b.name)
end Go.Fw
namespace Go.Fw
open Go.RowKit
noncomputable def dec (p : Prop) : Bool := @decide p (Classical.propDecidable p)
theorem dec_t {p : Prop} (h : p) : dec p = true := @decide_eq_true p (Classical.propDecidable p) h
theorem dec_f {p : Prop} (h : ¬ p) : dec p = false := @decide_eq_false p (Classical.propDecidable p) h
theorem of_dec {p : Prop} (h : dec p = true) : p := @of_decide_eq_true p (Classical.propDecidable p) h
theorem of_dec_f {p : Prop} (h : dec p = false) : ¬ p := @of_decide_eq_false p (Classical.propDecidable p) h
theorem vdec_t {p : Prop} (h : p) : Value.bool true = .bool (dec p) := by rw [dec_t h]
theorem vdec_f {p : Prop} (h : ¬ p) : Value.bool false = .bool (dec p) := by rw [dec_f h]
section
variable {α : Type} {l : List α} {k : Nat} {P : α → Prop}
def AllTo (l : List α) (k : Nat) (P : α → Prop) : Prop := ∀ x ∈ l.take k, P x
theorem AllTo.zero : AllTo l 0 P := fun x hx => by simp at hx
theorem take_some {x : α} (hx : l[k]? = some x) : l.take (k + 1) = l.take k ++ [x] := by
 obtain ⟨hlt, rfl⟩ := List.getElem?_eq_some_iff.1 hx
 exact List.take_succ_eq_append_getElem hlt
theorem AllTo.succ {x : α} (h : AllTo l k P) (hx : l[k]? = some x) (hk : P x) : AllTo l (k + 1) P := fun y hy => by
 rw [take_some hx] at hy
 rcases List.mem_append.1 hy with hy | hy
 ·exact h y hy
 ·rw [List.mem_singleton.1 hy]; exact hk
theorem AllTo.all (h : AllTo l k P) (hk : l.length ≤ k) : ∀ x ∈ l, P x := fun x hx => h x (by rw [List.take_of_length_le hk]; exact hx)
theorem AllTo.get (h : AllTo l k P) {j : Nat} (hj : j < k) (hl : j < l.length) : P l[j] := h _ (by
 rw [List.mem_take_iff_getElem]; exact ⟨j, by omega, rfl⟩)
def PairTo (l : List α) (k : Nat) (R : α → α → Prop) : Prop := (l.take k).Pairwise R
variable {R : α → α → Prop}
theorem PairTo.zero : PairTo l 0 R := by simp [PairTo]
theorem PairTo.succ {x : α} (h : PairTo l k R) (hx : l[k]? = some x) {j : Nat} (hj : k ≤ j) (hk : AllTo l j (fun y => R y x)) : PairTo l (k + 1) R := by
 unfold PairTo
 rw [take_some hx, List.pairwise_append]
 refine ⟨h, by simp, fun a ha b hb => ?_⟩
 rw [List.mem_singleton.1 hb]
 refine hk a ?_
 rw [show l.take k = (l.take j).take k by rw [List.take_take, Nat.min_eq_left hj]] at ha
 exact List.mem_of_mem_take ha
theorem PairTo.all (h : PairTo l k R) (hk : l.length ≤ k) : l.Pairwise R := by
 unfold PairTo at h; rwa [List.take_of_length_le hk] at h
theorem pairwise_of_take (h : ∀ j x, l[j]? = some x → ∀ y ∈ l.take j, R y x) : l.Pairwise R := by
 rw [List.pairwise_iff_getElem]
 intro i j hi hj hij
 refine h j l[j] (List.getElem?_eq_getElem hj) _ ?_
 rw [List.mem_take_iff_getElem]
 exact ⟨i, by omega, rfl⟩
def FromTo (l : List α) (i k : Nat) (P : α → Prop) : Prop := ∀ j b, l[j]? = some b → i ≤ j → j < k → P b
theorem FromTo.start {i k : Nat} (h : k ≤ i) : FromTo l i k P := fun j b _ h1 h2 => absurd h1 (by omega)
theorem FromTo.succ {i : Nat} {x : α} (h : FromTo l i k P) (hx : l[k]? = some x) (hk : P x) : FromTo l i (k + 1) P := fun j b hb h1 h2 => by
 by_cases hjk : j = k
 ·subst hjk; rw [hx] at hb; cases hb; exact hk
 ·exact h j b hb h1 (by omega)
theorem FromTo.tail {x : α} (h : FromTo l 1 k P) (hk : l.length ≤ k) (hx : l[0]? = some x) : ∃ t, l = x :: t ∧ ∀ b ∈ t, P b := by
 cases l with
 | nil => simp at hx
 | cons y t =>
   simp at hx
   subst hx
   refine ⟨t, rfl, fun b hb => ?_⟩
   obtain ⟨j, hj, rfl⟩ := List.getElem_of_mem hb
   simp at hk
   exact h (j + 1) _ (by simp [hj]) (by omega) (by omega)
theorem FromTo.all {l : List α} {k : Nat} (h : FromTo l 0 k P) (hk : l.length ≤ k) : ∀ b ∈ l, P b := fun b hb => by
 obtain ⟨j, hj, rfl⟩ := List.getElem_of_mem hb
 exact h j _ (List.getElem?_eq_getElem hj) (by omega) (by omega)
theorem RdS.get {M : List Nat} {w : World} {size : Nat} {R : List Value → α → Prop} {A : Option Addr} {n c : Nat} {l : List α} (h : RdS M w size R (.slice A n c) l) (i : Nat) (hi : i < l.length) :
 ∃ x b o cs, l[i]? = some x ∧ A = some ⟨b, o, none⟩ ∧ b ∉ M ∧ cs.length = size ∧ Cells w b (o + i * size) cs ∧ R cs x := by
 obtain ⟨_, _, _, _, h5⟩ := h.at
 obtain ⟨b, o, hA, hb, hel⟩ := h5 (by omega)
 obtain ⟨cs, h6, h7, h8⟩ := hel i l[i] (List.getElem?_eq_getElem hi)
 exact ⟨l[i], b, o, cs, List.getElem?_eq_getElem hi, hA, hb, h6, h7, h8⟩
theorem some_mem {x : α} (hx : l[k]? = some x) : x ∈ l := List.mem_of_getElem? hx
theorem some_lt {x : α} (hx : l[k]? = some x) : k < l.length := (List.getElem?_eq_some_iff.1 hx).1
theorem RdS.len {M : List Nat} {w : World} {size : Nat} {R : List Value → α → Prop} {A : Option Addr} {n c : Nat} {l : List α} (h : RdS M w size R (.slice A n c) l) : n = l.length ∧ n ≤ c ∧ n ≤ 140737488355328 :=
 ⟨h.at.1, h.at.2.1, h.at.2.2.2.1⟩
end
theorem Cells.sub {w : World} {b o : Nat} {cs : List Value} (h : Cells w b o cs) (off n : Nat) : Cells w b (o + off) ((cs.drop off).take n) := fun j v hj => by
 rw [List.getElem?_take] at hj
 split at hj
 ·rw [List.getElem?_drop] at hj
  have := h _ _ hj
  rwa [← Nat.add_assoc] at this
 ·cases hj
section
variable {P : Program} {r : Option Nat} {N : Nat} {D : List Deferred} {e : Env} {w w0 : World} {ops : Array Oper} {rest : List Oper} {K : List Deferred → Env → World → Prop} {L : List Ent} {M : List Nat}
variable {d : Nat} {t : TypeId} {p : String} {af : Array Edge} {f : FuncId} {args : Array Operand} {at_ : Array TypeId} {vs : List Value}
theorem o_calls {Q : Prop} (S : St M w0 w L) (hH : Has P f) (hvs : args.toList.map (ev e) = vs) (hd : Nat.ble (d + 1) N = true)
 (hc : Does P f vs.toArray w fun v w' => (∃ b, v = .bool b ∧ (b = true → Q)) ∧ Below w.heap.size w w') (h1 : Q → ∀ w1, St M w0 w1 L → Keep [] w w1 → WL P r N ops rest K D (upd e d (.bool true)) w1)
 (h2 : ∀ w1, St M w0 w1 L → Keep [] w w1 → WL P r N ops rest K D (upd e d (.bool false)) w1) :
 WL P r N ops (⟨some d, .call { callee := .value (.func f), args := args, argTypes := at_ }, t, p, af, none⟩ :: rest) K D e w :=
 o_calln S hH hvs hd hc fun v w1 ⟨b, hv, hb⟩ S1 X1 => by
  subst hv
  cases b
  ·exact h2 w1 S1 X1
  ·exact h1 (hb rfl) w1 S1 X1
theorem o_build0 {ty el size bytes : Nat} {z : Value} (S : St M w0 w L) (hS : SlZ P ty el size z bytes) (hd : Nat.ble (d + 1) N = true)
 (h : ∀ g w1, St M w0 w1 ((some g, el, []) :: L) → Keep [] w w1 → w.heap.size ≤ g → WL P r N ops rest K D (upd e d (.slice (some ⟨g, 0, none⟩) 0 0)) w1) :
 WL P r N ops (⟨some d, .buildSlice ty 0 #[], t, p, af, none⟩ :: rest) K D e w := by
 obtain ⟨_, hi, _, hsz, _⟩ := hS.parts
 have hsz' : (sizeOf el).run P w = .ok size w := by simp [sizeOf, typeInfo, hi, hsz]
 refine WL_val (v := .slice (some ⟨w.heap.size, 0, none⟩) 0 0) (w' := w.alloc (.cells #[] el)) rfl rfl hd (by simp) ?_ (h _ _ (S.alloc el []) (keep_alloc _ _ _) (Nat.le_refl _))
 simp [execOp, Instr.buildSlice, run_underlying hS.und, hsz', newRow, Instr.fill]
 have h0 : Array.map (fun _ => (default : Value)) (Array.range 0) = #[] := by simp
 rw [h0]
theorem RowV.new {g size : Nat} : RowV (some g) size 0 [] (.slice (some ⟨g, 0, none⟩) 0 0) [] := ⟨by simp, .inr ⟨g, 0, rfl, rfl, Nat.le_refl _, by unfold maxLen; omega, by simp, by simp⟩⟩
variable {x y : Operand} {xt yt : TypeId} {kd : IntKind} {a b : Int}
theorem o_eqlD (hx : ev e x = .int kd a) (hy : ev e y = .int kd b) (hd : Nat.ble (d + 1) N = true) (h : WL P r N ops rest K D (upd e d (.bool (decide (a = b)))) w) :
 WL P r N ops (⟨some d, .binOp .eql xt x y yt, t, p, af, none⟩ :: rest) K D e w := by
 refine o_eql hx hy hd (fun hh => ?_) (fun hh => ?_)
 ·rwa [decide_eq_true hh] at h
 ·rwa [decide_eq_false hh] at h
theorem ret_3 {fn : Func} {R : Value → World → Prop} {t u x : Nat} (h : fn.results = #[.tmp t, .tmp u, .tmp x]) {v1 v2 v3 : Value} (h1 : e t = v1) (h2 : e u = v2) (h3 : e x = v3) (hR : R (.tuple #[v1, v2, v3]) w) : RetPost P fn R [] e w :=
 ⟨rfl, fun tmps he => by subst he; subst h1; subst h2; subst h3; exact ⟨_, by simp [results, h]; rfl, by simpa [envOf] using hR⟩⟩
end
end Go.Fw
namespace Go.Fw
open Go.RowKit
section
variable {M : List Nat} {w : World}
theorem RdProg.open_ {p : ProgD} {cs : List Value} (h : RdProg M w p cs) : ∃ Ac nc cc Am nm cm Al nl cl At nt ct, cs = [.slice Ac nc cc, .slice Am nm cm, .slice Al nl cl, .slice At nt ct] ∧
 RdCs M w (.slice Ac nc cc) p.cells ∧ RdCo M w (.slice Am nm cm) p.modules ∧ RdLk M w (.slice Al nl cl) p.locks ∧ RdTh M w (.slice At nt ct) p.threads ∧
 nc = p.cells.length ∧ nm = p.modules.length ∧ nl = p.locks.length ∧ nt = p.threads.length ∧ nc ≤ 140737488355328 ∧ nm ≤ 140737488355328 ∧ nl ≤ 140737488355328 ∧ nt ≤ 140737488355328 := by
 obtain ⟨_, _, _, _, rfl, h1, h2, h3, h4⟩ := h
 obtain ⟨Ac, nc, cc, rfl⟩ := h1.form
 obtain ⟨Am, nm, cm, rfl⟩ := h2.form
 obtain ⟨Al, nl, cl, rfl⟩ := h3.form
 obtain ⟨At, nt, ct, rfl⟩ := h4.form
 exact ⟨_, _, _, _, _, _, _, _, _, _, _, _, rfl, h1, h2, h3, h4, h1.len.1, h2.len.1, h3.len.1, h4.len.1, h1.len.2.2, h2.len.2.2, h3.len.2.2, h4.len.2.2⟩
theorem RdE.cells {e : E} {cs : List Value} (h : RdE M w e cs) : ∃ A n c, cs = [.int .i64 e.op, .int .i64 e.w, .int .i64 e.n, .slice A n c] ∧ n = e.kids.length ∧ n ≤ 140737488355328 ∧ i64 e.op ∧ i64 e.w ∧ i64 e.n := by
 obtain ⟨A, n, c, rfl, o1, o2, o3, hn, _, _, hbig, _⟩ := h.open_
 exact ⟨A, n, c, rfl, hn, hbig, o1, o2, o3⟩
theorem RdE.kidsRd {e : E} {v0 v1 v2 v3 : Value} (h : RdE M w e [v0, v1, v2, v3]) : RdEs M w v3 e.kids := by
 obtain ⟨A, n, c, he, _, _, _, hn, hc, hm, hbig, hks⟩ := h.open_
 simp only [List.cons.injEq, and_true] at he
 obtain ⟨rfl, rfl, rfl, rfl⟩ := he
 refine ⟨A, n, c, rfl, hn, hc, hm, hbig, fun h0 => ?_⟩
 obtain ⟨b, o, hA, hb, hk⟩ := hks h0
 refine ⟨b, o, hA, hb, fun i x hx => ?_⟩
 obtain ⟨hlt, rfl⟩ := List.getElem?_eq_some_iff.1 hx
 obtain ⟨cs, h1, h2⟩ := hk i hlt
 exact ⟨cs, h2.length, h1, h2⟩
theorem RAssign.open_ {a : AssignD} {cs : List Value} (h : RAssign M w cs a) : ∃ A n c, cs = [.int .i64 a.cell, .int .i64 a.to.op, .int .i64 a.to.w, .int .i64 a.to.n, .slice A n c] ∧ i64 a.cell ∧ RdE M w a.to [.int .i64 a.to.op, .int .i64 a.to.w, .int .i64 a.to.n, .slice A n c] := by
 obtain ⟨_, rfl, h1, h2⟩ := h
 obtain ⟨A, n, c, rfl, _⟩ := h2.cells
 exact ⟨A, n, c, rfl, h1, h2⟩
theorem RStep.open_ {s : StepD} {cs : List Value} (h : RStep M w cs s) : ∃ Ag ng cg As ns cs', cs = [.int .i64 s.kind, .int .i64 s.frm, .int .i64 s.to, .int .i64 s.guard.op, .int .i64 s.guard.w, .int .i64 s.guard.n, .slice Ag ng cg, .slice As ns cs', .bool s.release, .int .i64 s.target, .int .i64 s.module_] ∧
 (i64 s.kind ∧ i64 s.frm ∧ i64 s.to ∧ i64 s.target ∧ i64 s.module_) ∧ RdE M w s.guard [.int .i64 s.guard.op, .int .i64 s.guard.w, .int .i64 s.guard.n, .slice Ag ng cg] ∧ RdAs M w (.slice As ns cs') s.set ∧ ns = s.set.length ∧ ns ≤ 140737488355328 := by
 obtain ⟨_, _, _, _, _, rfl, h1, h2, h3, h4, h5, h6, h7⟩ := h
 obtain ⟨_, n, _, he, _⟩ := h6.cells
 simp only [List.cons.injEq, and_true] at he
 obtain ⟨rfl, rfl, rfl, rfl⟩ := he
 obtain ⟨As, ns, cs', rfl⟩ := h7.form
 exact ⟨_, _, _, _, _, _, rfl, ⟨h1, h2, h3, h4, h5⟩, h6, h7, h7.len.1, h7.len.2.2⟩
theorem RLoop.open_ {l : LoopD} {cs : List Value} (h : RLoop M w cs l) : ∃ Ab nb cb Ag ng cg, cs = [.int .i64 l.head, .slice Ab nb cb, .int .i64 l.variant.op, .int .i64 l.variant.w, .int .i64 l.variant.n, .slice Ag ng cg] ∧ i64 l.head ∧ RdI M w (.slice Ab nb cb) l.body ∧
 RdE M w l.variant [.int .i64 l.variant.op, .int .i64 l.variant.w, .int .i64 l.variant.n, .slice Ag ng cg] ∧ nb = l.body.length ∧ nb ≤ 140737488355328 := by
 obtain ⟨_, _, _, _, _, rfl, h1, h2, h3⟩ := h
 obtain ⟨_, n, _, he, _⟩ := h3.cells
 simp only [List.cons.injEq, and_true] at he
 obtain ⟨rfl, rfl, rfl, rfl⟩ := he
 obtain ⟨Ab, nb, cb, rfl⟩ := h2.form
 exact ⟨_, _, _, _, _, _, rfl, h1, h2, h3, h2.len.1, h2.len.2.2⟩
theorem RThread.open_ {t : ThreadD} {cs : List Value} (h : RThread M w cs t) : ∃ Aa na ca Am nm cm As ns cs' Al nl cl, cs = [.string t.name, .int .i64 t.points, .slice Aa na ca, .slice Am nm cm, .slice As ns cs', .slice Al nl cl, .bool t.asleep] ∧ i64 t.points ∧
 RdEs M w (.slice Aa na ca) t.asserts ∧ RdI M w (.slice Am nm cm) t.modules ∧ RdSt M w (.slice As ns cs') t.steps ∧ RdLo M w (.slice Al nl cl) t.loops ∧
 na = t.asserts.length ∧ nm = t.modules.length ∧ ns = t.steps.length ∧ nl = t.loops.length ∧ na ≤ 140737488355328 ∧ nm ≤ 140737488355328 ∧ ns ≤ 140737488355328 ∧ nl ≤ 140737488355328 := by
 obtain ⟨_, _, _, _, rfl, h0, h1, h2, h3, h4⟩ := h
 obtain ⟨Aa, na, ca, rfl⟩ := h1.form
 obtain ⟨Am, nm, cm, rfl⟩ := h2.form
 obtain ⟨As, ns, cs', rfl⟩ := h3.form
 obtain ⟨Al, nl, cl, rfl⟩ := h4.form
 exact ⟨_, _, _, _, _, _, _, _, _, _, _, _, rfl, h0, h1, h2, h3, h4, h1.len.1, h2.len.1, h3.len.1, h4.len.1, h1.len.2.2, h2.len.2.2, h3.len.2.2, h4.len.2.2⟩
theorem RContract.open_ {c : ContractD} {cs : List Value} (h : RContract M w cs c) : ∃ Ar nr cr Ag ng cg Af nf cf, cs = [.string c.name, .string c.owner, .int .i64 c.rely.op, .int .i64 c.rely.w, .int .i64 c.rely.n, .slice Ar nr cr, .int .i64 c.guar.op, .int .i64 c.guar.w, .int .i64 c.guar.n, .slice Ag ng cg, .slice Af nf cf] ∧
 RdE M w c.rely [.int .i64 c.rely.op, .int .i64 c.rely.w, .int .i64 c.rely.n, .slice Ar nr cr] ∧ RdE M w c.guar [.int .i64 c.guar.op, .int .i64 c.guar.w, .int .i64 c.guar.n, .slice Ag ng cg] ∧ RdI M w (.slice Af nf cf) c.frame ∧ nf = c.frame.length ∧ nf ≤ 140737488355328 := by
 obtain ⟨_, _, _, _, _, _, _, _, _, rfl, h1, h2, h3⟩ := h
 obtain ⟨_, n, _, he, _⟩ := h1.cells
 simp only [List.cons.injEq, and_true] at he
 obtain ⟨rfl, rfl, rfl, rfl⟩ := he
 obtain ⟨_, _, _, he, _⟩ := h2.cells
 simp only [List.cons.injEq, and_true] at he
 obtain ⟨rfl, rfl, rfl, rfl⟩ := he
 obtain ⟨Af, nf, cf, rfl⟩ := h3.form
 exact ⟨_, _, _, _, _, _, _, _, _, rfl, h1, h2, h3, h3.len.1, h3.len.2.2⟩
theorem RLock.open_ {l : LockD} {cs : List Value} (h : RLock M w cs l) : ∃ Ag ng cg, cs = [.int .i64 l.cell, .int .i64 l.inv.op, .int .i64 l.inv.w, .int .i64 l.inv.n, .slice Ag ng cg, .int .i64 l.module_] ∧ i64 l.cell ∧ i64 l.module_ ∧ RdE M w l.inv [.int .i64 l.inv.op, .int .i64 l.inv.w, .int .i64 l.inv.n, .slice Ag ng cg] := by
 obtain ⟨_, _, _, _, rfl, h1, h2, h3⟩ := h
 obtain ⟨_, n, _, he, _⟩ := h3.cells
 simp only [List.cons.injEq, and_true] at he
 obtain ⟨rfl, rfl, rfl, rfl⟩ := he
 exact ⟨_, _, _, rfl, h1, h2, h3⟩
theorem RCell.open_ {c : CellD} {cs : List Value} (h : RCell cs c) : cs = [.string c.name, .int .i64 c.w, .int .i64 c.init, .int .i64 c.thread, .bool c.ghost, .int .i64 c.module_] ∧ i64 c.w ∧ i64 c.init ∧ i64 c.thread ∧ i64 c.module_ := h
end
section
variable {cells : List CellD} {x : Int} {c : CellD}
theorem thr_some (h : cells[x.toNat]? = some c) : thrAt cells x = c.thread := by unfold thrAt; rw [List.getD_eq_getElem?_getD, h]; rfl
theorem gh_some (h : cells[x.toNat]? = some c) : ghAt cells x = c.ghost := by unfold ghAt; rw [List.getD_eq_getElem?_getD, h]; rfl
theorem w_some (h0 : 0 ≤ x) (h : cells[x.toNat]? = some c) : wAt cells x = c.w := by unfold wAt; rw [if_pos h0, h]; rfl
end
theorem pairwise_snoc {l : List Int} {k k0 : Nat} {x y : Int} (hy : l[k]? = some y) (hp : rising (l.take k)) (h0 : k0 + 1 = k) (hx : l[k0]? = some x) (hxy : x < y) : rising (l.take (k + 1)) := by
 subst h0
 unfold rising at *
 rw [take_some hy, List.pairwise_append]
 refine ⟨hp, by simp, fun a ha b hb => ?_⟩
 rw [List.mem_singleton.1 hb]
 rw [take_some hx] at hp ha
 rcases List.mem_append.1 ha with h | h
 ·have := (List.pairwise_append.1 hp).2.2 a h x (by simp); omega
 ·rw [List.mem_singleton.1 h]; exact hxy
theorem rising_at {l : List Int} {i j : Nat} {x y : Int} (h : rising l) (hx : l[i]? = some x) (hy : l[j]? = some y) (hij : i < j) : x < y := by
 obtain ⟨h1, rfl⟩ := List.getElem?_eq_some_iff.1 hx
 obtain ⟨h2, rfl⟩ := List.getElem?_eq_some_iff.1 hy
 exact (List.pairwise_iff_getElem.1 h) i j h1 h2 hij
theorem sup_len (e : E) (op : Int) : (e.sup op).length ≤ 32 := by
 unfold E.sup
 split
 ·unfold markedL
  have h1 := markedTo_len (e.mark op (List.replicate 32 false)) (e.mark op (List.replicate 32 false)).length
  rw [E.mark_len] at h1 ⊢
  simpa using h1
 ·simp
theorem valid_cell {cells : List CellD} {pair : Bool} {e : E} (h : e.valid cells pair = true) (ho : e.op = 2) : 0 ≤ e.n ∧ e.n < cells.length := by
 obtain ⟨_, h2, h3⟩ := valid_parts h
 have := valid_occ (.inl rfl) e 40 h2 h3 e.n (by rw [E.occ_def]; simp [ho])
 omega
theorem E.ext {a b : E} (h1 : a.op = b.op) (h2 : a.w = b.w) (h3 : a.n = b.n) (h4 : a.kids = b.kids) : a = b := by
 cases a; cases b; simp only at h1 h2 h3 h4; subst h1 h2 h3 h4; rfl
structure Named (p : ProgD) : Prop where
 cells : ∀ c ∈ p.cells, c.name.size ≤ 140737488355328
 mods : ∀ m ∈ p.modules, m.name.size ≤ 140737488355328 ∧ m.owner.size ≤ 140737488355328
 threads : ∀ t ∈ p.threads, t.name.size ≤ 140737488355328
end Go.Fw
namespace Go.Proofs.YtgnbfmifjlnigaaGreatDoor
open Go.Fw Go.RowKit
theorem in_fn (i n : Int) (w0 : World) : Does Tryz.prog 78 #[.int .i64 i, .int .i64 n] w0 fun v w' => v = .bool (decide (0 ≤ i ∧ i < n)) ∧ Below w0.heap.size w0 w' := by
 have S := St.refl w0
 refine Does_enter Tryz.func78 rfl Tryz.ntmps78 rfl ?_
 refine gw4 ?_; refine gw2 ?_; refine gw1 ?_
 refine o_geq rfl rfl rfl (fun h6 => ?_) (fun h6 => ?_)
 ·refine gw4 ?_; refine gw2 ?_
  refine o_lss rfl rfl rfl (fun h10 => ?_) (fun h10 => ?_)
  ·refine gw4 ?_; refine gw1 ?_
   exact ⟨congrArg Value.bool (by (rw [decide_eq_true]; omega)), S.fin⟩
  refine gw4 ?_; refine gw1 ?_
  exact ⟨congrArg Value.bool (by (rw [decide_eq_false]; omega)), S.fin⟩
 refine gw8 ?_; refine gw1 ?_
 exact ⟨congrArg Value.bool (by (rw [decide_eq_false]; omega)), S.fin⟩
theorem label_fn (s : ByteArray) (w0 : World) (hbig : s.size ≤ 140737488355328) : Does Tryz.prog 76 #[.string s] w0 fun v w' => v = .bool (dec (isLabel s)) ∧ Below w0.heap.size w0 w' := by
 have S := St.refl w0
 refine Does_enter Tryz.func76 rfl Tryz.ntmps76 rfl ?_
 refine gw8 ?_; refine gw2 ?_
 refine W_loop (fun μ D ε w => D = [] ∧ ∃ k : Nat, (k + μ = s.size) ∧ (∀ (j : Nat) (h : j < s.size), j < k → 33 ≤ (s[j]).toNat ∧ (s[j]).toNat ≤ 126) ∧ St [] w0 w [] ∧ ε 0 = .string s ∧ ε 3 = .int .i64 k) (μ := s.size) ⟨rfl, 0, by omega, fun j _ h => absurd h (by omega), S, rfl, rfl⟩ ?_
 rintro μ D ε w ⟨rfl, k, _, hl, S, e0, e3⟩
 refine W_known 0 e0 (W_known 3 e3 ?_)
 clear e0 e3
 refine gw4 ?_; refine gw1 ?_
 refine o_lenS Tryz.underlying9 rfl rfl ?_
 refine o_lss rfl rfl rfl (fun h7 => ?_) (fun h7 => ?_)
 ·refine gw8 ?_; refine gw1 ?_
  refine o_indexS Tryz.underlying9 rfl rfl (by omega) (by omega) rfl ?_
  refine o_lss rfl rfl rfl (fun h13 => ?_) (fun h13 => ?_)
  ·refine gw8 ?_; refine gw4 ?_; refine gw2 ?_
   refine ⟨vdec_f (fun h => ?_), S.fin⟩; have h3 := h.2.2 k (by omega); simp only [Int.toNat_natCast] at h13; omega
  refine gw4 ?_; refine gw2 ?_
  refine o_indexS Tryz.underlying9 rfl rfl (by omega) (by omega) rfl ?_
  refine gw1 ?_
  refine o_gtr rfl rfl rfl (fun h18 => ?_) (fun h18 => ?_)
  ·refine gw8 ?_; refine gw1 ?_
   refine ⟨vdec_f (fun h => ?_), S.fin⟩; have h3 := h.2.2 k (by omega); simp only [Int.toNat_natCast] at h18; omega
  refine gw8 ?_; refine gw1 ?_
  refine ⟨μ - 1, by omega, rfl, k + 1, by omega, fun j hj h => ?_, S, rfl, rfl⟩
  by_cases hjk : j = k
  ·subst hjk; simp only [Int.toNat_natCast] at h13 h18; omega
  ·exact hl j hj (by omega)
 refine gw4 ?_; refine gw2 ?_; refine gw1 ?_
 refine o_lenS Tryz.underlying9 rfl rfl ?_
 refine o_geq rfl rfl rfl (fun h22 => ?_) (fun h22 => ?_)
 ·refine gw4 ?_
  refine o_lenS Tryz.underlying9 rfl rfl ?_
  refine gw1 ?_
  refine o_leq rfl rfl rfl (fun h26 => ?_) (fun h26 => ?_)
  ·refine gw4 ?_; refine gw1 ?_
   exact ⟨vdec_t ⟨by omega, by omega, fun j h => hl j h (by omega)⟩, S.fin⟩
  refine gw4 ?_; refine gw1 ?_
  refine ⟨vdec_f (fun h => ?_), S.fin⟩; have h3 := h.1; have h4 := h.2.1; omega
 refine gw8 ?_; refine gw1 ?_
 refine ⟨vdec_f (fun h => ?_), S.fin⟩; have h3 := h.1; have h4 := h.2.1; omega
theorem rising_fn (M : List Nat) (w0 : World) (v : Value) (l : List Int) (hR : RdI M w0 v l) : Does Tryz.prog 81 #[v] w0 fun v w' => (∃ b, v = .bool b ∧ (b = true → rising l)) ∧ Below w0.heap.size w0 w' := by
 obtain ⟨A, n, c, rfl⟩ := hR.form
 obtain ⟨_, _, _⟩ := hR.len
 have S := St.refl w0
 refine Does_enter Tryz.func81 rfl Tryz.ntmps81 rfl ?_
 refine gw8 ?_; refine gw2 ?_
 refine W_loop (fun μk D ε w => D = [] ∧ ∃ k : Nat, (k + μk = max (l.length) 1) ∧ (1 ≤ k) ∧ (rising (l.take k)) ∧ St [] w0 w [] ∧ ε 0 = .slice A n c ∧ ε 3 = .int .i64 k) (μ := (max (l.length) 1 - 1)) ⟨rfl, 1, by omega, by omega, (by cases l <;> simp [rising]), S, rfl, rfl⟩ ?_
 rintro μk D ε w ⟨rfl, k, _, _, hp, S, e0, e3⟩
 refine W_known 0 e0 (W_known 3 e3 ?_)
 clear e0 e3
 refine gw4 ?_; refine gw2 ?_
 refine o_lss rfl rfl rfl (fun h7 => ?_) (fun h7 => ?_)
 ·refine gw4 ?_; refine gw2 ?_
  refine W_draw follows_mixed [0, 1, 2, 3, 4, 5, 6, 7, 8, 9] [] [] (by kernel_rfl) rfl (Cl _ _ _ _) (Cl.start S) ?_
  refine gq2 ?_
  refine q_sub rfl rfl (by unfold i64; omega) rfl ?_
  obtain ⟨_, _, _, _, hxx, _, _, _, hc13, hr13⟩ := RdS.get (hR) (k - 1) (by omega)
  obtain ⟨rfl, _⟩ := id hr13
  have e13 : ((k : Int) - 1).toNat = k - 1 := by omega
  rw [← e13] at hc13
  refine gq1 ?_
  refine q_load one_3 rfl (fun w1 hw => by exact hw.1.old (hc13 0 _ rfl)) rfl ?_
  refine gq2 ?_
  obtain ⟨_, _, _, _, hxy, _, _, _, hc17, hr17⟩ := RdS.get (hR) (k) (by omega)
  obtain ⟨rfl, _⟩ := id hr17
  refine gq1 ?_
  refine q_load one_3 rfl (fun w1 hw => by exact hw.1.old (hc17 0 _ rfl)) rfl ?_
  refine q_geq rfl rfl rfl (fun h19 => ?_) (fun h19 => ?_)
  ·refine gq1 ?_
   refine BK_of ?_
   refine BKL_nil ?_
   rintro wR4 ⟨SR4, XR4⟩
   refine gw8 ?_
   exact ⟨⟨_, rfl, fun h => absurd h Bool.false_ne_true⟩, SR4.fin⟩
  refine gq1 ?_
  refine BK_of ?_
  refine BKL_nil ?_
  rintro wR4 ⟨SR4, XR4⟩
  refine gw8 ?_
  refine ⟨μk - 1, by omega, rfl, (k + 1), (by omega), (by omega), ?_, SR4, rfl, rfl⟩
  refine (pairwise_snoc hxy hp (k0 := k - 1) (by omega) hxx (by omega))
 refine gw8 ?_; refine gw2 ?_
 exact ⟨⟨_, rfl, fun _ => (List.take_of_length_le (show l.length ≤ k by omega)) ▸ hp⟩, S.fin⟩
theorem absent07_fn (e : E) (M : List Nat) (w0 : World) (cs : List Value) (hR : RdE M w0 e cs) : Does Tryz.prog 79 #[.agg cs.toArray] w0 fun v w' => v = .bool (dec e.absent) ∧ Below w0.heap.size w0 w' := by
 obtain ⟨_, _, _, rfl, hn, _, _, _, _⟩ := hR.cells
 have S := St.refl w0
 refine Does_enter Tryz.func79 rfl Tryz.ntmps79 rfl ?_
 refine gw2 ?_
 refine o_boxa S (by conv => lhs; whnf) rfl ?_
 intro g1 w1 S1 X1 G1
 refine gw4 ?_; refine gw1 ?_
 refine o_load one_3 rfl (by first | exact S1.cell 0 rfl rfl) rfl ?_
 refine o_eql rfl rfl rfl (fun h5 => ?_) (fun h5 => ?_)
 ·refine gw4 ?_
  refine o_load one_3 rfl (by first | exact S1.cell 0 rfl rfl) rfl ?_
  refine gw1 ?_
  refine o_eql rfl rfl rfl (fun h9 => ?_) (fun h9 => ?_)
  ·refine gw4 ?_; refine gw1 ?_
   refine o_load one_3 rfl (by first | exact S1.cell 0 rfl rfl) rfl ?_
   refine gw1 ?_
   refine o_eql rfl rfl rfl (fun h14 => ?_) (fun h14 => ?_)
   ·refine gw4 ?_; refine gw1 ?_
    refine o_load one_71 rfl (by first | exact S1.cell 0 rfl rfl) rfl ?_
    refine gw2 ?_; refine gw1 ?_
    refine o_eql rfl rfl rfl (fun h20 => ?_) (fun h20 => ?_)
    ·refine gw4 ?_; refine gw1 ?_
     exact ⟨vdec_t ⟨by omega, by omega, by omega, List.length_eq_zero_iff.1 (by omega)⟩, S1.fin⟩
    refine gw4 ?_; refine gw1 ?_
    refine ⟨vdec_f (fun h => ?_), S1.fin⟩; obtain ⟨a1, a2, a3, a4⟩ := h; rw [a4] at hn; simp at hn; omega
   refine gw8 ?_; refine gw2 ?_; refine gw1 ?_
   refine ⟨vdec_f (fun h => ?_), S1.fin⟩; obtain ⟨a1, a2, a3, a4⟩ := h; rw [a4] at hn; simp at hn; omega
  refine gw16 ?_
  refine ⟨vdec_f (fun h => ?_), S1.fin⟩; obtain ⟨a1, a2, a3, a4⟩ := h; rw [a4] at hn; simp at hn; omega
 refine gw16 ?_; refine gw4 ?_
 refine ⟨vdec_f (fun h => ?_), S1.fin⟩; obtain ⟨a1, a2, a3, a4⟩ := h; rw [a4] at hn; simp at hn; omega
theorem own_fn (p : ProgD) (M : List Nat) (w0 : World) (cs : List Value) (c t : Int) (hP : RdProg M w0 p cs) (h0 : 0 ≤ c) (h1 : c < p.cells.length) :
 Does Tryz.prog 132 #[.agg cs.toArray, .int .i64 c, .int .i64 t] w0 fun v w' => v = .bool (decide (thrAt p.cells c = t)) ∧ Below w0.heap.size w0 w' := by
 obtain ⟨_, _, _, _, _, _, _, _, _, _, _, _, rfl, hC, _, _, _, _, _, _, _, _, _, _, _⟩ := hP.open_
 have S := St.refl w0
 refine Does_enter Tryz.func132 rfl Tryz.ntmps132 rfl ?_
 refine gw2 ?_
 refine o_boxa S (by conv => lhs; whnf) rfl ?_
 intro g3 w3 S3 X3 G3
 refine gw4 ?_; refine gw1 ?_
 refine o_load one_31 rfl (by first | exact S3.cell 0 rfl rfl) rfl ?_
 refine gw1 ?_
 obtain ⟨_, _, _, _, hxx, _, _, _, hc10, hr10⟩ := RdS.get (hC) (c.toNat) (by omega)
 obtain ⟨rfl, _, _, _, _⟩ := RCell.open_ hr10
 refine gw2 ?_
 refine o_load one_3 rfl (by exact S3.old (hc10 _ _ rfl)) rfl ?_
 refine gw1 ?_
 refine o_eql rfl rfl rfl (fun h14 => ?_) (fun h14 => ?_)
 ·refine gw4 ?_
  exact ⟨by rw [decide_eq_true (by rw [thr_some hxx]; omega)], S3.fin⟩
 refine gw4 ?_
 exact ⟨by rw [decide_eq_false (by rw [thr_some hxx]; omega)], S3.fin⟩
theorem shared_fn (p : ProgD) (M : List Nat) (w0 : World) (cs : List Value) (c : Int) (hP : RdProg M w0 p cs) (h0 : 0 ≤ c) (h1 : c < p.cells.length) :
 Does Tryz.prog 133 #[.agg cs.toArray, .int .i64 c] w0 fun v w' => v = .bool (decide (thrAt p.cells c = -1)) ∧ Below w0.heap.size w0 w' := by
 obtain ⟨_, _, _, _, _, _, _, _, _, _, _, _, rfl, hC, _, _, _, _, _, _, _, _, _, _, _⟩ := hP.open_
 have S := St.refl w0
 refine Does_enter Tryz.func133 rfl Tryz.ntmps133 rfl ?_
 refine gw2 ?_
 refine o_boxa S (by conv => lhs; whnf) rfl ?_
 intro g2 w2 S2 X2 G2
 refine gw4 ?_; refine gw1 ?_
 refine o_load one_31 rfl (by first | exact S2.cell 0 rfl rfl) rfl ?_
 refine gw1 ?_
 obtain ⟨_, _, _, _, hxx, _, _, _, hc8, hr8⟩ := RdS.get (hC) (c.toNat) (by omega)
 obtain ⟨rfl, _, _, _, _⟩ := RCell.open_ hr8
 refine gw2 ?_
 refine o_load one_3 rfl (by exact S2.old (hc8 _ _ rfl)) rfl ?_
 refine o_eql rfl rfl rfl (fun h11 => ?_) (fun h11 => ?_)
 ·refine gw4 ?_
  exact ⟨by rw [decide_eq_true (by rw [thr_some hxx]; omega)], S2.fin⟩
 refine gw4 ?_
 exact ⟨by rw [decide_eq_false (by rw [thr_some hxx]; omega)], S2.fin⟩
theorem over07_fn (p : ProgD) (e : E) (M : List Nat) (w0 : World) (cs es : List Value) (sh pair : Bool) (t : Int) (hP : RdProg M w0 p cs) (hR : RdE M w0 e es) (hM : ∀ g ∈ M, g < w0.heap.size) (hv : e.valid p.cells pair = true) :
 Does Tryz.prog 84 #[.agg cs.toArray, .agg es.toArray, .bool sh, .int .i64 t] w0 fun v w' => v = .bool (dec (overT p.cells e sh t)) ∧ Below w0.heap.size w0 w' := by
 obtain ⟨Ac, nc, cc, Am, nm, cm, Al, nl, cl, At, nt, ct, rfl, hC, _, _, _, _, _, _, _, _, _, _, _⟩ := hP.open_
 obtain ⟨Ae, ne, ce, rfl, _, _, _, _, _⟩ := hR.cells
 obtain ⟨hwf, hgd, hov⟩ := valid_parts hv
 have hin : ∀ x ∈ e.sup 3 ++ e.sup 2, 0 ≤ x ∧ x < p.cells.length := fun x hx => by
  rcases List.mem_append.1 hx with hx | hx
  ·have h1 := (mem_sup hwf (.inr rfl) x).1 hx
   have h2 := valid_occ (.inr rfl) e 40 hgd hov x h1.2.2
   omega
  ·have h1 := (mem_sup hwf (.inl rfl) x).1 hx
   have h2 := valid_occ (.inl rfl) e 40 hgd hov x h1.2.2
   omega
 have hl3 : (e.sup 3).length ≤ 32 := sup_len e 3
 have hl2 : (e.sup 2).length ≤ 32 := sup_len e 2
 have S := St.refl w0
 cases sh
 ·refine Does_enter Tryz.func84 rfl Tryz.ntmps84 rfl ?_
  refine gw2 ?_
  refine o_boxa S (by conv => lhs; whnf) rfl ?_
  intro g4 w4 S4 X4 G4
  refine o_boxa S4 (by conv => lhs; whnf) rfl ?_
  intro g5 w5 S5 X5 G5
  refine gw4 ?_
  refine o_loadN many_73 rfl (S5.cells 0 rfl) rfl rfl ?_
  refine o_calln S5 has_112 rfl rfl (support06_fn e M _ _ (RdE.keep (S5.keep0 M) _ _ hR) (fun g hg => by have := hM g hg; have := S5.size; omega)) ?_
  rintro v16 w16 ⟨va, vb, rfl, ra, rb⟩ S16 X16
  obtain ⟨Aa, na, ca, rfl⟩ := ra.form
  obtain ⟨Ab, nb, cb, rfl⟩ := rb.form
  refine gw8 ?_
  refine o_build0 S16 slz_43 rfl ?_
  intro g19 w19 S19 X19 G19
  have ra1 := (RdS.more ra (by omega) (M' := [g19]) (fun g hg => by simp at hg; subst hg; exact .inr G19)).keep X19.of_nil
  have rb1 := (RdS.more rb (by omega) (M' := [g19]) (fun g hg => by simp at hg; subst hg; exact .inr G19)).keep X19.of_nil
  refine gw1 ?_
  refine o_appendI (k := 0) (xs := []) S19 slz_43 rfl RowV.new rfl rfl ra1 (by simp; omega) (by omega) rfl ?_
  intro v21 G21 cs21 w21 S21 R21 X21
  have rb2 := rb1.keep X21
  simp only [List.nil_append] at R21
  refine gw1 ?_
  refine o_appendI (k := 0) S21 slz_43 rfl R21 rfl rfl rb2 (by omega) (by omega) rfl ?_
  intro v23 G23 cs23 w23 S23 R23 X23
  have rl := R23.rdI (k := 0) (M := M) S23 rfl hM (fun x hx => by have := hin x hx; unfold i64; omega) (by simp; omega)
  obtain ⟨l, el⟩ : ∃ l, l = e.sup 3 ++ e.sup 2 := ⟨_, rfl⟩
  rw [← el] at rl hin
  obtain ⟨Ax, nx, cx, rfl⟩ := rl.form
  obtain ⟨hnx, -, hbx⟩ := rl.len
  refine gw8 ?_
  refine W_loop (fun μk D ε w => D = [] ∧ ∃ k : Nat, (k + μk = (l.length)) ∧ (RdI M w (.slice Ax nx cx) l) ∧ (AllTo (l) k (fun x => (thrAt p.cells x = -1 → false = true) ∧ (0 ≤ thrAt p.cells x → thrAt p.cells x = t))) ∧ St [] w0 w [(G23, 3, cs23), (some g5, 73, [.int .i64 e.op, .int .i64 e.w, .int .i64 e.n, .slice Ae ne ce]), (some g4, 36, [.slice Ac nc cc, .slice Am nm cm, .slice Al nl cl, .slice At nt ct])] ∧ ε 2 = .bool false ∧ ε 3 = .int .i64 t ∧ ε 4 = .pointer (some ⟨g4, 0, none⟩) ∧ ε 11 = .slice Ax nx cx ∧ ε 12 = .int .i64 k) (μ := (l.length)) ⟨rfl, 0, by omega, rl, AllTo.zero, S23, rfl, rfl, rfl, rfl, rfl⟩ ?_
  rintro μk D ε w ⟨rfl, k, hk, rl, hs, S, e2, e3, e4, e11, e12⟩
  refine W_known 2 e2 (W_known 3 e3 (W_known 4 e4 (W_known 11 e11 (W_known 12 e12 ?_))))
  clear e2 e3 e4 e11 e12
  refine gw4 ?_; refine gw2 ?_
  refine o_lss rfl rfl rfl (fun h27 => ?_) (fun h27 => ?_)
  ·refine gw4 ?_; refine gw2 ?_
   refine W_draw follows_mixed [0, 1, 2, 3, 4, 5, 6, 7, 8, 9] [] [] (by kernel_rfl) rfl (Cl _ _ _ _) (Cl.start S) ?_
   refine gq1 ?_
   refine q_load one_31 rfl (fun w1 hw => by exact hw.1.cell 2 rfl rfl) rfl ?_
   refine gq2 ?_
   obtain ⟨y, b34, p34, c34, hxy, hA34, hM34, hl34, hc34, hr34⟩ := RdS.get (rl) (k) (by omega)
   obtain ⟨rfl, i134⟩ := id hr34
   refine gq1 ?_
   refine q_load one_3 rfl (fun w1 hw => by exact hw.2.cell List.not_mem_nil (hc34 0 _ rfl)) rfl ?_
   have hiny := hin y (some_mem hxy)
   obtain ⟨x, b36, p36, c36, hxx, hA36, hM36, hl36, hc36, hr36⟩ := RdS.get (hC) (y.toNat) (by omega)
   obtain ⟨rfl, i136, i236, i336, i436⟩ := RCell.open_ hr36
   refine gq2 ?_
   refine q_load one_3 rfl (fun w1 hw => by exact hw.1.old (hc36 _ _ rfl)) rfl ?_
   refine gq2 ?_
   refine BK_of ?_
   refine BKL_nil ?_
   rintro wR6 ⟨SR6, XR6⟩
   replace hc34 := hc34.keep (XR6.of_nil) hM34
   replace rl := rl.keep (XR6.of_nil)
   refine gw4 ?_
   refine o_eql rfl rfl rfl (fun h40 => ?_) (fun h40 => ?_)
   ·refine gw16 ?_; refine gw4 ?_; refine gw2 ?_; refine gw1 ?_
    rw [overT, ← el]
    refine ⟨vdec_f (fun h => ?_), SR6.nil.fin⟩; have h1 := h y (some_mem hxy); rw [thr_some hxx] at h1; have h2 := h1.1 h40; cases h2; done
   refine gw8 ?_
   refine o_geq rfl rfl rfl (fun h47 => ?_) (fun h47 => ?_)
   ·refine gw4 ?_; refine gw2 ?_; refine gw1 ?_
    refine o_neq rfl rfl rfl (fun h51 => ?_) (fun h51 => ?_)
    ·refine gw8 ?_; refine gw2 ?_; refine gw1 ?_
     rw [overT, ← el]
     refine ⟨vdec_f (fun h => ?_), SR6.nil.fin⟩; have h1 := h y (some_mem hxy); rw [thr_some hxx] at h1; have h2 := h1.2 h47; omega
    refine gw8 ?_; refine gw2 ?_; refine gw1 ?_
    refine ⟨μk - 1, by omega, rfl, (k + 1), (by omega), (rl), ?_, SR6, rfl, rfl, rfl, rfl, rfl⟩
    exact hs.succ hxy ⟨fun h => by rw [thr_some hxx] at h; omega, fun h => by rw [thr_some hxx] at h ⊢; omega⟩
   refine gw16 ?_
   refine ⟨μk - 1, by omega, rfl, (k + 1), (by omega), (rl), ?_, SR6, rfl, rfl, rfl, rfl, rfl⟩
   exact hs.succ hxy ⟨fun h => by rw [thr_some hxx] at h; omega, fun h => by rw [thr_some hxx] at h ⊢; omega⟩
  refine gw8 ?_; refine gw2 ?_
  rw [overT, ← el]
  exact ⟨vdec_t (hs.all (by omega)), S.nil.fin⟩
 ·refine Does_enter Tryz.func84 rfl Tryz.ntmps84 rfl ?_
  refine gw2 ?_
  refine o_boxa S (by conv => lhs; whnf) rfl ?_
  intro g4 w4 S4 X4 G4
  refine o_boxa S4 (by conv => lhs; whnf) rfl ?_
  intro g5 w5 S5 X5 G5
  refine gw4 ?_
  refine o_loadN many_73 rfl (S5.cells 0 rfl) rfl rfl ?_
  refine o_calln S5 has_112 rfl rfl (support06_fn e M _ _ (RdE.keep (S5.keep0 M) _ _ hR) (fun g hg => by have := hM g hg; have := S5.size; omega)) ?_
  rintro v16 w16 ⟨va, vb, rfl, ra, rb⟩ S16 X16
  obtain ⟨Aa, na, ca, rfl⟩ := ra.form
  obtain ⟨Ab, nb, cb, rfl⟩ := rb.form
  refine gw8 ?_
  refine o_build0 S16 slz_43 rfl ?_
  intro g19 w19 S19 X19 G19
  have ra1 := (RdS.more ra (by omega) (M' := [g19]) (fun g hg => by simp at hg; subst hg; exact .inr G19)).keep X19.of_nil
  have rb1 := (RdS.more rb (by omega) (M' := [g19]) (fun g hg => by simp at hg; subst hg; exact .inr G19)).keep X19.of_nil
  refine gw1 ?_
  refine o_appendI (k := 0) (xs := []) S19 slz_43 rfl RowV.new rfl rfl ra1 (by simp; omega) (by omega) rfl ?_
  intro v21 G21 cs21 w21 S21 R21 X21
  have rb2 := rb1.keep X21
  simp only [List.nil_append] at R21
  refine gw1 ?_
  refine o_appendI (k := 0) S21 slz_43 rfl R21 rfl rfl rb2 (by omega) (by omega) rfl ?_
  intro v23 G23 cs23 w23 S23 R23 X23
  have rl := R23.rdI (k := 0) (M := M) S23 rfl hM (fun x hx => by have := hin x hx; unfold i64; omega) (by simp; omega)
  obtain ⟨l, el⟩ : ∃ l, l = e.sup 3 ++ e.sup 2 := ⟨_, rfl⟩
  rw [← el] at rl hin
  obtain ⟨Ax, nx, cx, rfl⟩ := rl.form
  obtain ⟨hnx, -, hbx⟩ := rl.len
  refine gw8 ?_
  refine W_loop (fun μk D ε w => D = [] ∧ ∃ k : Nat, (k + μk = (l.length)) ∧ (RdI M w (.slice Ax nx cx) l) ∧ (AllTo (l) k (fun x => (thrAt p.cells x = -1 → true = true) ∧ (0 ≤ thrAt p.cells x → thrAt p.cells x = t))) ∧ St [] w0 w [(G23, 3, cs23), (some g5, 73, [.int .i64 e.op, .int .i64 e.w, .int .i64 e.n, .slice Ae ne ce]), (some g4, 36, [.slice Ac nc cc, .slice Am nm cm, .slice Al nl cl, .slice At nt ct])] ∧ ε 2 = .bool true ∧ ε 3 = .int .i64 t ∧ ε 4 = .pointer (some ⟨g4, 0, none⟩) ∧ ε 11 = .slice Ax nx cx ∧ ε 12 = .int .i64 k) (μ := (l.length)) ⟨rfl, 0, by omega, rl, AllTo.zero, S23, rfl, rfl, rfl, rfl, rfl⟩ ?_
  rintro μk D ε w ⟨rfl, k, hk, rl, hs, S, e2, e3, e4, e11, e12⟩
  refine W_known 2 e2 (W_known 3 e3 (W_known 4 e4 (W_known 11 e11 (W_known 12 e12 ?_))))
  clear e2 e3 e4 e11 e12
  refine gw4 ?_; refine gw2 ?_
  refine o_lss rfl rfl rfl (fun h27 => ?_) (fun h27 => ?_)
  ·refine gw4 ?_; refine gw2 ?_
   refine W_draw follows_mixed [0, 1, 2, 3, 4, 5, 6, 7, 8, 9] [] [] (by kernel_rfl) rfl (Cl _ _ _ _) (Cl.start S) ?_
   refine gq1 ?_
   refine q_load one_31 rfl (fun w1 hw => by exact hw.1.cell 2 rfl rfl) rfl ?_
   refine gq2 ?_
   obtain ⟨y, b34, p34, c34, hxy, hA34, hM34, hl34, hc34, hr34⟩ := RdS.get (rl) (k) (by omega)
   obtain ⟨rfl, i134⟩ := id hr34
   refine gq1 ?_
   refine q_load one_3 rfl (fun w1 hw => by exact hw.2.cell List.not_mem_nil (hc34 0 _ rfl)) rfl ?_
   have hiny := hin y (some_mem hxy)
   obtain ⟨x, b36, p36, c36, hxx, hA36, hM36, hl36, hc36, hr36⟩ := RdS.get (hC) (y.toNat) (by omega)
   obtain ⟨rfl, i136, i236, i336, i436⟩ := RCell.open_ hr36
   refine gq2 ?_
   refine q_load one_3 rfl (fun w1 hw => by exact hw.1.old (hc36 _ _ rfl)) rfl ?_
   refine gq2 ?_
   refine BK_of ?_
   refine BKL_nil ?_
   rintro wR6 ⟨SR6, XR6⟩
   replace rl := rl.keep (XR6.of_nil)
   refine gw4 ?_
   refine o_eql rfl rfl rfl (fun h40 => ?_) (fun h40 => ?_)
   ·refine gw8 ?_; refine gw2 ?_
    refine o_geq rfl rfl rfl (fun h47 => ?_) (fun h47 => ?_)
    ·refine gw4 ?_; refine gw2 ?_; refine gw1 ?_
     refine o_neq rfl rfl rfl (fun h51 => ?_) (fun h51 => ?_)
     ·refine gw8 ?_; refine gw2 ?_; refine gw1 ?_
      rw [overT, ← el]
      refine ⟨vdec_f (fun h => ?_), SR6.nil.fin⟩; have h1 := h y (some_mem hxy); rw [thr_some hxx] at h1; have h2 := h1.2 h47; omega
     refine gw8 ?_; refine gw2 ?_; refine gw1 ?_
     refine ⟨μk - 1, by omega, rfl, (k + 1), (by omega), (rl), ?_, SR6, rfl, rfl, rfl, rfl, rfl⟩
     exact hs.succ hxy ⟨fun _ => rfl, fun h => by rw [thr_some hxx] at h ⊢; omega⟩
    refine gw16 ?_
    refine ⟨μk - 1, by omega, rfl, (k + 1), (by omega), (rl), ?_, SR6, rfl, rfl, rfl, rfl, rfl⟩
    exact hs.succ hxy ⟨fun _ => rfl, fun h => by rw [thr_some hxx] at h ⊢; omega⟩
   refine gw8 ?_
   refine o_geq rfl rfl rfl (fun h47 => ?_) (fun h47 => ?_)
   ·refine gw4 ?_; refine gw2 ?_; refine gw1 ?_
    refine o_neq rfl rfl rfl (fun h51 => ?_) (fun h51 => ?_)
    ·refine gw8 ?_; refine gw2 ?_; refine gw1 ?_
     rw [overT, ← el]
     refine ⟨vdec_f (fun h => ?_), SR6.nil.fin⟩; have h1 := h y (some_mem hxy); rw [thr_some hxx] at h1; have h2 := h1.2 h47; omega
    refine gw8 ?_; refine gw2 ?_; refine gw1 ?_
    refine ⟨μk - 1, by omega, rfl, (k + 1), (by omega), (rl), ?_, SR6, rfl, rfl, rfl, rfl, rfl⟩
    exact hs.succ hxy ⟨fun _ => rfl, fun h => by rw [thr_some hxx] at h ⊢; omega⟩
   refine gw16 ?_
   refine ⟨μk - 1, by omega, rfl, (k + 1), (by omega), (rl), ?_, SR6, rfl, rfl, rfl, rfl, rfl⟩
   exact hs.succ hxy ⟨fun _ => rfl, fun h => by rw [thr_some hxx] at h ⊢; omega⟩
  refine gw8 ?_; refine gw2 ?_
  rw [overT, ← el]
  exact ⟨vdec_t (hs.all (by omega)), S.nil.fin⟩
theorem truth07_fn (p : ProgD) (e : E) (M : List Nat) (w0 : World) (cs es : List Value) (pair : Bool) (t : Int) (hP : RdProg M w0 p cs) (hR : RdE M w0 e es) (hM : ∀ g ∈ M, g < w0.heap.size) :
 Does Tryz.prog 80 #[.agg cs.toArray, .agg es.toArray, .bool pair, .int .i64 t] w0 fun v w' => v = .bool (dec (truthP p.cells e pair t)) ∧ Below w0.heap.size w0 w' := by
 obtain ⟨_, _, _, _, _, _, _, _, _, _, _, _, rfl, hC, _, _, _, _, _, _, _, _, _, _, _⟩ := hP.open_
 obtain ⟨_, _, _, rfl, _, _, _, _, _⟩ := hR.cells
 have S := St.refl w0
 refine Does_enter Tryz.func80 rfl Tryz.ntmps80 rfl ?_
 refine gw2 ?_
 refine o_boxa S (by conv => lhs; whnf) rfl ?_
 intro g4 w4 S4 X4 G4
 refine o_boxa S4 (by conv => lhs; whnf) rfl ?_
 intro g5 w5 S5 X5 G5
 refine gw4 ?_
 refine o_loadN many_73 rfl (S5.cells 0 rfl) rfl rfl ?_
 refine gw1 ?_
 refine o_load one_31 rfl (by exact S5.cell 1 rfl rfl) rfl ?_
 refine gw1 ?_
 refine o_callb S5 has_83 rfl rfl (valid_fn _ M _ _ _ p.cells pair (RdE.keep (S5.keep0 M) _ _ hR) (hC.keep (S5.keep0 M))) (fun h13 w13 S13 X13 => ?_) (fun h13 w13 S13 X13 => ?_)
 ·refine gw4 ?_
  refine o_load one_3 rfl (by exact S13.cell 0 rfl rfl) rfl ?_
  refine gw1 ?_
  refine o_eql rfl rfl rfl (fun h17 => ?_) (fun h17 => ?_)
  ·refine gw2 ?_; refine gw1 ?_
   refine o_loadN many_36 rfl (S13.cells 1 rfl) rfl rfl ?_
   refine gw1 ?_
   refine o_loadN many_73 rfl (S13.cells 0 rfl) rfl rfl ?_
   refine gw2 ?_; refine gw1 ?_
   refine o_callb S13 has_84 rfl rfl (over07_fn p e M _ _ _ true pair t (hP.keep (S13.keep0 M)) (RdE.keep (S13.keep0 M) _ _ hR) (fun g hg => by have := hM g hg; have := S13.size; omega) h13) (fun h23 w23 S23 X23 => ?_) (fun h23 w23 S23 X23 => ?_)
   ·refine gw4 ?_; refine gw1 ?_
    exact ⟨vdec_t ⟨h13, by omega, of_dec h23⟩, S23.fin⟩
   refine gw4 ?_; refine gw1 ?_
   exact ⟨vdec_f (fun h => of_dec_f h23 h.2.2), S23.fin⟩
  refine gw8 ?_; refine gw2 ?_; refine gw1 ?_
  exact ⟨vdec_f (fun h => by have := h.2.1; omega), S13.fin⟩
 refine gw8 ?_; refine gw4 ?_; refine gw2 ?_; refine gw1 ?_
 exact ⟨vdec_f (fun h => by rw [h.1] at h13; cases h13), S13.fin⟩
end Go.Proofs.YtgnbfmifjlnigaaGreatDoor
namespace Go.Proofs.YtgnbfmifjlnigaaGreatDoor
open Go.Fw Go.RowKit
def LimOK (p : ProgD) : Prop := p.cells.length ≤ 32 ∧ p.modules.length ≤ 6 ∧ p.locks.length ≤ 4 ∧ p.threads.length ≤ 4 ∧ ∀ x ∈ p.threads, x.points ≤ 48 ∧ x.steps.length ≤ 64 ∧ x.loops.length ≤ 8
theorem limits07_fn (p : ProgD) (M : List Nat) (w0 : World) (cs : List Value) (hP : RdProg M w0 p cs) :
 Does Tryz.prog 52 #[.agg cs.toArray] w0 fun v w' => (∃ a b, v = .tuple #[.int .i64 a, .int .i64 b] ∧ (a = 0 → LimOK p)) ∧ Below w0.heap.size w0 w' := by
 obtain ⟨Ac, nc, cc, Am, nm, cm, Al, nl, cl, At, nt, ct, rfl, _, _, _, hTh, _, _, _, _, _, _, _, _⟩ := hP.open_
 have S := St.refl w0
 refine Does_enter Tryz.func52 rfl Tryz.ntmps52 rfl ?_
 refine gw2 ?_
 refine o_boxa S (by conv => lhs; whnf) rfl ?_
 intro g1 w1 S1 X1 G1
 refine gw4 ?_; refine gw2 ?_; refine gw1 ?_
 refine o_load one_31 rfl (by first | exact S1.cell 0 rfl rfl) rfl ?_
 refine gw1 ?_
 refine o_gtr rfl rfl rfl (fun h9 => ?_) (fun h9 => ?_)
 ·refine gw16 ?_; refine gw8 ?_; refine gw2 ?_; refine gw1 ?_
  exact ⟨⟨_, _, rfl, fun h => absurd h (by omega)⟩, S1.fin⟩
 refine gw4 ?_
 refine o_load one_32 rfl (by first | exact S1.cell 0 rfl rfl) rfl ?_
 refine gw2 ?_; refine gw1 ?_
 refine o_gtr rfl rfl rfl (fun h14 => ?_) (fun h14 => ?_)
 ·refine gw16 ?_; refine gw4 ?_; refine gw2 ?_
  exact ⟨⟨_, _, rfl, fun h => absurd h (by omega)⟩, S1.fin⟩
 refine gw4 ?_; refine gw1 ?_
 refine o_load one_33 rfl (by first | exact S1.cell 0 rfl rfl) rfl ?_
 refine gw2 ?_; refine gw1 ?_
 refine o_gtr rfl rfl rfl (fun h20 => ?_) (fun h20 => ?_)
 ·refine gw16 ?_
  exact ⟨⟨_, _, rfl, fun h => absurd h (by omega)⟩, S1.fin⟩
 refine gw4 ?_; refine gw1 ?_
 refine o_load one_34 rfl (by first | exact S1.cell 0 rfl rfl) rfl ?_
 refine gw2 ?_; refine gw1 ?_
 refine o_gtr rfl rfl rfl (fun h26 => ?_) (fun h26 => ?_)
 ·refine gw8 ?_; refine gw2 ?_
  exact ⟨⟨_, _, rfl, fun h => absurd h (by omega)⟩, S1.fin⟩
 refine gw8 ?_; refine gw2 ?_
 refine W_loop (fun μk D ε w => D = [] ∧ ∃ k : Nat, (k + μk = (p.threads.length)) ∧ (AllTo (p.threads) k (fun x => x.points ≤ 48 ∧ x.steps.length ≤ 64 ∧ x.loops.length ≤ 8)) ∧ St [] w0 w [(some g1, 36, [.slice Ac nc cc, .slice Am nm cm, .slice Al nl cl, .slice At nt ct])] ∧ ε 1 = .pointer (some ⟨g1, 0, none⟩) ∧ ε 4 = .int .i64 k) (μ := (p.threads.length)) ⟨rfl, 0, by omega, AllTo.zero, S1, rfl, rfl⟩ ?_
 rintro μk D ε w ⟨rfl, k, _, hs, S, e1, e4⟩
 refine W_known 1 e1 (W_known 4 e4 ?_)
 clear e1 e4
 refine gw4 ?_; refine gw1 ?_
 refine o_load one_34 rfl (by first | exact S.cell 0 rfl rfl) rfl ?_
 refine gw1 ?_
 refine o_lss rfl rfl rfl (fun h32 => ?_) (fun h32 => ?_)
 ·refine gw8 ?_
  refine o_load one_34 rfl (by first | exact S.cell 0 rfl rfl) rfl ?_
  refine gw1 ?_
  obtain ⟨x, _, _, _, hxx, _, hM38, _, hc38, hr38⟩ := RdS.get (hTh) (k) (by omega)
  obtain ⟨_, _, _, _, _, _, _, _, _, _, _, _, rfl, _, _, _, _, _, _, _, _, _, _, _, _, _⟩ := RThread.open_ hr38
  refine gw1 ?_
  refine o_loadN many_83 rfl (hc38.keep (S.keep0 _) hM38) (by rfl) rfl ?_
  refine o_alloc S zv_83 rfl rfl ?_
  intro g5 w5 S5 X5 G5
  refine o_storeN (kk := 0) (vs := [_, _, _, _, _, _, _]) S5 sz_83 rfl rfl rfl rfl rfl rfl rfl ?_
  intro w6_6 S6_6 X6_6
  dsimp only [setsAt, List.set] at S6_6
  refine gw4 ?_
  refine o_load one_3 rfl (by exact S6_6.cell 0 rfl rfl) rfl ?_
  refine o_gtr rfl rfl rfl (fun h42 => ?_) (fun h42 => ?_)
  ·refine gw16 ?_; refine gw4 ?_; refine gw2 ?_
   exact ⟨⟨_, _, rfl, fun _ => ⟨by omega, by omega, by omega, by omega, hs.all (by omega)⟩⟩, S6_6.fin⟩
  refine gw4 ?_
  refine o_load one_80 rfl (by exact S6_6.cell 0 rfl rfl) rfl ?_
  refine gw2 ?_; refine gw1 ?_
  refine o_gtr rfl rfl rfl (fun h47 => ?_) (fun h47 => ?_)
  ·refine gw16 ?_; refine gw1 ?_
   exact ⟨⟨_, _, rfl, fun _ => ⟨by omega, by omega, by omega, by omega, hs.all (by omega)⟩⟩, S6_6.fin⟩
  refine gw4 ?_; refine gw1 ?_
  refine o_load one_81 rfl (by exact S6_6.cell 0 rfl rfl) rfl ?_
  refine gw2 ?_; refine gw1 ?_
  refine o_gtr rfl rfl rfl (fun h53 => ?_) (fun h53 => ?_)
  ·refine gw8 ?_; refine gw2 ?_; refine gw1 ?_
   exact ⟨⟨_, _, rfl, fun _ => ⟨by omega, by omega, by omega, by omega, hs.all (by omega)⟩⟩, S6_6.fin⟩
  refine gw8 ?_; refine gw1 ?_
  refine ⟨μk - 1, by omega, rfl, (k + 1), (by omega), (hs.succ hxx (⟨by omega, by omega, by omega⟩)), S6_6.tail, rfl, rfl⟩
 refine gw8 ?_; refine gw2 ?_; refine gw1 ?_
 exact ⟨⟨_, _, rfl, fun _ => ⟨by omega, by omega, by omega, by omega, hs.all (by omega)⟩⟩, S.fin⟩
def CellsOK (p : ProgD) : Prop := (∀ c ∈ p.cells, CellOK p c) ∧ p.cells.Pairwise (fun a b => a.name ≠ b.name)
theorem cells07_fn (p : ProgD) (M : List Nat) (w0 : World) (cs : List Value) (hP : RdProg M w0 p cs) (hN : Named p) :
 Does Tryz.prog 53 #[.agg cs.toArray] w0 fun v w' => (∃ a, v = .int .i64 a ∧ (a = 0 → CellsOK p)) ∧ Below w0.heap.size w0 w' := by
 obtain ⟨Ac, nc, cc, Am, nm, cm, Al, nl, cl, At, nt, ct, rfl, hC, _, _, _, _, _, _, _, _, _, _, _⟩ := hP.open_
 have S := St.refl w0
 refine Does_enter Tryz.func53 rfl Tryz.ntmps53 rfl ?_
 refine gw2 ?_
 refine o_boxa S (by conv => lhs; whnf) rfl ?_
 intro g1 w1 S1 X1 G1
 refine gw8 ?_
 refine W_loop (fun μk D ε w => D = [] ∧ ∃ k : Nat, (k + μk = (p.cells.length)) ∧ (AllTo (p.cells) k (fun x => CellOK p x)) ∧ (PairTo p.cells k (fun a b => a.name ≠ b.name)) ∧ St [] w0 w [(some g1, 36, [.slice Ac nc cc, .slice Am nm cm, .slice Al nl cl, .slice At nt ct])] ∧ ε 1 = .pointer (some ⟨g1, 0, none⟩) ∧ ε 3 = .int .i64 k) (μ := (p.cells.length)) ⟨rfl, 0, by omega, AllTo.zero, PairTo.zero, S1, rfl, rfl⟩ ?_
 rintro μk D ε w ⟨rfl, k, _, hs, hp, S, e1, e3⟩
 refine W_known 1 e1 (W_known 3 e3 ?_)
 clear e1 e3
 refine gw4 ?_; refine gw1 ?_
 refine o_load one_31 rfl (by first | exact S.cell 0 rfl rfl) rfl ?_
 refine gw1 ?_
 refine o_lss rfl rfl rfl (fun h10 => ?_) (fun h10 => ?_)
 ·refine gw8 ?_
  refine o_load one_31 rfl (by first | exact S.cell 0 rfl rfl) rfl ?_
  refine gw1 ?_
  obtain ⟨x, _, _, _, hxx, _, hM16, _, hc16, hr16⟩ := RdS.get (hC) (k) (by omega)
  obtain ⟨rfl, _, _, _, _⟩ := RCell.open_ hr16
  refine gw1 ?_
  refine o_loadN many_90 rfl (hc16.keep (S.keep0 _) hM16) (by rfl) rfl ?_
  refine o_alloc S zv_90 rfl rfl ?_
  intro g4 w4 S4 X4 G4
  refine o_storeN (kk := 0) (vs := [_, _, _, _, _, _]) S4 sz_90 rfl rfl rfl rfl rfl rfl rfl ?_
  intro w4_6 S4_6 X4_6
  dsimp only [setsAt, List.set] at S4_6
  refine gw2 ?_; refine gw1 ?_
  refine W_draw follows_mixed [0, 1, 2, 3, 4, 5, 6, 7, 8, 9, 10, 11, 12, 13, 14, 15, 16, 17, 18, 19, 20, 21, 22, 23, 24, 25, 26, 27, 28, 29, 30, 31, 32, 33, 34, 35, 36, 37, 38, 39, 40, 41, 42, 43, 44, 45, 46, 47, 48] [] [] (by kernel_rfl) rfl (Cl _ _ _ _) (Cl.start S4_6) ?_
  refine gq1 ?_
  refine q_load one_9 rfl (fun w1 hw => by exact hw.1.cell 0 rfl rfl) rfl ?_
  refine q_callb has_76 rfl rfl (fun w1 S1 X1 => label_fn _ _ (hN.cells x (some_mem hxx))) (fun h20 => ?_) (fun h20 => ?_)
  ·refine gq4 ?_; refine gq1 ?_
   refine q_load one_3 rfl (fun w1 hw => by exact hw.1.cell 0 rfl rfl) rfl ?_
   refine gq1 ?_
   refine q_lss rfl rfl rfl (fun h25 => ?_) (fun h25 => ?_)
   ·refine gq16 ?_; refine gq16 ?_; refine gq8 ?_; refine gq2 ?_
    refine BK_of ?_
    refine BKL_nil ?_
    rintro wR5 ⟨SR5, XR5⟩
    refine gw8 ?_
    exact ⟨⟨_, rfl, fun _ => ⟨hs.all (by omega), hp.all (by omega)⟩⟩, SR5.fin⟩
   refine gq4 ?_; refine gq1 ?_
   refine q_load one_3 rfl (fun w1 hw => by exact hw.1.cell 0 rfl rfl) rfl ?_
   refine gq1 ?_
   refine q_gtr rfl rfl rfl (fun h30 => ?_) (fun h30 => ?_)
   ·refine gq16 ?_; refine gq16 ?_; refine gq4 ?_; refine gq1 ?_
    refine BK_of ?_
    refine BKL_nil ?_
    rintro wR5 ⟨SR5, XR5⟩
    refine gw8 ?_
    exact ⟨⟨_, rfl, fun _ => ⟨hs.all (by omega), hp.all (by omega)⟩⟩, SR5.fin⟩
   refine gq4 ?_; refine gq1 ?_
   refine q_load one_3 rfl (fun w1 hw => by exact hw.1.cell 0 rfl rfl) rfl ?_
   refine gq1 ?_
   refine q_lss rfl rfl rfl (fun h35 => ?_) (fun h35 => ?_)
   ·refine gq16 ?_; refine gq16 ?_
    refine BK_of ?_
    refine BKL_nil ?_
    rintro wR5 ⟨SR5, XR5⟩
    refine gw8 ?_
    exact ⟨⟨_, rfl, fun _ => ⟨hs.all (by omega), hp.all (by omega)⟩⟩, SR5.fin⟩
   refine gq4 ?_; refine gq1 ?_
   refine q_load one_3 rfl (fun w1 hw => by exact hw.1.cell 0 rfl rfl) rfl ?_
   refine gq2 ?_; refine gq1 ?_
   refine q_load one_3 rfl (fun w1 hw => by exact hw.1.cell 0 rfl rfl) rfl ?_
   refine gq1 ?_
   refine q_callr has_77 rfl rfl (fun w1 S1 X1 => power_eq _ _ (by omega) (by omega)) ?_
   refine gq1 ?_
   refine q_geq rfl rfl rfl (fun h43 => ?_) (fun h43 => ?_)
   ·refine gq16 ?_; refine gq8 ?_
    refine BK_of ?_
    refine BKL_nil ?_
    rintro wR5 ⟨SR5, XR5⟩
    refine gw8 ?_
    exact ⟨⟨_, rfl, fun _ => ⟨hs.all (by omega), hp.all (by omega)⟩⟩, SR5.fin⟩
   refine gq4 ?_; refine gq1 ?_
   refine q_load one_3 rfl (fun w1 hw => by exact hw.1.cell 0 rfl rfl) rfl ?_
   refine gq1 ?_
   refine q_lss rfl rfl rfl (fun h48 => ?_) (fun h48 => ?_)
   ·refine gq16 ?_; refine gq2 ?_; refine gq1 ?_
    refine BK_of ?_
    refine BKL_nil ?_
    rintro wR5 ⟨SR5, XR5⟩
    refine gw8 ?_
    exact ⟨⟨_, rfl, fun _ => ⟨hs.all (by omega), hp.all (by omega)⟩⟩, SR5.fin⟩
   refine gq4 ?_; refine gq1 ?_
   refine q_load one_3 rfl (fun w1 hw => by exact hw.1.cell 0 rfl rfl) rfl ?_
   refine gq2 ?_; refine gq1 ?_
   refine q_load one_34 rfl (fun w1 hw => by exact hw.1.cell 1 rfl rfl) rfl ?_
   refine gq2 ?_; refine gq1 ?_
   refine q_geq rfl rfl rfl (fun h56 => ?_) (fun h56 => ?_)
   ·refine gq8 ?_; refine gq2 ?_; refine gq1 ?_
    refine BK_of ?_
    refine BKL_nil ?_
    rintro wR5 ⟨SR5, XR5⟩
    refine gw8 ?_
    exact ⟨⟨_, rfl, fun _ => ⟨hs.all (by omega), hp.all (by omega)⟩⟩, SR5.fin⟩
   refine gq4 ?_; refine gq1 ?_
   refine q_load one_3 rfl (fun w1 hw => by exact hw.1.cell 0 rfl rfl) rfl ?_
   refine gq2 ?_; refine gq1 ?_
   refine q_load one_32 rfl (fun w1 hw => by exact hw.1.cell 1 rfl rfl) rfl ?_
   refine gq2 ?_; refine gq1 ?_
   refine q_callb has_78 rfl rfl (fun w1 S1 X1 => in_fn _ _ _) (fun h64 => ?_) (fun h64 => ?_)
   ·refine gq4 ?_
    refine BK_of ?_
    refine BKL_nil ?_
    rintro wR5 ⟨SR5, XR5⟩
    refine gw8 ?_
    refine W_loop (fun μj D ε w => D = [] ∧ ∃ j : Nat, (j + μj = (k)) ∧ (AllTo (p.cells) j (fun y => y.name ≠ x.name)) ∧ St [] w0 w [(some g4, 90, [.string x.name, .int .i64 x.w, .int .i64 x.init, .int .i64 x.thread, .bool x.ghost, .int .i64 x.module_]), (some g1, 36, [.slice Ac nc cc, .slice Am nm cm, .slice Al nl cl, .slice At nt ct])] ∧ ε 1 = .pointer (some ⟨g1, 0, none⟩) ∧ ε 3 = .int .i64 k ∧ ε 4 = .pointer (some ⟨g4, 0, none⟩) ∧ ε 5 = .int .i64 j) (μ := (k)) ⟨rfl, 0, by omega, AllTo.zero, SR5, rfl, rfl, rfl, rfl⟩ ?_
    rintro μj D ε w ⟨rfl, j, _, hn, S, e1, e3, e4, e5⟩
    refine W_known 1 e1 (W_known 3 e3 (W_known 4 e4 (W_known 5 e5 ?_)))
    clear e1 e3 e4 e5
    refine gw4 ?_; refine gw1 ?_
    refine o_lss rfl rfl rfl (fun h69 => ?_) (fun h69 => ?_)
    ·refine gw4 ?_; refine gw2 ?_
     refine W_draw follows_mixed [0, 1, 2, 3, 4, 5, 6, 7, 8] [] [] (by kernel_rfl) rfl (Cl _ _ _ _) (Cl.start S) ?_
     refine gq1 ?_
     refine q_load one_31 rfl (fun w1 hw => by exact hw.1.cell 1 rfl rfl) rfl ?_
     refine gq1 ?_
     obtain ⟨y, _, _, _, hxy, _, _, _, hc75, hr75⟩ := RdS.get (hC) (j) (by omega)
     obtain ⟨rfl, _, _, _, _⟩ := RCell.open_ hr75
     refine gq2 ?_
     refine q_load one_9 rfl (fun w1 hw => by exact hw.1.old (hc75 _ _ rfl)) rfl ?_
     refine gq1 ?_
     refine q_load one_9 rfl (fun w1 hw => by exact hw.1.cell 0 rfl rfl) rfl ?_
     refine q_eqlS rfl rfl rfl (fun h80 => ?_) (fun h80 => ?_)
     ·refine gq1 ?_
      refine BK_of ?_
      refine BKL_nil ?_
      rintro wR10 ⟨SR10, XR10⟩
      refine gw8 ?_
      exact ⟨⟨_, rfl, fun _ => ⟨hs.all (by omega), hp.all (by omega)⟩⟩, SR10.fin⟩
     refine gq1 ?_
     refine BK_of ?_
     refine BKL_nil ?_
     rintro wR10 ⟨SR10, XR10⟩
     refine gw8 ?_
     refine ⟨μj - 1, by omega, rfl, (j + 1), (by omega), (hn.succ hxy (h80)), SR10, rfl, rfl, rfl, rfl⟩
    refine gw8 ?_; refine gw1 ?_
    refine ⟨μk - 1, by omega, rfl, (k + 1), (by omega), (hs.succ hxx (⟨of_dec h20, ⟨by omega, by omega⟩, ⟨by omega, by omega⟩, ⟨by omega, by omega⟩, by have := of_decide_eq_true h64; unfold isIn; omega⟩)), (hp.succ hxx (j := j) (by omega) hn), S.tail, rfl, rfl⟩
   refine gq4 ?_
   refine BK_of ?_
   refine BKL_nil ?_
   rintro wR5 ⟨SR5, XR5⟩
   refine gw8 ?_
   exact ⟨⟨_, rfl, fun _ => ⟨hs.all (by omega), hp.all (by omega)⟩⟩, SR5.fin⟩
  refine gq16 ?_; refine gq16 ?_; refine gq8 ?_; refine gq4 ?_; refine gq2 ?_; refine gq1 ?_
  refine BK_of ?_
  refine BKL_nil ?_
  rintro wR5 ⟨SR5, XR5⟩
  refine gw8 ?_
  exact ⟨⟨_, rfl, fun _ => ⟨hs.all (by omega), hp.all (by omega)⟩⟩, SR5.fin⟩
 refine gw8 ?_; refine gw2 ?_
 exact ⟨⟨_, rfl, fun _ => ⟨hs.all (by omega), hp.all (by omega)⟩⟩, S.fin⟩
def ModsOK (p : ProgD) : Prop := (∀ m ∈ p.modules, ModOK p m) ∧ p.modules.Pairwise (fun a b => a.name ≠ b.name)
theorem modules07_fn (p : ProgD) (M : List Nat) (w0 : World) (cs : List Value) (hP : RdProg M w0 p cs) (hN : Named p) (hM : ∀ g ∈ M, g < w0.heap.size) :
 Does Tryz.prog 54 #[.agg cs.toArray] w0 fun v w' => (∃ a, v = .int .i64 a ∧ (a = 0 → ModsOK p)) ∧ Below w0.heap.size w0 w' := by
 obtain ⟨Ac, nc, cc, Am, nm, cm, Al, nl, cl, At, nt, ct, rfl, hC, hMo, _, _, _, _, _, _, _, _, _, _⟩ := hP.open_
 have S := St.refl w0
 refine Does_enter Tryz.func54 rfl Tryz.ntmps54 rfl ?_
 refine gw2 ?_
 refine o_boxa S (by conv => lhs; whnf) rfl ?_
 intro g1 w1 S1 X1 G1
 refine gw8 ?_
 refine W_loop (fun μk D ε w => D = [] ∧ ∃ k : Nat, (k + μk = (p.modules.length)) ∧ (AllTo (p.modules) k (fun x => ModOK p x)) ∧ (PairTo p.modules k (fun a b => a.name ≠ b.name)) ∧ St [] w0 w [(some g1, 36, [.slice Ac nc cc, .slice Am nm cm, .slice Al nl cl, .slice At nt ct])] ∧ ε 1 = .pointer (some ⟨g1, 0, none⟩) ∧ ε 3 = .int .i64 k) (μ := (p.modules.length)) ⟨rfl, 0, by omega, AllTo.zero, PairTo.zero, S1, rfl, rfl⟩ ?_
 rintro μk D ε w ⟨rfl, k, _, hs, hp, S, e1, e3⟩
 refine W_known 1 e1 (W_known 3 e3 ?_)
 clear e1 e3
 refine gw4 ?_; refine gw1 ?_
 refine o_load one_32 rfl (by first | exact S.cell 0 rfl rfl) rfl ?_
 refine gw1 ?_
 refine o_lss rfl rfl rfl (fun h11 => ?_) (fun h11 => ?_)
 ·refine gw8 ?_
  refine o_load one_32 rfl (by first | exact S.cell 0 rfl rfl) rfl ?_
  refine gw1 ?_
  obtain ⟨x, _, _, _, hxx, _, hM17, _, hc17, hr17⟩ := RdS.get (hMo) (k) (by omega)
  obtain ⟨Ar17, nr17, cr17, Ag17, ng17, cg17, Af17, nf17, cf17, rfl, hR17, hG17, hF17, _, _⟩ := RContract.open_ hr17
  refine gw1 ?_
  refine o_loadN many_75 rfl (hc17.keep (S.keep0 _) hM17) (by rfl) rfl ?_
  refine o_alloc S zv_75 rfl rfl ?_
  intro g4 w4 S4 X4 G4
  refine o_storeN (kk := 0) (vs := [_, _, _, _, _, _, _, _, _, _, _]) S4 sz_75 rfl rfl rfl rfl rfl rfl rfl ?_
  intro w4_6 S4_6 X4_6
  dsimp only [setsAt, List.set] at S4_6
  refine gw4 ?_; refine gw1 ?_
  refine o_load one_9 rfl (by exact S4_6.cell 0 rfl rfl) rfl ?_
  refine o_callb S4_6 has_76 rfl rfl (label_fn _ _ (hN.mods x (some_mem hxx)).1) (fun h21 w21 S21 X21 => ?_) (fun h21 w21 S21 X21 => ?_)
  ·refine gw4 ?_; refine gw1 ?_
   refine o_load one_9 rfl (by exact S21.cell 0 rfl rfl) rfl ?_
   refine gw1 ?_
   refine o_callb S21 has_76 rfl rfl (label_fn _ _ (hN.mods x (some_mem hxx)).2) (fun h26 w26 S26 X26 => ?_) (fun h26 w26 S26 X26 => ?_)
   ·refine gw8 ?_; refine gw4 ?_
    refine W_loop (fun μj D ε w => D = [] ∧ ∃ j : Nat, (j + μj = (k)) ∧ (AllTo (p.modules) j (fun y => y.name ≠ x.name)) ∧ St [] w0 w [(some g4, 75, [.string x.name, .string x.owner, .int .i64 x.rely.op, .int .i64 x.rely.w, .int .i64 x.rely.n, .slice Ar17 nr17 cr17, .int .i64 x.guar.op, .int .i64 x.guar.w, .int .i64 x.guar.n, .slice Ag17 ng17 cg17, .slice Af17 nf17 cf17]), (some g1, 36, [.slice Ac nc cc, .slice Am nm cm, .slice Al nl cl, .slice At nt ct])] ∧ ε 1 = .pointer (some ⟨g1, 0, none⟩) ∧ ε 3 = .int .i64 k ∧ ε 4 = .pointer (some ⟨g4, 0, none⟩) ∧ ε 5 = .int .i64 j) (μ := (k)) ⟨rfl, 0, by omega, AllTo.zero, S26, rfl, rfl, rfl, rfl⟩ ?_
    rintro μj D ε w ⟨rfl, j, _, hn, S, e1, e3, e4, e5⟩
    refine W_known 1 e1 (W_known 3 e3 (W_known 4 e4 (W_known 5 e5 ?_)))
    clear e1 e3 e4 e5
    refine gw4 ?_; refine gw1 ?_
    refine o_lss rfl rfl rfl (fun h31 => ?_) (fun h31 => ?_)
    ·refine gw4 ?_; refine gw2 ?_
     refine W_draw follows_mixed [0, 1, 2, 3, 4, 5, 6, 7, 8] [] [] (by kernel_rfl) rfl (Cl _ _ _ _) (Cl.start S) ?_
     refine gq1 ?_
     refine q_load one_32 rfl (fun w1 hw => by exact hw.1.cell 1 rfl rfl) rfl ?_
     refine gq1 ?_
     obtain ⟨y, _, _, _, hxy, _, _, _, hc37, hr37⟩ := RdS.get (hMo) (j) (by omega)
     obtain ⟨_, _, _, _, _, _, _, _, _, rfl, _, _, _, _, _⟩ := RContract.open_ hr37
     refine gq2 ?_
     refine q_load one_9 rfl (fun w1 hw => by exact hw.1.old (hc37 _ _ rfl)) rfl ?_
     refine gq1 ?_
     refine q_load one_9 rfl (fun w1 hw => by exact hw.1.cell 0 rfl rfl) rfl ?_
     refine q_eqlS rfl rfl rfl (fun h42 => ?_) (fun h42 => ?_)
     ·refine gq1 ?_
      refine BK_of ?_
      refine BKL_nil ?_
      rintro wR10 ⟨SR10, XR10⟩
      refine gw8 ?_
      exact ⟨⟨_, rfl, fun _ => ⟨hs.all (by omega), hp.all (by omega)⟩⟩, SR10.fin⟩
     refine gq1 ?_
     refine BK_of ?_
     refine BKL_nil ?_
     rintro wR10 ⟨SR10, XR10⟩
     refine gw8 ?_
     refine ⟨μj - 1, by omega, rfl, (j + 1), (by omega), (hn.succ hxy (h42)), SR10, rfl, rfl, rfl, rfl⟩
    refine gw8 ?_
    refine o_loadN many_73 rfl (cs := [_, _, _, _]) (S.cellsAt 0 2 4 rfl) rfl rfl ?_
    refine o_callb S has_79 rfl rfl (absent07_fn _ M _ _ (RdE.keep (S.keep0 M) _ _ hR17)) (fun h45 w45 S45 X45 => ?_) (fun h45 w45 S45 X45 => ?_)
    ·refine gw8 ?_; refine gw2 ?_
     refine o_loadN many_36 rfl (S45.cells 1 rfl) rfl rfl ?_
     refine gw2 ?_; refine gw1 ?_
     refine o_loadN many_73 rfl (cs := [_, _, _, _]) (S45.cellsAt 0 6 4 rfl) rfl rfl ?_
     refine gw1 ?_
     refine o_callb S45 has_80 rfl rfl (truth07_fn p _ M _ _ _ true (-1) (hP.keep (S45.keep0 M)) (RdE.keep (S45.keep0 M) _ _ hG17) (fun g hg => by have := hM g hg; have := S45.size; omega)) (fun h58 w58 S58 X58 => ?_) (fun h58 w58 S58 X58 => ?_)
     ·refine gw8 ?_; refine gw4 ?_
      refine W_loop (fun μi D ε w => D = [] ∧ ∃ i : Nat, (i + μi = (x.frame.length)) ∧ (AllTo (x.frame) i (fun z => isIn z p.cells.length ∧ thrAt p.cells z = -1)) ∧ St [] w0 w [(some g4, 75, [.string x.name, .string x.owner, .int .i64 x.rely.op, .int .i64 x.rely.w, .int .i64 x.rely.n, .slice Ar17 nr17 cr17, .int .i64 x.guar.op, .int .i64 x.guar.w, .int .i64 x.guar.n, .slice Ag17 ng17 cg17, .slice Af17 nf17 cf17]), (some g1, 36, [.slice Ac nc cc, .slice Am nm cm, .slice Al nl cl, .slice At nt ct])] ∧ ε 1 = .pointer (some ⟨g1, 0, none⟩) ∧ ε 3 = .int .i64 k ∧ ε 4 = .pointer (some ⟨g4, 0, none⟩) ∧ ε 6 = .int .i64 i) (μ := (x.frame.length)) ⟨rfl, 0, by omega, AllTo.zero, S58, rfl, rfl, rfl, rfl⟩ ?_
      rintro μi D ε w ⟨rfl, i, hi, hf, S, e1, e3, e4, e6⟩
      refine W_known 1 e1 (W_known 3 e3 (W_known 4 e4 (W_known 6 e6 ?_)))
      clear e1 e3 e4 e6
      refine gw4 ?_; refine gw1 ?_
      refine o_load one_43 rfl (by exact S.cell 0 rfl rfl) rfl ?_
      refine gw1 ?_
      refine o_lss rfl rfl rfl (fun h65 => ?_) (fun h65 => ?_)
      ·refine gw4 ?_; refine gw2 ?_
       refine W_draw follows_mixed [0, 1, 2, 3, 4, 5, 6, 7, 8, 9, 10, 11, 12, 13, 14, 15, 16, 17, 18, 19, 20, 21, 22] [] [] (by kernel_rfl) rfl (Cl _ _ _ _) (Cl.start S) ?_
       refine gq1 ?_
       refine q_load one_43 rfl (fun w1 hw => by exact hw.1.cell 0 rfl rfl) rfl ?_
       refine gq1 ?_
       obtain ⟨z, b71, p71, c71, hxz, hA71, hM71, hl71, hc71, hr71⟩ := RdS.get (hF17) (i) (by omega)
       obtain ⟨rfl, i171⟩ := id hr71
       refine gq1 ?_
       refine q_load one_3 rfl (fun w1 hw => by exact hw.1.old (hc71 0 _ rfl)) rfl ?_
       refine gq1 ?_
       refine q_load one_31 rfl (fun w1 hw => by exact hw.1.cell 1 rfl rfl) rfl ?_
       refine gq1 ?_
       refine q_callb has_78 rfl rfl (fun w1 S1 X1 => in_fn _ _ _) (fun h76 => ?_) (fun h76 => ?_)
       ·refine gq4 ?_; refine gq1 ?_
        refine q_load one_31 rfl (fun w1 hw => by exact hw.1.cell 1 rfl rfl) rfl ?_
        refine gq2 ?_; refine gq1 ?_
        refine q_load one_43 rfl (fun w1 hw => by exact hw.1.cell 0 rfl rfl) rfl ?_
        refine gq2 ?_; refine gq1 ?_
        obtain ⟨x84, b84, p84, c84, hx84, hA84, hM84, hl84, hc84, hr84⟩ := RdS.get (hF17) (i) (by omega)
        obtain rfl := Option.some.inj (hxz.symm.trans hx84)
        obtain ⟨rfl, i184⟩ := id hr84
        refine gq2 ?_
        refine q_load one_3 rfl (fun w1 hw => by exact hw.1.old (hc84 0 _ rfl)) rfl ?_
        refine gq1 ?_
        have hin := of_decide_eq_true h76
        obtain ⟨c, b86, p86, c86, hxc, hA86, hM86, hl86, hc86, hr86⟩ := RdS.get (hC) (z.toNat) (by omega)
        obtain ⟨rfl, i186, i286, i386, i486⟩ := RCell.open_ hr86
        refine gq4 ?_
        refine q_load one_3 rfl (fun w1 hw => by exact hw.1.old (hc86 _ _ rfl)) rfl ?_
        refine gq1 ?_
        refine q_neq rfl rfl rfl (fun h89 => ?_) (fun h89 => ?_)
        ·refine gq2 ?_
         refine BK_of ?_
         refine BKL_nil ?_
         rintro wR17 ⟨SR17, XR17⟩
         refine gw8 ?_
         exact ⟨⟨_, rfl, fun _ => ⟨hs.all (by omega), hp.all (by omega)⟩⟩, SR17.fin⟩
        refine gq2 ?_
        refine BK_of ?_
        refine BKL_nil ?_
        rintro wR17 ⟨SR17, XR17⟩
        refine gw8 ?_
        refine ⟨μi - 1, by omega, rfl, (i + 1), (by omega), (hf.succ hxz (⟨by unfold isIn; omega, by rw [thr_some hxc]; omega⟩)), SR17, rfl, rfl, rfl, rfl⟩
       refine gq8 ?_; refine gq4 ?_; refine gq2 ?_; refine gq1 ?_
       refine BK_of ?_
       refine BKL_nil ?_
       rintro wR17 ⟨SR17, XR17⟩
       refine gw8 ?_
       exact ⟨⟨_, rfl, fun _ => ⟨hs.all (by omega), hp.all (by omega)⟩⟩, SR17.fin⟩
      refine gw4 ?_; refine gw2 ?_; refine gw1 ?_
      refine o_load one_43 rfl (by exact S.cell 0 rfl rfl) rfl ?_
      refine o_calls S has_81 rfl rfl (rising_fn M _ _ _ (hF17.keep (S.keep0 M))) (fun h93 w93 S93 X93 => ?_) (fun w93 S93 X93 => ?_)
      ·refine gw8 ?_; refine gw1 ?_
       refine ⟨μk - 1, by omega, rfl, (k + 1), (by omega), ?_, (hp.succ hxx (j := j) (by omega) hn), S93.tail, rfl, rfl⟩
       refine hs.succ hxx ⟨of_dec h21, of_dec h26, ?_, of_dec h58, hf.all (by omega), h93⟩
       exact .inl (of_dec h45)
      refine gw8 ?_; refine gw1 ?_
      exact ⟨⟨_, rfl, fun _ => ⟨hs.all (by omega), hp.all (by omega)⟩⟩, S93.fin⟩
     refine gw8 ?_; refine gw2 ?_; refine gw1 ?_
     exact ⟨⟨_, rfl, fun _ => ⟨hs.all (by omega), hp.all (by omega)⟩⟩, S58.fin⟩
    refine gw2 ?_; refine gw1 ?_
    refine o_loadN many_36 rfl (S45.cells 1 rfl) rfl rfl ?_
    refine gw2 ?_; refine gw1 ?_
    refine o_loadN many_73 rfl (cs := [_, _, _, _]) (S45.cellsAt 0 2 4 rfl) rfl rfl ?_
    refine gw1 ?_
    refine o_callb S45 has_80 rfl rfl (truth07_fn p _ M _ _ _ true (-1) (hP.keep (S45.keep0 M)) (RdE.keep (S45.keep0 M) _ _ hR17) (fun g hg => by have := hM g hg; have := S45.size; omega)) (fun h51 w51 S51 X51 => ?_) (fun h51 w51 S51 X51 => ?_)
    ·refine gw4 ?_; refine gw1 ?_
     refine o_loadN many_36 rfl (S51.cells 1 rfl) rfl rfl ?_
     refine gw2 ?_; refine gw1 ?_
     refine o_loadN many_73 rfl (cs := [_, _, _, _]) (S51.cellsAt 0 6 4 rfl) rfl rfl ?_
     refine gw1 ?_
     refine o_callb S51 has_80 rfl rfl (truth07_fn p _ M _ _ _ true (-1) (hP.keep (S51.keep0 M)) (RdE.keep (S51.keep0 M) _ _ hG17) (fun g hg => by have := hM g hg; have := S51.size; omega)) (fun h58 w58 S58 X58 => ?_) (fun h58 w58 S58 X58 => ?_)
     ·refine gw8 ?_; refine gw4 ?_
      refine W_loop (fun μi D ε w => D = [] ∧ ∃ i : Nat, (i + μi = (x.frame.length)) ∧ (AllTo (x.frame) i (fun z => isIn z p.cells.length ∧ thrAt p.cells z = -1)) ∧ St [] w0 w [(some g4, 75, [.string x.name, .string x.owner, .int .i64 x.rely.op, .int .i64 x.rely.w, .int .i64 x.rely.n, .slice Ar17 nr17 cr17, .int .i64 x.guar.op, .int .i64 x.guar.w, .int .i64 x.guar.n, .slice Ag17 ng17 cg17, .slice Af17 nf17 cf17]), (some g1, 36, [.slice Ac nc cc, .slice Am nm cm, .slice Al nl cl, .slice At nt ct])] ∧ ε 1 = .pointer (some ⟨g1, 0, none⟩) ∧ ε 3 = .int .i64 k ∧ ε 4 = .pointer (some ⟨g4, 0, none⟩) ∧ ε 6 = .int .i64 i) (μ := (x.frame.length)) ⟨rfl, 0, by omega, AllTo.zero, S58, rfl, rfl, rfl, rfl⟩ ?_
      rintro μi D ε w ⟨rfl, i, hi, hf, S, e1, e3, e4, e6⟩
      refine W_known 1 e1 (W_known 3 e3 (W_known 4 e4 (W_known 6 e6 ?_)))
      clear e1 e3 e4 e6
      refine gw4 ?_; refine gw1 ?_
      refine o_load one_43 rfl (by exact S.cell 0 rfl rfl) rfl ?_
      refine gw1 ?_
      refine o_lss rfl rfl rfl (fun h65 => ?_) (fun h65 => ?_)
      ·refine gw4 ?_; refine gw2 ?_
       refine W_draw follows_mixed [0, 1, 2, 3, 4, 5, 6, 7, 8, 9, 10, 11, 12, 13, 14, 15, 16, 17, 18, 19, 20, 21, 22] [] [] (by kernel_rfl) rfl (Cl _ _ _ _) (Cl.start S) ?_
       refine gq1 ?_
       refine q_load one_43 rfl (fun w1 hw => by exact hw.1.cell 0 rfl rfl) rfl ?_
       refine gq1 ?_
       obtain ⟨z, b71, p71, c71, hxz, hA71, hM71, hl71, hc71, hr71⟩ := RdS.get (hF17) (i) (by omega)
       obtain ⟨rfl, i171⟩ := id hr71
       refine gq1 ?_
       refine q_load one_3 rfl (fun w1 hw => by exact hw.1.old (hc71 0 _ rfl)) rfl ?_
       refine gq1 ?_
       refine q_load one_31 rfl (fun w1 hw => by exact hw.1.cell 1 rfl rfl) rfl ?_
       refine gq1 ?_
       refine q_callb has_78 rfl rfl (fun w1 S1 X1 => in_fn _ _ _) (fun h76 => ?_) (fun h76 => ?_)
       ·refine gq4 ?_; refine gq1 ?_
        refine q_load one_31 rfl (fun w1 hw => by exact hw.1.cell 1 rfl rfl) rfl ?_
        refine gq2 ?_; refine gq1 ?_
        refine q_load one_43 rfl (fun w1 hw => by exact hw.1.cell 0 rfl rfl) rfl ?_
        refine gq2 ?_; refine gq1 ?_
        obtain ⟨x84, b84, p84, c84, hx84, hA84, hM84, hl84, hc84, hr84⟩ := RdS.get (hF17) (i) (by omega)
        obtain rfl := Option.some.inj (hxz.symm.trans hx84)
        obtain ⟨rfl, i184⟩ := id hr84
        refine gq2 ?_
        refine q_load one_3 rfl (fun w1 hw => by exact hw.1.old (hc84 0 _ rfl)) rfl ?_
        refine gq1 ?_
        have hin := of_decide_eq_true h76
        obtain ⟨c, b86, p86, c86, hxc, hA86, hM86, hl86, hc86, hr86⟩ := RdS.get (hC) (z.toNat) (by omega)
        obtain ⟨rfl, i186, i286, i386, i486⟩ := RCell.open_ hr86
        refine gq4 ?_
        refine q_load one_3 rfl (fun w1 hw => by exact hw.1.old (hc86 _ _ rfl)) rfl ?_
        refine gq1 ?_
        refine q_neq rfl rfl rfl (fun h89 => ?_) (fun h89 => ?_)
        ·refine gq2 ?_
         refine BK_of ?_
         refine BKL_nil ?_
         rintro wR17 ⟨SR17, XR17⟩
         refine gw8 ?_
         exact ⟨⟨_, rfl, fun _ => ⟨hs.all (by omega), hp.all (by omega)⟩⟩, SR17.fin⟩
        refine gq2 ?_
        refine BK_of ?_
        refine BKL_nil ?_
        rintro wR17 ⟨SR17, XR17⟩
        refine gw8 ?_
        refine ⟨μi - 1, by omega, rfl, (i + 1), (by omega), (hf.succ hxz (⟨by unfold isIn; omega, by rw [thr_some hxc]; omega⟩)), SR17, rfl, rfl, rfl, rfl⟩
       refine gq8 ?_; refine gq4 ?_; refine gq2 ?_; refine gq1 ?_
       refine BK_of ?_
       refine BKL_nil ?_
       rintro wR17 ⟨SR17, XR17⟩
       refine gw8 ?_
       exact ⟨⟨_, rfl, fun _ => ⟨hs.all (by omega), hp.all (by omega)⟩⟩, SR17.fin⟩
      refine gw4 ?_; refine gw2 ?_; refine gw1 ?_
      refine o_load one_43 rfl (by exact S.cell 0 rfl rfl) rfl ?_
      refine o_calls S has_81 rfl rfl (rising_fn M _ _ _ (hF17.keep (S.keep0 M))) (fun h93 w93 S93 X93 => ?_) (fun w93 S93 X93 => ?_)
      ·refine gw8 ?_; refine gw1 ?_
       refine ⟨μk - 1, by omega, rfl, (k + 1), (by omega), ?_, (hp.succ hxx (j := j) (by omega) hn), S93.tail, rfl, rfl⟩
       refine hs.succ hxx ⟨of_dec h21, of_dec h26, ?_, of_dec h58, hf.all (by omega), h93⟩
       exact .inr (of_dec h51)
      refine gw8 ?_; refine gw1 ?_
      exact ⟨⟨_, rfl, fun _ => ⟨hs.all (by omega), hp.all (by omega)⟩⟩, S93.fin⟩
     refine gw8 ?_; refine gw2 ?_; refine gw1 ?_
     exact ⟨⟨_, rfl, fun _ => ⟨hs.all (by omega), hp.all (by omega)⟩⟩, S58.fin⟩
    refine gw16 ?_; refine gw2 ?_
    exact ⟨⟨_, rfl, fun _ => ⟨hs.all (by omega), hp.all (by omega)⟩⟩, S51.fin⟩
   refine gw8 ?_; refine gw2 ?_; refine gw1 ?_
   exact ⟨⟨_, rfl, fun _ => ⟨hs.all (by omega), hp.all (by omega)⟩⟩, S26.fin⟩
  refine gw8 ?_; refine gw4 ?_; refine gw2 ?_; refine gw1 ?_
  exact ⟨⟨_, rfl, fun _ => ⟨hs.all (by omega), hp.all (by omega)⟩⟩, S21.fin⟩
 refine gw8 ?_; refine gw2 ?_
 exact ⟨⟨_, rfl, fun _ => ⟨hs.all (by omega), hp.all (by omega)⟩⟩, S.fin⟩
def LocksOK (p : ProgD) : Prop := (∀ l ∈ p.locks, LockOK p l) ∧ p.locks.Pairwise (fun a b => a.cell ≠ b.cell)
theorem locks07_fn (p : ProgD) (M : List Nat) (w0 : World) (cs : List Value) (hP : RdProg M w0 p cs) (hM : ∀ g ∈ M, g < w0.heap.size) :
 Does Tryz.prog 55 #[.agg cs.toArray] w0 fun v w' => (∃ a, v = .int .i64 a ∧ (a = 0 → LocksOK p)) ∧ Below w0.heap.size w0 w' := by
 obtain ⟨Ac, nc, cc, Am, nm, cm, Al, nl, cl, At, nt, ct, rfl, hC, _, hLk, _, _, _, _, _, _, _, _, _⟩ := hP.open_
 have S := St.refl w0
 refine Does_enter Tryz.func55 rfl Tryz.ntmps55 rfl ?_
 refine gw2 ?_
 refine o_boxa S (by conv => lhs; whnf) rfl ?_
 intro g1 w1 S1 X1 G1
 refine gw8 ?_
 refine W_loop (fun μk D ε w => D = [] ∧ ∃ k : Nat, (k + μk = (p.locks.length)) ∧ (AllTo (p.locks) k (fun x => LockOK p x)) ∧ (PairTo p.locks k (fun a b => a.cell ≠ b.cell)) ∧ St [] w0 w [(some g1, 36, [.slice Ac nc cc, .slice Am nm cm, .slice Al nl cl, .slice At nt ct])] ∧ ε 1 = .pointer (some ⟨g1, 0, none⟩) ∧ ε 3 = .int .i64 k) (μ := (p.locks.length)) ⟨rfl, 0, by omega, AllTo.zero, PairTo.zero, S1, rfl, rfl⟩ ?_
 rintro μk D ε w ⟨rfl, k, _, hs, hp, S, e1, e3⟩
 refine W_known 1 e1 (W_known 3 e3 ?_)
 clear e1 e3
 refine gw4 ?_; refine gw1 ?_
 refine o_load one_33 rfl (by first | exact S.cell 0 rfl rfl) rfl ?_
 refine gw1 ?_
 refine o_lss rfl rfl rfl (fun h10 => ?_) (fun h10 => ?_)
 ·refine gw8 ?_
  refine o_load one_33 rfl (by first | exact S.cell 0 rfl rfl) rfl ?_
  refine gw1 ?_
  obtain ⟨x, _, _, _, hxx, _, hM16, _, hc16, hr16⟩ := RdS.get (hLk) (k) (by omega)
  obtain ⟨Ag16, ng16, cg16, rfl, _, _, hE16⟩ := RLock.open_ hr16
  refine gw1 ?_
  refine o_loadN many_78 rfl (hc16.keep (S.keep0 _) hM16) (by rfl) rfl ?_
  refine o_alloc S zv_78 rfl rfl ?_
  intro g4 w4 S4 X4 G4
  refine o_storeN (kk := 0) (vs := [_, _, _, _, _, _]) S4 sz_78 rfl rfl rfl rfl rfl rfl rfl ?_
  intro w4_6 S4_6 X4_6
  dsimp only [setsAt, List.set] at S4_6
  refine gw4 ?_; refine gw1 ?_
  refine o_load one_3 rfl (by exact S4_6.cell 0 rfl rfl) rfl ?_
  refine gw1 ?_
  refine o_load one_31 rfl (by exact S4_6.cell 1 rfl rfl) rfl ?_
  refine gw1 ?_
  refine o_callb S4_6 has_78 rfl rfl (in_fn _ _ _) (fun h23 w23 S23 X23 => ?_) (fun h23 w23 S23 X23 => ?_)
  ·refine gw4 ?_; refine gw1 ?_
   refine o_load one_31 rfl (by exact S23.cell 1 rfl rfl) rfl ?_
   refine gw2 ?_; refine gw1 ?_
   refine o_load one_3 rfl (by exact S23.cell 0 rfl rfl) rfl ?_
   refine gw1 ?_
   have hin := of_decide_eq_true h23
   obtain ⟨c, _, _, _, hxc, _, _, _, hc30, hr30⟩ := RdS.get (hC) (x.cell.toNat) (by omega)
   obtain ⟨rfl, _, _, _, _⟩ := RCell.open_ hr30
   refine gw4 ?_
   refine o_load one_3 rfl (by exact S23.old (hc30 _ _ rfl)) rfl ?_
   refine gw1 ?_
   refine o_neq rfl rfl rfl (fun h33 => ?_) (fun h33 => ?_)
   ·refine gw16 ?_; refine gw16 ?_; refine gw4 ?_; refine gw1 ?_
    exact ⟨⟨_, rfl, fun _ => ⟨hs.all (by omega), hp.all (by omega)⟩⟩, S23.fin⟩
   refine gw4 ?_; refine gw1 ?_
   refine o_load one_31 rfl (by exact S23.cell 1 rfl rfl) rfl ?_
   refine gw2 ?_; refine gw1 ?_
   refine o_load one_3 rfl (by exact S23.cell 0 rfl rfl) rfl ?_
   refine gw4 ?_; refine gw1 ?_
   refine o_load one_3 rfl (by exact S23.old (hc30 _ _ rfl)) rfl ?_
   refine gw1 ?_
   refine o_neq rfl rfl rfl (fun h43 => ?_) (fun h43 => ?_)
   ·refine gw16 ?_; refine gw8 ?_; refine gw2 ?_; refine gw1 ?_
    exact ⟨⟨_, rfl, fun _ => ⟨hs.all (by omega), hp.all (by omega)⟩⟩, S23.fin⟩
   refine gw4 ?_; refine gw1 ?_
   refine o_load one_31 rfl (by exact S23.cell 1 rfl rfl) rfl ?_
   refine gw2 ?_; refine gw1 ?_
   refine o_load one_3 rfl (by exact S23.cell 0 rfl rfl) rfl ?_
   refine gw4 ?_; refine gw1 ?_
   cases hb52 : c.ghost
   ·refine o_load one_4 rfl (by exact (S23.old (hc30 _ _ rfl)).trans (congrArg (fun b => some (Value.bool b)) hb52)) rfl ?_
    refine gw4 ?_; refine gw1 ?_
    refine o_load one_3 rfl (by exact S23.cell 0 rfl rfl) rfl ?_
    refine gw2 ?_; refine gw1 ?_
    refine o_load one_32 rfl (by exact S23.cell 1 rfl rfl) rfl ?_
    refine gw2 ?_; refine gw1 ?_
    refine o_callb S23 has_78 rfl rfl (in_fn _ _ _) (fun h60 w60 S60 X60 => ?_) (fun h60 w60 S60 X60 => ?_)
    ·refine gw8 ?_; refine gw4 ?_
     refine W_loop (fun μj D ε w => D = [] ∧ ∃ j : Nat, (j + μj = (k)) ∧ (AllTo (p.locks) j (fun y => y.cell ≠ x.cell)) ∧ St [] w0 w [(some g4, 78, [.int .i64 x.cell, .int .i64 x.inv.op, .int .i64 x.inv.w, .int .i64 x.inv.n, .slice Ag16 ng16 cg16, .int .i64 x.module_]), (some g1, 36, [.slice Ac nc cc, .slice Am nm cm, .slice Al nl cl, .slice At nt ct])] ∧ ε 1 = .pointer (some ⟨g1, 0, none⟩) ∧ ε 3 = .int .i64 k ∧ ε 4 = .pointer (some ⟨g4, 0, none⟩) ∧ ε 5 = .int .i64 j) (μ := (k)) ⟨rfl, 0, by omega, AllTo.zero, S60, rfl, rfl, rfl, rfl⟩ ?_
     rintro μj D ε w ⟨rfl, j, _, hn, S, e1, e3, e4, e5⟩
     refine W_known 1 e1 (W_known 3 e3 (W_known 4 e4 (W_known 5 e5 ?_)))
     clear e1 e3 e4 e5
     refine gw4 ?_; refine gw1 ?_
     refine o_lss rfl rfl rfl (fun h65 => ?_) (fun h65 => ?_)
     ·refine gw4 ?_; refine gw2 ?_
      refine W_draw follows_mixed [0, 1, 2, 3, 4, 5, 6, 7, 8] [] [] (by kernel_rfl) rfl (Cl _ _ _ _) (Cl.start S) ?_
      refine gq1 ?_
      refine q_load one_33 rfl (fun w1 hw => by exact hw.1.cell 1 rfl rfl) rfl ?_
      refine gq1 ?_
      obtain ⟨y, _, _, _, hxy, _, _, _, hc71, hr71⟩ := RdS.get (hLk) (j) (by omega)
      obtain ⟨_, _, _, rfl, _, _, _⟩ := RLock.open_ hr71
      refine gq2 ?_
      refine q_load one_3 rfl (fun w1 hw => by exact hw.1.old (hc71 _ _ rfl)) rfl ?_
      refine gq1 ?_
      refine q_load one_3 rfl (fun w1 hw => by exact hw.1.cell 0 rfl rfl) rfl ?_
      refine q_eql rfl rfl rfl (fun h76 => ?_) (fun h76 => ?_)
      ·refine gq1 ?_
       refine BK_of ?_
       refine BKL_nil ?_
       rintro wR10 ⟨SR10, XR10⟩
       refine gw8 ?_
       exact ⟨⟨_, rfl, fun _ => ⟨hs.all (by omega), hp.all (by omega)⟩⟩, SR10.fin⟩
      refine gq1 ?_
      refine BK_of ?_
      refine BKL_nil ?_
      rintro wR10 ⟨SR10, XR10⟩
      refine gw8 ?_
      refine ⟨μj - 1, by omega, rfl, (j + 1), (by omega), (hn.succ hxy (h76)), SR10, rfl, rfl, rfl, rfl⟩
     refine gw4 ?_; refine gw2 ?_
     refine o_loadN many_36 rfl (S.cells 1 rfl) rfl rfl ?_
     refine gw1 ?_
     refine o_loadN many_73 rfl (cs := [_, _, _, _]) (S.cellsAt 0 1 4 rfl) rfl rfl ?_
     refine o_callb S has_80 rfl rfl (truth07_fn p _ M _ _ _ false (-1) (hP.keep (S.keep0 M)) (RdE.keep (S.keep0 M) _ _ hE16) (fun g hg => by have := hM g hg; have := S.size; omega)) (fun h80 w80 S80 X80 => ?_) (fun h80 w80 S80 X80 => ?_)
     ·refine gw8 ?_; refine gw1 ?_
      refine ⟨μk - 1, by omega, rfl, (k + 1), (by omega), (hs.succ hxx (⟨⟨by unfold isIn; omega, by rw [thr_some hxc]; omega, by rw [w_some (by omega) hxc]; omega, by rw [gh_some hxc]; exact hb52⟩, by have := of_decide_eq_true h60; unfold isIn; omega, of_dec h80⟩)), (hp.succ hxx (j := j) (by omega) hn), S80.tail, rfl, rfl⟩
     refine gw8 ?_; refine gw1 ?_
     exact ⟨⟨_, rfl, fun _ => ⟨hs.all (by omega), hp.all (by omega)⟩⟩, S80.fin⟩
    refine gw8 ?_; refine gw2 ?_; refine gw1 ?_
    exact ⟨⟨_, rfl, fun _ => ⟨hs.all (by omega), hp.all (by omega)⟩⟩, S60.fin⟩
   refine o_load one_4 rfl (by exact (S23.old (hc30 _ _ rfl)).trans (congrArg (fun b => some (Value.bool b)) hb52)) rfl ?_
   refine gw16 ?_; refine gw2 ?_
   exact ⟨⟨_, rfl, fun _ => ⟨hs.all (by omega), hp.all (by omega)⟩⟩, S23.fin⟩
  refine gw16 ?_; refine gw16 ?_; refine gw8 ?_; refine gw4 ?_; refine gw2 ?_; refine gw1 ?_
  exact ⟨⟨_, rfl, fun _ => ⟨hs.all (by omega), hp.all (by omega)⟩⟩, S23.fin⟩
 refine gw8 ?_; refine gw2 ?_
 exact ⟨⟨_, rfl, fun _ => ⟨hs.all (by omega), hp.all (by omega)⟩⟩, S.fin⟩
end Go.Proofs.YtgnbfmifjlnigaaGreatDoor
namespace Go.Fw
open Go.RowKit
theorem run_results_cell1 {P : Program} {fn : Func} {e : Env} {w : World} {a t n g : Nat} {cs : List Value} (h : fn.results = #[.cell a t]) (hM : Many P t n) (ha : e a = .pointer (some ⟨g, 0, none⟩)) (hc : Cells w g 0 cs) (hn : cs.length = n)
 {tmps : Array Value} (he : envOf { tmps, defers := [] } = e) : (results fn tmps).run P w = .ok (.agg cs.toArray) w := by
 subst he; subst hn
 simp only [envOf, Array.getD_eq_getD_getElem?] at ha
 have := run_loadCells_list (P := P) w ⟨g, 0, none⟩ cs (fun j v hj => by rw [Addr.add_lit]; exact hc j v hj)
 simp [results, h, asAddr, ha, hM w, this]
theorem ret_cell1 {P : Program} {fn : Func} {e : Env} {w : World} {R : Value → World → Prop} {a t n g : Nat} {cs : List Value} (h : fn.results = #[.cell a t]) (hM : Many P t n) (ha : e a = .pointer (some ⟨g, 0, none⟩)) (hc : Cells w g 0 cs) (hn : cs.length = n)
 (hR : R (.agg cs.toArray) w) : RetPost P fn R [] e w :=
 ⟨rfl, fun _ he => ⟨_, run_results_cell1 h hM ha hc hn he, hR⟩⟩
theorem ret_cell_tmp {P : Program} {fn : Func} {e : Env} {w : World} {R : Value → World → Prop} {a t n g u : Nat} {cs : List Value} {v : Value} (h : fn.results = #[.cell a t, .tmp u]) (hM : Many P t n) (ha : e a = .pointer (some ⟨g, 0, none⟩)) (hc : Cells w g 0 cs) (hn : cs.length = n) (hu : e u = v)
 (hR : R (.tuple #[.agg cs.toArray, v]) w) : RetPost P fn R [] e w := by
 refine ⟨rfl, fun tmps he => ⟨_, ?_, hR⟩⟩
 subst he; subst hn; subst hu
 simp only [envOf, Array.getD_eq_getD_getElem?] at ha
 have := run_loadCells_list (P := P) w ⟨g, 0, none⟩ cs (fun j v hj => by rw [Addr.add_lit]; exact hc j v hj)
 simp [results, h, asAddr, ha, hM w, this, envOf]
theorem rdE_leaf {M : List Nat} {w : World} {op wd n : Int} (h1 : i64 op) (h2 : i64 wd) (h3 : i64 n) : RdE M w ⟨op, wd, n, []⟩ [.int .i64 op, .int .i64 wd, .int .i64 n, .slice none 0 0] := by
 rw [RdE]; exact ⟨none, 0, 0, rfl, h1, h2, h3, rfl, Nat.le_refl _, by unfold maxLen; omega, by omega, fun h => absurd h (by omega)⟩
theorem rdE_two {M : List Nat} {w : World} {op wd : Int} {a b : E} {ca cb : List Value} {g : Nat} (h1 : i64 op) (h2 : i64 wd) (hg : g ∉ M) (hc : Cells w g 0 (ca ++ cb)) (ha : RdE M w a ca) (hb : RdE M w b cb) :
 RdE M w ⟨op, wd, 0, [a, b]⟩ [.int .i64 op, .int .i64 wd, .int .i64 0, .slice (some ⟨g, 0, none⟩) 2 2] := by
 have la := ha.length
 rw [RdE]
 refine ⟨_, 2, 2, rfl, h1, h2, by unfold i64; simp, rfl, Nat.le_refl _, by unfold maxLen; omega, by omega, fun _ => ⟨g, 0, rfl, hg, fun i hi => ?_⟩⟩
 have hi2 : i < 2 := hi
 rcases (show i = 0 ∨ i = 1 by omega) with rfl | rfl
 ·refine ⟨ca, fun j v hj => ?_, ha⟩
  have hl : j < ca.length := (List.getElem?_eq_some_iff.1 hj).1
  have := hc j v (by rw [List.getElem?_append_left hl]; exact hj)
  simpa using this
 ·refine ⟨cb, fun j v hj => ?_, hb⟩
  have := hc (4 + j) v (by rw [List.getElem?_append_right (by omega)]; simpa [la] using hj)
  simpa using this
end Go.Fw
namespace Go.Proofs.YtgnbfmifjlnigaaGreatDoor
open Go.Fw Go.RowKit
theorem const_v (n wd : Int) (w0 : World) : Does Tryz.prog 157 #[.int .i64 n, .int .i64 wd] w0 fun v w' => v = .agg #[.int .i64 1, .int .i64 wd, .int .i64 n, .slice none 0 0] ∧ Below w0.heap.size w0 w' := by
 have S := St.refl w0
 refine Does_enter Tryz.func157 rfl Tryz.ntmps157 rfl ?_
 refine gw2 ?_
 refine o_alloc S zv_73 rfl rfl ?_
 intro g4 w4 S4 X4 G4
 refine gw4 ?_; refine gw1 ?_
 refine o_build bld_73 (vs := [(0, .int .i64 _), (1, .int .i64 _), (2, .int .i64 _)]) (cs := [_, _, _, _]) rfl rfl rfl rfl ?_
 first | refine o_storeN (kk := 0) (vs := [_, _, _, _]) S4 sz_73 rfl rfl rfl rfl rfl rfl rfl ?_
 intro w1_3 S1_3 X1_3
 dsimp only [setsAt, List.set] at S1_3
 refine gw2 ?_
 exact ret_cell1 rfl many_73 rfl (S1_3.cells 0 rfl) rfl ⟨rfl, S1_3.fin⟩
theorem one07_fn (w0 : World) : Does Tryz.prog 135 #[] w0 fun v w' => v = .agg #[.int .i64 1, .int .i64 1, .int .i64 1, .slice none 0 0] ∧ Below w0.heap.size w0 w' := by
 have S := St.refl w0
 refine Does_enter Tryz.func135 rfl Tryz.ntmps135 rfl ?_
 refine gw2 ?_
 refine o_alloc S zv_73 rfl rfl ?_
 intro g0 w0 S0 X0 G0
 refine gw2 ?_; refine gw1 ?_
 refine o_callr S0 has_157 rfl rfl (const_v 1 1 _) ?_
 intro w1 S1 X1
 first | refine o_storeN (kk := 0) (vs := [_, _, _, _]) S1 sz_73 rfl rfl rfl rfl rfl rfl rfl ?_
 intro w1_1 S1_1 X1_1
 dsimp only [setsAt, List.set] at S1_1
 refine gw2 ?_
 exact ret_cell1 rfl many_73 rfl (S1_1.cells 0 rfl) rfl ⟨rfl, S1_1.fin⟩
theorem same06_fn : ∀ (a : E) (b : E) (M : List Nat) (w0 : World) (ca cb : List Value), RdE M w0 a ca → RdE M w0 b cb →
 Does Tryz.prog 134 #[.agg ca.toArray, .agg cb.toArray] w0 fun v w' => v = .bool (dec (a = b)) ∧ Below w0.heap.size w0 w' := by
 intro a
 induction a using E.induct with
 | _ a ih =>
 intro b M w0 ca cb ha hb
 obtain ⟨A, n, c, rfl, _, _, _, _, _⟩ := ha.cells
 obtain ⟨B, m, d, rfl, _, _, _, _, _⟩ := hb.cells
 have hka := ha.kidsRd
 have hkb := hb.kidsRd
 have S := St.refl w0
 refine Does_enter Tryz.func134 rfl Tryz.ntmps134 rfl ?_
 refine gw2 ?_
 refine o_boxa S (by conv => lhs; whnf) rfl ?_
 intro g2 w2 S2 X2 G2
 refine o_boxa S2 (by conv => lhs; whnf) rfl ?_
 intro g3 w3 S3 X3 G3
 refine gw4 ?_; refine gw2 ?_
 refine o_load one_3 rfl (by exact S3.cell 1 rfl rfl) rfl ?_
 refine gw1 ?_
 refine o_load one_3 rfl (by exact S3.cell 0 rfl rfl) rfl ?_
 refine o_neq rfl rfl rfl (fun h10 => ?_) (fun h10 => ?_)
 ·refine gw16 ?_; refine gw8 ?_; refine gw4 ?_; refine gw2 ?_; refine gw1 ?_
  refine ⟨vdec_f (fun h => ?_), S3.fin⟩; subst h; omega
 refine gw4 ?_
 refine o_load one_3 rfl (by exact S3.cell 1 rfl rfl) rfl ?_
 refine gw2 ?_; refine gw1 ?_
 refine o_load one_3 rfl (by exact S3.cell 0 rfl rfl) rfl ?_
 refine gw1 ?_
 refine o_neq rfl rfl rfl (fun h16 => ?_) (fun h16 => ?_)
 ·refine gw16 ?_; refine gw8 ?_; refine gw1 ?_
  refine ⟨vdec_f (fun h => ?_), S3.fin⟩; subst h; omega
 refine gw4 ?_; refine gw1 ?_
 refine o_load one_3 rfl (by exact S3.cell 1 rfl rfl) rfl ?_
 refine gw2 ?_; refine gw1 ?_
 refine o_load one_3 rfl (by exact S3.cell 0 rfl rfl) rfl ?_
 refine gw1 ?_
 refine o_neq rfl rfl rfl (fun h23 => ?_) (fun h23 => ?_)
 ·refine gw16 ?_; refine gw2 ?_
  refine ⟨vdec_f (fun h => ?_), S3.fin⟩; subst h; omega
 refine gw4 ?_; refine gw1 ?_
 refine o_load one_71 rfl (by exact S3.cell 1 rfl rfl) rfl ?_
 refine gw4 ?_; refine gw1 ?_
 refine o_load one_71 rfl (by exact S3.cell 0 rfl rfl) rfl ?_
 refine gw2 ?_; refine gw1 ?_
 refine o_neq rfl rfl rfl (fun h32 => ?_) (fun h32 => ?_)
 ·refine gw8 ?_; refine gw1 ?_
  refine ⟨vdec_f (fun h => ?_), S3.fin⟩; subst h; omega
 refine gw8 ?_; refine gw2 ?_
 refine W_loop (fun μk D ε w => D = [] ∧ ∃ k : Nat, (k + μk = (a.kids.length)) ∧ (a.kids.take k = b.kids.take k) ∧ St [] w0 w [(some g3, 73, [.int .i64 b.op, .int .i64 b.w, .int .i64 b.n, .slice B m d]), (some g2, 73, [.int .i64 a.op, .int .i64 a.w, .int .i64 a.n, .slice A n c])] ∧ ε 2 = .pointer (some ⟨g2, 0, none⟩) ∧ ε 3 = .pointer (some ⟨g3, 0, none⟩) ∧ ε 5 = .int .i64 k) (μ := (a.kids.length)) ⟨rfl, 0, by omega, by simp, S3, rfl, rfl, rfl⟩ ?_
 rintro μk D ε w ⟨rfl, k, _, hs, S, e2, e3, e5⟩
 refine W_known 2 e2 (W_known 3 e3 (W_known 5 e5 ?_))
 clear e2 e3 e5
 refine gw4 ?_; refine gw1 ?_
 refine o_load one_71 rfl (by exact S.cell 1 rfl rfl) rfl ?_
 refine gw1 ?_
 refine o_lss rfl rfl rfl (fun h38 => ?_) (fun h38 => ?_)
 ·refine gw4 ?_; refine gw2 ?_
  refine W_draw follows_mixed [0, 1, 2, 3, 4, 5, 6, 7, 8, 9, 10, 11] [] [] (by kernel_rfl) rfl (Cl _ _ _ _) (Cl.start S) ?_
  refine gq1 ?_
  refine q_load one_71 rfl (fun w1 hw => by exact hw.1.cell 1 rfl rfl) rfl ?_
  refine gq1 ?_
  obtain ⟨x, _, _, _, hxx, _, hM44, _, hc44, hr44⟩ := RdS.get (hka) (k) (by omega)
  obtain ⟨_, _, _, rfl, _, _, _, _, _⟩ := RdE.cells hr44
  refine gq1 ?_
  refine q_loadN many_73 rfl (fun w1 hw => hc44.keep (hw.1.keep0 _) hM44) (by rfl) rfl ?_
  refine gq1 ?_
  refine q_load one_71 rfl (fun w1 hw => by exact hw.1.cell 0 rfl rfl) rfl ?_
  refine gq1 ?_
  obtain ⟨y, _, _, _, hxy, _, hM49, _, hc49, hr49⟩ := RdS.get (hkb) (k) (by omega)
  obtain ⟨_, _, _, rfl, _, _, _, _, _⟩ := RdE.cells hr49
  refine gq1 ?_
  refine q_loadN many_73 rfl (fun w1 hw => hc49.keep (hw.1.keep0 _) hM49) (by rfl) rfl ?_
  refine q_callb has_134 rfl rfl (fun w1 S1 X1 => ih x (some_mem hxx) y M _ _ _ (RdE.keep (S1.keep0 M) _ _ hr44) (RdE.keep (S1.keep0 M) _ _ hr49)) (fun h51 => ?_) (fun h51 => ?_)
  ·refine gq2 ?_
   refine BK_of ?_
   refine BKL_nil ?_
   rintro wR6 ⟨SR6, XR6⟩
   refine gw8 ?_
   refine ⟨μk - 1, by omega, rfl, (k + 1), (by omega), ((by rw [take_some hxx, take_some hxy, hs, of_dec h51])), SR6, rfl, rfl, rfl⟩
  refine gq2 ?_
  refine BK_of ?_
  refine BKL_nil ?_
  rintro wR6 ⟨SR6, XR6⟩
  refine gw8 ?_
  refine ⟨vdec_f (fun h => of_dec_f h51 ?_), SR6.fin⟩; subst h; rw [hxx] at hxy; exact Option.some.inj hxy
 refine gw8 ?_; refine gw2 ?_
 refine ⟨vdec_t (E.ext (by omega) (by omega) (by omega) ?_), S.fin⟩; rwa [List.take_of_length_le (by omega), List.take_of_length_le (by omega)] at hs
theorem rdOne {M : List Nat} {w : World} : RdE M w ⟨1, 1, 1, []⟩ [.int .i64 1, .int .i64 1, .int .i64 1, .slice none 0 0] := rdE_leaf (by unfold i64; omega) (by unfold i64; omega) (by unfold i64; omega)
set_option maxHeartbeats 2000000 in
theorem kind07_fn (p : ProgD) (s : StepD) (t : Int) (M : List Nat) (w0 : World) (cs ss : List Value) (hP : RdProg M w0 p cs) (hS : RStep M w0 ss s) (hM : ∀ g ∈ M, g < w0.heap.size)
 (hg : s.guard.valid p.cells false = true) (hs : ∀ a ∈ s.set, isIn a.cell p.cells.length ∧ a.to.valid p.cells false = true) :
 Does Tryz.prog 109 #[.agg cs.toArray, .int .i64 t, .agg ss.toArray] w0 fun v w' => (∃ b, v = .bool b ∧ (b = true → KindOK p t s)) ∧ Below w0.heap.size w0 w' := by
 obtain ⟨Ac, nc, cc, Am, nm, cm, Al, nl, cl, At, nt, ct, rfl, hC, _, _, hTh, _, _, _, _, _, _, _, _⟩ := hP.open_
 obtain ⟨Ag, ng, cg, As, ns, cs', rfl, ⟨_, _, _, _, _⟩, hG, hSet, _, _⟩ := hS.open_
 have S := St.refl w0
 have hM' : ∀ w' : World, w0.heap.size ≤ w'.heap.size → ∀ g ∈ M, g < w'.heap.size := fun w' h g hg => by have := hM g hg; omega
 have hin : ∀ a ∈ s.set, 0 ≤ a.cell ∧ a.cell < p.cells.length := fun a ha => (hs a ha).1
 refine Does_enter Tryz.func109 rfl Tryz.ntmps109 rfl ?_
 refine gw2 ?_
 refine o_boxa S (by conv => lhs; whnf) rfl ?_
 intro g3 w3 S3 X3 G3
 refine o_boxa S3 (by conv => lhs; whnf) rfl ?_
 intro g5 w5 S5 X5 G5
 refine gw4 ?_; refine gw1 ?_
 refine o_load one_110 rfl (by exact S5.cell 0 rfl rfl) rfl ?_
 refine gw4 ?_; refine gw2 ?_
 refine o_load one_3 rfl (by exact S5.cell 0 rfl rfl) rfl ?_
 refine o_eqlD rfl rfl rfl ?_
 refine gw4 ?_; refine gw1 ?_
 refine o_loadN many_36 rfl (S5.cells 1 rfl) rfl rfl ?_
 refine gw1 ?_
 refine o_loadN many_73 rfl (cs := [_, _, _, _]) (S5.cellsAt 0 3 4 rfl) rfl rfl ?_
 refine gw2 ?_
 refine o_callb S5 has_84 rfl rfl (over07_fn p _ M _ _ _ _ false t (hP.keep (S5.keep0 M)) (RdE.keep (S5.keep0 M) _ _ hG) (hM' _ S5.size) hg) (fun h26 w26 S26 X26 => ?_) (fun h26 w26 S26 X26 => ?_)
 ·refine gw8 ?_; refine gw2 ?_
  refine W_loop (fun μk D ε w => D = [] ∧ ∃ k : Nat, (k + μk = (s.set.length)) ∧ (∀ j a, s.set[j]? = some a → j < k → 0 < j ∨ s.kind ≠ 2 → overT p.cells a.to (decide (s.kind = 4)) t) ∧ (AllTo (s.set) k (fun a => thrAt p.cells a.cell = t ∨ thrAt p.cells a.cell = -1)) ∧ St [] w0 w [(some g5, 112, [.int .i64 s.kind, .int .i64 s.frm, .int .i64 s.to, .int .i64 s.guard.op, .int .i64 s.guard.w, .int .i64 s.guard.n, .slice Ag ng cg, .slice As ns cs', .bool s.release, .int .i64 s.target, .int .i64 s.module_]), (some g3, 36, [.slice Ac nc cc, .slice Am nm cm, .slice Al nl cl, .slice At nt ct])] ∧ ε 1 = .int .i64 t ∧ ε 3 = .pointer (some ⟨g3, 0, none⟩) ∧ ε 5 = .pointer (some ⟨g5, 0, none⟩) ∧ ε 7 = .int .i64 ns ∧ ε 8 = .bool (decide (s.kind = 4)) ∧ ε 9 = .int .i64 k) (μ := (s.set.length)) ⟨rfl, 0, by omega, (fun j a _ h => absurd h (by omega)), AllTo.zero, S26, rfl, rfl, rfl, rfl, rfl, rfl⟩ ?_
  rintro μk D ε w ⟨rfl, k, _, hv, hc, S, e1, e3, e5, e7, e8, e9⟩
  refine W_known 1 e1 (W_known 3 e3 (W_known 5 e5 (W_known 7 e7 (W_known 8 e8 (W_known 9 e9 ?_)))))
  clear e1 e3 e5 e7 e8 e9
  refine gw4 ?_; refine gw1 ?_
  refine o_lss rfl rfl rfl (fun h30 => ?_) (fun h30 => ?_)
  ·refine gw4 ?_; refine gw2 ?_; refine gw1 ?_
   refine W_draw follows_mixed [0, 1, 2, 3, 4, 5, 6, 7, 8, 9, 10, 11, 12, 13, 14, 15, 16, 17, 18, 19] [] [] (by kernel_rfl) rfl (Cl _ _ _ _) (Cl.start S) ?_
   refine gq1 ?_
   refine q_gtr rfl rfl rfl (fun h34 => ?_) (fun h34 => ?_)
   ·refine gq4 ?_; refine gq2 ?_; refine gq1 ?_
    refine q_loadN many_36 rfl (fun w1 hw => hw.1.cells 1 rfl) rfl rfl ?_
    refine gq2 ?_; refine gq1 ?_
    refine q_load one_110 rfl (fun w1 hw => by exact hw.1.cell 0 rfl rfl) rfl ?_
    refine gq2 ?_; refine gq1 ?_
    obtain ⟨a, b45, p45, c45, hxa, hA45, hM45, hl45, hc45, hr45⟩ := RdS.get (hSet) (k) (by omega)
    obtain ⟨Ae45, ne45, ce45, rfl, ia45, hE45⟩ := RAssign.open_ hr45
    refine gq4 ?_
    refine q_loadN many_73 rfl (fun w1 hw => (Cells.sub hc45 1 4).keep (hw.1.keep0 _) hM45) (by rfl) rfl ?_
    refine gq4 ?_; refine gq1 ?_
    refine q_callb has_84 rfl rfl (fun w1 S1 X1 => over07_fn p _ M _ _ _ _ false t (hP.keep (S1.keep0 M)) (RdE.keep (S1.keep0 M) _ _ hE45) (hM' _ S1.size) (hs a (some_mem hxa)).2) (fun h50 => ?_) (fun h50 => ?_)
    ·refine gq4 ?_
     refine BK_of ?_
     refine BKL_nil ?_
     rintro wR8 ⟨SR8, XR8⟩
     refine gw4 ?_; refine gw2 ?_
     refine o_load one_110 rfl (by exact SR8.cell 0 rfl rfl) rfl ?_
     refine gw1 ?_
     obtain ⟨b, b56, p56, c56, hxb, hA56, hM56, hl56, hc56, hr56⟩ := RdS.get (hSet) (k) (by omega)
     obtain ⟨Ae56, ne56, ce56, rfl, ia56, hE56⟩ := RAssign.open_ hr56
     refine gw2 ?_
     refine o_load one_3 rfl (by exact SR8.old (hc56 _ _ rfl)) rfl ?_
     refine gw4 ?_
     refine o_loadN many_36 rfl (SR8.cells 1 rfl) rfl rfl ?_
     refine gw2 ?_
     refine o_callb SR8 has_132 rfl rfl (own_fn p M _ _ _ t (hP.keep (SR8.keep0 M)) (hin b (some_mem hxb)).1 (hin b (some_mem hxb)).2) (fun h62 w62 S62 X62 => ?_) (fun h62 w62 S62 X62 => ?_)
     ·refine gw8 ?_; refine gw4 ?_; refine gw2 ?_; refine gw1 ?_
      refine ⟨μk - 1, by omega, rfl, (k + 1), (by omega), ?_, ?_, S62, rfl, rfl, rfl, rfl, rfl, rfl⟩
      ·intro j a' ha' hj hor
       by_cases hjk : j = k
       ·subst hjk
        rw [hxa] at ha'; cases ha'; exact of_dec h50
       ·exact hv j a' ha' (by omega) hor
      ·refine hc.succ hxb ?_
       exact .inl (of_decide_eq_true h62)
     refine gw2 ?_; refine gw1 ?_
     refine o_loadN many_36 rfl (S62.cells 1 rfl) rfl rfl ?_
     refine gw2 ?_; refine gw1 ?_
     refine o_callb S62 has_133 rfl rfl (shared_fn p M _ _ _ (hP.keep (S62.keep0 M)) (hin b (some_mem hxb)).1 (hin b (some_mem hxb)).2) (fun h67 w67 S67 X67 => ?_) (fun h67 w67 S67 X67 => ?_)
     ·refine gw8 ?_; refine gw2 ?_; refine gw1 ?_
      refine ⟨μk - 1, by omega, rfl, (k + 1), (by omega), ?_, ?_, S67, rfl, rfl, rfl, rfl, rfl, rfl⟩
      ·intro j a' ha' hj hor
       by_cases hjk : j = k
       ·subst hjk
        rw [hxa] at ha'; cases ha'; exact of_dec h50
       ·exact hv j a' ha' (by omega) hor
      ·refine hc.succ hxb ?_
       exact .inr (of_decide_eq_true h67)
     refine gw8 ?_; refine gw2 ?_; refine gw1 ?_
     exact ⟨⟨_, rfl, fun h => absurd h Bool.false_ne_true⟩, S67.fin⟩
    refine gq4 ?_
    refine BK_of ?_
    refine BKL_nil ?_
    rintro wR8 ⟨SR8, XR8⟩
    refine gw8 ?_
    exact ⟨⟨_, rfl, fun h => absurd h Bool.false_ne_true⟩, SR8.fin⟩
   refine gq4 ?_
   refine q_load one_3 rfl (fun w1 hw => by exact hw.1.cell 0 rfl rfl) rfl ?_
   refine gq1 ?_
   refine q_neq rfl rfl rfl (fun h38 => ?_) (fun h38 => ?_)
   ·refine gq2 ?_; refine gq1 ?_
    refine q_loadN many_36 rfl (fun w1 hw => hw.1.cells 1 rfl) rfl rfl ?_
    refine gq2 ?_; refine gq1 ?_
    refine q_load one_110 rfl (fun w1 hw => by exact hw.1.cell 0 rfl rfl) rfl ?_
    refine gq2 ?_; refine gq1 ?_
    obtain ⟨a, b45, p45, c45, hxa, hA45, hM45, hl45, hc45, hr45⟩ := RdS.get (hSet) (k) (by omega)
    obtain ⟨Ae45, ne45, ce45, rfl, ia45, hE45⟩ := RAssign.open_ hr45
    refine gq4 ?_
    refine q_loadN many_73 rfl (fun w1 hw => (Cells.sub hc45 1 4).keep (hw.1.keep0 _) hM45) (by rfl) rfl ?_
    refine gq4 ?_; refine gq1 ?_
    refine q_callb has_84 rfl rfl (fun w1 S1 X1 => over07_fn p _ M _ _ _ _ false t (hP.keep (S1.keep0 M)) (RdE.keep (S1.keep0 M) _ _ hE45) (hM' _ S1.size) (hs a (some_mem hxa)).2) (fun h50 => ?_) (fun h50 => ?_)
    ·refine gq4 ?_
     refine BK_of ?_
     refine BKL_nil ?_
     rintro wR8 ⟨SR8, XR8⟩
     refine gw4 ?_; refine gw2 ?_
     refine o_load one_110 rfl (by exact SR8.cell 0 rfl rfl) rfl ?_
     refine gw1 ?_
     obtain ⟨b, b56, p56, c56, hxb, hA56, hM56, hl56, hc56, hr56⟩ := RdS.get (hSet) (k) (by omega)
     obtain ⟨Ae56, ne56, ce56, rfl, ia56, hE56⟩ := RAssign.open_ hr56
     refine gw2 ?_
     refine o_load one_3 rfl (by exact SR8.old (hc56 _ _ rfl)) rfl ?_
     refine gw4 ?_
     refine o_loadN many_36 rfl (SR8.cells 1 rfl) rfl rfl ?_
     refine gw2 ?_
     refine o_callb SR8 has_132 rfl rfl (own_fn p M _ _ _ t (hP.keep (SR8.keep0 M)) (hin b (some_mem hxb)).1 (hin b (some_mem hxb)).2) (fun h62 w62 S62 X62 => ?_) (fun h62 w62 S62 X62 => ?_)
     ·refine gw8 ?_; refine gw4 ?_; refine gw2 ?_; refine gw1 ?_
      refine ⟨μk - 1, by omega, rfl, (k + 1), (by omega), ?_, ?_, S62, rfl, rfl, rfl, rfl, rfl, rfl⟩
      ·intro j a' ha' hj hor
       by_cases hjk : j = k
       ·subst hjk
        rw [hxa] at ha'; cases ha'; exact of_dec h50
       ·exact hv j a' ha' (by omega) hor
      ·refine hc.succ hxb ?_
       exact .inl (of_decide_eq_true h62)
     refine gw2 ?_; refine gw1 ?_
     refine o_loadN many_36 rfl (S62.cells 1 rfl) rfl rfl ?_
     refine gw2 ?_; refine gw1 ?_
     refine o_callb S62 has_133 rfl rfl (shared_fn p M _ _ _ (hP.keep (S62.keep0 M)) (hin b (some_mem hxb)).1 (hin b (some_mem hxb)).2) (fun h67 w67 S67 X67 => ?_) (fun h67 w67 S67 X67 => ?_)
     ·refine gw8 ?_; refine gw2 ?_; refine gw1 ?_
      refine ⟨μk - 1, by omega, rfl, (k + 1), (by omega), ?_, ?_, S67, rfl, rfl, rfl, rfl, rfl, rfl⟩
      ·intro j a' ha' hj hor
       by_cases hjk : j = k
       ·subst hjk
        rw [hxa] at ha'; cases ha'; exact of_dec h50
       ·exact hv j a' ha' (by omega) hor
      ·refine hc.succ hxb ?_
       exact .inr (of_decide_eq_true h67)
     refine gw8 ?_; refine gw2 ?_; refine gw1 ?_
     exact ⟨⟨_, rfl, fun h => absurd h Bool.false_ne_true⟩, S67.fin⟩
    refine gq4 ?_
    refine BK_of ?_
    refine BKL_nil ?_
    rintro wR8 ⟨SR8, XR8⟩
    refine gw8 ?_
    exact ⟨⟨_, rfl, fun h => absurd h Bool.false_ne_true⟩, SR8.fin⟩
   refine gq8 ?_; refine gq4 ?_; refine gq2 ?_; refine gq1 ?_
   refine BK_of ?_
   refine BKL_nil ?_
   rintro wR8 ⟨SR8, XR8⟩
   refine gw4 ?_; refine gw2 ?_
   refine o_load one_110 rfl (by exact SR8.cell 0 rfl rfl) rfl ?_
   refine gw1 ?_
   obtain ⟨b, b56, p56, c56, hxb, hA56, hM56, hl56, hc56, hr56⟩ := RdS.get (hSet) (k) (by omega)
   obtain ⟨Ae56, ne56, ce56, rfl, ia56, hE56⟩ := RAssign.open_ hr56
   refine gw2 ?_
   refine o_load one_3 rfl (by exact SR8.old (hc56 _ _ rfl)) rfl ?_
   refine gw4 ?_
   refine o_loadN many_36 rfl (SR8.cells 1 rfl) rfl rfl ?_
   refine gw2 ?_
   refine o_callb SR8 has_132 rfl rfl (own_fn p M _ _ _ t (hP.keep (SR8.keep0 M)) (hin b (some_mem hxb)).1 (hin b (some_mem hxb)).2) (fun h62 w62 S62 X62 => ?_) (fun h62 w62 S62 X62 => ?_)
   ·refine gw8 ?_; refine gw4 ?_; refine gw2 ?_; refine gw1 ?_
    refine ⟨μk - 1, by omega, rfl, (k + 1), (by omega), ?_, ?_, S62, rfl, rfl, rfl, rfl, rfl, rfl⟩
    ·intro j a' ha' hj hor
     by_cases hjk : j = k
     ·subst hjk
      exfalso; omega
     ·exact hv j a' ha' (by omega) hor
    ·refine hc.succ hxb ?_
     exact .inl (of_decide_eq_true h62)
   refine gw2 ?_; refine gw1 ?_
   refine o_loadN many_36 rfl (S62.cells 1 rfl) rfl rfl ?_
   refine gw2 ?_; refine gw1 ?_
   refine o_callb S62 has_133 rfl rfl (shared_fn p M _ _ _ (hP.keep (S62.keep0 M)) (hin b (some_mem hxb)).1 (hin b (some_mem hxb)).2) (fun h67 w67 S67 X67 => ?_) (fun h67 w67 S67 X67 => ?_)
   ·refine gw8 ?_; refine gw2 ?_; refine gw1 ?_
    refine ⟨μk - 1, by omega, rfl, (k + 1), (by omega), ?_, ?_, S67, rfl, rfl, rfl, rfl, rfl, rfl⟩
    ·intro j a' ha' hj hor
     by_cases hjk : j = k
     ·subst hjk
      exfalso; omega
     ·exact hv j a' ha' (by omega) hor
    ·refine hc.succ hxb ?_
     exact .inr (of_decide_eq_true h67)
   refine gw8 ?_; refine gw2 ?_; refine gw1 ?_
   exact ⟨⟨_, rfl, fun h => absurd h Bool.false_ne_true⟩, S67.fin⟩
  refine gw8 ?_
  refine o_load one_3 rfl (by exact S.cell 0 rfl rfl) rfl ?_
  refine gw4 ?_
  refine o_eql rfl rfl rfl (fun h73 => ?_) (fun h73 => ?_)
  ·refine gw8 ?_; refine gw1 ?_
   refine W_loop (fun μi D ε w => D = [] ∧ ∃ i : Nat, (i + μi = (s.set.length)) ∧ (AllTo (s.set) i (fun a => thrAt p.cells a.cell = t)) ∧ St [] w0 w [(some g5, 112, [.int .i64 s.kind, .int .i64 s.frm, .int .i64 s.to, .int .i64 s.guard.op, .int .i64 s.guard.w, .int .i64 s.guard.n, .slice Ag ng cg, .slice As ns cs', .bool s.release, .int .i64 s.target, .int .i64 s.module_]), (some g3, 36, [.slice Ac nc cc, .slice Am nm cm, .slice Al nl cl, .slice At nt ct])] ∧ ε 1 = .int .i64 t ∧ ε 3 = .pointer (some ⟨g3, 0, none⟩) ∧ ε 5 = .pointer (some ⟨g5, 0, none⟩) ∧ ε 7 = .int .i64 ns ∧ ε 11 = .int .i64 i) (μ := (s.set.length)) ⟨rfl, 0, by omega, AllTo.zero, S, rfl, rfl, rfl, rfl, rfl⟩ ?_
   rintro μi D ε w ⟨rfl, i, hi, ho, S, e1, e3, e5, e7, e11⟩
   refine W_known 1 e1 (W_known 3 e3 (W_known 5 e5 (W_known 7 e7 (W_known 11 e11 ?_))))
   clear e1 e3 e5 e7 e11
   refine gw4 ?_; refine gw1 ?_
   refine o_lss rfl rfl rfl (fun h76 => ?_) (fun h76 => ?_)
   ·refine gw4 ?_; refine gw2 ?_
    refine W_draw follows_mixed [0, 1, 2, 3, 4, 5, 6, 7, 8, 9] [] [] (by kernel_rfl) rfl (Cl _ _ _ _) (Cl.start S) ?_
    refine q_loadN many_36 rfl (fun w1 hw => hw.1.cells 1 rfl) rfl rfl ?_
    refine gq1 ?_
    refine q_load one_110 rfl (fun w1 hw => by exact hw.1.cell 0 rfl rfl) rfl ?_
    refine gq1 ?_
    obtain ⟨a, _, _, _, hxa, _, _, _, hc83, hr83⟩ := RdS.get (hSet) (i) (by omega)
    obtain ⟨_, _, _, rfl, _, _⟩ := RAssign.open_ hr83
    refine gq2 ?_
    refine q_load one_3 rfl (fun w1 hw => by exact hw.1.old (hc83 _ _ rfl)) rfl ?_
    refine gq1 ?_
    refine q_callb has_132 rfl rfl (fun w1 S1 X1 => own_fn p M _ _ _ t (hP.keep (S1.keep0 M)) (hin a (some_mem hxa)).1 (hin a (some_mem hxa)).2) (fun h87 => ?_) (fun h87 => ?_)
    ·refine gq2 ?_
     refine BK_of ?_
     refine BKL_nil ?_
     rintro wR18 ⟨SR18, XR18⟩
     refine gw8 ?_
     refine ⟨μi - 1, by omega, rfl, (i + 1), (by omega), (ho.succ hxa (of_decide_eq_true h87)), SR18, rfl, rfl, rfl, rfl, rfl⟩
    refine gq2 ?_
    refine BK_of ?_
    refine BKL_nil ?_
    rintro wR18 ⟨SR18, XR18⟩
    refine gw8 ?_
    exact ⟨⟨_, rfl, fun h => absurd h Bool.false_ne_true⟩, SR18.fin⟩
   refine gw8 ?_; refine gw2 ?_
   refine ⟨⟨_, rfl, fun _ => ⟨of_dec h26, fun i hi hor => hv i _ (List.getElem?_eq_getElem hi) (by omega) hor, hc.all (by omega), ?_, ?_, ?_, ?_, ?_, ?_⟩⟩, S.fin⟩ <;> intro hkk
   all_goals first
    | (exfalso; omega)
    | exact ho.all (by omega)
  refine gw4 ?_; refine gw1 ?_
  refine o_eql rfl rfl rfl (fun h90 => ?_) (fun h90 => ?_)
  ·refine gw4 ?_; refine gw1 ?_
   refine W_draw follows_mixed [0, 1, 2, 3, 4, 5, 6, 7, 8, 9, 10, 11, 12, 13, 14, 15, 16, 17, 18, 19, 20, 21, 22, 23, 24] [] [] (by kernel_rfl) rfl (Cl _ _ _ _) (Cl.start S) ?_
   refine gq1 ?_
   refine q_eql rfl rfl rfl (fun h92 => ?_) (fun h92 => ?_)
   ·refine gq16 ?_; refine gq8 ?_
    refine BK_of ?_
    refine BKL_nil ?_
    rintro wR22 ⟨SR22, XR22⟩
    refine gw8 ?_
    exact ⟨⟨_, rfl, fun h => absurd h Bool.false_ne_true⟩, SR22.fin⟩
   refine gq2 ?_
   refine q_loadN many_36 rfl (fun w1 hw => hw.1.cells 1 rfl) rfl rfl ?_
   refine gq2 ?_; refine gq1 ?_
   refine q_load one_110 rfl (fun w1 hw => by exact hw.1.cell 0 rfl rfl) rfl ?_
   refine gq1 ?_
   obtain ⟨a0, _, _, _, hxa0, _, _, _, hc97, hr97⟩ := RdS.get (hSet) (0) (by omega)
   obtain ⟨_, _, _, rfl, _, _⟩ := RAssign.open_ hr97
   refine gq4 ?_
   refine q_load one_3 rfl (fun w1 hw => by exact hw.1.old (hc97 _ _ rfl)) rfl ?_
   refine gq2 ?_; refine gq1 ?_
   refine q_callb has_132 rfl rfl (fun w1 S1 X1 => own_fn p M _ _ _ t (hP.keep (S1.keep0 M)) (hin a0 (some_mem hxa0)).1 (hin a0 (some_mem hxa0)).2) (fun h101 => ?_) (fun h101 => ?_)
   ·refine gq4 ?_; refine gq2 ?_; refine gq1 ?_
    refine q_load one_31 rfl (fun w1 hw => by exact hw.1.cell 1 rfl rfl) rfl ?_
    refine gq2 ?_; refine gq1 ?_
    refine q_load one_110 rfl (fun w1 hw => by exact hw.1.cell 0 rfl rfl) rfl ?_
    refine gq1 ?_
    obtain ⟨_, _, _, _, hx109, _, _, _, hc109, hr109⟩ := RdS.get (hSet) (0) (by omega)
    obtain rfl := Option.some.inj (hxa0.symm.trans hx109)
    obtain ⟨_, _, _, rfl, _, _⟩ := RAssign.open_ hr109
    refine gq4 ?_
    refine q_load one_3 rfl (fun w1 hw => by exact hw.1.old (hc109 _ _ rfl)) rfl ?_
    refine gq1 ?_
    have hia0 := hin a0 (some_mem hxa0)
    obtain ⟨c0, _, _, _, hxc0, _, _, _, hc112, hr112⟩ := RdS.get (hC) (a0.cell.toNat) (by omega)
    obtain ⟨rfl, _, _, _, _⟩ := RCell.open_ hr112
    refine gq4 ?_
    cases hb114 : c0.ghost
    ·refine q_load one_4 rfl (fun w1 hw => by exact (hw.1.old (hc112 _ _ rfl)).trans (congrArg (fun b => some (Value.bool b)) hb114)) rfl ?_
     refine gq2 ?_
     refine BK_of ?_
     refine BKL_nil ?_
     rintro wR22 ⟨SR22, XR22⟩
     refine gw4 ?_; refine gw2 ?_
     refine o_load one_110 rfl (by exact SR22.cell 0 rfl rfl) rfl ?_
     obtain ⟨_, _, _, _, hx118, _, hM118, _, hc118, hr118⟩ := RdS.get (hSet) (0) (by omega)
     obtain rfl := Option.some.inj (hxa0.symm.trans hx118)
     obtain ⟨Ae118, ne118, ce118, rfl, _, _⟩ := RAssign.open_ hr118
     refine gw2 ?_
     refine o_loadN many_73 rfl ((Cells.sub hc118 1 4).keep (SR22.keep0 _) hM118) (by rfl) rfl ?_
     refine o_alloc SR22 zv_73 rfl rfl ?_
     intro g12 w12 S12 X12 G12
     refine o_storeN (kk := 0) (vs := [_, _, _, _]) S12 sz_73 rfl rfl rfl rfl rfl rfl rfl ?_
     intro w24_6 S24_6 X24_6
     dsimp only [setsAt, List.set] at S24_6
     refine gw4 ?_; refine gw1 ?_
     refine o_load one_3 rfl (by exact S24_6.cell 0 rfl rfl) rfl ?_
     refine o_neq rfl rfl rfl (fun h123 => ?_) (fun h123 => ?_)
     ·refine gw16 ?_; refine gw8 ?_
      exact ⟨⟨_, rfl, fun h => absurd h Bool.false_ne_true⟩, S24_6.fin⟩
     refine gw2 ?_
     refine o_loadN many_36 rfl (S24_6.cells 2 rfl) rfl rfl ?_
     refine gw2 ?_; refine gw1 ?_
     refine o_load one_3 rfl (by exact S24_6.cell 0 rfl rfl) rfl ?_
     refine gw1 ?_
     have hcn := valid_cell (hs a0 (some_mem hxa0)).2 h123
     refine o_callb S24_6 has_133 rfl rfl (shared_fn p M _ _ _ (hP.keep (S24_6.keep0 M)) hcn.1 hcn.2) (fun h128 w128 S128 X128 => ?_) (fun h128 w128 S128 X128 => ?_)
     ·refine gw4 ?_; refine gw2 ?_; refine gw1 ?_
      refine o_load one_31 rfl (by exact S128.cell 2 rfl rfl) rfl ?_
      refine gw2 ?_; refine gw1 ?_
      refine o_load one_3 rfl (by exact S128.cell 0 rfl rfl) rfl ?_
      refine gw1 ?_
      obtain ⟨c1, _, _, _, hxc1, _, _, _, hc136, hr136⟩ := RdS.get (hC) (a0.to.n.toNat) (by omega)
      obtain ⟨rfl, _, _, _, _⟩ := RCell.open_ hr136
      refine gw4 ?_
      cases hb138 : c1.ghost
      ·refine o_load one_4 rfl (by exact (S128.old (hc136 _ _ rfl)).trans (congrArg (fun b => some (Value.bool b)) hb138)) rfl ?_
       refine gw8 ?_; refine gw2 ?_
       refine W_loop (fun μi D ε w => D = [] ∧ ∃ i : Nat, (i + μi = max (s.set.length) 1) ∧ (1 ≤ i) ∧ (FromTo s.set 1 i (fun b => thrAt p.cells b.cell = t ∧ ghAt p.cells b.cell = true)) ∧ St [] w0 w [(some g12, 73, [.int .i64 a0.to.op, .int .i64 a0.to.w, .int .i64 a0.to.n, .slice Ae118 ne118 ce118]), (some g5, 112, [.int .i64 s.kind, .int .i64 s.frm, .int .i64 s.to, .int .i64 s.guard.op, .int .i64 s.guard.w, .int .i64 s.guard.n, .slice Ag ng cg, .slice As ns cs', .bool s.release, .int .i64 s.target, .int .i64 s.module_]), (some g3, 36, [.slice Ac nc cc, .slice Am nm cm, .slice Al nl cl, .slice At nt ct])] ∧ ε 1 = .int .i64 t ∧ ε 3 = .pointer (some ⟨g3, 0, none⟩) ∧ ε 5 = .pointer (some ⟨g5, 0, none⟩) ∧ ε 7 = .int .i64 ns ∧ ε 13 = .int .i64 i) (μ := (max (s.set.length) 1 - 1)) ⟨rfl, 1, by omega, by omega, FromTo.start (by omega), S128, rfl, rfl, rfl, rfl, rfl⟩ ?_
       rintro μi D ε w ⟨rfl, i, hi, hi0, ht, S, e1, e3, e5, e7, e13⟩
       refine W_known 1 e1 (W_known 3 e3 (W_known 5 e5 (W_known 7 e7 (W_known 13 e13 ?_))))
       clear e1 e3 e5 e7 e13
       refine gw4 ?_; refine gw1 ?_
       refine o_lss rfl rfl rfl (fun h142 => ?_) (fun h142 => ?_)
       ·refine gw4 ?_; refine gw2 ?_
        refine W_draw follows_mixed [0, 1, 2, 3, 4, 5, 6, 7, 8, 9, 10, 11, 12, 13, 14, 15, 16, 17, 18, 19, 20, 21, 22, 23] [] [] (by kernel_rfl) rfl (Cl _ _ _ _) (Cl.start S) ?_
        refine q_loadN many_36 rfl (fun w1 hw => hw.1.cells 2 rfl) rfl rfl ?_
        refine gq1 ?_
        refine q_load one_110 rfl (fun w1 hw => by exact hw.1.cell 1 rfl rfl) rfl ?_
        refine gq1 ?_
        obtain ⟨a, _, _, _, hxa, _, _, _, hc149, hr149⟩ := RdS.get (hSet) (i) (by omega)
        obtain ⟨_, _, _, rfl, _, _⟩ := RAssign.open_ hr149
        refine gq2 ?_
        refine q_load one_3 rfl (fun w1 hw => by exact hw.1.old (hc149 _ _ rfl)) rfl ?_
        refine gq1 ?_
        refine q_callb has_132 rfl rfl (fun w1 S1 X1 => own_fn p M _ _ _ t (hP.keep (S1.keep0 M)) (hin a (some_mem hxa)).1 (hin a (some_mem hxa)).2) (fun h153 => ?_) (fun h153 => ?_)
        ·refine gq4 ?_; refine gq1 ?_
         refine q_load one_31 rfl (fun w1 hw => by exact hw.1.cell 2 rfl rfl) rfl ?_
         refine gq2 ?_; refine gq1 ?_
         refine q_load one_110 rfl (fun w1 hw => by exact hw.1.cell 1 rfl rfl) rfl ?_
         refine gq2 ?_; refine gq1 ?_
         obtain ⟨_, _, _, _, hx161, _, _, _, hc161, hr161⟩ := RdS.get (hSet) (i) (by omega)
         obtain rfl := Option.some.inj (hxa.symm.trans hx161)
         obtain ⟨_, _, _, rfl, _, _⟩ := RAssign.open_ hr161
         refine gq4 ?_
         refine q_load one_3 rfl (fun w1 hw => by exact hw.1.old (hc161 _ _ rfl)) rfl ?_
         refine gq1 ?_
         have hia := hin a (some_mem hxa)
         obtain ⟨c2, _, _, _, hxc2, _, _, _, hc164, hr164⟩ := RdS.get (hC) (a.cell.toNat) (by omega)
         obtain ⟨rfl, _, _, _, _⟩ := RCell.open_ hr164
         refine gq4 ?_
         cases hb166 : c2.ghost
         ·refine q_load one_4 rfl (fun w1 hw => by exact (hw.1.old (hc164 _ _ rfl)).trans (congrArg (fun b => some (Value.bool b)) hb166)) rfl ?_
          refine gq4 ?_
          refine BK_of ?_
          refine BKL_nil ?_
          rintro wR30 ⟨SR30, XR30⟩
          refine gw8 ?_
          exact ⟨⟨_, rfl, fun h => absurd h Bool.false_ne_true⟩, SR30.fin⟩
         refine q_load one_4 rfl (fun w1 hw => by exact (hw.1.old (hc164 _ _ rfl)).trans (congrArg (fun b => some (Value.bool b)) hb166)) rfl ?_
         refine gq4 ?_
         refine BK_of ?_
         refine BKL_nil ?_
         rintro wR30 ⟨SR30, XR30⟩
         refine gw8 ?_
         refine ⟨μi - 1, by omega, rfl, (i + 1), (by omega), (by omega), (ht.succ hxa ⟨of_decide_eq_true h153, by rw [gh_some hxc2]; exact hb166⟩), SR30, rfl, rfl, rfl, rfl, rfl⟩
        refine gq16 ?_
        refine BK_of ?_
        refine BKL_nil ?_
        rintro wR30 ⟨SR30, XR30⟩
        refine gw8 ?_
        exact ⟨⟨_, rfl, fun h => absurd h Bool.false_ne_true⟩, SR30.fin⟩
       refine gw8 ?_; refine gw2 ?_
       refine ⟨⟨_, rfl, fun _ => ⟨of_dec h26, fun i hi hor => hv i _ (List.getElem?_eq_getElem hi) (by omega) hor, hc.all (by omega), ?_, ?_, ?_, ?_, ?_, ?_⟩⟩, S.fin⟩ <;> intro hkk
       all_goals first
        | (exfalso; omega)
        | (obtain ⟨l, e1, e2⟩ := ht.tail (by omega) hxa0; exact ⟨a0, l, e1, of_decide_eq_true h101, by rw [gh_some hxc0]; exact hb114, by omega, of_decide_eq_true h128, by rw [gh_some hxc1]; exact hb138, e2⟩)
      refine o_load one_4 rfl (by exact (S128.old (hc136 _ _ rfl)).trans (congrArg (fun b => some (Value.bool b)) hb138)) rfl ?_
      refine gw8 ?_; refine gw1 ?_
      exact ⟨⟨_, rfl, fun h => absurd h Bool.false_ne_true⟩, S128.fin⟩
     refine gw16 ?_; refine gw4 ?_
     exact ⟨⟨_, rfl, fun h => absurd h Bool.false_ne_true⟩, S128.fin⟩
    refine q_load one_4 rfl (fun w1 hw => by exact (hw.1.old (hc112 _ _ rfl)).trans (congrArg (fun b => some (Value.bool b)) hb114)) rfl ?_
    refine gq2 ?_
    refine BK_of ?_
    refine BKL_nil ?_
    rintro wR22 ⟨SR22, XR22⟩
    refine gw8 ?_
    exact ⟨⟨_, rfl, fun h => absurd h Bool.false_ne_true⟩, SR22.fin⟩
   refine gq16 ?_
   refine BK_of ?_
   refine BKL_nil ?_
   rintro wR22 ⟨SR22, XR22⟩
   refine gw8 ?_
   exact ⟨⟨_, rfl, fun h => absurd h Bool.false_ne_true⟩, SR22.fin⟩
  refine gw4 ?_; refine gw1 ?_
  refine o_eql rfl rfl rfl (fun h170 => ?_) (fun h170 => ?_)
  ·refine gw4 ?_; refine gw1 ?_
   refine W_draw follows_mixed [0, 1, 2, 3, 4, 5, 6, 7, 8, 9, 10, 11, 12, 13, 14, 15, 16, 17, 18, 19, 20, 21, 22, 23] [] [] (by kernel_rfl) rfl (Cl _ _ _ _) (Cl.start S) ?_
   refine gq1 ?_
   refine q_eql rfl rfl rfl (fun h172 => ?_) (fun h172 => ?_)
   ·refine gq16 ?_; refine gq4 ?_; refine gq2 ?_; refine gq1 ?_
    refine BK_of ?_
    refine BKL_nil ?_
    rintro wR34 ⟨SR34, XR34⟩
    refine gw8 ?_
    exact ⟨⟨_, rfl, fun h => absurd h Bool.false_ne_true⟩, SR34.fin⟩
   refine gq2 ?_
   refine q_loadN many_36 rfl (fun w1 hw => hw.1.cells 1 rfl) rfl rfl ?_
   refine gq2 ?_; refine gq1 ?_
   refine q_load one_110 rfl (fun w1 hw => by exact hw.1.cell 0 rfl rfl) rfl ?_
   refine gq1 ?_
   obtain ⟨a0, _, _, _, hxa0, _, _, _, hc177, hr177⟩ := RdS.get (hSet) (0) (by omega)
   obtain ⟨_, _, _, rfl, _, _⟩ := RAssign.open_ hr177
   refine gq4 ?_
   refine q_load one_3 rfl (fun w1 hw => by exact hw.1.old (hc177 _ _ rfl)) rfl ?_
   refine gq1 ?_
   refine q_callb has_133 rfl rfl (fun w1 S1 X1 => shared_fn p M _ _ _ (hP.keep (S1.keep0 M)) (hin a0 (some_mem hxa0)).1 (hin a0 (some_mem hxa0)).2) (fun h180 => ?_) (fun h180 => ?_)
   ·refine gq4 ?_; refine gq2 ?_; refine gq1 ?_
    refine q_load one_31 rfl (fun w1 hw => by exact hw.1.cell 1 rfl rfl) rfl ?_
    refine gq2 ?_; refine gq1 ?_
    refine q_load one_110 rfl (fun w1 hw => by exact hw.1.cell 0 rfl rfl) rfl ?_
    refine gq1 ?_
    obtain ⟨_, _, _, _, hx188, _, _, _, hc188, hr188⟩ := RdS.get (hSet) (0) (by omega)
    obtain rfl := Option.some.inj (hxa0.symm.trans hx188)
    obtain ⟨_, _, _, rfl, _, _⟩ := RAssign.open_ hr188
    refine gq4 ?_
    refine q_load one_3 rfl (fun w1 hw => by exact hw.1.old (hc188 _ _ rfl)) rfl ?_
    refine gq1 ?_
    have hia0 := hin a0 (some_mem hxa0)
    obtain ⟨c0, _, _, _, hxc0, _, _, _, hc191, hr191⟩ := RdS.get (hC) (a0.cell.toNat) (by omega)
    obtain ⟨rfl, _, _, _, _⟩ := RCell.open_ hr191
    refine gq4 ?_
    cases hb193 : c0.ghost
    ·refine q_load one_4 rfl (fun w1 hw => by exact (hw.1.old (hc191 _ _ rfl)).trans (congrArg (fun b => some (Value.bool b)) hb193)) rfl ?_
     refine gq2 ?_
     refine BK_of ?_
     refine BKL_nil ?_
     rintro wR34 ⟨SR34, XR34⟩
     refine gw8 ?_; refine gw1 ?_
     refine W_loop (fun μi D ε w => D = [] ∧ ∃ i : Nat, (i + μi = max (s.set.length) 1) ∧ (1 ≤ i) ∧ (FromTo s.set 1 i (fun b => ghAt p.cells b.cell = true)) ∧ St [] w0 w [(some g5, 112, [.int .i64 s.kind, .int .i64 s.frm, .int .i64 s.to, .int .i64 s.guard.op, .int .i64 s.guard.w, .int .i64 s.guard.n, .slice Ag ng cg, .slice As ns cs', .bool s.release, .int .i64 s.target, .int .i64 s.module_]), (some g3, 36, [.slice Ac nc cc, .slice Am nm cm, .slice Al nl cl, .slice At nt ct])] ∧ ε 3 = .pointer (some ⟨g3, 0, none⟩) ∧ ε 5 = .pointer (some ⟨g5, 0, none⟩) ∧ ε 7 = .int .i64 ns ∧ ε 14 = .int .i64 i) (μ := (max (s.set.length) 1 - 1)) ⟨rfl, 1, by omega, by omega, FromTo.start (by omega), SR34, rfl, rfl, rfl, rfl⟩ ?_
     rintro μi D ε w ⟨rfl, i, hi, hi0, ht, S, e3, e5, e7, e14⟩
     refine W_known 3 e3 (W_known 5 e5 (W_known 7 e7 (W_known 14 e14 ?_)))
     clear e3 e5 e7 e14
     refine gw4 ?_; refine gw1 ?_
     refine o_lss rfl rfl rfl (fun h197 => ?_) (fun h197 => ?_)
     ·refine gw4 ?_; refine gw2 ?_
      refine W_draw follows_mixed [0, 1, 2, 3, 4, 5, 6, 7, 8, 9, 10, 11] [] [] (by kernel_rfl) rfl (Cl _ _ _ _) (Cl.start S) ?_
      refine gq1 ?_
      refine q_load one_31 rfl (fun w1 hw => by exact hw.1.cell 1 rfl rfl) rfl ?_
      refine gq1 ?_
      refine q_load one_110 rfl (fun w1 hw => by exact hw.1.cell 0 rfl rfl) rfl ?_
      refine gq1 ?_
      obtain ⟨a, _, _, _, hxa, _, _, _, hc205, hr205⟩ := RdS.get (hSet) (i) (by omega)
      obtain ⟨_, _, _, rfl, _, _⟩ := RAssign.open_ hr205
      refine gq2 ?_
      refine q_load one_3 rfl (fun w1 hw => by exact hw.1.old (hc205 _ _ rfl)) rfl ?_
      have hia := hin a (some_mem hxa)
      obtain ⟨c2, _, _, _, hxc2, _, _, _, hc208, hr208⟩ := RdS.get (hC) (a.cell.toNat) (by omega)
      obtain ⟨rfl, _, _, _, _⟩ := RCell.open_ hr208
      refine gq2 ?_
      cases hb210 : c2.ghost
      ·refine q_load one_4 rfl (fun w1 hw => by exact (hw.1.old (hc208 _ _ rfl)).trans (congrArg (fun b => some (Value.bool b)) hb210)) rfl ?_
       refine gq2 ?_
       refine BK_of ?_
       refine BKL_nil ?_
       rintro wR39 ⟨SR39, XR39⟩
       refine gw8 ?_
       exact ⟨⟨_, rfl, fun h => absurd h Bool.false_ne_true⟩, SR39.fin⟩
      refine q_load one_4 rfl (fun w1 hw => by exact (hw.1.old (hc208 _ _ rfl)).trans (congrArg (fun b => some (Value.bool b)) hb210)) rfl ?_
      refine gq2 ?_
      refine BK_of ?_
      refine BKL_nil ?_
      rintro wR39 ⟨SR39, XR39⟩
      refine gw8 ?_
      refine ⟨μi - 1, by omega, rfl, (i + 1), (by omega), (by omega), (ht.succ hxa (by rw [gh_some hxc2]; exact hb210)), SR39, rfl, rfl, rfl, rfl⟩
     refine gw8 ?_; refine gw2 ?_
     refine ⟨⟨_, rfl, fun _ => ⟨of_dec h26, fun i hi hor => hv i _ (List.getElem?_eq_getElem hi) (by omega) hor, hc.all (by omega), ?_, ?_, ?_, ?_, ?_, ?_⟩⟩, S.fin⟩ <;> intro hkk
     all_goals first
      | (exfalso; omega)
      | (obtain ⟨l, e1, e2⟩ := ht.tail (by omega) hxa0; exact ⟨a0, l, e1, of_decide_eq_true h180, by rw [gh_some hxc0]; exact hb193, e2⟩)
    refine q_load one_4 rfl (fun w1 hw => by exact (hw.1.old (hc191 _ _ rfl)).trans (congrArg (fun b => some (Value.bool b)) hb193)) rfl ?_
    refine gq2 ?_
    refine BK_of ?_
    refine BKL_nil ?_
    rintro wR34 ⟨SR34, XR34⟩
    refine gw8 ?_
    exact ⟨⟨_, rfl, fun h => absurd h Bool.false_ne_true⟩, SR34.fin⟩
   refine gq16 ?_
   refine BK_of ?_
   refine BKL_nil ?_
   rintro wR34 ⟨SR34, XR34⟩
   refine gw8 ?_
   exact ⟨⟨_, rfl, fun h => absurd h Bool.false_ne_true⟩, SR34.fin⟩
  refine gw4 ?_; refine gw1 ?_
  refine o_eql rfl rfl rfl (fun h213 => ?_) (fun h213 => ?_)
  ·refine gw8 ?_; refine gw1 ?_
   refine ⟨⟨_, rfl, fun _ => ⟨of_dec h26, fun i hi hor => hv i _ (List.getElem?_eq_getElem hi) (by omega) hor, hc.all (by omega), ?_, ?_, ?_, ?_, ?_, ?_⟩⟩, S.fin⟩ <;> intro hkk
   all_goals (exfalso; omega)
  refine gw4 ?_; refine gw2 ?_
  refine W_draw follows_mixed [0, 1, 2, 3, 4, 5, 6, 7, 8] [] [] (by kernel_rfl) rfl (Cl _ _ _ _) (Cl.start S) ?_
  refine gq1 ?_
  refine q_gtr rfl rfl rfl (fun h215 => ?_) (fun h215 => ?_)
  ·refine gq8 ?_
   refine BK_of ?_
   refine BKL_nil ?_
   rintro wR44 ⟨SR44, XR44⟩
   refine gw8 ?_
   exact ⟨⟨_, rfl, fun h => absurd h Bool.false_ne_true⟩, SR44.fin⟩
  refine gq4 ?_
  refine q_loadN many_73 rfl (cs := [_, _, _, _]) (fun w1 hw => hw.1.cellsAt 0 3 4 rfl) rfl rfl ?_
  refine gq1 ?_
  refine q_callr has_135 rfl rfl (fun w1 S1 X1 => one07_fn _) ?_
  refine gq1 ?_
  refine q_callb has_134 rfl rfl (fun w1 S1 X1 => same06_fn _ ⟨1, 1, 1, []⟩ M _ _ _ (RdE.keep (S1.keep0 M) _ _ hG) rdOne) (fun h220 => ?_) (fun h220 => ?_)
  ·refine gq4 ?_
   refine BK_of ?_
   refine BKL_nil ?_
   rintro wR44 ⟨SR44, XR44⟩
   refine gw4 ?_; refine gw2 ?_; refine gw1 ?_
   refine o_load one_3 rfl (by exact SR44.cell 0 rfl rfl) rfl ?_
   refine o_eql rfl rfl rfl (fun h225 => ?_) (fun h225 => ?_)
   ·refine gw8 ?_
    refine ⟨⟨_, rfl, fun _ => ⟨of_dec h26, fun i hi hor => hv i _ (List.getElem?_eq_getElem hi) (by omega) hor, hc.all (by omega), ?_, ?_, ?_, ?_, ?_, ?_⟩⟩, SR44.fin⟩ <;> intro hkk
    all_goals first
     | (exfalso; omega)
     | exact ⟨List.length_eq_zero_iff.1 (by omega), of_dec h220⟩
   refine gw4 ?_; refine gw2 ?_
   refine o_load one_3 rfl (by exact SR44.cell 0 rfl rfl) rfl ?_
   refine gw1 ?_
   refine o_load one_34 rfl (by exact SR44.cell 1 rfl rfl) rfl ?_
   refine gw1 ?_
   refine o_callb SR44 has_78 rfl rfl (in_fn _ _ _) (fun h231 w231 S231 X231 => ?_) (fun h231 w231 S231 X231 => ?_)
   ·refine gw4 ?_
    refine o_load one_3 rfl (by exact S231.cell 0 rfl rfl) rfl ?_
    refine gw2 ?_; refine gw1 ?_
    refine o_neq rfl rfl rfl (fun h236 => ?_) (fun h236 => ?_)
    ·refine gw4 ?_; refine gw1 ?_
     refine o_load one_3 rfl (by exact S231.cell 0 rfl rfl) rfl ?_
     refine gw1 ?_
     refine o_eql rfl rfl rfl (fun h241 => ?_) (fun h241 => ?_)
     ·refine gw16 ?_
      refine ⟨⟨_, rfl, fun _ => ⟨of_dec h26, fun i hi hor => hv i _ (List.getElem?_eq_getElem hi) (by omega) hor, hc.all (by omega), ?_, ?_, ?_, ?_, ?_, ?_⟩⟩, S231.fin⟩ <;> intro hkk
      all_goals first
       | (exfalso; omega)
       | exact ⟨List.length_eq_zero_iff.1 (by omega), of_dec h220⟩
       | (have hit := of_decide_eq_true h231; exact ⟨by unfold isIn; omega, by omega⟩)
     refine gw4 ?_; refine gw1 ?_
     refine o_load one_34 rfl (by exact S231.cell 1 rfl rfl) rfl ?_
     refine gw2 ?_; refine gw1 ?_
     refine o_load one_3 rfl (by exact S231.cell 0 rfl rfl) rfl ?_
     refine gw1 ?_
     have hit := of_decide_eq_true h231
     obtain ⟨u, _, _, _, hxu, _, _, _, hc247, hr247⟩ := RdS.get (hTh) (s.target.toNat) (by omega)
     obtain ⟨_, _, _, _, _, _, _, _, _, _, _, _, rfl, _, _, _, _, _, _, _, _, _, _, _, _, _⟩ := RThread.open_ hr247
     refine gw4 ?_
     cases hb249 : u.asleep
     ·refine o_load one_4 rfl (by exact (S231.old (hc247 _ _ rfl)).trans (congrArg (fun b => some (Value.bool b)) hb249)) rfl ?_
      refine gw4 ?_; refine gw2 ?_; refine gw1 ?_
      exact ⟨⟨_, rfl, fun h => absurd h Bool.false_ne_true⟩, S231.fin⟩
     refine o_load one_4 rfl (by exact (S231.old (hc247 _ _ rfl)).trans (congrArg (fun b => some (Value.bool b)) hb249)) rfl ?_
     refine gw4 ?_; refine gw2 ?_; refine gw1 ?_
     refine ⟨⟨_, rfl, fun _ => ⟨of_dec h26, fun i hi hor => hv i _ (List.getElem?_eq_getElem hi) (by omega) hor, hc.all (by omega), ?_, ?_, ?_, ?_, ?_, ?_⟩⟩, S231.fin⟩ <;> intro hkk
     all_goals first
      | (exfalso; omega)
      | exact ⟨List.length_eq_zero_iff.1 (by omega), of_dec h220⟩
      | (have hit := of_decide_eq_true h231; exact ⟨by unfold isIn; omega, by omega⟩)
      | (intro u' hu'; rw [hxu] at hu'; cases hu'; exact hb249)
    refine gw16 ?_; refine gw2 ?_; refine gw1 ?_
    exact ⟨⟨_, rfl, fun h => absurd h Bool.false_ne_true⟩, S231.fin⟩
   refine gw16 ?_; refine gw8 ?_
   exact ⟨⟨_, rfl, fun h => absurd h Bool.false_ne_true⟩, S231.fin⟩
  refine gq4 ?_
  refine BK_of ?_
  refine BKL_nil ?_
  rintro wR44 ⟨SR44, XR44⟩
  refine gw8 ?_
  exact ⟨⟨_, rfl, fun h => absurd h Bool.false_ne_true⟩, SR44.fin⟩
 refine gw8 ?_; refine gw1 ?_
 exact ⟨⟨_, rfl, fun h => absurd h Bool.false_ne_true⟩, S26.fin⟩
end Go.Proofs.YtgnbfmifjlnigaaGreatDoor
namespace Go.Proofs.YtgnbfmifjlnigaaGreatDoor
open Go.Fw Go.RowKit
set_option maxHeartbeats 1000000 in
theorem step07_fn (p : ProgD) (s : StepD) (x : ThreadD) (t : Nat) (M : List Nat) (w0 : World) (cs ss : List Value) (hP : RdProg M w0 p cs) (hS : RStep M w0 ss s) (hM : ∀ g ∈ M, g < w0.heap.size)
 (hx : p.threads[t]? = some x) (hp1 : 1 ≤ x.points) (hp2 : x.points ≤ 48) :
 Does Tryz.prog 82 #[.agg cs.toArray, .int .i64 t, .agg ss.toArray] w0 fun v w' => (∃ a, v = .int .i64 a ∧ (a = 0 → StepOK p t x.points s)) ∧ Below w0.heap.size w0 w' := by
 obtain ⟨Ac, nc, cc, Am, nm, cm, Al, nl, cl, At, nt, ct, rfl, hC, _, _, hTh, _, _, _, _, _, _, _, _⟩ := hP.open_
 obtain ⟨Ag, ng, cg, As, ns, cs', rfl, ⟨_, _, _, _, _⟩, hG, hSet, _, _⟩ := hS.open_
 have hlt := some_lt hx
 have S := St.refl w0
 have hM' : ∀ w' : World, w0.heap.size ≤ w'.heap.size → ∀ g ∈ M, g < w'.heap.size := fun w' h g hg => by have := hM g hg; omega
 refine Does_enter Tryz.func82 rfl Tryz.ntmps82 rfl ?_
 refine gw2 ?_
 refine o_boxa S (by conv => lhs; whnf) rfl ?_
 intro g3 w3 S3 X3 G3
 refine o_boxa S3 (by conv => lhs; whnf) rfl ?_
 intro g5 w5 S5 X5 G5
 refine gw4 ?_; refine gw1 ?_
 refine o_load one_34 rfl (by exact S5.cell 1 rfl rfl) rfl ?_
 refine gw1 ?_
 obtain ⟨_, _, _, _, hxy, _, _, _, hc15, hr15⟩ := RdS.get (hTh) (t) (by omega)
 obtain ⟨_, _, _, _, _, _, _, _, _, _, _, _, rfl, _, _, _, _, _, _, _, _, _, _, _, _, _⟩ := RThread.open_ hr15
 obtain rfl := Option.some.inj (hx.symm.trans hxy)
 refine gw2 ?_
 refine o_load one_3 rfl (by exact S5.old (hc15 _ _ rfl)) rfl ?_
 refine gw2 ?_
 refine W_cut (fun D ε w => D = [] ∧ ∃ aim : Bool, (aim = true → s.kind = 6 ∨ s.kind = 7) ∧ St [] w0 w [(some g5, 112, [.int .i64 s.kind, .int .i64 s.frm, .int .i64 s.to, .int .i64 s.guard.op, .int .i64 s.guard.w, .int .i64 s.guard.n, .slice Ag ng cg, .slice As ns cs', .bool s.release, .int .i64 s.target, .int .i64 s.module_]), (some g3, 36, [.slice Ac nc cc, .slice Am nm cm, .slice Al nl cl, .slice At nt ct])] ∧ ε 1 = .int .i64 t ∧ ε 3 = .pointer (some ⟨g3, 0, none⟩) ∧ ε 5 = .pointer (some ⟨g5, 0, none⟩) ∧ ε 7 = .int .i64 x.points ∧ ε 8 = .bool aim) ?_ ?_
 ·refine gw2 ?_
  refine o_load one_3 rfl (by exact S5.cell 0 rfl rfl) rfl ?_
  refine o_eql rfl rfl rfl (fun h20 => ?_) (fun h20 => ?_)
  ·refine gw4 ?_; refine gw2 ?_; refine gw1 ?_
   refine ⟨rfl, (_), ?_, S5, rfl, rfl, rfl, rfl, rfl⟩
   exact fun _ => by omega
  refine gw4 ?_
  refine o_load one_3 rfl (by exact S5.cell 0 rfl rfl) rfl ?_
  refine gw1 ?_
  refine o_eql rfl rfl rfl (fun h24 => ?_) (fun h24 => ?_)
  ·refine gw2 ?_; refine gw1 ?_
   refine ⟨rfl, (_), ?_, S5, rfl, rfl, rfl, rfl, rfl⟩
   exact fun _ => by omega
  refine gw2 ?_; refine gw1 ?_
  refine ⟨rfl, (_), ?_, S5, rfl, rfl, rfl, rfl, rfl⟩
  exact fun h => absurd h Bool.false_ne_true
 rintro D ε w ⟨rfl, aim, haim, S, e1, e3, e5, e7, e8⟩
 refine W_known 1 e1 (W_known 3 e3 (W_known 5 e5 (W_known 7 e7 (W_known 8 e8 ?_))))
 clear e1 e3 e5 e7 e8
 refine W_cut (fun D ε w => D = [] ∧ ((1 ≤ s.kind ∧ s.kind ≤ 7) ∧ (0 ≤ s.frm ∧ s.frm < x.points - 1) ∧ (0 ≤ s.to ∧ s.to < x.points) ∧ isIn s.module_ p.modules.length ∧ (s.release = true → s.kind = 3) ∧ (s.target ≠ 0 → s.kind = 6 ∨ s.kind = 7)) ∧ St [] w0 w [(some g5, 112, [.int .i64 s.kind, .int .i64 s.frm, .int .i64 s.to, .int .i64 s.guard.op, .int .i64 s.guard.w, .int .i64 s.guard.n, .slice Ag ng cg, .slice As ns cs', .bool s.release, .int .i64 s.target, .int .i64 s.module_]), (some g3, 36, [.slice Ac nc cc, .slice Am nm cm, .slice Al nl cl, .slice At nt ct])] ∧ ε 1 = .int .i64 t ∧ ε 3 = .pointer (some ⟨g3, 0, none⟩) ∧ ε 5 = .pointer (some ⟨g5, 0, none⟩)) ?_ ?_
 ·refine gw2 ?_; refine gw1 ?_
  refine o_load one_3 rfl (by exact S.cell 0 rfl rfl) rfl ?_
  refine o_lss rfl rfl rfl (fun h28 => ?_) (fun h28 => ?_)
  ·refine gw16 ?_; refine gw16 ?_; refine gw16 ?_; refine gw4 ?_; refine gw2 ?_; refine gw1 ?_
   exact ⟨⟨_, rfl, fun h => absurd h (by omega)⟩, S.fin⟩
  refine gw4 ?_
  refine o_load one_3 rfl (by exact S.cell 0 rfl rfl) rfl ?_
  refine gw1 ?_
  refine o_gtr rfl rfl rfl (fun h32 => ?_) (fun h32 => ?_)
  ·refine gw16 ?_; refine gw16 ?_; refine gw16 ?_; refine gw2 ?_; refine gw1 ?_
   exact ⟨⟨_, rfl, fun h => absurd h (by omega)⟩, S.fin⟩
  refine gw4 ?_; refine gw1 ?_
  refine o_load one_3 rfl (by exact S.cell 0 rfl rfl) rfl ?_
  refine gw2 ?_; refine gw1 ?_
  refine o_sub rfl rfl (by unfold i64; omega) rfl ?_
  refine gw1 ?_
  refine o_callb S has_78 rfl rfl (in_fn _ _ _) (fun h39 w39 S39 X39 => ?_) (fun h39 w39 S39 X39 => ?_)
  ·refine gw4 ?_; refine gw2 ?_; refine gw1 ?_
   refine o_load one_3 rfl (by exact S39.cell 0 rfl rfl) rfl ?_
   refine gw2 ?_; refine gw1 ?_
   refine o_callb S39 has_78 rfl rfl (in_fn _ _ _) (fun h46 w46 S46 X46 => ?_) (fun h46 w46 S46 X46 => ?_)
   ·refine gw4 ?_; refine gw2 ?_; refine gw1 ?_
    refine o_load one_3 rfl (by exact S46.cell 0 rfl rfl) rfl ?_
    refine gw2 ?_; refine gw1 ?_
    refine o_load one_32 rfl (by exact S46.cell 1 rfl rfl) rfl ?_
    refine gw2 ?_; refine gw1 ?_
    refine o_callb S46 has_78 rfl rfl (in_fn _ _ _) (fun h55 w55 S55 X55 => ?_) (fun h55 w55 S55 X55 => ?_)
    ·refine gw4 ?_; refine gw2 ?_; refine gw1 ?_
     rcases (Bool.eq_false_or_eq_true (s.release)).symm with hb60 | hb60
     ·refine o_load one_4 rfl (by exact (S55.cell 0 rfl rfl).trans (congrArg (fun b => some (Value.bool b)) hb60)) rfl ?_
      refine gw8 ?_; refine gw4 ?_
      refine o_load one_3 rfl (by exact S55.cell 0 rfl rfl) rfl ?_
      refine gw1 ?_
      refine o_neq rfl rfl rfl (fun h70 => ?_) (fun h70 => ?_)
      ·refine gw2 ?_; refine gw1 ?_
       cases hb72 : aim
       ·refine gw8 ?_; refine gw4 ?_; refine gw2 ?_
        exact ⟨⟨_, rfl, fun h => absurd h (by omega)⟩, S55.fin⟩
       refine gw8 ?_; refine gw1 ?_
       refine ⟨rfl, ?_, S55, rfl, rfl, rfl⟩
       refine ⟨⟨by omega, by omega⟩, ?_, ?_, ?_, ?_, ?_⟩
       ·have := of_decide_eq_true h39; omega
       ·have := of_decide_eq_true h46; omega
       ·have := of_decide_eq_true h55; unfold isIn; omega
       ·intro hrel
        rw [hrel] at hb60; cases hb60; done
       ·intro htg
        exact haim hb72
      refine gw8 ?_; refine gw2 ?_
      refine ⟨rfl, ?_, S55, rfl, rfl, rfl⟩
      refine ⟨⟨by omega, by omega⟩, ?_, ?_, ?_, ?_, ?_⟩
      ·have := of_decide_eq_true h39; omega
      ·have := of_decide_eq_true h46; omega
      ·have := of_decide_eq_true h55; unfold isIn; omega
      ·intro hrel
       rw [hrel] at hb60; cases hb60; done
      ·intro htg
       omega
     refine o_load one_4 rfl (by exact (S55.cell 0 rfl rfl).trans (congrArg (fun b => some (Value.bool b)) hb60)) rfl ?_
     refine gw4 ?_; refine gw1 ?_
     refine o_load one_3 rfl (by exact S55.cell 0 rfl rfl) rfl ?_
     refine gw1 ?_
     refine o_neq rfl rfl rfl (fun h64 => ?_) (fun h64 => ?_)
     ·refine gw16 ?_; refine gw4 ?_
      exact ⟨⟨_, rfl, fun h => absurd h (by omega)⟩, S55.fin⟩
     refine gw4 ?_; refine gw2 ?_; refine gw1 ?_
     refine o_load one_3 rfl (by exact S55.cell 0 rfl rfl) rfl ?_
     refine gw1 ?_
     refine o_neq rfl rfl rfl (fun h70 => ?_) (fun h70 => ?_)
     ·refine gw2 ?_; refine gw1 ?_
      cases hb72 : aim
      ·refine gw8 ?_; refine gw4 ?_; refine gw2 ?_
       exact ⟨⟨_, rfl, fun h => absurd h (by omega)⟩, S55.fin⟩
      refine gw8 ?_; refine gw1 ?_
      refine ⟨rfl, ?_, S55, rfl, rfl, rfl⟩
      refine ⟨⟨by omega, by omega⟩, ?_, ?_, ?_, ?_, ?_⟩
      ·have := of_decide_eq_true h39; omega
      ·have := of_decide_eq_true h46; omega
      ·have := of_decide_eq_true h55; unfold isIn; omega
      ·intro hrel
       omega
      ·intro htg
       exact haim hb72
     refine gw8 ?_; refine gw2 ?_
     refine ⟨rfl, ?_, S55, rfl, rfl, rfl⟩
     refine ⟨⟨by omega, by omega⟩, ?_, ?_, ?_, ?_, ?_⟩
     ·have := of_decide_eq_true h39; omega
     ·have := of_decide_eq_true h46; omega
     ·have := of_decide_eq_true h55; unfold isIn; omega
     ·intro hrel
      omega
     ·intro htg
      omega
    refine gw16 ?_; refine gw8 ?_; refine gw4 ?_; refine gw1 ?_
    exact ⟨⟨_, rfl, fun h => absurd h (by omega)⟩, S55.fin⟩
   refine gw16 ?_; refine gw16 ?_; refine gw4 ?_; refine gw2 ?_
   exact ⟨⟨_, rfl, fun h => absurd h (by omega)⟩, S46.fin⟩
  refine gw16 ?_; refine gw16 ?_; refine gw8 ?_; refine gw4 ?_; refine gw1 ?_
  exact ⟨⟨_, rfl, fun h => absurd h (by omega)⟩, S39.fin⟩
 rintro D ε w ⟨rfl, hpre, S, e1, e3, e5⟩
 refine W_known 1 e1 (W_known 3 e3 (W_known 5 e5 ?_))
 clear e1 e3 e5
 refine gw4 ?_
 refine o_loadN many_73 rfl (cs := [_, _, _, _]) (S.cellsAt 0 3 4 rfl) rfl rfl ?_
 refine gw1 ?_
 refine o_load one_31 rfl (by exact S.cell 1 rfl rfl) rfl ?_
 refine o_callb S has_83 rfl rfl (valid_fn _ M _ _ _ p.cells false (RdE.keep (S.keep0 M) _ _ hG) (hC.keep (S.keep0 M))) (fun h80 w80 S80 X80 => ?_) (fun h80 w80 S80 X80 => ?_)
 ·refine gw4 ?_; refine gw2 ?_; refine gw1 ?_
  refine o_load one_3 rfl (by exact S80.cell 0 rfl rfl) rfl ?_
  refine gw1 ?_
  refine o_neq rfl rfl rfl (fun h86 => ?_) (fun h86 => ?_)
  ·refine gw8 ?_; refine gw1 ?_
   exact ⟨⟨_, rfl, fun h => absurd h (by omega)⟩, S80.fin⟩
  refine gw8 ?_; refine gw2 ?_
  refine W_loop (fun μk D ε w => D = [] ∧ ∃ k : Nat, (k + μk = (s.set.length)) ∧ (AllTo (s.set) k (fun a => isIn a.cell p.cells.length ∧ a.to.valid p.cells false = true ∧ a.to.w = wAt p.cells a.cell)) ∧ (PairTo s.set k (fun a b => a.cell ≠ b.cell)) ∧ St [] w0 w [(some g5, 112, [.int .i64 s.kind, .int .i64 s.frm, .int .i64 s.to, .int .i64 s.guard.op, .int .i64 s.guard.w, .int .i64 s.guard.n, .slice Ag ng cg, .slice As ns cs', .bool s.release, .int .i64 s.target, .int .i64 s.module_]), (some g3, 36, [.slice Ac nc cc, .slice Am nm cm, .slice Al nl cl, .slice At nt ct])] ∧ ε 1 = .int .i64 t ∧ ε 3 = .pointer (some ⟨g3, 0, none⟩) ∧ ε 5 = .pointer (some ⟨g5, 0, none⟩) ∧ ε 9 = .int .i64 k) (μ := (s.set.length)) ⟨rfl, 0, by omega, AllTo.zero, PairTo.zero, S80, rfl, rfl, rfl, rfl⟩ ?_
  rintro μk D ε w ⟨rfl, k, _, hs, hp, S, e1, e3, e5, e9⟩
  refine W_known 1 e1 (W_known 3 e3 (W_known 5 e5 (W_known 9 e9 ?_)))
  clear e1 e3 e5 e9
  refine gw4 ?_; refine gw1 ?_
  refine o_load one_110 rfl (by exact S.cell 0 rfl rfl) rfl ?_
  refine gw1 ?_
  refine o_lss rfl rfl rfl (fun h92 => ?_) (fun h92 => ?_)
  ·refine gw8 ?_
   refine o_load one_110 rfl (by exact S.cell 0 rfl rfl) rfl ?_
   refine gw1 ?_
   obtain ⟨a, _, _, _, hxa, _, _, _, hc98, hr98⟩ := RdS.get (hSet) (k) (by omega)
   obtain ⟨_, _, _, rfl, _, _⟩ := RAssign.open_ hr98
   refine gw2 ?_
   refine o_load one_3 rfl (by exact S.old (hc98 _ _ rfl)) rfl ?_
   refine gw4 ?_; refine gw2 ?_; refine gw1 ?_
   refine o_load one_31 rfl (by exact S.cell 1 rfl rfl) rfl ?_
   refine gw1 ?_
   refine o_callb S has_78 rfl rfl (in_fn _ _ _) (fun h105 w105 S105 X105 => ?_) (fun h105 w105 S105 X105 => ?_)
   ·refine gw8 ?_; refine gw2 ?_
    refine W_loop (fun μj D ε w => D = [] ∧ ∃ j : Nat, (j + μj = (k)) ∧ (AllTo (s.set) j (fun b => b.cell ≠ a.cell)) ∧ St [] w0 w [(some g5, 112, [.int .i64 s.kind, .int .i64 s.frm, .int .i64 s.to, .int .i64 s.guard.op, .int .i64 s.guard.w, .int .i64 s.guard.n, .slice Ag ng cg, .slice As ns cs', .bool s.release, .int .i64 s.target, .int .i64 s.module_]), (some g3, 36, [.slice Ac nc cc, .slice Am nm cm, .slice Al nl cl, .slice At nt ct])] ∧ ε 1 = .int .i64 t ∧ ε 3 = .pointer (some ⟨g3, 0, none⟩) ∧ ε 5 = .pointer (some ⟨g5, 0, none⟩) ∧ ε 9 = .int .i64 k ∧ ε 10 = .int .i64 a.cell ∧ ε 11 = .int .i64 j) (μ := (k)) ⟨rfl, 0, by omega, AllTo.zero, S105, rfl, rfl, rfl, rfl, rfl, rfl⟩ ?_
    rintro μj D ε w ⟨rfl, j, _, hn, S, e1, e3, e5, e9, e10, e11⟩
    refine W_known 1 e1 (W_known 3 e3 (W_known 5 e5 (W_known 9 e9 (W_known 10 e10 (W_known 11 e11 ?_)))))
    clear e1 e3 e5 e9 e10 e11
    refine gw4 ?_; refine gw1 ?_
    refine o_lss rfl rfl rfl (fun h109 => ?_) (fun h109 => ?_)
    ·refine gw8 ?_
     refine o_load one_110 rfl (by exact S.cell 0 rfl rfl) rfl ?_
     refine gw1 ?_
     obtain ⟨b, _, _, _, hxb, _, _, _, hc115, hr115⟩ := RdS.get (hSet) (j) (by omega)
     obtain ⟨_, _, _, rfl, _, _⟩ := RAssign.open_ hr115
     refine gw2 ?_
     refine o_load one_3 rfl (by exact S.old (hc115 _ _ rfl)) rfl ?_
     refine gw1 ?_
     refine o_eql rfl rfl rfl (fun h119 => ?_) (fun h119 => ?_)
     ·refine gw8 ?_
      exact ⟨⟨_, rfl, fun h => absurd h (by omega)⟩, S.fin⟩
     refine gw8 ?_
     refine ⟨μj - 1, by omega, rfl, (j + 1), (by omega), (hn.succ hxb (h119)), S, rfl, rfl, rfl, rfl, rfl, rfl⟩
    refine gw4 ?_; refine gw1 ?_
    refine W_draw follows_mixed [0, 1, 2, 3, 4, 5, 6, 7, 8, 9, 10, 11, 12, 13, 14, 15, 16, 17, 18, 19, 20, 21, 22, 23, 24, 25] [] [] (by kernel_rfl) rfl (Cl _ _ _ _) (Cl.start S) ?_
    refine gq1 ?_
    refine q_load one_110 rfl (fun w1 hw => by exact hw.1.cell 0 rfl rfl) rfl ?_
    refine gq1 ?_
    obtain ⟨_, _, _, _, hx123, _, hM123, _, hc123, hr123⟩ := RdS.get (hSet) (k) (by omega)
    obtain rfl := Option.some.inj (hxa.symm.trans hx123)
    obtain ⟨_, _, _, rfl, _, hE123⟩ := RAssign.open_ hr123
    refine gq2 ?_
    refine q_loadN many_73 rfl (fun w1 hw => (Cells.sub hc123 1 4).keep (hw.1.keep0 _) hM123) (by rfl) rfl ?_
    refine gq1 ?_
    refine q_load one_31 rfl (fun w1 hw => by exact hw.1.cell 1 rfl rfl) rfl ?_
    refine q_callb has_83 rfl rfl (fun w1 S1 X1 => valid_fn _ M _ _ _ p.cells false (RdE.keep (S1.keep0 M) _ _ hE123) (hC.keep (S1.keep0 M))) (fun h128 => ?_) (fun h128 => ?_)
    ·refine gq4 ?_; refine gq1 ?_
     refine q_load one_110 rfl (fun w1 hw => by exact hw.1.cell 0 rfl rfl) rfl ?_
     refine gq2 ?_; refine gq1 ?_
     obtain ⟨_, _, _, _, hx134, _, _, _, hc134, hr134⟩ := RdS.get (hSet) (k) (by omega)
     obtain rfl := Option.some.inj (hxa.symm.trans hx134)
     obtain ⟨_, _, _, rfl, _, _⟩ := RAssign.open_ hr134
     refine gq4 ?_; refine gq2 ?_
     refine q_load one_3 rfl (fun w1 hw => by exact hw.1.old (Cells.sub hc134 1 4 _ _ rfl)) rfl ?_
     refine gq2 ?_; refine gq1 ?_
     refine q_load one_31 rfl (fun w1 hw => by exact hw.1.cell 1 rfl rfl) rfl ?_
     refine gq2 ?_; refine gq1 ?_
     have hin := of_decide_eq_true h105
     obtain ⟨_, _, _, _, hxc, _, _, _, hc141, hr141⟩ := RdS.get (hC) (a.cell.toNat) (by omega)
     obtain ⟨rfl, _, _, _, _⟩ := RCell.open_ hr141
     refine gq4 ?_
     refine q_load one_3 rfl (fun w1 hw => by exact hw.1.old (hc141 _ _ rfl)) rfl ?_
     refine gq1 ?_
     refine q_neq rfl rfl rfl (fun h144 => ?_) (fun h144 => ?_)
     ·refine gq2 ?_
      refine BK_of ?_
      refine BKL_nil ?_
      rintro wR18 ⟨SR18, XR18⟩
      refine gw8 ?_
      exact ⟨⟨_, rfl, fun h => absurd h (by omega)⟩, SR18.fin⟩
     refine gq2 ?_
     refine BK_of ?_
     refine BKL_nil ?_
     rintro wR18 ⟨SR18, XR18⟩
     refine gw8 ?_
     refine ⟨μk - 1, by omega, rfl, (k + 1), (by omega), (hs.succ hxa (⟨by unfold isIn; omega, h128, by rw [w_some (by omega) hxc]; omega⟩)), (hp.succ hxa (j := j) (by omega) hn), SR18, rfl, rfl, rfl, rfl⟩
    refine gq16 ?_; refine gq2 ?_
    refine BK_of ?_
    refine BKL_nil ?_
    rintro wR18 ⟨SR18, XR18⟩
    refine gw8 ?_
    exact ⟨⟨_, rfl, fun h => absurd h (by omega)⟩, SR18.fin⟩
   refine gw8 ?_; refine gw1 ?_
   exact ⟨⟨_, rfl, fun h => absurd h (by omega)⟩, S105.fin⟩
  refine gw4 ?_; refine gw2 ?_; refine gw1 ?_
  refine o_loadN many_36 rfl (S.cells 1 rfl) rfl rfl ?_
  refine gw1 ?_
  refine o_loadN many_112 rfl (S.cells 0 rfl) rfl rfl ?_
  refine o_calls S has_109 rfl rfl (kind07_fn p s t M _ _ _ (hP.keep (S.keep0 M)) (RStep.keep (S.keep0 M) _ _ hS) (hM' _ S.size) h80 (fun a ha => ⟨(hs.all (by omega) a ha).1, (hs.all (by omega) a ha).2.1⟩)) (fun h149 w149 S149 X149 => ?_) (fun w149 S149 X149 => ?_)
  ·refine gw8 ?_; refine gw2 ?_
   exact ⟨⟨_, rfl, fun _ => ⟨hpre.1, hpre.2.1, hpre.2.2.1, hpre.2.2.2.1, hpre.2.2.2.2.1, hpre.2.2.2.2.2, ⟨h80, by omega⟩, hs.all (by omega), hp.all (by omega), h149⟩⟩, S149.fin⟩
  refine gw8 ?_; refine gw1 ?_
  exact ⟨⟨_, rfl, fun h => absurd h (by omega)⟩, S149.fin⟩
 refine gw8 ?_; refine gw4 ?_; refine gw2 ?_; refine gw1 ?_
 exact ⟨⟨_, rfl, fun h => absurd h (by omega)⟩, S80.fin⟩
set_option maxHeartbeats 1000000 in
theorem thread07_fn (p : ProgD) (t : Nat) (M : List Nat) (w0 : World) (cs : List Value) (hP : RdProg M w0 p cs) (hM : ∀ g ∈ M, g < w0.heap.size) (hN : Named p) (hL : LimOK p) (hlt : t < p.threads.length) :
 Does Tryz.prog 56 #[.agg cs.toArray, .int .i64 t] w0 fun v w' => (∃ a b, v = .tuple #[.int .i64 a, .int .i64 b] ∧ (a = 0 → ∀ x, p.threads[t]? = some x → ThreadOK p t x ∧ ∀ y ∈ p.threads.take t, y.name ≠ x.name)) ∧ Below w0.heap.size w0 w' := by
 obtain ⟨Ac, nc, cc, Am, nm, cm, Al, nl, cl, At, nt, ct, rfl, hC, _, _, hTh, _, _, _, _, _, _, _, _⟩ := hP.open_
 have S := St.refl w0
 have hM' : ∀ w' : World, w0.heap.size ≤ w'.heap.size → ∀ g ∈ M, g < w'.heap.size := fun w' h g hg => by have := hM g hg; omega
 refine Does_enter Tryz.func56 rfl Tryz.ntmps56 rfl ?_
 refine gw2 ?_
 refine o_boxa S (by conv => lhs; whnf) rfl ?_
 intro g2 w2 S2 X2 G2
 refine gw4 ?_; refine gw2 ?_
 refine o_load one_34 rfl (by first | exact S2.cell 0 rfl rfl) rfl ?_
 refine gw1 ?_
 obtain ⟨x, _, _, _, hxx, _, hM18, _, hc18, hr18⟩ := RdS.get (hTh) (t) (by omega)
 obtain ⟨Aa18, na18, ca18, Am18, nm18, cm18, As18, ns18, cs18, Al18, nl18, cl18, rfl, _, hEs18, hMs18, hSt18, hLo18, _, _, _, _, _, _, _, _⟩ := RThread.open_ hr18
 have hLx := hL.2.2.2.2 x (some_mem hxx)
 refine gw1 ?_
 refine o_loadN many_83 rfl (hc18.keep (S2.keep0 _) hM18) (by rfl) rfl ?_
 refine o_alloc S2 zv_83 rfl rfl ?_
 intro g6 w6 S6 X6 G6
 refine o_storeN (kk := 0) (vs := [_, _, _, _, _, _, _]) S6 sz_83 rfl rfl rfl rfl rfl rfl rfl ?_
 intro w1_6 S1_6 X1_6
 dsimp only [setsAt, List.set] at S1_6
 refine gw4 ?_; refine gw1 ?_
 refine o_load one_9 rfl (by exact S1_6.cell 0 rfl rfl) rfl ?_
 refine o_callb S1_6 has_76 rfl rfl (label_fn _ _ (hN.threads x (some_mem hxx))) (fun h22 w22 S22 X22 => ?_) (fun h22 w22 S22 X22 => ?_)
 ·refine gw8 ?_; refine gw2 ?_
  refine W_loop (fun μj D ε w => D = [] ∧ ∃ j : Nat, (j + μj = (t)) ∧ (AllTo (p.threads) j (fun y => y.name ≠ x.name)) ∧ St [] w0 w [(some g6, 83, [.string x.name, .int .i64 x.points, .slice Aa18 na18 ca18, .slice Am18 nm18 cm18, .slice As18 ns18 cs18, .slice Al18 nl18 cl18, .bool x.asleep]), (some g2, 36, [.slice Ac nc cc, .slice Am nm cm, .slice Al nl cl, .slice At nt ct])] ∧ ε 1 = .int .i64 t ∧ ε 2 = .pointer (some ⟨g2, 0, none⟩) ∧ ε 6 = .pointer (some ⟨g6, 0, none⟩) ∧ ε 7 = .int .i64 j) (μ := (t)) ⟨rfl, 0, by omega, AllTo.zero, S22, rfl, rfl, rfl, rfl⟩ ?_
  rintro μj D ε w ⟨rfl, j, _, hn, S, e1, e2, e6, e7⟩
  refine W_known 1 e1 (W_known 2 e2 (W_known 6 e6 (W_known 7 e7 ?_)))
  clear e1 e2 e6 e7
  refine gw4 ?_; refine gw1 ?_
  refine o_lss rfl rfl rfl (fun h26 => ?_) (fun h26 => ?_)
  ·refine gw4 ?_; refine gw2 ?_
   refine W_draw follows_mixed [0, 1, 2, 3, 4, 5, 6, 7, 8] [] [] (by kernel_rfl) rfl (Cl _ _ _ _) (Cl.start S) ?_
   refine gq1 ?_
   refine q_load one_34 rfl (fun w1 hw => by exact hw.1.cell 1 rfl rfl) rfl ?_
   refine gq1 ?_
   obtain ⟨y, _, _, _, hxy, _, _, _, hc32, hr32⟩ := RdS.get (hTh) (j) (by omega)
   obtain ⟨_, _, _, _, _, _, _, _, _, _, _, _, rfl, _, _, _, _, _, _, _, _, _, _, _, _, _⟩ := RThread.open_ hr32
   refine gq2 ?_
   refine q_load one_9 rfl (fun w1 hw => by exact hw.1.old (hc32 _ _ rfl)) rfl ?_
   refine gq1 ?_
   refine q_load one_9 rfl (fun w1 hw => by exact hw.1.cell 0 rfl rfl) rfl ?_
   refine q_eqlS rfl rfl rfl (fun h37 => ?_) (fun h37 => ?_)
   ·refine gq1 ?_
    refine BK_of ?_
    refine BKL_nil ?_
    rintro wR7 ⟨SR7, XR7⟩
    refine gw8 ?_; refine gw1 ?_
    exact ⟨⟨_, _, rfl, fun h => absurd h (by omega)⟩, SR7.fin⟩
   refine gq1 ?_
   refine BK_of ?_
   refine BKL_nil ?_
   rintro wR7 ⟨SR7, XR7⟩
   refine gw8 ?_
   refine ⟨μj - 1, by omega, rfl, (j + 1), (by omega), (hn.succ hxy (h37)), SR7, rfl, rfl, rfl, rfl⟩
  refine gw8 ?_
  refine o_load one_3 rfl (by exact S.cell 0 rfl rfl) rfl ?_
  refine o_lss rfl rfl rfl (fun h40 => ?_) (fun h40 => ?_)
  ·refine gw16 ?_; refine gw8 ?_; refine gw1 ?_
   exact ⟨⟨_, _, rfl, fun h => absurd h (by omega)⟩, S.fin⟩
  refine gw4 ?_
  refine o_load one_71 rfl (by exact S.cell 0 rfl rfl) rfl ?_
  refine gw4 ?_; refine gw1 ?_
  refine o_load one_3 rfl (by exact S.cell 0 rfl rfl) rfl ?_
  refine gw1 ?_
  refine o_neq rfl rfl rfl (fun h47 => ?_) (fun h47 => ?_)
  ·refine gw16 ?_; refine gw2 ?_
   exact ⟨⟨_, _, rfl, fun h => absurd h (by omega)⟩, S.fin⟩
  refine gw4 ?_; refine gw1 ?_
  refine o_load one_43 rfl (by exact S.cell 0 rfl rfl) rfl ?_
  refine gw4 ?_; refine gw1 ?_
  refine o_load one_3 rfl (by exact S.cell 0 rfl rfl) rfl ?_
  refine gw1 ?_
  refine o_neq rfl rfl rfl (fun h55 => ?_) (fun h55 => ?_)
  ·refine gw8 ?_; refine gw2 ?_
   exact ⟨⟨_, _, rfl, fun h => absurd h (by omega)⟩, S.fin⟩
  refine gw8 ?_; refine gw2 ?_
  refine W_loop (fun μk D ε w => D = [] ∧ ∃ k : Nat, (k + μk = (x.modules.length)) ∧ (AllTo (x.modules) k (fun m => isIn m p.modules.length)) ∧ St [] w0 w [(some g6, 83, [.string x.name, .int .i64 x.points, .slice Aa18 na18 ca18, .slice Am18 nm18 cm18, .slice As18 ns18 cs18, .slice Al18 nl18 cl18, .bool x.asleep]), (some g2, 36, [.slice Ac nc cc, .slice Am nm cm, .slice Al nl cl, .slice At nt ct])] ∧ ε 1 = .int .i64 t ∧ ε 2 = .pointer (some ⟨g2, 0, none⟩) ∧ ε 6 = .pointer (some ⟨g6, 0, none⟩) ∧ ε 8 = .int .i64 k) (μ := (x.modules.length)) ⟨rfl, 0, by omega, AllTo.zero, S, rfl, rfl, rfl, rfl⟩ ?_
  rintro μk D ε w ⟨rfl, k, hk, hm, S, e1, e2, e6, e8⟩
  refine W_known 1 e1 (W_known 2 e2 (W_known 6 e6 (W_known 8 e8 ?_)))
  clear e1 e2 e6 e8
  refine gw4 ?_; refine gw1 ?_
  refine o_load one_43 rfl (by exact S.cell 0 rfl rfl) rfl ?_
  refine gw1 ?_
  refine o_lss rfl rfl rfl (fun h61 => ?_) (fun h61 => ?_)
  ·refine gw4 ?_; refine gw2 ?_
   refine W_draw follows_mixed [0, 1, 2, 3, 4, 5, 6, 7, 8, 9] [] [] (by kernel_rfl) rfl (Cl _ _ _ _) (Cl.start S) ?_
   refine gq1 ?_
   refine q_load one_43 rfl (fun w1 hw => by exact hw.1.cell 0 rfl rfl) rfl ?_
   refine gq1 ?_
   obtain ⟨m, _, _, _, hxm, _, _, _, hc67, hr67⟩ := RdS.get (hMs18) (k) (by omega)
   obtain ⟨rfl, _⟩ := id hr67
   refine gq1 ?_
   refine q_load one_3 rfl (fun w1 hw => by exact hw.1.old (hc67 0 _ rfl)) rfl ?_
   refine gq1 ?_
   refine q_load one_32 rfl (fun w1 hw => by exact hw.1.cell 1 rfl rfl) rfl ?_
   refine gq1 ?_
   refine q_callb has_78 rfl rfl (fun w1 S1 X1 => in_fn _ _ _) (fun h72 => ?_) (fun h72 => ?_)
   ·refine gq2 ?_
    refine BK_of ?_
    refine BKL_nil ?_
    rintro wR14 ⟨SR14, XR14⟩
    refine gw8 ?_
    refine ⟨μk - 1, by omega, rfl, (k + 1), (by omega), (hm.succ hxm (by have := of_decide_eq_true h72; unfold isIn; omega)), SR14, rfl, rfl, rfl, rfl⟩
   refine gq2 ?_
   refine BK_of ?_
   refine BKL_nil ?_
   rintro wR14 ⟨SR14, XR14⟩
   refine gw8 ?_; refine gw1 ?_
   exact ⟨⟨_, _, rfl, fun h => absurd h (by omega)⟩, SR14.fin⟩
  refine gw8 ?_; refine gw2 ?_
  refine W_loop (fun μk D ε w => D = [] ∧ ∃ k : Nat, (k + μk = (x.asserts.length)) ∧ (AllTo (x.asserts) k (fun e => truthP p.cells e false t)) ∧ St [] w0 w [(some g6, 83, [.string x.name, .int .i64 x.points, .slice Aa18 na18 ca18, .slice Am18 nm18 cm18, .slice As18 ns18 cs18, .slice Al18 nl18 cl18, .bool x.asleep]), (some g2, 36, [.slice Ac nc cc, .slice Am nm cm, .slice Al nl cl, .slice At nt ct])] ∧ ε 1 = .int .i64 t ∧ ε 2 = .pointer (some ⟨g2, 0, none⟩) ∧ ε 6 = .pointer (some ⟨g6, 0, none⟩) ∧ ε 9 = .int .i64 k) (μ := (x.asserts.length)) ⟨rfl, 0, by omega, AllTo.zero, S, rfl, rfl, rfl, rfl⟩ ?_
  rintro μk D ε w ⟨rfl, k, hk, ha, S, e1, e2, e6, e9⟩
  refine W_known 1 e1 (W_known 2 e2 (W_known 6 e6 (W_known 9 e9 ?_)))
  clear e1 e2 e6 e9
  refine gw4 ?_; refine gw1 ?_
  refine o_load one_71 rfl (by exact S.cell 0 rfl rfl) rfl ?_
  refine gw1 ?_
  refine o_lss rfl rfl rfl (fun h78 => ?_) (fun h78 => ?_)
  ·refine gw4 ?_; refine gw2 ?_
   refine W_draw follows_mixed [0, 1, 2, 3, 4, 5, 6, 7, 8] [] [] (by kernel_rfl) rfl (Cl _ _ _ _) (Cl.start S) ?_
   refine q_loadN many_36 rfl (fun w1 hw => hw.1.cells 1 rfl) rfl rfl ?_
   refine gq1 ?_
   refine q_load one_71 rfl (fun w1 hw => by exact hw.1.cell 0 rfl rfl) rfl ?_
   refine gq1 ?_
   obtain ⟨e, _, _, _, hxe, _, hM85, _, hc85, hr85⟩ := RdS.get (hEs18) (k) (by omega)
   obtain ⟨_, _, _, rfl, _, _, _, _, _⟩ := RdE.cells hr85
   refine gq1 ?_
   refine q_loadN many_73 rfl (fun w1 hw => hc85.keep (hw.1.keep0 _) hM85) (by rfl) rfl ?_
   refine gq1 ?_
   refine q_callb has_80 rfl rfl (fun w1 S1 X1 => truth07_fn p e M _ _ _ false t (hP.keep (S1.keep0 M)) (RdE.keep (S1.keep0 M) _ _ hr85) (hM' _ S1.size)) (fun h88 => ?_) (fun h88 => ?_)
   ·refine gq2 ?_
    refine BK_of ?_
    refine BKL_nil ?_
    rintro wR19 ⟨SR19, XR19⟩
    refine gw8 ?_
    refine ⟨μk - 1, by omega, rfl, (k + 1), (by omega), (ha.succ hxe (of_dec h88)), SR19, rfl, rfl, rfl, rfl⟩
   refine gq2 ?_
   refine BK_of ?_
   refine BKL_nil ?_
   rintro wR19 ⟨SR19, XR19⟩
   refine gw8 ?_; refine gw1 ?_
   exact ⟨⟨_, _, rfl, fun h => absurd h (by omega)⟩, SR19.fin⟩
  refine gw8 ?_; refine gw2 ?_
  refine W_loop (fun μk D ε w => D = [] ∧ ∃ k : Nat, (k + μk = (x.steps.length)) ∧ (AllTo (x.steps) k (fun s => StepOK p t x.points s)) ∧ St [] w0 w [(some g6, 83, [.string x.name, .int .i64 x.points, .slice Aa18 na18 ca18, .slice Am18 nm18 cm18, .slice As18 ns18 cs18, .slice Al18 nl18 cl18, .bool x.asleep]), (some g2, 36, [.slice Ac nc cc, .slice Am nm cm, .slice Al nl cl, .slice At nt ct])] ∧ ε 1 = .int .i64 t ∧ ε 2 = .pointer (some ⟨g2, 0, none⟩) ∧ ε 6 = .pointer (some ⟨g6, 0, none⟩) ∧ ε 10 = .int .i64 k) (μ := (x.steps.length)) ⟨rfl, 0, by omega, AllTo.zero, S, rfl, rfl, rfl, rfl⟩ ?_
  rintro μk D ε w ⟨rfl, k, hk, hs, S, e1, e2, e6, e10⟩
  refine W_known 1 e1 (W_known 2 e2 (W_known 6 e6 (W_known 10 e10 ?_)))
  clear e1 e2 e6 e10
  refine gw4 ?_; refine gw1 ?_
  refine o_load one_80 rfl (by exact S.cell 0 rfl rfl) rfl ?_
  refine gw1 ?_
  refine o_lss rfl rfl rfl (fun h94 => ?_) (fun h94 => ?_)
  ·refine gw4 ?_; refine gw2 ?_
   refine W_draw follows_mixed [0, 1, 2, 3, 4, 5, 6] [] [7, 8] (by kernel_rfl) rfl (Cl _ _ _ _) (Cl.start S) ?_
   refine q_loadN many_36 rfl (fun w1 hw => hw.1.cells 1 rfl) rfl rfl ?_
   refine gq2 ?_
   refine q_load one_80 rfl (fun w1 hw => by exact hw.1.cell 0 rfl rfl) rfl ?_
   refine gq1 ?_
   obtain ⟨s, _, _, _, hxs, _, hM102, _, hc102, hr102⟩ := RdS.get (hSt18) (k) (by omega)
   obtain ⟨_, _, _, _, _, _, rfl, ⟨_, _, _, _, _⟩, _, _, _, _⟩ := RStep.open_ hr102
   refine gq1 ?_
   refine q_loadN many_112 rfl (fun w1 hw => hc102.keep (hw.1.keep0 _) hM102) (by rfl) rfl ?_
   refine gq1 ?_
   refine BK_of ?_
   refine BKL_nil ?_
   rintro wR24 ⟨SR24, _⟩
   refine o_calln SR24 has_82 rfl rfl (step07_fn p s x t M _ _ _ (hP.keep (SR24.keep0 M)) (RStep.keep (SR24.keep0 M) _ _ hr102) (hM' _ SR24.size) hxx (by omega) (by omega)) ?_
   rintro v104 w104 ⟨_, rfl, hes⟩ S104 X104
   refine gw4 ?_; refine gw1 ?_
   refine o_neq rfl rfl rfl (fun h106 => ?_) (fun h106 => ?_)
   ·refine gw8 ?_; refine gw2 ?_; refine gw1 ?_
    exact ⟨⟨_, _, rfl, fun h => absurd h (by omega)⟩, S104.fin⟩
   refine gw8 ?_
   refine ⟨μk - 1, by omega, rfl, (k + 1), (by omega), (hs.succ hxs (hes (by omega))), S104, rfl, rfl, rfl, rfl⟩
  refine gw8 ?_; refine gw2 ?_
  refine W_loop (fun μk D ε w => D = [] ∧ ∃ k : Nat, (k + μk = (x.loops.length)) ∧ (AllTo (x.loops) k (fun l => LoopOK p t x.points l)) ∧ St [] w0 w [(some g6, 83, [.string x.name, .int .i64 x.points, .slice Aa18 na18 ca18, .slice Am18 nm18 cm18, .slice As18 ns18 cs18, .slice Al18 nl18 cl18, .bool x.asleep]), (some g2, 36, [.slice Ac nc cc, .slice Am nm cm, .slice Al nl cl, .slice At nt ct])] ∧ ε 1 = .int .i64 t ∧ ε 2 = .pointer (some ⟨g2, 0, none⟩) ∧ ε 6 = .pointer (some ⟨g6, 0, none⟩) ∧ ε 12 = .int .i64 k) (μ := (x.loops.length)) ⟨rfl, 0, by omega, AllTo.zero, S, rfl, rfl, rfl, rfl⟩ ?_
  rintro μk D ε w ⟨rfl, k, hk, hl, S, e1, e2, e6, e12⟩
  refine W_known 1 e1 (W_known 2 e2 (W_known 6 e6 (W_known 12 e12 ?_)))
  clear e1 e2 e6 e12
  refine gw4 ?_; refine gw1 ?_
  refine o_load one_81 rfl (by exact S.cell 0 rfl rfl) rfl ?_
  refine gw1 ?_
  refine o_lss rfl rfl rfl (fun h113 => ?_) (fun h113 => ?_)
  ·refine gw8 ?_
   refine o_load one_81 rfl (by exact S.cell 0 rfl rfl) rfl ?_
   refine gw1 ?_
   obtain ⟨l, _, _, _, hxl, _, hM119, _, hc119, hr119⟩ := RdS.get (hLo18) (k) (by omega)
   obtain ⟨Ab119, nb119, cb119, Ag119, ng119, cg119, rfl, _, hB119, hE119, _, _⟩ := RLoop.open_ hr119
   refine gw1 ?_
   refine o_loadN many_126 rfl (hc119.keep (S.keep0 _) hM119) (by rfl) rfl ?_
   refine o_alloc S zv_126 rfl rfl ?_
   intro g13 w13 S13 X13 G13
   refine o_storeN (kk := 0) (vs := [_, _, _, _, _, _]) S13 sz_126 rfl rfl rfl rfl rfl rfl rfl ?_
   intro w30_6 S30_6 X30_6
   dsimp only [setsAt, List.set] at S30_6
   refine gw4 ?_; refine gw1 ?_
   refine o_load one_3 rfl (by exact S30_6.cell 0 rfl rfl) rfl ?_
   refine gw1 ?_
   refine o_load one_3 rfl (by exact S30_6.cell 1 rfl rfl) rfl ?_
   refine o_callb S30_6 has_78 rfl rfl (in_fn _ _ _) (fun h125 w125 S125 X125 => ?_) (fun h125 w125 S125 X125 => ?_)
   ·refine gw4 ?_; refine gw1 ?_
    refine o_load one_43 rfl (by exact S125.cell 0 rfl rfl) rfl ?_
    refine gw1 ?_
    refine o_calls S125 has_81 rfl rfl (rising_fn M _ _ _ (hB119.keep (S125.keep0 M))) (fun h130 w130 S130 X130 => ?_) (fun w130 S130 X130 => ?_)
    ·refine gw8 ?_; refine gw4 ?_
     refine W_loop (fun μi D ε w => D = [] ∧ ∃ i : Nat, (i + μi = (l.body.length)) ∧ (AllTo (l.body) i (fun z => 0 ≤ z ∧ z < x.points ∧ z ≠ l.head)) ∧ St [] w0 w [(some g13, 126, [.int .i64 l.head, .slice Ab119 nb119 cb119, .int .i64 l.variant.op, .int .i64 l.variant.w, .int .i64 l.variant.n, .slice Ag119 ng119 cg119]), (some g6, 83, [.string x.name, .int .i64 x.points, .slice Aa18 na18 ca18, .slice Am18 nm18 cm18, .slice As18 ns18 cs18, .slice Al18 nl18 cl18, .bool x.asleep]), (some g2, 36, [.slice Ac nc cc, .slice Am nm cm, .slice Al nl cl, .slice At nt ct])] ∧ ε 1 = .int .i64 t ∧ ε 2 = .pointer (some ⟨g2, 0, none⟩) ∧ ε 6 = .pointer (some ⟨g6, 0, none⟩) ∧ ε 12 = .int .i64 k ∧ ε 13 = .pointer (some ⟨g13, 0, none⟩) ∧ ε 14 = .int .i64 i) (μ := (l.body.length)) ⟨rfl, 0, by omega, AllTo.zero, S130, rfl, rfl, rfl, rfl, rfl, rfl⟩ ?_
     rintro μi D ε w ⟨rfl, i, _, hb, S, e1, e2, e6, e12, e13, e14⟩
     refine W_known 1 e1 (W_known 2 e2 (W_known 6 e6 (W_known 12 e12 (W_known 13 e13 (W_known 14 e14 ?_)))))
     clear e1 e2 e6 e12 e13 e14
     refine gw4 ?_; refine gw1 ?_
     refine o_load one_43 rfl (by exact S.cell 0 rfl rfl) rfl ?_
     refine gw1 ?_
     refine o_lss rfl rfl rfl (fun h137 => ?_) (fun h137 => ?_)
     ·refine gw4 ?_; refine gw2 ?_
      refine W_draw follows_mixed [0, 1, 2, 3, 4, 5, 6, 7, 8, 9, 10, 11, 12, 13, 14, 15, 16, 17, 18] [] [] (by kernel_rfl) rfl (Cl _ _ _ _) (Cl.start S) ?_
      refine gq1 ?_
      refine q_load one_43 rfl (fun w1 hw => by exact hw.1.cell 0 rfl rfl) rfl ?_
      refine gq1 ?_
      obtain ⟨z, _, _, _, hxz, _, _, _, hc143, hr143⟩ := RdS.get (hB119) (i) (by omega)
      obtain ⟨rfl, _⟩ := id hr143
      refine gq1 ?_
      refine q_load one_3 rfl (fun w1 hw => by exact hw.1.old (hc143 0 _ rfl)) rfl ?_
      refine gq1 ?_
      refine q_load one_3 rfl (fun w1 hw => by exact hw.1.cell 1 rfl rfl) rfl ?_
      refine q_callb has_78 rfl rfl (fun w1 S1 X1 => in_fn _ _ _) (fun h147 => ?_) (fun h147 => ?_)
      ·refine gq4 ?_; refine gq1 ?_
       refine q_load one_43 rfl (fun w1 hw => by exact hw.1.cell 0 rfl rfl) rfl ?_
       refine gq2 ?_; refine gq1 ?_
       obtain ⟨_, _, _, _, hx153, _, _, _, hc153, hr153⟩ := RdS.get (hB119) (i) (by omega)
       obtain rfl := Option.some.inj (hxz.symm.trans hx153)
       obtain ⟨rfl, _⟩ := id hr153
       refine gq2 ?_
       refine q_load one_3 rfl (fun w1 hw => by exact hw.1.old (hc153 0 _ rfl)) rfl ?_
       refine gq2 ?_; refine gq1 ?_
       refine q_load one_3 rfl (fun w1 hw => by exact hw.1.cell 0 rfl rfl) rfl ?_
       refine gq1 ?_
       refine q_eql rfl rfl rfl (fun h157 => ?_) (fun h157 => ?_)
       ·refine gq2 ?_
        refine BK_of ?_
        refine BKL_nil ?_
        rintro wR36 ⟨SR36, XR36⟩
        refine gw8 ?_; refine gw1 ?_
        exact ⟨⟨_, _, rfl, fun h => absurd h (by omega)⟩, SR36.fin⟩
       refine gq2 ?_
       refine BK_of ?_
       refine BKL_nil ?_
       rintro wR36 ⟨SR36, XR36⟩
       refine gw8 ?_
       refine ⟨μi - 1, by omega, rfl, (i + 1), (by omega), (hb.succ hxz (by have := of_decide_eq_true h147; omega)), SR36, rfl, rfl, rfl, rfl, rfl, rfl⟩
      refine gq8 ?_; refine gq4 ?_
      refine BK_of ?_
      refine BKL_nil ?_
      rintro wR36 ⟨SR36, XR36⟩
      refine gw8 ?_; refine gw1 ?_
      exact ⟨⟨_, _, rfl, fun h => absurd h (by omega)⟩, SR36.fin⟩
     refine gw4 ?_; refine gw2 ?_; refine gw1 ?_
     refine o_loadN many_73 rfl (cs := [_, _, _, _]) (S.cellsAt 0 2 4 rfl) rfl rfl ?_
     refine gw1 ?_
     refine o_load one_31 rfl (by exact S.cell 2 rfl rfl) rfl ?_
     refine o_callb S has_83 rfl rfl (valid_fn _ M _ _ _ p.cells false (RdE.keep (S.keep0 M) _ _ hE119) (hC.keep (S.keep0 M))) (fun h163 w163 S163 X163 => ?_) (fun h163 w163 S163 X163 => ?_)
     ·refine gw2 ?_; refine gw1 ?_
      refine o_loadN many_36 rfl (S163.cells 2 rfl) rfl rfl ?_
      refine gw2 ?_; refine gw1 ?_
      refine o_loadN many_73 rfl (cs := [_, _, _, _]) (S163.cellsAt 0 2 4 rfl) rfl rfl ?_
      refine gw2 ?_; refine gw1 ?_
      refine o_callb S163 has_84 rfl rfl (over07_fn p _ M _ _ _ _ false t (hP.keep (S163.keep0 M)) (RdE.keep (S163.keep0 M) _ _ hE119) (hM' _ S163.size) h163) (fun h170 w170 S170 X170 => ?_) (fun h170 w170 S170 X170 => ?_)
      ·refine gw8 ?_; refine gw2 ?_; refine gw1 ?_
       refine ⟨μk - 1, by omega, rfl, (k + 1), (by omega), (hl.succ hxl (⟨by have := of_decide_eq_true h125; omega, h130, hb.all (by omega), h163, of_dec h170⟩)), S170.tail, rfl, rfl, rfl, rfl⟩
      refine gw8 ?_; refine gw4 ?_
      exact ⟨⟨_, _, rfl, fun h => absurd h (by omega)⟩, S170.fin⟩
     refine gw16 ?_; refine gw2 ?_
     exact ⟨⟨_, _, rfl, fun h => absurd h (by omega)⟩, S163.fin⟩
    refine gw8 ?_; refine gw4 ?_
    exact ⟨⟨_, _, rfl, fun h => absurd h (by omega)⟩, S130.fin⟩
   refine gw16 ?_
   exact ⟨⟨_, _, rfl, fun h => absurd h (by omega)⟩, S125.fin⟩
  refine gw8 ?_; refine gw2 ?_; refine gw1 ?_
  refine ⟨⟨_, _, rfl, fun _ x' hx' => ?_⟩, S.fin⟩
  rw [hxx] at hx'; cases hx'
  refine ⟨⟨of_dec h22, ⟨by omega, by omega⟩, by omega, by omega, by omega, by omega, hm.all (by omega), ha.all (by omega), hs.all (by omega), hl.all (by omega)⟩, fun y hy => hn y ?_⟩
  rwa [show j = t by omega]
 refine gw8 ?_; refine gw2 ?_
 exact ⟨⟨_, _, rfl, fun h => absurd h (by omega)⟩, S22.fin⟩
theorem valid07_fn (p : ProgD) (M : List Nat) (w0 : World) (cs : List Value) (hP : RdProg M w0 p cs) (hM : ∀ g ∈ M, g < w0.heap.size) (hN : Named p) :
 Does Tryz.prog 32 #[.agg cs.toArray] w0 fun v w' => (∃ a b c, v = .tuple #[.int .i64 a, .int .i64 b, .int .i64 c] ∧ (a = 0 → ProgOK p)) ∧ Below w0.heap.size w0 w' := by
 obtain ⟨Ac, nc, cc, Am, nm, cm, Al, nl, cl, At, nt, ct, rfl, _, _, _, _, _, _, _, _, _, _, _, _⟩ := hP.open_
 have S := St.refl w0
 have hM' : ∀ w' : World, w0.heap.size ≤ w'.heap.size → ∀ g ∈ M, g < w'.heap.size := fun w' h g hg => by have := hM g hg; omega
 refine Does_enter Tryz.func32 rfl Tryz.ntmps32 rfl ?_
 refine gw2 ?_
 refine o_boxa S (by conv => lhs; whnf) rfl ?_
 intro g1 w1 S1 X1 G1
 refine gw4 ?_; refine gw2 ?_
 first | refine o_loadN many_36 rfl (S1.cells 0 rfl) rfl rfl ?_
 refine o_calln S1 has_52 rfl rfl (limits07_fn p M _ _ (hP.keep (S1.keep0 M))) ?_
 rintro v13 w13 ⟨a1, _, rfl, hq1⟩ S13 X13
 refine gw8 ?_; refine gw2 ?_
 refine o_neq rfl rfl rfl (fun h17 => ?_) (fun h17 => ?_)
 ·refine gw8 ?_; refine gw2 ?_; refine gw1 ?_
  refine ret_3 rfl (by conv => lhs; whnf) (by conv => lhs; whnf) (by conv => lhs; whnf) ?_
  exact ⟨⟨_, _, _, rfl, fun h => absurd h (by omega)⟩, S13.fin⟩
 refine gw8 ?_; refine gw1 ?_
 refine W_loop (fun μk D ε w => D = [] ∧ ∃ k : Nat, ∃ ev : Int, (k + μk = (3)) ∧ ((1 ≤ k → CellsOK p) ∧ (2 ≤ k → ModsOK p) ∧ (3 ≤ k → LocksOK p)) ∧ St [] w0 w [(some g1, 36, [.slice Ac nc cc, .slice Am nm cm, .slice Al nl cl, .slice At nt ct])] ∧ ε 1 = .pointer (some ⟨g1, 0, none⟩) ∧ ε 5 = .int .i64 ev ∧ ε 7 = .int .i64 k) (μ := (3)) ⟨rfl, 0, a1, by omega, ⟨fun h => absurd h (by omega), fun h => absurd h (by omega), fun h => absurd h (by omega)⟩, S13, rfl, rfl, rfl⟩ ?_
 rintro μk D ε w ⟨rfl, k, ev, hk, hr, S, e1, e5, e7⟩
 refine W_known 1 e1 (W_known 5 e5 (W_known 7 e7 ?_))
 clear e1 e5 e7
 refine gw4 ?_
 refine o_lss rfl rfl rfl (fun h21 => ?_) (fun h21 => ?_)
 ·refine gw8 ?_; refine gw4 ?_; refine gw1 ?_
  refine o_eql rfl rfl rfl (fun h26 => ?_) (fun h26 => ?_)
  ·refine gw4 ?_
   first | refine o_loadN many_36 rfl (S.cells 0 rfl) rfl rfl ?_
   refine o_calln S has_53 rfl rfl (cells07_fn p M _ _ (hP.keep (S.keep0 M)) hN) ?_
   rintro v28 w28 ⟨a2, rfl, hq2⟩ S28 X28
   refine gw4 ?_; refine gw1 ?_
   refine o_neq rfl rfl rfl (fun h38 => ?_) (fun h38 => ?_)
   ·refine gw8 ?_; refine gw2 ?_
    refine ret_3 rfl (by conv => lhs; whnf) (by conv => lhs; whnf) (by conv => lhs; whnf) ?_
    exact ⟨⟨_, _, _, rfl, fun h => absurd h (by omega)⟩, S28.fin⟩
   refine gw8 ?_
   refine ⟨μk - 1, by omega, rfl, (k + 1), (a2), (by omega), ?_, S28, rfl, rfl, rfl⟩
   have hq3 := hq2 (by omega)
   refine ⟨fun h => ?_, fun h => ?_, fun h => ?_⟩
   all_goals first
    | (exfalso; omega)
    | exact hq3
  refine gw4 ?_; refine gw1 ?_
  refine o_eql rfl rfl rfl (fun h30 => ?_) (fun h30 => ?_)
  ·refine gw4 ?_
   first | refine o_loadN many_36 rfl (S.cells 0 rfl) rfl rfl ?_
   refine o_calln S has_54 rfl rfl (modules07_fn p M _ _ (hP.keep (S.keep0 M)) hN (hM' _ S.size)) ?_
   rintro v32 w32 ⟨a2, rfl, hq2⟩ S32 X32
   refine gw4 ?_; refine gw1 ?_
   refine o_neq rfl rfl rfl (fun h38 => ?_) (fun h38 => ?_)
   ·refine gw8 ?_; refine gw2 ?_
    refine ret_3 rfl (by conv => lhs; whnf) (by conv => lhs; whnf) (by conv => lhs; whnf) ?_
    exact ⟨⟨_, _, _, rfl, fun h => absurd h (by omega)⟩, S32.fin⟩
   refine gw8 ?_
   refine ⟨μk - 1, by omega, rfl, (k + 1), (a2), (by omega), ?_, S32, rfl, rfl, rfl⟩
   have hq3 := hq2 (by omega)
   refine ⟨fun h => ?_, fun h => ?_, fun h => ?_⟩
   all_goals first
    | (exfalso; omega)
    | exact hq3
    | exact hr.1 (by omega)
  refine gw4 ?_; refine gw1 ?_
  refine o_eql rfl rfl rfl (fun h34 => ?_) (fun h34 => ?_)
  ·refine gw4 ?_
   first | refine o_loadN many_36 rfl (S.cells 0 rfl) rfl rfl ?_
   refine o_calln S has_55 rfl rfl (locks07_fn p M _ _ (hP.keep (S.keep0 M)) (hM' _ S.size)) ?_
   rintro v36 w36 ⟨a2, rfl, hq2⟩ S36 X36
   refine gw4 ?_; refine gw1 ?_
   refine o_neq rfl rfl rfl (fun h38 => ?_) (fun h38 => ?_)
   ·refine gw8 ?_; refine gw2 ?_
    refine ret_3 rfl (by conv => lhs; whnf) (by conv => lhs; whnf) (by conv => lhs; whnf) ?_
    exact ⟨⟨_, _, _, rfl, fun h => absurd h (by omega)⟩, S36.fin⟩
   refine gw8 ?_
   refine ⟨μk - 1, by omega, rfl, (k + 1), (a2), (by omega), ?_, S36, rfl, rfl, rfl⟩
   have hq3 := hq2 (by omega)
   refine ⟨fun h => ?_, fun h => ?_, fun h => ?_⟩
   all_goals first
    | exact hq3
    | exact hr.1 (by omega)
    | exact hr.2.1 (by omega)
  exfalso; omega
 refine gw8 ?_; refine gw2 ?_
 refine W_loop (fun μk D ε w => D = [] ∧ ∃ k : Nat, (k + μk = (p.threads.length)) ∧ (∀ j x, p.threads[j]? = some x → j < k → ThreadOK p j x ∧ ∀ y ∈ p.threads.take j, y.name ≠ x.name) ∧ St [] w0 w [(some g1, 36, [.slice Ac nc cc, .slice Am nm cm, .slice Al nl cl, .slice At nt ct])] ∧ ε 1 = .pointer (some ⟨g1, 0, none⟩) ∧ ε 8 = .int .i64 k) (μ := (p.threads.length)) ⟨rfl, 0, by omega, (fun j x _ h => absurd h (by omega)), S, rfl, rfl⟩ ?_
 rintro μk D ε w ⟨rfl, k, hk, ht, S, e1, e8⟩
 refine W_known 1 e1 (W_known 8 e8 ?_)
 clear e1 e8
 refine gw4 ?_; refine gw1 ?_
 refine o_load one_34 rfl (by first | exact S.cell 0 rfl rfl) rfl ?_
 refine gw1 ?_
 refine o_lss rfl rfl rfl (fun h44 => ?_) (fun h44 => ?_)
 ·refine gw4 ?_; refine gw2 ?_; refine gw1 ?_
  first | refine o_loadN many_36 rfl (S.cells 0 rfl) rfl rfl ?_
  refine gw1 ?_
  refine o_calln S has_56 rfl rfl (thread07_fn p k M _ _ (hP.keep (S.keep0 M)) (hM' _ S.size) hN (hq1 (by omega)) (by omega)) ?_
  rintro v50 w50 ⟨_, _, rfl, hq3⟩ S50 X50
  refine gw8 ?_; refine gw1 ?_
  refine o_neq rfl rfl rfl (fun h54 => ?_) (fun h54 => ?_)
  ·refine gw8 ?_; refine gw4 ?_
   refine ret_3 rfl (by conv => lhs; whnf) (by conv => lhs; whnf) (by conv => lhs; whnf) ?_
   exact ⟨⟨_, _, _, rfl, fun h => absurd h (by omega)⟩, S50.fin⟩
  refine gw8 ?_
  refine ⟨μk - 1, by omega, rfl, (k + 1), (by omega), ?_, S50, rfl, rfl⟩
  intro j x hx hj
  by_cases hjk : j = k
  ·subst hjk; exact hq3 (by omega) x hx
  ·exact ht j x hx (by omega)
 refine gw8 ?_; refine gw2 ?_; refine gw1 ?_
 refine ret_3 rfl (by conv => lhs; whnf) (by conv => lhs; whnf) (by conv => lhs; whnf) ?_
 refine ⟨⟨_, _, _, rfl, fun _ => ?_⟩, S.fin⟩
 have h1 := hq1 (by omega)
 have h2 := hr.1 (by omega)
 have h3 := hr.2.1 (by omega)
 have h4 := hr.2.2 (by omega)
 exact ⟨h1.1, h1.2.1, h1.2.2.1, h1.2.2.2.1, h2.1, h2.2, h3.1, h3.2, h4.1, h4.2, fun t h => (ht t _ (List.getElem?_eq_getElem h) (by omega)).1, pairwise_of_take (fun j x hx => (ht j x hx (by have := some_lt hx; omega)).2)⟩
end Go.Proofs.YtgnbfmifjlnigaaGreatDoor
namespace Go.Fw
open Go.RowKit
open Go.Maps (Keyed)
section
variable {P : Program} {r : Option Nat} {N : Nat} {D : List Deferred} {e : Env} {w w0 : World} {ops : Array Oper} {rest : List Oper} {K : List Deferred → Env → World → Prop} {L : List Ent} {M : List Nat}
variable {K' : List Deferred → Env → World → Prop} {d : Nat} {t : TypeId} {p : String} {af : Array Edge} {f : FuncId} {args : Array Operand} {at_ : Array TypeId} {vs : List Value} {x y z : Operand}
theorem o_callf {g : Operand} {first caps : Array Value} {R : Value → World → Prop} (hH : Has P f) (hg : ev e g = .func (.func f) first caps) (hvs : first.toList ++ args.toList.map (ev e) ++ caps.toList = vs) (hd : Nat.ble (d + 1) N = true)
 (hc : Does P f vs.toArray w R) (h : ∀ v w', R v w' → WL P r N ops rest K D (upd e d v) w') :
 WL P r N ops (⟨some d, .call { callee := .value g, args := args, argTypes := at_ }, t, p, af, none⟩ :: rest) K D e w := by
 refine WL_call rfl rfl hd (by simp) ?_ hc h
 subst hvs
 have : (first ++ args.map (ev e) ++ caps) = (first.toList ++ args.toList.map (ev e) ++ caps.toList).toArray := by apply Array.ext'; simp
 simp [execOp, resolve, Deferred.ofValue, invoke, hg, hH _ w, this]
theorem o_makeFuncB {fn : Fn} {fst cap : Array Operand} {us vs : List Value} (hus : fst.toList.map (ev e) = us) (hvs : cap.toList.map (ev e) = vs) (hd : Nat.ble (d + 1) N = true) (h : WL P r N ops rest K D (upd e d (.func fn us.toArray vs.toArray)) w) :
 WL P r N ops (⟨some d, .makeFunc fn fst cap, t, p, af, none⟩ :: rest) K D e w := by
 have hc : (cap.map (ev e)) = vs.toArray := by subst hvs; apply Array.ext'; simp
 have hf : (fst.map (ev e)) = us.toArray := by subst hus; apply Array.ext'; simp
 exact WL_val rfl rfl hd (by simp) (by simp [execOp, Instr.makeFunc, hc, hf]) h
def IsPred (P : Program) (M : List Nat) (w : World) (v : Value) (q : Int → Bool) : Prop :=
 ∃ f first caps, v = .func (.func f) first caps ∧ Has P f ∧ ∀ w', Keep M w w' → ∀ c, i64 c → Does P f (first.toList ++ [Value.int .i64 c] ++ caps.toList).toArray w' fun v w'' => v = .bool (q c) ∧ Below w'.heap.size w' w''
theorem IsPred.keep {v : Value} {q : Int → Bool} {w' : World} (h : IsPred P M w v q) (hk : Keep M w w') : IsPred P M w' v q := by
 obtain ⟨f, first, caps, h1, h2, h3⟩ := h
 exact ⟨f, first, caps, h1, h2, fun w'' hk' => h3 w'' (hk.trans hk')⟩
theorem IsPred.less {M' : List Nat} {v : Value} {q : Int → Bool} (h : IsPred P M w v q) (hM : ∀ g ∈ M', g ∈ M) : IsPred P M' w v q := by
 obtain ⟨f, first, caps, h1, h2, h3⟩ := h
 exact ⟨f, first, caps, h1, h2, fun w'' hk' => h3 w'' (hk'.mono hM)⟩
theorem o_callp {M' : List Nat} {g : Operand} {c : Int} {q : Int → Bool} {v : Value} {a : Operand} (S : St M w0 w L) (hp : IsPred P M' w v q) (hg : ev e g = v) (ha : ev e a = .int .i64 c) (hc : i64 c) (hd : Nat.ble (d + 1) N = true)
 (h1 : q c = true → ∀ w1, St M w0 w1 L → Keep [] w w1 → WL P r N ops rest K D (upd e d (.bool true)) w1) (h2 : q c = false → ∀ w1, St M w0 w1 L → Keep [] w w1 → WL P r N ops rest K D (upd e d (.bool false)) w1) :
 WL P r N ops (⟨some d, .call { callee := .value g, args := #[a], argTypes := at_ }, t, p, af, none⟩ :: rest) K D e w := by
 obtain ⟨_, _, _, rfl, hH, hf⟩ := hp
 refine o_callf hH hg (by simp [ha]) hd (hf w (Keep.refl _ _) c hc) fun v w' ⟨hv, hb⟩ => ?_
 subst hv
 cases hq : q c
 ·exact h2 hq w' (S.later hb) (Keep.of_below hb)
 ·exact h1 hq w' (S.later hb) (Keep.of_below hb)
theorem o_callpT {M' : List Nat} {g : Operand} {c : Int} {q : Int → Bool} {v : Value} {a : Operand} (S : St M w0 w L) (hp : IsPred P M' w v q) (hg : ev e g = v) (ha : ev e a = .int .i64 c) (hc : i64 c) (hq : q c = true) (hd : Nat.ble (d + 1) N = true)
 (h1 : ∀ w1, St M w0 w1 L → Keep [] w w1 → WL P r N ops rest K D (upd e d (.bool true)) w1) :
 WL P r N ops (⟨some d, .call { callee := .value g, args := #[a], argTypes := at_ }, t, p, af, none⟩ :: rest) K D e w :=
 o_callp S hp hg ha hc hd (fun _ => h1) (fun h => by rw [hq] at h; cases h)
def MapAt (P : Program) (k : TypeId) (w : World) (b : Nat) (l : List (Value × Value)) : Prop :=
 ∃ es clock, w.heap[b]? = some (.map es clock) ∧ es.toList.map (fun x => (x.key, x.val)) = l ∧ ∀ x ∈ l, ∃ q, keyOf P k x.1 = some q
theorem MapAt.keep {k : TypeId} {b : Nat} {l : List (Value × Value)} {w' : World} (h : MapAt P k w b l) (hk : Keep M w w') (hb : b ∉ M) : MapAt P k w' b l := by
 obtain ⟨es, clock, h1, h2, h3⟩ := h
 refine ⟨es, clock, ?_, h2, h3⟩
 rw [hk.same b (Array.getElem?_eq_some_iff.1 h1).1 hb]; exact h1
theorem MapAt.lt {k : TypeId} {b : Nat} {l : List (Value × Value)} (h : MapAt P k w b l) : b < w.heap.size := by
 obtain ⟨_, _, h1, _, _⟩ := h
 exact (Array.getElem?_eq_some_iff.1 h1).1
theorem MapAt.ne {k : TypeId} {b g tb : Nat} {cs : List Value} {l : List (Value × Value)} (h : MapAt P k w b l) (hg : hasBlk w (g, tb, cs)) : b ≠ g := by
 obtain ⟨_, _, h1, _, _⟩ := h
 rintro rfl
 unfold hasBlk at hg
 rw [h1] at hg
 cases hg
theorem St.notMap {k : TypeId} {b : Nat} {l : List (Value × Value)} (S : St M w0 w L) (h : MapAt P k w b l) : ∀ x ∈ L, x.1 ≠ some b := fun x hx hb => by
 have := (S.own x hx b hb).2
 exact h.ne this rfl
theorem o_makeMap {k ty : TypeId} (S : St M w0 w L) (hd : Nat.ble (d + 1) N = true)
 (h : ∀ g w1, St M w0 w1 L → Keep [] w w1 → w.heap.size ≤ g → MapAt P k w1 g [] → WL P r N ops rest K D (upd e d (.map (some g))) w1) :
 WL P r N ops (⟨some d, .makeMap ty none, t, p, af, none⟩ :: rest) K D e w := by
 refine WL_val (v := .map (some w.heap.size)) (w' := w.alloc (.map #[] 0)) rfl rfl hd (by simp) ?_ (h _ _ (S.keeps (S.below.alloc _) fun b hb g hg => Below.heap_alloc w _ g ((S.own b hb g hg).2.lt)) (keep_alloc _ _ _) (Nat.le_refl _) ⟨#[], 0, (MapKept.heap_alloc w _).1, rfl, by simp⟩)
 simp [execOp, run_makeMap]
theorem run_look {k el : TypeId} {ty b : Nat} {l : List (Value × Value)} {key zv : Value} {q : Lit} (ok : Bool) (K : Keyed P k) (ht : P.underlying ty = some (.map k el)) (hz : ∀ w, (zeroValue el).run P w = .ok zv w) (h : MapAt P k w b l) (hkey : keyOf P k key = some q) :
 ((Instr.lookup ty (.map (some b)) key ok).run P w = .ok (if ok then .tuple #[zv, .bool false] else zv) w ∧ ∀ x ∈ l, x.1 ≠ key) ∨
 ∃ v, (key, v) ∈ l ∧ (Instr.lookup ty (.map (some b)) key ok).run P w = .ok (if ok then .tuple #[v, .bool true] else v) w := by
 obtain ⟨es, _, h1, rfl, h3⟩ := h
 rcases K.find w hkey es.toList (fun x hx => h3 _ (List.mem_map.2 ⟨x, hx, rfl⟩)) with ⟨h4, h5⟩ | ⟨j, e0, h4, h5, h6⟩
 ·refine .inl ⟨by simp [Instr.lookup, run_underlying ht, MapKept.run_getObj_map h1, K.check w _ hkey, h4, hz w, Result.andThen], fun x hx => ?_⟩
  obtain ⟨y, hy, rfl⟩ := List.mem_map.1 hx
  exact h5 y hy
 ·refine .inr ⟨e0.val, List.mem_map.2 ⟨e0, List.mem_of_getElem? h5, by rw [← h6]⟩, by simp [Instr.lookup, run_underlying ht, MapKept.run_getObj_map h1, K.check w _ hkey, h4, Result.andThen]⟩
theorem o_lookup2 {k el : TypeId} {ty b : Nat} {l : List (Value × Value)} {key zv : Value} {q : Lit} (K : Keyed P k) (ht : P.underlying ty = some (.map k el)) (hz : ∀ w, (zeroValue el).run P w = .ok zv w) (h : MapAt P k w b l) (hx : ev e x = .map (some b)) (hy : ev e y = key) (hkey : keyOf P k key = some q) (hd : Nat.ble (d + 1) N = true)
 (h1 : ∀ v, (key, v) ∈ l → WL P r N ops rest K' D (upd e d (.tuple #[v, .bool true])) w) (h2 : (∀ x ∈ l, x.1 ≠ key) → WL P r N ops rest K' D (upd e d (.tuple #[zv, .bool false])) w) :
 WL P r N ops (⟨some d, .lookup ty x y true, t, p, af, none⟩ :: rest) K' D e w := by
 rcases run_look true K ht hz h hkey with ⟨h4, h5⟩ | ⟨v, h4, h5⟩
 ·exact WL_val rfl rfl hd (by simp) (by simp [execOp, hx, hy, h4]) (h2 h5)
 ·exact WL_val rfl rfl hd (by simp) (by simp [execOp, hx, hy, h5]) (h1 v h4)
theorem o_mapPut {k el : TypeId} {ty b : Nat} {l : List (Value × Value)} {key v : Value} {q : Lit} (S : St M w0 w L) (K : Keyed P k) (ht : P.underlying ty = some (.map k el)) (h : MapAt P k w b l) (hx : ev e x = .map (some b)) (hy : ev e y = key) (hz : ev e z = v) (hkey : keyOf P k key = some q) (hnew : ∀ x ∈ l, x.1 ≠ key) (hb : w0.heap.size ≤ b ∨ b ∈ M)
 (hk : ∀ w1, St M w0 w1 L → Keep [b] w w1 → MapAt P k w1 b (l ++ [(key, v)]) → WL P r N ops rest K' D e w1) :
 WL P r N ops (⟨none, .mapUpdate ty x y z, t, p, af, none⟩ :: rest) K' D e w := by
 have hmap := h
 obtain ⟨es, clock, h1, rfl, h3⟩ := h
 have hlt : b < w.heap.size := (Array.getElem?_eq_some_iff.1 h1).1
 have hsame : ∀ g, g ≠ b → (w.heap.setIfInBounds b (.map (es.push ⟨key, v, clock⟩) (clock + 1)))[g]? = w.heap[g]? := fun g hg => Array.getElem?_setIfInBounds_ne (fun e => hg e.symm)
 rcases K.find w hkey es.toList (fun x hx => h3 _ (List.mem_map.2 ⟨x, hx, rfl⟩)) with ⟨h4, h5⟩ | ⟨j, e0, h4, h5, h6⟩
 ·refine WL_unit (w' := { w with heap := w.heap.setIfInBounds b (.map (es.push ⟨key, v, clock⟩) (clock + 1)) }) rfl rfl (by simp) ?_ (hk _ ?_ ?_ ?_)
  ·simp [execOp, hx, hy, hz, Instr.mapUpdate, run_underlying ht, MapKept.run_getObj_map h1, K.check w false hkey, h4, MapKept.run_setObj_map _ h1, Result.andThen]
  ·refine S.keeps ⟨S.below.os, S.below.tape, S.below.output, by simpa using S.below.size, fun g hg hm => ?_⟩ (fun x hx g hg => hsame g (fun hh => S.notMap hmap x hx (hh ▸ hg)))
   refine (hsame g (fun hh => ?_)).trans (S.below.block g hg hm)
   subst hh
   rcases hb with hb | hb
   ·omega
   ·exact hm hb
  ·exact ⟨by simp, fun g _ hm => hsame g (fun hh => hm (by simp [hh]))⟩
  ·refine ⟨es.push ⟨key, v, clock⟩, clock + 1, by simp [hlt], by simp, fun x hx => ?_⟩
   rcases List.mem_append.1 hx with hx | hx
   ·exact h3 x hx
   ·rw [List.mem_singleton.1 hx]; exact ⟨q, hkey⟩
 ·exact absurd h6 (hnew _ (List.mem_map.2 ⟨e0, List.mem_of_getElem? h5, rfl⟩))
theorem St.reflM (M : List Nat) (w : World) : St M w w [] := ⟨BelowB.refl _ _, by simp, by simp⟩
theorem St.turned {b : Nat} {w1 : World} {k : TypeId} {l : List (Value × Value)} (S : St M w0 w L) (hm : MapAt P k w b l) (hb : w0.heap.size ≤ b ∨ b ∈ M) (h : BelowB [b] w w1) : St M w0 w1 L :=
 S.keeps ⟨h.os.trans S.below.os, h.tape.trans S.below.tape, h.output.trans S.below.output, Nat.le_trans S.below.size h.size, fun g hg hm' => (h.block g (Nat.lt_of_lt_of_le hg S.below.size) (fun hh => by
  rw [List.mem_singleton] at hh; subst hh
  rcases hb with hb | hb
  ·omega
  ·exact hm' hb)).trans (S.below.block g hg hm')⟩
  fun x hx g hg => h.block g (S.own x hx g hg).2.lt (fun hh => by rw [List.mem_singleton] at hh; subst hh; exact S.notMap hm x hx hg)
theorem Keep.of_belowB {b : Nat} {w1 : World} (h : BelowB [b] w w1) : Keep [b] w w1 := ⟨h.size, fun i hi hm => h.block i hi hm⟩
variable {kd k2 : IntKind} {a : Int} {src dst xt yt : TypeId}
theorem o_convI {ds : TypeDesc} (hs : P.underlying src = some ds) (ht : P.underlying dst = some (.int k2)) (hx : ev e x = .int kd a) (hd : Nat.ble (d + 1) N = true) (h : WL P r N ops rest K D (upd e d (.int k2 (k2.wrap a))) w) :
 WL P r N ops (⟨some d, .convert src dst x, t, p, af, none⟩ :: rest) K D e w :=
 WL_val rfl rfl hd (by simp) (by simp [execOp, hx, convert, run_underlying hs, run_underlying ht, Conv.intToInt]) h
theorem o_shl1u {n : Nat} (hx : ev e x = .int .i64 1) (hy : ev e y = .int kd (n : Int)) (hn : n ≤ 62) (hd : Nat.ble (d + 1) N = true) (h : WL P r N ops rest K D (upd e d (.int .i64 ((2 ^ n : Nat) : Int))) w) :
 WL P r N ops (⟨some d, .binOp .shl xt x y yt, t, p, af, none⟩ :: rest) K D e w :=
 WL_val rfl rfl hd (by simp) (by
  have h2 : (2 : Nat) ^ n ≤ 2 ^ 62 := Nat.pow_le_pow_right (by omega) hn
  have h3 : min n IntKind.i64.bits = n := by simp [IntKind.bits]; omega
  have h4 : ((1 : Int) * 2 ^ n) = ((2 ^ n : Nat) : Int) := by simp
  have h5 : IntKind.i64.wrap ((2 ^ n : Nat) : Int) = ((2 ^ n : Nat) : Int) := by
   generalize (2 : Nat) ^ n = q at h2
   exact wrap_id ⟨by omega, by omega⟩
  have h6 : ¬ ((n : Int) < 0) := by omega
  simp only [execOp, hx, hy, eqGuard_shl, binOp_shl, Op.shift, h6, if_false, Int.toNat_natCast, h3, h4, h5, Sem.run_bind, Sem.run_pure, Result.andThen_ok]) h
end
end Go.Fw
