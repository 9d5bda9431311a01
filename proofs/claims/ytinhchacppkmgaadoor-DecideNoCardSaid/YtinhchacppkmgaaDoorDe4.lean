/-
  Contracts of package decide: Decide.
-/
import Derived.Test.YtinhchacppkmgaaDoorDe3
namespace Go.Fw
/-- The bits of a condition. -/
def CondD.bits (cells : List CellD) (c : CondD) : Int := bitsL cells (c.sup 3) + bitsL cells (c.sup 2)
/-- The pair of number n falsifies the condition. -/
def CondD.hit (cells : List CellD) (c : CondD) (n : Nat) : Bool := c.fals (pairAt cells (c.sup 3) (c.sup 2) n)

/-- What Decide returns. -/
def DecRes (M : List Nat) (cells : List CellD) (c : CondD) (v : Value) (w : World) : Prop :=
  ∃ x vo vn y, v = .tuple #[.int .i64 x, vo, vn, .int .i64 y] ∧
    ((c.formed cells = false ∧ x = 0 ∧ vo = .slice none 0 0 ∧ vn = .slice none 0 0 ∧ y = 60) ∨
     (c.formed cells = true ∧ 14 < c.bits cells ∧ x = 0 ∧ vo = .slice none 0 0 ∧ vn = .slice none 0 0 ∧ y = 2) ∨
     (c.formed cells = true ∧ c.bits cells ≤ 14 ∧ (∀ n, n < 2 ^ (c.bits cells).toNat → c.hit cells n = false) ∧ x = 1 ∧ vo = .slice none 0 0 ∧ vn = .slice none 0 0 ∧ y = 0) ∨
     (c.formed cells = true ∧ c.bits cells ≤ 14 ∧ ∃ n, n < 2 ^ (c.bits cells).toNat ∧ c.hit cells n = true ∧ (∀ m, m < n → c.hit cells m = false) ∧ x = 2 ∧
       RdI M w vo (pairAt cells (c.sup 3) (c.sup 2) n).1 ∧ RdI M w vn (pairAt cells (c.sup 3) (c.sup 2) n).2 ∧ y = 0))
end Go.Fw
namespace Go.Proofs.YtinhchacppkmgaaDoor
open Go.Fw Go.RowKit

theorem one_errno : One Tryd.prog 31 := one_of Tryd.underlying31 (by intro _ h; cases h) (by intro _ _ h; cases h)

theorem formed_of {cells : List CellD} {c : CondD} (h : ∀ j : Nat, j < 2 → (if j = 0 then c.hyp else c.goal).w = 1 ∧ (if j = 0 then c.hyp else c.goal).valid cells true = true) : c.formed cells = true := by
  have h0 := h 0 (by omega)
  have h1 := h 1 (by omega)
  simp only [if_true] at h0
  rw [if_neg (by omega)] at h1
  unfold CondD.formed
  simp [h0.1, h0.2, h1.1, h1.2]
theorem not_formed {cells : List CellD} {c : CondD} {k : Nat} (h : ¬ ((if k = 0 then c.hyp else c.goal).w = 1 ∧ (if k = 0 then c.hyp else c.goal).valid cells true = true)) : c.formed cells = false := by
  cases hf : c.formed cells with
  | false => rfl
  | true =>
    obtain ⟨p1, p2, p3, p4⟩ := formed_parts hf
    refine absurd ?_ h
    by_cases hk : k = 0
    · rw [if_pos hk]; exact ⟨p3, p1⟩
    · rw [if_neg hk]; exact ⟨p4, p2⟩

theorem supL_of {cells : List CellD} {c : CondD} (h : c.formed cells = true) {op : Int} (hop : op = 2 ∨ op = 3) : SupL cells (c.sup op) :=
  ⟨csup_len c op, fun x hx => by have := csup_cell h hop hx; omega⟩

theorem pair_i64 {cells : List CellD} {c : CondD} (h : c.formed cells = true) (n : Int) : (∀ x ∈ (pairAt cells (c.sup 3) (c.sup 2) n).1, i64 x) ∧ (∀ x ∈ (pairAt cells (c.sup 3) (c.sup 2) n).2, i64 x) := by
  refine ⟨fun x hx => ?_, fun x hx => ?_⟩
  · have := layS_i64 cells (c.sup 3) (fun y hy => by have := csup_cell h (.inr rfl) hy; omega) _ _ (zeroS_i64 cells) x hx; exact i64_small (by omega) (by omega)
  · have := layS_i64 cells (c.sup 2) (fun y hy => by have := csup_cell h (.inl rfl) hy; omega) _ _ (zeroS_i64 cells) x hx; exact i64_small (by omega) (by omega)
theorem pair_len (cells : List CellD) (c : CondD) (n : Int) : (pairAt cells (c.sup 3) (c.sup 2) n).1.length = cells.length ∧ (pairAt cells (c.sup 3) (c.sup 2) n).2.length = cells.length := by
  unfold pairAt; simp only [layS_len]; simp [zeroS]

set_option maxHeartbeats 4000000 in
theorem decide_fn (c : CondD) (cells : List CellD) (M : List Nat) (w0 : World) (cs : List Value) (vc : Value) (hR : RdCond M w0 c cs) (hC : RdCs M w0 vc cells) (hK : Masks M w0) (hM : ∀ g ∈ M, g < w0.heap.size) (hcl : cells.length ≤ 1000) :
    Does Tryd.prog 9 #[vc, .agg cs.toArray] w0 fun v w' => DecRes M cells c v w' ∧ Below w0.heap.size w0 w' := by
  obtain ⟨Ac, nc, cc, rfl⟩ := hC.form
  obtain ⟨hnc, hcc, hcm, hcbig, hcs⟩ := hC.at
  have hR0 := hR
  obtain ⟨ch, cg, rfl, hh, hg⟩ := hR0
  obtain ⟨A, n, q, rfl, -⟩ := hh.open_
  obtain ⟨A', n', q', rfl, -⟩ := hg.open_
  have S := St.refl w0
  simp only [List.cons_append, List.nil_append] at hR ⊢
  refine Does_enterM Tryd.func9 rfl Tryd.ntmps9 rfl ?_
  refine W_seq ?_
  refine W_region ?_
  refine o_boxa S (by conv => lhs; whnf) rfl ?_
  intro g3 w3 S3 X3 G3
  refine o_alloc S3 zv_3 rfl rfl ?_
  intro g4 w4 S4 X4 G4
  refine o_alloc S4 zv_28 rfl rfl ?_
  intro g5 w5 S5 X5 G5
  refine o_alloc S5 zv_28 rfl rfl ?_
  intro g6 w6 S6 X6 G6
  refine o_alloc S6 zv_31 rfl rfl ?_
  intro g7 w7 S7 X7 G7
  refine WL_nil ?_
  refine W_seq ?_
  refine W_seq ?_
  have hMw : ∀ g ∈ [g4, g5, g6, g7], g ∈ M ∨ w0.heap.size ≤ g := by
    have z3 := X3.size
    have z4 := X4.size
    have z5 := X5.size
    have z6 := X6.size
    intro g hg; simp at hg; rcases hg with rfl | rfl | rfl | rfl <;> (right; omega)
  have hR' := hR.more hMw
  have hC' := hC.more (by omega) hMw
  have hK' := hK.more hMw
  have hE : ∀ w, Keep [] w0 w → RdE [g4, g5, g6, g7] w c.hyp [.int .i64 c.hyp.op, .int .i64 c.hyp.w, .int .i64 c.hyp.n, .slice A n q] ∧ RdE [g4, g5, g6, g7] w c.goal [.int .i64 c.goal.op, .int .i64 c.goal.w, .int .i64 c.goal.n, .slice A' n' q'] := fun w hk =>
    ⟨RdE.keep hk.of_nil _ _ (RdE.more hMw _ _ hh), RdE.keep hk.of_nil _ _ (RdE.more hMw _ _ hg)⟩
  refine W_region ?_
  refine o_fieldAddr fa_27_6 rfl rfl ?_
  first | refine o_loadN many_25 rfl (S7.cells 0 rfl) rfl rfl ?_ | refine o_loadN many_25 rfl (S7.cells 1 rfl) rfl rfl ?_ | refine o_loadN many_25 rfl (S7.cells 2 rfl) rfl rfl ?_ | refine o_loadN many_25 rfl (S7.cells 3 rfl) rfl rfl ?_ | refine o_loadN many_25 rfl (S7.cells 4 rfl) rfl rfl ?_ | refine o_loadN many_25 rfl (hck) (by first | rfl | assumption) rfl ?_ | refine o_loadN many_25 rfl (cs := [_, _, _, _]) (S7.cellsAt 0 6 4 rfl) rfl rfl ?_ | refine o_loadN many_25 rfl (cs := [_, _, _, _]) (S7.cellsAt 0 10 4 rfl) rfl rfl ?_ | refine o_loadN many_25 rfl (cs := [_, _, _, _]) (S7.cellsAt 1 6 4 rfl) rfl rfl ?_ | refine o_loadN many_25 rfl (cs := [_, _, _, _]) (S7.cellsAt 1 10 4 rfl) rfl rfl ?_ | refine o_loadN many_25 rfl (cs := [_, _, _, _]) (S7.cellsAt 2 6 4 rfl) rfl rfl ?_ | refine o_loadN many_25 rfl (cs := [_, _, _, _]) (S7.cellsAt 2 10 4 rfl) rfl rfl ?_ | refine o_loadN many_25 rfl (cs := [_, _, _, _]) (S7.cellsAt 3 6 4 rfl) rfl rfl ?_ | refine o_loadN many_25 rfl (cs := [_, _, _, _]) (S7.cellsAt 3 10 4 rfl) rfl rfl ?_ | refine o_loadN many_25 rfl (cs := [_, _, _, _]) (S7.cellsAt 4 6 4 rfl) rfl rfl ?_ | refine o_loadN many_25 rfl (cs := [_, _, _, _]) (S7.cellsAt 4 10 4 rfl) rfl rfl ?_
  refine o_fieldAddr fa_27_7 rfl rfl ?_
  first | refine o_loadN many_25 rfl (S7.cells 0 rfl) rfl rfl ?_ | refine o_loadN many_25 rfl (S7.cells 1 rfl) rfl rfl ?_ | refine o_loadN many_25 rfl (S7.cells 2 rfl) rfl rfl ?_ | refine o_loadN many_25 rfl (S7.cells 3 rfl) rfl rfl ?_ | refine o_loadN many_25 rfl (S7.cells 4 rfl) rfl rfl ?_ | refine o_loadN many_25 rfl (hck) (by first | rfl | assumption) rfl ?_ | refine o_loadN many_25 rfl (cs := [_, _, _, _]) (S7.cellsAt 0 6 4 rfl) rfl rfl ?_ | refine o_loadN many_25 rfl (cs := [_, _, _, _]) (S7.cellsAt 0 10 4 rfl) rfl rfl ?_ | refine o_loadN many_25 rfl (cs := [_, _, _, _]) (S7.cellsAt 1 6 4 rfl) rfl rfl ?_ | refine o_loadN many_25 rfl (cs := [_, _, _, _]) (S7.cellsAt 1 10 4 rfl) rfl rfl ?_ | refine o_loadN many_25 rfl (cs := [_, _, _, _]) (S7.cellsAt 2 6 4 rfl) rfl rfl ?_ | refine o_loadN many_25 rfl (cs := [_, _, _, _]) (S7.cellsAt 2 10 4 rfl) rfl rfl ?_ | refine o_loadN many_25 rfl (cs := [_, _, _, _]) (S7.cellsAt 3 6 4 rfl) rfl rfl ?_ | refine o_loadN many_25 rfl (cs := [_, _, _, _]) (S7.cellsAt 3 10 4 rfl) rfl rfl ?_ | refine o_loadN many_25 rfl (cs := [_, _, _, _]) (S7.cellsAt 4 6 4 rfl) rfl rfl ?_ | refine o_loadN many_25 rfl (cs := [_, _, _, _]) (S7.cellsAt 4 10 4 rfl) rfl rfl ?_
  refine o_buildSlice S7 slz_23 (vs := [.agg _, .agg _]) (cs := [_, _, _, _, _, _, _, _]) (by rfl) rfl rfl rfl rfl rfl rfl ?_
  intro g24 w24 S24 X24 G24
  refine o_len slz_23.slT rfl rfl ?_
  first | refine o_move (v := .int .i64 _) rfl rfl ?_ | refine o_move (by conv => lhs; whnf) rfl ?_
  refine WL_nil ?_
  refine W_block ?_
  refine W_loop (fun μ D ε w => D = [] ∧ ∃ k : Nat, (k + μ = 2) ∧ (∀ j : Nat, j < k → (if j = 0 then c.hyp else c.goal).w = 1 ∧ (if j = 0 then c.hyp else c.goal).valid cells true = true) ∧ St [] w0 w [(some g24, 25, [.int .i64 c.hyp.op, .int .i64 c.hyp.w, .int .i64 c.hyp.n, .slice A n q, .int .i64 c.goal.op, .int .i64 c.goal.w, .int .i64 c.goal.n, .slice A' n' q']), (some g7, 31, [.int .i64 0]), (some g6, 28, [.slice none 0 0]), (some g5, 28, [.slice none 0 0]), (some g4, 3, [.int .i64 0]), (some g3, 27, [.string c.id, .int .i64 c.kind, .int .i64 c.module_, .int .i64 c.thread, .int .i64 c.item, .int .i64 c.other, .int .i64 c.hyp.op, .int .i64 c.hyp.w, .int .i64 c.hyp.n, .slice A n q, .int .i64 c.goal.op, .int .i64 c.goal.w, .int .i64 c.goal.n, .slice A' n' q'])] ∧ ε 0 = .slice Ac nc cc ∧ ε 3 = .pointer (some ⟨g3, 0, none⟩) ∧ ε 4 = .pointer (some ⟨g4, 0, none⟩) ∧ ε 5 = .pointer (some ⟨g5, 0, none⟩) ∧ ε 6 = .pointer (some ⟨g6, 0, none⟩) ∧ ε 7 = .pointer (some ⟨g7, 0, none⟩) ∧ ε 24 = .slice (some ⟨g24, 0, none⟩) 2 2 ∧ ε 25 = .int .i64 2 ∧ ε 26 = .int .i64 k) (μ := 2) ⟨rfl, 0, rfl, fun j h => absurd h (by omega), S24, rfl, rfl, rfl, rfl, rfl, rfl, rfl, rfl, rfl⟩ ?_
  rintro μ D ε w ⟨rfl, k, hk, hv, S, e0, e3, e4, e5, e6, e7, e24, e25, e26⟩
  refine W_known 0 e0 ?_
  refine W_known 3 e3 ?_
  refine W_known 4 e4 ?_
  refine W_known 5 e5 ?_
  refine W_known 6 e6 ?_
  refine W_known 7 e7 ?_
  refine W_known 24 e24 ?_
  refine W_known 25 e25 ?_
  refine W_known 26 e26 ?_
  clear e0 e3 e4 e5 e6 e7 e24 e25 e26
  refine W_seq ?_
  refine W_region ?_
  refine o_lss rfl rfl rfl (fun h27 => ?_) (fun h27 => ?_)
  · refine WL_nil ?_
    refine W_seq ?_
    refine W_then rfl ?_
    refine W_skip ?_
    refine W_seq ?_
    refine W_block ?_
    refine W_seq ?_
    refine W_region ?_
    obtain ⟨ck, hck, hrk⟩ : ∃ ck, Cells w g24 (0 + k * 4) ck ∧ RdE [g4, g5, g6, g7] w0 (if k = 0 then c.hyp else c.goal) ck := by
      have hE' := hE _ (Keep.refl _ _)
      rcases (show k = 0 ∨ k = 1 by omega) with rfl | rfl
      · exact ⟨_, S.cellsAt 0 0 4 rfl, hE'.1⟩
      · exact ⟨_, S.cellsAt 0 4 4 rfl, hE'.2⟩
    obtain ⟨Ak, nk, qk, rfl, -⟩ := hrk.open_
    refine o_indexAddr slz_23.slT rfl (by first | rfl | assumption) rfl (by omega) (by omega) rfl ?_
    first | refine o_loadN many_25 rfl (S.cells 0 rfl) rfl rfl ?_ | refine o_loadN many_25 rfl (S.cells 1 rfl) rfl rfl ?_ | refine o_loadN many_25 rfl (S.cells 2 rfl) rfl rfl ?_ | refine o_loadN many_25 rfl (S.cells 3 rfl) rfl rfl ?_ | refine o_loadN many_25 rfl (S.cells 4 rfl) rfl rfl ?_ | refine o_loadN many_25 rfl (S.cells 5 rfl) rfl rfl ?_ | refine o_loadN many_25 rfl (hck) (by first | rfl | assumption) rfl ?_ | refine o_loadN many_25 rfl (cs := [_, _, _, _]) (S.cellsAt 0 6 4 rfl) rfl rfl ?_ | refine o_loadN many_25 rfl (cs := [_, _, _, _]) (S.cellsAt 0 10 4 rfl) rfl rfl ?_ | refine o_loadN many_25 rfl (cs := [_, _, _, _]) (S.cellsAt 1 6 4 rfl) rfl rfl ?_ | refine o_loadN many_25 rfl (cs := [_, _, _, _]) (S.cellsAt 1 10 4 rfl) rfl rfl ?_ | refine o_loadN many_25 rfl (cs := [_, _, _, _]) (S.cellsAt 2 6 4 rfl) rfl rfl ?_ | refine o_loadN many_25 rfl (cs := [_, _, _, _]) (S.cellsAt 2 10 4 rfl) rfl rfl ?_ | refine o_loadN many_25 rfl (cs := [_, _, _, _]) (S.cellsAt 3 6 4 rfl) rfl rfl ?_ | refine o_loadN many_25 rfl (cs := [_, _, _, _]) (S.cellsAt 3 10 4 rfl) rfl rfl ?_ | refine o_loadN many_25 rfl (cs := [_, _, _, _]) (S.cellsAt 4 6 4 rfl) rfl rfl ?_ | refine o_loadN many_25 rfl (cs := [_, _, _, _]) (S.cellsAt 4 10 4 rfl) rfl rfl ?_ | refine o_loadN many_25 rfl (cs := [_, _, _, _]) (S.cellsAt 5 6 4 rfl) rfl rfl ?_ | refine o_loadN many_25 rfl (cs := [_, _, _, _]) (S.cellsAt 5 10 4 rfl) rfl rfl ?_
    refine o_alloc S zv_25 rfl rfl ?_
    intro g9 w9 S9 X9 G9
    first | refine o_storeN (kk := 0) (vs := [_, _, _, _]) S9 sz_25 rfl rfl rfl rfl rfl rfl rfl ?_ | refine o_storeN (kk := 1) (vs := [_, _, _, _]) S9 sz_25 rfl rfl rfl rfl rfl rfl rfl ?_ | refine o_storeN (kk := 2) (vs := [_, _, _, _]) S9 sz_25 rfl rfl rfl rfl rfl rfl rfl ?_ | refine o_storeN (kk := 3) (vs := [_, _, _, _]) S9 sz_25 rfl rfl rfl rfl rfl rfl rfl ?_ | refine o_storeN (kk := 4) (vs := [_, _, _, _]) S9 sz_25 rfl rfl rfl rfl rfl rfl rfl ?_ | refine o_storeN (kk := 5) (vs := [_, _, _, _]) S9 sz_25 rfl rfl rfl rfl rfl rfl rfl ?_ | refine o_storeN (kk := 6) (vs := [_, _, _, _]) S9 sz_25 rfl rfl rfl rfl rfl rfl rfl ?_
    intro w3_3 S3_3 X3_3
    dsimp only [setsAt, List.set] at S3_3
    refine WL_nil ?_
    refine W_seq ?_
    refine W_region ?_
    refine o_fieldAddr fa_25_1 rfl rfl ?_
    refine o_load one_3 rfl (by first | exact S3_3.cell 0 rfl rfl | exact S3_3.cell 1 rfl rfl | exact S3_3.cell 2 rfl rfl | exact S3_3.cell 3 rfl rfl | exact S3_3.cell 4 rfl rfl | exact S3_3.cell 5 rfl rfl | exact S3_3.cell 6 rfl rfl | exact S3_3.old hcw | exact S3_3.oldM hm17 c17b | exact hcellk | exact hce2) rfl ?_
    refine o_neq rfl rfl rfl (fun h32 => ?_) (fun h32 => ?_)
    · first | refine o_move (v := .bool _) rfl rfl ?_ | refine o_move (by conv => lhs; whnf) rfl ?_
      refine WL_off rfl rfl rfl rfl ?_
      refine WL_off rfl rfl rfl rfl ?_
      refine WL_off rfl rfl rfl rfl ?_
      refine WL_off rfl rfl rfl rfl ?_
      first | refine o_pick rfl (v := .bool _) rfl rfl ?_ | refine o_pick rfl (by conv => lhs; whnf) rfl ?_
      refine WL_nil ?_
      refine W_then rfl ?_
      refine W_seq ?_
      refine W_region ?_
      first | refine o_store (kk := 0) S3_3 sz_3 rfl (by conv => lhs; whnf) rfl rfl (by first | exact Nat.le_of_ble_eq_true rfl | (simp; omega)) ?_ | refine o_store (kk := 1) S3_3 sz_3 rfl (by conv => lhs; whnf) rfl rfl (by first | exact Nat.le_of_ble_eq_true rfl | (simp; omega)) ?_ | refine o_store (kk := 2) S3_3 sz_3 rfl (by conv => lhs; whnf) rfl rfl (by first | exact Nat.le_of_ble_eq_true rfl | (simp; omega)) ?_ | refine o_store (kk := 3) S3_3 sz_3 rfl (by conv => lhs; whnf) rfl rfl (by first | exact Nat.le_of_ble_eq_true rfl | (simp; omega)) ?_ | refine o_store (kk := 4) S3_3 sz_3 rfl (by conv => lhs; whnf) rfl rfl (by first | exact Nat.le_of_ble_eq_true rfl | (simp; omega)) ?_ | refine o_store (kk := 5) S3_3 sz_3 rfl (by conv => lhs; whnf) rfl rfl (by first | exact Nat.le_of_ble_eq_true rfl | (simp; omega)) ?_ | refine o_store (kk := 6) S3_3 sz_3 rfl (by conv => lhs; whnf) rfl rfl (by first | exact Nat.le_of_ble_eq_true rfl | (simp; omega)) ?_
      intro w5_0 S5_0 X5_0
      first | refine o_store (kk := 0) S5_0 sz_28 rfl (by conv => lhs; whnf) rfl rfl (by first | exact Nat.le_of_ble_eq_true rfl | (simp; omega)) ?_ | refine o_store (kk := 1) S5_0 sz_28 rfl (by conv => lhs; whnf) rfl rfl (by first | exact Nat.le_of_ble_eq_true rfl | (simp; omega)) ?_ | refine o_store (kk := 2) S5_0 sz_28 rfl (by conv => lhs; whnf) rfl rfl (by first | exact Nat.le_of_ble_eq_true rfl | (simp; omega)) ?_ | refine o_store (kk := 3) S5_0 sz_28 rfl (by conv => lhs; whnf) rfl rfl (by first | exact Nat.le_of_ble_eq_true rfl | (simp; omega)) ?_ | refine o_store (kk := 4) S5_0 sz_28 rfl (by conv => lhs; whnf) rfl rfl (by first | exact Nat.le_of_ble_eq_true rfl | (simp; omega)) ?_ | refine o_store (kk := 5) S5_0 sz_28 rfl (by conv => lhs; whnf) rfl rfl (by first | exact Nat.le_of_ble_eq_true rfl | (simp; omega)) ?_ | refine o_store (kk := 6) S5_0 sz_28 rfl (by conv => lhs; whnf) rfl rfl (by first | exact Nat.le_of_ble_eq_true rfl | (simp; omega)) ?_
      intro w5_1 S5_1 X5_1
      first | refine o_store (kk := 0) S5_1 sz_28 rfl (by conv => lhs; whnf) rfl rfl (by first | exact Nat.le_of_ble_eq_true rfl | (simp; omega)) ?_ | refine o_store (kk := 1) S5_1 sz_28 rfl (by conv => lhs; whnf) rfl rfl (by first | exact Nat.le_of_ble_eq_true rfl | (simp; omega)) ?_ | refine o_store (kk := 2) S5_1 sz_28 rfl (by conv => lhs; whnf) rfl rfl (by first | exact Nat.le_of_ble_eq_true rfl | (simp; omega)) ?_ | refine o_store (kk := 3) S5_1 sz_28 rfl (by conv => lhs; whnf) rfl rfl (by first | exact Nat.le_of_ble_eq_true rfl | (simp; omega)) ?_ | refine o_store (kk := 4) S5_1 sz_28 rfl (by conv => lhs; whnf) rfl rfl (by first | exact Nat.le_of_ble_eq_true rfl | (simp; omega)) ?_ | refine o_store (kk := 5) S5_1 sz_28 rfl (by conv => lhs; whnf) rfl rfl (by first | exact Nat.le_of_ble_eq_true rfl | (simp; omega)) ?_ | refine o_store (kk := 6) S5_1 sz_28 rfl (by conv => lhs; whnf) rfl rfl (by first | exact Nat.le_of_ble_eq_true rfl | (simp; omega)) ?_
      intro w5_2 S5_2 X5_2
      first | refine o_store (kk := 0) S5_2 sz_31 rfl (by conv => lhs; whnf) rfl rfl (by first | exact Nat.le_of_ble_eq_true rfl | (simp; omega)) ?_ | refine o_store (kk := 1) S5_2 sz_31 rfl (by conv => lhs; whnf) rfl rfl (by first | exact Nat.le_of_ble_eq_true rfl | (simp; omega)) ?_ | refine o_store (kk := 2) S5_2 sz_31 rfl (by conv => lhs; whnf) rfl rfl (by first | exact Nat.le_of_ble_eq_true rfl | (simp; omega)) ?_ | refine o_store (kk := 3) S5_2 sz_31 rfl (by conv => lhs; whnf) rfl rfl (by first | exact Nat.le_of_ble_eq_true rfl | (simp; omega)) ?_ | refine o_store (kk := 4) S5_2 sz_31 rfl (by conv => lhs; whnf) rfl rfl (by first | exact Nat.le_of_ble_eq_true rfl | (simp; omega)) ?_ | refine o_store (kk := 5) S5_2 sz_31 rfl (by conv => lhs; whnf) rfl rfl (by first | exact Nat.le_of_ble_eq_true rfl | (simp; omega)) ?_ | refine o_store (kk := 6) S5_2 sz_31 rfl (by conv => lhs; whnf) rfl rfl (by first | exact Nat.le_of_ble_eq_true rfl | (simp; omega)) ?_
      intro w5_3 S5_3 X5_3
      refine WL_nil ?_
      refine W_ret ?_
      first
        | (refine .inl ⟨rfl, fun tmps he => ⟨_, run_results_cells4 rfl one_3 one_28 one_28 one_errno rfl rfl rfl rfl (S5_3.cell 5 rfl rfl) (S5_3.cell 4 rfl rfl) (S5_3.cell 3 rfl rfl) (S5_3.cell 2 rfl rfl) he, ⟨_, _, _, _, rfl, .inl ⟨not_formed (k := k) (fun hh => ?_), rfl, rfl, rfl, rfl⟩⟩, S5_3.fin⟩⟩
           first
             | exact absurd hh.1 h32
             | (rw [h36] at hh; exact absurd hh.2 (by simp)))
        | exact .inl ⟨rfl, fun tmps he => ⟨_, run_results_cells4 rfl one_3 one_28 one_28 one_errno rfl rfl rfl rfl (S5_3.cell 5 rfl rfl) (S5_3.cell 4 rfl rfl) (S5_3.cell 3 rfl rfl) (S5_3.cell 2 rfl rfl) he, ⟨_, _, _, _, rfl, .inr (.inl ⟨hf, by omega, rfl, rfl, rfl, rfl⟩)⟩, S5_3.fin⟩⟩
        | (refine .inr ⟨w75.heap.size, rfl, (S5_3.below.block _ (by omega) nd).trans Hd4, fun tmps he => ⟨_, run_results_cells4 rfl one_3 one_28 one_28 one_errno rfl rfl rfl rfl (((S5_3.blk 0 rfl).putObj nd4).cell rfl) (((S5_3.blk 1 rfl).putObj nd5).cell rfl) (((S5_3.blk 2 rfl).putObj nd6).cell rfl) (((S5_3.blk 3 rfl).putObj nd7).cell rfl) he, ⟨_, _, _, _, rfl, .inr (.inr (.inl ⟨hf, by omega, fun n hn => hall n (by rw [hbt] at hn; exact hn), rfl, rfl, rfl, rfl⟩))⟩, ?_⟩⟩
           exact ((HB4.step S5_3.below new4).putObj _ (.inl (by have := S75.size; omega))).nil)
    · first | refine o_move (v := .bool _) rfl rfl ?_ | refine o_move (by conv => lhs; whnf) rfl ?_
      refine WL_on rfl rfl rfl ?_
      first | refine o_loadN many_25 rfl (S3_3.cells 0 rfl) rfl rfl ?_ | refine o_loadN many_25 rfl (S3_3.cells 1 rfl) rfl rfl ?_ | refine o_loadN many_25 rfl (S3_3.cells 2 rfl) rfl rfl ?_ | refine o_loadN many_25 rfl (S3_3.cells 3 rfl) rfl rfl ?_ | refine o_loadN many_25 rfl (S3_3.cells 4 rfl) rfl rfl ?_ | refine o_loadN many_25 rfl (S3_3.cells 5 rfl) rfl rfl ?_ | refine o_loadN many_25 rfl (S3_3.cells 6 rfl) rfl rfl ?_ | refine o_loadN many_25 rfl (hck) (by first | rfl | assumption) rfl ?_ | refine o_loadN many_25 rfl (cs := [_, _, _, _]) (S3_3.cellsAt 0 6 4 rfl) rfl rfl ?_ | refine o_loadN many_25 rfl (cs := [_, _, _, _]) (S3_3.cellsAt 0 10 4 rfl) rfl rfl ?_ | refine o_loadN many_25 rfl (cs := [_, _, _, _]) (S3_3.cellsAt 1 6 4 rfl) rfl rfl ?_ | refine o_loadN many_25 rfl (cs := [_, _, _, _]) (S3_3.cellsAt 1 10 4 rfl) rfl rfl ?_ | refine o_loadN many_25 rfl (cs := [_, _, _, _]) (S3_3.cellsAt 2 6 4 rfl) rfl rfl ?_ | refine o_loadN many_25 rfl (cs := [_, _, _, _]) (S3_3.cellsAt 2 10 4 rfl) rfl rfl ?_ | refine o_loadN many_25 rfl (cs := [_, _, _, _]) (S3_3.cellsAt 3 6 4 rfl) rfl rfl ?_ | refine o_loadN many_25 rfl (cs := [_, _, _, _]) (S3_3.cellsAt 3 10 4 rfl) rfl rfl ?_ | refine o_loadN many_25 rfl (cs := [_, _, _, _]) (S3_3.cellsAt 4 6 4 rfl) rfl rfl ?_ | refine o_loadN many_25 rfl (cs := [_, _, _, _]) (S3_3.cellsAt 4 10 4 rfl) rfl rfl ?_ | refine o_loadN many_25 rfl (cs := [_, _, _, _]) (S3_3.cellsAt 5 6 4 rfl) rfl rfl ?_ | refine o_loadN many_25 rfl (cs := [_, _, _, _]) (S3_3.cellsAt 5 10 4 rfl) rfl rfl ?_ | refine o_loadN many_25 rfl (cs := [_, _, _, _]) (S3_3.cellsAt 6 6 4 rfl) rfl rfl ?_ | refine o_loadN many_25 rfl (cs := [_, _, _, _]) (S3_3.cellsAt 6 10 4 rfl) rfl rfl ?_
      refine WL_on rfl rfl rfl ?_
      first | refine o_move (v := .slice _ _ _) rfl rfl ?_ | refine o_move (by conv => lhs; whnf) rfl ?_
      refine WL_on rfl rfl rfl ?_
      refine o_callb S3_3 has_26 rfl rfl (valid_e_fn (if k = 0 then c.hyp else c.goal) [g4, g5, g6, g7] _ _ _ cells true (RdE.keep ((S3_3.keep0 _)) _ _ hrk) (hC'.keep (S3_3.keep0 _)) (hK'.keep (S3_3.keep0 _))) (fun h36 w36 S36 X36 => ?_) (fun h36 w36 S36 X36 => ?_)
      · refine WL_on rfl rfl rfl ?_
        refine o_not rfl rfl ?_
        first | refine o_pick rfl (v := .bool _) rfl rfl ?_ | refine o_pick rfl (by conv => lhs; whnf) rfl ?_
        refine WL_nil ?_
        refine W_else rfl ?_
        refine W_skip ?_
        refine W_region ?_
        refine o_add rfl rfl (by unfold i64; omega) rfl ?_
        first | refine o_move (v := .int .i64 _) rfl rfl ?_ | refine o_move (by conv => lhs; whnf) rfl ?_
        refine WL_nil ?_
        refine ⟨μ - 1, by omega, rfl, k + 1, by omega, fun j hj => ?_, S36.tail, rfl, rfl, rfl, rfl, rfl, rfl, rfl, rfl, rfl⟩
        by_cases hjk : j = k
        · subst hjk; exact ⟨by omega, h36⟩
        · exact hv j (by omega)
      · refine WL_on rfl rfl rfl ?_
        refine o_not rfl rfl ?_
        first | refine o_pick rfl (v := .bool _) rfl rfl ?_ | refine o_pick rfl (by conv => lhs; whnf) rfl ?_
        refine WL_nil ?_
        refine W_then rfl ?_
        refine W_seq ?_
        refine W_region ?_
        first | refine o_store (kk := 0) S36 sz_3 rfl (by conv => lhs; whnf) rfl rfl (by first | exact Nat.le_of_ble_eq_true rfl | (simp; omega)) ?_ | refine o_store (kk := 1) S36 sz_3 rfl (by conv => lhs; whnf) rfl rfl (by first | exact Nat.le_of_ble_eq_true rfl | (simp; omega)) ?_ | refine o_store (kk := 2) S36 sz_3 rfl (by conv => lhs; whnf) rfl rfl (by first | exact Nat.le_of_ble_eq_true rfl | (simp; omega)) ?_ | refine o_store (kk := 3) S36 sz_3 rfl (by conv => lhs; whnf) rfl rfl (by first | exact Nat.le_of_ble_eq_true rfl | (simp; omega)) ?_ | refine o_store (kk := 4) S36 sz_3 rfl (by conv => lhs; whnf) rfl rfl (by first | exact Nat.le_of_ble_eq_true rfl | (simp; omega)) ?_ | refine o_store (kk := 5) S36 sz_3 rfl (by conv => lhs; whnf) rfl rfl (by first | exact Nat.le_of_ble_eq_true rfl | (simp; omega)) ?_ | refine o_store (kk := 6) S36 sz_3 rfl (by conv => lhs; whnf) rfl rfl (by first | exact Nat.le_of_ble_eq_true rfl | (simp; omega)) ?_
        intro w5_0 S5_0 X5_0
        first | refine o_store (kk := 0) S5_0 sz_28 rfl (by conv => lhs; whnf) rfl rfl (by first | exact Nat.le_of_ble_eq_true rfl | (simp; omega)) ?_ | refine o_store (kk := 1) S5_0 sz_28 rfl (by conv => lhs; whnf) rfl rfl (by first | exact Nat.le_of_ble_eq_true rfl | (simp; omega)) ?_ | refine o_store (kk := 2) S5_0 sz_28 rfl (by conv => lhs; whnf) rfl rfl (by first | exact Nat.le_of_ble_eq_true rfl | (simp; omega)) ?_ | refine o_store (kk := 3) S5_0 sz_28 rfl (by conv => lhs; whnf) rfl rfl (by first | exact Nat.le_of_ble_eq_true rfl | (simp; omega)) ?_ | refine o_store (kk := 4) S5_0 sz_28 rfl (by conv => lhs; whnf) rfl rfl (by first | exact Nat.le_of_ble_eq_true rfl | (simp; omega)) ?_ | refine o_store (kk := 5) S5_0 sz_28 rfl (by conv => lhs; whnf) rfl rfl (by first | exact Nat.le_of_ble_eq_true rfl | (simp; omega)) ?_ | refine o_store (kk := 6) S5_0 sz_28 rfl (by conv => lhs; whnf) rfl rfl (by first | exact Nat.le_of_ble_eq_true rfl | (simp; omega)) ?_
        intro w5_1 S5_1 X5_1
        first | refine o_store (kk := 0) S5_1 sz_28 rfl (by conv => lhs; whnf) rfl rfl (by first | exact Nat.le_of_ble_eq_true rfl | (simp; omega)) ?_ | refine o_store (kk := 1) S5_1 sz_28 rfl (by conv => lhs; whnf) rfl rfl (by first | exact Nat.le_of_ble_eq_true rfl | (simp; omega)) ?_ | refine o_store (kk := 2) S5_1 sz_28 rfl (by conv => lhs; whnf) rfl rfl (by first | exact Nat.le_of_ble_eq_true rfl | (simp; omega)) ?_ | refine o_store (kk := 3) S5_1 sz_28 rfl (by conv => lhs; whnf) rfl rfl (by first | exact Nat.le_of_ble_eq_true rfl | (simp; omega)) ?_ | refine o_store (kk := 4) S5_1 sz_28 rfl (by conv => lhs; whnf) rfl rfl (by first | exact Nat.le_of_ble_eq_true rfl | (simp; omega)) ?_ | refine o_store (kk := 5) S5_1 sz_28 rfl (by conv => lhs; whnf) rfl rfl (by first | exact Nat.le_of_ble_eq_true rfl | (simp; omega)) ?_ | refine o_store (kk := 6) S5_1 sz_28 rfl (by conv => lhs; whnf) rfl rfl (by first | exact Nat.le_of_ble_eq_true rfl | (simp; omega)) ?_
        intro w5_2 S5_2 X5_2
        first | refine o_store (kk := 0) S5_2 sz_31 rfl (by conv => lhs; whnf) rfl rfl (by first | exact Nat.le_of_ble_eq_true rfl | (simp; omega)) ?_ | refine o_store (kk := 1) S5_2 sz_31 rfl (by conv => lhs; whnf) rfl rfl (by first | exact Nat.le_of_ble_eq_true rfl | (simp; omega)) ?_ | refine o_store (kk := 2) S5_2 sz_31 rfl (by conv => lhs; whnf) rfl rfl (by first | exact Nat.le_of_ble_eq_true rfl | (simp; omega)) ?_ | refine o_store (kk := 3) S5_2 sz_31 rfl (by conv => lhs; whnf) rfl rfl (by first | exact Nat.le_of_ble_eq_true rfl | (simp; omega)) ?_ | refine o_store (kk := 4) S5_2 sz_31 rfl (by conv => lhs; whnf) rfl rfl (by first | exact Nat.le_of_ble_eq_true rfl | (simp; omega)) ?_ | refine o_store (kk := 5) S5_2 sz_31 rfl (by conv => lhs; whnf) rfl rfl (by first | exact Nat.le_of_ble_eq_true rfl | (simp; omega)) ?_ | refine o_store (kk := 6) S5_2 sz_31 rfl (by conv => lhs; whnf) rfl rfl (by first | exact Nat.le_of_ble_eq_true rfl | (simp; omega)) ?_
        intro w5_3 S5_3 X5_3
        refine WL_nil ?_
        refine W_ret ?_
        first
          | (refine .inl ⟨rfl, fun tmps he => ⟨_, run_results_cells4 rfl one_3 one_28 one_28 one_errno rfl rfl rfl rfl (S5_3.cell 5 rfl rfl) (S5_3.cell 4 rfl rfl) (S5_3.cell 3 rfl rfl) (S5_3.cell 2 rfl rfl) he, ⟨_, _, _, _, rfl, .inl ⟨not_formed (k := k) (fun hh => ?_), rfl, rfl, rfl, rfl⟩⟩, S5_3.fin⟩⟩
             first
               | exact absurd hh.1 h32
               | (rw [h36] at hh; exact absurd hh.2 (by simp)))
          | exact .inl ⟨rfl, fun tmps he => ⟨_, run_results_cells4 rfl one_3 one_28 one_28 one_errno rfl rfl rfl rfl (S5_3.cell 5 rfl rfl) (S5_3.cell 4 rfl rfl) (S5_3.cell 3 rfl rfl) (S5_3.cell 2 rfl rfl) he, ⟨_, _, _, _, rfl, .inr (.inl ⟨hf, by omega, rfl, rfl, rfl, rfl⟩)⟩, S5_3.fin⟩⟩
          | (refine .inr ⟨w75.heap.size, rfl, (S5_3.below.block _ (by omega) nd).trans Hd4, fun tmps he => ⟨_, run_results_cells4 rfl one_3 one_28 one_28 one_errno rfl rfl rfl rfl (((S5_3.blk 0 rfl).putObj nd4).cell rfl) (((S5_3.blk 1 rfl).putObj nd5).cell rfl) (((S5_3.blk 2 rfl).putObj nd6).cell rfl) (((S5_3.blk 3 rfl).putObj nd7).cell rfl) he, ⟨_, _, _, _, rfl, .inr (.inr (.inl ⟨hf, by omega, fun n hn => hall n (by rw [hbt] at hn; exact hn), rfl, rfl, rfl, rfl⟩))⟩, ?_⟩⟩
             exact ((HB4.step S5_3.below new4).putObj _ (.inl (by have := S75.size; omega))).nil)
  · refine WL_nil ?_
    refine W_seq ?_
    refine W_else rfl ?_
    refine W_exit ?_
    refine bcons_here ?_
    refine W_seq ?_
    have hf : c.formed cells = true := formed_of (fun j hj => hv j (by omega))
    refine W_region ?_
    first | refine o_loadN many_27 rfl (S.cells 0 rfl) rfl rfl ?_ | refine o_loadN many_27 rfl (S.cells 1 rfl) rfl rfl ?_ | refine o_loadN many_27 rfl (S.cells 2 rfl) rfl rfl ?_ | refine o_loadN many_27 rfl (S.cells 3 rfl) rfl rfl ?_ | refine o_loadN many_27 rfl (S.cells 4 rfl) rfl rfl ?_ | refine o_loadN many_27 rfl (S.cells 5 rfl) rfl rfl ?_ | refine o_loadN many_27 rfl (hck) (by first | rfl | assumption) rfl ?_ | refine o_loadN many_27 rfl (cs := [_, _, _, _, _, _, _, _, _, _, _, _, _, _]) (S.cellsAt 0 6 14 rfl) rfl rfl ?_ | refine o_loadN many_27 rfl (cs := [_, _, _, _, _, _, _, _, _, _, _, _, _, _]) (S.cellsAt 0 10 14 rfl) rfl rfl ?_ | refine o_loadN many_27 rfl (cs := [_, _, _, _, _, _, _, _, _, _, _, _, _, _]) (S.cellsAt 1 6 14 rfl) rfl rfl ?_ | refine o_loadN many_27 rfl (cs := [_, _, _, _, _, _, _, _, _, _, _, _, _, _]) (S.cellsAt 1 10 14 rfl) rfl rfl ?_ | refine o_loadN many_27 rfl (cs := [_, _, _, _, _, _, _, _, _, _, _, _, _, _]) (S.cellsAt 2 6 14 rfl) rfl rfl ?_ | refine o_loadN many_27 rfl (cs := [_, _, _, _, _, _, _, _, _, _, _, _, _, _]) (S.cellsAt 2 10 14 rfl) rfl rfl ?_ | refine o_loadN many_27 rfl (cs := [_, _, _, _, _, _, _, _, _, _, _, _, _, _]) (S.cellsAt 3 6 14 rfl) rfl rfl ?_ | refine o_loadN many_27 rfl (cs := [_, _, _, _, _, _, _, _, _, _, _, _, _, _]) (S.cellsAt 3 10 14 rfl) rfl rfl ?_ | refine o_loadN many_27 rfl (cs := [_, _, _, _, _, _, _, _, _, _, _, _, _, _]) (S.cellsAt 4 6 14 rfl) rfl rfl ?_ | refine o_loadN many_27 rfl (cs := [_, _, _, _, _, _, _, _, _, _, _, _, _, _]) (S.cellsAt 4 10 14 rfl) rfl rfl ?_ | refine o_loadN many_27 rfl (cs := [_, _, _, _, _, _, _, _, _, _, _, _, _, _]) (S.cellsAt 5 6 14 rfl) rfl rfl ?_ | refine o_loadN many_27 rfl (cs := [_, _, _, _, _, _, _, _, _, _, _, _, _, _]) (S.cellsAt 5 10 14 rfl) rfl rfl ?_
    refine o_calln S has_27 rfl rfl (support_d_fn c [g4, g5, g6, g7] _ _ (hR'.keep (S.keep0 _)) (hK'.keep (S.keep0 _)) (fun g hg => by simp at hg; rcases hg with rfl | rfl | rfl | rfl; exact S.lt 4 rfl; exact S.lt 3 rfl; exact S.lt 2 rfl; exact S.lt 1 rfl)) ?_
    rintro v42 w42 ⟨va, vb, rfl, ra, rb⟩ S42 X42
    obtain ⟨Aa, na, ca, rfl⟩ := ra.form
    obtain ⟨Ab, nb, cb, rfl⟩ := rb.form
    first | refine o_move (v := .tuple _) rfl rfl ?_ | refine o_move (by conv => lhs; whnf) rfl ?_
    refine o_extract rfl rfl rfl ?_
    refine o_extract rfl rfl rfl ?_
    first | refine o_assign (v := .slice _ _ _) rfl rfl ?_ | refine o_assign (by conv => lhs; whnf) rfl ?_
    first | refine o_assign (v := .slice _ _ _) rfl rfl ?_ | refine o_assign (by conv => lhs; whnf) rfl ?_
    refine WL_nil ?_
    refine W_seq ?_
    have b3 := bitsL_bound cells (c.sup 3) (fun x hx => by have := csup_cell hf (.inr rfl) hx; omega)
    have b2 := bitsL_bound cells (c.sup 2) (fun x hx => by have := csup_cell hf (.inl rfl) hx; omega)
    have l3 := csup_len c 3
    have l2 := csup_len c 2
    refine W_region ?_
    first | refine o_assign (v := .int .i64 _) rfl rfl ?_ | refine o_assign (by conv => lhs; whnf) rfl ?_
    refine WL_nil ?_
    refine W_seq ?_
    refine W_seq ?_
    refine W_region ?_
    first | refine o_move (v := .slice _ _ _) rfl rfl ?_ | refine o_move (by conv => lhs; whnf) rfl ?_
    first | refine o_move (v := .slice _ _ _) rfl rfl ?_ | refine o_move (by conv => lhs; whnf) rfl ?_
    refine o_buildSlice S42 slz_54 (vs := [.slice _ _ _, .slice _ _ _]) (cs := [_, _]) (by rfl) rfl rfl rfl rfl rfl rfl ?_
    intro g47 w47 S47 X47 G47
    replace ra := ra.keep (X47.of_nil)
    replace rb := rb.keep (X47.of_nil)
    refine o_len slz_54.slT rfl rfl ?_
    first | refine o_move (v := .int .i64 _) rfl rfl ?_ | refine o_move (by conv => lhs; whnf) rfl ?_
    refine WL_nil ?_
    refine W_block ?_
    refine W_loop (fun μ D ε w => D = [] ∧ ∃ k : Nat, ∃ s : Int, (k + μ = 2) ∧ (s = (if k = 0 then 0 else if k = 1 then bitsL cells (c.sup 3) else bitsL cells (c.sup 3) + bitsL cells (c.sup 2))) ∧ (RdI [g4, g5, g6, g7] w (.slice Aa na ca) (c.sup 3)) ∧ (RdI [g4, g5, g6, g7] w (.slice Ab nb cb) (c.sup 2)) ∧ St [] w0 w [(some g47, 28, [.slice Aa na ca, .slice Ab nb cb]), (some g24, 25, [.int .i64 c.hyp.op, .int .i64 c.hyp.w, .int .i64 c.hyp.n, .slice A n q, .int .i64 c.goal.op, .int .i64 c.goal.w, .int .i64 c.goal.n, .slice A' n' q']), (some g7, 31, [.int .i64 0]), (some g6, 28, [.slice none 0 0]), (some g5, 28, [.slice none 0 0]), (some g4, 3, [.int .i64 0]), (some g3, 27, [.string c.id, .int .i64 c.kind, .int .i64 c.module_, .int .i64 c.thread, .int .i64 c.item, .int .i64 c.other, .int .i64 c.hyp.op, .int .i64 c.hyp.w, .int .i64 c.hyp.n, .slice A n q, .int .i64 c.goal.op, .int .i64 c.goal.w, .int .i64 c.goal.n, .slice A' n' q'])] ∧ ε 0 = .slice Ac nc cc ∧ ε 3 = .pointer (some ⟨g3, 0, none⟩) ∧ ε 4 = .pointer (some ⟨g4, 0, none⟩) ∧ ε 5 = .pointer (some ⟨g5, 0, none⟩) ∧ ε 6 = .pointer (some ⟨g6, 0, none⟩) ∧ ε 7 = .pointer (some ⟨g7, 0, none⟩) ∧ ε 10 = .slice Aa na ca ∧ ε 11 = .slice Ab nb cb ∧ ε 12 = .int .i64 s ∧ ε 47 = .slice (some ⟨g47, 0, none⟩) 2 2 ∧ ε 48 = .int .i64 2 ∧ ε 49 = .int .i64 k) (μ := 2) ⟨rfl, 0, 0, rfl, rfl, ra, rb, S47, rfl, rfl, rfl, rfl, rfl, rfl, rfl, rfl, rfl, rfl, rfl, rfl⟩ ?_
    rintro μ D ε w ⟨rfl, k, s, hk, hs, ra, rb, S, e0, e3, e4, e5, e6, e7, e10, e11, e12, e47, e48, e49⟩
    refine W_known 0 e0 ?_
    refine W_known 3 e3 ?_
    refine W_known 4 e4 ?_
    refine W_known 5 e5 ?_
    refine W_known 6 e6 ?_
    refine W_known 7 e7 ?_
    refine W_known 10 e10 ?_
    refine W_known 11 e11 ?_
    refine W_known 12 e12 ?_
    refine W_known 47 e47 ?_
    refine W_known 48 e48 ?_
    refine W_known 49 e49 ?_
    clear e0 e3 e4 e5 e6 e7 e10 e11 e12 e47 e48 e49
    refine W_seq ?_
    refine W_region ?_
    refine o_lss rfl rfl rfl (fun h50 => ?_) (fun h50 => ?_)
    · refine WL_nil ?_
      refine W_seq ?_
      refine W_then rfl ?_
      refine W_skip ?_
      refine W_seq ?_
      refine W_block ?_
      refine W_seq ?_
      refine W_region ?_
      obtain ⟨Ak, nk, qk, hcellk, rk⟩ : ∃ Ak nk qk, w.cell? ⟨g47, 0 + k * 1, none⟩ = some (.slice Ak nk qk) ∧ RdI [g4, g5, g6, g7] w (.slice Ak nk qk) (if k = 0 then c.sup 3 else c.sup 2) := by
        rcases (show k = 0 ∨ k = 1 by omega) with rfl | rfl
        · exact ⟨_, _, _, S.cell 0 rfl rfl, ra⟩
        · exact ⟨_, _, _, S.cell 0 rfl rfl, rb⟩
      have hlk : (if k = 0 then c.sup 3 else c.sup 2).length ≤ 32 := by split <;> omega
      have hbk : ∀ x ∈ (if k = 0 then c.sup 3 else c.sup 2), 0 ≤ x ∧ x < cells.length ∧ 1 ≤ wAt cells x ∧ wAt cells x ≤ 8 := by
        intro x hx
        by_cases hk0 : k = 0
        · rw [if_pos hk0] at hx; have := csup_cell hf (.inr rfl) hx; omega
        · rw [if_neg hk0] at hx; have := csup_cell hf (.inl rfl) hx; omega
      have hs0 : 0 ≤ s ∧ s ≤ 512 := by rw [hs]; split; omega; split <;> omega
      have hbb := bitsL_bound cells _ (fun x hx => (hbk x hx).2.2)
      refine o_indexAddr slz_54.slT rfl (by first | rfl | assumption) rfl (by omega) (by omega) rfl ?_
      refine o_load one_28 rfl (by first | exact S.cell 0 rfl rfl | exact S.cell 1 rfl rfl | exact S.cell 2 rfl rfl | exact S.cell 3 rfl rfl | exact S.cell 4 rfl rfl | exact S.cell 5 rfl rfl | exact S.cell 6 rfl rfl | exact S.old hcw | exact S.oldM hm17 c17b | exact hcellk | exact hce2) rfl ?_
      first | refine o_assign (v := .slice _ _ _) rfl rfl ?_ | refine o_assign (by conv => lhs; whnf) rfl ?_
      refine WL_nil ?_
      refine W_seq ?_
      refine W_region ?_
      first | refine o_move (v := .slice _ _ _) rfl rfl ?_ | refine o_move (by conv => lhs; whnf) rfl ?_
      refine o_len slz_28.slT rfl rfl ?_
      first | refine o_move (v := .int .i64 _) rfl rfl ?_ | refine o_move (by conv => lhs; whnf) rfl ?_
      refine WL_nil ?_
      refine W_block ?_
      refine W_loop (fun μ D ε w => D = [] ∧ ∃ j : Nat, ∃ s2 : Int, (j + μ = (if k = 0 then c.sup 3 else c.sup 2).length) ∧ (s2 + bitsL cells ((if k = 0 then c.sup 3 else c.sup 2).drop j) = s + bitsL cells (if k = 0 then c.sup 3 else c.sup 2)) ∧ (0 ≤ s2) ∧ (RdI [g4, g5, g6, g7] w (.slice Aa na ca) (c.sup 3)) ∧ (RdI [g4, g5, g6, g7] w (.slice Ab nb cb) (c.sup 2)) ∧ (RdI [g4, g5, g6, g7] w (.slice Ak nk qk) (if k = 0 then c.sup 3 else c.sup 2)) ∧ St [] w0 w [(some g47, 28, [.slice Aa na ca, .slice Ab nb cb]), (some g24, 25, [.int .i64 c.hyp.op, .int .i64 c.hyp.w, .int .i64 c.hyp.n, .slice A n q, .int .i64 c.goal.op, .int .i64 c.goal.w, .int .i64 c.goal.n, .slice A' n' q']), (some g7, 31, [.int .i64 0]), (some g6, 28, [.slice none 0 0]), (some g5, 28, [.slice none 0 0]), (some g4, 3, [.int .i64 0]), (some g3, 27, [.string c.id, .int .i64 c.kind, .int .i64 c.module_, .int .i64 c.thread, .int .i64 c.item, .int .i64 c.other, .int .i64 c.hyp.op, .int .i64 c.hyp.w, .int .i64 c.hyp.n, .slice A n q, .int .i64 c.goal.op, .int .i64 c.goal.w, .int .i64 c.goal.n, .slice A' n' q'])] ∧ ε 0 = .slice Ac nc cc ∧ ε 3 = .pointer (some ⟨g3, 0, none⟩) ∧ ε 4 = .pointer (some ⟨g4, 0, none⟩) ∧ ε 5 = .pointer (some ⟨g5, 0, none⟩) ∧ ε 6 = .pointer (some ⟨g6, 0, none⟩) ∧ ε 7 = .pointer (some ⟨g7, 0, none⟩) ∧ ε 10 = .slice Aa na ca ∧ ε 11 = .slice Ab nb cb ∧ ε 12 = .int .i64 s2 ∧ ε 47 = .slice (some ⟨g47, 0, none⟩) 2 2 ∧ ε 48 = .int .i64 2 ∧ ε 49 = .int .i64 k ∧ ε 53 = .slice Ak nk qk ∧ ε 54 = .int .i64 nk ∧ ε 55 = .int .i64 j) (μ := (if k = 0 then c.sup 3 else c.sup 2).length) ⟨rfl, 0, s, by omega, by rw [List.drop_zero], hs0.1, ra, rb, rk, S, rfl, rfl, rfl, rfl, rfl, rfl, rfl, rfl, rfl, rfl, rfl, rfl, rfl, rfl, rfl⟩ ?_
      rintro μ D ε w ⟨rfl, j, s2, hj, hs2, hs20, ra, rb, rk, S, e0, e3, e4, e5, e6, e7, e10, e11, e12, e47, e48, e49, e53, e54, e55⟩
      refine W_known 0 e0 ?_
      refine W_known 3 e3 ?_
      refine W_known 4 e4 ?_
      refine W_known 5 e5 ?_
      refine W_known 6 e6 ?_
      refine W_known 7 e7 ?_
      refine W_known 10 e10 ?_
      refine W_known 11 e11 ?_
      refine W_known 12 e12 ?_
      refine W_known 47 e47 ?_
      refine W_known 48 e48 ?_
      refine W_known 49 e49 ?_
      refine W_known 53 e53 ?_
      refine W_known 54 e54 ?_
      refine W_known 55 e55 ?_
      clear e0 e3 e4 e5 e6 e7 e10 e11 e12 e47 e48 e49 e53 e54 e55
      obtain ⟨hnk, -, -, -, helk⟩ := rk.at
      refine W_seq ?_
      refine W_region ?_
      refine o_lss rfl rfl rfl (fun h56 => ?_) (fun h56 => ?_)
      · refine WL_nil ?_
        refine W_seq ?_
        refine W_then rfl ?_
        refine W_skip ?_
        refine W_seq ?_
        refine W_block ?_
        refine W_seq ?_
        refine W_region ?_
        have hlt : j < (if k = 0 then c.sup 3 else c.sup 2).length := by omega
        obtain ⟨ba, oa, hA, hbM, hee⟩ := helk (by omega)
        obtain ⟨cx, hck1, hck2, hck3⟩ := hee j _ (List.getElem?_eq_getElem hlt)
        have hce2 : w.cell? ⟨ba, oa + j * 1, none⟩ = some (.int .i64 (if k = 0 then c.sup 3 else c.sup 2)[j]) := hck2 0 _ (by rw [hck3.1]; rfl)
        have hxx := hbk _ (List.getElem_mem hlt)
        obtain ⟨bc, oc, hAc, hbc, hce⟩ := hcs (by omega)
        have hcw := cell_w hce (x := (if k = 0 then c.sup 3 else c.sup 2)[j]) (by omega) (by omega)
        have hd : bitsL cells ((if k = 0 then c.sup 3 else c.sup 2).drop j) = wAt cells (if k = 0 then c.sup 3 else c.sup 2)[j] + bitsL cells ((if k = 0 then c.sup 3 else c.sup 2).drop (j + 1)) := by rw [List.drop_eq_getElem_cons hlt]; rfl
        have bd := bitsL_bound cells ((if k = 0 then c.sup 3 else c.sup 2).drop (j + 1)) (fun x hx => (hbk x (List.mem_of_mem_drop hx)).2.2)
        refine o_indexAddr slz_28.slT rfl (by first | rfl | assumption) rfl (by omega) (by omega) rfl ?_
        refine o_load one_3 rfl (by first | exact S.cell 0 rfl rfl | exact S.cell 1 rfl rfl | exact S.cell 2 rfl rfl | exact S.cell 3 rfl rfl | exact S.cell 4 rfl rfl | exact S.cell 5 rfl rfl | exact S.cell 6 rfl rfl | exact S.old hcw | exact S.oldM hm17 c17b | exact hcellk | exact hce2) rfl ?_
        first | refine o_assign (v := .int .i64 _) rfl rfl ?_ | refine o_assign (by conv => lhs; whnf) rfl ?_
        refine WL_nil ?_
        refine W_region ?_
        first | refine o_move (v := .int .i64 _) rfl rfl ?_ | refine o_move (by conv => lhs; whnf) rfl ?_
        first | refine o_move (v := .slice _ _ _) rfl rfl ?_ | refine o_move (by conv => lhs; whnf) rfl ?_
        first | refine o_move (v := .int .i64 _) rfl rfl ?_ | refine o_move (by conv => lhs; whnf) rfl ?_
        refine o_indexAddr slz_22.slT rfl (by first | rfl | assumption) rfl (by omega) (by omega) rfl ?_
        refine o_fieldAddr fa_48_1 rfl rfl ?_
        refine o_load one_3 rfl (by first | exact S.cell 0 rfl rfl | exact S.cell 1 rfl rfl | exact S.cell 2 rfl rfl | exact S.cell 3 rfl rfl | exact S.cell 4 rfl rfl | exact S.cell 5 rfl rfl | exact S.cell 6 rfl rfl | exact S.old hcw | exact S.oldM hm17 c17b | exact hcellk | exact hce2) rfl ?_
        refine o_add rfl rfl (by unfold i64; omega) rfl ?_
        first | refine o_assign (v := .int .i64 _) rfl rfl ?_ | refine o_assign (by conv => lhs; whnf) rfl ?_
        refine WL_nil ?_
        refine W_region ?_
        refine o_add rfl rfl (by unfold i64; omega) rfl ?_
        first | refine o_move (v := .int .i64 _) rfl rfl ?_ | refine o_move (by conv => lhs; whnf) rfl ?_
        refine WL_nil ?_
        refine ⟨μ - 1, by omega, rfl, j + 1, _, by omega, ?_, ?_, ra, rb, rk, S, rfl, rfl, rfl, rfl, rfl, rfl, rfl, rfl, rfl, rfl, rfl, rfl, rfl, rfl, rfl⟩
        · omega
        · omega
      · refine WL_nil ?_
        refine W_seq ?_
        refine W_else rfl ?_
        refine W_exit ?_
        refine bcons_here ?_
        refine W_region ?_
        refine o_add rfl rfl (by unfold i64; omega) rfl ?_
        first | refine o_move (v := .int .i64 _) rfl rfl ?_ | refine o_move (by conv => lhs; whnf) rfl ?_
        refine WL_nil ?_
        refine ⟨1 - k, by omega, rfl, k + 1, s2, by omega, ?_, ra, rb, S, rfl, rfl, rfl, rfl, rfl, rfl, rfl, rfl, rfl, rfl, rfl, rfl⟩
        rw [List.drop_eq_nil_of_le (show (if k = 0 then c.sup 3 else c.sup 2).length ≤ j by omega)] at hs2
        simp only [bitsL] at hs2
        rcases (show k = 0 ∨ k = 1 by omega) with rfl | rfl
        · simp at hs2 ⊢; omega
        · simp at hs2 ⊢; omega
    · refine WL_nil ?_
      refine W_seq ?_
      refine W_else rfl ?_
      refine W_exit ?_
      refine bcons_here ?_
      refine W_seq ?_
      refine W_seq ?_
      have hbits : s = c.bits cells := by rw [hs, if_neg (by omega), if_neg (by omega)]; rfl
      have hb0 : 0 ≤ c.bits cells := by unfold CondD.bits; omega
      refine W_region ?_
      first | refine o_move (v := .int .i64 _) rfl rfl ?_ | refine o_move (by conv => lhs; whnf) rfl ?_
      refine o_gtr rfl rfl rfl (fun h69 => ?_) (fun h69 => ?_)
      · refine WL_nil ?_
        refine W_then rfl ?_
        refine W_seq ?_
        refine W_region ?_
        first | refine o_store (kk := 0) S sz_3 rfl (by conv => lhs; whnf) rfl rfl (by first | exact Nat.le_of_ble_eq_true rfl | (simp; omega)) ?_ | refine o_store (kk := 1) S sz_3 rfl (by conv => lhs; whnf) rfl rfl (by first | exact Nat.le_of_ble_eq_true rfl | (simp; omega)) ?_ | refine o_store (kk := 2) S sz_3 rfl (by conv => lhs; whnf) rfl rfl (by first | exact Nat.le_of_ble_eq_true rfl | (simp; omega)) ?_ | refine o_store (kk := 3) S sz_3 rfl (by conv => lhs; whnf) rfl rfl (by first | exact Nat.le_of_ble_eq_true rfl | (simp; omega)) ?_ | refine o_store (kk := 4) S sz_3 rfl (by conv => lhs; whnf) rfl rfl (by first | exact Nat.le_of_ble_eq_true rfl | (simp; omega)) ?_ | refine o_store (kk := 5) S sz_3 rfl (by conv => lhs; whnf) rfl rfl (by first | exact Nat.le_of_ble_eq_true rfl | (simp; omega)) ?_ | refine o_store (kk := 6) S sz_3 rfl (by conv => lhs; whnf) rfl rfl (by first | exact Nat.le_of_ble_eq_true rfl | (simp; omega)) ?_
        intro w19_0 S19_0 X19_0
        replace ra := ra.keep (X19_0.mono (by simp))
        replace rb := rb.keep (X19_0.mono (by simp))
        first | refine o_store (kk := 0) S19_0 sz_28 rfl (by conv => lhs; whnf) rfl rfl (by first | exact Nat.le_of_ble_eq_true rfl | (simp; omega)) ?_ | refine o_store (kk := 1) S19_0 sz_28 rfl (by conv => lhs; whnf) rfl rfl (by first | exact Nat.le_of_ble_eq_true rfl | (simp; omega)) ?_ | refine o_store (kk := 2) S19_0 sz_28 rfl (by conv => lhs; whnf) rfl rfl (by first | exact Nat.le_of_ble_eq_true rfl | (simp; omega)) ?_ | refine o_store (kk := 3) S19_0 sz_28 rfl (by conv => lhs; whnf) rfl rfl (by first | exact Nat.le_of_ble_eq_true rfl | (simp; omega)) ?_ | refine o_store (kk := 4) S19_0 sz_28 rfl (by conv => lhs; whnf) rfl rfl (by first | exact Nat.le_of_ble_eq_true rfl | (simp; omega)) ?_ | refine o_store (kk := 5) S19_0 sz_28 rfl (by conv => lhs; whnf) rfl rfl (by first | exact Nat.le_of_ble_eq_true rfl | (simp; omega)) ?_ | refine o_store (kk := 6) S19_0 sz_28 rfl (by conv => lhs; whnf) rfl rfl (by first | exact Nat.le_of_ble_eq_true rfl | (simp; omega)) ?_
        intro w19_1 S19_1 X19_1
        replace ra := ra.keep (X19_1.mono (by simp))
        replace rb := rb.keep (X19_1.mono (by simp))
        first | refine o_store (kk := 0) S19_1 sz_28 rfl (by conv => lhs; whnf) rfl rfl (by first | exact Nat.le_of_ble_eq_true rfl | (simp; omega)) ?_ | refine o_store (kk := 1) S19_1 sz_28 rfl (by conv => lhs; whnf) rfl rfl (by first | exact Nat.le_of_ble_eq_true rfl | (simp; omega)) ?_ | refine o_store (kk := 2) S19_1 sz_28 rfl (by conv => lhs; whnf) rfl rfl (by first | exact Nat.le_of_ble_eq_true rfl | (simp; omega)) ?_ | refine o_store (kk := 3) S19_1 sz_28 rfl (by conv => lhs; whnf) rfl rfl (by first | exact Nat.le_of_ble_eq_true rfl | (simp; omega)) ?_ | refine o_store (kk := 4) S19_1 sz_28 rfl (by conv => lhs; whnf) rfl rfl (by first | exact Nat.le_of_ble_eq_true rfl | (simp; omega)) ?_ | refine o_store (kk := 5) S19_1 sz_28 rfl (by conv => lhs; whnf) rfl rfl (by first | exact Nat.le_of_ble_eq_true rfl | (simp; omega)) ?_ | refine o_store (kk := 6) S19_1 sz_28 rfl (by conv => lhs; whnf) rfl rfl (by first | exact Nat.le_of_ble_eq_true rfl | (simp; omega)) ?_
        intro w19_2 S19_2 X19_2
        replace ra := ra.keep (X19_2.mono (by simp))
        replace rb := rb.keep (X19_2.mono (by simp))
        first | refine o_store (kk := 0) S19_2 sz_31 rfl (by conv => lhs; whnf) rfl rfl (by first | exact Nat.le_of_ble_eq_true rfl | (simp; omega)) ?_ | refine o_store (kk := 1) S19_2 sz_31 rfl (by conv => lhs; whnf) rfl rfl (by first | exact Nat.le_of_ble_eq_true rfl | (simp; omega)) ?_ | refine o_store (kk := 2) S19_2 sz_31 rfl (by conv => lhs; whnf) rfl rfl (by first | exact Nat.le_of_ble_eq_true rfl | (simp; omega)) ?_ | refine o_store (kk := 3) S19_2 sz_31 rfl (by conv => lhs; whnf) rfl rfl (by first | exact Nat.le_of_ble_eq_true rfl | (simp; omega)) ?_ | refine o_store (kk := 4) S19_2 sz_31 rfl (by conv => lhs; whnf) rfl rfl (by first | exact Nat.le_of_ble_eq_true rfl | (simp; omega)) ?_ | refine o_store (kk := 5) S19_2 sz_31 rfl (by conv => lhs; whnf) rfl rfl (by first | exact Nat.le_of_ble_eq_true rfl | (simp; omega)) ?_ | refine o_store (kk := 6) S19_2 sz_31 rfl (by conv => lhs; whnf) rfl rfl (by first | exact Nat.le_of_ble_eq_true rfl | (simp; omega)) ?_
        intro w19_3 S19_3 X19_3
        replace ra := ra.keep (X19_3.mono (by simp))
        replace rb := rb.keep (X19_3.mono (by simp))
        refine WL_nil ?_
        refine W_ret ?_
        first
          | (refine .inl ⟨rfl, fun tmps he => ⟨_, run_results_cells4 rfl one_3 one_28 one_28 one_errno rfl rfl rfl rfl (S19_3.cell 5 rfl rfl) (S19_3.cell 4 rfl rfl) (S19_3.cell 3 rfl rfl) (S19_3.cell 2 rfl rfl) he, ⟨_, _, _, _, rfl, .inl ⟨not_formed (k := k) (fun hh => ?_), rfl, rfl, rfl, rfl⟩⟩, S19_3.fin⟩⟩
             first
               | exact absurd hh.1 h32
               | (rw [h36] at hh; exact absurd hh.2 (by simp)))
          | exact .inl ⟨rfl, fun tmps he => ⟨_, run_results_cells4 rfl one_3 one_28 one_28 one_errno rfl rfl rfl rfl (S19_3.cell 5 rfl rfl) (S19_3.cell 4 rfl rfl) (S19_3.cell 3 rfl rfl) (S19_3.cell 2 rfl rfl) he, ⟨_, _, _, _, rfl, .inr (.inl ⟨hf, by omega, rfl, rfl, rfl, rfl⟩)⟩, S19_3.fin⟩⟩
          | (refine .inr ⟨w75.heap.size, rfl, (S19_3.below.block _ (by omega) nd).trans Hd4, fun tmps he => ⟨_, run_results_cells4 rfl one_3 one_28 one_28 one_errno rfl rfl rfl rfl (((S19_3.blk 0 rfl).putObj nd4).cell rfl) (((S19_3.blk 1 rfl).putObj nd5).cell rfl) (((S19_3.blk 2 rfl).putObj nd6).cell rfl) (((S19_3.blk 3 rfl).putObj nd7).cell rfl) he, ⟨_, _, _, _, rfl, .inr (.inr (.inl ⟨hf, by omega, fun n hn => hall n (by rw [hbt] at hn; exact hn), rfl, rfl, rfl, rfl⟩))⟩, ?_⟩⟩
             exact ((HB4.step S19_3.below new4).putObj _ (.inl (by have := S75.size; omega))).nil)
      · refine WL_nil ?_
        refine W_else rfl ?_
        refine W_skip ?_
        refine W_seq ?_
        obtain ⟨bn, hbn⟩ := Int.eq_ofNat_of_zero_le (show 0 ≤ s by omega)
        subst hbn
        have hbt : (c.bits cells).toNat = bn := by omega
        refine W_region ?_
        refine o_makeFunc rfl rfl ?_
        refine o_alloc S zv_49 rfl rfl ?_
        intro g17 w17 S17 X17 G17
        have hM17 : ∀ g ∈ [g17, g4, g5, g6, g7], g ∈ [g4, g5, g6, g7] ∨ w.heap.size ≤ g := by
          intro g hg; rcases List.mem_cons.1 hg with rfl | hg
          · exact .inr G17
          · exact .inl hg
        replace ra := (ra.more (by omega) hM17).keep (X17.of_nil)
        replace rb := (rb.more (by omega) hM17).keep (X17.of_nil)
        refine o_store (kk := 0) S17 sz_49 rfl (by conv => lhs; whnf) rfl rfl (Nat.le_of_ble_eq_true rfl) ?_
        intro w20_2 S20_2 X20_2
        replace ra := (ra.keep (X20_2.mono (by simp))).more (M' := [g4, g5, g6, g7]) (by omega) (fun g hg => .inl (List.mem_cons_of_mem _ hg))
        replace rb := (rb.keep (X20_2.mono (by simp))).more (M' := [g4, g5, g6, g7]) (by omega) (fun g hg => .inl (List.mem_cons_of_mem _ hg))
        refine WL_nil ?_
        refine W_seq ?_
        refine W_seq ?_
        refine W_region ?_
        first | refine o_move (v := .slice _ _ _) rfl rfl ?_ | refine o_move (by conv => lhs; whnf) rfl ?_
        first | refine o_move (v := .slice _ _ _) rfl rfl ?_ | refine o_move (by conv => lhs; whnf) rfl ?_
        first | refine o_move (v := .slice _ _ _) rfl rfl ?_ | refine o_move (by conv => lhs; whnf) rfl ?_
        first | refine o_move (v := .int .i64 _) rfl rfl ?_ | refine o_move (by conv => lhs; whnf) rfl ?_
        refine o_calln S20_2 has_29 rfl rfl (pairs_fn _ Ac Aa Ab nc cc na ca nb cb (bn : Int)) ?_
        rintro v75 w75 ⟨p1, p2, p3, p4, rfl, P1, P2, P3, P4, d1, d2, d3, d4⟩ S75 X75
        replace ra := ra.keep (X75.of_nil)
        replace rb := rb.keep (X75.of_nil)
        refine WL_nil ?_
        refine W_block ?_
        refine W_rangeFunc (vs := fun y => #[y, _, _, _, _]) has_43 rfl (fun _ => rfl) (fun rc wi hst hpe htm henv hps has hbo hdr hl hB hsz => ?_)
        obtain ⟨l, hl'⟩ : ∃ l, l = w75.heap.size + 1 := ⟨_, rfl⟩
        rw [← hl'] at hl ⊢
        have y3 := S75.lt 7 rfl
        have y4 := S75.lt 6 rfl
        have y5 := S75.lt 5 rfl
        have y6 := S75.lt 4 rfl
        have y7 := S75.lt 3 rfl
        have y17 := S75.lt 0 rfl
        have z4 : w0.heap.size ≤ g4 := by simpa using S75.new 6 rfl
        have z5 : w0.heap.size ≤ g5 := by simpa using S75.new 5 rfl
        have z6 : w0.heap.size ≤ g6 := by simpa using S75.new 4 rfl
        have z7 : w0.heap.size ≤ g7 := by simpa using S75.new 3 rfl
        have a45 : g4 ≠ g5 := fun hh => absurd (ent_get S75.apart (i := 6) (j := 5) rfl rfl rfl (congrArg some hh.symm)) (by decide)
        have a46 : g4 ≠ g6 := fun hh => absurd (ent_get S75.apart (i := 6) (j := 4) rfl rfl rfl (congrArg some hh.symm)) (by decide)
        have a47 : g4 ≠ g7 := fun hh => absurd (ent_get S75.apart (i := 6) (j := 3) rfl rfl rfl (congrArg some hh.symm)) (by decide)
        have a56 : g5 ≠ g6 := fun hh => absurd (ent_get S75.apart (i := 5) (j := 4) rfl rfl rfl (congrArg some hh.symm)) (by decide)
        have a57 : g5 ≠ g7 := fun hh => absurd (ent_get S75.apart (i := 5) (j := 3) rfl rfl rfl (congrArg some hh.symm)) (by decide)
        have a67 : g6 ≠ g7 := fun hh => absurd (ent_get S75.apart (i := 4) (j := 3) rfl rfl rfl (congrArg some hh.symm)) (by decide)
        have hm17 : g17 ∉ [g4, g5, g6, g7] := by
          intro hh; simp at hh
          rcases hh with hh | hh | hh | hh
          · exact absurd (ent_get S75.apart (i := 0) (j := 6) rfl rfl rfl (congrArg some hh.symm)) (by decide)
          · exact absurd (ent_get S75.apart (i := 0) (j := 5) rfl rfl rfl (congrArg some hh.symm)) (by decide)
          · exact absurd (ent_get S75.apart (i := 0) (j := 4) rfl rfl rfl (congrArg some hh.symm)) (by decide)
          · exact absurd (ent_get S75.apart (i := 0) (j := 3) rfl rfl rfl (congrArg some hh.symm)) (by decide)
        have hm3 : g3 ∉ [l, g4, g5, g6, g7] := by
          intro hh; simp at hh
          rcases hh with hh | hh | hh | hh | hh
          · omega
          · exact absurd (ent_get S75.apart (i := 7) (j := 6) rfl rfl rfl (congrArg some hh.symm)) (by decide)
          · exact absurd (ent_get S75.apart (i := 7) (j := 5) rfl rfl rfl (congrArg some hh.symm)) (by decide)
          · exact absurd (ent_get S75.apart (i := 7) (j := 4) rfl rfl rfl (congrArg some hh.symm)) (by decide)
          · exact absurd (ent_get S75.apart (i := 7) (j := 3) rfl rfl rfl (congrArg some hh.symm)) (by decide)
        have hm17' : g17 ∉ [l, g4, g5, g6, g7] := by
          intro hh; rcases List.mem_cons.1 hh with hh | hh
          · omega
          · exact hm17 hh
        have hMl : ∀ g ∈ [l, g4, g5, g6, g7], g ∈ [g4, g5, g6, g7] ∨ w75.heap.size ≤ g := by
          intro g hg; rcases List.mem_cons.1 hg with rfl | hg
          · right; omega
          · exact .inl hg
        have hMi : ∀ g ∈ [l, g4, g5, g6, g7], g < wi.heap.size := by
          intro g hg; simp at hg; rcases hg with rfl | rfl | rfl | rfl | rfl <;> omega
        have Ki : Keep [] w75 wi := Keep.of_below hB
        have hCi := ((hC'.keep (S75.keep0 _)).more (by omega) hMl).keep Ki.of_nil
        have hOi := (ra.more (by omega) hMl).keep Ki.of_nil
        have hNi := (rb.more (by omega) hMl).keep Ki.of_nil
        have hRi := ((hR'.keep (S75.keep0 _)).more hMl).keep Ki.of_nil
        have hKi := ((hK'.keep (S75.keep0 _)).more hMl).keep Ki.of_nil
        have b4 := keep_hasBlk Ki (S75.blk 6 rfl)
        have b5 := keep_hasBlk Ki (S75.blk 5 rfl)
        have b6 := keep_hasBlk Ki (S75.blk 4 rfl)
        have b7 := keep_hasBlk Ki (S75.blk 3 rfl)
        have c3 := (S75.cells 7 rfl).keep (M := []) Ki (by simp)
        have c17 := Ki.cell (a := ⟨g17, 0, none⟩) (by simp) (S75.cell 0 rfl rfl)
        have y4' : g4 < w20_2.heap.size := S20_2.lt 6 rfl
        have y5' : g5 < w20_2.heap.size := S20_2.lt 5 rfl
        have y6' : g6 < w20_2.heap.size := S20_2.lt 4 rfl
        have y7' : g7 < w20_2.heap.size := S20_2.lt 3 rfl
        have mm : ∀ (p : Nat) (v : Value), w20_2.heap.size ≤ p → w75.cell? ⟨p, 0, none⟩ = some v → p ∉ [l, g4, g5, g6, g7] := by
          intro p v hp hc hh
          have := World.block_lt_of_cell? _ _ hc
          simp at this
          simp at hh; rcases hh with hh | hh | hh | hh | hh <;> omega
        refine Does.mono (pairs1_fn [l, g4, g5, g6, g7] wi l p1 p2 p3 p4 _ _ _ cells (c.sup 3) (c.sup 2) bn (fun w => w.heap[l]? = some (.loop rc) ∧ hasBlk w (g4, 3, [.int .i64 0]) ∧ hasBlk w (g5, 28, [.slice none 0 0]) ∧ hasBlk w (g6, 28, [.slice none 0 0]) ∧ hasBlk w (g7, 31, [.int .i64 0])) (fun n => c.hit cells n)
          (fun n gb ga w => w.heap[l]? = some (.loop { rc with state := .done, pending := some .ret }) ∧ hasBlk w (g4, 3, [.int .i64 2]) ∧ hasBlk w (g5, 28, [.slice (some ⟨gb, 0, none⟩) cells.length cells.length]) ∧ hasBlk w (g6, 28, [.slice (some ⟨ga, 0, none⟩) cells.length cells.length]) ∧ hasBlk w (g7, 31, [.int .i64 0]))
          (mm _ _ P1 d1) (mm _ _ P2 d2) (mm _ _ P3 d3) (mm _ _ P4 d4) (Ki.cell (a := ⟨p1, 0, none⟩) (by simp) d1) (Ki.cell (a := ⟨p2, 0, none⟩) (by simp) d2) (Ki.cell (a := ⟨p3, 0, none⟩) (by simp) d3) (Ki.cell (a := ⟨p4, 0, none⟩) (by simp) d4)
          hCi hOi hNi hMi (by omega) hcl (supL_of hf (.inr rfl)) (supL_of hf (.inl rfl)) ⟨hl, b4, b5, b6, b7⟩ ?_ (fun n gb ga w hn hgb hga hJ S => ?_)) ?_
        · rintro w w' ⟨j0, j4, j5, j6, j7⟩ hsame _
          exact ⟨(hsame l (by omega)).trans j0, (hsame g4 (by omega)).trans j4, (hsame g5 (by omega)).trans j5, (hsame g6 (by omega)).trans j6, (hsame g7 (by omega)).trans j7⟩
        · obtain ⟨jl, j4, j5, j6, j7⟩ := hJ
          have hlw : l < w.heap.size := by have := S.size; omega
          refine yields2 jl hst htm henv hps has hbo rfl rfl ?_
          refine W_seq ?_
          refine W_region ?_
          first | refine o_assign (v := .slice _ _ _) rfl rfl ?_ | refine o_assign (by conv => lhs; whnf) rfl ?_
          refine WL_nil ?_
          refine W_region ?_
          first | refine o_assign (v := .slice _ _ _) rfl rfl ?_ | refine o_assign (by conv => lhs; whnf) rfl ?_
          refine WL_nil ?_
          refine ⟨jl, ?_⟩
          obtain ⟨wb, hwb⟩ : ∃ wb, wb = w.putObj l (.loop { rc with state := .busy }) := ⟨_, rfl⟩
          rw [← hwb]
          have Lb : wb.heap[l]? = some (.loop { rc with state := .busy }) := by rw [hwb]; exact World.putObj_heap_same hlw
          have Xb : Keep [l] w wb := by rw [hwb]; exact keep_putObj _ _ _
          have Zb : wb.heap.size = w.heap.size := by rw [hwb]; simp
          have Bb : BelowB [l, g4, g5, g6, g7] w wb := by rw [hwb]; exact (BelowB.refl _ _).putObj _ (.inr (by simp))
          have k4 : hasBlk wb (g4, 3, [.int .i64 0]) := by rw [hwb]; exact j4.putObj (show g4 ≠ l by omega)
          have k5 : hasBlk wb (g5, 28, [.slice none 0 0]) := by rw [hwb]; exact j5.putObj (show g5 ≠ l by omega)
          have k6 : hasBlk wb (g6, 28, [.slice none 0 0]) := by rw [hwb]; exact j6.putObj (show g6 ≠ l by omega)
          have k7 : hasBlk wb (g7, 31, [.int .i64 0]) := by rw [hwb]; exact j7.putObj (show g7 ≠ l by omega)
          have Sb := ((((⟨BelowB.refl _ _, by simp, by simp⟩ : St [g4, g5, g6, g7] wb wb []).push k7 (.inr (by simp)) (by simp)).push k6 (.inr (by simp)) (by simpa using fun e : g7 = g6 => a67 e.symm)).push k5 (.inr (by simp)) (by simpa using ⟨fun e : g6 = g5 => a56 e.symm, fun e : g7 = g5 => a57 e.symm⟩)).push k4 (.inr (by simp)) (by simpa using ⟨fun e : g5 = g4 => a45 e.symm, fun e : g6 = g4 => a46 e.symm, fun e : g7 = g4 => a47 e.symm⟩)
          have RW : Keep [l, g4, g5, g6, g7] wi wb := S.keepM.trans (Xb.mono (by simp))
          have hgbM : gb ∉ [l, g4, g5, g6, g7] := fun hh => by have := hMi gb hh; omega
          have hgaM : ga ∉ [l, g4, g5, g6, g7] := fun hh => by have := hMi ga hh; omega
          have pl := pair_len cells c n
          have hB1 := (rdI_own (M := [l, g4, g5, g6, g7]) (k := 0) (n := cells.length) S rfl hgbM pl.1.symm (by omega) (pair_i64 hf n).1).keep (Xb.mono (by simp))
          have hA1 := (rdI_own (M := [l, g4, g5, g6, g7]) (k := 1) (n := cells.length) S rfl hgaM pl.2.symm (by omega) (pair_i64 hf n).2).keep (Xb.mono (by simp))
          have c17b := RW.cell (a := ⟨g17, 0, none⟩) hm17' c17
          clear k4 k5 k6 k7
          refine W_block ?_
          refine W_seq ?_
          refine W_region ?_
          refine o_load one_49 rfl (by first | exact Sb.cell 0 rfl rfl | exact Sb.cell 1 rfl rfl | exact Sb.cell 2 rfl rfl | exact Sb.cell 3 rfl rfl | exact Sb.old hcw | exact Sb.oldM hm17 c17b | exact hcellk | exact hce2) rfl ?_
          first | refine o_move (v := .slice _ _ _) rfl rfl ?_ | refine o_move (by conv => lhs; whnf) rfl ?_
          first | refine o_move (v := .slice _ _ _) rfl rfl ?_ | refine o_move (by conv => lhs; whnf) rfl ?_
          refine o_callv has_28 rfl rfl rfl (fals_fn c [l, g4, g5, g6, g7] _ g3 _ _ _ (pairAt cells (c.sup 3) (c.sup 2) n).1 (pairAt cells (c.sup 3) (c.sup 2) n).2 hm3 (c3.keep RW hm3) (hRi.keep RW) (hKi.keep RW) hB1 hA1) ?_
          rintro v81 w81 ⟨rfl, B81⟩
          have S81 := Sb.later B81
          cases hfp : c.fals ((pairAt cells (c.sup 3) (c.sup 2) n).1, (pairAt cells (c.sup 3) (c.sup 2) n).2)
          · refine WL_nil ?_
            refine W_else rfl ?_
            refine W_skip ?_
            have e1 := (S81.below.block l (by omega) (by simp; omega)).trans Lb
            have lw := S81.size
            refine ⟨_, e1, (Bb.trans (S81.below.mono (by simp))).putObj _ (.inr (by simp)), .inl ⟨rfl, hfp, ?_, (S81.blk 0 rfl).putObj (show g4 ≠ l by omega), (S81.blk 1 rfl).putObj (show g5 ≠ l by omega), (S81.blk 2 rfl).putObj (show g6 ≠ l by omega), (S81.blk 3 rfl).putObj (show g7 ≠ l by omega)⟩⟩
            rw [World.putObj_heap_same (by omega)]
            cases rc; simp at hst hpe; simp [hst, hpe]
          · refine WL_nil ?_
            refine W_then rfl ?_
            refine W_seq ?_
            refine W_region ?_
            first | refine o_move (v := .slice _ _ _) rfl rfl ?_ | refine o_move (by conv => lhs; whnf) rfl ?_
            first | refine o_move (v := .slice _ _ _) rfl rfl ?_ | refine o_move (by conv => lhs; whnf) rfl ?_
            first | refine o_store (kk := 0) S81 sz_3 rfl (by conv => lhs; whnf) rfl rfl (by first | exact Nat.le_of_ble_eq_true rfl | (simp; omega)) ?_ | refine o_store (kk := 1) S81 sz_3 rfl (by conv => lhs; whnf) rfl rfl (by first | exact Nat.le_of_ble_eq_true rfl | (simp; omega)) ?_ | refine o_store (kk := 2) S81 sz_3 rfl (by conv => lhs; whnf) rfl rfl (by first | exact Nat.le_of_ble_eq_true rfl | (simp; omega)) ?_ | refine o_store (kk := 3) S81 sz_3 rfl (by conv => lhs; whnf) rfl rfl (by first | exact Nat.le_of_ble_eq_true rfl | (simp; omega)) ?_
            intro w25_2 S25_2 X25_2
            first | refine o_store (kk := 0) S25_2 sz_28 rfl (by conv => lhs; whnf) rfl rfl (by first | exact Nat.le_of_ble_eq_true rfl | (simp; omega)) ?_ | refine o_store (kk := 1) S25_2 sz_28 rfl (by conv => lhs; whnf) rfl rfl (by first | exact Nat.le_of_ble_eq_true rfl | (simp; omega)) ?_ | refine o_store (kk := 2) S25_2 sz_28 rfl (by conv => lhs; whnf) rfl rfl (by first | exact Nat.le_of_ble_eq_true rfl | (simp; omega)) ?_ | refine o_store (kk := 3) S25_2 sz_28 rfl (by conv => lhs; whnf) rfl rfl (by first | exact Nat.le_of_ble_eq_true rfl | (simp; omega)) ?_
            intro w25_3 S25_3 X25_3
            first | refine o_store (kk := 0) S25_3 sz_28 rfl (by conv => lhs; whnf) rfl rfl (by first | exact Nat.le_of_ble_eq_true rfl | (simp; omega)) ?_ | refine o_store (kk := 1) S25_3 sz_28 rfl (by conv => lhs; whnf) rfl rfl (by first | exact Nat.le_of_ble_eq_true rfl | (simp; omega)) ?_ | refine o_store (kk := 2) S25_3 sz_28 rfl (by conv => lhs; whnf) rfl rfl (by first | exact Nat.le_of_ble_eq_true rfl | (simp; omega)) ?_ | refine o_store (kk := 3) S25_3 sz_28 rfl (by conv => lhs; whnf) rfl rfl (by first | exact Nat.le_of_ble_eq_true rfl | (simp; omega)) ?_
            intro w25_4 S25_4 X25_4
            first | refine o_store (kk := 0) S25_4 sz_31 rfl (by conv => lhs; whnf) rfl rfl (by first | exact Nat.le_of_ble_eq_true rfl | (simp; omega)) ?_ | refine o_store (kk := 1) S25_4 sz_31 rfl (by conv => lhs; whnf) rfl rfl (by first | exact Nat.le_of_ble_eq_true rfl | (simp; omega)) ?_ | refine o_store (kk := 2) S25_4 sz_31 rfl (by conv => lhs; whnf) rfl rfl (by first | exact Nat.le_of_ble_eq_true rfl | (simp; omega)) ?_ | refine o_store (kk := 3) S25_4 sz_31 rfl (by conv => lhs; whnf) rfl rfl (by first | exact Nat.le_of_ble_eq_true rfl | (simp; omega)) ?_
            intro w25_5 S25_5 X25_5
            refine WL_nil ?_
            refine W_ret ?_
            have e1 := (S25_5.below.block l (by omega) (by simp; omega)).trans Lb
            have lw := S25_5.size
            refine ⟨_, e1, (Bb.trans (S25_5.below.mono (by simp))).putObj _ (.inr (by simp)), .inr ⟨rfl, hfp, ?_, (S25_5.blk 0 rfl).putObj (show g4 ≠ l by omega), (S25_5.blk 1 rfl).putObj (show g5 ≠ l by omega), (S25_5.blk 2 rfl).putObj (show g6 ≠ l by omega), (S25_5.blk 3 rfl).putObj (show g7 ≠ l by omega)⟩⟩
            rw [World.putObj_heap_same (by omega)]
            rfl
        · rintro _ w3 ⟨B3, hcase⟩
          have s3 := B3.size
          have nd : w75.heap.size ∉ [g4, g5, g6, g7] := by simp; omega
          have nd4 : g4 ≠ w75.heap.size := by omega
          have nd5 : g5 ≠ w75.heap.size := by omega
          have nd6 : g6 ≠ w75.heap.size := by omega
          have nd7 : g7 ≠ w75.heap.size := by omega
          have new4 : ∀ g ∈ [g4, g5, g6, g7], w0.heap.size ≤ g := by intro g hg; simp at hg; rcases hg with rfl | rfl | rfl | rfl <;> assumption
          have s75 := S75.size
          have Hd : w3.heap[w75.heap.size]? = some (.deferred (some [])) := (B3.block _ (by omega) (by intro hh; rcases List.mem_cons.1 hh with hh | hh; omega; exact nd hh)).trans hdr
          have HB0 : BelowB [] w0 w3 := BelowB.step (BelowB.step S75.below (BelowB.of (M := []) hB) (by simp)) B3 (by intro g hg; rcases List.mem_cons.1 hg with rfl | hg; omega; exact new4 g hg)
          rcases hcase with ⟨⟨jl, j4, j5, j6, j7⟩, hall⟩ | ⟨n, gb, ga, hn, hp, hmin, hgb, hga, q1, q2, ql, q4, q5, q6, q7⟩
          rotate_left
          · have pl := pair_len cells c n
            have hgbM : gb ∉ M := fun hh => by have := hM gb hh; omega
            have hgaM : ga ∉ M := fun hh => by have := hM ga hh; omega
            have q1' := (q1.putObj (l := l) (o := .loop { rc with state := .exhausted, pending := some .ret }) (show gb ≠ l by omega)).putObj (l := w75.heap.size) (o := .deferred none) (show gb ≠ w75.heap.size by omega)
            have q2' := (q2.putObj (l := l) (o := .loop { rc with state := .exhausted, pending := some .ret }) (show ga ≠ l by omega)).putObj (l := w75.heap.size) (o := .deferred none) (show ga ≠ w75.heap.size by omega)
            refine ⟨_, ql, by simp, .inr ⟨rfl, .inr ⟨w75.heap.size, rfl, ?_, fun tmps he => ⟨_, run_results_cells4 rfl one_3 one_28 one_28 one_errno rfl rfl rfl rfl (((q4.putObj (show g4 ≠ l by omega)).putObj nd4).cell rfl) (((q5.putObj (show g5 ≠ l by omega)).putObj nd5).cell rfl) (((q6.putObj (show g6 ≠ l by omega)).putObj nd6).cell rfl) (((q7.putObj (show g7 ≠ l by omega)).putObj nd7).cell rfl) he, ⟨_, _, _, _, rfl, .inr (.inr (.inr ⟨hf, by omega, n, by rw [hbt]; exact hn, hp, hmin, rfl, ?_, ?_, rfl⟩))⟩, ?_⟩⟩⟩⟩
            · rw [World.putObj_heap_other (by omega)]; exact Hd
            · exact rdI_own (k := 0) (n := cells.length) (St.borrow1 q1') rfl hgbM pl.1.symm (by omega) (pair_i64 hf n).1
            · exact rdI_own (k := 0) (n := cells.length) (St.borrow1 q2') rfl hgaM pl.2.symm (by omega) (pair_i64 hf n).2
            · exact ((HB0.putObj _ (.inl (by omega))).putObj _ (.inl (by omega))).nil
          refine ⟨rc, jl, by rw [hst]; simp, .inl ⟨hpe, ?_⟩⟩
          obtain ⟨w, hw4⟩ : ∃ w, w = w3.putObj l (.loop { rc with state := .exhausted }) := ⟨_, rfl⟩
          rw [← hw4]
          have HB4 : BelowB [] w0 w := by rw [hw4]; exact HB0.putObj _ (.inl (by omega))
          have Hd4 : w.heap[w75.heap.size]? = some (.deferred (some [])) := by rw [hw4, World.putObj_heap_other (by omega)]; exact Hd
          have Z4 : w.heap.size = w3.heap.size := by rw [hw4]; simp
          have k4 : hasBlk w (g4, 3, [.int .i64 0]) := by rw [hw4]; exact j4.putObj (show g4 ≠ l by omega)
          have k5 : hasBlk w (g5, 28, [.slice none 0 0]) := by rw [hw4]; exact j5.putObj (show g5 ≠ l by omega)
          have k6 : hasBlk w (g6, 28, [.slice none 0 0]) := by rw [hw4]; exact j6.putObj (show g6 ≠ l by omega)
          have k7 : hasBlk w (g7, 31, [.int .i64 0]) := by rw [hw4]; exact j7.putObj (show g7 ≠ l by omega)
          have S := ((((⟨BelowB.refl _ _, by simp, by simp⟩ : St [g4, g5, g6, g7] w w []).push k7 (.inr (by simp)) (by simp)).push k6 (.inr (by simp)) (by simpa using fun e : g7 = g6 => a67 e.symm)).push k5 (.inr (by simp)) (by simpa using ⟨fun e : g6 = g5 => a56 e.symm, fun e : g7 = g5 => a57 e.symm⟩)).push k4 (.inr (by simp)) (by simpa using ⟨fun e : g5 = g4 => a45 e.symm, fun e : g6 = g4 => a46 e.symm, fun e : g7 = g4 => a47 e.symm⟩)
          clear k4 k5 k6 k7 hw4
          refine W_seq ?_
          refine W_region ?_
          first | refine o_store (kk := 0) S sz_3 rfl (by conv => lhs; whnf) rfl rfl (by first | exact Nat.le_of_ble_eq_true rfl | (simp; omega)) ?_ | refine o_store (kk := 1) S sz_3 rfl (by conv => lhs; whnf) rfl rfl (by first | exact Nat.le_of_ble_eq_true rfl | (simp; omega)) ?_ | refine o_store (kk := 2) S sz_3 rfl (by conv => lhs; whnf) rfl rfl (by first | exact Nat.le_of_ble_eq_true rfl | (simp; omega)) ?_ | refine o_store (kk := 3) S sz_3 rfl (by conv => lhs; whnf) rfl rfl (by first | exact Nat.le_of_ble_eq_true rfl | (simp; omega)) ?_
          intro w26_0 S26_0 X26_0
          first | refine o_store (kk := 0) S26_0 sz_28 rfl (by conv => lhs; whnf) rfl rfl (by first | exact Nat.le_of_ble_eq_true rfl | (simp; omega)) ?_ | refine o_store (kk := 1) S26_0 sz_28 rfl (by conv => lhs; whnf) rfl rfl (by first | exact Nat.le_of_ble_eq_true rfl | (simp; omega)) ?_ | refine o_store (kk := 2) S26_0 sz_28 rfl (by conv => lhs; whnf) rfl rfl (by first | exact Nat.le_of_ble_eq_true rfl | (simp; omega)) ?_ | refine o_store (kk := 3) S26_0 sz_28 rfl (by conv => lhs; whnf) rfl rfl (by first | exact Nat.le_of_ble_eq_true rfl | (simp; omega)) ?_
          intro w26_1 S26_1 X26_1
          first | refine o_store (kk := 0) S26_1 sz_28 rfl (by conv => lhs; whnf) rfl rfl (by first | exact Nat.le_of_ble_eq_true rfl | (simp; omega)) ?_ | refine o_store (kk := 1) S26_1 sz_28 rfl (by conv => lhs; whnf) rfl rfl (by first | exact Nat.le_of_ble_eq_true rfl | (simp; omega)) ?_ | refine o_store (kk := 2) S26_1 sz_28 rfl (by conv => lhs; whnf) rfl rfl (by first | exact Nat.le_of_ble_eq_true rfl | (simp; omega)) ?_ | refine o_store (kk := 3) S26_1 sz_28 rfl (by conv => lhs; whnf) rfl rfl (by first | exact Nat.le_of_ble_eq_true rfl | (simp; omega)) ?_
          intro w26_2 S26_2 X26_2
          first | refine o_store (kk := 0) S26_2 sz_31 rfl (by conv => lhs; whnf) rfl rfl (by first | exact Nat.le_of_ble_eq_true rfl | (simp; omega)) ?_ | refine o_store (kk := 1) S26_2 sz_31 rfl (by conv => lhs; whnf) rfl rfl (by first | exact Nat.le_of_ble_eq_true rfl | (simp; omega)) ?_ | refine o_store (kk := 2) S26_2 sz_31 rfl (by conv => lhs; whnf) rfl rfl (by first | exact Nat.le_of_ble_eq_true rfl | (simp; omega)) ?_ | refine o_store (kk := 3) S26_2 sz_31 rfl (by conv => lhs; whnf) rfl rfl (by first | exact Nat.le_of_ble_eq_true rfl | (simp; omega)) ?_
          intro w26_3 S26_3 X26_3
          refine WL_nil ?_
          refine W_ret ?_
          first
            | (refine .inl ⟨rfl, fun tmps he => ⟨_, run_results_cells4 rfl one_3 one_28 one_28 one_errno rfl rfl rfl rfl (S26_3.cell 5 rfl rfl) (S26_3.cell 4 rfl rfl) (S26_3.cell 3 rfl rfl) (S26_3.cell 2 rfl rfl) he, ⟨_, _, _, _, rfl, .inl ⟨not_formed (k := k) (fun hh => ?_), rfl, rfl, rfl, rfl⟩⟩, S26_3.fin⟩⟩
               first
                 | exact absurd hh.1 h32
                 | (rw [h36] at hh; exact absurd hh.2 (by simp)))
            | exact .inl ⟨rfl, fun tmps he => ⟨_, run_results_cells4 rfl one_3 one_28 one_28 one_errno rfl rfl rfl rfl (S26_3.cell 5 rfl rfl) (S26_3.cell 4 rfl rfl) (S26_3.cell 3 rfl rfl) (S26_3.cell 2 rfl rfl) he, ⟨_, _, _, _, rfl, .inr (.inl ⟨hf, by omega, rfl, rfl, rfl, rfl⟩)⟩, S26_3.fin⟩⟩
            | (refine .inr ⟨w75.heap.size, rfl, (S26_3.below.block _ (by omega) nd).trans Hd4, fun tmps he => ⟨_, run_results_cells4 rfl one_3 one_28 one_28 one_errno rfl rfl rfl rfl (((S26_3.blk 0 rfl).putObj nd4).cell rfl) (((S26_3.blk 1 rfl).putObj nd5).cell rfl) (((S26_3.blk 2 rfl).putObj nd6).cell rfl) (((S26_3.blk 3 rfl).putObj nd7).cell rfl) he, ⟨_, _, _, _, rfl, .inr (.inr (.inl ⟨hf, by omega, fun n hn => hall n (by rw [hbt] at hn; exact hn), rfl, rfl, rfl, rfl⟩))⟩, ?_⟩⟩
               exact ((HB4.step S26_3.below new4).putObj _ (.inl (by have := S75.size; omega))).nil)
end Go.Proofs.YtinhchacppkmgaaDoor
