/-
  The number of a pair of states: plain, and the contract of the law's 'number'.
-/
import Derived.Test.YtinhchacppkmgaaDoorLa3
namespace Go.Fw
open Go.RowKit

theorem bitsL_nonneg {cells : List CellD} {l : List Int} (h : ∀ x ∈ l, 1 ≤ wAt cells x) : 0 ≤ bitsL cells l := by
  induction l with
  | nil => simp [bitsL]
  | cons y ys ih => simp only [bitsL]; have := h y (by simp); have := ih (fun x hx => h x (by simp [hx])); omega

theorem ediv_pow2 (r : Int) (a b : Nat) : r / pow2 a / pow2 b = r / pow2 (a + b) := by
  have := pow2_pos a
  rw [pow2_add, Int.ediv_ediv, if_neg (by omega), Int.sub_zero]

theorem layS_rest_eq (cells : List CellD) : ∀ (l : List Int) (r : Int) (s : List Int), (∀ x ∈ l, 1 ≤ wAt cells x) → (layS cells l r s).2 = r / pow2 (bitsL cells l).toNat := by
  intro l
  induction l with
  | nil => intro r s _; simp [layS, bitsL, pow2]
  | cons c cs ih =>
    intro r s h
    have hc := h c (by simp)
    have hb := bitsL_nonneg (fun x hx => h x (by simp [hx]) : ∀ x ∈ cs, 1 ≤ wAt cells x)
    simp only [layS]
    rw [ih _ _ (fun x hx => h x (by simp [hx])), ediv_pow2]
    congr 2; simp only [bitsL]; omega

theorem layS_digit (cells : List CellD) : ∀ (l : List Int) (r : Int) (s : List Int) (k : Nat) (hk : k < l.length), l.Pairwise (· < ·) → (∀ x ∈ l, 0 ≤ x ∧ x < s.length ∧ 1 ≤ wAt cells x) →
    (layS cells l r s).1.getD l[k].toNat 0 = r / pow2 (bitsL cells (l.take k)).toNat % pow2 (wAt cells l[k]).toNat := by
  intro l
  induction l with
  | nil => intro r s k hk; simp at hk
  | cons c cs ih =>
    intro r s k hk hp hl
    obtain ⟨hc, hps⟩ := List.pairwise_cons.1 hp
    have hc0 := hl c (by simp)
    simp only [layS]
    cases k with
    | zero =>
      simp only [List.getElem_cons_zero, List.take_zero, bitsL, Int.toNat_zero, pow2, Int.ediv_one]
      rw [List.getD_eq_getElem?_getD, layS_out cells cs _ _ _ (fun c' hc' => by have := hc c' hc'; have := hl c' (by simp [hc']); omega)]
      rw [List.getElem?_set_self (by omega)]; rfl
    | succ k =>
      have hk' : k < cs.length := by simpa using hk
      simp only [List.getElem_cons_succ, List.take_succ_cons]
      rw [ih _ _ k hk' hps (fun x hx => by have := hl x (by simp [hx]); simpa using this), ediv_pow2]
      have hb := bitsL_nonneg (cells := cells) (l := cs.take k) (fun x hx => (hl x (by simp [List.mem_of_mem_take hx])).2.2)
      congr 3; simp only [bitsL]; omega

theorem mod_step (n u w : Nat) : ((n : Int) % pow2 u) + pow2 u * ((n : Int) / pow2 u % pow2 w) = (n : Int) % pow2 (u + w) := by
  rw [pow2_add, pow2_eq, pow2_eq, ← Int.natCast_mul, ← Int.natCast_emod, ← Int.natCast_ediv, ← Int.natCast_emod, ← Int.natCast_mul, ← Int.natCast_add, ← Int.natCast_emod]
  rw [Nat.mod_mul]

theorem bitsL_take_succ (cells : List CellD) (l : List Int) (k : Nat) (hk : k < l.length) : bitsL cells (l.take (k + 1)) = bitsL cells (l.take k) + wAt cells l[k] := by
  rw [List.take_add_one, List.getElem?_eq_getElem hk, Option.toList_some, bitsL_append]; simp [bitsL]

theorem bitsL_take_le (cells : List CellD) (l : List Int) (k : Nat) (h : ∀ x ∈ l, 1 ≤ wAt cells x) : 0 ≤ bitsL cells (l.take k) ∧ bitsL cells (l.take k) ≤ bitsL cells l := by
  have h1 := bitsL_append cells (l.take k) (l.drop k)
  rw [List.take_append_drop] at h1
  have h2 := bitsL_nonneg (cells := cells) (l := l.take k) (fun x hx => h x (List.mem_of_mem_take hx))
  have h3 := bitsL_nonneg (cells := cells) (l := l.drop k) (fun x hx => h x (List.mem_of_mem_drop hx))
  omega
theorem pow2_14 {n : Nat} (h : n ≤ 14) : 1 ≤ pow2 n ∧ pow2 n ≤ 16384 := by
  have := pow2_pos n
  have h2 := pow2_le n 14 h
  have : pow2 14 = 16384 := by decide
  omega
end Go.Fw
namespace Go.Proofs.YtinhchacppkmgaaDoor
open Go.Fw Go.RowKit

theorem number_fn (c : CondD) (cells : List CellD) (n : Nat) (M : List Nat) (w0 : World) (cs : List Value) (vc vo vn : Value) (hR : RdCond M w0 c cs) (hC : RdCs M w0 vc cells) (hM : ∀ g ∈ M, g < w0.heap.size) (hf : c.formed cells = true) (hb : c.bits cells ≤ 14) (hn : n < 2 ^ (c.bits cells).toNat)
    (hO : RdI M w0 vo (pairAt cells (c.sup 3) (c.sup 2) n).1) (hN : RdI M w0 vn (pairAt cells (c.sup 3) (c.sup 2) n).2) :
    Does Tryd.prog 17 #[vc, .agg cs.toArray, vo, vn] w0 fun v w' => v = .int .i64 (n : Int) ∧ Below w0.heap.size w0 w' := by
  obtain ⟨Ac, nc, cc, rfl⟩ := hC.form
  obtain ⟨hnc, hcc, hcm, hcbig, hcs⟩ := hC.at
  obtain ⟨Ao, no, co, rfl⟩ := hO.form
  obtain ⟨hno, -, -, -, hos⟩ := hO.at
  obtain ⟨An, nn, cn, rfl⟩ := hN.form
  obtain ⟨hnn, -, -, -, hns⟩ := hN.at
  have pl := pair_len cells c n
  have hR0 := hR
  obtain ⟨ch, cg, rfl, hh, hg⟩ := hR0
  obtain ⟨A, k0, q, rfl, -⟩ := hh.open_
  obtain ⟨A', k1, q', rfl, -⟩ := hg.open_
  have S := St.refl w0
  simp only [List.cons_append, List.nil_append] at hR ⊢
  have w3 : ∀ x ∈ c.sup 3, 1 ≤ wAt cells x := fun x hx => by have := csup_cell hf (.inr rfl) hx; omega
  have w2 : ∀ x ∈ c.sup 2, 1 ≤ wAt cells x := fun x hx => by have := csup_cell hf (.inl rfl) hx; omega
  have s3 := csup_sorted c 3
  have s2 := csup_sorted c 2
  have hz : (zeroS cells).length = cells.length := by simp [zeroS]
  have l3 := csup_len c 3
  have l2 := csup_len c 2
  have B3 := bitsL_nonneg w3
  have B2 := bitsL_nonneg w2
  have hbits : c.bits cells = bitsL cells (c.sup 3) + bitsL cells (c.sup 2) := rfl
  have dig3 : ∀ (k : Nat) (hk : k < (c.sup 3).length), (pairAt cells (c.sup 3) (c.sup 2) n).1.getD (c.sup 3)[k].toNat 0 = (n : Int) / pow2 (bitsL cells ((c.sup 3).take k)).toNat % pow2 (wAt cells (c.sup 3)[k]).toNat := fun k hk =>
    layS_digit cells _ _ _ k hk s3 (fun x hx => by have := csup_cell hf (.inr rfl) hx; omega)
  have dig2 : ∀ (k : Nat) (hk : k < (c.sup 2).length), (pairAt cells (c.sup 3) (c.sup 2) n).2.getD (c.sup 2)[k].toNat 0 = (n : Int) / pow2 ((bitsL cells (c.sup 3)).toNat + (bitsL cells ((c.sup 2).take k)).toNat) % pow2 (wAt cells (c.sup 2)[k]).toNat := fun k hk => by
    have := layS_digit cells (c.sup 2) (layS cells (c.sup 3) n (zeroS cells)).2 (zeroS cells) k hk s2 (fun x hx => by have := csup_cell hf (.inl rfl) hx; omega)
    show (layS cells (c.sup 2) (layS cells (c.sup 3) n (zeroS cells)).2 (zeroS cells)).1.getD (c.sup 2)[k].toNat 0 = _
    rw [this, layS_rest_eq cells _ _ _ w3, ediv_pow2]
  refine Does_enter Tryd.func17 rfl Tryd.ntmps17 rfl ?_
  refine W_seq ?_
  refine W_region ?_
  refine o_boxa S (by conv => lhs; whnf) rfl ?_
  intro g5 w5 S5 X5 G5
  first | refine o_assign (v := .int .i64 _) rfl rfl ?_ | refine o_assign (by conv => lhs; whnf) rfl ?_
  refine WL_nil ?_
  refine W_seq ?_
  refine W_region ?_
  first | refine o_loadN many_27 rfl (S5.cells 0 rfl) rfl rfl ?_
  refine o_calln S5 has_34 rfl rfl (support20_fn c M _ _ (hR.keep (S5.keep0 M)) (fun g hg => by have := hM g hg; have := S5.size; omega)) ?_
  rintro v17 w17 ⟨va, vb, rfl, ra, rb⟩ S17 X17
  obtain ⟨Aa, na, ca, rfl⟩ := ra.form
  obtain ⟨Ab, nb, cb, rfl⟩ := rb.form
  first | refine o_move (v := .tuple _) rfl rfl ?_ | refine o_move (by conv => lhs; whnf) rfl ?_
  refine o_extract rfl rfl rfl ?_
  refine o_extract rfl rfl rfl ?_
  first | refine o_assign (v := .slice _ _ _) rfl rfl ?_ | refine o_assign (by conv => lhs; whnf) rfl ?_
  first | refine o_assign (v := .slice _ _ _) rfl rfl ?_ | refine o_assign (by conv => lhs; whnf) rfl ?_
  refine WL_nil ?_
  refine W_seq ?_
  refine W_region ?_
  first | refine o_assign (v := .int .i64 _) rfl rfl ?_ | refine o_assign (by conv => lhs; whnf) rfl ?_
  refine WL_nil ?_
  refine W_seq ?_
  refine W_region ?_
  first | refine o_assign (v := .int .i64 _) rfl rfl ?_ | refine o_assign (by conv => lhs; whnf) rfl ?_
  refine WL_nil ?_
  refine W_seq ?_
  refine W_seq ?_
  refine W_region ?_
  first | refine o_assign (v := .int .i64 _) rfl rfl ?_ | refine o_assign (by conv => lhs; whnf) rfl ?_
  refine WL_nil ?_
  refine W_block ?_
  refine W_loop (fun μ D ε w => D = [] ∧ ∃ k : Nat, (k + μ = (c.sup 3).length) ∧ (RdI M w (.slice Aa na ca) (c.sup 3)) ∧ (RdI M w (.slice Ab nb cb) (c.sup 2)) ∧ St [] w0 w [] ∧ ε 0 = .slice Ac nc cc ∧ ε 2 = .slice Ao no co ∧ ε 3 = .slice An nn cn ∧ ε 9 = .slice Aa na ca ∧ ε 10 = .slice Ab nb cb ∧ ε 11 = .int .i64 ((n : Int) % pow2 (bitsL cells ((c.sup 3).take k)).toNat) ∧ ε 12 = .int .i64 (pow2 (bitsL cells ((c.sup 3).take k)).toNat) ∧ ε 13 = .int .i64 k) (μ := (c.sup 3).length) ⟨rfl, 0, by omega, ra, rb, S17.nil, rfl, rfl, rfl, rfl, rfl, congrArg (Value.int .i64) (by simp [bitsL, pow2, Int.emod_one]), congrArg (Value.int .i64) (by simp [bitsL, pow2]), rfl⟩ ?_
  rintro μ D ε w ⟨rfl, k, hk, ra, rb, S, e0, e2, e3, e9, e10, e11, e12, e13⟩
  refine W_known 0 e0 ?_
  refine W_known 2 e2 ?_
  refine W_known 3 e3 ?_
  refine W_known 9 e9 ?_
  refine W_known 10 e10 ?_
  refine W_known 11 e11 ?_
  refine W_known 12 e12 ?_
  refine W_known 13 e13 ?_
  clear e0 e2 e3 e9 e10 e11 e12 e13
  obtain ⟨hna, -, -, -, hela⟩ := ra.at
  have bk := bitsL_take_le cells (c.sup 3) k w3
  have pk := pow2_14 (n := (bitsL cells ((c.sup 3).take k)).toNat) (by omega)
  have mk0 := Int.emod_nonneg (n : Int) (show pow2 (bitsL cells ((c.sup 3).take k)).toNat ≠ 0 by omega)
  have mk1 := Int.emod_lt_of_pos (n : Int) (show 0 < pow2 (bitsL cells ((c.sup 3).take k)).toNat by omega)
  refine W_seq ?_
  refine W_seq ?_
  refine W_region ?_
  first | refine o_move (v := .int .i64 _) rfl rfl ?_ | refine o_move (by conv => lhs; whnf) rfl ?_
  first | refine o_move (v := .slice _ _ _) rfl rfl ?_ | refine o_move (by conv => lhs; whnf) rfl ?_
  refine o_len slz_28.slT rfl rfl ?_
  refine o_lss rfl rfl rfl (fun h23 => ?_) (fun h23 => ?_)
  · refine WL_nil ?_
    refine W_then rfl ?_
    refine W_skip ?_
    refine W_seq ?_
    refine W_block ?_
    refine W_seq ?_
    refine W_region ?_
    first | refine o_move (v := .int .i64 _) rfl rfl ?_ | refine o_move (by conv => lhs; whnf) rfl ?_
    first | refine o_move (v := .int .i64 _) rfl rfl ?_ | refine o_move (by conv => lhs; whnf) rfl ?_
    first | refine o_move (v := .slice _ _ _) rfl rfl ?_ | refine o_move (by conv => lhs; whnf) rfl ?_
    first | refine o_move (v := .slice _ _ _) rfl rfl ?_ | refine o_move (by conv => lhs; whnf) rfl ?_
    first | refine o_move (v := .int .i64 _) rfl rfl ?_ | refine o_move (by conv => lhs; whnf) rfl ?_
    have hlt : k < (c.sup 3).length := by omega
    obtain ⟨ba, oa, hA, hbM, hee⟩ := hela (by omega)
    obtain ⟨ck, hck1, hck2, hck3⟩ := hee k (c.sup 3)[k] (List.getElem?_eq_getElem hlt)
    have hce2 : w.cell? ⟨ba, oa + k * 1, none⟩ = some (.int .i64 (c.sup 3)[k]) := hck2 0 _ (by rw [hck3.1]; rfl)
    have hxx := csup_cell hf (.inr rfl) (List.getElem_mem hlt)
    obtain ⟨bo, oo, hAo, hboM, heo⟩ := hos (by omega)
    have hlo : (c.sup 3)[k].toNat < (pairAt cells (c.sup 3) (c.sup 2) n).1.length := by omega
    obtain ⟨ck', -, hco2, hco3⟩ := heo (c.sup 3)[k].toNat _ (List.getElem?_eq_getElem hlo)
    have hdg := dig3 k hlt
    rw [List.getD_eq_getElem?_getD, List.getElem?_eq_getElem hlo, Option.getD_some] at hdg
    have hco : w0.cell? ⟨bo, oo + (c.sup 3)[k].toNat * 1, none⟩ = some (.int .i64 (pairAt cells (c.sup 3) (c.sup 2) n).1[(c.sup 3)[k].toNat]) := hco2 0 _ (by rw [hco3.1]; rfl)
    obtain ⟨bc, oc, hAc, hbc, hce⟩ := hcs (by omega)
    have hcw := cell_w hce (x := (c.sup 3)[k]) (by omega) (by omega)
    have ets := bitsL_take_succ cells (c.sup 3) k hlt
    have bk1 := bitsL_take_le cells (c.sup 3) (k + 1) w3
    have e12 : (bitsL cells ((c.sup 3).take (k + 1))).toNat = (bitsL cells ((c.sup 3).take k)).toNat + (wAt cells (c.sup 3)[k]).toNat := by omega
    have pk1 := pow2_14 (n := (bitsL cells ((c.sup 3).take (k + 1))).toNat) (by omega)
    have hms := mod_step n (bitsL cells ((c.sup 3).take k)).toNat (wAt cells (c.sup 3)[k]).toNat
    rw [← e12] at hms
    have hpm : pow2 (bitsL cells ((c.sup 3).take k)).toNat * pow2 (wAt cells (c.sup 3)[k]).toNat = pow2 (bitsL cells ((c.sup 3).take (k + 1))).toNat := by rw [e12, pow2_add]
    have mm0 := Int.emod_nonneg (n : Int) (show pow2 (bitsL cells ((c.sup 3).take (k + 1))).toNat ≠ 0 by omega)
    have mm1 := Int.emod_lt_of_pos (n : Int) (show 0 < pow2 (bitsL cells ((c.sup 3).take (k + 1))).toNat by omega)
    rw [← hdg] at hms
    refine o_indexAddr slz_28.slT rfl (by first | rfl | assumption) rfl (by omega) (by omega) rfl ?_
    refine o_load one_3 rfl (by first | exact S.old hcw | exact S.old hco | exact hce2) rfl ?_
    refine o_indexAddr slz_28.slT rfl (by first | rfl | assumption) rfl (by omega) (by omega) rfl ?_
    refine o_load one_3 rfl (by first | exact S.old hcw | exact S.old hco | exact hce2) rfl ?_
    refine o_mul rfl rfl (by unfold i64; omega) rfl ?_
    refine o_add rfl rfl (by unfold i64; omega) rfl ?_
    first | refine o_assign (v := .int .i64 _) rfl rfl ?_ | refine o_assign (by conv => lhs; whnf) rfl ?_
    refine WL_nil ?_
    refine W_region ?_
    first | refine o_move (v := .int .i64 _) rfl rfl ?_ | refine o_move (by conv => lhs; whnf) rfl ?_
    first | refine o_move (v := .slice _ _ _) rfl rfl ?_ | refine o_move (by conv => lhs; whnf) rfl ?_
    first | refine o_move (v := .slice _ _ _) rfl rfl ?_ | refine o_move (by conv => lhs; whnf) rfl ?_
    first | refine o_move (v := .int .i64 _) rfl rfl ?_ | refine o_move (by conv => lhs; whnf) rfl ?_
    refine o_indexAddr slz_28.slT rfl (by first | rfl | assumption) rfl (by omega) (by omega) rfl ?_
    refine o_load one_3 rfl (by first | exact S.old hcw | exact S.old hco | exact hce2) rfl ?_
    refine o_indexAddr slz_22.slT rfl (by first | rfl | assumption) rfl (by omega) (by omega) rfl ?_
    refine o_fieldAddr fa_48_1 rfl rfl ?_
    refine o_load one_3 rfl (by first | exact S.old hcw | exact S.old hco | exact hce2) rfl ?_
    refine o_callr S has_35 rfl rfl (power_eq _ _ (by omega) (by omega)) ?_
    intro w46 S46 X46
    replace ra := ra.keep (X46.of_nil)
    replace rb := rb.keep (X46.of_nil)
    refine o_mul rfl rfl (by unfold i64; omega) rfl ?_
    first | refine o_assign (v := .int .i64 _) rfl rfl ?_ | refine o_assign (by conv => lhs; whnf) rfl ?_
    refine WL_nil ?_
    refine W_region ?_
    first | refine o_move (v := .int .i64 _) rfl rfl ?_ | refine o_move (by conv => lhs; whnf) rfl ?_
    refine o_add rfl rfl (by unfold i64; omega) rfl ?_
    first | refine o_assign (v := .int .i64 _) rfl rfl ?_ | refine o_assign (by conv => lhs; whnf) rfl ?_
    refine WL_nil ?_
    refine ⟨μ - 1, by omega, rfl, k + 1, by omega, ra, rb, S46, rfl, rfl, rfl, rfl, rfl, congrArg (Value.int .i64) ?_, congrArg (Value.int .i64) ?_, rfl⟩
    · rw [hdg, e12, mod_step]
    · rw [e12, pow2_add]
  · refine WL_nil ?_
    refine W_else rfl ?_
    refine W_exit ?_
    refine bcons_here ?_
    refine W_seq ?_
    refine W_seq ?_
    refine W_region ?_
    first | refine o_assign (v := .int .i64 _) rfl rfl ?_ | refine o_assign (by conv => lhs; whnf) rfl ?_
    refine WL_nil ?_
    refine W_block ?_
    refine W_loop (fun μ D ε w => D = [] ∧ ∃ j : Nat, (j + μ = (c.sup 2).length) ∧ (RdI M w (.slice Ab nb cb) (c.sup 2)) ∧ St [] w0 w [] ∧ ε 0 = .slice Ac nc cc ∧ ε 3 = .slice An nn cn ∧ ε 10 = .slice Ab nb cb ∧ ε 11 = .int .i64 ((n : Int) % pow2 ((bitsL cells (c.sup 3)).toNat + (bitsL cells ((c.sup 2).take j)).toNat)) ∧ ε 12 = .int .i64 (pow2 ((bitsL cells (c.sup 3)).toNat + (bitsL cells ((c.sup 2).take j)).toNat)) ∧ ε 14 = .int .i64 j) (μ := (c.sup 2).length) ⟨rfl, 0, by omega, rb, S, rfl, rfl, rfl, congrArg (Value.int .i64) (by rw [List.take_of_length_le (show (c.sup 3).length ≤ k by omega)]; simp [bitsL]), congrArg (Value.int .i64) (by rw [List.take_of_length_le (show (c.sup 3).length ≤ k by omega)]; simp [bitsL]), rfl⟩ ?_
    rintro μ D ε w ⟨rfl, j, hj, rb, S, e0, e3, e10, e11, e12, e14⟩
    refine W_known 0 e0 ?_
    refine W_known 3 e3 ?_
    refine W_known 10 e10 ?_
    refine W_known 11 e11 ?_
    refine W_known 12 e12 ?_
    refine W_known 14 e14 ?_
    clear e0 e3 e10 e11 e12 e14
    obtain ⟨hnb, -, -, -, helb⟩ := rb.at
    have bk := bitsL_take_le cells (c.sup 2) j w2
    have pk := pow2_14 (n := (bitsL cells (c.sup 3)).toNat + (bitsL cells ((c.sup 2).take j)).toNat) (by omega)
    have mk0 := Int.emod_nonneg (n : Int) (show pow2 ((bitsL cells (c.sup 3)).toNat + (bitsL cells ((c.sup 2).take j)).toNat) ≠ 0 by omega)
    have mk1 := Int.emod_lt_of_pos (n : Int) (show 0 < pow2 ((bitsL cells (c.sup 3)).toNat + (bitsL cells ((c.sup 2).take j)).toNat) by omega)
    refine W_seq ?_
    refine W_seq ?_
    refine W_region ?_
    first | refine o_move (v := .int .i64 _) rfl rfl ?_ | refine o_move (by conv => lhs; whnf) rfl ?_
    first | refine o_move (v := .slice _ _ _) rfl rfl ?_ | refine o_move (by conv => lhs; whnf) rfl ?_
    refine o_len slz_28.slT rfl rfl ?_
    refine o_lss rfl rfl rfl (fun h51 => ?_) (fun h51 => ?_)
    · refine WL_nil ?_
      refine W_then rfl ?_
      refine W_skip ?_
      refine W_seq ?_
      refine W_block ?_
      refine W_seq ?_
      refine W_region ?_
      first | refine o_move (v := .int .i64 _) rfl rfl ?_ | refine o_move (by conv => lhs; whnf) rfl ?_
      first | refine o_move (v := .int .i64 _) rfl rfl ?_ | refine o_move (by conv => lhs; whnf) rfl ?_
      first | refine o_move (v := .slice _ _ _) rfl rfl ?_ | refine o_move (by conv => lhs; whnf) rfl ?_
      first | refine o_move (v := .slice _ _ _) rfl rfl ?_ | refine o_move (by conv => lhs; whnf) rfl ?_
      first | refine o_move (v := .int .i64 _) rfl rfl ?_ | refine o_move (by conv => lhs; whnf) rfl ?_
      have hlt : j < (c.sup 2).length := by omega
      obtain ⟨ba, oa, hA, hbM, hee⟩ := helb (by omega)
      obtain ⟨ck, hck1, hck2, hck3⟩ := hee j (c.sup 2)[j] (List.getElem?_eq_getElem hlt)
      have hce2 : w.cell? ⟨ba, oa + j * 1, none⟩ = some (.int .i64 (c.sup 2)[j]) := hck2 0 _ (by rw [hck3.1]; rfl)
      have hxx := csup_cell hf (.inl rfl) (List.getElem_mem hlt)
      obtain ⟨bo, oo, hAo, hboM, heo⟩ := hns (by omega)
      have hlo : (c.sup 2)[j].toNat < (pairAt cells (c.sup 3) (c.sup 2) n).2.length := by omega
      obtain ⟨ck', -, hco2, hco3⟩ := heo (c.sup 2)[j].toNat _ (List.getElem?_eq_getElem hlo)
      have hdg := dig2 j hlt
      rw [List.getD_eq_getElem?_getD, List.getElem?_eq_getElem hlo, Option.getD_some] at hdg
      have hco : w0.cell? ⟨bo, oo + (c.sup 2)[j].toNat * 1, none⟩ = some (.int .i64 (pairAt cells (c.sup 3) (c.sup 2) n).2[(c.sup 2)[j].toNat]) := hco2 0 _ (by rw [hco3.1]; rfl)
      obtain ⟨bc, oc, hAc, hbc, hce⟩ := hcs (by omega)
      have hcw := cell_w hce (x := (c.sup 2)[j]) (by omega) (by omega)
      have ets := bitsL_take_succ cells (c.sup 2) j hlt
      have bk1 := bitsL_take_le cells (c.sup 2) (j + 1) w2
      have e12 : (bitsL cells ((c.sup 2).take (j + 1))).toNat = (bitsL cells ((c.sup 2).take j)).toNat + (wAt cells (c.sup 2)[j]).toNat := by omega
      have pk1 := pow2_14 (n := (bitsL cells (c.sup 3)).toNat + (bitsL cells ((c.sup 2).take (j + 1))).toNat) (by omega)
      have hms := mod_step n ((bitsL cells (c.sup 3)).toNat + (bitsL cells ((c.sup 2).take j)).toNat) (wAt cells (c.sup 2)[j]).toNat
      rw [Nat.add_assoc, ← e12] at hms
      have hpm : pow2 ((bitsL cells (c.sup 3)).toNat + (bitsL cells ((c.sup 2).take j)).toNat) * pow2 (wAt cells (c.sup 2)[j]).toNat = pow2 ((bitsL cells (c.sup 3)).toNat + (bitsL cells ((c.sup 2).take (j + 1))).toNat) := by rw [e12, ← Nat.add_assoc]; exact (pow2_add _ _).symm
      have mm0 := Int.emod_nonneg (n : Int) (show pow2 ((bitsL cells (c.sup 3)).toNat + (bitsL cells ((c.sup 2).take (j + 1))).toNat) ≠ 0 by omega)
      have mm1 := Int.emod_lt_of_pos (n : Int) (show 0 < pow2 ((bitsL cells (c.sup 3)).toNat + (bitsL cells ((c.sup 2).take (j + 1))).toNat) by omega)
      rw [← hdg] at hms
      refine o_indexAddr slz_28.slT rfl (by first | rfl | assumption) rfl (by omega) (by omega) rfl ?_
      refine o_load one_3 rfl (by first | exact S.old hcw | exact S.old hco | exact hce2) rfl ?_
      refine o_indexAddr slz_28.slT rfl (by first | rfl | assumption) rfl (by omega) (by omega) rfl ?_
      refine o_load one_3 rfl (by first | exact S.old hcw | exact S.old hco | exact hce2) rfl ?_
      refine o_mul rfl rfl (by unfold i64; omega) rfl ?_
      refine o_add rfl rfl (by unfold i64; omega) rfl ?_
      first | refine o_assign (v := .int .i64 _) rfl rfl ?_ | refine o_assign (by conv => lhs; whnf) rfl ?_
      refine WL_nil ?_
      refine W_region ?_
      first | refine o_move (v := .int .i64 _) rfl rfl ?_ | refine o_move (by conv => lhs; whnf) rfl ?_
      first | refine o_move (v := .slice _ _ _) rfl rfl ?_ | refine o_move (by conv => lhs; whnf) rfl ?_
      first | refine o_move (v := .slice _ _ _) rfl rfl ?_ | refine o_move (by conv => lhs; whnf) rfl ?_
      first | refine o_move (v := .int .i64 _) rfl rfl ?_ | refine o_move (by conv => lhs; whnf) rfl ?_
      refine o_indexAddr slz_28.slT rfl (by first | rfl | assumption) rfl (by omega) (by omega) rfl ?_
      refine o_load one_3 rfl (by first | exact S.old hcw | exact S.old hco | exact hce2) rfl ?_
      refine o_indexAddr slz_22.slT rfl (by first | rfl | assumption) rfl (by omega) (by omega) rfl ?_
      refine o_fieldAddr fa_48_1 rfl rfl ?_
      refine o_load one_3 rfl (by first | exact S.old hcw | exact S.old hco | exact hce2) rfl ?_
      refine o_callr S has_35 rfl rfl (power_eq _ _ (by omega) (by omega)) ?_
      intro w74 S74 X74
      replace rb := rb.keep (X74.of_nil)
      refine o_mul rfl rfl (by unfold i64; omega) rfl ?_
      first | refine o_assign (v := .int .i64 _) rfl rfl ?_ | refine o_assign (by conv => lhs; whnf) rfl ?_
      refine WL_nil ?_
      refine W_region ?_
      first | refine o_move (v := .int .i64 _) rfl rfl ?_ | refine o_move (by conv => lhs; whnf) rfl ?_
      refine o_add rfl rfl (by unfold i64; omega) rfl ?_
      first | refine o_assign (v := .int .i64 _) rfl rfl ?_ | refine o_assign (by conv => lhs; whnf) rfl ?_
      refine WL_nil ?_
      refine ⟨μ - 1, by omega, rfl, j + 1, by omega, rb, S74, rfl, rfl, rfl, congrArg (Value.int .i64) ?_, congrArg (Value.int .i64) ?_, rfl⟩
      · rw [hdg, e12, ← Nat.add_assoc, mod_step]
      · rw [e12, ← Nat.add_assoc]; exact (pow2_add _ _).symm
    · refine WL_nil ?_
      refine W_else rfl ?_
      refine W_exit ?_
      refine bcons_here ?_
      refine W_seq ?_
      refine W_region ?_
      first | refine o_move (v := .int .i64 _) rfl rfl ?_ | refine o_move (by conv => lhs; whnf) rfl ?_
      first | refine o_assign (v := .int .i64 _) rfl rfl ?_ | refine o_assign (by conv => lhs; whnf) rfl ?_
      refine WL_nil ?_
      refine W_ret ?_
      refine ret_1 rfl (by conv => lhs; whnf) ?_
      refine ⟨congrArg (Value.int .i64) ?_, S.fin⟩
      rw [List.take_of_length_le (show (c.sup 2).length ≤ j by omega)]
      refine Int.emod_eq_of_lt (by omega) ?_
      rw [pow2_eq, show (bitsL cells (c.sup 3)).toNat + (bitsL cells (c.sup 2)).toNat = (c.bits cells).toNat by omega]
      omega
end Go.Proofs.YtinhchacppkmgaaDoor
