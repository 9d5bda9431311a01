/-
  The contract of the law's 'other'.
-/
import Derived.Test.YtinhchacppkmgaaDoorNo2
import Derived.Test.YtinhchacppkmgaaDoorNo0
namespace Go.Fw
open Go.RowKit
theorem RdI.moved {M G G' : List Nat} {w w1 : World} {v : Value} {l : List Int} (h : RdI (G ++ M) w v l) (hk : Keep G w w1) (hf : ∀ g ∈ G', g ∈ G ∨ w.heap.size ≤ g) : RdI (G' ++ M) w1 v l := by
  have h5 : RdI (G ++ (G' ++ M)) w v l := RdS.more h (by omega) (fun g hg => by
    rcases List.mem_append.1 hg with hg | hg
    · exact .inl (List.mem_append_left _ hg)
    · rcases List.mem_append.1 hg with hg | hg
      · rcases hf g hg with h | h
        · exact .inl (List.mem_append_left _ h)
        · exact .inr h
      · exact .inl (List.mem_append_right _ hg))
  exact RdS.more (RdS.keep h5 (hk.mono (fun g hg => List.mem_append_left _ hg))) (by omega) (fun g hg => .inl (List.mem_append_right _ hg))

theorem andAll_op (l : List E) (h : ∀ e ∈ l, e.op ≠ 4) : (andAll l).op ≠ 4 := by
  cases l with
  | nil => decide
  | cons e es =>
    have key : ∀ (es : List E) (acc : E), acc.op ≠ 4 → (es.foldl andE acc).op ≠ 4 := by
      intro es
      induction es with
      | nil => intro acc h; exact h
      | cons x xs ih => intro acc _; exact ih (andE acc x) (by decide : (5 : Int) ≠ 4)
    exact key es e (h e (by simp))

theorem eqs_take (cells : List CellD) (op : Int) (l s : List Int) (k : Nat) (hk : k < l.length) : (eqsE cells op l s).take (k + 1) = (eqsE cells op l s).take k ++ [eqE op l[k] (wAt cells l[k]) (s.getD l[k].toNat 0)] := by
  unfold eqsE
  rw [List.take_add_one, List.getElem?_map, List.getElem?_eq_getElem hk]; rfl
theorem eqs_len (cells : List CellD) (op : Int) (l s : List Int) : (eqsE cells op l s).length = l.length := by simp [eqsE]
theorem len_bits {cells : List CellD} {l : List Int} (h : ∀ x ∈ l, 1 ≤ wAt cells x) : (l.length : Int) ≤ bitsL cells l := by
  induction l with
  | nil => simp [bitsL]
  | cons y ys ih => simp only [bitsL, List.length_cons]; have := h y (by simp); have := ih (fun x hx => h x (by simp [hx])); omega

/-- The digits of a pair are in range. -/
theorem pair_range {cells : List CellD} {c : CondD} (hf : c.formed cells = true) (n : Int) : (∀ x ∈ c.sup 3, 0 ≤ (pairAt cells (c.sup 3) (c.sup 2) n).1.getD x.toNat 0 ∧ (pairAt cells (c.sup 3) (c.sup 2) n).1.getD x.toNat 0 < pow2 (wAt cells x).toNat) ∧
    (∀ x ∈ c.sup 2, 0 ≤ (pairAt cells (c.sup 3) (c.sup 2) n).2.getD x.toNat 0 ∧ (pairAt cells (c.sup 3) (c.sup 2) n).2.getD x.toNat 0 < pow2 (wAt cells x).toNat) := by
  have hz : (zeroS cells).length = cells.length := by simp [zeroS]
  have key : ∀ (l : List Int) (r : Int), l.Pairwise (· < ·) → (∀ x ∈ l, 0 ≤ x ∧ x < (zeroS cells).length ∧ 1 ≤ wAt cells x) → ∀ x ∈ l, 0 ≤ (layS cells l r (zeroS cells)).1.getD x.toNat 0 ∧ (layS cells l r (zeroS cells)).1.getD x.toNat 0 < pow2 (wAt cells x).toNat := by
    intro l r hp hl x hx
    obtain ⟨k, hk, rfl⟩ := List.getElem_of_mem hx
    rw [layS_digit cells l r _ k hk hp hl]
    have := pow2_pos (wAt cells l[k]).toNat
    exact ⟨Int.emod_nonneg _ (by omega), Int.emod_lt_of_pos _ (by omega)⟩
  exact ⟨key _ _ (csup_sorted c 3) (fun x hx => by have := csup_cell hf (.inr rfl) hx; omega), key _ _ (csup_sorted c 2) (fun x hx => by have := csup_cell hf (.inl rfl) hx; omega)⟩

/-- The equations of a pair are in order. -/
theorem eqs_all {cells : List CellD} {c : CondD} (hf : c.formed cells = true) (n : Int) : ∀ e ∈ eqsE cells 3 (c.sup 3) (pairAt cells (c.sup 3) (c.sup 2) n).1 ++ eqsE cells 2 (c.sup 2) (pairAt cells (c.sup 3) (c.sup 2) n).2, e.good 2 = true ∧ e.w = 1 ∧ e.op = 11 ∧ e.cnt = 3 := by
  obtain ⟨r3, r2⟩ := pair_range hf n
  intro e he
  rcases List.mem_append.1 he with he | he
  · obtain ⟨x, hx, rfl⟩ := List.mem_map.1 he
    have hc := csup_cell hf (.inr rfl) hx
    exact ⟨eqE_good (.inr rfl) (by omega) (by omega) (r3 x hx), rfl, rfl, eqE_cnt _ _ _ _⟩
  · obtain ⟨x, hx, rfl⟩ := List.mem_map.1 he
    have hc := csup_cell hf (.inl rfl) hx
    exact ⟨eqE_good (.inl rfl) (by omega) (by omega) (r2 x hx), rfl, rfl, eqE_cnt _ _ _ _⟩
theorem sup_len_le {cells : List CellD} {c : CondD} (hf : c.formed cells = true) (hb : c.bits cells ≤ 14) : (c.sup 3).length + (c.sup 2).length ≤ 14 := by
  have h3 := len_bits (cells := cells) (l := c.sup 3) (fun x hx => by have := csup_cell hf (.inr rfl) hx; omega)
  have h2 := len_bits (cells := cells) (l := c.sup 2) (fun x hx => by have := csup_cell hf (.inl rfl) hx; omega)
  have : c.bits cells = bitsL cells (c.sup 3) + bitsL cells (c.sup 2) := rfl
  omega
end Go.Fw
namespace Go.Proofs.YtinhchacppkmgaaDoor
open Go.Fw Go.RowKit

set_option maxHeartbeats 1000000 in
theorem other_fn (c : CondD) (cells : List CellD) (n : Nat) (M : List Nat) (w0 : World) (cs0 : List Value) (vc vo vn : Value) (hR : RdCond M w0 c cs0) (hC : RdCs M w0 vc cells) (hM : ∀ g ∈ M, g < w0.heap.size) (hf : c.formed cells = true) (hb : c.bits cells ≤ 14)
    (hO : RdI M w0 vo (pairAt cells (c.sup 3) (c.sup 2) n).1) (hN : RdI M w0 vn (pairAt cells (c.sup 3) (c.sup 2) n).2) :
    Does Tryd.prog 19 #[vc, .agg cs0.toArray, vo, vn] w0 fun v w' => (∃ cs : List Value, v = .agg cs.toArray ∧ RdE M w' (otherE cells c (pairAt cells (c.sup 3) (c.sup 2) n)) cs) ∧ Below w0.heap.size w0 w' := by
  obtain ⟨Ac, nc, cc, rfl⟩ := hC.form
  obtain ⟨hnc, hcc, hcm, hcbig, hcs⟩ := hC.at
  obtain ⟨Ao, no, co, rfl⟩ := hO.form
  obtain ⟨hno, -, -, -, hos⟩ := hO.at
  obtain ⟨An, nn, cn, rfl⟩ := hN.form
  obtain ⟨hnn, -, -, -, hns⟩ := hN.at
  have pl := pair_len cells c n
  have hR0 := hR
  obtain ⟨ch, cg, rfl, hh, hg⟩ := hR0
  obtain ⟨A, k0, q, rfl, -⟩ := hh.open_
  obtain ⟨A', k1, q', rfl, -⟩ := hg.open_
  have S := St.refl w0
  simp only [List.cons_append, List.nil_append] at hR ⊢
  have hsl := sup_len_le hf hb
  have hall := eqs_all hf (n : Int)
  have p3 := pair_range hf (n : Int)
  obtain ⟨P, hP⟩ : ∃ P, P = pairAt cells (c.sup 3) (c.sup 2) n := ⟨_, rfl⟩
  rw [← hP] at hos hns hno hnn pl hall p3 ⊢
  refine Does_enter Tryd.func19 rfl Tryd.ntmps19 rfl ?_
  refine W_seq ?_
  refine W_region ?_
  refine o_boxa S (by conv => lhs; whnf) rfl ?_
  intro g5 w5 S5 X5 G5
  refine o_alloc S5 zv_25 rfl rfl ?_
  intro g8 w8 S8 X8 G8
  refine WL_nil ?_
  refine W_seq ?_
  refine W_region ?_
  first | refine o_loadN many_27 rfl (S8.cells 0 rfl) rfl rfl ?_ | refine o_loadN many_27 rfl (S8.cells 1 rfl) rfl rfl ?_
  refine o_calln S8 has_34 rfl rfl (support20_fn c M _ _ (hR.keep (S8.keep0 M)) (fun g hg => by have := hM g hg; have := S8.size; omega)) ?_
  rintro v18 w18 ⟨va, vb, rfl, ra, rb⟩ S18 X18
  obtain ⟨Aa, na, ca, rfl⟩ := ra.form
  obtain ⟨Ab, nb, cb, rfl⟩ := rb.form
  first | refine o_move (v := .tuple _) rfl rfl ?_ | refine o_move (by conv => lhs; whnf) rfl ?_
  refine o_extract rfl rfl rfl ?_
  refine o_extract rfl rfl rfl ?_
  first | refine o_assign (v := .slice _ _ _) rfl rfl ?_ | refine o_assign (by conv => lhs; whnf) rfl ?_
  first | refine o_assign (v := .slice _ _ _) rfl rfl ?_ | refine o_assign (by conv => lhs; whnf) rfl ?_
  refine WL_nil ?_
  refine W_seq ?_
  refine W_region ?_
  refine o_build0 S18 slz_23 rfl ?_
  intro g21 w21 S21 X21 G21
  have hm21 : ∀ g ∈ (some g21).toList ++ M, g ∈ M ∨ w18.heap.size ≤ g := fun g hg => by
    rcases List.mem_append.1 hg with hg | hg
    · simp at hg; subst hg; exact .inr G21
    · exact .inl hg
  replace ra := (ra.more (by omega) hm21).keep X21.of_nil
  replace rb := (rb.more (by omega) hm21).keep X21.of_nil
  first | refine o_assign (v := .slice _ _ _) rfl rfl ?_ | refine o_assign (by conv => lhs; whnf) rfl ?_
  refine WL_nil ?_
  refine W_seq ?_
  refine W_seq ?_
  refine W_region ?_
  first | refine o_assign (v := .int .i64 _) rfl rfl ?_ | refine o_assign (by conv => lhs; whnf) rfl ?_
  refine WL_nil ?_
  refine W_block ?_
  refine W_loop (fun μ D ε w => D = [] ∧ ∃ k : Nat, ∃ G : Option Nat, ∃ cs : List Value, ∃ v : Value, (k + μ = (c.sup 3).length) ∧ (RdI (G.toList ++ M) w (.slice Aa na ca) (c.sup 3)) ∧ (RdI (G.toList ++ M) w (.slice Ab nb cb) (c.sup 2)) ∧ (RowE (g8 :: M) w G cs v ((eqsE cells 3 (c.sup 3) P.1).take k)) ∧ St [] w0 w [(G, 25, cs), (some g8, 25, [.int .i64 0, .int .i64 0, .int .i64 0, .slice none 0 0]), (some g5, 27, [.string c.id, .int .i64 c.kind, .int .i64 c.module_, .int .i64 c.thread, .int .i64 c.item, .int .i64 c.other, .int .i64 c.hyp.op, .int .i64 c.hyp.w, .int .i64 c.hyp.n, .slice A k0 q, .int .i64 c.goal.op, .int .i64 c.goal.w, .int .i64 c.goal.n, .slice A' k1 q'])] ∧ ε 0 = .slice Ac nc cc ∧ ε 2 = .slice Ao no co ∧ ε 3 = .slice An nn cn ∧ ε 8 = .pointer (some ⟨g8, 0, none⟩) ∧ ε 9 = .slice Aa na ca ∧ ε 10 = .slice Ab nb cb ∧ ε 11 = v ∧ ε 12 = .int .i64 k) (μ := (c.sup 3).length) ⟨rfl, 0, some g21, [], _, by omega, ra, rb, RowE.new, S21, rfl, rfl, rfl, rfl, rfl, rfl, rfl, rfl⟩ ?_
  rintro μ D ε w ⟨rfl, k, G, cs, v, hk, ra, rb, hrow, S, e0, e2, e3, e8, e9, e10, e11, e12⟩
  refine W_known 0 e0 ?_
  refine W_known 2 e2 ?_
  refine W_known 3 e3 ?_
  refine W_known 8 e8 ?_
  refine W_known 9 e9 ?_
  refine W_known 10 e10 ?_
  refine W_known 11 e11 ?_
  refine W_known 12 e12 ?_
  clear e0 e2 e3 e8 e9 e10 e11 e12
  obtain ⟨hna, -, -, -, hela⟩ := ra.at
  have hGl : ∀ g ∈ G.toList ++ (g8 :: M), g < w.heap.size := by
    intro g hg
    rcases List.mem_append.1 hg with hg | hg
    · exact (S.own (G, 25, cs) (by simp) g (by cases G <;> simp at hg ⊢; exact hg.symm)).2.lt
    · rcases List.mem_cons.1 hg with rfl | hg
      · exact S.lt 1 rfl
      · have := hM g hg; have := S.size; omega
  refine W_seq ?_
  refine W_seq ?_
  refine W_region ?_
  first | refine o_move (v := .int .i64 _) rfl rfl ?_ | refine o_move (by conv => lhs; whnf) rfl ?_
  first | refine o_move (v := .slice _ _ _) rfl rfl ?_ | refine o_move (by conv => lhs; whnf) rfl ?_
  refine o_len slz_28.slT rfl rfl ?_
  refine o_lss rfl rfl rfl (fun h25 => ?_) (fun h25 => ?_)
  · refine WL_nil ?_
    refine W_then rfl ?_
    refine W_skip ?_
    refine W_seq ?_
    refine W_block ?_
    refine W_seq ?_
    refine W_region ?_
    first | refine o_move (v := .slice _ _ _) rfl rfl ?_ | refine o_move (by conv => lhs; whnf) rfl ?_
    first | refine o_move (v := .slice _ _ _) rfl rfl ?_ | refine o_move (by conv => lhs; whnf) rfl ?_
    first | refine o_move (v := .int .i64 _) rfl rfl ?_ | refine o_move (by conv => lhs; whnf) rfl ?_
    have hlt : k < (c.sup 3).length := by omega
    obtain ⟨ba, oa, hA, hbM, hee⟩ := hela (by omega)
    obtain ⟨ck, hck1, hck2, hck3⟩ := hee k (c.sup 3)[k] (List.getElem?_eq_getElem hlt)
    have hce2 : w.cell? ⟨ba, oa + k * 1, none⟩ = some (.int .i64 (c.sup 3)[k]) := hck2 0 _ (by rw [hck3.1]; rfl)
    have hbG : ba ∉ G.toList := fun h => hbM (List.mem_append_left _ h)
    have hxx := csup_cell hf (.inr rfl) (List.getElem_mem hlt)
    obtain ⟨bo, oo, hAo, hboM, heo⟩ := hos (by omega)
    have hlo : (c.sup 3)[k].toNat < P.1.length := by omega
    obtain ⟨ck', -, hco2, hco3⟩ := heo (c.sup 3)[k].toNat _ (List.getElem?_eq_getElem hlo)
    have hco : w0.cell? ⟨bo, oo + (c.sup 3)[k].toNat * 1, none⟩ = some (.int .i64 P.1[(c.sup 3)[k].toNat]) := hco2 0 _ (by rw [hco3.1]; rfl)
    have hdg : P.1[(c.sup 3)[k].toNat] = P.1.getD (c.sup 3)[k].toNat 0 := by rw [List.getD_eq_getElem?_getD, List.getElem?_eq_getElem hlo]; rfl
    rw [hdg] at hco
    have hvr := p3.1 _ (List.getElem_mem hlt)
    have hp8 := pow2_le (wAt cells (c.sup 3)[k]).toNat 8 (by omega)
    have hp88 : pow2 8 = 256 := by decide
    obtain ⟨bc, oc, hAc, hbc, hce⟩ := hcs (by omega)
    have hcw := cell_w hce (x := (c.sup 3)[k]) (by omega) (by omega)
    refine o_indexAddr slz_28.slT rfl (by first | rfl | assumption) rfl (by omega) (by omega) rfl ?_
    refine o_load one_3 rfl (by first | exact S.cell 0 rfl rfl | exact S.cell 1 rfl rfl | exact S.cell 2 rfl rfl | exact S.old hcw | exact S.old hco | exact hce2) rfl ?_
    refine o_indexAddr slz_22.slT rfl (by first | rfl | assumption) rfl (by omega) (by omega) rfl ?_
    refine o_fieldAddr fa_48_1 rfl rfl ?_
    refine o_load one_3 rfl (by first | exact S.cell 0 rfl rfl | exact S.cell 1 rfl rfl | exact S.cell 2 rfl rfl | exact S.old hcw | exact S.old hco | exact hce2) rfl ?_
    first | refine o_assign (v := .int .i64 _) rfl rfl ?_ | refine o_assign (by conv => lhs; whnf) rfl ?_
    refine WL_nil ?_
    refine W_mixD follows_mixed (fun i => [0, 1, 2, 3, 4, 5, 7, 8, 9, 10, 11, 12, 13, 14, 19].contains i) [0, 1, 2, 3, 4, 5, 6, 7, 8, 9, 10, 11, 12, 13, 14, 15, 16, 17, 18, 19] (by kernel_rfl) (by kernel_rfl) (fun w1 => St [] w0 w1 [] ∧ Keep G.toList w w1) ?_
    have SR7 := S.drew
    have YR7 : Keep [] w w.drew := keep_drew _ _
    generalize w.drew = wR7 at SR7 YR7 ⊢
    have XR7 : Keep (G.toList) _ _ := YR7.of_nil
    replace ra := ra.keep YR7.of_nil
    replace rb := rb.keep YR7.of_nil
    replace hrow := hrow.keep YR7.of_nil
    refine WM_q ⟨SR7.nil, XR7⟩ rfl rfl rfl ?_
    first | refine q_move (v := .slice _ _ _) rfl rfl ?_ | refine q_move (by conv => lhs; whnf) rfl ?_
    refine QL_nil ?_
    refine WM_q ⟨SR7.nil, XR7⟩ rfl rfl rfl ?_
    first | refine q_move (v := .slice _ _ _) rfl rfl ?_ | refine q_move (by conv => lhs; whnf) rfl ?_
    refine QL_nil ?_
    refine WM_q ⟨SR7.nil, XR7⟩ rfl rfl rfl ?_
    first | refine q_move (v := .int .i64 _) rfl rfl ?_ | refine q_move (by conv => lhs; whnf) rfl ?_
    refine QL_nil ?_
    refine WM_q ⟨SR7.nil, XR7⟩ rfl rfl rfl ?_
    refine q_indexAddr slz_28.slT rfl (by first | rfl | assumption) rfl (by omega) (by omega) rfl ?_
    refine QL_nil ?_
    refine WM_q ⟨SR7.nil, XR7⟩ rfl rfl rfl ?_
    refine q_load one_3 rfl (fun w1 hw => by first | exact hw.1.cell 0 rfl rfl | exact hw.1.cell 1 rfl rfl | exact hw.1.cell 2 rfl rfl | exact hw.1.old hcw | exact hw.1.old hco | exact hw.2.cell (List.not_mem_nil) hce2 | exact hw.2.cell hbG hce2) rfl ?_
    refine QL_nil ?_
    refine WM_q ⟨SR7.nil, XR7⟩ rfl rfl rfl ?_
    first | refine q_move (v := .int .i64 _) rfl rfl ?_ | refine q_move (by conv => lhs; whnf) rfl ?_
    refine QL_nil ?_
    refine WM_o ⟨SR7.nil, XR7⟩ rfl rfl rfl rfl ?_
    refine o_calln SR7 has_22 rfl rfl (old_fn (c.sup 3)[k] (wAt cells (c.sup 3)[k]) (by unfold i64; omega) (by unfold i64; omega) [] _) ?_
    rintro v42 w42 ⟨c42, rfl, r42⟩ S42 X42
    have XCw42 := XR7.trans (X42.mono (by simp))
    replace ra := ra.keep (X42.of_nil)
    replace rb := rb.keep (X42.of_nil)
    replace hrow := hrow.keep (X42.of_nil)
    refine WL_nil ⟨rfl, ?_⟩
    refine WM_q ⟨S42.nil, XCw42⟩ rfl rfl rfl ?_
    first | refine q_move (v := .slice _ _ _) rfl rfl ?_ | refine q_move (by conv => lhs; whnf) rfl ?_
    refine QL_nil ?_
    refine WM_q ⟨S42.nil, XCw42⟩ rfl rfl rfl ?_
    first | refine q_move (v := .slice _ _ _) rfl rfl ?_ | refine q_move (by conv => lhs; whnf) rfl ?_
    refine QL_nil ?_
    refine WM_q ⟨S42.nil, XCw42⟩ rfl rfl rfl ?_
    first | refine q_move (v := .int .i64 _) rfl rfl ?_ | refine q_move (by conv => lhs; whnf) rfl ?_
    refine QL_nil ?_
    refine WM_q ⟨S42.nil, XCw42⟩ rfl rfl rfl ?_
    refine q_indexAddr slz_28.slT rfl (by first | rfl | assumption) rfl (by omega) (by omega) rfl ?_
    refine QL_nil ?_
    refine WM_q ⟨S42.nil, XCw42⟩ rfl rfl rfl ?_
    refine q_load one_3 rfl (fun w1 hw => by first | exact hw.1.cell 0 rfl rfl | exact hw.1.cell 1 rfl rfl | exact hw.1.cell 2 rfl rfl | exact hw.1.old hcw | exact hw.1.old hco | exact hw.2.cell (List.not_mem_nil) hce2 | exact hw.2.cell hbG hce2) rfl ?_
    refine QL_nil ?_
    refine WM_q ⟨S42.nil, XCw42⟩ rfl rfl rfl ?_
    refine q_indexAddr slz_28.slT rfl (by first | rfl | assumption) rfl (by omega) (by omega) rfl ?_
    refine QL_nil ?_
    refine WM_q ⟨S42.nil, XCw42⟩ rfl rfl rfl ?_
    refine q_load one_3 rfl (fun w1 hw => by first | exact hw.1.cell 0 rfl rfl | exact hw.1.cell 1 rfl rfl | exact hw.1.cell 2 rfl rfl | exact hw.1.old hcw | exact hw.1.old hco | exact hw.2.cell (List.not_mem_nil) hce2 | exact hw.2.cell hbG hce2) rfl ?_
    refine QL_nil ?_
    refine WM_q ⟨S42.nil, XCw42⟩ rfl rfl rfl ?_
    first | refine q_move (v := .int .i64 _) rfl rfl ?_ | refine q_move (by conv => lhs; whnf) rfl ?_
    refine QL_nil ?_
    refine WM_o ⟨S42.nil, XCw42⟩ rfl rfl rfl rfl ?_
    refine o_calln S42 has_16 rfl rfl (const_fn (P.1.getD (c.sup 3)[k].toNat 0) (wAt cells (c.sup 3)[k]) (by unfold i64; omega) (by unfold i64; omega) [] _) ?_
    rintro v51 w51 ⟨c51, rfl, r51⟩ S51 X51
    have XCw51 := XCw42.trans (X51.mono (by simp))
    replace ra := ra.keep (X51.of_nil)
    replace rb := rb.keep (X51.of_nil)
    replace hrow := hrow.keep (X51.of_nil)
    refine WL_nil ⟨rfl, ?_⟩
    refine WM_o ⟨S51.nil, XCw51⟩ rfl rfl rfl rfl ?_
    refine o_calln S51 has_12 rfl rfl (two_fn 11 1 (by decide) (by decide) ⟨3, wAt cells (c.sup 3)[k], (c.sup 3)[k], []⟩ ⟨1, wAt cells (c.sup 3)[k], P.1.getD (c.sup 3)[k].toNat 0, []⟩ _ _ (G.toList ++ (g8 :: M)) _ (fun g hg => by have := hGl g hg; have := XCw51.size; omega) (rdE_any r42) (rdE_any r51)) ?_
    rintro v52 w52 ⟨c52, rfl, r52⟩ S52 X52
    have XCw52 := XCw51.trans (X52.mono (by simp))
    replace ra := ra.keep (X52.of_nil)
    replace rb := rb.keep (X52.of_nil)
    replace hrow := hrow.keep (X52.of_nil)
    obtain ⟨A52, n52, q52, rfl, -⟩ := r52.open_
    refine WL_nil ⟨rfl, ?_⟩
    refine WM_o ⟨S52.nil, XCw52⟩ rfl rfl rfl rfl ?_
    refine o_buildSlice S52 slz_23 (vs := [.agg _]) (cs := [_, _, _, _]) (by rfl) rfl rfl rfl rfl rfl rfl ?_
    intro g53 w53 S53 X53 G53
    have XCw53 := XCw52.trans (X53.mono (by simp))
    replace r52 := RdE.keep (X53.of_nil) _ _ r52
    replace ra := ra.keep (X53.of_nil)
    replace rb := rb.keep (X53.of_nil)
    replace hrow := hrow.keep (X53.of_nil)
    refine WL_nil ⟨rfl, ?_⟩
    refine WM_o ⟨S53.nil, XCw53⟩ rfl rfl rfl rfl ?_
    refine o_appendE (M2 := g8 :: M) (k := 1) S53 slz_23 (by decide) rfl hrow rfl rfl (S53.cells 0 rfl) r52 (by rw [List.length_take, eqs_len]; omega) rfl ?_
    intro v54 G54 cs54 w54 S54' hrow54 X54 F54
    have S54 := S54'.tail
    have XC54 := XCw53.trans X54
    replace ra := RdI.moved ra X54 F54
    replace rb := RdI.moved rb X54 F54
    refine WL_nil ⟨rfl, ?_⟩
    refine WM_q ⟨S54.nil, XC54⟩ rfl rfl rfl ?_
    first | refine q_assign (v := .slice _ _ _) rfl rfl ?_ | refine q_assign (by conv => lhs; whnf) rfl ?_
    refine QL_nil ?_
    refine WM_nil ⟨S54.nil, XC54⟩ ?_
    refine W_region ?_
    first | refine o_move (v := .int .i64 _) rfl rfl ?_ | refine o_move (by conv => lhs; whnf) rfl ?_
    refine o_add rfl rfl (by unfold i64; omega) rfl ?_
    first | refine o_assign (v := .int .i64 _) rfl rfl ?_ | refine o_assign (by conv => lhs; whnf) rfl ?_
    refine WL_nil ?_
    exact ⟨μ - 1, by omega, rfl, k + 1, G54, cs54, v54, by omega, ra, rb, by rw [eqs_take cells 3 (c.sup 3) P.1 k hlt]; exact hrow54, S54, rfl, rfl, rfl, rfl, rfl, rfl, rfl, rfl⟩
  · refine WL_nil ?_
    refine W_else rfl ?_
    refine W_exit ?_
    refine bcons_here ?_
    refine W_seq ?_
    refine W_seq ?_
    refine W_region ?_
    first | refine o_assign (v := .int .i64 _) rfl rfl ?_ | refine o_assign (by conv => lhs; whnf) rfl ?_
    refine WL_nil ?_
    refine W_block ?_
    refine W_loop (fun μ D ε w => D = [] ∧ ∃ j : Nat, ∃ G : Option Nat, ∃ cs : List Value, ∃ v : Value, (j + μ = (c.sup 2).length) ∧ (RdI (G.toList ++ M) w (.slice Aa na ca) (c.sup 3)) ∧ (RdI (G.toList ++ M) w (.slice Ab nb cb) (c.sup 2)) ∧ (RowE (g8 :: M) w G cs v (eqsE cells 3 (c.sup 3) P.1 ++ (eqsE cells 2 (c.sup 2) P.2).take j)) ∧ St [] w0 w [(G, 25, cs), (some g8, 25, [.int .i64 0, .int .i64 0, .int .i64 0, .slice none 0 0]), (some g5, 27, [.string c.id, .int .i64 c.kind, .int .i64 c.module_, .int .i64 c.thread, .int .i64 c.item, .int .i64 c.other, .int .i64 c.hyp.op, .int .i64 c.hyp.w, .int .i64 c.hyp.n, .slice A k0 q, .int .i64 c.goal.op, .int .i64 c.goal.w, .int .i64 c.goal.n, .slice A' k1 q'])] ∧ ε 0 = .slice Ac nc cc ∧ ε 3 = .slice An nn cn ∧ ε 8 = .pointer (some ⟨g8, 0, none⟩) ∧ ε 10 = .slice Ab nb cb ∧ ε 11 = v ∧ ε 14 = .int .i64 j) (μ := (c.sup 2).length) ⟨rfl, 0, G, cs, v, by omega, ra, rb, by rw [List.take_of_length_le (show (eqsE cells 3 (c.sup 3) P.1).length ≤ k by rw [eqs_len]; omega)] at hrow; simpa using hrow, S, rfl, rfl, rfl, rfl, rfl, rfl⟩ ?_
    rintro μ D ε w ⟨rfl, j, G, cs, v, hj, ra, rb, hrow, S, e0, e3, e8, e10, e11, e14⟩
    refine W_known 0 e0 ?_
    refine W_known 3 e3 ?_
    refine W_known 8 e8 ?_
    refine W_known 10 e10 ?_
    refine W_known 11 e11 ?_
    refine W_known 14 e14 ?_
    clear e0 e3 e8 e10 e11 e14
    obtain ⟨hnb, -, -, -, helb⟩ := rb.at
    have hGl : ∀ g ∈ G.toList ++ (g8 :: M), g < w.heap.size := by
      intro g hg
      rcases List.mem_append.1 hg with hg | hg
      · exact (S.own (G, 25, cs) (by simp) g (by cases G <;> simp at hg ⊢; exact hg.symm)).2.lt
      · rcases List.mem_cons.1 hg with rfl | hg
        · exact S.lt 1 rfl
        · have := hM g hg; have := S.size; omega
    refine W_seq ?_
    refine W_seq ?_
    refine W_region ?_
    first | refine o_move (v := .int .i64 _) rfl rfl ?_ | refine o_move (by conv => lhs; whnf) rfl ?_
    first | refine o_move (v := .slice _ _ _) rfl rfl ?_ | refine o_move (by conv => lhs; whnf) rfl ?_
    refine o_len slz_28.slT rfl rfl ?_
    refine o_lss rfl rfl rfl (fun h58 => ?_) (fun h58 => ?_)
    · refine WL_nil ?_
      refine W_then rfl ?_
      refine W_skip ?_
      refine W_seq ?_
      refine W_block ?_
      refine W_seq ?_
      refine W_region ?_
      first | refine o_move (v := .slice _ _ _) rfl rfl ?_ | refine o_move (by conv => lhs; whnf) rfl ?_
      first | refine o_move (v := .slice _ _ _) rfl rfl ?_ | refine o_move (by conv => lhs; whnf) rfl ?_
      first | refine o_move (v := .int .i64 _) rfl rfl ?_ | refine o_move (by conv => lhs; whnf) rfl ?_
      have hlt : j < (c.sup 2).length := by omega
      obtain ⟨ba, oa, hA, hbM, hee⟩ := helb (by omega)
      obtain ⟨ck, hck1, hck2, hck3⟩ := hee j (c.sup 2)[j] (List.getElem?_eq_getElem hlt)
      have hce2 : w.cell? ⟨ba, oa + j * 1, none⟩ = some (.int .i64 (c.sup 2)[j]) := hck2 0 _ (by rw [hck3.1]; rfl)
      have hbG : ba ∉ G.toList := fun h => hbM (List.mem_append_left _ h)
      have hxx := csup_cell hf (.inl rfl) (List.getElem_mem hlt)
      obtain ⟨bo, oo, hAo, hboM, heo⟩ := hns (by omega)
      have hlo : (c.sup 2)[j].toNat < P.2.length := by omega
      obtain ⟨ck', -, hco2, hco3⟩ := heo (c.sup 2)[j].toNat _ (List.getElem?_eq_getElem hlo)
      have hco : w0.cell? ⟨bo, oo + (c.sup 2)[j].toNat * 1, none⟩ = some (.int .i64 P.2[(c.sup 2)[j].toNat]) := hco2 0 _ (by rw [hco3.1]; rfl)
      have hdg : P.2[(c.sup 2)[j].toNat] = P.2.getD (c.sup 2)[j].toNat 0 := by rw [List.getD_eq_getElem?_getD, List.getElem?_eq_getElem hlo]; rfl
      rw [hdg] at hco
      have hvr := p3.2 _ (List.getElem_mem hlt)
      have hp8 := pow2_le (wAt cells (c.sup 2)[j]).toNat 8 (by omega)
      have hp88 : pow2 8 = 256 := by decide
      obtain ⟨bc, oc, hAc, hbc, hce⟩ := hcs (by omega)
      have hcw := cell_w hce (x := (c.sup 2)[j]) (by omega) (by omega)
      refine o_indexAddr slz_28.slT rfl (by first | rfl | assumption) rfl (by omega) (by omega) rfl ?_
      refine o_load one_3 rfl (by first | exact S.cell 0 rfl rfl | exact S.cell 1 rfl rfl | exact S.cell 2 rfl rfl | exact S.old hcw | exact S.old hco | exact hce2) rfl ?_
      refine o_indexAddr slz_22.slT rfl (by first | rfl | assumption) rfl (by omega) (by omega) rfl ?_
      refine o_fieldAddr fa_48_1 rfl rfl ?_
      refine o_load one_3 rfl (by first | exact S.cell 0 rfl rfl | exact S.cell 1 rfl rfl | exact S.cell 2 rfl rfl | exact S.old hcw | exact S.old hco | exact hce2) rfl ?_
      first | refine o_assign (v := .int .i64 _) rfl rfl ?_ | refine o_assign (by conv => lhs; whnf) rfl ?_
      refine WL_nil ?_
      refine W_mixD follows_mixed (fun i => [0, 1, 2, 3, 4, 5, 7, 8, 9, 10, 11, 12, 13, 14, 19].contains i) [0, 1, 2, 3, 4, 5, 6, 7, 8, 9, 10, 11, 12, 13, 14, 15, 16, 17, 18, 19] (by kernel_rfl) (by kernel_rfl) (fun w1 => St [] w0 w1 [] ∧ Keep G.toList w w1) ?_
      have SR12 := S.drew
      have YR12 : Keep [] w w.drew := keep_drew _ _
      generalize w.drew = wR12 at SR12 YR12 ⊢
      have XR12 : Keep (G.toList) _ _ := YR12.of_nil
      replace ra := ra.keep YR12.of_nil
      replace rb := rb.keep YR12.of_nil
      replace hrow := hrow.keep YR12.of_nil
      refine WM_q ⟨SR12.nil, XR12⟩ rfl rfl rfl ?_
      first | refine q_move (v := .slice _ _ _) rfl rfl ?_ | refine q_move (by conv => lhs; whnf) rfl ?_
      refine QL_nil ?_
      refine WM_q ⟨SR12.nil, XR12⟩ rfl rfl rfl ?_
      first | refine q_move (v := .slice _ _ _) rfl rfl ?_ | refine q_move (by conv => lhs; whnf) rfl ?_
      refine QL_nil ?_
      refine WM_q ⟨SR12.nil, XR12⟩ rfl rfl rfl ?_
      first | refine q_move (v := .int .i64 _) rfl rfl ?_ | refine q_move (by conv => lhs; whnf) rfl ?_
      refine QL_nil ?_
      refine WM_q ⟨SR12.nil, XR12⟩ rfl rfl rfl ?_
      refine q_indexAddr slz_28.slT rfl (by first | rfl | assumption) rfl (by omega) (by omega) rfl ?_
      refine QL_nil ?_
      refine WM_q ⟨SR12.nil, XR12⟩ rfl rfl rfl ?_
      refine q_load one_3 rfl (fun w1 hw => by first | exact hw.1.cell 0 rfl rfl | exact hw.1.cell 1 rfl rfl | exact hw.1.cell 2 rfl rfl | exact hw.1.old hcw | exact hw.1.old hco | exact hw.2.cell (List.not_mem_nil) hce2 | exact hw.2.cell hbG hce2) rfl ?_
      refine QL_nil ?_
      refine WM_q ⟨SR12.nil, XR12⟩ rfl rfl rfl ?_
      first | refine q_move (v := .int .i64 _) rfl rfl ?_ | refine q_move (by conv => lhs; whnf) rfl ?_
      refine QL_nil ?_
      refine WM_o ⟨SR12.nil, XR12⟩ rfl rfl rfl rfl ?_
      refine o_calln SR12 has_20 rfl rfl (cell_fn (c.sup 2)[j] (wAt cells (c.sup 2)[j]) (by unfold i64; omega) (by unfold i64; omega) [] _) ?_
      rintro v75 w75 ⟨c75, rfl, r75⟩ S75 X75
      have XCw75 := XR12.trans (X75.mono (by simp))
      replace ra := ra.keep (X75.of_nil)
      replace rb := rb.keep (X75.of_nil)
      replace hrow := hrow.keep (X75.of_nil)
      refine WL_nil ⟨rfl, ?_⟩
      refine WM_q ⟨S75.nil, XCw75⟩ rfl rfl rfl ?_
      first | refine q_move (v := .slice _ _ _) rfl rfl ?_ | refine q_move (by conv => lhs; whnf) rfl ?_
      refine QL_nil ?_
      refine WM_q ⟨S75.nil, XCw75⟩ rfl rfl rfl ?_
      first | refine q_move (v := .slice _ _ _) rfl rfl ?_ | refine q_move (by conv => lhs; whnf) rfl ?_
      refine QL_nil ?_
      refine WM_q ⟨S75.nil, XCw75⟩ rfl rfl rfl ?_
      first | refine q_move (v := .int .i64 _) rfl rfl ?_ | refine q_move (by conv => lhs; whnf) rfl ?_
      refine QL_nil ?_
      refine WM_q ⟨S75.nil, XCw75⟩ rfl rfl rfl ?_
      refine q_indexAddr slz_28.slT rfl (by first | rfl | assumption) rfl (by omega) (by omega) rfl ?_
      refine QL_nil ?_
      refine WM_q ⟨S75.nil, XCw75⟩ rfl rfl rfl ?_
      refine q_load one_3 rfl (fun w1 hw => by first | exact hw.1.cell 0 rfl rfl | exact hw.1.cell 1 rfl rfl | exact hw.1.cell 2 rfl rfl | exact hw.1.old hcw | exact hw.1.old hco | exact hw.2.cell (List.not_mem_nil) hce2 | exact hw.2.cell hbG hce2) rfl ?_
      refine QL_nil ?_
      refine WM_q ⟨S75.nil, XCw75⟩ rfl rfl rfl ?_
      refine q_indexAddr slz_28.slT rfl (by first | rfl | assumption) rfl (by omega) (by omega) rfl ?_
      refine QL_nil ?_
      refine WM_q ⟨S75.nil, XCw75⟩ rfl rfl rfl ?_
      refine q_load one_3 rfl (fun w1 hw => by first | exact hw.1.cell 0 rfl rfl | exact hw.1.cell 1 rfl rfl | exact hw.1.cell 2 rfl rfl | exact hw.1.old hcw | exact hw.1.old hco | exact hw.2.cell (List.not_mem_nil) hce2 | exact hw.2.cell hbG hce2) rfl ?_
      refine QL_nil ?_
      refine WM_q ⟨S75.nil, XCw75⟩ rfl rfl rfl ?_
      first | refine q_move (v := .int .i64 _) rfl rfl ?_ | refine q_move (by conv => lhs; whnf) rfl ?_
      refine QL_nil ?_
      refine WM_o ⟨S75.nil, XCw75⟩ rfl rfl rfl rfl ?_
      refine o_calln S75 has_16 rfl rfl (const_fn (P.2.getD (c.sup 2)[j].toNat 0) (wAt cells (c.sup 2)[j]) (by unfold i64; omega) (by unfold i64; omega) [] _) ?_
      rintro v84 w84 ⟨c84, rfl, r84⟩ S84 X84
      have XCw84 := XCw75.trans (X84.mono (by simp))
      replace ra := ra.keep (X84.of_nil)
      replace rb := rb.keep (X84.of_nil)
      replace hrow := hrow.keep (X84.of_nil)
      refine WL_nil ⟨rfl, ?_⟩
      refine WM_o ⟨S84.nil, XCw84⟩ rfl rfl rfl rfl ?_
      refine o_calln S84 has_12 rfl rfl (two_fn 11 1 (by decide) (by decide) ⟨2, wAt cells (c.sup 2)[j], (c.sup 2)[j], []⟩ ⟨1, wAt cells (c.sup 2)[j], P.2.getD (c.sup 2)[j].toNat 0, []⟩ _ _ (G.toList ++ (g8 :: M)) _ (fun g hg => by have := hGl g hg; have := XCw84.size; omega) (rdE_any r75) (rdE_any r84)) ?_
      rintro v85 w85 ⟨c85, rfl, r85⟩ S85 X85
      have XCw85 := XCw84.trans (X85.mono (by simp))
      replace ra := ra.keep (X85.of_nil)
      replace rb := rb.keep (X85.of_nil)
      replace hrow := hrow.keep (X85.of_nil)
      obtain ⟨A85, n85, q85, rfl, -⟩ := r85.open_
      refine WL_nil ⟨rfl, ?_⟩
      refine WM_o ⟨S85.nil, XCw85⟩ rfl rfl rfl rfl ?_
      refine o_buildSlice S85 slz_23 (vs := [.agg _]) (cs := [_, _, _, _]) (by rfl) rfl rfl rfl rfl rfl rfl ?_
      intro g86 w86 S86 X86 G86
      have XCw86 := XCw85.trans (X86.mono (by simp))
      replace r85 := RdE.keep (X86.of_nil) _ _ r85
      replace ra := ra.keep (X86.of_nil)
      replace rb := rb.keep (X86.of_nil)
      replace hrow := hrow.keep (X86.of_nil)
      refine WL_nil ⟨rfl, ?_⟩
      refine WM_o ⟨S86.nil, XCw86⟩ rfl rfl rfl rfl ?_
      refine o_appendE (M2 := g8 :: M) (k := 1) S86 slz_23 (by decide) rfl hrow rfl rfl (S86.cells 0 rfl) r85 (by rw [List.length_append, List.length_take, eqs_len, eqs_len]; omega) rfl ?_
      intro v87 G87 cs87 w87 S87' hrow87 X87 F87
      have S87 := S87'.tail
      have XC87 := XCw86.trans X87
      replace ra := RdI.moved ra X87 F87
      replace rb := RdI.moved rb X87 F87
      refine WL_nil ⟨rfl, ?_⟩
      refine WM_q ⟨S87.nil, XC87⟩ rfl rfl rfl ?_
      first | refine q_assign (v := .slice _ _ _) rfl rfl ?_ | refine q_assign (by conv => lhs; whnf) rfl ?_
      refine QL_nil ?_
      refine WM_nil ⟨S87.nil, XC87⟩ ?_
      refine W_region ?_
      first | refine o_move (v := .int .i64 _) rfl rfl ?_ | refine o_move (by conv => lhs; whnf) rfl ?_
      refine o_add rfl rfl (by unfold i64; omega) rfl ?_
      first | refine o_assign (v := .int .i64 _) rfl rfl ?_ | refine o_assign (by conv => lhs; whnf) rfl ?_
      refine WL_nil ?_
      exact ⟨μ - 1, by omega, rfl, j + 1, G87, cs87, v87, by omega, ra, rb, by rw [eqs_take cells 2 (c.sup 2) P.2 j hlt, ← List.append_assoc]; exact hrow87, S87, rfl, rfl, rfl, rfl, rfl, rfl⟩
    · refine WL_nil ?_
      refine W_else rfl ?_
      refine W_exit ?_
      refine bcons_here ?_
      refine W_seq ?_
      have hjt : (eqsE cells 2 (c.sup 2) P.2).take j = eqsE cells 2 (c.sup 2) P.2 := List.take_of_length_le (by rw [eqs_len]; omega)
      rw [hjt] at hrow
      have hll : (eqsE cells 3 (c.sup 3) P.1 ++ eqsE cells 2 (c.sup 2) P.2).length ≤ 14 := by rw [List.length_append, eqs_len, eqs_len]; omega
      have hcn : E.cnts (eqsE cells 3 (c.sup 3) P.1 ++ eqsE cells 2 (c.sup 2) P.2) + (eqsE cells 3 (c.sup 3) P.1 ++ eqsE cells 2 (c.sup 2) P.2).length ≤ 600 := by rw [cntsAppend, eqs_cnts, eqs_cnts]; omega
      have hL13 : RdL (g8 :: M) w v (eqsE cells 3 (c.sup 3) P.1 ++ eqsE cells 2 (c.sup 2) P.2) := hrow.rdL (k := 0) S rfl (fun g hg hm => by
        subst hg
        rcases List.mem_cons.1 hm with hm | hm
        · exact absurd (ent_get S.apart (i := 0) (j := 1) rfl rfl rfl (congrArg some hm.symm)) (by decide)
        · have h1 := hM g hm
          have h2 := S.new 0 rfl
          simp at h2; omega) (by omega)
      obtain ⟨wf13, w13, g13⟩ := andAll_wf (l := eqsE cells 3 (c.sup 3) P.1 ++ eqsE cells 2 (c.sup 2) P.2) (d := 2) (by omega) (fun e he => ⟨(hall e he).1, (hall e he).2.1⟩) (by omega) hcn
      have hM8 : ∀ g ∈ g8 :: M, g < w.heap.size := fun g hg => hGl g (List.mem_append_right _ hg)
      refine W_region ?_
      first | refine o_move (v := .slice _ _ _) rfl rfl ?_ | refine o_move (by conv => lhs; whnf) rfl ?_
      refine o_calln S has_38 rfl rfl (and06_fn (eqsE cells 3 (c.sup 3) P.1 ++ eqsE cells 2 (c.sup 2) P.2) (g8 :: M) _ _ hL13 hM8 (fun e he => ⟨by unfold E.wf; rw [(hall e he).2.2.2, good_mono _ 2 40 (by omega) (hall e he).1]; decide, (hall e he).2.1, by rw [(hall e he).2.2.1]; decide⟩) hcn wf13) ?_
      rintro v89 w89 ⟨c89, rfl, r89⟩ S89 X89
      refine o_calln S89 has_37 rfl rfl (neg_fn _ (g8 :: M) _ _ r89 (fun g hg => by have := hM8 g hg; have := X89.size; omega) (andAll_op _ (fun e he => by rw [(hall e he).2.2.1]; decide)) (by rw [w13]; decide)) ?_
      rintro v90 w90 ⟨c90, rfl, r90⟩ S90 X90
      rw [w13] at r90
      obtain ⟨A90, n90, q90, rfl, -⟩ := r90.open_
      first | refine o_storeN (kk := 0) (vs := [_, _, _, _]) S90 sz_25 rfl rfl rfl rfl rfl rfl rfl ?_ | refine o_storeN (kk := 1) (vs := [_, _, _, _]) S90 sz_25 rfl rfl rfl rfl rfl rfl rfl ?_ | refine o_storeN (kk := 2) (vs := [_, _, _, _]) S90 sz_25 rfl rfl rfl rfl rfl rfl rfl ?_
      intro w13_3 S13_3 X13_3
      dsimp only [setsAt, List.set] at S13_3
      replace r90 := RdE.keep (X13_3.mono (by simp)) _ _ r90
      refine WL_nil ?_
      refine W_ret ?_
      exact ret_cell1 rfl many_25 rfl (S13_3.cells 1 rfl) rfl ⟨⟨_, rfl, RdE.more (fun g hg => .inl (by simp [hg])) _ _ r90⟩, S13_3.nil.fin⟩
end Go.Proofs.YtinhchacppkmgaaDoor
