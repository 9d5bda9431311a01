/-
  Contracts of the law: two, head.
-/
import Derived.Test.YtinhchacppkmgaaDoorLa1
namespace Go.Fw
open Go.RowKit
theorem rd_two {α : Type} {M : List Nat} {w : World} {size g : Nat} {R : List Value → α → Prop} {x y : α} {cx cy : List Value} (hc : Cells w g 0 (cx ++ cy)) (hx : cx.length = size) (hy : cy.length = size) (hg : g ∉ M) (rx : R cx x) (ry : R cy y) : RdS M w size R (.slice (some ⟨g, 0, none⟩) 2 2) [x, y] := by
  refine ⟨_, 2, 2, rfl, rfl, Nat.le_refl _, by unfold maxLen; omega, by omega, fun _ => ⟨g, 0, rfl, hg, fun i z hz => ?_⟩⟩
  have hi : i < 2 := (List.getElem?_eq_some_iff.1 hz).1
  rcases (show i = 0 ∨ i = 1 by omega) with rfl | rfl
  · cases hz
    refine ⟨cx, hx, fun j v hj => ?_, rx⟩
    have hl : j < cx.length := (List.getElem?_eq_some_iff.1 hj).1
    have := hc j v (by rw [List.getElem?_append_left hl]; exact hj)
    simpa using this
  · cases hz
    refine ⟨cy, hy, fun j v hj => ?_, ry⟩
    have := hc (size + j) v (by rw [List.getElem?_append_right (by omega)]; simpa [hx] using hj)
    simpa using this
end Go.Fw
namespace Go.Proofs.YtinhchacppkmgaaDoor
open Go.Fw Go.RowKit

theorem twoc_fn (M : List Nat) (w0 : World) (hM : ∀ g ∈ M, g < w0.heap.size) :
    Does Tryd.prog 21 #[] w0 fun v w' => RdCs M w' v cellsA ∧ Below w0.heap.size w0 w' := by
  have S := St.refl w0
  refine Does_enter Tryd.func21 rfl Tryd.ntmps21 rfl ?_
  refine W_seq ?_
  refine W_region ?_
  first | refine o_assign (v := .slice _ _ _) rfl rfl ?_ | refine o_assign (by conv => lhs; whnf) rfl ?_
  refine WL_nil ?_
  refine W_seq ?_
  refine W_region ?_
  refine o_build bld_48 (vs := [(0, .string _), (1, .int .i64 _), (3, .int .i64 _)]) (cs := [_, _, _, _, _, _]) rfl rfl rfl rfl ?_
  refine o_build bld_48 (vs := [(0, .string _), (1, .int .i64 _), (3, .int .i64 _)]) (cs := [_, _, _, _, _, _]) rfl rfl rfl rfl ?_
  refine o_buildSlice S slz_22 (vs := [.agg _, .agg _]) (cs := [_, _, _, _, _, _, _, _, _, _, _, _]) (by rfl) rfl rfl rfl rfl rfl rfl ?_
  intro g3 w3 S3 X3 G3
  first | refine o_assign (v := .slice _ _ _) rfl rfl ?_ | refine o_assign (by conv => lhs; whnf) rfl ?_
  refine WL_nil ?_
  refine W_ret ?_
  refine ret_1 rfl (by conv => lhs; whnf) ?_
  refine ⟨rd_two (cx := [.string ⟨#[120]⟩, .int .i64 2, .int .i64 0, .int .i64 (-1), .bool false, .int .i64 0]) (cy := [.string ⟨#[121]⟩, .int .i64 2, .int .i64 0, .int .i64 (-1), .bool false, .int .i64 0]) (S3.cells 0 rfl) rfl rfl (fun hm => ?_) ⟨rfl, by decide, by decide, by decide, by decide⟩ ⟨rfl, by decide, by decide, by decide, by decide⟩, S3.fin⟩
  have h1 := hM _ hm
  have h2 := S3.new 0 rfl
  simp at h2; omega

theorem ints_true_fn (M : List Nat) (w0 : World) (va vb : Value) (a : List Int) (ha : RdI M w0 va a) (hb : RdI M w0 vb a) :
    Does Tryd.prog 23 #[va, vb] w0 fun v w' => v = .bool true ∧ Below w0.heap.size w0 w' := by
  have h := ints_fn M w0 va vb a a ha hb
  simpa using h

set_option maxHeartbeats 4000000 in
theorem head_fn (w0 : World) (hK : Masks [] w0) : Does Tryd.prog 7 #[] w0 fun v w' => v = .bool true ∧ Below w0.heap.size w0 w' := by
  have S := St.refl w0
  refine Does_enter Tryd.func7 rfl Tryd.ntmps7 rfl ?_
  refine W_seq ?_
  refine W_region ?_
  first | refine o_assign (v := .bool _) rfl rfl ?_ | refine o_assign (by conv => lhs; whnf) rfl ?_
  refine WL_nil ?_
  refine W_seq ?_
  refine W_region ?_
  refine o_calln S has_20 rfl rfl (cell_fn 0 2 (by decide) (by decide) [] _) ?_
  rintro v25 w25 ⟨c25, rfl, r25⟩ S25 X25
  obtain ⟨A25, n25, q25, rfl, -⟩ := r25.open_
  refine o_alloc S25 zv_25 rfl rfl ?_
  intro g1 w1 S1 X1 G1
  first | refine o_storeN (kk := 0) (vs := [_, _, _, _]) S1 sz_25 rfl rfl rfl rfl rfl rfl rfl ?_
  intro w1_2 S1_2 X1_2
  dsimp only [setsAt, List.set] at S1_2
  refine WL_nil ?_
  refine W_seq ?_
  refine W_region ?_
  refine o_calln S1_2 has_20 rfl rfl (cell_fn 1 2 (by decide) (by decide) [] _) ?_
  rintro v26 w26 ⟨c26, rfl, r26⟩ S26 X26
  obtain ⟨A26, n26, q26, rfl, -⟩ := r26.open_
  refine o_alloc S26 zv_25 rfl rfl ?_
  intro g2 w2 S2 X2 G2
  first | refine o_storeN (kk := 0) (vs := [_, _, _, _]) S2 sz_25 rfl rfl rfl rfl rfl rfl rfl ?_ | refine o_storeN (kk := 1) (vs := [_, _, _, _]) S2 sz_25 rfl rfl rfl rfl rfl rfl rfl ?_
  intro w2_2 S2_2 X2_2
  dsimp only [setsAt, List.set] at S2_2
  refine WL_nil ?_
  refine W_seq ?_
  refine W_region ?_
  refine o_calln S2_2 has_16 rfl rfl (const_fn 1 1 (by decide) (by decide) [] _) ?_
  rintro v27 w27 ⟨c27, rfl, r27⟩ S27 X27
  obtain ⟨A27, n27, q27, rfl, -⟩ := r27.open_
  refine o_alloc S27 zv_25 rfl rfl ?_
  intro g3 w3 S3 X3 G3
  first | refine o_storeN (kk := 0) (vs := [_, _, _, _]) S3 sz_25 rfl rfl rfl rfl rfl rfl rfl ?_ | refine o_storeN (kk := 1) (vs := [_, _, _, _]) S3 sz_25 rfl rfl rfl rfl rfl rfl rfl ?_ | refine o_storeN (kk := 2) (vs := [_, _, _, _]) S3 sz_25 rfl rfl rfl rfl rfl rfl rfl ?_
  intro w3_2 S3_2 X3_2
  dsimp only [setsAt, List.set] at S3_2
  refine WL_nil ?_
  refine W_seq ?_
  refine W_mix follows_mixed (fun i => [2, 5, 9, 10, 11, 12, 13, 14, 15, 16, 17].contains i) [0, 1, 2, 3, 4, 5, 6, 7, 8, 9, 10, 11, 12, 13, 14, 15, 16, 17] (by kernel_rfl) (by kernel_rfl) (Cl _ _ _ _) (Cl.start S3_2) ?_
  rintro wR4 ⟨SR4, XR4⟩
  refine WM_o ⟨SR4, XR4⟩ rfl rfl rfl rfl ?_
  refine o_calln SR4 has_21 rfl rfl (twoc_fn [] _ (by simp)) ?_
  rintro v29 w29 r29 S29 X29
  have XCw29 := XR4.trans X29
  refine WL_nil ⟨rfl, ?_⟩
  refine WM_o ⟨S29, XCw29⟩ rfl rfl rfl rfl ?_
  refine o_calln S29 has_22 rfl rfl (old_fn 0 2 (by decide) (by decide) [] _) ?_
  rintro v30 w30 ⟨c30, rfl, r30⟩ S30 X30
  have XCw30 := XCw29.trans X30
  replace r29 := r29.keep (X30.of_nil)
  refine WL_nil ⟨rfl, ?_⟩
  refine WM_q ⟨S30, XCw30⟩ rfl rfl rfl ?_
  first | refine q_loadN many_25 rfl (fun w1 hw => hw.1.cells 0 rfl) rfl rfl ?_ | refine q_loadN many_25 rfl (fun w1 hw => hw.1.cells 1 rfl) rfl rfl ?_ | refine q_loadN many_25 rfl (fun w1 hw => hw.1.cells 2 rfl) rfl rfl ?_
  refine QL_nil ?_
  refine WM_o ⟨S30, XCw30⟩ rfl rfl rfl rfl ?_
  refine o_calln S30 has_12 rfl rfl (two_fn 12 1 (by decide) (by decide) _ _ _ _ [] _ (by simp) r30 (rdE_any r25)) ?_
  rintro v32 w32 ⟨c32, rfl, r32⟩ S32 X32
  have XCw32 := XCw30.trans X32
  replace r29 := r29.keep (X32.of_nil)
  refine WL_nil ⟨rfl, ?_⟩
  refine WM_o ⟨S32, XCw32⟩ rfl rfl rfl rfl ?_
  refine o_calln S32 has_16 rfl rfl (const_fn 1 2 (by decide) (by decide) [] _) ?_
  rintro v33 w33 ⟨c33, rfl, r33⟩ S33 X33
  have XCw33 := XCw32.trans X33
  replace r32 := RdE.keep (X33.of_nil) _ _ r32
  replace r29 := r29.keep (X33.of_nil)
  refine WL_nil ⟨rfl, ?_⟩
  refine WM_q ⟨S33, XCw33⟩ rfl rfl rfl ?_
  first | refine q_loadN many_25 rfl (fun w1 hw => hw.1.cells 0 rfl) rfl rfl ?_ | refine q_loadN many_25 rfl (fun w1 hw => hw.1.cells 1 rfl) rfl rfl ?_ | refine q_loadN many_25 rfl (fun w1 hw => hw.1.cells 2 rfl) rfl rfl ?_
  refine QL_nil ?_
  refine WM_o ⟨S33, XCw33⟩ rfl rfl rfl rfl ?_
  refine o_calln S33 has_12 rfl rfl (two_fn 13 1 (by decide) (by decide) _ _ _ _ [] _ (by simp) r33 (rdE_any r25)) ?_
  rintro v35 w35 ⟨c35, rfl, r35⟩ S35 X35
  have XCw35 := XCw33.trans X35
  replace r32 := RdE.keep (X35.of_nil) _ _ r32
  replace r29 := r29.keep (X35.of_nil)
  refine WL_nil ⟨rfl, ?_⟩
  refine WM_o ⟨S35, XCw35⟩ rfl rfl rfl rfl ?_
  refine o_calln S35 has_11 rfl rfl (cond_fn _ _ _ _ [] _ r32 r35) ?_
  rintro v36 w36 ⟨c36, rfl, r36⟩ S36 X36
  have XCw36 := XCw35.trans X36
  replace r32 := RdE.keep (X36.of_nil) _ _ r32
  replace r29 := r29.keep (X36.of_nil)
  refine WL_nil ⟨rfl, ?_⟩
  refine WM_o ⟨S36, XCw36⟩ rfl rfl rfl rfl ?_
  refine o_calln S36 has_9 rfl rfl (decide_fn exA cellsA [] _ _ _ r36 r29 (hK.keep (S36.keep0 [])) (by simp) (by decide)) ?_
  rintro v37 w37 r37 S37 X37
  have XCw37 := XCw36.trans X37
  replace r32 := RdE.keep (X37.of_nil) _ _ r32
  replace r29 := r29.keep (X37.of_nil)
  have e37 := r37.is_yes exA_yes
  subst e37
  refine WL_nil ⟨rfl, ?_⟩
  refine WM_q ⟨S37, XCw37⟩ rfl rfl rfl ?_
  first | refine q_move (v := .tuple _) rfl rfl ?_ | refine q_move (by conv => lhs; whnf) rfl ?_
  refine QL_nil ?_
  refine WM_q ⟨S37, XCw37⟩ rfl rfl rfl ?_
  refine q_extract rfl rfl rfl ?_
  refine QL_nil ?_
  refine WM_q ⟨S37, XCw37⟩ rfl rfl rfl ?_
  refine q_extract rfl rfl rfl ?_
  refine QL_nil ?_
  refine WM_q ⟨S37, XCw37⟩ rfl rfl rfl ?_
  refine q_extract rfl rfl rfl ?_
  refine QL_nil ?_
  refine WM_q ⟨S37, XCw37⟩ rfl rfl rfl ?_
  refine q_extract rfl rfl rfl ?_
  refine QL_nil ?_
  refine WM_q ⟨S37, XCw37⟩ rfl rfl rfl ?_
  first | refine q_assign (v := .int .i64 _) rfl rfl ?_ | refine q_assign (by conv => lhs; whnf) rfl ?_
  refine QL_nil ?_
  refine WM_q ⟨S37, XCw37⟩ rfl rfl rfl ?_
  first | refine q_assign (v := .slice _ _ _) rfl rfl ?_ | refine q_assign (by conv => lhs; whnf) rfl ?_
  refine QL_nil ?_
  refine WM_q ⟨S37, XCw37⟩ rfl rfl rfl ?_
  first | refine q_assign (v := .slice _ _ _) rfl rfl ?_ | refine q_assign (by conv => lhs; whnf) rfl ?_
  refine QL_nil ?_
  refine WM_q ⟨S37, XCw37⟩ rfl rfl rfl ?_
  first | refine q_assign (v := .int .i64 _) rfl rfl ?_ | refine q_assign (by conv => lhs; whnf) rfl ?_
  refine QL_nil ?_
  refine WM_nil ⟨S37, XCw37⟩ ?_
  refine W_seq ?_
  refine W_mix follows_mixed (fun i => [1, 2, 3, 7, 8, 9, 10, 11, 12, 13, 14, 15].contains i) [0, 1, 2, 3, 4, 5, 6, 7, 8, 9, 10, 11, 12, 13, 14, 15] (by kernel_rfl) (by kernel_rfl) (Cl _ _ _ _) (Cl.start S37) ?_
  rintro wR5 ⟨SR5, XR5⟩
  replace r32 := RdE.keep (XR5.of_nil) _ _ r32
  replace r29 := r29.keep (XR5.of_nil)
  refine WM_o ⟨SR5, XR5⟩ rfl rfl rfl rfl ?_
  refine o_calln SR5 has_21 rfl rfl (twoc_fn [] _ (by simp)) ?_
  rintro v43 w43 r43 S43 X43
  have XCw43 := XR5.trans X43
  replace r32 := RdE.keep (X43.of_nil) _ _ r32
  replace r29 := r29.keep (X43.of_nil)
  refine WL_nil ⟨rfl, ?_⟩
  refine WM_q ⟨S43, XCw43⟩ rfl rfl rfl ?_
  first | refine q_loadN many_25 rfl (fun w1 hw => hw.1.cells 0 rfl) rfl rfl ?_ | refine q_loadN many_25 rfl (fun w1 hw => hw.1.cells 1 rfl) rfl rfl ?_ | refine q_loadN many_25 rfl (fun w1 hw => hw.1.cells 2 rfl) rfl rfl ?_
  refine QL_nil ?_
  refine WM_q ⟨S43, XCw43⟩ rfl rfl rfl ?_
  first | refine q_loadN many_25 rfl (fun w1 hw => hw.1.cells 0 rfl) rfl rfl ?_ | refine q_loadN many_25 rfl (fun w1 hw => hw.1.cells 1 rfl) rfl rfl ?_ | refine q_loadN many_25 rfl (fun w1 hw => hw.1.cells 2 rfl) rfl rfl ?_
  refine QL_nil ?_
  refine WM_q ⟨S43, XCw43⟩ rfl rfl rfl ?_
  first | refine q_loadN many_25 rfl (fun w1 hw => hw.1.cells 0 rfl) rfl rfl ?_ | refine q_loadN many_25 rfl (fun w1 hw => hw.1.cells 1 rfl) rfl rfl ?_ | refine q_loadN many_25 rfl (fun w1 hw => hw.1.cells 2 rfl) rfl rfl ?_
  refine QL_nil ?_
  refine WM_o ⟨S43, XCw43⟩ rfl rfl rfl rfl ?_
  refine o_calln S43 has_12 rfl rfl (two_fn 13 1 (by decide) (by decide) _ _ _ _ [] _ (by simp) (rdE_any r25) (rdE_any r26)) ?_
  rintro v47 w47 ⟨c47, rfl, r47⟩ S47 X47
  have XCw47 := XCw43.trans X47
  replace r32 := RdE.keep (X47.of_nil) _ _ r32
  replace r29 := r29.keep (X47.of_nil)
  replace r43 := r43.keep (X47.of_nil)
  refine WL_nil ⟨rfl, ?_⟩
  refine WM_o ⟨S47, XCw47⟩ rfl rfl rfl rfl ?_
  refine o_calln S47 has_11 rfl rfl (cond_fn _ _ _ _ [] _ (rdE_any r27) r47) ?_
  rintro v48 w48 ⟨c48, rfl, r48⟩ S48 X48
  have XCw48 := XCw47.trans X48
  replace r32 := RdE.keep (X48.of_nil) _ _ r32
  replace r29 := r29.keep (X48.of_nil)
  replace r43 := r43.keep (X48.of_nil)
  refine WL_nil ⟨rfl, ?_⟩
  refine WM_o ⟨S48, XCw48⟩ rfl rfl rfl rfl ?_
  refine o_calln S48 has_9 rfl rfl (decide_fn exB cellsA [] _ _ _ r48 r43 (hK.keep (S48.keep0 [])) (by simp) (by decide)) ?_
  rintro v49 w49 r49 S49 X49
  have XCw49 := XCw48.trans X49
  replace r32 := RdE.keep (X49.of_nil) _ _ r32
  replace r29 := r29.keep (X49.of_nil)
  replace r43 := r43.keep (X49.of_nil)
  obtain ⟨vo49, vn49, rfl, ro49, rn49⟩ := exB_res r49
  refine WL_nil ⟨rfl, ?_⟩
  refine WM_q ⟨S49, XCw49⟩ rfl rfl rfl ?_
  first | refine q_move (v := .tuple _) rfl rfl ?_ | refine q_move (by conv => lhs; whnf) rfl ?_
  refine QL_nil ?_
  refine WM_q ⟨S49, XCw49⟩ rfl rfl rfl ?_
  refine q_extract rfl rfl rfl ?_
  refine QL_nil ?_
  refine WM_q ⟨S49, XCw49⟩ rfl rfl rfl ?_
  refine q_extract rfl rfl rfl ?_
  refine QL_nil ?_
  refine WM_q ⟨S49, XCw49⟩ rfl rfl rfl ?_
  refine q_extract rfl rfl rfl ?_
  refine QL_nil ?_
  refine WM_q ⟨S49, XCw49⟩ rfl rfl rfl ?_
  refine q_extract rfl rfl rfl ?_
  refine QL_nil ?_
  refine WM_q ⟨S49, XCw49⟩ rfl rfl rfl ?_
  first | refine q_assign (v := .int .i64 _) rfl rfl ?_ | refine q_assign (by conv => lhs; whnf) rfl ?_
  refine QL_nil ?_
  refine WM_q ⟨S49, XCw49⟩ rfl rfl rfl ?_
  first | refine q_assign (v := .slice _ _ _) rfl rfl ?_ | refine q_assign (by conv => lhs; whnf) rfl ?_
  refine QL_nil ?_
  refine WM_q ⟨S49, XCw49⟩ rfl rfl rfl ?_
  first | refine q_assign (v := .slice _ _ _) rfl rfl ?_ | refine q_assign (by conv => lhs; whnf) rfl ?_
  refine QL_nil ?_
  refine WM_q ⟨S49, XCw49⟩ rfl rfl rfl ?_
  first | refine q_assign (v := .int .i64 _) rfl rfl ?_ | refine q_assign (by conv => lhs; whnf) rfl ?_
  refine QL_nil ?_
  refine WM_nil ⟨S49, XCw49⟩ ?_
  refine W_seq ?_
  refine W_mix follows_mixed (fun i => [2, 4, 9, 10, 11, 12, 13, 14, 15, 16, 17].contains i) [0, 1, 2, 3, 4, 5, 6, 7, 8, 9, 10, 11, 12, 13, 14, 15, 16, 17] (by kernel_rfl) (by kernel_rfl) (Cl _ _ _ _) (Cl.start S49) ?_
  rintro wR6 ⟨SR6, XR6⟩
  replace r32 := RdE.keep (XR6.of_nil) _ _ r32
  replace r29 := r29.keep (XR6.of_nil)
  replace r43 := r43.keep (XR6.of_nil)
  replace ro49 := ro49.keep (XR6.of_nil)
  replace rn49 := rn49.keep (XR6.of_nil)
  refine WM_o ⟨SR6, XR6⟩ rfl rfl rfl rfl ?_
  refine o_calln SR6 has_21 rfl rfl (twoc_fn [] _ (by simp)) ?_
  rintro v55 w55 r55 S55 X55
  have XCw55 := XR6.trans X55
  replace r32 := RdE.keep (X55.of_nil) _ _ r32
  replace r29 := r29.keep (X55.of_nil)
  replace r43 := r43.keep (X55.of_nil)
  replace ro49 := ro49.keep (X55.of_nil)
  replace rn49 := rn49.keep (X55.of_nil)
  refine WL_nil ⟨rfl, ?_⟩
  refine WM_o ⟨S55, XCw55⟩ rfl rfl rfl rfl ?_
  refine o_calln S55 has_22 rfl rfl (old_fn 1 2 (by decide) (by decide) [] _) ?_
  rintro v56 w56 ⟨c56, rfl, r56⟩ S56 X56
  have XCw56 := XCw55.trans X56
  replace r32 := RdE.keep (X56.of_nil) _ _ r32
  replace r29 := r29.keep (X56.of_nil)
  replace r43 := r43.keep (X56.of_nil)
  replace ro49 := ro49.keep (X56.of_nil)
  replace rn49 := rn49.keep (X56.of_nil)
  replace r55 := r55.keep (X56.of_nil)
  refine WL_nil ⟨rfl, ?_⟩
  refine WM_q ⟨S56, XCw56⟩ rfl rfl rfl ?_
  first | refine q_loadN many_25 rfl (fun w1 hw => hw.1.cells 0 rfl) rfl rfl ?_ | refine q_loadN many_25 rfl (fun w1 hw => hw.1.cells 1 rfl) rfl rfl ?_ | refine q_loadN many_25 rfl (fun w1 hw => hw.1.cells 2 rfl) rfl rfl ?_
  refine QL_nil ?_
  refine WM_o ⟨S56, XCw56⟩ rfl rfl rfl rfl ?_
  refine o_calln S56 has_12 rfl rfl (two_fn 11 1 (by decide) (by decide) _ _ _ _ [] _ (by simp) r56 (rdE_any r26)) ?_
  rintro v58 w58 ⟨c58, rfl, r58⟩ S58 X58
  have XCw58 := XCw56.trans X58
  replace r32 := RdE.keep (X58.of_nil) _ _ r32
  replace r29 := r29.keep (X58.of_nil)
  replace r43 := r43.keep (X58.of_nil)
  replace ro49 := ro49.keep (X58.of_nil)
  replace rn49 := rn49.keep (X58.of_nil)
  replace r55 := r55.keep (X58.of_nil)
  refine WL_nil ⟨rfl, ?_⟩
  refine WM_q ⟨S58, XCw58⟩ rfl rfl rfl ?_
  first | refine q_loadN many_25 rfl (fun w1 hw => hw.1.cells 0 rfl) rfl rfl ?_ | refine q_loadN many_25 rfl (fun w1 hw => hw.1.cells 1 rfl) rfl rfl ?_ | refine q_loadN many_25 rfl (fun w1 hw => hw.1.cells 2 rfl) rfl rfl ?_
  refine QL_nil ?_
  refine WM_o ⟨S58, XCw58⟩ rfl rfl rfl rfl ?_
  refine o_calln S58 has_16 rfl rfl (const_fn 2 2 (by decide) (by decide) [] _) ?_
  rintro v60 w60 ⟨c60, rfl, r60⟩ S60 X60
  have XCw60 := XCw58.trans X60
  replace r32 := RdE.keep (X60.of_nil) _ _ r32
  replace r58 := RdE.keep (X60.of_nil) _ _ r58
  replace r29 := r29.keep (X60.of_nil)
  replace r43 := r43.keep (X60.of_nil)
  replace ro49 := ro49.keep (X60.of_nil)
  replace rn49 := rn49.keep (X60.of_nil)
  replace r55 := r55.keep (X60.of_nil)
  refine WL_nil ⟨rfl, ?_⟩
  refine WM_o ⟨S60, XCw60⟩ rfl rfl rfl rfl ?_
  refine o_calln S60 has_12 rfl rfl (two_fn 12 1 (by decide) (by decide) _ _ _ _ [] _ (by simp) (rdE_any r26) r60) ?_
  rintro v61 w61 ⟨c61, rfl, r61⟩ S61 X61
  have XCw61 := XCw60.trans X61
  replace r32 := RdE.keep (X61.of_nil) _ _ r32
  replace r58 := RdE.keep (X61.of_nil) _ _ r58
  replace r29 := r29.keep (X61.of_nil)
  replace r43 := r43.keep (X61.of_nil)
  replace ro49 := ro49.keep (X61.of_nil)
  replace rn49 := rn49.keep (X61.of_nil)
  replace r55 := r55.keep (X61.of_nil)
  refine WL_nil ⟨rfl, ?_⟩
  refine WM_o ⟨S61, XCw61⟩ rfl rfl rfl rfl ?_
  refine o_calln S61 has_11 rfl rfl (cond_fn _ _ _ _ [] _ r58 r61) ?_
  rintro v62 w62 ⟨c62, rfl, r62⟩ S62 X62
  have XCw62 := XCw61.trans X62
  replace r32 := RdE.keep (X62.of_nil) _ _ r32
  replace r58 := RdE.keep (X62.of_nil) _ _ r58
  replace r29 := r29.keep (X62.of_nil)
  replace r43 := r43.keep (X62.of_nil)
  replace ro49 := ro49.keep (X62.of_nil)
  replace rn49 := rn49.keep (X62.of_nil)
  replace r55 := r55.keep (X62.of_nil)
  refine WL_nil ⟨rfl, ?_⟩
  refine WM_o ⟨S62, XCw62⟩ rfl rfl rfl rfl ?_
  refine o_calln S62 has_9 rfl rfl (decide_fn exC cellsA [] _ _ _ r62 r55 (hK.keep (S62.keep0 [])) (by simp) (by decide)) ?_
  rintro v63 w63 r63 S63 X63
  have XCw63 := XCw62.trans X63
  replace r32 := RdE.keep (X63.of_nil) _ _ r32
  replace r58 := RdE.keep (X63.of_nil) _ _ r58
  replace r29 := r29.keep (X63.of_nil)
  replace r43 := r43.keep (X63.of_nil)
  replace ro49 := ro49.keep (X63.of_nil)
  replace rn49 := rn49.keep (X63.of_nil)
  replace r55 := r55.keep (X63.of_nil)
  obtain ⟨vo63, vn63, rfl, ro63, rn63⟩ := exC_res r63
  refine WL_nil ⟨rfl, ?_⟩
  refine WM_q ⟨S63, XCw63⟩ rfl rfl rfl ?_
  first | refine q_move (v := .tuple _) rfl rfl ?_ | refine q_move (by conv => lhs; whnf) rfl ?_
  refine QL_nil ?_
  refine WM_q ⟨S63, XCw63⟩ rfl rfl rfl ?_
  refine q_extract rfl rfl rfl ?_
  refine QL_nil ?_
  refine WM_q ⟨S63, XCw63⟩ rfl rfl rfl ?_
  refine q_extract rfl rfl rfl ?_
  refine QL_nil ?_
  refine WM_q ⟨S63, XCw63⟩ rfl rfl rfl ?_
  refine q_extract rfl rfl rfl ?_
  refine QL_nil ?_
  refine WM_q ⟨S63, XCw63⟩ rfl rfl rfl ?_
  refine q_extract rfl rfl rfl ?_
  refine QL_nil ?_
  refine WM_q ⟨S63, XCw63⟩ rfl rfl rfl ?_
  first | refine q_assign (v := .int .i64 _) rfl rfl ?_ | refine q_assign (by conv => lhs; whnf) rfl ?_
  refine QL_nil ?_
  refine WM_q ⟨S63, XCw63⟩ rfl rfl rfl ?_
  first | refine q_assign (v := .slice _ _ _) rfl rfl ?_ | refine q_assign (by conv => lhs; whnf) rfl ?_
  refine QL_nil ?_
  refine WM_q ⟨S63, XCw63⟩ rfl rfl rfl ?_
  first | refine q_assign (v := .slice _ _ _) rfl rfl ?_ | refine q_assign (by conv => lhs; whnf) rfl ?_
  refine QL_nil ?_
  refine WM_q ⟨S63, XCw63⟩ rfl rfl rfl ?_
  first | refine q_assign (v := .int .i64 _) rfl rfl ?_ | refine q_assign (by conv => lhs; whnf) rfl ?_
  refine QL_nil ?_
  refine WM_nil ⟨S63, XCw63⟩ ?_
  refine W_seq ?_
  refine W_mix follows_mixed (fun i => [1, 2, 5, 6, 7, 8, 9, 10, 11, 12, 13].contains i) [0, 1, 2, 3, 4, 5, 6, 7, 8, 9, 10, 11, 12, 13] (by kernel_rfl) (by kernel_rfl) (Cl _ _ _ _) (Cl.start S63) ?_
  rintro wR7 ⟨SR7, XR7⟩
  replace r32 := RdE.keep (XR7.of_nil) _ _ r32
  replace r58 := RdE.keep (XR7.of_nil) _ _ r58
  replace r29 := r29.keep (XR7.of_nil)
  replace r43 := r43.keep (XR7.of_nil)
  replace ro49 := ro49.keep (XR7.of_nil)
  replace rn49 := rn49.keep (XR7.of_nil)
  replace r55 := r55.keep (XR7.of_nil)
  replace ro63 := ro63.keep (XR7.of_nil)
  replace rn63 := rn63.keep (XR7.of_nil)
  refine WM_o ⟨SR7, XR7⟩ rfl rfl rfl rfl ?_
  refine o_calln SR7 has_21 rfl rfl (twoc_fn [] _ (by simp)) ?_
  rintro v69 w69 r69 S69 X69
  have XCw69 := XR7.trans X69
  replace r32 := RdE.keep (X69.of_nil) _ _ r32
  replace r58 := RdE.keep (X69.of_nil) _ _ r58
  replace r29 := r29.keep (X69.of_nil)
  replace r43 := r43.keep (X69.of_nil)
  replace ro49 := ro49.keep (X69.of_nil)
  replace rn49 := rn49.keep (X69.of_nil)
  replace r55 := r55.keep (X69.of_nil)
  replace ro63 := ro63.keep (X69.of_nil)
  replace rn63 := rn63.keep (X69.of_nil)
  refine WL_nil ⟨rfl, ?_⟩
  refine WM_q ⟨S69, XCw69⟩ rfl rfl rfl ?_
  first | refine q_loadN many_25 rfl (fun w1 hw => hw.1.cells 0 rfl) rfl rfl ?_ | refine q_loadN many_25 rfl (fun w1 hw => hw.1.cells 1 rfl) rfl rfl ?_ | refine q_loadN many_25 rfl (fun w1 hw => hw.1.cells 2 rfl) rfl rfl ?_
  refine QL_nil ?_
  refine WM_q ⟨S69, XCw69⟩ rfl rfl rfl ?_
  first | refine q_loadN many_25 rfl (fun w1 hw => hw.1.cells 0 rfl) rfl rfl ?_ | refine q_loadN many_25 rfl (fun w1 hw => hw.1.cells 1 rfl) rfl rfl ?_ | refine q_loadN many_25 rfl (fun w1 hw => hw.1.cells 2 rfl) rfl rfl ?_
  refine QL_nil ?_
  refine WM_o ⟨S69, XCw69⟩ rfl rfl rfl rfl ?_
  refine o_calln S69 has_11 rfl rfl (cond_fn _ _ _ _ [] _ (rdE_any r25) (rdE_any r27)) ?_
  rintro v72 w72 ⟨c72, rfl, r72⟩ S72 X72
  have XCw72 := XCw69.trans X72
  replace r32 := RdE.keep (X72.of_nil) _ _ r32
  replace r58 := RdE.keep (X72.of_nil) _ _ r58
  replace r29 := r29.keep (X72.of_nil)
  replace r43 := r43.keep (X72.of_nil)
  replace ro49 := ro49.keep (X72.of_nil)
  replace rn49 := rn49.keep (X72.of_nil)
  replace r55 := r55.keep (X72.of_nil)
  replace ro63 := ro63.keep (X72.of_nil)
  replace rn63 := rn63.keep (X72.of_nil)
  replace r69 := r69.keep (X72.of_nil)
  refine WL_nil ⟨rfl, ?_⟩
  refine WM_o ⟨S72, XCw72⟩ rfl rfl rfl rfl ?_
  refine o_calln S72 has_9 rfl rfl (decide_fn exD cellsA [] _ _ _ r72 r69 (hK.keep (S72.keep0 [])) (by simp) (by decide)) ?_
  rintro v73 w73 r73 S73 X73
  have XCw73 := XCw72.trans X73
  replace r32 := RdE.keep (X73.of_nil) _ _ r32
  replace r58 := RdE.keep (X73.of_nil) _ _ r58
  replace r29 := r29.keep (X73.of_nil)
  replace r43 := r43.keep (X73.of_nil)
  replace ro49 := ro49.keep (X73.of_nil)
  replace rn49 := rn49.keep (X73.of_nil)
  replace r55 := r55.keep (X73.of_nil)
  replace ro63 := ro63.keep (X73.of_nil)
  replace rn63 := rn63.keep (X73.of_nil)
  replace r69 := r69.keep (X73.of_nil)
  have e73 := r73.bad exD_formed
  subst e73
  refine WL_nil ⟨rfl, ?_⟩
  refine WM_q ⟨S73, XCw73⟩ rfl rfl rfl ?_
  first | refine q_move (v := .tuple _) rfl rfl ?_ | refine q_move (by conv => lhs; whnf) rfl ?_
  refine QL_nil ?_
  refine WM_q ⟨S73, XCw73⟩ rfl rfl rfl ?_
  refine q_extract rfl rfl rfl ?_
  refine QL_nil ?_
  refine WM_q ⟨S73, XCw73⟩ rfl rfl rfl ?_
  refine q_extract rfl rfl rfl ?_
  refine QL_nil ?_
  refine WM_q ⟨S73, XCw73⟩ rfl rfl rfl ?_
  refine q_extract rfl rfl rfl ?_
  refine QL_nil ?_
  refine WM_q ⟨S73, XCw73⟩ rfl rfl rfl ?_
  refine q_extract rfl rfl rfl ?_
  refine QL_nil ?_
  refine WM_q ⟨S73, XCw73⟩ rfl rfl rfl ?_
  first | refine q_assign (v := .int .i64 _) rfl rfl ?_ | refine q_assign (by conv => lhs; whnf) rfl ?_
  refine QL_nil ?_
  refine WM_q ⟨S73, XCw73⟩ rfl rfl rfl ?_
  first | refine q_assign (v := .slice _ _ _) rfl rfl ?_ | refine q_assign (by conv => lhs; whnf) rfl ?_
  refine QL_nil ?_
  refine WM_q ⟨S73, XCw73⟩ rfl rfl rfl ?_
  first | refine q_assign (v := .slice _ _ _) rfl rfl ?_ | refine q_assign (by conv => lhs; whnf) rfl ?_
  refine QL_nil ?_
  refine WM_q ⟨S73, XCw73⟩ rfl rfl rfl ?_
  first | refine q_assign (v := .int .i64 _) rfl rfl ?_ | refine q_assign (by conv => lhs; whnf) rfl ?_
  refine QL_nil ?_
  refine WM_nil ⟨S73, XCw73⟩ ?_
  refine W_seq ?_
  refine W_region ?_
  refine o_build bld_48 (vs := [(1, .int .i64 _)]) (cs := [_, _, _, _, _, _]) rfl rfl rfl rfl ?_
  refine o_build bld_48 (vs := [(1, .int .i64 _)]) (cs := [_, _, _, _, _, _]) rfl rfl rfl rfl ?_
  refine o_buildSlice S73 slz_22 (vs := [.agg _, .agg _]) (cs := [_, _, _, _, _, _, _, _, _, _, _, _]) (by rfl) rfl rfl rfl rfl rfl rfl ?_
  intro g80 w80 S80 X80 G80
  replace r32 := RdE.keep (X80.of_nil) _ _ r32
  replace r58 := RdE.keep (X80.of_nil) _ _ r58
  replace r29 := r29.keep (X80.of_nil)
  replace r43 := r43.keep (X80.of_nil)
  replace ro49 := ro49.keep (X80.of_nil)
  replace rn49 := rn49.keep (X80.of_nil)
  replace r55 := r55.keep (X80.of_nil)
  replace ro63 := ro63.keep (X80.of_nil)
  replace rn63 := rn63.keep (X80.of_nil)
  replace r69 := r69.keep (X80.of_nil)
  first | refine o_assign (v := .slice _ _ _) rfl rfl ?_ | refine o_assign (by conv => lhs; whnf) rfl ?_
  refine WL_nil ?_
  refine W_seq ?_
  refine W_region ?_
  first | refine o_move (v := .slice _ _ _) rfl rfl ?_ | refine o_move (by conv => lhs; whnf) rfl ?_
  refine o_calln S80 has_20 rfl rfl (cell_fn 0 8 (by decide) (by decide) [] _) ?_
  rintro v83 w83 ⟨c83, rfl, r83⟩ S83 X83
  replace r32 := RdE.keep (X83.of_nil) _ _ r32
  replace r58 := RdE.keep (X83.of_nil) _ _ r58
  replace r29 := r29.keep (X83.of_nil)
  replace r43 := r43.keep (X83.of_nil)
  replace ro49 := ro49.keep (X83.of_nil)
  replace rn49 := rn49.keep (X83.of_nil)
  replace r55 := r55.keep (X83.of_nil)
  replace ro63 := ro63.keep (X83.of_nil)
  replace rn63 := rn63.keep (X83.of_nil)
  replace r69 := r69.keep (X83.of_nil)
  refine o_calln S83 has_20 rfl rfl (cell_fn 0 8 (by decide) (by decide) [] _) ?_
  rintro v84 w84 ⟨c84, rfl, r84⟩ S84 X84
  replace r32 := RdE.keep (X84.of_nil) _ _ r32
  replace r58 := RdE.keep (X84.of_nil) _ _ r58
  replace r29 := r29.keep (X84.of_nil)
  replace r43 := r43.keep (X84.of_nil)
  replace ro49 := ro49.keep (X84.of_nil)
  replace rn49 := rn49.keep (X84.of_nil)
  replace r55 := r55.keep (X84.of_nil)
  replace ro63 := ro63.keep (X84.of_nil)
  replace rn63 := rn63.keep (X84.of_nil)
  replace r69 := r69.keep (X84.of_nil)
  refine o_calln S84 has_12 rfl rfl (two_fn 11 1 (by decide) (by decide) _ _ _ _ [] _ (by simp) (rdE_any r83) r84) ?_
  rintro v85 w85 ⟨c85, rfl, r85⟩ S85 X85
  replace r32 := RdE.keep (X85.of_nil) _ _ r32
  replace r58 := RdE.keep (X85.of_nil) _ _ r58
  replace r29 := r29.keep (X85.of_nil)
  replace r43 := r43.keep (X85.of_nil)
  replace ro49 := ro49.keep (X85.of_nil)
  replace rn49 := rn49.keep (X85.of_nil)
  replace r55 := r55.keep (X85.of_nil)
  replace ro63 := ro63.keep (X85.of_nil)
  replace rn63 := rn63.keep (X85.of_nil)
  replace r69 := r69.keep (X85.of_nil)
  refine o_calln S85 has_22 rfl rfl (old_fn 1 7 (by decide) (by decide) [] _) ?_
  rintro v86 w86 ⟨c86, rfl, r86⟩ S86 X86
  replace r32 := RdE.keep (X86.of_nil) _ _ r32
  replace r58 := RdE.keep (X86.of_nil) _ _ r58
  replace r85 := RdE.keep (X86.of_nil) _ _ r85
  replace r29 := r29.keep (X86.of_nil)
  replace r43 := r43.keep (X86.of_nil)
  replace ro49 := ro49.keep (X86.of_nil)
  replace rn49 := rn49.keep (X86.of_nil)
  replace r55 := r55.keep (X86.of_nil)
  replace ro63 := ro63.keep (X86.of_nil)
  replace rn63 := rn63.keep (X86.of_nil)
  replace r69 := r69.keep (X86.of_nil)
  refine o_calln S86 has_16 rfl rfl (const_fn 0 7 (by decide) (by decide) [] _) ?_
  rintro v87 w87 ⟨c87, rfl, r87⟩ S87 X87
  replace r32 := RdE.keep (X87.of_nil) _ _ r32
  replace r58 := RdE.keep (X87.of_nil) _ _ r58
  replace r85 := RdE.keep (X87.of_nil) _ _ r85
  replace r29 := r29.keep (X87.of_nil)
  replace r43 := r43.keep (X87.of_nil)
  replace ro49 := ro49.keep (X87.of_nil)
  replace rn49 := rn49.keep (X87.of_nil)
  replace r55 := r55.keep (X87.of_nil)
  replace ro63 := ro63.keep (X87.of_nil)
  replace rn63 := rn63.keep (X87.of_nil)
  replace r69 := r69.keep (X87.of_nil)
  refine o_calln S87 has_12 rfl rfl (two_fn 11 1 (by decide) (by decide) _ _ _ _ [] _ (by simp) (rdE_any r86) r87) ?_
  rintro v88 w88 ⟨c88, rfl, r88⟩ S88 X88
  replace r32 := RdE.keep (X88.of_nil) _ _ r32
  replace r58 := RdE.keep (X88.of_nil) _ _ r58
  replace r85 := RdE.keep (X88.of_nil) _ _ r85
  replace r29 := r29.keep (X88.of_nil)
  replace r43 := r43.keep (X88.of_nil)
  replace ro49 := ro49.keep (X88.of_nil)
  replace rn49 := rn49.keep (X88.of_nil)
  replace r55 := r55.keep (X88.of_nil)
  replace ro63 := ro63.keep (X88.of_nil)
  replace rn63 := rn63.keep (X88.of_nil)
  replace r69 := r69.keep (X88.of_nil)
  refine o_calln S88 has_11 rfl rfl (cond_fn _ _ _ _ [] _ r85 r88) ?_
  rintro v89 w89 ⟨c89, rfl, r89⟩ S89 X89
  replace r32 := RdE.keep (X89.of_nil) _ _ r32
  replace r58 := RdE.keep (X89.of_nil) _ _ r58
  replace r85 := RdE.keep (X89.of_nil) _ _ r85
  replace r29 := r29.keep (X89.of_nil)
  replace r43 := r43.keep (X89.of_nil)
  replace ro49 := ro49.keep (X89.of_nil)
  replace rn49 := rn49.keep (X89.of_nil)
  replace r55 := r55.keep (X89.of_nil)
  replace ro63 := ro63.keep (X89.of_nil)
  replace rn63 := rn63.keep (X89.of_nil)
  replace r69 := r69.keep (X89.of_nil)
  refine o_calln S89 has_9 rfl rfl (decide_fn exE cellsB [] _ _ _ r89 (rd_two (cx := [.string ByteArray.empty, .int .i64 8, .int .i64 0, .int .i64 0, .bool false, .int .i64 0]) (cy := [.string ByteArray.empty, .int .i64 7, .int .i64 0, .int .i64 0, .bool false, .int .i64 0]) (S89.cells 0 rfl) rfl rfl (by simp) ⟨rfl, by decide, by decide, by decide, by decide⟩ ⟨rfl, by decide, by decide, by decide, by decide⟩) (hK.keep (S89.keep0 [])) (by simp) (by decide)) ?_
  rintro v90 w90 r90 S90 X90
  replace r32 := RdE.keep (X90.of_nil) _ _ r32
  replace r58 := RdE.keep (X90.of_nil) _ _ r58
  replace r85 := RdE.keep (X90.of_nil) _ _ r85
  replace r29 := r29.keep (X90.of_nil)
  replace r43 := r43.keep (X90.of_nil)
  replace ro49 := ro49.keep (X90.of_nil)
  replace rn49 := rn49.keep (X90.of_nil)
  replace r55 := r55.keep (X90.of_nil)
  replace ro63 := ro63.keep (X90.of_nil)
  replace rn63 := rn63.keep (X90.of_nil)
  replace r69 := r69.keep (X90.of_nil)
  have e90 := exE_res r90
  subst e90
  first | refine o_move (v := .tuple _) rfl rfl ?_ | refine o_move (by conv => lhs; whnf) rfl ?_
  refine o_extract rfl rfl rfl ?_
  refine o_extract rfl rfl rfl ?_
  refine o_extract rfl rfl rfl ?_
  refine o_extract rfl rfl rfl ?_
  first | refine o_assign (v := .int .i64 _) rfl rfl ?_ | refine o_assign (by conv => lhs; whnf) rfl ?_
  first | refine o_assign (v := .slice _ _ _) rfl rfl ?_ | refine o_assign (by conv => lhs; whnf) rfl ?_
  first | refine o_assign (v := .slice _ _ _) rfl rfl ?_ | refine o_assign (by conv => lhs; whnf) rfl ?_
  first | refine o_assign (v := .int .i64 _) rfl rfl ?_ | refine o_assign (by conv => lhs; whnf) rfl ?_
  refine WL_nil ?_
  refine W_seq ?_
  refine W_region ?_
  first | refine o_move (v := .int .i64 _) rfl rfl ?_ | refine o_move (by conv => lhs; whnf) rfl ?_
  refine o_eql rfl rfl rfl (fun h96 => ?_) (fun h96 => ?_)
  · first | refine o_move (v := .bool _) rfl rfl ?_ | refine o_move (by conv => lhs; whnf) rfl ?_
    refine WL_on rfl rfl rfl ?_
    first | refine o_move (v := .int .i64 _) rfl rfl ?_ | refine o_move (by conv => lhs; whnf) rfl ?_
    refine WL_on rfl rfl rfl ?_
    refine o_eql rfl rfl rfl (fun h99 => ?_) (fun h99 => ?_)
    · first | refine o_pick rfl (v := .bool _) rfl rfl ?_ | refine o_pick rfl (by conv => lhs; whnf) rfl ?_
      first | refine o_move (v := .bool _) rfl rfl ?_ | refine o_move (by conv => lhs; whnf) rfl ?_
      refine WL_on rfl rfl rfl ?_
      first | refine o_move (v := .int .i64 _) rfl rfl ?_ | refine o_move (by conv => lhs; whnf) rfl ?_
      refine WL_on rfl rfl rfl ?_
      refine o_eql rfl rfl rfl (fun h103 => ?_) (fun h103 => ?_)
      · first | refine o_pick rfl (v := .bool _) rfl rfl ?_ | refine o_pick rfl (by conv => lhs; whnf) rfl ?_
        first | refine o_move (v := .bool _) rfl rfl ?_ | refine o_move (by conv => lhs; whnf) rfl ?_
        refine WL_on rfl rfl rfl ?_
        first | refine o_move (v := .slice _ _ _) rfl rfl ?_ | refine o_move (by conv => lhs; whnf) rfl ?_
        refine WL_on rfl rfl rfl ?_
        refine o_buildSlice S90 slz_28 (vs := [.int .i64 _, .int .i64 _]) (cs := [_, _]) (by rfl) rfl rfl rfl rfl rfl rfl ?_
        intro g107 w107 S107 X107 G107
        replace r32 := RdE.keep (X107.of_nil) _ _ r32
        replace r58 := RdE.keep (X107.of_nil) _ _ r58
        replace r85 := RdE.keep (X107.of_nil) _ _ r85
        replace r29 := r29.keep (X107.of_nil)
        replace r43 := r43.keep (X107.of_nil)
        replace ro49 := ro49.keep (X107.of_nil)
        replace rn49 := rn49.keep (X107.of_nil)
        replace r55 := r55.keep (X107.of_nil)
        replace ro63 := ro63.keep (X107.of_nil)
        replace rn63 := rn63.keep (X107.of_nil)
        replace r69 := r69.keep (X107.of_nil)
        refine WL_on rfl rfl rfl ?_
        refine o_callr S107 has_23 rfl rfl (ints_true_fn [] _ _ _ [0, 0] ro49 (rdI_own (k := 0) S107 rfl (by simp) rfl (by omega) (by simp [i64]))) ?_
        intro w108 S108 X108
        replace r32 := RdE.keep (X108.of_nil) _ _ r32
        replace r58 := RdE.keep (X108.of_nil) _ _ r58
        replace r85 := RdE.keep (X108.of_nil) _ _ r85
        replace r29 := r29.keep (X108.of_nil)
        replace r43 := r43.keep (X108.of_nil)
        replace ro49 := ro49.keep (X108.of_nil)
        replace rn49 := rn49.keep (X108.of_nil)
        replace r55 := r55.keep (X108.of_nil)
        replace ro63 := ro63.keep (X108.of_nil)
        replace rn63 := rn63.keep (X108.of_nil)
        replace r69 := r69.keep (X108.of_nil)
        first | refine o_pick rfl (v := .bool _) rfl rfl ?_ | refine o_pick rfl (by conv => lhs; whnf) rfl ?_
        first | refine o_move (v := .bool _) rfl rfl ?_ | refine o_move (by conv => lhs; whnf) rfl ?_
        refine WL_on rfl rfl rfl ?_
        first | refine o_move (v := .slice _ _ _) rfl rfl ?_ | refine o_move (by conv => lhs; whnf) rfl ?_
        refine WL_on rfl rfl rfl ?_
        refine o_buildSlice S108 slz_28 (vs := [.int .i64 _, .int .i64 _]) (cs := [_, _]) (by rfl) rfl rfl rfl rfl rfl rfl ?_
        intro g112 w112 S112 X112 G112
        replace r32 := RdE.keep (X112.of_nil) _ _ r32
        replace r58 := RdE.keep (X112.of_nil) _ _ r58
        replace r85 := RdE.keep (X112.of_nil) _ _ r85
        replace r29 := r29.keep (X112.of_nil)
        replace r43 := r43.keep (X112.of_nil)
        replace ro49 := ro49.keep (X112.of_nil)
        replace rn49 := rn49.keep (X112.of_nil)
        replace r55 := r55.keep (X112.of_nil)
        replace ro63 := ro63.keep (X112.of_nil)
        replace rn63 := rn63.keep (X112.of_nil)
        replace r69 := r69.keep (X112.of_nil)
        refine WL_on rfl rfl rfl ?_
        refine o_callr S112 has_23 rfl rfl (ints_true_fn [] _ _ _ [1, 0] rn49 (rdI_own (k := 0) S112 rfl (by simp) rfl (by omega) (by simp [i64]))) ?_
        intro w113 S113 X113
        replace r32 := RdE.keep (X113.of_nil) _ _ r32
        replace r58 := RdE.keep (X113.of_nil) _ _ r58
        replace r85 := RdE.keep (X113.of_nil) _ _ r85
        replace r29 := r29.keep (X113.of_nil)
        replace r43 := r43.keep (X113.of_nil)
        replace ro49 := ro49.keep (X113.of_nil)
        replace rn49 := rn49.keep (X113.of_nil)
        replace r55 := r55.keep (X113.of_nil)
        replace ro63 := ro63.keep (X113.of_nil)
        replace rn63 := rn63.keep (X113.of_nil)
        replace r69 := r69.keep (X113.of_nil)
        first | refine o_pick rfl (v := .bool _) rfl rfl ?_ | refine o_pick rfl (by conv => lhs; whnf) rfl ?_
        first | refine o_move (v := .bool _) rfl rfl ?_ | refine o_move (by conv => lhs; whnf) rfl ?_
        refine WL_on rfl rfl rfl ?_
        first | refine o_move (v := .int .i64 _) rfl rfl ?_ | refine o_move (by conv => lhs; whnf) rfl ?_
        refine WL_on rfl rfl rfl ?_
        refine o_eql rfl rfl rfl (fun h117 => ?_) (fun h117 => ?_)
        · first | refine o_pick rfl (v := .bool _) rfl rfl ?_ | refine o_pick rfl (by conv => lhs; whnf) rfl ?_
          first | refine o_move (v := .bool _) rfl rfl ?_ | refine o_move (by conv => lhs; whnf) rfl ?_
          refine WL_on rfl rfl rfl ?_
          first | refine o_move (v := .int .i64 _) rfl rfl ?_ | refine o_move (by conv => lhs; whnf) rfl ?_
          refine WL_on rfl rfl rfl ?_
          refine o_eql rfl rfl rfl (fun h121 => ?_) (fun h121 => ?_)
          · first | refine o_pick rfl (v := .bool _) rfl rfl ?_ | refine o_pick rfl (by conv => lhs; whnf) rfl ?_
            first | refine o_move (v := .bool _) rfl rfl ?_ | refine o_move (by conv => lhs; whnf) rfl ?_
            refine WL_on rfl rfl rfl ?_
            first | refine o_move (v := .slice _ _ _) rfl rfl ?_ | refine o_move (by conv => lhs; whnf) rfl ?_
            refine WL_on rfl rfl rfl ?_
            refine o_buildSlice S113 slz_28 (vs := [.int .i64 _, .int .i64 _]) (cs := [_, _]) (by rfl) rfl rfl rfl rfl rfl rfl ?_
            intro g125 w125 S125 X125 G125
            replace r32 := RdE.keep (X125.of_nil) _ _ r32
            replace r58 := RdE.keep (X125.of_nil) _ _ r58
            replace r85 := RdE.keep (X125.of_nil) _ _ r85
            replace r29 := r29.keep (X125.of_nil)
            replace r43 := r43.keep (X125.of_nil)
            replace ro49 := ro49.keep (X125.of_nil)
            replace rn49 := rn49.keep (X125.of_nil)
            replace r55 := r55.keep (X125.of_nil)
            replace ro63 := ro63.keep (X125.of_nil)
            replace rn63 := rn63.keep (X125.of_nil)
            replace r69 := r69.keep (X125.of_nil)
            refine WL_on rfl rfl rfl ?_
            refine o_callr S125 has_23 rfl rfl (ints_true_fn [] _ _ _ [0, 2] ro63 (rdI_own (k := 0) S125 rfl (by simp) rfl (by omega) (by simp [i64]))) ?_
            intro w126 S126 X126
            replace r32 := RdE.keep (X126.of_nil) _ _ r32
            replace r58 := RdE.keep (X126.of_nil) _ _ r58
            replace r85 := RdE.keep (X126.of_nil) _ _ r85
            replace r29 := r29.keep (X126.of_nil)
            replace r43 := r43.keep (X126.of_nil)
            replace ro49 := ro49.keep (X126.of_nil)
            replace rn49 := rn49.keep (X126.of_nil)
            replace r55 := r55.keep (X126.of_nil)
            replace ro63 := ro63.keep (X126.of_nil)
            replace rn63 := rn63.keep (X126.of_nil)
            replace r69 := r69.keep (X126.of_nil)
            first | refine o_pick rfl (v := .bool _) rfl rfl ?_ | refine o_pick rfl (by conv => lhs; whnf) rfl ?_
            first | refine o_move (v := .bool _) rfl rfl ?_ | refine o_move (by conv => lhs; whnf) rfl ?_
            refine WL_on rfl rfl rfl ?_
            first | refine o_move (v := .slice _ _ _) rfl rfl ?_ | refine o_move (by conv => lhs; whnf) rfl ?_
            refine WL_on rfl rfl rfl ?_
            refine o_buildSlice S126 slz_28 (vs := [.int .i64 _, .int .i64 _]) (cs := [_, _]) (by rfl) rfl rfl rfl rfl rfl rfl ?_
            intro g130 w130 S130 X130 G130
            replace r32 := RdE.keep (X130.of_nil) _ _ r32
            replace r58 := RdE.keep (X130.of_nil) _ _ r58
            replace r85 := RdE.keep (X130.of_nil) _ _ r85
            replace r29 := r29.keep (X130.of_nil)
            replace r43 := r43.keep (X130.of_nil)
            replace ro49 := ro49.keep (X130.of_nil)
            replace rn49 := rn49.keep (X130.of_nil)
            replace r55 := r55.keep (X130.of_nil)
            replace ro63 := ro63.keep (X130.of_nil)
            replace rn63 := rn63.keep (X130.of_nil)
            replace r69 := r69.keep (X130.of_nil)
            refine WL_on rfl rfl rfl ?_
            refine o_callr S130 has_23 rfl rfl (ints_true_fn [] _ _ _ [0, 2] rn63 (rdI_own (k := 0) S130 rfl (by simp) rfl (by omega) (by simp [i64]))) ?_
            intro w131 S131 X131
            replace r32 := RdE.keep (X131.of_nil) _ _ r32
            replace r58 := RdE.keep (X131.of_nil) _ _ r58
            replace r85 := RdE.keep (X131.of_nil) _ _ r85
            replace r29 := r29.keep (X131.of_nil)
            replace r43 := r43.keep (X131.of_nil)
            replace ro49 := ro49.keep (X131.of_nil)
            replace rn49 := rn49.keep (X131.of_nil)
            replace r55 := r55.keep (X131.of_nil)
            replace ro63 := ro63.keep (X131.of_nil)
            replace rn63 := rn63.keep (X131.of_nil)
            replace r69 := r69.keep (X131.of_nil)
            first | refine o_pick rfl (v := .bool _) rfl rfl ?_ | refine o_pick rfl (by conv => lhs; whnf) rfl ?_
            first | refine o_move (v := .bool _) rfl rfl ?_ | refine o_move (by conv => lhs; whnf) rfl ?_
            refine WL_on rfl rfl rfl ?_
            first | refine o_move (v := .int .i64 _) rfl rfl ?_ | refine o_move (by conv => lhs; whnf) rfl ?_
            refine WL_on rfl rfl rfl ?_
            refine o_eql rfl rfl rfl (fun h135 => ?_) (fun h135 => ?_)
            · first | refine o_pick rfl (v := .bool _) rfl rfl ?_ | refine o_pick rfl (by conv => lhs; whnf) rfl ?_
              first | refine o_move (v := .bool _) rfl rfl ?_ | refine o_move (by conv => lhs; whnf) rfl ?_
              refine WL_on rfl rfl rfl ?_
              first | refine o_move (v := .int .i64 _) rfl rfl ?_ | refine o_move (by conv => lhs; whnf) rfl ?_
              refine WL_on rfl rfl rfl ?_
              refine o_eql rfl rfl rfl (fun h139 => ?_) (fun h139 => ?_)
              · first | refine o_pick rfl (v := .bool _) rfl rfl ?_ | refine o_pick rfl (by conv => lhs; whnf) rfl ?_
                first | refine o_move (v := .bool _) rfl rfl ?_ | refine o_move (by conv => lhs; whnf) rfl ?_
                refine WL_on rfl rfl rfl ?_
                first | refine o_move (v := .int .i64 _) rfl rfl ?_ | refine o_move (by conv => lhs; whnf) rfl ?_
                refine WL_on rfl rfl rfl ?_
                refine o_eql rfl rfl rfl (fun h143 => ?_) (fun h143 => ?_)
                · first | refine o_pick rfl (v := .bool _) rfl rfl ?_ | refine o_pick rfl (by conv => lhs; whnf) rfl ?_
                  first | refine o_move (v := .bool _) rfl rfl ?_ | refine o_move (by conv => lhs; whnf) rfl ?_
                  refine WL_on rfl rfl rfl ?_
                  first | refine o_move (v := .int .i64 _) rfl rfl ?_ | refine o_move (by conv => lhs; whnf) rfl ?_
                  refine WL_on rfl rfl rfl ?_
                  refine o_eql rfl rfl rfl (fun h147 => ?_) (fun h147 => ?_)
                  · first | refine o_pick rfl (v := .bool _) rfl rfl ?_ | refine o_pick rfl (by conv => lhs; whnf) rfl ?_
                    first | refine o_move (v := .bool _) rfl rfl ?_ | refine o_move (by conv => lhs; whnf) rfl ?_
                    refine WL_on rfl rfl rfl ?_
                    first | refine o_move (v := .int .i64 _) rfl rfl ?_ | refine o_move (by conv => lhs; whnf) rfl ?_
                    refine WL_on rfl rfl rfl ?_
                    refine o_eql rfl rfl rfl (fun h151 => ?_) (fun h151 => ?_)
                    · first | refine o_pick rfl (v := .bool _) rfl rfl ?_ | refine o_pick rfl (by conv => lhs; whnf) rfl ?_
                      first | refine o_assign (v := .bool _) rfl rfl ?_ | refine o_assign (by conv => lhs; whnf) rfl ?_
                      refine WL_nil ?_
                      refine W_ret ?_
                      refine ret_1 rfl (by conv => lhs; whnf) ?_
                      exact ⟨rfl, S131.fin⟩
                    · exfalso; omega
                  · exfalso; omega
                · exfalso; omega
              · exfalso; omega
            · exfalso; omega
          · exfalso; omega
        · exfalso; omega
      · exfalso; omega
    · exfalso; omega
  · exfalso; omega
end Go.Proofs.YtinhchacppkmgaaDoor
