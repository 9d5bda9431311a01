/-
  Contracts: builders of expressions (relyguardref06), Ints (relyguardref10), two, cond, holds of the law.
-/
import Derived.Test.YtinhchacppkmgaaDoorDe4
import Derived.Test.YtinhchacppkmgaaDoorFwMix
namespace Go.Fw
open Go.RowKit
/-- One result that lies in cells. -/
theorem run_results_cell1 {P : Program} {fn : Func} {e : Env} {w : World} {a t n g : Nat} {cs : List Value} (h : fn.results = #[.cell a t]) (hM : Many P t n) (ha : e a = .pointer (some ⟨g, 0, none⟩)) (hc : Cells w g 0 cs) (hn : cs.length = n)
    {tmps : Array Value} (he : envOf { tmps, defers := [] } = e) : (results fn tmps).run P w = .ok (.agg cs.toArray) w := by
  subst he; subst hn
  simp only [envOf, Array.getD_eq_getD_getElem?] at ha
  have := run_loadCells_list (P := P) w ⟨g, 0, none⟩ cs (fun j v hj => by rw [Addr.add_lit]; exact hc j v hj)
  simp [results, h, asAddr, ha, hM w, this]
theorem ret_cell1 {P : Program} {fn : Func} {e : Env} {w : World} {R : Value → World → Prop} {a t n g : Nat} {cs : List Value} (h : fn.results = #[.cell a t]) (hM : Many P t n) (ha : e a = .pointer (some ⟨g, 0, none⟩)) (hc : Cells w g 0 cs) (hn : cs.length = n)
    (hR : R (.agg cs.toArray) w) : RetPost P fn R [] e w :=
  ⟨rfl, fun _ he => ⟨_, run_results_cell1 h hM ha hc hn he, hR⟩⟩

/-- A leaf of an expression. -/
theorem rdE_leaf {M : List Nat} {w : World} {op wd n : Int} (h1 : i64 op) (h2 : i64 wd) (h3 : i64 n) : RdE M w ⟨op, wd, n, []⟩ [.int .i64 op, .int .i64 wd, .int .i64 n, .slice none 0 0] := by
  rw [RdE]; exact ⟨none, 0, 0, rfl, h1, h2, h3, rfl, Nat.le_refl _, by unfold maxLen; omega, by omega, fun h => absurd h (by omega)⟩

/-- A node of two kids. -/
theorem rdE_two {M : List Nat} {w : World} {op wd : Int} {a b : E} {ca cb : List Value} {g : Nat} (h1 : i64 op) (h2 : i64 wd) (hg : g ∉ M) (hc : Cells w g 0 (ca ++ cb)) (ha : RdE M w a ca) (hb : RdE M w b cb) :
    RdE M w ⟨op, wd, 0, [a, b]⟩ [.int .i64 op, .int .i64 wd, .int .i64 0, .slice (some ⟨g, 0, none⟩) 2 2] := by
  have la := ha.length
  rw [RdE]
  refine ⟨_, 2, 2, rfl, h1, h2, by unfold i64; simp, rfl, Nat.le_refl _, by unfold maxLen; omega, by omega, fun _ => ⟨g, 0, rfl, hg, fun i hi => ?_⟩⟩
  have hi2 : i < 2 := hi
  rcases (show i = 0 ∨ i = 1 by omega) with rfl | rfl
  · refine ⟨ca, fun j v hj => ?_, ha⟩
    have hl : j < ca.length := (List.getElem?_eq_some_iff.1 hj).1
    have := hc j v (by rw [List.getElem?_append_left hl]; exact hj)
    simpa using this
  · refine ⟨cb, fun j v hj => ?_, hb⟩
    have := hc (4 + j) v (by rw [List.getElem?_append_right (by omega)]; simpa [la] using hj)
    simpa using this
/-- Whether a verdict is Yes, and whether there is one. -/
def CondD.yes (cells : List CellD) (c : CondD) : Prop := c.formed cells = true ∧ c.bits cells ≤ 14 ∧ ∀ n, n < 2 ^ (c.bits cells).toNat → c.hit cells n = false
def CondD.done (cells : List CellD) (c : CondD) : Prop := c.formed cells = true ∧ c.bits cells ≤ 14
def mkC (a b : E) : CondD := ⟨ByteArray.empty, 0, 0, 0, 0, 0, a, b⟩
end Go.Fw
namespace Go.Proofs.YtinhchacppkmgaaDoor
open Go.Fw Go.RowKit

theorem cell_fn (n wd : Int) (hn : i64 n) (hw : i64 wd) (M : List Nat) (w0 : World) :
    Does Tryd.prog 20 #[.int .i64 n, .int .i64 wd] w0 fun v w' => (∃ cs : List Value, v = .agg cs.toArray ∧ RdE M w' ⟨2, wd, n, []⟩ cs) ∧ Below w0.heap.size w0 w' := by
  have S := St.refl w0
  refine Does_enter Tryd.func20 rfl Tryd.ntmps20 rfl ?_
  refine W_seq ?_
  refine W_region ?_
  refine o_alloc S zv_25 rfl rfl ?_
  intro g4 w4 S4 X4 G4
  refine WL_nil ?_
  refine W_seq ?_
  refine W_region ?_
  first | refine o_move (v := .int .i64 _) rfl rfl ?_ | refine o_move (by conv => lhs; whnf) rfl ?_
  first | refine o_move (v := .int .i64 _) rfl rfl ?_ | refine o_move (by conv => lhs; whnf) rfl ?_
  refine o_build bld_25 (vs := [(0, .int .i64 _), (1, .int .i64 _), (2, .int .i64 _)]) (cs := [_, _, _, _]) rfl rfl rfl rfl ?_
  first | refine o_storeN (kk := 0) (vs := [_, _, _, _]) S4 sz_25 rfl rfl rfl rfl rfl rfl rfl ?_
  intro w1_3 S1_3 X1_3
  dsimp only [setsAt, List.set] at S1_3
  refine WL_nil ?_
  refine W_ret ?_
  exact ret_cell1 rfl many_25 rfl (S1_3.cells 0 rfl) rfl ⟨⟨_, rfl, rdE_leaf (by unfold i64; omega) hw hn⟩, S1_3.fin⟩

theorem const_fn (n wd : Int) (hn : i64 n) (hw : i64 wd) (M : List Nat) (w0 : World) :
    Does Tryd.prog 16 #[.int .i64 n, .int .i64 wd] w0 fun v w' => (∃ cs : List Value, v = .agg cs.toArray ∧ RdE M w' ⟨1, wd, n, []⟩ cs) ∧ Below w0.heap.size w0 w' := by
  have S := St.refl w0
  refine Does_enter Tryd.func16 rfl Tryd.ntmps16 rfl ?_
  refine W_seq ?_
  refine W_region ?_
  refine o_alloc S zv_25 rfl rfl ?_
  intro g4 w4 S4 X4 G4
  refine WL_nil ?_
  refine W_seq ?_
  refine W_region ?_
  first | refine o_move (v := .int .i64 _) rfl rfl ?_ | refine o_move (by conv => lhs; whnf) rfl ?_
  first | refine o_move (v := .int .i64 _) rfl rfl ?_ | refine o_move (by conv => lhs; whnf) rfl ?_
  refine o_build bld_25 (vs := [(0, .int .i64 _), (1, .int .i64 _), (2, .int .i64 _)]) (cs := [_, _, _, _]) rfl rfl rfl rfl ?_
  first | refine o_storeN (kk := 0) (vs := [_, _, _, _]) S4 sz_25 rfl rfl rfl rfl rfl rfl rfl ?_
  intro w1_3 S1_3 X1_3
  dsimp only [setsAt, List.set] at S1_3
  refine WL_nil ?_
  refine W_ret ?_
  exact ret_cell1 rfl many_25 rfl (S1_3.cells 0 rfl) rfl ⟨⟨_, rfl, rdE_leaf (by unfold i64; omega) hw hn⟩, S1_3.fin⟩

theorem old_fn (n wd : Int) (hn : i64 n) (hw : i64 wd) (M : List Nat) (w0 : World) :
    Does Tryd.prog 22 #[.int .i64 n, .int .i64 wd] w0 fun v w' => (∃ cs : List Value, v = .agg cs.toArray ∧ RdE M w' ⟨3, wd, n, []⟩ cs) ∧ Below w0.heap.size w0 w' := by
  have S := St.refl w0
  refine Does_enter Tryd.func22 rfl Tryd.ntmps22 rfl ?_
  refine W_seq ?_
  refine W_region ?_
  refine o_alloc S zv_25 rfl rfl ?_
  intro g4 w4 S4 X4 G4
  refine WL_nil ?_
  refine W_seq ?_
  refine W_region ?_
  first | refine o_move (v := .int .i64 _) rfl rfl ?_ | refine o_move (by conv => lhs; whnf) rfl ?_
  first | refine o_move (v := .int .i64 _) rfl rfl ?_ | refine o_move (by conv => lhs; whnf) rfl ?_
  refine o_build bld_25 (vs := [(0, .int .i64 _), (1, .int .i64 _), (2, .int .i64 _)]) (cs := [_, _, _, _]) rfl rfl rfl rfl ?_
  first | refine o_storeN (kk := 0) (vs := [_, _, _, _]) S4 sz_25 rfl rfl rfl rfl rfl rfl rfl ?_
  intro w1_3 S1_3 X1_3
  dsimp only [setsAt, List.set] at S1_3
  refine WL_nil ?_
  refine W_ret ?_
  exact ret_cell1 rfl many_25 rfl (S1_3.cells 0 rfl) rfl ⟨⟨_, rfl, rdE_leaf (by unfold i64; omega) hw hn⟩, S1_3.fin⟩

theorem two_fn (op wd : Int) (ho : i64 op) (hw : i64 wd) (a b : E) (ca cb : List Value) (M : List Nat) (w0 : World) (hM : ∀ g ∈ M, g < w0.heap.size) (ha : RdE M w0 a ca) (hb : RdE M w0 b cb) :
    Does Tryd.prog 12 #[.int .i64 op, .int .i64 wd, .agg ca.toArray, .agg cb.toArray] w0 fun v w' => (∃ cs : List Value, v = .agg cs.toArray ∧ RdE M w' ⟨op, wd, 0, [a, b]⟩ cs) ∧ Below w0.heap.size w0 w' := by
  have S := St.refl w0
  obtain ⟨A, n, c, rfl, -⟩ := ha.open_
  obtain ⟨A', n', c', rfl, -⟩ := hb.open_
  refine Does_enter Tryd.func12 rfl Tryd.ntmps12 rfl ?_
  refine W_seq ?_
  refine W_region ?_
  refine o_boxa S (by conv => lhs; whnf) rfl ?_
  intro g6 w6 S6 X6 G6
  refine o_boxa S6 (by conv => lhs; whnf) rfl ?_
  intro g7 w7 S7 X7 G7
  refine o_alloc S7 zv_25 rfl rfl ?_
  intro g8 w8 S8 X8 G8
  refine WL_nil ?_
  refine W_seq ?_
  refine W_region ?_
  first | refine o_move (v := .int .i64 _) rfl rfl ?_ | refine o_move (by conv => lhs; whnf) rfl ?_
  first | refine o_move (v := .int .i64 _) rfl rfl ?_ | refine o_move (by conv => lhs; whnf) rfl ?_
  first | refine o_loadN many_25 rfl (S8.cells 0 rfl) rfl rfl ?_ | refine o_loadN many_25 rfl (S8.cells 1 rfl) rfl rfl ?_ | refine o_loadN many_25 rfl (S8.cells 2 rfl) rfl rfl ?_
  first | refine o_loadN many_25 rfl (S8.cells 0 rfl) rfl rfl ?_ | refine o_loadN many_25 rfl (S8.cells 1 rfl) rfl rfl ?_ | refine o_loadN many_25 rfl (S8.cells 2 rfl) rfl rfl ?_
  refine o_buildSlice S8 slz_23 (vs := [.agg _, .agg _]) (cs := [_, _, _, _, _, _, _, _]) (by rfl) rfl rfl rfl rfl rfl rfl ?_
  intro g13 w13 S13 X13 G13
  refine o_build bld_25 (vs := [(0, .int .i64 _), (1, .int .i64 _), (3, .slice _ _ _)]) (cs := [_, _, _, _]) rfl rfl rfl rfl ?_
  first | refine o_storeN (kk := 0) (vs := [_, _, _, _]) S13 sz_25 rfl rfl rfl rfl rfl rfl rfl ?_ | refine o_storeN (kk := 1) (vs := [_, _, _, _]) S13 sz_25 rfl rfl rfl rfl rfl rfl rfl ?_ | refine o_storeN (kk := 2) (vs := [_, _, _, _]) S13 sz_25 rfl rfl rfl rfl rfl rfl rfl ?_ | refine o_storeN (kk := 3) (vs := [_, _, _, _]) S13 sz_25 rfl rfl rfl rfl rfl rfl rfl ?_
  intro w1_6 S1_6 X1_6
  dsimp only [setsAt, List.set] at S1_6
  refine WL_nil ?_
  refine W_ret ?_
  refine ret_cell1 rfl many_25 rfl (S1_6.cells 1 rfl) rfl ⟨⟨_, rfl, rdE_two ho hw (fun hm => ?_) (S1_6.cells 0 rfl) (RdE.keep (S1_6.keep0 M) _ _ ha) (RdE.keep (S1_6.keep0 M) _ _ hb)⟩, S1_6.fin⟩
  have h1 := hM _ hm
  have h2 := S1_6.new 0 rfl
  simp at h2; omega

theorem cond_fn (a b : E) (ca cb : List Value) (M : List Nat) (w0 : World) (ha : RdE M w0 a ca) (hb : RdE M w0 b cb) :
    Does Tryd.prog 11 #[.agg ca.toArray, .agg cb.toArray] w0 fun v w' => (∃ cs : List Value, v = .agg cs.toArray ∧ RdCond M w' ⟨ByteArray.empty, 0, 0, 0, 0, 0, a, b⟩ cs) ∧ Below w0.heap.size w0 w' := by
  have S := St.refl w0
  obtain ⟨A, n, c, rfl, -⟩ := ha.open_
  obtain ⟨A', n', c', rfl, -⟩ := hb.open_
  refine Does_enter Tryd.func11 rfl Tryd.ntmps11 rfl ?_
  refine W_seq ?_
  refine W_region ?_
  refine o_boxa S (by conv => lhs; whnf) rfl ?_
  intro g2 w2 S2 X2 G2
  refine o_boxa S2 (by conv => lhs; whnf) rfl ?_
  intro g3 w3 S3 X3 G3
  refine o_alloc S3 zv_27 rfl rfl ?_
  intro g4 w4 S4 X4 G4
  refine WL_nil ?_
  refine W_seq ?_
  refine W_region ?_
  first | refine o_loadN many_25 rfl (S4.cells 0 rfl) rfl rfl ?_ | refine o_loadN many_25 rfl (S4.cells 1 rfl) rfl rfl ?_ | refine o_loadN many_25 rfl (S4.cells 2 rfl) rfl rfl ?_
  first | refine o_loadN many_25 rfl (S4.cells 0 rfl) rfl rfl ?_ | refine o_loadN many_25 rfl (S4.cells 1 rfl) rfl rfl ?_ | refine o_loadN many_25 rfl (S4.cells 2 rfl) rfl rfl ?_
  refine o_build bld_27 (vs := [(6, .agg _), (7, .agg _)]) (cs := [_, _, _, _, _, _, _, _, _, _, _, _, _, _]) rfl rfl rfl rfl ?_
  first | refine o_storeN (kk := 0) (vs := [_, _, _, _, _, _, _, _, _, _, _, _, _, _]) S4 sz_27 rfl rfl rfl rfl rfl rfl rfl ?_ | refine o_storeN (kk := 1) (vs := [_, _, _, _, _, _, _, _, _, _, _, _, _, _]) S4 sz_27 rfl rfl rfl rfl rfl rfl rfl ?_ | refine o_storeN (kk := 2) (vs := [_, _, _, _, _, _, _, _, _, _, _, _, _, _]) S4 sz_27 rfl rfl rfl rfl rfl rfl rfl ?_
  intro w1_3 S1_3 X1_3
  dsimp only [setsAt, List.set] at S1_3
  refine WL_nil ?_
  refine W_ret ?_
  exact ret_cell1 rfl many_27 rfl (S1_3.cells 0 rfl) rfl ⟨⟨_, rfl, _, _, rfl, RdE.keep (S1_3.keep0 M) _ _ ha, RdE.keep (S1_3.keep0 M) _ _ hb⟩, S1_3.fin⟩

theorem ints_fn (M : List Nat) (w0 : World) (va vb : Value) (a b : List Int) (ha : RdI M w0 va a) (hb : RdI M w0 vb b) :
    Does Tryd.prog 23 #[va, vb] w0 fun v w' => v = .bool (decide (a = b)) ∧ Below w0.heap.size w0 w' := by
  obtain ⟨Aa, na, ca, rfl⟩ := ha.form
  obtain ⟨hna, -, -, hbiga, hela⟩ := ha.at
  obtain ⟨Ab, nb, cb, rfl⟩ := hb.form
  obtain ⟨hnb, -, -, hbigb, helb⟩ := hb.at
  have S := St.refl w0
  refine Does_enter Tryd.func23 rfl Tryd.ntmps23 rfl ?_
  refine W_seq ?_
  refine W_region ?_
  first | refine o_assign (v := .bool _) rfl rfl ?_ | refine o_assign (by conv => lhs; whnf) rfl ?_
  refine WL_nil ?_
  refine W_seq ?_
  refine W_seq ?_
  refine W_region ?_
  first | refine o_move (v := .slice _ _ _) rfl rfl ?_ | refine o_move (by conv => lhs; whnf) rfl ?_
  refine o_len slz_28.slT rfl rfl ?_
  first | refine o_move (v := .slice _ _ _) rfl rfl ?_ | refine o_move (by conv => lhs; whnf) rfl ?_
  refine o_len slz_28.slT rfl rfl ?_
  refine o_neq rfl rfl rfl (fun h10 => ?_) (fun h10 => ?_)
  · refine WL_nil ?_
    refine W_then rfl ?_
    refine W_seq ?_
    refine W_region ?_
    first | refine o_assign (v := .bool _) rfl rfl ?_ | refine o_assign (by conv => lhs; whnf) rfl ?_
    refine WL_nil ?_
    refine W_ret ?_
    refine ret_1 rfl (by conv => lhs; whnf) ?_
    refine ⟨congrArg Value.bool ?_, S.fin⟩
    first
      | exact (decide_eq_false (fun h => by subst h; omega)).symm
      | exact (decide_eq_false (fun h => by subst h; exact absurd rfl h25)).symm
      | exact (decide_eq_true (List.ext_getElem? (fun j => by
           by_cases hj : j < k
           · exact hs j hj
           · rw [List.getElem?_eq_none (by omega), List.getElem?_eq_none (by omega)]))).symm
  · refine WL_nil ?_
    refine W_else rfl ?_
    refine W_skip ?_
    refine W_seq ?_
    refine W_seq ?_
    refine W_region ?_
    first | refine o_assign (v := .int .i64 _) rfl rfl ?_ | refine o_assign (by conv => lhs; whnf) rfl ?_
    refine WL_nil ?_
    refine W_block ?_
    refine W_loop (fun μ D ε w => D = [] ∧ ∃ k : Nat, (k + μ = a.length) ∧ (∀ j : Nat, j < k → a[j]? = b[j]?) ∧ St [] w0 w [] ∧ ε 0 = .slice Aa na ca ∧ ε 1 = .slice Ab nb cb ∧ ε 5 = .int .i64 k) (μ := a.length) ⟨rfl, 0, by omega, fun j h => absurd h (by omega), S, rfl, rfl, rfl⟩ ?_
    rintro μ D ε w ⟨rfl, k, hk, hs, S, e0, e1, e5⟩
    refine W_known 0 e0 ?_
    refine W_known 1 e1 ?_
    refine W_known 5 e5 ?_
    clear e0 e1 e5
    refine W_seq ?_
    refine W_seq ?_
    refine W_region ?_
    first | refine o_move (v := .int .i64 _) rfl rfl ?_ | refine o_move (by conv => lhs; whnf) rfl ?_
    first | refine o_move (v := .slice _ _ _) rfl rfl ?_ | refine o_move (by conv => lhs; whnf) rfl ?_
    refine o_len slz_28.slT rfl rfl ?_
    refine o_lss rfl rfl rfl (fun h14 => ?_) (fun h14 => ?_)
    · refine WL_nil ?_
      refine W_then rfl ?_
      refine W_skip ?_
      refine W_seq ?_
      refine W_block ?_
      refine W_seq ?_
      have hlt : k < a.length := by omega
      have hlt2 : k < b.length := by omega
      obtain ⟨ba, oa, hAa, hbMa, heea⟩ := hela (by omega)
      obtain ⟨ka, -, hka2, hka3⟩ := heea k a[k] (List.getElem?_eq_getElem hlt)
      have hca : w0.cell? ⟨ba, oa + k * 1, none⟩ = some (.int .i64 a[k]) := hka2 0 _ (by rw [hka3.1]; rfl)
      obtain ⟨bb, ob, hAb, hbMb, heeb⟩ := helb (by omega)
      obtain ⟨kb, -, hkb2, hkb3⟩ := heeb k b[k] (List.getElem?_eq_getElem hlt2)
      have hcb : w0.cell? ⟨bb, ob + k * 1, none⟩ = some (.int .i64 b[k]) := hkb2 0 _ (by rw [hkb3.1]; rfl)
      refine W_draw follows_mixed [0, 1, 2, 3, 4, 5, 6, 7, 8] [] [] (by kernel_rfl) rfl (Cl _ _ _ _) (Cl.start S) ?_
      first | refine q_move (v := .slice _ _ _) rfl rfl ?_ | refine q_move (by conv => lhs; whnf) rfl ?_
      first | refine q_move (v := .int .i64 _) rfl rfl ?_ | refine q_move (by conv => lhs; whnf) rfl ?_
      refine q_indexAddr slz_28.slT rfl (by first | rfl | assumption) rfl (by omega) (by omega) rfl ?_
      refine q_load one_3 rfl (fun w1 hw => by first | exact hw.1.old hca | exact hw.1.old hcb) rfl ?_
      first | refine q_move (v := .slice _ _ _) rfl rfl ?_ | refine q_move (by conv => lhs; whnf) rfl ?_
      first | refine q_move (v := .int .i64 _) rfl rfl ?_ | refine q_move (by conv => lhs; whnf) rfl ?_
      refine q_indexAddr slz_28.slT rfl (by first | rfl | assumption) rfl (by omega) (by omega) rfl ?_
      refine q_load one_3 rfl (fun w1 hw => by first | exact hw.1.old hca | exact hw.1.old hcb) rfl ?_
      refine q_neq rfl rfl rfl (fun h25 => ?_) (fun h25 => ?_)
      · refine QL_nil ?_
        refine BK_of ?_
        refine BKL_nil ?_
        rintro wR6 ⟨SR6, XR6⟩
        refine WL_nil ?_
        refine W_then rfl ?_
        refine W_seq ?_
        refine W_region ?_
        first | refine o_assign (v := .bool _) rfl rfl ?_ | refine o_assign (by conv => lhs; whnf) rfl ?_
        refine WL_nil ?_
        refine W_ret ?_
        refine ret_1 rfl (by conv => lhs; whnf) ?_
        refine ⟨congrArg Value.bool ?_, SR6.fin⟩
        first
          | exact (decide_eq_false (fun h => by subst h; omega)).symm
          | exact (decide_eq_false (fun h => by subst h; exact absurd rfl h25)).symm
          | exact (decide_eq_true (List.ext_getElem? (fun j => by
               by_cases hj : j < k
               · exact hs j hj
               · rw [List.getElem?_eq_none (by omega), List.getElem?_eq_none (by omega)]))).symm
      · refine QL_nil ?_
        refine BK_of ?_
        refine BKL_nil ?_
        rintro wR6 ⟨SR6, XR6⟩
        refine WL_nil ?_
        refine W_else rfl ?_
        refine W_skip ?_
        refine W_region ?_
        first | refine o_move (v := .int .i64 _) rfl rfl ?_ | refine o_move (by conv => lhs; whnf) rfl ?_
        refine o_add rfl rfl (by unfold i64; omega) rfl ?_
        first | refine o_assign (v := .int .i64 _) rfl rfl ?_ | refine o_assign (by conv => lhs; whnf) rfl ?_
        refine WL_nil ?_
        refine ⟨μ - 1, by omega, rfl, k + 1, by omega, fun j hj => ?_, SR6, rfl, rfl, rfl⟩
        by_cases hjk : j = k
        · subst hjk; rw [List.getElem?_eq_getElem hlt, List.getElem?_eq_getElem hlt2]; exact congrArg some (by omega)
        · exact hs j (by omega)
    · refine WL_nil ?_
      refine W_else rfl ?_
      refine W_exit ?_
      refine bcons_here ?_
      refine W_seq ?_
      refine W_region ?_
      first | refine o_assign (v := .bool _) rfl rfl ?_ | refine o_assign (by conv => lhs; whnf) rfl ?_
      refine WL_nil ?_
      refine W_ret ?_
      refine ret_1 rfl (by conv => lhs; whnf) ?_
      refine ⟨congrArg Value.bool ?_, S.fin⟩
      first
        | exact (decide_eq_false (fun h => by subst h; omega)).symm
        | exact (decide_eq_false (fun h => by subst h; exact absurd rfl h25)).symm
        | exact (decide_eq_true (List.ext_getElem? (fun j => by
             by_cases hj : j < k
             · exact hs j hj
             · rw [List.getElem?_eq_none (by omega), List.getElem?_eq_none (by omega)]))).symm


theorem DecRes.verdict {M : List Nat} {cells : List CellD} {c : CondD} {v : Value} {w : World} (h : DecRes M cells c v w) :
    ∃ x vo vn y, v = .tuple #[.int .i64 x, vo, vn, .int .i64 y] ∧ (x = 1 ↔ c.yes cells) ∧ (x ≠ 0 ↔ c.done cells) ∧ (x = 1 → vo = .slice none 0 0 ∧ vn = .slice none 0 0 ∧ y = 0) ∧
      (x = 2 → c.done cells ∧ y = 0 ∧ ∃ n, n < 2 ^ (c.bits cells).toNat ∧ c.hit cells n = true ∧ (∀ m, m < n → c.hit cells m = false) ∧ RdI M w vo (pairAt cells (c.sup 3) (c.sup 2) n).1 ∧ RdI M w vn (pairAt cells (c.sup 3) (c.sup 2) n).2) ∧
      (x = 0 ∨ x = 1 ∨ x = 2) ∧ (x = 0 → (c.formed cells = false → y = 60) ∧ (c.formed cells = true → y = 2) ∧ vo = .slice none 0 0 ∧ vn = .slice none 0 0) := by
  obtain ⟨x, vo, vn, y, rfl, h⟩ := h
  refine ⟨x, vo, vn, y, rfl, ?_⟩
  unfold CondD.yes CondD.done
  rcases h with ⟨f, rfl, rfl, rfl, rfl⟩ | ⟨f, g, rfl, rfl, rfl, rfl⟩ | ⟨f, g, hh, rfl, rfl, rfl, rfl⟩ | ⟨f, g, m, hm, hp, hl, rfl, r1, r2, rfl⟩
  · simp [f]
  · refine ⟨⟨fun h => absurd h (by omega), fun h => by omega⟩, ⟨fun h => absurd rfl h, fun h => by omega⟩, fun h => absurd h (by omega), fun h => absurd h (by omega), .inl rfl, fun _ => ⟨fun h => (by rw [f] at h; cases h), fun _ => rfl, rfl, rfl⟩⟩
  · exact ⟨⟨fun _ => ⟨f, g, hh⟩, fun _ => rfl⟩, ⟨fun _ => ⟨f, g⟩, fun _ => by omega⟩, fun _ => ⟨rfl, rfl, rfl⟩, fun h => absurd h (by omega), .inr (.inl rfl), fun h => absurd h (by omega)⟩
  · exact ⟨⟨fun h => absurd h (by omega), fun h => by have := h.2.2 m hm; rw [hp] at this; cases this⟩, ⟨fun _ => ⟨f, g⟩, fun _ => by omega⟩, fun h => absurd h (by omega), fun _ => ⟨⟨f, g⟩, rfl, m, hm, hp, hl, r1, r2⟩, .inr (.inr rfl), fun h => absurd h (by omega)⟩

theorem holds_fn (a b : E) (ca cb : List Value) (cells : List CellD) (vc : Value) (M : List Nat) (w0 : World) (ha : RdE M w0 a ca) (hb : RdE M w0 b cb) (hC : RdCs M w0 vc cells) (hK : Masks M w0) (hM : ∀ g ∈ M, g < w0.heap.size) (hcl : cells.length ≤ 1000) :
    Does Tryd.prog 15 #[vc, .agg ca.toArray, .agg cb.toArray] w0 fun v w' => (∃ y d : Bool, v = .tuple #[.bool y, .bool d] ∧ (y = true ↔ CondD.yes cells (mkC a b)) ∧ (d = true ↔ CondD.done cells (mkC a b))) ∧ Below w0.heap.size w0 w' := by
  have S := St.refl w0
  obtain ⟨A, n, c, rfl, -⟩ := ha.open_
  obtain ⟨A', n', c', rfl, -⟩ := hb.open_
  obtain ⟨Ac, nc, cc, rfl⟩ := hC.form
  refine Does_enter Tryd.func15 rfl Tryd.ntmps15 rfl ?_
  refine W_seq ?_
  refine W_region ?_
  refine o_boxa S (by conv => lhs; whnf) rfl ?_
  intro g4 w4 S4 X4 G4
  refine o_boxa S4 (by conv => lhs; whnf) rfl ?_
  intro g5 w5 S5 X5 G5
  first | refine o_assign (v := .bool _) rfl rfl ?_ | refine o_assign (by conv => lhs; whnf) rfl ?_
  first | refine o_assign (v := .bool _) rfl rfl ?_ | refine o_assign (by conv => lhs; whnf) rfl ?_
  refine WL_nil ?_
  refine W_seq ?_
  refine W_region ?_
  first | refine o_move (v := .slice _ _ _) rfl rfl ?_ | refine o_move (by conv => lhs; whnf) rfl ?_
  first | refine o_loadN many_25 rfl (S5.cells 0 rfl) rfl rfl ?_ | refine o_loadN many_25 rfl (S5.cells 1 rfl) rfl rfl ?_
  first | refine o_loadN many_25 rfl (S5.cells 0 rfl) rfl rfl ?_ | refine o_loadN many_25 rfl (S5.cells 1 rfl) rfl rfl ?_
  refine o_calln S5 has_11 rfl rfl (cond_fn a b _ _ M _ (RdE.keep (S5.keep0 M) _ _ ha) (RdE.keep (S5.keep0 M) _ _ hb)) ?_
  rintro v16 w16 ⟨cs, rfl, r16⟩ S16 X16
  refine o_calln S16 has_9 rfl rfl (decide_fn (mkC a b) cells M _ _ _ r16 (hC.keep (S16.keep0 M)) (hK.keep (S16.keep0 M)) (fun g hg => by have := hM g hg; have := S16.size; omega) hcl) ?_
  rintro v17 w17 r17 S17 X17
  obtain ⟨x, vo, vn, y, rfl, hy, hd, -⟩ := DecRes.verdict r17
  first | refine o_move (v := .tuple _) rfl rfl ?_ | refine o_move (by conv => lhs; whnf) rfl ?_
  refine o_extract rfl rfl rfl ?_
  refine o_extract rfl rfl rfl ?_
  refine o_extract rfl rfl rfl ?_
  refine o_extract rfl rfl rfl ?_
  first | refine o_assign (v := .int .i64 _) rfl rfl ?_ | refine o_assign (by conv => lhs; whnf) rfl ?_
  first | refine o_assign (v := .slice _ _ _) rfl rfl ?_ | refine o_assign (by conv => lhs; whnf) rfl ?_
  first | refine o_assign (v := .slice _ _ _) rfl rfl ?_ | refine o_assign (by conv => lhs; whnf) rfl ?_
  first | refine o_assign (v := .int .i64 _) rfl rfl ?_ | refine o_assign (by conv => lhs; whnf) rfl ?_
  refine WL_nil ?_
  refine W_seq ?_
  refine W_region ?_
  first | refine o_move (v := .int .i64 _) rfl rfl ?_ | refine o_move (by conv => lhs; whnf) rfl ?_
  refine o_eql rfl rfl rfl (fun h23 => ?_) (fun h23 => ?_)
  · first | refine o_move (v := .int .i64 _) rfl rfl ?_ | refine o_move (by conv => lhs; whnf) rfl ?_
    refine o_neq rfl rfl rfl (fun h25 => ?_) (fun h25 => ?_)
    · first | refine o_assign (v := .bool _) rfl rfl ?_ | refine o_assign (by conv => lhs; whnf) rfl ?_
      first | refine o_assign (v := .bool _) rfl rfl ?_ | refine o_assign (by conv => lhs; whnf) rfl ?_
      refine WL_nil ?_
      refine W_ret ?_
      refine ret_2 rfl (by conv => lhs; whnf) (by conv => lhs; whnf) ?_
      refine ⟨⟨_, _, rfl, ?_, ?_⟩, S17.fin⟩
      · rw [← hy]; first | exact ⟨fun _ => h23, fun _ => rfl⟩ | exact ⟨fun h => absurd h (by simp), fun h => absurd h h23⟩
      · rw [← hd]; first | exact ⟨fun _ => h25, fun _ => rfl⟩ | exact ⟨fun h => absurd h (by simp), fun h => absurd h (by omega)⟩
    · first | refine o_assign (v := .bool _) rfl rfl ?_ | refine o_assign (by conv => lhs; whnf) rfl ?_
      first | refine o_assign (v := .bool _) rfl rfl ?_ | refine o_assign (by conv => lhs; whnf) rfl ?_
      refine WL_nil ?_
      refine W_ret ?_
      refine ret_2 rfl (by conv => lhs; whnf) (by conv => lhs; whnf) ?_
      refine ⟨⟨_, _, rfl, ?_, ?_⟩, S17.fin⟩
      · rw [← hy]; first | exact ⟨fun _ => h23, fun _ => rfl⟩ | exact ⟨fun h => absurd h (by simp), fun h => absurd h h23⟩
      · rw [← hd]; first | exact ⟨fun _ => h25, fun _ => rfl⟩ | exact ⟨fun h => absurd h (by simp), fun h => absurd h (by omega)⟩
  · first | refine o_move (v := .int .i64 _) rfl rfl ?_ | refine o_move (by conv => lhs; whnf) rfl ?_
    refine o_neq rfl rfl rfl (fun h25 => ?_) (fun h25 => ?_)
    · first | refine o_assign (v := .bool _) rfl rfl ?_ | refine o_assign (by conv => lhs; whnf) rfl ?_
      first | refine o_assign (v := .bool _) rfl rfl ?_ | refine o_assign (by conv => lhs; whnf) rfl ?_
      refine WL_nil ?_
      refine W_ret ?_
      refine ret_2 rfl (by conv => lhs; whnf) (by conv => lhs; whnf) ?_
      refine ⟨⟨_, _, rfl, ?_, ?_⟩, S17.fin⟩
      · rw [← hy]; first | exact ⟨fun _ => h23, fun _ => rfl⟩ | exact ⟨fun h => absurd h (by simp), fun h => absurd h h23⟩
      · rw [← hd]; first | exact ⟨fun _ => h25, fun _ => rfl⟩ | exact ⟨fun h => absurd h (by simp), fun h => absurd h (by omega)⟩
    · first | refine o_assign (v := .bool _) rfl rfl ?_ | refine o_assign (by conv => lhs; whnf) rfl ?_
      first | refine o_assign (v := .bool _) rfl rfl ?_ | refine o_assign (by conv => lhs; whnf) rfl ?_
      refine WL_nil ?_
      refine W_ret ?_
      refine ret_2 rfl (by conv => lhs; whnf) (by conv => lhs; whnf) ?_
      refine ⟨⟨_, _, rfl, ?_, ?_⟩, S17.fin⟩
      · rw [← hy]; first | exact ⟨fun _ => h23, fun _ => rfl⟩ | exact ⟨fun h => absurd h (by simp), fun h => absurd h h23⟩
      · rw [← hd]; first | exact ⟨fun _ => h25, fun _ => rfl⟩ | exact ⟨fun h => absurd h (by simp), fun h => absurd h (by omega)⟩
end Go.Proofs.YtinhchacppkmgaaDoor
