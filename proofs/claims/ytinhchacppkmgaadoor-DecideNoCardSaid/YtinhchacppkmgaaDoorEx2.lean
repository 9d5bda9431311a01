/-
  Contracts of package expr: shapes and well-formedness.
-/
import Derived.Test.YtinhchacppkmgaaDoorEx1
import Derived.Test.YtinhchacppkmgaaDoorR20b
namespace Go.Fw
open Go.RowKit

/-- An expression lies at an address. -/
def RdP (M : List Nat) (w : World) (e : E) (b o : Nat) : Prop := b ∉ M ∧ ∃ cs, Cells w b o cs ∧ RdE M w e cs
theorem RdP.keep {M : List Nat} {w w' : World} {e : E} {b o : Nat} (h : RdP M w e b o) (hk : Keep M w w') : RdP M w' e b o := by
  obtain ⟨h1, cs, h2, h3⟩ := h
  exact ⟨h1, cs, h2.keep hk h1, RdE.keep hk _ _ h3⟩
theorem RdP.more {M M' : List Nat} {w : World} {e : E} {b o : Nat} (h : RdP M w e b o) (hM : ∀ g ∈ M', g ∈ M ∨ w.heap.size ≤ g) : RdP M' w e b o := by
  obtain ⟨h1, cs, h2, h3⟩ := h
  refine ⟨fun hh => ?_, cs, h2, RdE.more hM _ _ h3⟩
  rcases hM b hh with h | h
  · exact h1 h
  · have hl := h3.length
    have := World.block_lt_of_cell? w _ (h2 0 cs[0] (List.getElem?_eq_getElem (by omega)))
    simp at this; omega
theorem RdP.less {M M' : List Nat} {w : World} {e : E} {b o : Nat} (h : RdP M w e b o) (hM : ∀ g ∈ M', g ∈ M) : RdP M' w e b o := by
  obtain ⟨h1, cs, h2, h3⟩ := h
  exact ⟨fun hh => h1 (hM b hh), cs, h2, RdE.less hM _ _ h3⟩
theorem RdP.kid {M : List Nat} {w : World} {e : E} {b o : Nat} (hb : b ∉ M) (hkk : ∀ (i : Nat) (h : i < e.kids.length), ∃ cs', Cells w b (o + i * 4) cs' ∧ RdE M w e.kids[i] cs') (i : Nat) (hi : i < e.kids.length) : RdP M w e.kids[i] b (o + i * 4) := by
  obtain ⟨cs, h1, h2⟩ := hkk i hi
  exact ⟨hb, cs, h1, h2⟩

/-- What a caller opens. -/
theorem RdP.open_ {M : List Nat} {w : World} {e : E} {b o : Nat} (h : RdP M w e b o) : b ∉ M ∧ i64 e.op ∧ i64 e.w ∧ i64 e.n ∧ w.cell? ⟨b, o, none⟩ = some (.int .i64 e.op) ∧ w.cell? ⟨b, o + 1, none⟩ = some (.int .i64 e.w) ∧ w.cell? ⟨b, o + 2, none⟩ = some (.int .i64 e.n) ∧
    ∃ A n c, w.cell? ⟨b, o + 3, none⟩ = some (.slice A n c) ∧ n = e.kids.length ∧ n ≤ c ∧ c ≤ maxLen ∧ n ≤ 140737488355328 ∧
    (0 < n → ∃ b o, A = some ⟨b, o, none⟩ ∧ b ∉ M ∧ ∀ (i : Nat) (h : i < e.kids.length), ∃ cs', Cells w b (o + i * 4) cs' ∧ RdE M w e.kids[i] cs') ∧ RdE M w e [.int .i64 e.op, .int .i64 e.w, .int .i64 e.n, .slice A n c] := by
  obtain ⟨h1, cs, h2, h3⟩ := h
  obtain ⟨A, n, c, rfl, o1, o2, o3, h4, h5, h6, h7, h8⟩ := h3.open_
  exact ⟨h1, o1, o2, o3, h2 0 _ rfl, h2 1 _ rfl, h2 2 _ rfl, A, n, c, h2 3 _ rfl, h4, h5, h6, h7, h8, h3⟩

/-- The table of masks lies in its block. -/
def Masks (M : List Nat) (w : World) : Prop := 0 ∉ M ∧ ∀ i : Nat, i ≤ 8 → w.cell? ⟨0, i, none⟩ = some (.int .i64 (pow2 i - 1))
theorem Masks.keep {M : List Nat} {w w' : World} (h : Masks M w) (hk : Keep M w w') : Masks M w' := ⟨h.1, fun i hi => hk.cell (a := ⟨0, i, none⟩) h.1 (h.2 i hi)⟩
theorem Masks.more {M M' : List Nat} {w : World} (h : Masks M w) (hM : ∀ g ∈ M', g ∈ M ∨ w.heap.size ≤ g) : Masks M' w := by
  refine ⟨fun hh => ?_, h.2⟩
  rcases hM _ hh with h' | h'
  · exact h.1 h'
  · have := World.block_lt_of_cell? w _ (h.2 0 (by omega))
    simp at this; omega
theorem Masks.at {M : List Nat} {w : World} (h : Masks M w) {x : Int} (h0 : 0 ≤ x) (h8 : x ≤ 8) : w.cell? ⟨0, 0 + x.toNat * 1, none⟩ = some (.int .i64 (pow2 x.toNat - 1)) := by
  have := h.2 x.toNat (by omega)
  simpa using this

theorem St.ne {M : List Nat} {w0 w : World} {L : List Ent} (S : St M w0 w L) (i j : Nat) {g g' t t' : Nat} {cs cs' : List Value} (hi : L[i]? = some (some g, t, cs)) (hj : L[j]? = some (some g', t', cs')) (hij : i < j) : g ≠ g' := by
  obtain ⟨h1, e1⟩ := List.getElem?_eq_some_iff.1 hi
  obtain ⟨h2, e2⟩ := List.getElem?_eq_some_iff.1 hj
  have := List.pairwise_iff_getElem.1 S.apart i j h1 h2 hij g (by rw [e1])
  rw [e2] at this
  exact fun h => this (by rw [h])

def wideB (e : E) (ws : List Int) : Bool := decide (e.kids.length = ws.length ∧ ∀ j, j < ws.length → e.kw j = ws.getD j 0)
theorem wideB_1 {e : E} {a : Int} : wideB e [a] = true ↔ e.kids.length = 1 ∧ e.kw 0 = a := by
  simp only [wideB, decide_eq_true_eq, List.length_cons, List.length_nil]
  constructor
  · rintro ⟨h1, h2⟩; exact ⟨h1, by simpa using h2 0 (by omega)⟩
  · rintro ⟨h1, h2⟩; exact ⟨h1, fun j hj => by obtain rfl : j = 0 := by omega
                                               simpa using h2⟩
theorem wideB_2 {e : E} {a b : Int} : wideB e [a, b] = true ↔ e.kids.length = 2 ∧ e.kw 0 = a ∧ e.kw 1 = b := by
  simp only [wideB, decide_eq_true_eq, List.length_cons, List.length_nil]
  constructor
  · rintro ⟨h1, h2⟩; exact ⟨h1, by simpa using h2 0 (by omega), by simpa using h2 1 (by omega)⟩
  · rintro ⟨h1, h2, h3⟩
    refine ⟨h1, fun j hj => ?_⟩
    rcases (show j = 0 ∨ j = 1 by omega) with rfl | rfl
    · simpa using h2
    · simpa using h3
theorem wideB_3 {e : E} {a b c : Int} : wideB e [a, b, c] = true ↔ e.kids.length = 3 ∧ e.kw 0 = a ∧ e.kw 1 = b ∧ e.kw 2 = c := by
  simp only [wideB, decide_eq_true_eq, List.length_cons, List.length_nil]
  constructor
  · rintro ⟨h1, h2⟩; exact ⟨h1, by simpa using h2 0 (by omega), by simpa using h2 1 (by omega), by simpa using h2 2 (by omega)⟩
  · rintro ⟨h1, h2, h3, h4⟩
    refine ⟨h1, fun j hj => ?_⟩
    rcases (show j = 0 ∨ j = 1 ∨ j = 2 by omega) with rfl | rfl | rfl
    · simpa using h2
    · simpa using h3
    · simpa using h4
theorem rdI_own {w0 w : World} {L : List Ent} {k g el n : Nat} {M M' : List Nat} {l : List Int} (S : St M' w0 w L) (hk : L[k]? = some (some g, el, l.map (Value.int .i64))) (hM : g ∉ M) (hn : n = l.length) (hb : n ≤ 140737488355328) (hl : ∀ x ∈ l, i64 x) : RdI M w (.slice (some ⟨g, 0, none⟩) n n) l :=
  S.rd1 hk hM hn hb fun i x hi => ⟨.int .i64 x, by simp [hi], rfl, hl x (List.mem_of_getElem? hi)⟩
end Go.Fw
namespace Go.Proofs.YtinhchacppkmgaaDoor
open Go.Fw Go.RowKit

theorem wide_fn (e : E) (M : List Nat) (w0 : World) (v0 v1 v2 : Value) (A : Option Addr) (n c : Nat) (vw : Value) (ws : List Int) (hR : RdE M w0 e [v0, v1, v2, .slice A n c]) (hW : RdI M w0 vw ws) :
    Does Tryd.prog 65 #[.slice A n c, vw] w0 fun v w' => v = .bool (wideB e ws) ∧ Below w0.heap.size w0 w' := by
  obtain ⟨A', n', c', heq, o1, o2, o3, hn, hc, hm, hbig, hks⟩ := hR.open_
  obtain ⟨rfl, rfl, rfl, rfl, rfl, rfl⟩ : v0 = .int .i64 e.op ∧ v1 = .int .i64 e.w ∧ v2 = .int .i64 e.n ∧ A = A' ∧ n = n' ∧ c = c' := by simpa using heq
  clear heq
  obtain ⟨Aw, nw, cw, rfl⟩ := hW.form
  obtain ⟨hnw, hcw, hmw, hbw, hew⟩ := hW.at
  have S := St.refl w0
  refine Does_enter Tryd.func65 rfl Tryd.ntmps65 rfl ?_
  refine W_seq ?_
  refine W_region ?_
  first | refine o_assign (v := .bool _) rfl rfl ?_ | refine o_assign (by conv => lhs; whnf) rfl ?_
  refine WL_nil ?_
  refine W_seq ?_
  refine W_seq ?_
  refine W_region ?_
  first | refine o_move (v := .slice _ _ _) rfl rfl ?_ | refine o_move (by conv => lhs; whnf) rfl ?_
  refine o_len slz_23.slT rfl rfl ?_
  first | refine o_move (v := .slice _ _ _) rfl rfl ?_ | refine o_move (by conv => lhs; whnf) rfl ?_
  refine o_len slz_28.slT rfl rfl ?_
  refine o_neq rfl rfl rfl (fun h11 => ?_) (fun h11 => ?_)
  · refine WL_nil ?_
    refine W_then rfl ?_
    refine W_seq ?_
    refine W_region ?_
    first | refine o_assign (v := .bool _) rfl rfl ?_ | refine o_assign (by conv => lhs; whnf) rfl ?_
    refine WL_nil ?_
    refine W_ret ?_
    refine ret_1 rfl (by conv => lhs; whnf) ?_
    refine ⟨congrArg Value.bool ?_, S.fin⟩
    unfold wideB
    first
      | exact (decide_eq_false (fun h => by have := h.1; omega)).symm
      | exact (decide_eq_false (fun h => h25 (by have := h.2 k hlt; simpa [hlt] using this))).symm
      | exact (decide_eq_true ⟨by omega, fun j hj => hs j (by omega)⟩).symm
  · refine WL_nil ?_
    refine W_else rfl ?_
    refine W_skip ?_
    refine W_seq ?_
    refine W_seq ?_
    refine W_region ?_
    first | refine o_move (v := .slice _ _ _) rfl rfl ?_ | refine o_move (by conv => lhs; whnf) rfl ?_
    refine o_len slz_28.slT rfl rfl ?_
    first | refine o_move (v := .int .i64 _) rfl rfl ?_ | refine o_move (by conv => lhs; whnf) rfl ?_
    refine WL_nil ?_
    refine W_block ?_
    refine W_loop (fun μ D ε w => D = [] ∧ ∃ k : Nat, (k + μ = ws.length) ∧ (∀ (j : Nat), j < k → e.kw j = ws.getD j 0) ∧ St [] w0 w [] ∧ ε 0 = .slice A n c ∧ ε 12 = .slice Aw nw cw ∧ ε 13 = .int .i64 nw ∧ ε 14 = .int .i64 k) (μ := ws.length) ⟨rfl, 0, by omega, fun j h => absurd h (by omega), S, rfl, rfl, rfl, rfl⟩ ?_
    rintro μ D ε w ⟨rfl, k, hk, hs, S, e0, e12, e13, e14⟩
    refine W_known 0 e0 ?_
    refine W_known 12 e12 ?_
    refine W_known 13 e13 ?_
    refine W_known 14 e14 ?_
    clear e0 e12 e13 e14
    refine W_seq ?_
    refine W_region ?_
    refine o_lss rfl rfl rfl (fun h15 => ?_) (fun h15 => ?_)
    · refine WL_nil ?_
      refine W_seq ?_
      refine W_then rfl ?_
      refine W_skip ?_
      refine W_seq ?_
      refine W_block ?_
      refine W_seq ?_
      refine W_region ?_
      first | refine o_move (v := .int .i64 _) rfl rfl ?_ | refine o_move (by conv => lhs; whnf) rfl ?_
      have hlt : k < ws.length := by omega
      obtain ⟨bw, ow, hAw, hbwM, hee⟩ := hew (by omega)
      obtain ⟨cw1, hcl, hcw2, hcw3⟩ := hee k ws[k] (List.getElem?_eq_getElem hlt)
      have hcw' : w0.cell? ⟨bw, ow + k * 1, none⟩ = some (.int .i64 ws[k]) := hcw2 0 _ (by rw [hcw3.1]; rfl)
      refine o_indexAddr slz_28.slT rfl (by first | rfl | assumption) rfl (by omega) (by omega) rfl ?_
      refine o_load one_3 rfl (by first | exact S.old hcw' | exact S.old hck') rfl ?_
      first | refine o_assign (v := .int .i64 _) rfl rfl ?_ | refine o_assign (by conv => lhs; whnf) rfl ?_
      first | refine o_assign (v := .int .i64 _) rfl rfl ?_ | refine o_assign (by conv => lhs; whnf) rfl ?_
      refine WL_nil ?_
      refine W_seq ?_
      refine W_region ?_
      first | refine o_move (v := .slice _ _ _) rfl rfl ?_ | refine o_move (by conv => lhs; whnf) rfl ?_
      first | refine o_move (v := .int .i64 _) rfl rfl ?_ | refine o_move (by conv => lhs; whnf) rfl ?_
      obtain ⟨b, o, hA, hbM, hkk⟩ := hks (by omega)
      have hck' : w0.cell? ⟨b, o + k * 4 + 1, none⟩ = some (.int .i64 (e.kw k)) := kid_cells hkk k (by omega)
      refine o_indexAddr slz_23.slT rfl (by first | rfl | assumption) rfl (by omega) (by omega) rfl ?_
      refine o_fieldAddr fa_25_1 rfl rfl ?_
      refine o_load one_3 rfl (by first | exact S.old hcw' | exact S.old hck') rfl ?_
      first | refine o_move (v := .int .i64 _) rfl rfl ?_ | refine o_move (by conv => lhs; whnf) rfl ?_
      refine o_neq rfl rfl rfl (fun h25 => ?_) (fun h25 => ?_)
      · refine WL_nil ?_
        refine W_then rfl ?_
        refine W_seq ?_
        refine W_region ?_
        first | refine o_assign (v := .bool _) rfl rfl ?_ | refine o_assign (by conv => lhs; whnf) rfl ?_
        refine WL_nil ?_
        refine W_ret ?_
        refine ret_1 rfl (by conv => lhs; whnf) ?_
        refine ⟨congrArg Value.bool ?_, S.fin⟩
        unfold wideB
        first
          | exact (decide_eq_false (fun h => by have := h.1; omega)).symm
          | exact (decide_eq_false (fun h => h25 (by have := h.2 k hlt; simpa [hlt] using this))).symm
          | exact (decide_eq_true ⟨by omega, fun j hj => hs j (by omega)⟩).symm
      · refine WL_nil ?_
        refine W_else rfl ?_
        refine W_skip ?_
        refine W_region ?_
        refine o_add rfl rfl (by unfold i64; omega) rfl ?_
        first | refine o_move (v := .int .i64 _) rfl rfl ?_ | refine o_move (by conv => lhs; whnf) rfl ?_
        refine WL_nil ?_
        refine ⟨μ - 1, by omega, rfl, k + 1, by omega, fun j h => ?_, S, rfl, rfl, rfl, rfl⟩
        by_cases hjk : j = k
        · subst hjk; simpa [hlt] using h25
        · exact hs j (by omega)
    · refine WL_nil ?_
      refine W_seq ?_
      refine W_else rfl ?_
      refine W_exit ?_
      refine bcons_here ?_
      refine W_seq ?_
      refine W_region ?_
      first | refine o_assign (v := .bool _) rfl rfl ?_ | refine o_assign (by conv => lhs; whnf) rfl ?_
      refine WL_nil ?_
      refine W_ret ?_
      refine ret_1 rfl (by conv => lhs; whnf) ?_
      refine ⟨congrArg Value.bool ?_, S.fin⟩
      unfold wideB
      first
        | exact (decide_eq_false (fun h => by have := h.1; omega)).symm
        | exact (decide_eq_false (fun h => h25 (by have := h.2 k hlt; simpa [hlt] using this))).symm
        | exact (decide_eq_true ⟨by omega, fun j hj => hs j (by omega)⟩).symm

set_option maxHeartbeats 4000000 in
theorem shaped_fn (e : E) (M : List Nat) (w0 : World) (b o : Nat) (hR : RdP M w0 e b o) (hK : Masks M w0) :
    Does Tryd.prog 45 #[.pointer (some ⟨b, o, none⟩)] w0 fun v w' => v = .bool e.shapeB ∧ Below w0.heap.size w0 w' := by
  obtain ⟨hbM, o1, o2, o3, c0, c1, c2, A, n, c, c3, hn, hc, hm, hbig, hks, hRE⟩ := hR.open_
  have S := St.refl w0
  refine Does_enter Tryd.func45 rfl Tryd.ntmps45 rfl ?_
  refine W_seq ?_
  refine W_region ?_
  first | refine o_assign (v := .bool _) rfl rfl ?_ | refine o_assign (by conv => lhs; whnf) rfl ?_
  refine WL_nil ?_
  refine W_seq ?_
  refine W_seq ?_
  refine W_region ?_
  first | refine o_move (v := .pointer _) rfl rfl ?_ | refine o_move (by conv => lhs; whnf) rfl ?_
  refine o_nilCheck rfl rfl ?_
  refine o_fieldAddr fa_25_1 rfl rfl ?_
  refine o_load one_3 rfl (by first | exact S.old c0 | exact S.old c1 | exact S.old c2 | exact S.old c3 | exact S.old (hK.at (by omega) (by omega)) | exact S.old hk0 | exact S.old hk1) rfl ?_
  refine o_lss rfl rfl rfl (fun h7 => ?_) (fun h7 => ?_)
  · first | refine o_move (v := .bool _) rfl rfl ?_ | refine o_move (by conv => lhs; whnf) rfl ?_
    refine WL_off rfl rfl rfl rfl ?_
    refine WL_off rfl rfl rfl rfl ?_
    refine WL_off rfl rfl rfl rfl ?_
    refine WL_off rfl rfl rfl rfl ?_
    refine WL_off rfl rfl rfl rfl ?_
    first | refine o_pick rfl (v := .bool _) rfl rfl ?_ | refine o_pick rfl (by conv => lhs; whnf) rfl ?_
    refine WL_nil ?_
    refine W_then rfl ?_
    refine W_seq ?_
    refine W_region ?_
    first | refine o_assign (v := .bool _) rfl rfl ?_ | refine o_assign (by conv => lhs; whnf) rfl ?_
    refine WL_nil ?_
    refine W_ret ?_
    refine ret_1 rfl (by conv => lhs; whnf) ?_
    first
      | exact ⟨shape_f (fun h => by have := Shape_ar h; omega), S.fin⟩
      | exact ⟨shape_t ((Shape_1 (by omega)).2 (by omega)), S.fin⟩
      | exact ⟨shape_f (fun h => by have := (Shape_1 (by omega)).1 h; omega), S.fin⟩
      | exact ⟨shape_t ((Shape_2 (by omega)).2 (by omega)), S.fin⟩
      | exact ⟨shape_f (fun h => by have := (Shape_2 (by omega)).1 h; omega), S.fin⟩
      | exact ⟨shape_t ((Shape_4 (by omega)).2 (by have := wideB_1.1 h90; omega)), S.fin⟩
      | exact ⟨shape_f (fun h => by have := (Shape_4 (by omega)).1 h; rw [wideB_1.2 (by omega)] at h90; cases h90), S.fin⟩
      | exact ⟨shape_t ((Shape_5 (by omega)).2 (by have := wideB_2.1 h111; omega)), S.fin⟩
      | exact ⟨shape_f (fun h => by have := (Shape_5 (by omega)).1 h; rw [wideB_2.2 (by omega)] at h111; cases h111), S.fin⟩
      | exact ⟨shape_t ((Shape_14 (by omega)).2 (by have := wideB_3.1 h161; omega)), S.fin⟩
      | exact ⟨shape_f (fun h => by have := (Shape_14 (by omega)).1 h; rw [wideB_3.2 (by omega)] at h161; cases h161), S.fin⟩
      | exact ⟨shape_t ((Shape_11 (by omega)).2 (by omega)), S.fin⟩
      | exact ⟨shape_f (fun h => by have := (Shape_11 (by omega)).1 h; omega), S.fin⟩
      | exact ⟨shape_f (fun h => by obtain ⟨x1, x2, x3⟩ := h; omega), S.fin⟩
  · first | refine o_move (v := .bool _) rfl rfl ?_ | refine o_move (by conv => lhs; whnf) rfl ?_
    refine WL_on rfl rfl rfl ?_
    first | refine o_move (v := .pointer _) rfl rfl ?_ | refine o_move (by conv => lhs; whnf) rfl ?_
    refine WL_on rfl rfl rfl ?_
    refine o_nilCheck rfl rfl ?_
    refine WL_on rfl rfl rfl ?_
    refine o_fieldAddr fa_25_1 rfl rfl ?_
    refine WL_on rfl rfl rfl ?_
    refine o_load one_3 rfl (by first | exact S.old c0 | exact S.old c1 | exact S.old c2 | exact S.old c3 | exact S.old (hK.at (by omega) (by omega)) | exact S.old hk0 | exact S.old hk1) rfl ?_
    refine WL_on rfl rfl rfl ?_
    refine o_gtr rfl rfl rfl (fun h13 => ?_) (fun h13 => ?_)
    · first | refine o_pick rfl (v := .bool _) rfl rfl ?_ | refine o_pick rfl (by conv => lhs; whnf) rfl ?_
      refine WL_nil ?_
      refine W_then rfl ?_
      refine W_seq ?_
      refine W_region ?_
      first | refine o_assign (v := .bool _) rfl rfl ?_ | refine o_assign (by conv => lhs; whnf) rfl ?_
      refine WL_nil ?_
      refine W_ret ?_
      refine ret_1 rfl (by conv => lhs; whnf) ?_
      first
        | exact ⟨shape_f (fun h => by have := Shape_ar h; omega), S.fin⟩
        | exact ⟨shape_t ((Shape_1 (by omega)).2 (by omega)), S.fin⟩
        | exact ⟨shape_f (fun h => by have := (Shape_1 (by omega)).1 h; omega), S.fin⟩
        | exact ⟨shape_t ((Shape_2 (by omega)).2 (by omega)), S.fin⟩
        | exact ⟨shape_f (fun h => by have := (Shape_2 (by omega)).1 h; omega), S.fin⟩
        | exact ⟨shape_t ((Shape_4 (by omega)).2 (by have := wideB_1.1 h90; omega)), S.fin⟩
        | exact ⟨shape_f (fun h => by have := (Shape_4 (by omega)).1 h; rw [wideB_1.2 (by omega)] at h90; cases h90), S.fin⟩
        | exact ⟨shape_t ((Shape_5 (by omega)).2 (by have := wideB_2.1 h111; omega)), S.fin⟩
        | exact ⟨shape_f (fun h => by have := (Shape_5 (by omega)).1 h; rw [wideB_2.2 (by omega)] at h111; cases h111), S.fin⟩
        | exact ⟨shape_t ((Shape_14 (by omega)).2 (by have := wideB_3.1 h161; omega)), S.fin⟩
        | exact ⟨shape_f (fun h => by have := (Shape_14 (by omega)).1 h; rw [wideB_3.2 (by omega)] at h161; cases h161), S.fin⟩
        | exact ⟨shape_t ((Shape_11 (by omega)).2 (by omega)), S.fin⟩
        | exact ⟨shape_f (fun h => by have := (Shape_11 (by omega)).1 h; omega), S.fin⟩
        | exact ⟨shape_f (fun h => by obtain ⟨x1, x2, x3⟩ := h; omega), S.fin⟩
    · first | refine o_pick rfl (v := .bool _) rfl rfl ?_ | refine o_pick rfl (by conv => lhs; whnf) rfl ?_
      refine WL_nil ?_
      refine W_else rfl ?_
      refine W_skip ?_
      refine W_seq ?_
      refine W_seq ?_
      refine W_region ?_
      first | refine o_move (v := .pointer _) rfl rfl ?_ | refine o_move (by conv => lhs; whnf) rfl ?_
      refine o_nilCheck rfl rfl ?_
      refine o_fieldAddr fa_25_0 rfl rfl ?_
      refine o_load one_3 rfl (by first | exact S.old c0 | exact S.old c1 | exact S.old c2 | exact S.old c3 | exact S.old (hK.at (by omega) (by omega)) | exact S.old hk0 | exact S.old hk1) rfl ?_
      refine WL_nil ?_
      refine W_block ?_
      refine W_seq ?_
      refine W_region ?_
      refine o_eql rfl rfl rfl (fun h20 => ?_) (fun h20 => ?_)
      · first | refine o_assign (v := .bool _) rfl rfl ?_ | refine o_assign (by conv => lhs; whnf) rfl ?_
        refine WL_nil ?_
        refine W_then rfl ?_
        refine W_seq ?_
        refine W_draw follows_mixed [0, 1, 2, 3, 4, 5, 6, 7, 8, 9, 10, 11, 12, 13, 14, 15, 16, 17, 18, 19, 20, 21, 22, 23, 24, 25, 26] [] [] (by kernel_rfl) rfl (Cl _ _ _ _) (Cl.start S) ?_
        first | refine q_move (v := .pointer _) rfl rfl ?_ | refine q_move (by conv => lhs; whnf) rfl ?_
        refine q_nilCheck rfl rfl ?_
        refine q_fieldAddr fa_25_3 rfl rfl ?_
        refine q_load one_23 rfl (fun w1 hw => by first | exact hw.1.old c0 | exact hw.1.old c1 | exact hw.1.old c2 | exact hw.1.old c3 | exact hw.1.old (hK.at (by omega) (by omega)) | exact hw.1.old hk0 | exact hw.1.old hk1) rfl ?_
        refine q_len slz_23.slT rfl rfl ?_
        refine q_eql rfl rfl rfl (fun h26 => ?_) (fun h26 => ?_)
        · first | refine q_move (v := .bool _) rfl rfl ?_ | refine q_move (by conv => lhs; whnf) rfl ?_
          refine QL_on rfl rfl ?_
          first | refine q_move (v := .pointer _) rfl rfl ?_ | refine q_move (by conv => lhs; whnf) rfl ?_
          refine QL_on rfl rfl ?_
          refine q_nilCheck rfl rfl ?_
          refine QL_on rfl rfl ?_
          refine q_fieldAddr fa_25_2 rfl rfl ?_
          refine QL_on rfl rfl ?_
          refine q_load one_3 rfl (fun w1 hw => by first | exact hw.1.old c0 | exact hw.1.old c1 | exact hw.1.old c2 | exact hw.1.old c3 | exact hw.1.old (hK.at (by omega) (by omega)) | exact hw.1.old hk0 | exact hw.1.old hk1) rfl ?_
          refine QL_on rfl rfl ?_
          refine q_geq rfl rfl rfl (fun h32 => ?_) (fun h32 => ?_)
          · first | refine q_pick rfl (v := .bool _) rfl rfl ?_ | refine q_pick rfl (by conv => lhs; whnf) rfl ?_
            first | refine q_move (v := .bool _) rfl rfl ?_ | refine q_move (by conv => lhs; whnf) rfl ?_
            refine QL_on rfl rfl ?_
            first | refine q_move (v := .pointer _) rfl rfl ?_ | refine q_move (by conv => lhs; whnf) rfl ?_
            refine QL_on rfl rfl ?_
            refine q_nilCheck rfl rfl ?_
            refine QL_on rfl rfl ?_
            refine q_fieldAddr fa_25_2 rfl rfl ?_
            refine QL_on rfl rfl ?_
            refine q_load one_3 rfl (fun w1 hw => by first | exact hw.1.old c0 | exact hw.1.old c1 | exact hw.1.old c2 | exact hw.1.old c3 | exact hw.1.old (hK.at (by omega) (by omega)) | exact hw.1.old hk0 | exact hw.1.old hk1) rfl ?_
            refine QL_on rfl rfl ?_
            first | refine q_move (v := .pointer _) rfl rfl ?_ | refine q_move (by conv => lhs; whnf) rfl ?_
            refine QL_on rfl rfl ?_
            refine q_nilCheck rfl rfl ?_
            refine QL_on rfl rfl ?_
            refine q_fieldAddr fa_25_1 rfl rfl ?_
            refine QL_on rfl rfl ?_
            refine q_load one_3 rfl (fun w1 hw => by first | exact hw.1.old c0 | exact hw.1.old c1 | exact hw.1.old c2 | exact hw.1.old c3 | exact hw.1.old (hK.at (by omega) (by omega)) | exact hw.1.old hk0 | exact hw.1.old hk1) rfl ?_
            refine QL_on rfl rfl ?_
            refine q_indexArr art_71 rfl rfl (by omega) (by omega) rfl ?_
            refine QL_on rfl rfl ?_
            refine q_load one_3 rfl (fun w1 hw => by first | exact hw.1.old c0 | exact hw.1.old c1 | exact hw.1.old c2 | exact hw.1.old c3 | exact hw.1.old (hK.at (by omega) (by omega)) | exact hw.1.old hk0 | exact hw.1.old hk1) rfl ?_
            refine QL_on rfl rfl ?_
            refine q_leq rfl rfl rfl (fun h45 => ?_) (fun h45 => ?_)
            · first | refine q_pick rfl (v := .bool _) rfl rfl ?_ | refine q_pick rfl (by conv => lhs; whnf) rfl ?_
              first | refine q_assign (v := .bool _) rfl rfl ?_ | refine q_assign (by conv => lhs; whnf) rfl ?_
              refine QL_nil ?_
              refine BK_of ?_
              refine BKL_nil ?_
              rintro wR5 ⟨SR5, XR5⟩
              refine WL_nil ?_
              refine W_ret ?_
              refine ret_1 rfl (by conv => lhs; whnf) ?_
              first
                | exact ⟨shape_f (fun h => by have := Shape_ar h; omega), SR5.fin⟩
                | exact ⟨shape_t ((Shape_1 (by omega)).2 (by omega)), SR5.fin⟩
                | exact ⟨shape_f (fun h => by have := (Shape_1 (by omega)).1 h; omega), SR5.fin⟩
                | exact ⟨shape_t ((Shape_2 (by omega)).2 (by omega)), SR5.fin⟩
                | exact ⟨shape_f (fun h => by have := (Shape_2 (by omega)).1 h; omega), SR5.fin⟩
                | exact ⟨shape_t ((Shape_4 (by omega)).2 (by have := wideB_1.1 h90; omega)), SR5.fin⟩
                | exact ⟨shape_f (fun h => by have := (Shape_4 (by omega)).1 h; rw [wideB_1.2 (by omega)] at h90; cases h90), SR5.fin⟩
                | exact ⟨shape_t ((Shape_5 (by omega)).2 (by have := wideB_2.1 h111; omega)), SR5.fin⟩
                | exact ⟨shape_f (fun h => by have := (Shape_5 (by omega)).1 h; rw [wideB_2.2 (by omega)] at h111; cases h111), SR5.fin⟩
                | exact ⟨shape_t ((Shape_14 (by omega)).2 (by have := wideB_3.1 h161; omega)), SR5.fin⟩
                | exact ⟨shape_f (fun h => by have := (Shape_14 (by omega)).1 h; rw [wideB_3.2 (by omega)] at h161; cases h161), SR5.fin⟩
                | exact ⟨shape_t ((Shape_11 (by omega)).2 (by omega)), SR5.fin⟩
                | exact ⟨shape_f (fun h => by have := (Shape_11 (by omega)).1 h; omega), SR5.fin⟩
                | exact ⟨shape_f (fun h => by obtain ⟨x1, x2, x3⟩ := h; omega), SR5.fin⟩
            · first | refine q_pick rfl (v := .bool _) rfl rfl ?_ | refine q_pick rfl (by conv => lhs; whnf) rfl ?_
              first | refine q_assign (v := .bool _) rfl rfl ?_ | refine q_assign (by conv => lhs; whnf) rfl ?_
              refine QL_nil ?_
              refine BK_of ?_
              refine BKL_nil ?_
              rintro wR5 ⟨SR5, XR5⟩
              refine WL_nil ?_
              refine W_ret ?_
              refine ret_1 rfl (by conv => lhs; whnf) ?_
              first
                | exact ⟨shape_f (fun h => by have := Shape_ar h; omega), SR5.fin⟩
                | exact ⟨shape_t ((Shape_1 (by omega)).2 (by omega)), SR5.fin⟩
                | exact ⟨shape_f (fun h => by have := (Shape_1 (by omega)).1 h; omega), SR5.fin⟩
                | exact ⟨shape_t ((Shape_2 (by omega)).2 (by omega)), SR5.fin⟩
                | exact ⟨shape_f (fun h => by have := (Shape_2 (by omega)).1 h; omega), SR5.fin⟩
                | exact ⟨shape_t ((Shape_4 (by omega)).2 (by have := wideB_1.1 h90; omega)), SR5.fin⟩
                | exact ⟨shape_f (fun h => by have := (Shape_4 (by omega)).1 h; rw [wideB_1.2 (by omega)] at h90; cases h90), SR5.fin⟩
                | exact ⟨shape_t ((Shape_5 (by omega)).2 (by have := wideB_2.1 h111; omega)), SR5.fin⟩
                | exact ⟨shape_f (fun h => by have := (Shape_5 (by omega)).1 h; rw [wideB_2.2 (by omega)] at h111; cases h111), SR5.fin⟩
                | exact ⟨shape_t ((Shape_14 (by omega)).2 (by have := wideB_3.1 h161; omega)), SR5.fin⟩
                | exact ⟨shape_f (fun h => by have := (Shape_14 (by omega)).1 h; rw [wideB_3.2 (by omega)] at h161; cases h161), SR5.fin⟩
                | exact ⟨shape_t ((Shape_11 (by omega)).2 (by omega)), SR5.fin⟩
                | exact ⟨shape_f (fun h => by have := (Shape_11 (by omega)).1 h; omega), SR5.fin⟩
                | exact ⟨shape_f (fun h => by obtain ⟨x1, x2, x3⟩ := h; omega), SR5.fin⟩
          · first | refine q_pick rfl (v := .bool _) rfl rfl ?_ | refine q_pick rfl (by conv => lhs; whnf) rfl ?_
            first | refine q_move (v := .bool _) rfl rfl ?_ | refine q_move (by conv => lhs; whnf) rfl ?_
            refine QL_off rfl rfl rfl ?_
            refine QL_off rfl rfl rfl ?_
            refine QL_off rfl rfl rfl ?_
            refine QL_off rfl rfl rfl ?_
            refine QL_off rfl rfl rfl ?_
            refine QL_off rfl rfl rfl ?_
            refine QL_off rfl rfl rfl ?_
            refine QL_off rfl rfl rfl ?_
            refine QL_off rfl rfl rfl ?_
            refine QL_off rfl rfl rfl ?_
            refine QL_off rfl rfl rfl ?_
            first | refine q_pick rfl (v := .bool _) rfl rfl ?_ | refine q_pick rfl (by conv => lhs; whnf) rfl ?_
            first | refine q_assign (v := .bool _) rfl rfl ?_ | refine q_assign (by conv => lhs; whnf) rfl ?_
            refine QL_nil ?_
            refine BK_of ?_
            refine BKL_nil ?_
            rintro wR5 ⟨SR5, XR5⟩
            refine WL_nil ?_
            refine W_ret ?_
            refine ret_1 rfl (by conv => lhs; whnf) ?_
            first
              | exact ⟨shape_f (fun h => by have := Shape_ar h; omega), SR5.fin⟩
              | exact ⟨shape_t ((Shape_1 (by omega)).2 (by omega)), SR5.fin⟩
              | exact ⟨shape_f (fun h => by have := (Shape_1 (by omega)).1 h; omega), SR5.fin⟩
              | exact ⟨shape_t ((Shape_2 (by omega)).2 (by omega)), SR5.fin⟩
              | exact ⟨shape_f (fun h => by have := (Shape_2 (by omega)).1 h; omega), SR5.fin⟩
              | exact ⟨shape_t ((Shape_4 (by omega)).2 (by have := wideB_1.1 h90; omega)), SR5.fin⟩
              | exact ⟨shape_f (fun h => by have := (Shape_4 (by omega)).1 h; rw [wideB_1.2 (by omega)] at h90; cases h90), SR5.fin⟩
              | exact ⟨shape_t ((Shape_5 (by omega)).2 (by have := wideB_2.1 h111; omega)), SR5.fin⟩
              | exact ⟨shape_f (fun h => by have := (Shape_5 (by omega)).1 h; rw [wideB_2.2 (by omega)] at h111; cases h111), SR5.fin⟩
              | exact ⟨shape_t ((Shape_14 (by omega)).2 (by have := wideB_3.1 h161; omega)), SR5.fin⟩
              | exact ⟨shape_f (fun h => by have := (Shape_14 (by omega)).1 h; rw [wideB_3.2 (by omega)] at h161; cases h161), SR5.fin⟩
              | exact ⟨shape_t ((Shape_11 (by omega)).2 (by omega)), SR5.fin⟩
              | exact ⟨shape_f (fun h => by have := (Shape_11 (by omega)).1 h; omega), SR5.fin⟩
              | exact ⟨shape_f (fun h => by obtain ⟨x1, x2, x3⟩ := h; omega), SR5.fin⟩
        · first | refine q_move (v := .bool _) rfl rfl ?_ | refine q_move (by conv => lhs; whnf) rfl ?_
          refine QL_off rfl rfl rfl ?_
          refine QL_off rfl rfl rfl ?_
          refine QL_off rfl rfl rfl ?_
          refine QL_off rfl rfl rfl ?_
          refine QL_off rfl rfl rfl ?_
          first | refine q_pick rfl (v := .bool _) rfl rfl ?_ | refine q_pick rfl (by conv => lhs; whnf) rfl ?_
          first | refine q_move (v := .bool _) rfl rfl ?_ | refine q_move (by conv => lhs; whnf) rfl ?_
          refine QL_off rfl rfl rfl ?_
          refine QL_off rfl rfl rfl ?_
          refine QL_off rfl rfl rfl ?_
          refine QL_off rfl rfl rfl ?_
          refine QL_off rfl rfl rfl ?_
          refine QL_off rfl rfl rfl ?_
          refine QL_off rfl rfl rfl ?_
          refine QL_off rfl rfl rfl ?_
          refine QL_off rfl rfl rfl ?_
          refine QL_off rfl rfl rfl ?_
          refine QL_off rfl rfl rfl ?_
          first | refine q_pick rfl (v := .bool _) rfl rfl ?_ | refine q_pick rfl (by conv => lhs; whnf) rfl ?_
          first | refine q_assign (v := .bool _) rfl rfl ?_ | refine q_assign (by conv => lhs; whnf) rfl ?_
          refine QL_nil ?_
          refine BK_of ?_
          refine BKL_nil ?_
          rintro wR5 ⟨SR5, XR5⟩
          refine WL_nil ?_
          refine W_ret ?_
          refine ret_1 rfl (by conv => lhs; whnf) ?_
          first
            | exact ⟨shape_f (fun h => by have := Shape_ar h; omega), SR5.fin⟩
            | exact ⟨shape_t ((Shape_1 (by omega)).2 (by omega)), SR5.fin⟩
            | exact ⟨shape_f (fun h => by have := (Shape_1 (by omega)).1 h; omega), SR5.fin⟩
            | exact ⟨shape_t ((Shape_2 (by omega)).2 (by omega)), SR5.fin⟩
            | exact ⟨shape_f (fun h => by have := (Shape_2 (by omega)).1 h; omega), SR5.fin⟩
            | exact ⟨shape_t ((Shape_4 (by omega)).2 (by have := wideB_1.1 h90; omega)), SR5.fin⟩
            | exact ⟨shape_f (fun h => by have := (Shape_4 (by omega)).1 h; rw [wideB_1.2 (by omega)] at h90; cases h90), SR5.fin⟩
            | exact ⟨shape_t ((Shape_5 (by omega)).2 (by have := wideB_2.1 h111; omega)), SR5.fin⟩
            | exact ⟨shape_f (fun h => by have := (Shape_5 (by omega)).1 h; rw [wideB_2.2 (by omega)] at h111; cases h111), SR5.fin⟩
            | exact ⟨shape_t ((Shape_14 (by omega)).2 (by have := wideB_3.1 h161; omega)), SR5.fin⟩
            | exact ⟨shape_f (fun h => by have := (Shape_14 (by omega)).1 h; rw [wideB_3.2 (by omega)] at h161; cases h161), SR5.fin⟩
            | exact ⟨shape_t ((Shape_11 (by omega)).2 (by omega)), SR5.fin⟩
            | exact ⟨shape_f (fun h => by have := (Shape_11 (by omega)).1 h; omega), SR5.fin⟩
            | exact ⟨shape_f (fun h => by obtain ⟨x1, x2, x3⟩ := h; omega), SR5.fin⟩
      · first | refine o_assign (v := .bool _) rfl rfl ?_ | refine o_assign (by conv => lhs; whnf) rfl ?_
        refine WL_nil ?_
        refine W_else rfl ?_
        refine W_seq ?_
        refine W_seq ?_
        refine W_region ?_
        refine o_eql rfl rfl rfl (fun h48 => ?_) (fun h48 => ?_)
        · first | refine o_assign (v := .bool _) rfl rfl ?_ | refine o_assign (by conv => lhs; whnf) rfl ?_
          refine WL_nil ?_
          refine W_then rfl ?_
          refine W_skip ?_
          refine W_then rfl ?_
          refine W_seq ?_
          refine W_region ?_
          first | refine o_move (v := .pointer _) rfl rfl ?_ | refine o_move (by conv => lhs; whnf) rfl ?_
          refine o_nilCheck rfl rfl ?_
          refine o_fieldAddr fa_25_3 rfl rfl ?_
          refine o_load one_23 rfl (by first | exact S.old c0 | exact S.old c1 | exact S.old c2 | exact S.old c3 | exact S.old (hK.at (by omega) (by omega)) | exact S.old hk0 | exact S.old hk1) rfl ?_
          refine o_len slz_23.slT rfl rfl ?_
          refine o_eql rfl rfl rfl (fun h55 => ?_) (fun h55 => ?_)
          · first | refine o_move (v := .bool _) rfl rfl ?_ | refine o_move (by conv => lhs; whnf) rfl ?_
            refine WL_on rfl rfl rfl ?_
            first | refine o_move (v := .pointer _) rfl rfl ?_ | refine o_move (by conv => lhs; whnf) rfl ?_
            refine WL_on rfl rfl rfl ?_
            refine o_nilCheck rfl rfl ?_
            refine WL_on rfl rfl rfl ?_
            refine o_fieldAddr fa_25_2 rfl rfl ?_
            refine WL_on rfl rfl rfl ?_
            refine o_load one_3 rfl (by first | exact S.old c0 | exact S.old c1 | exact S.old c2 | exact S.old c3 | exact S.old (hK.at (by omega) (by omega)) | exact S.old hk0 | exact S.old hk1) rfl ?_
            refine WL_on rfl rfl rfl ?_
            refine o_geq rfl rfl rfl (fun h61 => ?_) (fun h61 => ?_)
            · first | refine o_pick rfl (v := .bool _) rfl rfl ?_ | refine o_pick rfl (by conv => lhs; whnf) rfl ?_
              first | refine o_move (v := .bool _) rfl rfl ?_ | refine o_move (by conv => lhs; whnf) rfl ?_
              refine WL_on rfl rfl rfl ?_
              first | refine o_move (v := .pointer _) rfl rfl ?_ | refine o_move (by conv => lhs; whnf) rfl ?_
              refine WL_on rfl rfl rfl ?_
              refine o_nilCheck rfl rfl ?_
              refine WL_on rfl rfl rfl ?_
              refine o_fieldAddr fa_25_2 rfl rfl ?_
              refine WL_on rfl rfl rfl ?_
              refine o_load one_3 rfl (by first | exact S.old c0 | exact S.old c1 | exact S.old c2 | exact S.old c3 | exact S.old (hK.at (by omega) (by omega)) | exact S.old hk0 | exact S.old hk1) rfl ?_
              refine WL_on rfl rfl rfl ?_
              refine o_lss rfl rfl rfl (fun h68 => ?_) (fun h68 => ?_)
              · first | refine o_pick rfl (v := .bool _) rfl rfl ?_ | refine o_pick rfl (by conv => lhs; whnf) rfl ?_
                first | refine o_assign (v := .bool _) rfl rfl ?_ | refine o_assign (by conv => lhs; whnf) rfl ?_
                refine WL_nil ?_
                refine W_ret ?_
                refine ret_1 rfl (by conv => lhs; whnf) ?_
                first
                  | exact ⟨shape_f (fun h => by have := Shape_ar h; omega), S.fin⟩
                  | exact ⟨shape_t ((Shape_1 (by omega)).2 (by omega)), S.fin⟩
                  | exact ⟨shape_f (fun h => by have := (Shape_1 (by omega)).1 h; omega), S.fin⟩
                  | exact ⟨shape_t ((Shape_2 (by omega)).2 (by omega)), S.fin⟩
                  | exact ⟨shape_f (fun h => by have := (Shape_2 (by omega)).1 h; omega), S.fin⟩
                  | exact ⟨shape_t ((Shape_4 (by omega)).2 (by have := wideB_1.1 h90; omega)), S.fin⟩
                  | exact ⟨shape_f (fun h => by have := (Shape_4 (by omega)).1 h; rw [wideB_1.2 (by omega)] at h90; cases h90), S.fin⟩
                  | exact ⟨shape_t ((Shape_5 (by omega)).2 (by have := wideB_2.1 h111; omega)), S.fin⟩
                  | exact ⟨shape_f (fun h => by have := (Shape_5 (by omega)).1 h; rw [wideB_2.2 (by omega)] at h111; cases h111), S.fin⟩
                  | exact ⟨shape_t ((Shape_14 (by omega)).2 (by have := wideB_3.1 h161; omega)), S.fin⟩
                  | exact ⟨shape_f (fun h => by have := (Shape_14 (by omega)).1 h; rw [wideB_3.2 (by omega)] at h161; cases h161), S.fin⟩
                  | exact ⟨shape_t ((Shape_11 (by omega)).2 (by omega)), S.fin⟩
                  | exact ⟨shape_f (fun h => by have := (Shape_11 (by omega)).1 h; omega), S.fin⟩
                  | exact ⟨shape_f (fun h => by obtain ⟨x1, x2, x3⟩ := h; omega), S.fin⟩
              · first | refine o_pick rfl (v := .bool _) rfl rfl ?_ | refine o_pick rfl (by conv => lhs; whnf) rfl ?_
                first | refine o_assign (v := .bool _) rfl rfl ?_ | refine o_assign (by conv => lhs; whnf) rfl ?_
                refine WL_nil ?_
                refine W_ret ?_
                refine ret_1 rfl (by conv => lhs; whnf) ?_
                first
                  | exact ⟨shape_f (fun h => by have := Shape_ar h; omega), S.fin⟩
                  | exact ⟨shape_t ((Shape_1 (by omega)).2 (by omega)), S.fin⟩
                  | exact ⟨shape_f (fun h => by have := (Shape_1 (by omega)).1 h; omega), S.fin⟩
                  | exact ⟨shape_t ((Shape_2 (by omega)).2 (by omega)), S.fin⟩
                  | exact ⟨shape_f (fun h => by have := (Shape_2 (by omega)).1 h; omega), S.fin⟩
                  | exact ⟨shape_t ((Shape_4 (by omega)).2 (by have := wideB_1.1 h90; omega)), S.fin⟩
                  | exact ⟨shape_f (fun h => by have := (Shape_4 (by omega)).1 h; rw [wideB_1.2 (by omega)] at h90; cases h90), S.fin⟩
                  | exact ⟨shape_t ((Shape_5 (by omega)).2 (by have := wideB_2.1 h111; omega)), S.fin⟩
                  | exact ⟨shape_f (fun h => by have := (Shape_5 (by omega)).1 h; rw [wideB_2.2 (by omega)] at h111; cases h111), S.fin⟩
                  | exact ⟨shape_t ((Shape_14 (by omega)).2 (by have := wideB_3.1 h161; omega)), S.fin⟩
                  | exact ⟨shape_f (fun h => by have := (Shape_14 (by omega)).1 h; rw [wideB_3.2 (by omega)] at h161; cases h161), S.fin⟩
                  | exact ⟨shape_t ((Shape_11 (by omega)).2 (by omega)), S.fin⟩
                  | exact ⟨shape_f (fun h => by have := (Shape_11 (by omega)).1 h; omega), S.fin⟩
                  | exact ⟨shape_f (fun h => by obtain ⟨x1, x2, x3⟩ := h; omega), S.fin⟩
            · first | refine o_pick rfl (v := .bool _) rfl rfl ?_ | refine o_pick rfl (by conv => lhs; whnf) rfl ?_
              first | refine o_move (v := .bool _) rfl rfl ?_ | refine o_move (by conv => lhs; whnf) rfl ?_
              refine WL_off rfl rfl rfl rfl ?_
              refine WL_off rfl rfl rfl rfl ?_
              refine WL_off rfl rfl rfl rfl ?_
              refine WL_off rfl rfl rfl rfl ?_
              refine WL_off rfl rfl rfl rfl ?_
              first | refine o_pick rfl (v := .bool _) rfl rfl ?_ | refine o_pick rfl (by conv => lhs; whnf) rfl ?_
              first | refine o_assign (v := .bool _) rfl rfl ?_ | refine o_assign (by conv => lhs; whnf) rfl ?_
              refine WL_nil ?_
              refine W_ret ?_
              refine ret_1 rfl (by conv => lhs; whnf) ?_
              first
                | exact ⟨shape_f (fun h => by have := Shape_ar h; omega), S.fin⟩
                | exact ⟨shape_t ((Shape_1 (by omega)).2 (by omega)), S.fin⟩
                | exact ⟨shape_f (fun h => by have := (Shape_1 (by omega)).1 h; omega), S.fin⟩
                | exact ⟨shape_t ((Shape_2 (by omega)).2 (by omega)), S.fin⟩
                | exact ⟨shape_f (fun h => by have := (Shape_2 (by omega)).1 h; omega), S.fin⟩
                | exact ⟨shape_t ((Shape_4 (by omega)).2 (by have := wideB_1.1 h90; omega)), S.fin⟩
                | exact ⟨shape_f (fun h => by have := (Shape_4 (by omega)).1 h; rw [wideB_1.2 (by omega)] at h90; cases h90), S.fin⟩
                | exact ⟨shape_t ((Shape_5 (by omega)).2 (by have := wideB_2.1 h111; omega)), S.fin⟩
                | exact ⟨shape_f (fun h => by have := (Shape_5 (by omega)).1 h; rw [wideB_2.2 (by omega)] at h111; cases h111), S.fin⟩
                | exact ⟨shape_t ((Shape_14 (by omega)).2 (by have := wideB_3.1 h161; omega)), S.fin⟩
                | exact ⟨shape_f (fun h => by have := (Shape_14 (by omega)).1 h; rw [wideB_3.2 (by omega)] at h161; cases h161), S.fin⟩
                | exact ⟨shape_t ((Shape_11 (by omega)).2 (by omega)), S.fin⟩
                | exact ⟨shape_f (fun h => by have := (Shape_11 (by omega)).1 h; omega), S.fin⟩
                | exact ⟨shape_f (fun h => by obtain ⟨x1, x2, x3⟩ := h; omega), S.fin⟩
          · first | refine o_move (v := .bool _) rfl rfl ?_ | refine o_move (by conv => lhs; whnf) rfl ?_
            refine WL_off rfl rfl rfl rfl ?_
            refine WL_off rfl rfl rfl rfl ?_
            refine WL_off rfl rfl rfl rfl ?_
            refine WL_off rfl rfl rfl rfl ?_
            refine WL_off rfl rfl rfl rfl ?_
            first | refine o_pick rfl (v := .bool _) rfl rfl ?_ | refine o_pick rfl (by conv => lhs; whnf) rfl ?_
            first | refine o_move (v := .bool _) rfl rfl ?_ | refine o_move (by conv => lhs; whnf) rfl ?_
            refine WL_off rfl rfl rfl rfl ?_
            refine WL_off rfl rfl rfl rfl ?_
            refine WL_off rfl rfl rfl rfl ?_
            refine WL_off rfl rfl rfl rfl ?_
            refine WL_off rfl rfl rfl rfl ?_
            first | refine o_pick rfl (v := .bool _) rfl rfl ?_ | refine o_pick rfl (by conv => lhs; whnf) rfl ?_
            first | refine o_assign (v := .bool _) rfl rfl ?_ | refine o_assign (by conv => lhs; whnf) rfl ?_
            refine WL_nil ?_
            refine W_ret ?_
            refine ret_1 rfl (by conv => lhs; whnf) ?_
            first
              | exact ⟨shape_f (fun h => by have := Shape_ar h; omega), S.fin⟩
              | exact ⟨shape_t ((Shape_1 (by omega)).2 (by omega)), S.fin⟩
              | exact ⟨shape_f (fun h => by have := (Shape_1 (by omega)).1 h; omega), S.fin⟩
              | exact ⟨shape_t ((Shape_2 (by omega)).2 (by omega)), S.fin⟩
              | exact ⟨shape_f (fun h => by have := (Shape_2 (by omega)).1 h; omega), S.fin⟩
              | exact ⟨shape_t ((Shape_4 (by omega)).2 (by have := wideB_1.1 h90; omega)), S.fin⟩
              | exact ⟨shape_f (fun h => by have := (Shape_4 (by omega)).1 h; rw [wideB_1.2 (by omega)] at h90; cases h90), S.fin⟩
              | exact ⟨shape_t ((Shape_5 (by omega)).2 (by have := wideB_2.1 h111; omega)), S.fin⟩
              | exact ⟨shape_f (fun h => by have := (Shape_5 (by omega)).1 h; rw [wideB_2.2 (by omega)] at h111; cases h111), S.fin⟩
              | exact ⟨shape_t ((Shape_14 (by omega)).2 (by have := wideB_3.1 h161; omega)), S.fin⟩
              | exact ⟨shape_f (fun h => by have := (Shape_14 (by omega)).1 h; rw [wideB_3.2 (by omega)] at h161; cases h161), S.fin⟩
              | exact ⟨shape_t ((Shape_11 (by omega)).2 (by omega)), S.fin⟩
              | exact ⟨shape_f (fun h => by have := (Shape_11 (by omega)).1 h; omega), S.fin⟩
              | exact ⟨shape_f (fun h => by obtain ⟨x1, x2, x3⟩ := h; omega), S.fin⟩
        · first | refine o_assign (v := .bool _) rfl rfl ?_ | refine o_assign (by conv => lhs; whnf) rfl ?_
          refine WL_nil ?_
          refine W_else rfl ?_
          refine W_region ?_
          refine o_eql rfl rfl rfl (fun h49 => ?_) (fun h49 => ?_)
          · first | refine o_assign (v := .bool _) rfl rfl ?_ | refine o_assign (by conv => lhs; whnf) rfl ?_
            refine WL_nil ?_
            refine W_then rfl ?_
            refine W_seq ?_
            refine W_region ?_
            first | refine o_move (v := .pointer _) rfl rfl ?_ | refine o_move (by conv => lhs; whnf) rfl ?_
            refine o_nilCheck rfl rfl ?_
            refine o_fieldAddr fa_25_3 rfl rfl ?_
            refine o_load one_23 rfl (by first | exact S.old c0 | exact S.old c1 | exact S.old c2 | exact S.old c3 | exact S.old (hK.at (by omega) (by omega)) | exact S.old hk0 | exact S.old hk1) rfl ?_
            refine o_len slz_23.slT rfl rfl ?_
            refine o_eql rfl rfl rfl (fun h55 => ?_) (fun h55 => ?_)
            · first | refine o_move (v := .bool _) rfl rfl ?_ | refine o_move (by conv => lhs; whnf) rfl ?_
              refine WL_on rfl rfl rfl ?_
              first | refine o_move (v := .pointer _) rfl rfl ?_ | refine o_move (by conv => lhs; whnf) rfl ?_
              refine WL_on rfl rfl rfl ?_
              refine o_nilCheck rfl rfl ?_
              refine WL_on rfl rfl rfl ?_
              refine o_fieldAddr fa_25_2 rfl rfl ?_
              refine WL_on rfl rfl rfl ?_
              refine o_load one_3 rfl (by first | exact S.old c0 | exact S.old c1 | exact S.old c2 | exact S.old c3 | exact S.old (hK.at (by omega) (by omega)) | exact S.old hk0 | exact S.old hk1) rfl ?_
              refine WL_on rfl rfl rfl ?_
              refine o_geq rfl rfl rfl (fun h61 => ?_) (fun h61 => ?_)
              · first | refine o_pick rfl (v := .bool _) rfl rfl ?_ | refine o_pick rfl (by conv => lhs; whnf) rfl ?_
                first | refine o_move (v := .bool _) rfl rfl ?_ | refine o_move (by conv => lhs; whnf) rfl ?_
                refine WL_on rfl rfl rfl ?_
                first | refine o_move (v := .pointer _) rfl rfl ?_ | refine o_move (by conv => lhs; whnf) rfl ?_
                refine WL_on rfl rfl rfl ?_
                refine o_nilCheck rfl rfl ?_
                refine WL_on rfl rfl rfl ?_
                refine o_fieldAddr fa_25_2 rfl rfl ?_
                refine WL_on rfl rfl rfl ?_
                refine o_load one_3 rfl (by first | exact S.old c0 | exact S.old c1 | exact S.old c2 | exact S.old c3 | exact S.old (hK.at (by omega) (by omega)) | exact S.old hk0 | exact S.old hk1) rfl ?_
                refine WL_on rfl rfl rfl ?_
                refine o_lss rfl rfl rfl (fun h68 => ?_) (fun h68 => ?_)
                · first | refine o_pick rfl (v := .bool _) rfl rfl ?_ | refine o_pick rfl (by conv => lhs; whnf) rfl ?_
                  first | refine o_assign (v := .bool _) rfl rfl ?_ | refine o_assign (by conv => lhs; whnf) rfl ?_
                  refine WL_nil ?_
                  refine W_ret ?_
                  refine ret_1 rfl (by conv => lhs; whnf) ?_
                  first
                    | exact ⟨shape_f (fun h => by have := Shape_ar h; omega), S.fin⟩
                    | exact ⟨shape_t ((Shape_1 (by omega)).2 (by omega)), S.fin⟩
                    | exact ⟨shape_f (fun h => by have := (Shape_1 (by omega)).1 h; omega), S.fin⟩
                    | exact ⟨shape_t ((Shape_2 (by omega)).2 (by omega)), S.fin⟩
                    | exact ⟨shape_f (fun h => by have := (Shape_2 (by omega)).1 h; omega), S.fin⟩
                    | exact ⟨shape_t ((Shape_4 (by omega)).2 (by have := wideB_1.1 h90; omega)), S.fin⟩
                    | exact ⟨shape_f (fun h => by have := (Shape_4 (by omega)).1 h; rw [wideB_1.2 (by omega)] at h90; cases h90), S.fin⟩
                    | exact ⟨shape_t ((Shape_5 (by omega)).2 (by have := wideB_2.1 h111; omega)), S.fin⟩
                    | exact ⟨shape_f (fun h => by have := (Shape_5 (by omega)).1 h; rw [wideB_2.2 (by omega)] at h111; cases h111), S.fin⟩
                    | exact ⟨shape_t ((Shape_14 (by omega)).2 (by have := wideB_3.1 h161; omega)), S.fin⟩
                    | exact ⟨shape_f (fun h => by have := (Shape_14 (by omega)).1 h; rw [wideB_3.2 (by omega)] at h161; cases h161), S.fin⟩
                    | exact ⟨shape_t ((Shape_11 (by omega)).2 (by omega)), S.fin⟩
                    | exact ⟨shape_f (fun h => by have := (Shape_11 (by omega)).1 h; omega), S.fin⟩
                    | exact ⟨shape_f (fun h => by obtain ⟨x1, x2, x3⟩ := h; omega), S.fin⟩
                · first | refine o_pick rfl (v := .bool _) rfl rfl ?_ | refine o_pick rfl (by conv => lhs; whnf) rfl ?_
                  first | refine o_assign (v := .bool _) rfl rfl ?_ | refine o_assign (by conv => lhs; whnf) rfl ?_
                  refine WL_nil ?_
                  refine W_ret ?_
                  refine ret_1 rfl (by conv => lhs; whnf) ?_
                  first
                    | exact ⟨shape_f (fun h => by have := Shape_ar h; omega), S.fin⟩
                    | exact ⟨shape_t ((Shape_1 (by omega)).2 (by omega)), S.fin⟩
                    | exact ⟨shape_f (fun h => by have := (Shape_1 (by omega)).1 h; omega), S.fin⟩
                    | exact ⟨shape_t ((Shape_2 (by omega)).2 (by omega)), S.fin⟩
                    | exact ⟨shape_f (fun h => by have := (Shape_2 (by omega)).1 h; omega), S.fin⟩
                    | exact ⟨shape_t ((Shape_4 (by omega)).2 (by have := wideB_1.1 h90; omega)), S.fin⟩
                    | exact ⟨shape_f (fun h => by have := (Shape_4 (by omega)).1 h; rw [wideB_1.2 (by omega)] at h90; cases h90), S.fin⟩
                    | exact ⟨shape_t ((Shape_5 (by omega)).2 (by have := wideB_2.1 h111; omega)), S.fin⟩
                    | exact ⟨shape_f (fun h => by have := (Shape_5 (by omega)).1 h; rw [wideB_2.2 (by omega)] at h111; cases h111), S.fin⟩
                    | exact ⟨shape_t ((Shape_14 (by omega)).2 (by have := wideB_3.1 h161; omega)), S.fin⟩
                    | exact ⟨shape_f (fun h => by have := (Shape_14 (by omega)).1 h; rw [wideB_3.2 (by omega)] at h161; cases h161), S.fin⟩
                    | exact ⟨shape_t ((Shape_11 (by omega)).2 (by omega)), S.fin⟩
                    | exact ⟨shape_f (fun h => by have := (Shape_11 (by omega)).1 h; omega), S.fin⟩
                    | exact ⟨shape_f (fun h => by obtain ⟨x1, x2, x3⟩ := h; omega), S.fin⟩
              · first | refine o_pick rfl (v := .bool _) rfl rfl ?_ | refine o_pick rfl (by conv => lhs; whnf) rfl ?_
                first | refine o_move (v := .bool _) rfl rfl ?_ | refine o_move (by conv => lhs; whnf) rfl ?_
                refine WL_off rfl rfl rfl rfl ?_
                refine WL_off rfl rfl rfl rfl ?_
                refine WL_off rfl rfl rfl rfl ?_
                refine WL_off rfl rfl rfl rfl ?_
                refine WL_off rfl rfl rfl rfl ?_
                first | refine o_pick rfl (v := .bool _) rfl rfl ?_ | refine o_pick rfl (by conv => lhs; whnf) rfl ?_
                first | refine o_assign (v := .bool _) rfl rfl ?_ | refine o_assign (by conv => lhs; whnf) rfl ?_
                refine WL_nil ?_
                refine W_ret ?_
                refine ret_1 rfl (by conv => lhs; whnf) ?_
                first
                  | exact ⟨shape_f (fun h => by have := Shape_ar h; omega), S.fin⟩
                  | exact ⟨shape_t ((Shape_1 (by omega)).2 (by omega)), S.fin⟩
                  | exact ⟨shape_f (fun h => by have := (Shape_1 (by omega)).1 h; omega), S.fin⟩
                  | exact ⟨shape_t ((Shape_2 (by omega)).2 (by omega)), S.fin⟩
                  | exact ⟨shape_f (fun h => by have := (Shape_2 (by omega)).1 h; omega), S.fin⟩
                  | exact ⟨shape_t ((Shape_4 (by omega)).2 (by have := wideB_1.1 h90; omega)), S.fin⟩
                  | exact ⟨shape_f (fun h => by have := (Shape_4 (by omega)).1 h; rw [wideB_1.2 (by omega)] at h90; cases h90), S.fin⟩
                  | exact ⟨shape_t ((Shape_5 (by omega)).2 (by have := wideB_2.1 h111; omega)), S.fin⟩
                  | exact ⟨shape_f (fun h => by have := (Shape_5 (by omega)).1 h; rw [wideB_2.2 (by omega)] at h111; cases h111), S.fin⟩
                  | exact ⟨shape_t ((Shape_14 (by omega)).2 (by have := wideB_3.1 h161; omega)), S.fin⟩
                  | exact ⟨shape_f (fun h => by have := (Shape_14 (by omega)).1 h; rw [wideB_3.2 (by omega)] at h161; cases h161), S.fin⟩
                  | exact ⟨shape_t ((Shape_11 (by omega)).2 (by omega)), S.fin⟩
                  | exact ⟨shape_f (fun h => by have := (Shape_11 (by omega)).1 h; omega), S.fin⟩
                  | exact ⟨shape_f (fun h => by obtain ⟨x1, x2, x3⟩ := h; omega), S.fin⟩
            · first | refine o_move (v := .bool _) rfl rfl ?_ | refine o_move (by conv => lhs; whnf) rfl ?_
              refine WL_off rfl rfl rfl rfl ?_
              refine WL_off rfl rfl rfl rfl ?_
              refine WL_off rfl rfl rfl rfl ?_
              refine WL_off rfl rfl rfl rfl ?_
              refine WL_off rfl rfl rfl rfl ?_
              first | refine o_pick rfl (v := .bool _) rfl rfl ?_ | refine o_pick rfl (by conv => lhs; whnf) rfl ?_
              first | refine o_move (v := .bool _) rfl rfl ?_ | refine o_move (by conv => lhs; whnf) rfl ?_
              refine WL_off rfl rfl rfl rfl ?_
              refine WL_off rfl rfl rfl rfl ?_
              refine WL_off rfl rfl rfl rfl ?_
              refine WL_off rfl rfl rfl rfl ?_
              refine WL_off rfl rfl rfl rfl ?_
              first | refine o_pick rfl (v := .bool _) rfl rfl ?_ | refine o_pick rfl (by conv => lhs; whnf) rfl ?_
              first | refine o_assign (v := .bool _) rfl rfl ?_ | refine o_assign (by conv => lhs; whnf) rfl ?_
              refine WL_nil ?_
              refine W_ret ?_
              refine ret_1 rfl (by conv => lhs; whnf) ?_
              first
                | exact ⟨shape_f (fun h => by have := Shape_ar h; omega), S.fin⟩
                | exact ⟨shape_t ((Shape_1 (by omega)).2 (by omega)), S.fin⟩
                | exact ⟨shape_f (fun h => by have := (Shape_1 (by omega)).1 h; omega), S.fin⟩
                | exact ⟨shape_t ((Shape_2 (by omega)).2 (by omega)), S.fin⟩
                | exact ⟨shape_f (fun h => by have := (Shape_2 (by omega)).1 h; omega), S.fin⟩
                | exact ⟨shape_t ((Shape_4 (by omega)).2 (by have := wideB_1.1 h90; omega)), S.fin⟩
                | exact ⟨shape_f (fun h => by have := (Shape_4 (by omega)).1 h; rw [wideB_1.2 (by omega)] at h90; cases h90), S.fin⟩
                | exact ⟨shape_t ((Shape_5 (by omega)).2 (by have := wideB_2.1 h111; omega)), S.fin⟩
                | exact ⟨shape_f (fun h => by have := (Shape_5 (by omega)).1 h; rw [wideB_2.2 (by omega)] at h111; cases h111), S.fin⟩
                | exact ⟨shape_t ((Shape_14 (by omega)).2 (by have := wideB_3.1 h161; omega)), S.fin⟩
                | exact ⟨shape_f (fun h => by have := (Shape_14 (by omega)).1 h; rw [wideB_3.2 (by omega)] at h161; cases h161), S.fin⟩
                | exact ⟨shape_t ((Shape_11 (by omega)).2 (by omega)), S.fin⟩
                | exact ⟨shape_f (fun h => by have := (Shape_11 (by omega)).1 h; omega), S.fin⟩
                | exact ⟨shape_f (fun h => by obtain ⟨x1, x2, x3⟩ := h; omega), S.fin⟩
          · first | refine o_assign (v := .bool _) rfl rfl ?_ | refine o_assign (by conv => lhs; whnf) rfl ?_
            refine WL_nil ?_
            refine W_else rfl ?_
            refine W_skip ?_
            refine W_seq ?_
            refine W_seq ?_
            refine W_region ?_
            first | refine o_move (v := .pointer _) rfl rfl ?_ | refine o_move (by conv => lhs; whnf) rfl ?_
            refine o_nilCheck rfl rfl ?_
            refine o_fieldAddr fa_25_2 rfl rfl ?_
            refine o_load one_3 rfl (by first | exact S.old c0 | exact S.old c1 | exact S.old c2 | exact S.old c3 | exact S.old (hK.at (by omega) (by omega)) | exact S.old hk0 | exact S.old hk1) rfl ?_
            refine o_neq rfl rfl rfl (fun h74 => ?_) (fun h74 => ?_)
            · refine WL_nil ?_
              refine W_then rfl ?_
              refine W_seq ?_
              refine W_region ?_
              first | refine o_assign (v := .bool _) rfl rfl ?_ | refine o_assign (by conv => lhs; whnf) rfl ?_
              refine WL_nil ?_
              refine W_ret ?_
              refine ret_1 rfl (by conv => lhs; whnf) ?_
              first
                | exact ⟨shape_f (fun h => by have := Shape_ar h; omega), S.fin⟩
                | exact ⟨shape_t ((Shape_1 (by omega)).2 (by omega)), S.fin⟩
                | exact ⟨shape_f (fun h => by have := (Shape_1 (by omega)).1 h; omega), S.fin⟩
                | exact ⟨shape_t ((Shape_2 (by omega)).2 (by omega)), S.fin⟩
                | exact ⟨shape_f (fun h => by have := (Shape_2 (by omega)).1 h; omega), S.fin⟩
                | exact ⟨shape_t ((Shape_4 (by omega)).2 (by have := wideB_1.1 h90; omega)), S.fin⟩
                | exact ⟨shape_f (fun h => by have := (Shape_4 (by omega)).1 h; rw [wideB_1.2 (by omega)] at h90; cases h90), S.fin⟩
                | exact ⟨shape_t ((Shape_5 (by omega)).2 (by have := wideB_2.1 h111; omega)), S.fin⟩
                | exact ⟨shape_f (fun h => by have := (Shape_5 (by omega)).1 h; rw [wideB_2.2 (by omega)] at h111; cases h111), S.fin⟩
                | exact ⟨shape_t ((Shape_14 (by omega)).2 (by have := wideB_3.1 h161; omega)), S.fin⟩
                | exact ⟨shape_f (fun h => by have := (Shape_14 (by omega)).1 h; rw [wideB_3.2 (by omega)] at h161; cases h161), S.fin⟩
                | exact ⟨shape_t ((Shape_11 (by omega)).2 (by omega)), S.fin⟩
                | exact ⟨shape_f (fun h => by have := (Shape_11 (by omega)).1 h; omega), S.fin⟩
                | exact ⟨shape_f (fun h => by obtain ⟨x1, x2, x3⟩ := h; omega), S.fin⟩
            · refine WL_nil ?_
              refine W_else rfl ?_
              refine W_skip ?_
              refine W_seq ?_
              refine W_seq ?_
              refine W_region ?_
              first | refine o_move (v := .pointer _) rfl rfl ?_ | refine o_move (by conv => lhs; whnf) rfl ?_
              refine o_nilCheck rfl rfl ?_
              refine o_fieldAddr fa_25_0 rfl rfl ?_
              refine o_load one_3 rfl (by first | exact S.old c0 | exact S.old c1 | exact S.old c2 | exact S.old c3 | exact S.old (hK.at (by omega) (by omega)) | exact S.old hk0 | exact S.old hk1) rfl ?_
              refine WL_nil ?_
              refine W_block ?_
              refine W_seq ?_
              refine W_region ?_
              refine o_eql rfl rfl rfl (fun h80 => ?_) (fun h80 => ?_)
              · first | refine o_assign (v := .bool _) rfl rfl ?_ | refine o_assign (by conv => lhs; whnf) rfl ?_
                refine WL_nil ?_
                refine W_then rfl ?_
                refine W_seq ?_
                refine W_draw follows_mixed [0, 1, 2, 3, 4, 5, 6, 7] [8] [9, 10] (by kernel_rfl) rfl (Cl _ _ _ _) (Cl.start S) ?_
                first | refine q_move (v := .pointer _) rfl rfl ?_ | refine q_move (by conv => lhs; whnf) rfl ?_
                refine q_nilCheck rfl rfl ?_
                refine q_fieldAddr fa_25_3 rfl rfl ?_
                refine q_load one_23 rfl (fun w1 hw => by first | exact hw.1.old c0 | exact hw.1.old c1 | exact hw.1.old c2 | exact hw.1.old c3 | exact hw.1.old (hK.at (by omega) (by omega)) | exact hw.1.old hk0 | exact hw.1.old hk1) rfl ?_
                first | refine q_move (v := .pointer _) rfl rfl ?_ | refine q_move (by conv => lhs; whnf) rfl ?_
                refine q_nilCheck rfl rfl ?_
                refine q_fieldAddr fa_25_1 rfl rfl ?_
                refine q_load one_3 rfl (fun w1 hw => by first | exact hw.1.old c0 | exact hw.1.old c1 | exact hw.1.old c2 | exact hw.1.old c3 | exact hw.1.old (hK.at (by omega) (by omega)) | exact hw.1.old hk0 | exact hw.1.old hk1) rfl ?_
                refine QL_nil ?_
                refine BK_of ?_
                refine BKL_slice rfl rfl slz_28 (vs := [.int .i64 _]) (cs := [_]) (by rfl) rfl rfl rfl rfl rfl ?_
                refine BKL_nil ?_
                rintro wR13 ⟨SR13, XR13⟩
                intro g89 hg89 G89 ng89
                dsimp only [upds]
                clear ng89
                replace SR13 := SR13.push_new S hg89 G89
                refine o_callb SR13 has_65 rfl rfl (wide_fn e [] _ _ _ _ _ _ _ _ [e.w] (RdE.less (by simp) _ _ (RdE.keep (SR13.keep0 M) _ _ hRE)) (rdI_own (k := 0) SR13 rfl (by simp) rfl (by omega) (by simpa using o2))) (fun h90 w90 S90 X90 => ?_) (fun h90 w90 S90 X90 => ?_)
                · first | refine o_assign (v := .bool _) rfl rfl ?_ | refine o_assign (by conv => lhs; whnf) rfl ?_
                  refine WL_nil ?_
                  refine W_ret ?_
                  refine ret_1 rfl (by conv => lhs; whnf) ?_
                  first
                    | exact ⟨shape_f (fun h => by have := Shape_ar h; omega), S90.fin⟩
                    | exact ⟨shape_t ((Shape_1 (by omega)).2 (by omega)), S90.fin⟩
                    | exact ⟨shape_f (fun h => by have := (Shape_1 (by omega)).1 h; omega), S90.fin⟩
                    | exact ⟨shape_t ((Shape_2 (by omega)).2 (by omega)), S90.fin⟩
                    | exact ⟨shape_f (fun h => by have := (Shape_2 (by omega)).1 h; omega), S90.fin⟩
                    | exact ⟨shape_t ((Shape_4 (by omega)).2 (by have := wideB_1.1 h90; omega)), S90.fin⟩
                    | exact ⟨shape_f (fun h => by have := (Shape_4 (by omega)).1 h; rw [wideB_1.2 (by omega)] at h90; cases h90), S90.fin⟩
                    | exact ⟨shape_t ((Shape_5 (by omega)).2 (by have := wideB_2.1 h111; omega)), S90.fin⟩
                    | exact ⟨shape_f (fun h => by have := (Shape_5 (by omega)).1 h; rw [wideB_2.2 (by omega)] at h111; cases h111), S90.fin⟩
                    | exact ⟨shape_t ((Shape_14 (by omega)).2 (by have := wideB_3.1 h161; omega)), S90.fin⟩
                    | exact ⟨shape_f (fun h => by have := (Shape_14 (by omega)).1 h; rw [wideB_3.2 (by omega)] at h161; cases h161), S90.fin⟩
                    | exact ⟨shape_t ((Shape_11 (by omega)).2 (by omega)), S90.fin⟩
                    | exact ⟨shape_f (fun h => by have := (Shape_11 (by omega)).1 h; omega), S90.fin⟩
                    | exact ⟨shape_f (fun h => by obtain ⟨x1, x2, x3⟩ := h; omega), S90.fin⟩
                · first | refine o_assign (v := .bool _) rfl rfl ?_ | refine o_assign (by conv => lhs; whnf) rfl ?_
                  refine WL_nil ?_
                  refine W_ret ?_
                  refine ret_1 rfl (by conv => lhs; whnf) ?_
                  first
                    | exact ⟨shape_f (fun h => by have := Shape_ar h; omega), S90.fin⟩
                    | exact ⟨shape_t ((Shape_1 (by omega)).2 (by omega)), S90.fin⟩
                    | exact ⟨shape_f (fun h => by have := (Shape_1 (by omega)).1 h; omega), S90.fin⟩
                    | exact ⟨shape_t ((Shape_2 (by omega)).2 (by omega)), S90.fin⟩
                    | exact ⟨shape_f (fun h => by have := (Shape_2 (by omega)).1 h; omega), S90.fin⟩
                    | exact ⟨shape_t ((Shape_4 (by omega)).2 (by have := wideB_1.1 h90; omega)), S90.fin⟩
                    | exact ⟨shape_f (fun h => by have := (Shape_4 (by omega)).1 h; rw [wideB_1.2 (by omega)] at h90; cases h90), S90.fin⟩
                    | exact ⟨shape_t ((Shape_5 (by omega)).2 (by have := wideB_2.1 h111; omega)), S90.fin⟩
                    | exact ⟨shape_f (fun h => by have := (Shape_5 (by omega)).1 h; rw [wideB_2.2 (by omega)] at h111; cases h111), S90.fin⟩
                    | exact ⟨shape_t ((Shape_14 (by omega)).2 (by have := wideB_3.1 h161; omega)), S90.fin⟩
                    | exact ⟨shape_f (fun h => by have := (Shape_14 (by omega)).1 h; rw [wideB_3.2 (by omega)] at h161; cases h161), S90.fin⟩
                    | exact ⟨shape_t ((Shape_11 (by omega)).2 (by omega)), S90.fin⟩
                    | exact ⟨shape_f (fun h => by have := (Shape_11 (by omega)).1 h; omega), S90.fin⟩
                    | exact ⟨shape_f (fun h => by obtain ⟨x1, x2, x3⟩ := h; omega), S90.fin⟩
              · first | refine o_assign (v := .bool _) rfl rfl ?_ | refine o_assign (by conv => lhs; whnf) rfl ?_
                refine WL_nil ?_
                refine W_else rfl ?_
                refine W_seq ?_
                refine W_seq ?_
                refine W_region ?_
                refine o_eql rfl rfl rfl (fun h92 => ?_) (fun h92 => ?_)
                · first | refine o_assign (v := .bool _) rfl rfl ?_ | refine o_assign (by conv => lhs; whnf) rfl ?_
                  refine WL_nil ?_
                  refine W_then rfl ?_
                  refine W_skip ?_
                  refine W_then rfl ?_
                  refine W_seq ?_
                  refine W_draw follows_mixed [0, 1, 2, 3, 4, 5, 6, 7, 8, 9, 10, 11] [12] [13, 14] (by kernel_rfl) rfl (Cl _ _ _ _) (Cl.start S) ?_
                  first | refine q_move (v := .pointer _) rfl rfl ?_ | refine q_move (by conv => lhs; whnf) rfl ?_
                  refine q_nilCheck rfl rfl ?_
                  refine q_fieldAddr fa_25_3 rfl rfl ?_
                  refine q_load one_23 rfl (fun w1 hw => by first | exact hw.1.old c0 | exact hw.1.old c1 | exact hw.1.old c2 | exact hw.1.old c3 | exact hw.1.old (hK.at (by omega) (by omega)) | exact hw.1.old hk0 | exact hw.1.old hk1) rfl ?_
                  first | refine q_move (v := .pointer _) rfl rfl ?_ | refine q_move (by conv => lhs; whnf) rfl ?_
                  refine q_nilCheck rfl rfl ?_
                  refine q_fieldAddr fa_25_1 rfl rfl ?_
                  refine q_load one_3 rfl (fun w1 hw => by first | exact hw.1.old c0 | exact hw.1.old c1 | exact hw.1.old c2 | exact hw.1.old c3 | exact hw.1.old (hK.at (by omega) (by omega)) | exact hw.1.old hk0 | exact hw.1.old hk1) rfl ?_
                  first | refine q_move (v := .pointer _) rfl rfl ?_ | refine q_move (by conv => lhs; whnf) rfl ?_
                  refine q_nilCheck rfl rfl ?_
                  refine q_fieldAddr fa_25_1 rfl rfl ?_
                  refine q_load one_3 rfl (fun w1 hw => by first | exact hw.1.old c0 | exact hw.1.old c1 | exact hw.1.old c2 | exact hw.1.old c3 | exact hw.1.old (hK.at (by omega) (by omega)) | exact hw.1.old hk0 | exact hw.1.old hk1) rfl ?_
                  refine QL_nil ?_
                  refine BK_of ?_
                  refine BKL_slice rfl rfl slz_28 (vs := [.int .i64 _, .int .i64 _]) (cs := [_, _]) (by rfl) rfl rfl rfl rfl rfl ?_
                  refine BKL_nil ?_
                  rintro wR20 ⟨SR20, XR20⟩
                  intro g110 hg110 G110 ng110
                  dsimp only [upds]
                  clear ng110
                  replace SR20 := SR20.push_new S hg110 G110
                  refine o_callb SR20 has_65 rfl rfl (wide_fn e [] _ _ _ _ _ _ _ _ [e.w, e.w] (RdE.less (by simp) _ _ (RdE.keep (SR20.keep0 M) _ _ hRE)) (rdI_own (k := 0) SR20 rfl (by simp) rfl (by omega) (by simpa using o2))) (fun h111 w111 S111 X111 => ?_) (fun h111 w111 S111 X111 => ?_)
                  · first | refine o_assign (v := .bool _) rfl rfl ?_ | refine o_assign (by conv => lhs; whnf) rfl ?_
                    refine WL_nil ?_
                    refine W_ret ?_
                    refine ret_1 rfl (by conv => lhs; whnf) ?_
                    first
                      | exact ⟨shape_f (fun h => by have := Shape_ar h; omega), S111.fin⟩
                      | exact ⟨shape_t ((Shape_1 (by omega)).2 (by omega)), S111.fin⟩
                      | exact ⟨shape_f (fun h => by have := (Shape_1 (by omega)).1 h; omega), S111.fin⟩
                      | exact ⟨shape_t ((Shape_2 (by omega)).2 (by omega)), S111.fin⟩
                      | exact ⟨shape_f (fun h => by have := (Shape_2 (by omega)).1 h; omega), S111.fin⟩
                      | exact ⟨shape_t ((Shape_4 (by omega)).2 (by have := wideB_1.1 h90; omega)), S111.fin⟩
                      | exact ⟨shape_f (fun h => by have := (Shape_4 (by omega)).1 h; rw [wideB_1.2 (by omega)] at h90; cases h90), S111.fin⟩
                      | exact ⟨shape_t ((Shape_5 (by omega)).2 (by have := wideB_2.1 h111; omega)), S111.fin⟩
                      | exact ⟨shape_f (fun h => by have := (Shape_5 (by omega)).1 h; rw [wideB_2.2 (by omega)] at h111; cases h111), S111.fin⟩
                      | exact ⟨shape_t ((Shape_14 (by omega)).2 (by have := wideB_3.1 h161; omega)), S111.fin⟩
                      | exact ⟨shape_f (fun h => by have := (Shape_14 (by omega)).1 h; rw [wideB_3.2 (by omega)] at h161; cases h161), S111.fin⟩
                      | exact ⟨shape_t ((Shape_11 (by omega)).2 (by omega)), S111.fin⟩
                      | exact ⟨shape_f (fun h => by have := (Shape_11 (by omega)).1 h; omega), S111.fin⟩
                      | exact ⟨shape_f (fun h => by obtain ⟨x1, x2, x3⟩ := h; omega), S111.fin⟩
                  · first | refine o_assign (v := .bool _) rfl rfl ?_ | refine o_assign (by conv => lhs; whnf) rfl ?_
                    refine WL_nil ?_
                    refine W_ret ?_
                    refine ret_1 rfl (by conv => lhs; whnf) ?_
                    first
                      | exact ⟨shape_f (fun h => by have := Shape_ar h; omega), S111.fin⟩
                      | exact ⟨shape_t ((Shape_1 (by omega)).2 (by omega)), S111.fin⟩
                      | exact ⟨shape_f (fun h => by have := (Shape_1 (by omega)).1 h; omega), S111.fin⟩
                      | exact ⟨shape_t ((Shape_2 (by omega)).2 (by omega)), S111.fin⟩
                      | exact ⟨shape_f (fun h => by have := (Shape_2 (by omega)).1 h; omega), S111.fin⟩
                      | exact ⟨shape_t ((Shape_4 (by omega)).2 (by have := wideB_1.1 h90; omega)), S111.fin⟩
                      | exact ⟨shape_f (fun h => by have := (Shape_4 (by omega)).1 h; rw [wideB_1.2 (by omega)] at h90; cases h90), S111.fin⟩
                      | exact ⟨shape_t ((Shape_5 (by omega)).2 (by have := wideB_2.1 h111; omega)), S111.fin⟩
                      | exact ⟨shape_f (fun h => by have := (Shape_5 (by omega)).1 h; rw [wideB_2.2 (by omega)] at h111; cases h111), S111.fin⟩
                      | exact ⟨shape_t ((Shape_14 (by omega)).2 (by have := wideB_3.1 h161; omega)), S111.fin⟩
                      | exact ⟨shape_f (fun h => by have := (Shape_14 (by omega)).1 h; rw [wideB_3.2 (by omega)] at h161; cases h161), S111.fin⟩
                      | exact ⟨shape_t ((Shape_11 (by omega)).2 (by omega)), S111.fin⟩
                      | exact ⟨shape_f (fun h => by have := (Shape_11 (by omega)).1 h; omega), S111.fin⟩
                      | exact ⟨shape_f (fun h => by obtain ⟨x1, x2, x3⟩ := h; omega), S111.fin⟩
                · first | refine o_assign (v := .bool _) rfl rfl ?_ | refine o_assign (by conv => lhs; whnf) rfl ?_
                  refine WL_nil ?_
                  refine W_else rfl ?_
                  refine W_seq ?_
                  refine W_region ?_
                  refine o_eql rfl rfl rfl (fun h93 => ?_) (fun h93 => ?_)
                  · first | refine o_assign (v := .bool _) rfl rfl ?_ | refine o_assign (by conv => lhs; whnf) rfl ?_
                    refine WL_nil ?_
                    refine W_then rfl ?_
                    refine W_skip ?_
                    refine W_then rfl ?_
                    refine W_seq ?_
                    refine W_draw follows_mixed [0, 1, 2, 3, 4, 5, 6, 7, 8, 9, 10, 11] [12] [13, 14] (by kernel_rfl) rfl (Cl _ _ _ _) (Cl.start S) ?_
                    first | refine q_move (v := .pointer _) rfl rfl ?_ | refine q_move (by conv => lhs; whnf) rfl ?_
                    refine q_nilCheck rfl rfl ?_
                    refine q_fieldAddr fa_25_3 rfl rfl ?_
                    refine q_load one_23 rfl (fun w1 hw => by first | exact hw.1.old c0 | exact hw.1.old c1 | exact hw.1.old c2 | exact hw.1.old c3 | exact hw.1.old (hK.at (by omega) (by omega)) | exact hw.1.old hk0 | exact hw.1.old hk1) rfl ?_
                    first | refine q_move (v := .pointer _) rfl rfl ?_ | refine q_move (by conv => lhs; whnf) rfl ?_
                    refine q_nilCheck rfl rfl ?_
                    refine q_fieldAddr fa_25_1 rfl rfl ?_
                    refine q_load one_3 rfl (fun w1 hw => by first | exact hw.1.old c0 | exact hw.1.old c1 | exact hw.1.old c2 | exact hw.1.old c3 | exact hw.1.old (hK.at (by omega) (by omega)) | exact hw.1.old hk0 | exact hw.1.old hk1) rfl ?_
                    first | refine q_move (v := .pointer _) rfl rfl ?_ | refine q_move (by conv => lhs; whnf) rfl ?_
                    refine q_nilCheck rfl rfl ?_
                    refine q_fieldAddr fa_25_1 rfl rfl ?_
                    refine q_load one_3 rfl (fun w1 hw => by first | exact hw.1.old c0 | exact hw.1.old c1 | exact hw.1.old c2 | exact hw.1.old c3 | exact hw.1.old (hK.at (by omega) (by omega)) | exact hw.1.old hk0 | exact hw.1.old hk1) rfl ?_
                    refine QL_nil ?_
                    refine BK_of ?_
                    refine BKL_slice rfl rfl slz_28 (vs := [.int .i64 _, .int .i64 _]) (cs := [_, _]) (by rfl) rfl rfl rfl rfl rfl ?_
                    refine BKL_nil ?_
                    rintro wR20 ⟨SR20, XR20⟩
                    intro g110 hg110 G110 ng110
                    dsimp only [upds]
                    clear ng110
                    replace SR20 := SR20.push_new S hg110 G110
                    refine o_callb SR20 has_65 rfl rfl (wide_fn e [] _ _ _ _ _ _ _ _ [e.w, e.w] (RdE.less (by simp) _ _ (RdE.keep (SR20.keep0 M) _ _ hRE)) (rdI_own (k := 0) SR20 rfl (by simp) rfl (by omega) (by simpa using o2))) (fun h111 w111 S111 X111 => ?_) (fun h111 w111 S111 X111 => ?_)
                    · first | refine o_assign (v := .bool _) rfl rfl ?_ | refine o_assign (by conv => lhs; whnf) rfl ?_
                      refine WL_nil ?_
                      refine W_ret ?_
                      refine ret_1 rfl (by conv => lhs; whnf) ?_
                      first
                        | exact ⟨shape_f (fun h => by have := Shape_ar h; omega), S111.fin⟩
                        | exact ⟨shape_t ((Shape_1 (by omega)).2 (by omega)), S111.fin⟩
                        | exact ⟨shape_f (fun h => by have := (Shape_1 (by omega)).1 h; omega), S111.fin⟩
                        | exact ⟨shape_t ((Shape_2 (by omega)).2 (by omega)), S111.fin⟩
                        | exact ⟨shape_f (fun h => by have := (Shape_2 (by omega)).1 h; omega), S111.fin⟩
                        | exact ⟨shape_t ((Shape_4 (by omega)).2 (by have := wideB_1.1 h90; omega)), S111.fin⟩
                        | exact ⟨shape_f (fun h => by have := (Shape_4 (by omega)).1 h; rw [wideB_1.2 (by omega)] at h90; cases h90), S111.fin⟩
                        | exact ⟨shape_t ((Shape_5 (by omega)).2 (by have := wideB_2.1 h111; omega)), S111.fin⟩
                        | exact ⟨shape_f (fun h => by have := (Shape_5 (by omega)).1 h; rw [wideB_2.2 (by omega)] at h111; cases h111), S111.fin⟩
                        | exact ⟨shape_t ((Shape_14 (by omega)).2 (by have := wideB_3.1 h161; omega)), S111.fin⟩
                        | exact ⟨shape_f (fun h => by have := (Shape_14 (by omega)).1 h; rw [wideB_3.2 (by omega)] at h161; cases h161), S111.fin⟩
                        | exact ⟨shape_t ((Shape_11 (by omega)).2 (by omega)), S111.fin⟩
                        | exact ⟨shape_f (fun h => by have := (Shape_11 (by omega)).1 h; omega), S111.fin⟩
                        | exact ⟨shape_f (fun h => by obtain ⟨x1, x2, x3⟩ := h; omega), S111.fin⟩
                    · first | refine o_assign (v := .bool _) rfl rfl ?_ | refine o_assign (by conv => lhs; whnf) rfl ?_
                      refine WL_nil ?_
                      refine W_ret ?_
                      refine ret_1 rfl (by conv => lhs; whnf) ?_
                      first
                        | exact ⟨shape_f (fun h => by have := Shape_ar h; omega), S111.fin⟩
                        | exact ⟨shape_t ((Shape_1 (by omega)).2 (by omega)), S111.fin⟩
                        | exact ⟨shape_f (fun h => by have := (Shape_1 (by omega)).1 h; omega), S111.fin⟩
                        | exact ⟨shape_t ((Shape_2 (by omega)).2 (by omega)), S111.fin⟩
                        | exact ⟨shape_f (fun h => by have := (Shape_2 (by omega)).1 h; omega), S111.fin⟩
                        | exact ⟨shape_t ((Shape_4 (by omega)).2 (by have := wideB_1.1 h90; omega)), S111.fin⟩
                        | exact ⟨shape_f (fun h => by have := (Shape_4 (by omega)).1 h; rw [wideB_1.2 (by omega)] at h90; cases h90), S111.fin⟩
                        | exact ⟨shape_t ((Shape_5 (by omega)).2 (by have := wideB_2.1 h111; omega)), S111.fin⟩
                        | exact ⟨shape_f (fun h => by have := (Shape_5 (by omega)).1 h; rw [wideB_2.2 (by omega)] at h111; cases h111), S111.fin⟩
                        | exact ⟨shape_t ((Shape_14 (by omega)).2 (by have := wideB_3.1 h161; omega)), S111.fin⟩
                        | exact ⟨shape_f (fun h => by have := (Shape_14 (by omega)).1 h; rw [wideB_3.2 (by omega)] at h161; cases h161), S111.fin⟩
                        | exact ⟨shape_t ((Shape_11 (by omega)).2 (by omega)), S111.fin⟩
                        | exact ⟨shape_f (fun h => by have := (Shape_11 (by omega)).1 h; omega), S111.fin⟩
                        | exact ⟨shape_f (fun h => by obtain ⟨x1, x2, x3⟩ := h; omega), S111.fin⟩
                  · first | refine o_assign (v := .bool _) rfl rfl ?_ | refine o_assign (by conv => lhs; whnf) rfl ?_
                    refine WL_nil ?_
                    refine W_else rfl ?_
                    refine W_seq ?_
                    refine W_region ?_
                    refine o_eql rfl rfl rfl (fun h94 => ?_) (fun h94 => ?_)
                    · first | refine o_assign (v := .bool _) rfl rfl ?_ | refine o_assign (by conv => lhs; whnf) rfl ?_
                      refine WL_nil ?_
                      refine W_then rfl ?_
                      refine W_skip ?_
                      refine W_then rfl ?_
                      refine W_seq ?_
                      refine W_draw follows_mixed [0, 1, 2, 3, 4, 5, 6, 7, 8, 9, 10, 11] [12] [13, 14] (by kernel_rfl) rfl (Cl _ _ _ _) (Cl.start S) ?_
                      first | refine q_move (v := .pointer _) rfl rfl ?_ | refine q_move (by conv => lhs; whnf) rfl ?_
                      refine q_nilCheck rfl rfl ?_
                      refine q_fieldAddr fa_25_3 rfl rfl ?_
                      refine q_load one_23 rfl (fun w1 hw => by first | exact hw.1.old c0 | exact hw.1.old c1 | exact hw.1.old c2 | exact hw.1.old c3 | exact hw.1.old (hK.at (by omega) (by omega)) | exact hw.1.old hk0 | exact hw.1.old hk1) rfl ?_
                      first | refine q_move (v := .pointer _) rfl rfl ?_ | refine q_move (by conv => lhs; whnf) rfl ?_
                      refine q_nilCheck rfl rfl ?_
                      refine q_fieldAddr fa_25_1 rfl rfl ?_
                      refine q_load one_3 rfl (fun w1 hw => by first | exact hw.1.old c0 | exact hw.1.old c1 | exact hw.1.old c2 | exact hw.1.old c3 | exact hw.1.old (hK.at (by omega) (by omega)) | exact hw.1.old hk0 | exact hw.1.old hk1) rfl ?_
                      first | refine q_move (v := .pointer _) rfl rfl ?_ | refine q_move (by conv => lhs; whnf) rfl ?_
                      refine q_nilCheck rfl rfl ?_
                      refine q_fieldAddr fa_25_1 rfl rfl ?_
                      refine q_load one_3 rfl (fun w1 hw => by first | exact hw.1.old c0 | exact hw.1.old c1 | exact hw.1.old c2 | exact hw.1.old c3 | exact hw.1.old (hK.at (by omega) (by omega)) | exact hw.1.old hk0 | exact hw.1.old hk1) rfl ?_
                      refine QL_nil ?_
                      refine BK_of ?_
                      refine BKL_slice rfl rfl slz_28 (vs := [.int .i64 _, .int .i64 _]) (cs := [_, _]) (by rfl) rfl rfl rfl rfl rfl ?_
                      refine BKL_nil ?_
                      rintro wR20 ⟨SR20, XR20⟩
                      intro g110 hg110 G110 ng110
                      dsimp only [upds]
                      clear ng110
                      replace SR20 := SR20.push_new S hg110 G110
                      refine o_callb SR20 has_65 rfl rfl (wide_fn e [] _ _ _ _ _ _ _ _ [e.w, e.w] (RdE.less (by simp) _ _ (RdE.keep (SR20.keep0 M) _ _ hRE)) (rdI_own (k := 0) SR20 rfl (by simp) rfl (by omega) (by simpa using o2))) (fun h111 w111 S111 X111 => ?_) (fun h111 w111 S111 X111 => ?_)
                      · first | refine o_assign (v := .bool _) rfl rfl ?_ | refine o_assign (by conv => lhs; whnf) rfl ?_
                        refine WL_nil ?_
                        refine W_ret ?_
                        refine ret_1 rfl (by conv => lhs; whnf) ?_
                        first
                          | exact ⟨shape_f (fun h => by have := Shape_ar h; omega), S111.fin⟩
                          | exact ⟨shape_t ((Shape_1 (by omega)).2 (by omega)), S111.fin⟩
                          | exact ⟨shape_f (fun h => by have := (Shape_1 (by omega)).1 h; omega), S111.fin⟩
                          | exact ⟨shape_t ((Shape_2 (by omega)).2 (by omega)), S111.fin⟩
                          | exact ⟨shape_f (fun h => by have := (Shape_2 (by omega)).1 h; omega), S111.fin⟩
                          | exact ⟨shape_t ((Shape_4 (by omega)).2 (by have := wideB_1.1 h90; omega)), S111.fin⟩
                          | exact ⟨shape_f (fun h => by have := (Shape_4 (by omega)).1 h; rw [wideB_1.2 (by omega)] at h90; cases h90), S111.fin⟩
                          | exact ⟨shape_t ((Shape_5 (by omega)).2 (by have := wideB_2.1 h111; omega)), S111.fin⟩
                          | exact ⟨shape_f (fun h => by have := (Shape_5 (by omega)).1 h; rw [wideB_2.2 (by omega)] at h111; cases h111), S111.fin⟩
                          | exact ⟨shape_t ((Shape_14 (by omega)).2 (by have := wideB_3.1 h161; omega)), S111.fin⟩
                          | exact ⟨shape_f (fun h => by have := (Shape_14 (by omega)).1 h; rw [wideB_3.2 (by omega)] at h161; cases h161), S111.fin⟩
                          | exact ⟨shape_t ((Shape_11 (by omega)).2 (by omega)), S111.fin⟩
                          | exact ⟨shape_f (fun h => by have := (Shape_11 (by omega)).1 h; omega), S111.fin⟩
                          | exact ⟨shape_f (fun h => by obtain ⟨x1, x2, x3⟩ := h; omega), S111.fin⟩
                      · first | refine o_assign (v := .bool _) rfl rfl ?_ | refine o_assign (by conv => lhs; whnf) rfl ?_
                        refine WL_nil ?_
                        refine W_ret ?_
                        refine ret_1 rfl (by conv => lhs; whnf) ?_
                        first
                          | exact ⟨shape_f (fun h => by have := Shape_ar h; omega), S111.fin⟩
                          | exact ⟨shape_t ((Shape_1 (by omega)).2 (by omega)), S111.fin⟩
                          | exact ⟨shape_f (fun h => by have := (Shape_1 (by omega)).1 h; omega), S111.fin⟩
                          | exact ⟨shape_t ((Shape_2 (by omega)).2 (by omega)), S111.fin⟩
                          | exact ⟨shape_f (fun h => by have := (Shape_2 (by omega)).1 h; omega), S111.fin⟩
                          | exact ⟨shape_t ((Shape_4 (by omega)).2 (by have := wideB_1.1 h90; omega)), S111.fin⟩
                          | exact ⟨shape_f (fun h => by have := (Shape_4 (by omega)).1 h; rw [wideB_1.2 (by omega)] at h90; cases h90), S111.fin⟩
                          | exact ⟨shape_t ((Shape_5 (by omega)).2 (by have := wideB_2.1 h111; omega)), S111.fin⟩
                          | exact ⟨shape_f (fun h => by have := (Shape_5 (by omega)).1 h; rw [wideB_2.2 (by omega)] at h111; cases h111), S111.fin⟩
                          | exact ⟨shape_t ((Shape_14 (by omega)).2 (by have := wideB_3.1 h161; omega)), S111.fin⟩
                          | exact ⟨shape_f (fun h => by have := (Shape_14 (by omega)).1 h; rw [wideB_3.2 (by omega)] at h161; cases h161), S111.fin⟩
                          | exact ⟨shape_t ((Shape_11 (by omega)).2 (by omega)), S111.fin⟩
                          | exact ⟨shape_f (fun h => by have := (Shape_11 (by omega)).1 h; omega), S111.fin⟩
                          | exact ⟨shape_f (fun h => by obtain ⟨x1, x2, x3⟩ := h; omega), S111.fin⟩
                    · first | refine o_assign (v := .bool _) rfl rfl ?_ | refine o_assign (by conv => lhs; whnf) rfl ?_
                      refine WL_nil ?_
                      refine W_else rfl ?_
                      refine W_seq ?_
                      refine W_region ?_
                      refine o_eql rfl rfl rfl (fun h95 => ?_) (fun h95 => ?_)
                      · first | refine o_assign (v := .bool _) rfl rfl ?_ | refine o_assign (by conv => lhs; whnf) rfl ?_
                        refine WL_nil ?_
                        refine W_then rfl ?_
                        refine W_skip ?_
                        refine W_then rfl ?_
                        refine W_seq ?_
                        refine W_draw follows_mixed [0, 1, 2, 3, 4, 5, 6, 7, 8, 9, 10, 11] [12] [13, 14] (by kernel_rfl) rfl (Cl _ _ _ _) (Cl.start S) ?_
                        first | refine q_move (v := .pointer _) rfl rfl ?_ | refine q_move (by conv => lhs; whnf) rfl ?_
                        refine q_nilCheck rfl rfl ?_
                        refine q_fieldAddr fa_25_3 rfl rfl ?_
                        refine q_load one_23 rfl (fun w1 hw => by first | exact hw.1.old c0 | exact hw.1.old c1 | exact hw.1.old c2 | exact hw.1.old c3 | exact hw.1.old (hK.at (by omega) (by omega)) | exact hw.1.old hk0 | exact hw.1.old hk1) rfl ?_
                        first | refine q_move (v := .pointer _) rfl rfl ?_ | refine q_move (by conv => lhs; whnf) rfl ?_
                        refine q_nilCheck rfl rfl ?_
                        refine q_fieldAddr fa_25_1 rfl rfl ?_
                        refine q_load one_3 rfl (fun w1 hw => by first | exact hw.1.old c0 | exact hw.1.old c1 | exact hw.1.old c2 | exact hw.1.old c3 | exact hw.1.old (hK.at (by omega) (by omega)) | exact hw.1.old hk0 | exact hw.1.old hk1) rfl ?_
                        first | refine q_move (v := .pointer _) rfl rfl ?_ | refine q_move (by conv => lhs; whnf) rfl ?_
                        refine q_nilCheck rfl rfl ?_
                        refine q_fieldAddr fa_25_1 rfl rfl ?_
                        refine q_load one_3 rfl (fun w1 hw => by first | exact hw.1.old c0 | exact hw.1.old c1 | exact hw.1.old c2 | exact hw.1.old c3 | exact hw.1.old (hK.at (by omega) (by omega)) | exact hw.1.old hk0 | exact hw.1.old hk1) rfl ?_
                        refine QL_nil ?_
                        refine BK_of ?_
                        refine BKL_slice rfl rfl slz_28 (vs := [.int .i64 _, .int .i64 _]) (cs := [_, _]) (by rfl) rfl rfl rfl rfl rfl ?_
                        refine BKL_nil ?_
                        rintro wR20 ⟨SR20, XR20⟩
                        intro g110 hg110 G110 ng110
                        dsimp only [upds]
                        clear ng110
                        replace SR20 := SR20.push_new S hg110 G110
                        refine o_callb SR20 has_65 rfl rfl (wide_fn e [] _ _ _ _ _ _ _ _ [e.w, e.w] (RdE.less (by simp) _ _ (RdE.keep (SR20.keep0 M) _ _ hRE)) (rdI_own (k := 0) SR20 rfl (by simp) rfl (by omega) (by simpa using o2))) (fun h111 w111 S111 X111 => ?_) (fun h111 w111 S111 X111 => ?_)
                        · first | refine o_assign (v := .bool _) rfl rfl ?_ | refine o_assign (by conv => lhs; whnf) rfl ?_
                          refine WL_nil ?_
                          refine W_ret ?_
                          refine ret_1 rfl (by conv => lhs; whnf) ?_
                          first
                            | exact ⟨shape_f (fun h => by have := Shape_ar h; omega), S111.fin⟩
                            | exact ⟨shape_t ((Shape_1 (by omega)).2 (by omega)), S111.fin⟩
                            | exact ⟨shape_f (fun h => by have := (Shape_1 (by omega)).1 h; omega), S111.fin⟩
                            | exact ⟨shape_t ((Shape_2 (by omega)).2 (by omega)), S111.fin⟩
                            | exact ⟨shape_f (fun h => by have := (Shape_2 (by omega)).1 h; omega), S111.fin⟩
                            | exact ⟨shape_t ((Shape_4 (by omega)).2 (by have := wideB_1.1 h90; omega)), S111.fin⟩
                            | exact ⟨shape_f (fun h => by have := (Shape_4 (by omega)).1 h; rw [wideB_1.2 (by omega)] at h90; cases h90), S111.fin⟩
                            | exact ⟨shape_t ((Shape_5 (by omega)).2 (by have := wideB_2.1 h111; omega)), S111.fin⟩
                            | exact ⟨shape_f (fun h => by have := (Shape_5 (by omega)).1 h; rw [wideB_2.2 (by omega)] at h111; cases h111), S111.fin⟩
                            | exact ⟨shape_t ((Shape_14 (by omega)).2 (by have := wideB_3.1 h161; omega)), S111.fin⟩
                            | exact ⟨shape_f (fun h => by have := (Shape_14 (by omega)).1 h; rw [wideB_3.2 (by omega)] at h161; cases h161), S111.fin⟩
                            | exact ⟨shape_t ((Shape_11 (by omega)).2 (by omega)), S111.fin⟩
                            | exact ⟨shape_f (fun h => by have := (Shape_11 (by omega)).1 h; omega), S111.fin⟩
                            | exact ⟨shape_f (fun h => by obtain ⟨x1, x2, x3⟩ := h; omega), S111.fin⟩
                        · first | refine o_assign (v := .bool _) rfl rfl ?_ | refine o_assign (by conv => lhs; whnf) rfl ?_
                          refine WL_nil ?_
                          refine W_ret ?_
                          refine ret_1 rfl (by conv => lhs; whnf) ?_
                          first
                            | exact ⟨shape_f (fun h => by have := Shape_ar h; omega), S111.fin⟩
                            | exact ⟨shape_t ((Shape_1 (by omega)).2 (by omega)), S111.fin⟩
                            | exact ⟨shape_f (fun h => by have := (Shape_1 (by omega)).1 h; omega), S111.fin⟩
                            | exact ⟨shape_t ((Shape_2 (by omega)).2 (by omega)), S111.fin⟩
                            | exact ⟨shape_f (fun h => by have := (Shape_2 (by omega)).1 h; omega), S111.fin⟩
                            | exact ⟨shape_t ((Shape_4 (by omega)).2 (by have := wideB_1.1 h90; omega)), S111.fin⟩
                            | exact ⟨shape_f (fun h => by have := (Shape_4 (by omega)).1 h; rw [wideB_1.2 (by omega)] at h90; cases h90), S111.fin⟩
                            | exact ⟨shape_t ((Shape_5 (by omega)).2 (by have := wideB_2.1 h111; omega)), S111.fin⟩
                            | exact ⟨shape_f (fun h => by have := (Shape_5 (by omega)).1 h; rw [wideB_2.2 (by omega)] at h111; cases h111), S111.fin⟩
                            | exact ⟨shape_t ((Shape_14 (by omega)).2 (by have := wideB_3.1 h161; omega)), S111.fin⟩
                            | exact ⟨shape_f (fun h => by have := (Shape_14 (by omega)).1 h; rw [wideB_3.2 (by omega)] at h161; cases h161), S111.fin⟩
                            | exact ⟨shape_t ((Shape_11 (by omega)).2 (by omega)), S111.fin⟩
                            | exact ⟨shape_f (fun h => by have := (Shape_11 (by omega)).1 h; omega), S111.fin⟩
                            | exact ⟨shape_f (fun h => by obtain ⟨x1, x2, x3⟩ := h; omega), S111.fin⟩
                      · first | refine o_assign (v := .bool _) rfl rfl ?_ | refine o_assign (by conv => lhs; whnf) rfl ?_
                        refine WL_nil ?_
                        refine W_else rfl ?_
                        refine W_seq ?_
                        refine W_region ?_
                        refine o_eql rfl rfl rfl (fun h96 => ?_) (fun h96 => ?_)
                        · first | refine o_assign (v := .bool _) rfl rfl ?_ | refine o_assign (by conv => lhs; whnf) rfl ?_
                          refine WL_nil ?_
                          refine W_then rfl ?_
                          refine W_skip ?_
                          refine W_then rfl ?_
                          refine W_seq ?_
                          refine W_draw follows_mixed [0, 1, 2, 3, 4, 5, 6, 7, 8, 9, 10, 11] [12] [13, 14] (by kernel_rfl) rfl (Cl _ _ _ _) (Cl.start S) ?_
                          first | refine q_move (v := .pointer _) rfl rfl ?_ | refine q_move (by conv => lhs; whnf) rfl ?_
                          refine q_nilCheck rfl rfl ?_
                          refine q_fieldAddr fa_25_3 rfl rfl ?_
                          refine q_load one_23 rfl (fun w1 hw => by first | exact hw.1.old c0 | exact hw.1.old c1 | exact hw.1.old c2 | exact hw.1.old c3 | exact hw.1.old (hK.at (by omega) (by omega)) | exact hw.1.old hk0 | exact hw.1.old hk1) rfl ?_
                          first | refine q_move (v := .pointer _) rfl rfl ?_ | refine q_move (by conv => lhs; whnf) rfl ?_
                          refine q_nilCheck rfl rfl ?_
                          refine q_fieldAddr fa_25_1 rfl rfl ?_
                          refine q_load one_3 rfl (fun w1 hw => by first | exact hw.1.old c0 | exact hw.1.old c1 | exact hw.1.old c2 | exact hw.1.old c3 | exact hw.1.old (hK.at (by omega) (by omega)) | exact hw.1.old hk0 | exact hw.1.old hk1) rfl ?_
                          first | refine q_move (v := .pointer _) rfl rfl ?_ | refine q_move (by conv => lhs; whnf) rfl ?_
                          refine q_nilCheck rfl rfl ?_
                          refine q_fieldAddr fa_25_1 rfl rfl ?_
                          refine q_load one_3 rfl (fun w1 hw => by first | exact hw.1.old c0 | exact hw.1.old c1 | exact hw.1.old c2 | exact hw.1.old c3 | exact hw.1.old (hK.at (by omega) (by omega)) | exact hw.1.old hk0 | exact hw.1.old hk1) rfl ?_
                          refine QL_nil ?_
                          refine BK_of ?_
                          refine BKL_slice rfl rfl slz_28 (vs := [.int .i64 _, .int .i64 _]) (cs := [_, _]) (by rfl) rfl rfl rfl rfl rfl ?_
                          refine BKL_nil ?_
                          rintro wR20 ⟨SR20, XR20⟩
                          intro g110 hg110 G110 ng110
                          dsimp only [upds]
                          clear ng110
                          replace SR20 := SR20.push_new S hg110 G110
                          refine o_callb SR20 has_65 rfl rfl (wide_fn e [] _ _ _ _ _ _ _ _ [e.w, e.w] (RdE.less (by simp) _ _ (RdE.keep (SR20.keep0 M) _ _ hRE)) (rdI_own (k := 0) SR20 rfl (by simp) rfl (by omega) (by simpa using o2))) (fun h111 w111 S111 X111 => ?_) (fun h111 w111 S111 X111 => ?_)
                          · first | refine o_assign (v := .bool _) rfl rfl ?_ | refine o_assign (by conv => lhs; whnf) rfl ?_
                            refine WL_nil ?_
                            refine W_ret ?_
                            refine ret_1 rfl (by conv => lhs; whnf) ?_
                            first
                              | exact ⟨shape_f (fun h => by have := Shape_ar h; omega), S111.fin⟩
                              | exact ⟨shape_t ((Shape_1 (by omega)).2 (by omega)), S111.fin⟩
                              | exact ⟨shape_f (fun h => by have := (Shape_1 (by omega)).1 h; omega), S111.fin⟩
                              | exact ⟨shape_t ((Shape_2 (by omega)).2 (by omega)), S111.fin⟩
                              | exact ⟨shape_f (fun h => by have := (Shape_2 (by omega)).1 h; omega), S111.fin⟩
                              | exact ⟨shape_t ((Shape_4 (by omega)).2 (by have := wideB_1.1 h90; omega)), S111.fin⟩
                              | exact ⟨shape_f (fun h => by have := (Shape_4 (by omega)).1 h; rw [wideB_1.2 (by omega)] at h90; cases h90), S111.fin⟩
                              | exact ⟨shape_t ((Shape_5 (by omega)).2 (by have := wideB_2.1 h111; omega)), S111.fin⟩
                              | exact ⟨shape_f (fun h => by have := (Shape_5 (by omega)).1 h; rw [wideB_2.2 (by omega)] at h111; cases h111), S111.fin⟩
                              | exact ⟨shape_t ((Shape_14 (by omega)).2 (by have := wideB_3.1 h161; omega)), S111.fin⟩
                              | exact ⟨shape_f (fun h => by have := (Shape_14 (by omega)).1 h; rw [wideB_3.2 (by omega)] at h161; cases h161), S111.fin⟩
                              | exact ⟨shape_t ((Shape_11 (by omega)).2 (by omega)), S111.fin⟩
                              | exact ⟨shape_f (fun h => by have := (Shape_11 (by omega)).1 h; omega), S111.fin⟩
                              | exact ⟨shape_f (fun h => by obtain ⟨x1, x2, x3⟩ := h; omega), S111.fin⟩
                          · first | refine o_assign (v := .bool _) rfl rfl ?_ | refine o_assign (by conv => lhs; whnf) rfl ?_
                            refine WL_nil ?_
                            refine W_ret ?_
                            refine ret_1 rfl (by conv => lhs; whnf) ?_
                            first
                              | exact ⟨shape_f (fun h => by have := Shape_ar h; omega), S111.fin⟩
                              | exact ⟨shape_t ((Shape_1 (by omega)).2 (by omega)), S111.fin⟩
                              | exact ⟨shape_f (fun h => by have := (Shape_1 (by omega)).1 h; omega), S111.fin⟩
                              | exact ⟨shape_t ((Shape_2 (by omega)).2 (by omega)), S111.fin⟩
                              | exact ⟨shape_f (fun h => by have := (Shape_2 (by omega)).1 h; omega), S111.fin⟩
                              | exact ⟨shape_t ((Shape_4 (by omega)).2 (by have := wideB_1.1 h90; omega)), S111.fin⟩
                              | exact ⟨shape_f (fun h => by have := (Shape_4 (by omega)).1 h; rw [wideB_1.2 (by omega)] at h90; cases h90), S111.fin⟩
                              | exact ⟨shape_t ((Shape_5 (by omega)).2 (by have := wideB_2.1 h111; omega)), S111.fin⟩
                              | exact ⟨shape_f (fun h => by have := (Shape_5 (by omega)).1 h; rw [wideB_2.2 (by omega)] at h111; cases h111), S111.fin⟩
                              | exact ⟨shape_t ((Shape_14 (by omega)).2 (by have := wideB_3.1 h161; omega)), S111.fin⟩
                              | exact ⟨shape_f (fun h => by have := (Shape_14 (by omega)).1 h; rw [wideB_3.2 (by omega)] at h161; cases h161), S111.fin⟩
                              | exact ⟨shape_t ((Shape_11 (by omega)).2 (by omega)), S111.fin⟩
                              | exact ⟨shape_f (fun h => by have := (Shape_11 (by omega)).1 h; omega), S111.fin⟩
                              | exact ⟨shape_f (fun h => by obtain ⟨x1, x2, x3⟩ := h; omega), S111.fin⟩
                        · first | refine o_assign (v := .bool _) rfl rfl ?_ | refine o_assign (by conv => lhs; whnf) rfl ?_
                          refine WL_nil ?_
                          refine W_else rfl ?_
                          refine W_region ?_
                          refine o_eql rfl rfl rfl (fun h97 => ?_) (fun h97 => ?_)
                          · first | refine o_assign (v := .bool _) rfl rfl ?_ | refine o_assign (by conv => lhs; whnf) rfl ?_
                            refine WL_nil ?_
                            refine W_then rfl ?_
                            refine W_seq ?_
                            refine W_draw follows_mixed [0, 1, 2, 3, 4, 5, 6, 7, 8, 9, 10, 11] [12] [13, 14] (by kernel_rfl) rfl (Cl _ _ _ _) (Cl.start S) ?_
                            first | refine q_move (v := .pointer _) rfl rfl ?_ | refine q_move (by conv => lhs; whnf) rfl ?_
                            refine q_nilCheck rfl rfl ?_
                            refine q_fieldAddr fa_25_3 rfl rfl ?_
                            refine q_load one_23 rfl (fun w1 hw => by first | exact hw.1.old c0 | exact hw.1.old c1 | exact hw.1.old c2 | exact hw.1.old c3 | exact hw.1.old (hK.at (by omega) (by omega)) | exact hw.1.old hk0 | exact hw.1.old hk1) rfl ?_
                            first | refine q_move (v := .pointer _) rfl rfl ?_ | refine q_move (by conv => lhs; whnf) rfl ?_
                            refine q_nilCheck rfl rfl ?_
                            refine q_fieldAddr fa_25_1 rfl rfl ?_
                            refine q_load one_3 rfl (fun w1 hw => by first | exact hw.1.old c0 | exact hw.1.old c1 | exact hw.1.old c2 | exact hw.1.old c3 | exact hw.1.old (hK.at (by omega) (by omega)) | exact hw.1.old hk0 | exact hw.1.old hk1) rfl ?_
                            first | refine q_move (v := .pointer _) rfl rfl ?_ | refine q_move (by conv => lhs; whnf) rfl ?_
                            refine q_nilCheck rfl rfl ?_
                            refine q_fieldAddr fa_25_1 rfl rfl ?_
                            refine q_load one_3 rfl (fun w1 hw => by first | exact hw.1.old c0 | exact hw.1.old c1 | exact hw.1.old c2 | exact hw.1.old c3 | exact hw.1.old (hK.at (by omega) (by omega)) | exact hw.1.old hk0 | exact hw.1.old hk1) rfl ?_
                            refine QL_nil ?_
                            refine BK_of ?_
                            refine BKL_slice rfl rfl slz_28 (vs := [.int .i64 _, .int .i64 _]) (cs := [_, _]) (by rfl) rfl rfl rfl rfl rfl ?_
                            refine BKL_nil ?_
                            rintro wR20 ⟨SR20, XR20⟩
                            intro g110 hg110 G110 ng110
                            dsimp only [upds]
                            clear ng110
                            replace SR20 := SR20.push_new S hg110 G110
                            refine o_callb SR20 has_65 rfl rfl (wide_fn e [] _ _ _ _ _ _ _ _ [e.w, e.w] (RdE.less (by simp) _ _ (RdE.keep (SR20.keep0 M) _ _ hRE)) (rdI_own (k := 0) SR20 rfl (by simp) rfl (by omega) (by simpa using o2))) (fun h111 w111 S111 X111 => ?_) (fun h111 w111 S111 X111 => ?_)
                            · first | refine o_assign (v := .bool _) rfl rfl ?_ | refine o_assign (by conv => lhs; whnf) rfl ?_
                              refine WL_nil ?_
                              refine W_ret ?_
                              refine ret_1 rfl (by conv => lhs; whnf) ?_
                              first
                                | exact ⟨shape_f (fun h => by have := Shape_ar h; omega), S111.fin⟩
                                | exact ⟨shape_t ((Shape_1 (by omega)).2 (by omega)), S111.fin⟩
                                | exact ⟨shape_f (fun h => by have := (Shape_1 (by omega)).1 h; omega), S111.fin⟩
                                | exact ⟨shape_t ((Shape_2 (by omega)).2 (by omega)), S111.fin⟩
                                | exact ⟨shape_f (fun h => by have := (Shape_2 (by omega)).1 h; omega), S111.fin⟩
                                | exact ⟨shape_t ((Shape_4 (by omega)).2 (by have := wideB_1.1 h90; omega)), S111.fin⟩
                                | exact ⟨shape_f (fun h => by have := (Shape_4 (by omega)).1 h; rw [wideB_1.2 (by omega)] at h90; cases h90), S111.fin⟩
                                | exact ⟨shape_t ((Shape_5 (by omega)).2 (by have := wideB_2.1 h111; omega)), S111.fin⟩
                                | exact ⟨shape_f (fun h => by have := (Shape_5 (by omega)).1 h; rw [wideB_2.2 (by omega)] at h111; cases h111), S111.fin⟩
                                | exact ⟨shape_t ((Shape_14 (by omega)).2 (by have := wideB_3.1 h161; omega)), S111.fin⟩
                                | exact ⟨shape_f (fun h => by have := (Shape_14 (by omega)).1 h; rw [wideB_3.2 (by omega)] at h161; cases h161), S111.fin⟩
                                | exact ⟨shape_t ((Shape_11 (by omega)).2 (by omega)), S111.fin⟩
                                | exact ⟨shape_f (fun h => by have := (Shape_11 (by omega)).1 h; omega), S111.fin⟩
                                | exact ⟨shape_f (fun h => by obtain ⟨x1, x2, x3⟩ := h; omega), S111.fin⟩
                            · first | refine o_assign (v := .bool _) rfl rfl ?_ | refine o_assign (by conv => lhs; whnf) rfl ?_
                              refine WL_nil ?_
                              refine W_ret ?_
                              refine ret_1 rfl (by conv => lhs; whnf) ?_
                              first
                                | exact ⟨shape_f (fun h => by have := Shape_ar h; omega), S111.fin⟩
                                | exact ⟨shape_t ((Shape_1 (by omega)).2 (by omega)), S111.fin⟩
                                | exact ⟨shape_f (fun h => by have := (Shape_1 (by omega)).1 h; omega), S111.fin⟩
                                | exact ⟨shape_t ((Shape_2 (by omega)).2 (by omega)), S111.fin⟩
                                | exact ⟨shape_f (fun h => by have := (Shape_2 (by omega)).1 h; omega), S111.fin⟩
                                | exact ⟨shape_t ((Shape_4 (by omega)).2 (by have := wideB_1.1 h90; omega)), S111.fin⟩
                                | exact ⟨shape_f (fun h => by have := (Shape_4 (by omega)).1 h; rw [wideB_1.2 (by omega)] at h90; cases h90), S111.fin⟩
                                | exact ⟨shape_t ((Shape_5 (by omega)).2 (by have := wideB_2.1 h111; omega)), S111.fin⟩
                                | exact ⟨shape_f (fun h => by have := (Shape_5 (by omega)).1 h; rw [wideB_2.2 (by omega)] at h111; cases h111), S111.fin⟩
                                | exact ⟨shape_t ((Shape_14 (by omega)).2 (by have := wideB_3.1 h161; omega)), S111.fin⟩
                                | exact ⟨shape_f (fun h => by have := (Shape_14 (by omega)).1 h; rw [wideB_3.2 (by omega)] at h161; cases h161), S111.fin⟩
                                | exact ⟨shape_t ((Shape_11 (by omega)).2 (by omega)), S111.fin⟩
                                | exact ⟨shape_f (fun h => by have := (Shape_11 (by omega)).1 h; omega), S111.fin⟩
                                | exact ⟨shape_f (fun h => by obtain ⟨x1, x2, x3⟩ := h; omega), S111.fin⟩
                          · first | refine o_assign (v := .bool _) rfl rfl ?_ | refine o_assign (by conv => lhs; whnf) rfl ?_
                            refine WL_nil ?_
                            refine W_else rfl ?_
                            refine W_seq ?_
                            refine W_seq ?_
                            refine W_region ?_
                            refine o_eql rfl rfl rfl (fun h113 => ?_) (fun h113 => ?_)
                            · first | refine o_assign (v := .bool _) rfl rfl ?_ | refine o_assign (by conv => lhs; whnf) rfl ?_
                              refine WL_nil ?_
                              refine W_then rfl ?_
                              refine W_skip ?_
                              refine W_then rfl ?_
                              refine W_seq ?_
                              refine W_draw follows_mixed [0, 1, 2, 3, 4, 5, 6, 7, 8, 9, 10, 11, 12, 13, 14, 15, 16, 17, 18, 19, 20, 21, 22, 23, 24, 25, 26, 27, 28, 29, 30] [] [] (by kernel_rfl) rfl (Cl _ _ _ _) (Cl.start S) ?_
                              first | refine q_move (v := .pointer _) rfl rfl ?_ | refine q_move (by conv => lhs; whnf) rfl ?_
                              refine q_nilCheck rfl rfl ?_
                              refine q_fieldAddr fa_25_1 rfl rfl ?_
                              refine q_load one_3 rfl (fun w1 hw => by first | exact hw.1.old c0 | exact hw.1.old c1 | exact hw.1.old c2 | exact hw.1.old c3 | exact hw.1.old (hK.at (by omega) (by omega)) | exact hw.1.old hk0 | exact hw.1.old hk1) rfl ?_
                              refine q_eql rfl rfl rfl (fun h120 => ?_) (fun h120 => ?_)
                              · first | refine q_move (v := .bool _) rfl rfl ?_ | refine q_move (by conv => lhs; whnf) rfl ?_
                                refine QL_on rfl rfl ?_
                                first | refine q_move (v := .pointer _) rfl rfl ?_ | refine q_move (by conv => lhs; whnf) rfl ?_
                                refine QL_on rfl rfl ?_
                                refine q_nilCheck rfl rfl ?_
                                refine QL_on rfl rfl ?_
                                refine q_fieldAddr fa_25_3 rfl rfl ?_
                                refine QL_on rfl rfl ?_
                                refine q_load one_23 rfl (fun w1 hw => by first | exact hw.1.old c0 | exact hw.1.old c1 | exact hw.1.old c2 | exact hw.1.old c3 | exact hw.1.old (hK.at (by omega) (by omega)) | exact hw.1.old hk0 | exact hw.1.old hk1) rfl ?_
                                refine QL_on rfl rfl ?_
                                refine q_len slz_23.slT rfl rfl ?_
                                refine QL_on rfl rfl ?_
                                refine q_eql rfl rfl rfl (fun h127 => ?_) (fun h127 => ?_)
                                · first | refine q_pick rfl (v := .bool _) rfl rfl ?_ | refine q_pick rfl (by conv => lhs; whnf) rfl ?_
                                  first | refine q_move (v := .bool _) rfl rfl ?_ | refine q_move (by conv => lhs; whnf) rfl ?_
                                  refine QL_on rfl rfl ?_
                                  first | refine q_move (v := .pointer _) rfl rfl ?_ | refine q_move (by conv => lhs; whnf) rfl ?_
                                  refine QL_on rfl rfl ?_
                                  refine q_nilCheck rfl rfl ?_
                                  refine QL_on rfl rfl ?_
                                  refine q_fieldAddr fa_25_3 rfl rfl ?_
                                  refine QL_on rfl rfl ?_
                                  refine q_load one_23 rfl (fun w1 hw => by first | exact hw.1.old c0 | exact hw.1.old c1 | exact hw.1.old c2 | exact hw.1.old c3 | exact hw.1.old (hK.at (by omega) (by omega)) | exact hw.1.old hk0 | exact hw.1.old hk1) rfl ?_
                                  refine QL_on rfl rfl ?_
                                  obtain ⟨bk, ok, hA, hbkM, hkk⟩ := hks (by omega)
                                  have hk0 := kid_cells hkk 0 (by omega)
                                  have hk1 := kid_cells hkk 1 (by omega)
                                  refine q_indexAddr slz_23.slT rfl (by first | rfl | assumption) rfl (by omega) (by omega) rfl ?_
                                  refine QL_on rfl rfl ?_
                                  refine q_fieldAddr fa_25_1 rfl rfl ?_
                                  refine QL_on rfl rfl ?_
                                  refine q_load one_3 rfl (fun w1 hw => by first | exact hw.1.old c0 | exact hw.1.old c1 | exact hw.1.old c2 | exact hw.1.old c3 | exact hw.1.old (hK.at (by omega) (by omega)) | exact hw.1.old hk0 | exact hw.1.old hk1) rfl ?_
                                  refine QL_on rfl rfl ?_
                                  first | refine q_move (v := .pointer _) rfl rfl ?_ | refine q_move (by conv => lhs; whnf) rfl ?_
                                  refine QL_on rfl rfl ?_
                                  refine q_nilCheck rfl rfl ?_
                                  refine QL_on rfl rfl ?_
                                  refine q_fieldAddr fa_25_3 rfl rfl ?_
                                  refine QL_on rfl rfl ?_
                                  refine q_load one_23 rfl (fun w1 hw => by first | exact hw.1.old c0 | exact hw.1.old c1 | exact hw.1.old c2 | exact hw.1.old c3 | exact hw.1.old (hK.at (by omega) (by omega)) | exact hw.1.old hk0 | exact hw.1.old hk1) rfl ?_
                                  refine QL_on rfl rfl ?_
                                  refine q_indexAddr slz_23.slT rfl (by first | rfl | assumption) rfl (by omega) (by omega) rfl ?_
                                  refine QL_on rfl rfl ?_
                                  refine q_fieldAddr fa_25_1 rfl rfl ?_
                                  refine QL_on rfl rfl ?_
                                  refine q_load one_3 rfl (fun w1 hw => by first | exact hw.1.old c0 | exact hw.1.old c1 | exact hw.1.old c2 | exact hw.1.old c3 | exact hw.1.old (hK.at (by omega) (by omega)) | exact hw.1.old hk0 | exact hw.1.old hk1) rfl ?_
                                  refine QL_on rfl rfl ?_
                                  refine q_eql rfl rfl rfl (fun h144 => ?_) (fun h144 => ?_)
                                  · first | refine q_pick rfl (v := .bool _) rfl rfl ?_ | refine q_pick rfl (by conv => lhs; whnf) rfl ?_
                                    first | refine q_assign (v := .bool _) rfl rfl ?_ | refine q_assign (by conv => lhs; whnf) rfl ?_
                                    refine QL_nil ?_
                                    refine BK_of ?_
                                    refine BKL_nil ?_
                                    rintro wR24 ⟨SR24, XR24⟩
                                    refine WL_nil ?_
                                    refine W_ret ?_
                                    refine ret_1 rfl (by conv => lhs; whnf) ?_
                                    first
                                      | exact ⟨shape_f (fun h => by have := Shape_ar h; omega), SR24.fin⟩
                                      | exact ⟨shape_t ((Shape_1 (by omega)).2 (by omega)), SR24.fin⟩
                                      | exact ⟨shape_f (fun h => by have := (Shape_1 (by omega)).1 h; omega), SR24.fin⟩
                                      | exact ⟨shape_t ((Shape_2 (by omega)).2 (by omega)), SR24.fin⟩
                                      | exact ⟨shape_f (fun h => by have := (Shape_2 (by omega)).1 h; omega), SR24.fin⟩
                                      | exact ⟨shape_t ((Shape_4 (by omega)).2 (by have := wideB_1.1 h90; omega)), SR24.fin⟩
                                      | exact ⟨shape_f (fun h => by have := (Shape_4 (by omega)).1 h; rw [wideB_1.2 (by omega)] at h90; cases h90), SR24.fin⟩
                                      | exact ⟨shape_t ((Shape_5 (by omega)).2 (by have := wideB_2.1 h111; omega)), SR24.fin⟩
                                      | exact ⟨shape_f (fun h => by have := (Shape_5 (by omega)).1 h; rw [wideB_2.2 (by omega)] at h111; cases h111), SR24.fin⟩
                                      | exact ⟨shape_t ((Shape_14 (by omega)).2 (by have := wideB_3.1 h161; omega)), SR24.fin⟩
                                      | exact ⟨shape_f (fun h => by have := (Shape_14 (by omega)).1 h; rw [wideB_3.2 (by omega)] at h161; cases h161), SR24.fin⟩
                                      | exact ⟨shape_t ((Shape_11 (by omega)).2 (by omega)), SR24.fin⟩
                                      | exact ⟨shape_f (fun h => by have := (Shape_11 (by omega)).1 h; omega), SR24.fin⟩
                                      | exact ⟨shape_f (fun h => by obtain ⟨x1, x2, x3⟩ := h; omega), SR24.fin⟩
                                  · first | refine q_pick rfl (v := .bool _) rfl rfl ?_ | refine q_pick rfl (by conv => lhs; whnf) rfl ?_
                                    first | refine q_assign (v := .bool _) rfl rfl ?_ | refine q_assign (by conv => lhs; whnf) rfl ?_
                                    refine QL_nil ?_
                                    refine BK_of ?_
                                    refine BKL_nil ?_
                                    rintro wR24 ⟨SR24, XR24⟩
                                    refine WL_nil ?_
                                    refine W_ret ?_
                                    refine ret_1 rfl (by conv => lhs; whnf) ?_
                                    first
                                      | exact ⟨shape_f (fun h => by have := Shape_ar h; omega), SR24.fin⟩
                                      | exact ⟨shape_t ((Shape_1 (by omega)).2 (by omega)), SR24.fin⟩
                                      | exact ⟨shape_f (fun h => by have := (Shape_1 (by omega)).1 h; omega), SR24.fin⟩
                                      | exact ⟨shape_t ((Shape_2 (by omega)).2 (by omega)), SR24.fin⟩
                                      | exact ⟨shape_f (fun h => by have := (Shape_2 (by omega)).1 h; omega), SR24.fin⟩
                                      | exact ⟨shape_t ((Shape_4 (by omega)).2 (by have := wideB_1.1 h90; omega)), SR24.fin⟩
                                      | exact ⟨shape_f (fun h => by have := (Shape_4 (by omega)).1 h; rw [wideB_1.2 (by omega)] at h90; cases h90), SR24.fin⟩
                                      | exact ⟨shape_t ((Shape_5 (by omega)).2 (by have := wideB_2.1 h111; omega)), SR24.fin⟩
                                      | exact ⟨shape_f (fun h => by have := (Shape_5 (by omega)).1 h; rw [wideB_2.2 (by omega)] at h111; cases h111), SR24.fin⟩
                                      | exact ⟨shape_t ((Shape_14 (by omega)).2 (by have := wideB_3.1 h161; omega)), SR24.fin⟩
                                      | exact ⟨shape_f (fun h => by have := (Shape_14 (by omega)).1 h; rw [wideB_3.2 (by omega)] at h161; cases h161), SR24.fin⟩
                                      | exact ⟨shape_t ((Shape_11 (by omega)).2 (by omega)), SR24.fin⟩
                                      | exact ⟨shape_f (fun h => by have := (Shape_11 (by omega)).1 h; omega), SR24.fin⟩
                                      | exact ⟨shape_f (fun h => by obtain ⟨x1, x2, x3⟩ := h; omega), SR24.fin⟩
                                · first | refine q_pick rfl (v := .bool _) rfl rfl ?_ | refine q_pick rfl (by conv => lhs; whnf) rfl ?_
                                  first | refine q_move (v := .bool _) rfl rfl ?_ | refine q_move (by conv => lhs; whnf) rfl ?_
                                  refine QL_off rfl rfl rfl ?_
                                  refine QL_off rfl rfl rfl ?_
                                  refine QL_off rfl rfl rfl ?_
                                  refine QL_off rfl rfl rfl ?_
                                  refine QL_off rfl rfl rfl ?_
                                  refine QL_off rfl rfl rfl ?_
                                  refine QL_off rfl rfl rfl ?_
                                  refine QL_off rfl rfl rfl ?_
                                  refine QL_off rfl rfl rfl ?_
                                  refine QL_off rfl rfl rfl ?_
                                  refine QL_off rfl rfl rfl ?_
                                  refine QL_off rfl rfl rfl ?_
                                  refine QL_off rfl rfl rfl ?_
                                  refine QL_off rfl rfl rfl ?_
                                  refine QL_off rfl rfl rfl ?_
                                  first | refine q_pick rfl (v := .bool _) rfl rfl ?_ | refine q_pick rfl (by conv => lhs; whnf) rfl ?_
                                  first | refine q_assign (v := .bool _) rfl rfl ?_ | refine q_assign (by conv => lhs; whnf) rfl ?_
                                  refine QL_nil ?_
                                  refine BK_of ?_
                                  refine BKL_nil ?_
                                  rintro wR24 ⟨SR24, XR24⟩
                                  refine WL_nil ?_
                                  refine W_ret ?_
                                  refine ret_1 rfl (by conv => lhs; whnf) ?_
                                  first
                                    | exact ⟨shape_f (fun h => by have := Shape_ar h; omega), SR24.fin⟩
                                    | exact ⟨shape_t ((Shape_1 (by omega)).2 (by omega)), SR24.fin⟩
                                    | exact ⟨shape_f (fun h => by have := (Shape_1 (by omega)).1 h; omega), SR24.fin⟩
                                    | exact ⟨shape_t ((Shape_2 (by omega)).2 (by omega)), SR24.fin⟩
                                    | exact ⟨shape_f (fun h => by have := (Shape_2 (by omega)).1 h; omega), SR24.fin⟩
                                    | exact ⟨shape_t ((Shape_4 (by omega)).2 (by have := wideB_1.1 h90; omega)), SR24.fin⟩
                                    | exact ⟨shape_f (fun h => by have := (Shape_4 (by omega)).1 h; rw [wideB_1.2 (by omega)] at h90; cases h90), SR24.fin⟩
                                    | exact ⟨shape_t ((Shape_5 (by omega)).2 (by have := wideB_2.1 h111; omega)), SR24.fin⟩
                                    | exact ⟨shape_f (fun h => by have := (Shape_5 (by omega)).1 h; rw [wideB_2.2 (by omega)] at h111; cases h111), SR24.fin⟩
                                    | exact ⟨shape_t ((Shape_14 (by omega)).2 (by have := wideB_3.1 h161; omega)), SR24.fin⟩
                                    | exact ⟨shape_f (fun h => by have := (Shape_14 (by omega)).1 h; rw [wideB_3.2 (by omega)] at h161; cases h161), SR24.fin⟩
                                    | exact ⟨shape_t ((Shape_11 (by omega)).2 (by omega)), SR24.fin⟩
                                    | exact ⟨shape_f (fun h => by have := (Shape_11 (by omega)).1 h; omega), SR24.fin⟩
                                    | exact ⟨shape_f (fun h => by obtain ⟨x1, x2, x3⟩ := h; omega), SR24.fin⟩
                              · first | refine q_move (v := .bool _) rfl rfl ?_ | refine q_move (by conv => lhs; whnf) rfl ?_
                                refine QL_off rfl rfl rfl ?_
                                refine QL_off rfl rfl rfl ?_
                                refine QL_off rfl rfl rfl ?_
                                refine QL_off rfl rfl rfl ?_
                                refine QL_off rfl rfl rfl ?_
                                refine QL_off rfl rfl rfl ?_
                                first | refine q_pick rfl (v := .bool _) rfl rfl ?_ | refine q_pick rfl (by conv => lhs; whnf) rfl ?_
                                first | refine q_move (v := .bool _) rfl rfl ?_ | refine q_move (by conv => lhs; whnf) rfl ?_
                                refine QL_off rfl rfl rfl ?_
                                refine QL_off rfl rfl rfl ?_
                                refine QL_off rfl rfl rfl ?_
                                refine QL_off rfl rfl rfl ?_
                                refine QL_off rfl rfl rfl ?_
                                refine QL_off rfl rfl rfl ?_
                                refine QL_off rfl rfl rfl ?_
                                refine QL_off rfl rfl rfl ?_
                                refine QL_off rfl rfl rfl ?_
                                refine QL_off rfl rfl rfl ?_
                                refine QL_off rfl rfl rfl ?_
                                refine QL_off rfl rfl rfl ?_
                                refine QL_off rfl rfl rfl ?_
                                refine QL_off rfl rfl rfl ?_
                                refine QL_off rfl rfl rfl ?_
                                first | refine q_pick rfl (v := .bool _) rfl rfl ?_ | refine q_pick rfl (by conv => lhs; whnf) rfl ?_
                                first | refine q_assign (v := .bool _) rfl rfl ?_ | refine q_assign (by conv => lhs; whnf) rfl ?_
                                refine QL_nil ?_
                                refine BK_of ?_
                                refine BKL_nil ?_
                                rintro wR24 ⟨SR24, XR24⟩
                                refine WL_nil ?_
                                refine W_ret ?_
                                refine ret_1 rfl (by conv => lhs; whnf) ?_
                                first
                                  | exact ⟨shape_f (fun h => by have := Shape_ar h; omega), SR24.fin⟩
                                  | exact ⟨shape_t ((Shape_1 (by omega)).2 (by omega)), SR24.fin⟩
                                  | exact ⟨shape_f (fun h => by have := (Shape_1 (by omega)).1 h; omega), SR24.fin⟩
                                  | exact ⟨shape_t ((Shape_2 (by omega)).2 (by omega)), SR24.fin⟩
                                  | exact ⟨shape_f (fun h => by have := (Shape_2 (by omega)).1 h; omega), SR24.fin⟩
                                  | exact ⟨shape_t ((Shape_4 (by omega)).2 (by have := wideB_1.1 h90; omega)), SR24.fin⟩
                                  | exact ⟨shape_f (fun h => by have := (Shape_4 (by omega)).1 h; rw [wideB_1.2 (by omega)] at h90; cases h90), SR24.fin⟩
                                  | exact ⟨shape_t ((Shape_5 (by omega)).2 (by have := wideB_2.1 h111; omega)), SR24.fin⟩
                                  | exact ⟨shape_f (fun h => by have := (Shape_5 (by omega)).1 h; rw [wideB_2.2 (by omega)] at h111; cases h111), SR24.fin⟩
                                  | exact ⟨shape_t ((Shape_14 (by omega)).2 (by have := wideB_3.1 h161; omega)), SR24.fin⟩
                                  | exact ⟨shape_f (fun h => by have := (Shape_14 (by omega)).1 h; rw [wideB_3.2 (by omega)] at h161; cases h161), SR24.fin⟩
                                  | exact ⟨shape_t ((Shape_11 (by omega)).2 (by omega)), SR24.fin⟩
                                  | exact ⟨shape_f (fun h => by have := (Shape_11 (by omega)).1 h; omega), SR24.fin⟩
                                  | exact ⟨shape_f (fun h => by obtain ⟨x1, x2, x3⟩ := h; omega), SR24.fin⟩
                            · first | refine o_assign (v := .bool _) rfl rfl ?_ | refine o_assign (by conv => lhs; whnf) rfl ?_
                              refine WL_nil ?_
                              refine W_else rfl ?_
                              refine W_seq ?_
                              refine W_region ?_
                              refine o_eql rfl rfl rfl (fun h114 => ?_) (fun h114 => ?_)
                              · first | refine o_assign (v := .bool _) rfl rfl ?_ | refine o_assign (by conv => lhs; whnf) rfl ?_
                                refine WL_nil ?_
                                refine W_then rfl ?_
                                refine W_skip ?_
                                refine W_then rfl ?_
                                refine W_seq ?_
                                refine W_draw follows_mixed [0, 1, 2, 3, 4, 5, 6, 7, 8, 9, 10, 11, 12, 13, 14, 15, 16, 17, 18, 19, 20, 21, 22, 23, 24, 25, 26, 27, 28, 29, 30] [] [] (by kernel_rfl) rfl (Cl _ _ _ _) (Cl.start S) ?_
                                first | refine q_move (v := .pointer _) rfl rfl ?_ | refine q_move (by conv => lhs; whnf) rfl ?_
                                refine q_nilCheck rfl rfl ?_
                                refine q_fieldAddr fa_25_1 rfl rfl ?_
                                refine q_load one_3 rfl (fun w1 hw => by first | exact hw.1.old c0 | exact hw.1.old c1 | exact hw.1.old c2 | exact hw.1.old c3 | exact hw.1.old (hK.at (by omega) (by omega)) | exact hw.1.old hk0 | exact hw.1.old hk1) rfl ?_
                                refine q_eql rfl rfl rfl (fun h120 => ?_) (fun h120 => ?_)
                                · first | refine q_move (v := .bool _) rfl rfl ?_ | refine q_move (by conv => lhs; whnf) rfl ?_
                                  refine QL_on rfl rfl ?_
                                  first | refine q_move (v := .pointer _) rfl rfl ?_ | refine q_move (by conv => lhs; whnf) rfl ?_
                                  refine QL_on rfl rfl ?_
                                  refine q_nilCheck rfl rfl ?_
                                  refine QL_on rfl rfl ?_
                                  refine q_fieldAddr fa_25_3 rfl rfl ?_
                                  refine QL_on rfl rfl ?_
                                  refine q_load one_23 rfl (fun w1 hw => by first | exact hw.1.old c0 | exact hw.1.old c1 | exact hw.1.old c2 | exact hw.1.old c3 | exact hw.1.old (hK.at (by omega) (by omega)) | exact hw.1.old hk0 | exact hw.1.old hk1) rfl ?_
                                  refine QL_on rfl rfl ?_
                                  refine q_len slz_23.slT rfl rfl ?_
                                  refine QL_on rfl rfl ?_
                                  refine q_eql rfl rfl rfl (fun h127 => ?_) (fun h127 => ?_)
                                  · first | refine q_pick rfl (v := .bool _) rfl rfl ?_ | refine q_pick rfl (by conv => lhs; whnf) rfl ?_
                                    first | refine q_move (v := .bool _) rfl rfl ?_ | refine q_move (by conv => lhs; whnf) rfl ?_
                                    refine QL_on rfl rfl ?_
                                    first | refine q_move (v := .pointer _) rfl rfl ?_ | refine q_move (by conv => lhs; whnf) rfl ?_
                                    refine QL_on rfl rfl ?_
                                    refine q_nilCheck rfl rfl ?_
                                    refine QL_on rfl rfl ?_
                                    refine q_fieldAddr fa_25_3 rfl rfl ?_
                                    refine QL_on rfl rfl ?_
                                    refine q_load one_23 rfl (fun w1 hw => by first | exact hw.1.old c0 | exact hw.1.old c1 | exact hw.1.old c2 | exact hw.1.old c3 | exact hw.1.old (hK.at (by omega) (by omega)) | exact hw.1.old hk0 | exact hw.1.old hk1) rfl ?_
                                    refine QL_on rfl rfl ?_
                                    obtain ⟨bk, ok, hA, hbkM, hkk⟩ := hks (by omega)
                                    have hk0 := kid_cells hkk 0 (by omega)
                                    have hk1 := kid_cells hkk 1 (by omega)
                                    refine q_indexAddr slz_23.slT rfl (by first | rfl | assumption) rfl (by omega) (by omega) rfl ?_
                                    refine QL_on rfl rfl ?_
                                    refine q_fieldAddr fa_25_1 rfl rfl ?_
                                    refine QL_on rfl rfl ?_
                                    refine q_load one_3 rfl (fun w1 hw => by first | exact hw.1.old c0 | exact hw.1.old c1 | exact hw.1.old c2 | exact hw.1.old c3 | exact hw.1.old (hK.at (by omega) (by omega)) | exact hw.1.old hk0 | exact hw.1.old hk1) rfl ?_
                                    refine QL_on rfl rfl ?_
                                    first | refine q_move (v := .pointer _) rfl rfl ?_ | refine q_move (by conv => lhs; whnf) rfl ?_
                                    refine QL_on rfl rfl ?_
                                    refine q_nilCheck rfl rfl ?_
                                    refine QL_on rfl rfl ?_
                                    refine q_fieldAddr fa_25_3 rfl rfl ?_
                                    refine QL_on rfl rfl ?_
                                    refine q_load one_23 rfl (fun w1 hw => by first | exact hw.1.old c0 | exact hw.1.old c1 | exact hw.1.old c2 | exact hw.1.old c3 | exact hw.1.old (hK.at (by omega) (by omega)) | exact hw.1.old hk0 | exact hw.1.old hk1) rfl ?_
                                    refine QL_on rfl rfl ?_
                                    refine q_indexAddr slz_23.slT rfl (by first | rfl | assumption) rfl (by omega) (by omega) rfl ?_
                                    refine QL_on rfl rfl ?_
                                    refine q_fieldAddr fa_25_1 rfl rfl ?_
                                    refine QL_on rfl rfl ?_
                                    refine q_load one_3 rfl (fun w1 hw => by first | exact hw.1.old c0 | exact hw.1.old c1 | exact hw.1.old c2 | exact hw.1.old c3 | exact hw.1.old (hK.at (by omega) (by omega)) | exact hw.1.old hk0 | exact hw.1.old hk1) rfl ?_
                                    refine QL_on rfl rfl ?_
                                    refine q_eql rfl rfl rfl (fun h144 => ?_) (fun h144 => ?_)
                                    · first | refine q_pick rfl (v := .bool _) rfl rfl ?_ | refine q_pick rfl (by conv => lhs; whnf) rfl ?_
                                      first | refine q_assign (v := .bool _) rfl rfl ?_ | refine q_assign (by conv => lhs; whnf) rfl ?_
                                      refine QL_nil ?_
                                      refine BK_of ?_
                                      refine BKL_nil ?_
                                      rintro wR24 ⟨SR24, XR24⟩
                                      refine WL_nil ?_
                                      refine W_ret ?_
                                      refine ret_1 rfl (by conv => lhs; whnf) ?_
                                      first
                                        | exact ⟨shape_f (fun h => by have := Shape_ar h; omega), SR24.fin⟩
                                        | exact ⟨shape_t ((Shape_1 (by omega)).2 (by omega)), SR24.fin⟩
                                        | exact ⟨shape_f (fun h => by have := (Shape_1 (by omega)).1 h; omega), SR24.fin⟩
                                        | exact ⟨shape_t ((Shape_2 (by omega)).2 (by omega)), SR24.fin⟩
                                        | exact ⟨shape_f (fun h => by have := (Shape_2 (by omega)).1 h; omega), SR24.fin⟩
                                        | exact ⟨shape_t ((Shape_4 (by omega)).2 (by have := wideB_1.1 h90; omega)), SR24.fin⟩
                                        | exact ⟨shape_f (fun h => by have := (Shape_4 (by omega)).1 h; rw [wideB_1.2 (by omega)] at h90; cases h90), SR24.fin⟩
                                        | exact ⟨shape_t ((Shape_5 (by omega)).2 (by have := wideB_2.1 h111; omega)), SR24.fin⟩
                                        | exact ⟨shape_f (fun h => by have := (Shape_5 (by omega)).1 h; rw [wideB_2.2 (by omega)] at h111; cases h111), SR24.fin⟩
                                        | exact ⟨shape_t ((Shape_14 (by omega)).2 (by have := wideB_3.1 h161; omega)), SR24.fin⟩
                                        | exact ⟨shape_f (fun h => by have := (Shape_14 (by omega)).1 h; rw [wideB_3.2 (by omega)] at h161; cases h161), SR24.fin⟩
                                        | exact ⟨shape_t ((Shape_11 (by omega)).2 (by omega)), SR24.fin⟩
                                        | exact ⟨shape_f (fun h => by have := (Shape_11 (by omega)).1 h; omega), SR24.fin⟩
                                        | exact ⟨shape_f (fun h => by obtain ⟨x1, x2, x3⟩ := h; omega), SR24.fin⟩
                                    · first | refine q_pick rfl (v := .bool _) rfl rfl ?_ | refine q_pick rfl (by conv => lhs; whnf) rfl ?_
                                      first | refine q_assign (v := .bool _) rfl rfl ?_ | refine q_assign (by conv => lhs; whnf) rfl ?_
                                      refine QL_nil ?_
                                      refine BK_of ?_
                                      refine BKL_nil ?_
                                      rintro wR24 ⟨SR24, XR24⟩
                                      refine WL_nil ?_
                                      refine W_ret ?_
                                      refine ret_1 rfl (by conv => lhs; whnf) ?_
                                      first
                                        | exact ⟨shape_f (fun h => by have := Shape_ar h; omega), SR24.fin⟩
                                        | exact ⟨shape_t ((Shape_1 (by omega)).2 (by omega)), SR24.fin⟩
                                        | exact ⟨shape_f (fun h => by have := (Shape_1 (by omega)).1 h; omega), SR24.fin⟩
                                        | exact ⟨shape_t ((Shape_2 (by omega)).2 (by omega)), SR24.fin⟩
                                        | exact ⟨shape_f (fun h => by have := (Shape_2 (by omega)).1 h; omega), SR24.fin⟩
                                        | exact ⟨shape_t ((Shape_4 (by omega)).2 (by have := wideB_1.1 h90; omega)), SR24.fin⟩
                                        | exact ⟨shape_f (fun h => by have := (Shape_4 (by omega)).1 h; rw [wideB_1.2 (by omega)] at h90; cases h90), SR24.fin⟩
                                        | exact ⟨shape_t ((Shape_5 (by omega)).2 (by have := wideB_2.1 h111; omega)), SR24.fin⟩
                                        | exact ⟨shape_f (fun h => by have := (Shape_5 (by omega)).1 h; rw [wideB_2.2 (by omega)] at h111; cases h111), SR24.fin⟩
                                        | exact ⟨shape_t ((Shape_14 (by omega)).2 (by have := wideB_3.1 h161; omega)), SR24.fin⟩
                                        | exact ⟨shape_f (fun h => by have := (Shape_14 (by omega)).1 h; rw [wideB_3.2 (by omega)] at h161; cases h161), SR24.fin⟩
                                        | exact ⟨shape_t ((Shape_11 (by omega)).2 (by omega)), SR24.fin⟩
                                        | exact ⟨shape_f (fun h => by have := (Shape_11 (by omega)).1 h; omega), SR24.fin⟩
                                        | exact ⟨shape_f (fun h => by obtain ⟨x1, x2, x3⟩ := h; omega), SR24.fin⟩
                                  · first | refine q_pick rfl (v := .bool _) rfl rfl ?_ | refine q_pick rfl (by conv => lhs; whnf) rfl ?_
                                    first | refine q_move (v := .bool _) rfl rfl ?_ | refine q_move (by conv => lhs; whnf) rfl ?_
                                    refine QL_off rfl rfl rfl ?_
                                    refine QL_off rfl rfl rfl ?_
                                    refine QL_off rfl rfl rfl ?_
                                    refine QL_off rfl rfl rfl ?_
                                    refine QL_off rfl rfl rfl ?_
                                    refine QL_off rfl rfl rfl ?_
                                    refine QL_off rfl rfl rfl ?_
                                    refine QL_off rfl rfl rfl ?_
                                    refine QL_off rfl rfl rfl ?_
                                    refine QL_off rfl rfl rfl ?_
                                    refine QL_off rfl rfl rfl ?_
                                    refine QL_off rfl rfl rfl ?_
                                    refine QL_off rfl rfl rfl ?_
                                    refine QL_off rfl rfl rfl ?_
                                    refine QL_off rfl rfl rfl ?_
                                    first | refine q_pick rfl (v := .bool _) rfl rfl ?_ | refine q_pick rfl (by conv => lhs; whnf) rfl ?_
                                    first | refine q_assign (v := .bool _) rfl rfl ?_ | refine q_assign (by conv => lhs; whnf) rfl ?_
                                    refine QL_nil ?_
                                    refine BK_of ?_
                                    refine BKL_nil ?_
                                    rintro wR24 ⟨SR24, XR24⟩
                                    refine WL_nil ?_
                                    refine W_ret ?_
                                    refine ret_1 rfl (by conv => lhs; whnf) ?_
                                    first
                                      | exact ⟨shape_f (fun h => by have := Shape_ar h; omega), SR24.fin⟩
                                      | exact ⟨shape_t ((Shape_1 (by omega)).2 (by omega)), SR24.fin⟩
                                      | exact ⟨shape_f (fun h => by have := (Shape_1 (by omega)).1 h; omega), SR24.fin⟩
                                      | exact ⟨shape_t ((Shape_2 (by omega)).2 (by omega)), SR24.fin⟩
                                      | exact ⟨shape_f (fun h => by have := (Shape_2 (by omega)).1 h; omega), SR24.fin⟩
                                      | exact ⟨shape_t ((Shape_4 (by omega)).2 (by have := wideB_1.1 h90; omega)), SR24.fin⟩
                                      | exact ⟨shape_f (fun h => by have := (Shape_4 (by omega)).1 h; rw [wideB_1.2 (by omega)] at h90; cases h90), SR24.fin⟩
                                      | exact ⟨shape_t ((Shape_5 (by omega)).2 (by have := wideB_2.1 h111; omega)), SR24.fin⟩
                                      | exact ⟨shape_f (fun h => by have := (Shape_5 (by omega)).1 h; rw [wideB_2.2 (by omega)] at h111; cases h111), SR24.fin⟩
                                      | exact ⟨shape_t ((Shape_14 (by omega)).2 (by have := wideB_3.1 h161; omega)), SR24.fin⟩
                                      | exact ⟨shape_f (fun h => by have := (Shape_14 (by omega)).1 h; rw [wideB_3.2 (by omega)] at h161; cases h161), SR24.fin⟩
                                      | exact ⟨shape_t ((Shape_11 (by omega)).2 (by omega)), SR24.fin⟩
                                      | exact ⟨shape_f (fun h => by have := (Shape_11 (by omega)).1 h; omega), SR24.fin⟩
                                      | exact ⟨shape_f (fun h => by obtain ⟨x1, x2, x3⟩ := h; omega), SR24.fin⟩
                                · first | refine q_move (v := .bool _) rfl rfl ?_ | refine q_move (by conv => lhs; whnf) rfl ?_
                                  refine QL_off rfl rfl rfl ?_
                                  refine QL_off rfl rfl rfl ?_
                                  refine QL_off rfl rfl rfl ?_
                                  refine QL_off rfl rfl rfl ?_
                                  refine QL_off rfl rfl rfl ?_
                                  refine QL_off rfl rfl rfl ?_
                                  first | refine q_pick rfl (v := .bool _) rfl rfl ?_ | refine q_pick rfl (by conv => lhs; whnf) rfl ?_
                                  first | refine q_move (v := .bool _) rfl rfl ?_ | refine q_move (by conv => lhs; whnf) rfl ?_
                                  refine QL_off rfl rfl rfl ?_
                                  refine QL_off rfl rfl rfl ?_
                                  refine QL_off rfl rfl rfl ?_
                                  refine QL_off rfl rfl rfl ?_
                                  refine QL_off rfl rfl rfl ?_
                                  refine QL_off rfl rfl rfl ?_
                                  refine QL_off rfl rfl rfl ?_
                                  refine QL_off rfl rfl rfl ?_
                                  refine QL_off rfl rfl rfl ?_
                                  refine QL_off rfl rfl rfl ?_
                                  refine QL_off rfl rfl rfl ?_
                                  refine QL_off rfl rfl rfl ?_
                                  refine QL_off rfl rfl rfl ?_
                                  refine QL_off rfl rfl rfl ?_
                                  refine QL_off rfl rfl rfl ?_
                                  first | refine q_pick rfl (v := .bool _) rfl rfl ?_ | refine q_pick rfl (by conv => lhs; whnf) rfl ?_
                                  first | refine q_assign (v := .bool _) rfl rfl ?_ | refine q_assign (by conv => lhs; whnf) rfl ?_
                                  refine QL_nil ?_
                                  refine BK_of ?_
                                  refine BKL_nil ?_
                                  rintro wR24 ⟨SR24, XR24⟩
                                  refine WL_nil ?_
                                  refine W_ret ?_
                                  refine ret_1 rfl (by conv => lhs; whnf) ?_
                                  first
                                    | exact ⟨shape_f (fun h => by have := Shape_ar h; omega), SR24.fin⟩
                                    | exact ⟨shape_t ((Shape_1 (by omega)).2 (by omega)), SR24.fin⟩
                                    | exact ⟨shape_f (fun h => by have := (Shape_1 (by omega)).1 h; omega), SR24.fin⟩
                                    | exact ⟨shape_t ((Shape_2 (by omega)).2 (by omega)), SR24.fin⟩
                                    | exact ⟨shape_f (fun h => by have := (Shape_2 (by omega)).1 h; omega), SR24.fin⟩
                                    | exact ⟨shape_t ((Shape_4 (by omega)).2 (by have := wideB_1.1 h90; omega)), SR24.fin⟩
                                    | exact ⟨shape_f (fun h => by have := (Shape_4 (by omega)).1 h; rw [wideB_1.2 (by omega)] at h90; cases h90), SR24.fin⟩
                                    | exact ⟨shape_t ((Shape_5 (by omega)).2 (by have := wideB_2.1 h111; omega)), SR24.fin⟩
                                    | exact ⟨shape_f (fun h => by have := (Shape_5 (by omega)).1 h; rw [wideB_2.2 (by omega)] at h111; cases h111), SR24.fin⟩
                                    | exact ⟨shape_t ((Shape_14 (by omega)).2 (by have := wideB_3.1 h161; omega)), SR24.fin⟩
                                    | exact ⟨shape_f (fun h => by have := (Shape_14 (by omega)).1 h; rw [wideB_3.2 (by omega)] at h161; cases h161), SR24.fin⟩
                                    | exact ⟨shape_t ((Shape_11 (by omega)).2 (by omega)), SR24.fin⟩
                                    | exact ⟨shape_f (fun h => by have := (Shape_11 (by omega)).1 h; omega), SR24.fin⟩
                                    | exact ⟨shape_f (fun h => by obtain ⟨x1, x2, x3⟩ := h; omega), SR24.fin⟩
                              · first | refine o_assign (v := .bool _) rfl rfl ?_ | refine o_assign (by conv => lhs; whnf) rfl ?_
                                refine WL_nil ?_
                                refine W_else rfl ?_
                                refine W_region ?_
                                refine o_eql rfl rfl rfl (fun h115 => ?_) (fun h115 => ?_)
                                · first | refine o_assign (v := .bool _) rfl rfl ?_ | refine o_assign (by conv => lhs; whnf) rfl ?_
                                  refine WL_nil ?_
                                  refine W_then rfl ?_
                                  refine W_seq ?_
                                  refine W_draw follows_mixed [0, 1, 2, 3, 4, 5, 6, 7, 8, 9, 10, 11, 12, 13, 14, 15, 16, 17, 18, 19, 20, 21, 22, 23, 24, 25, 26, 27, 28, 29, 30] [] [] (by kernel_rfl) rfl (Cl _ _ _ _) (Cl.start S) ?_
                                  first | refine q_move (v := .pointer _) rfl rfl ?_ | refine q_move (by conv => lhs; whnf) rfl ?_
                                  refine q_nilCheck rfl rfl ?_
                                  refine q_fieldAddr fa_25_1 rfl rfl ?_
                                  refine q_load one_3 rfl (fun w1 hw => by first | exact hw.1.old c0 | exact hw.1.old c1 | exact hw.1.old c2 | exact hw.1.old c3 | exact hw.1.old (hK.at (by omega) (by omega)) | exact hw.1.old hk0 | exact hw.1.old hk1) rfl ?_
                                  refine q_eql rfl rfl rfl (fun h120 => ?_) (fun h120 => ?_)
                                  · first | refine q_move (v := .bool _) rfl rfl ?_ | refine q_move (by conv => lhs; whnf) rfl ?_
                                    refine QL_on rfl rfl ?_
                                    first | refine q_move (v := .pointer _) rfl rfl ?_ | refine q_move (by conv => lhs; whnf) rfl ?_
                                    refine QL_on rfl rfl ?_
                                    refine q_nilCheck rfl rfl ?_
                                    refine QL_on rfl rfl ?_
                                    refine q_fieldAddr fa_25_3 rfl rfl ?_
                                    refine QL_on rfl rfl ?_
                                    refine q_load one_23 rfl (fun w1 hw => by first | exact hw.1.old c0 | exact hw.1.old c1 | exact hw.1.old c2 | exact hw.1.old c3 | exact hw.1.old (hK.at (by omega) (by omega)) | exact hw.1.old hk0 | exact hw.1.old hk1) rfl ?_
                                    refine QL_on rfl rfl ?_
                                    refine q_len slz_23.slT rfl rfl ?_
                                    refine QL_on rfl rfl ?_
                                    refine q_eql rfl rfl rfl (fun h127 => ?_) (fun h127 => ?_)
                                    · first | refine q_pick rfl (v := .bool _) rfl rfl ?_ | refine q_pick rfl (by conv => lhs; whnf) rfl ?_
                                      first | refine q_move (v := .bool _) rfl rfl ?_ | refine q_move (by conv => lhs; whnf) rfl ?_
                                      refine QL_on rfl rfl ?_
                                      first | refine q_move (v := .pointer _) rfl rfl ?_ | refine q_move (by conv => lhs; whnf) rfl ?_
                                      refine QL_on rfl rfl ?_
                                      refine q_nilCheck rfl rfl ?_
                                      refine QL_on rfl rfl ?_
                                      refine q_fieldAddr fa_25_3 rfl rfl ?_
                                      refine QL_on rfl rfl ?_
                                      refine q_load one_23 rfl (fun w1 hw => by first | exact hw.1.old c0 | exact hw.1.old c1 | exact hw.1.old c2 | exact hw.1.old c3 | exact hw.1.old (hK.at (by omega) (by omega)) | exact hw.1.old hk0 | exact hw.1.old hk1) rfl ?_
                                      refine QL_on rfl rfl ?_
                                      obtain ⟨bk, ok, hA, hbkM, hkk⟩ := hks (by omega)
                                      have hk0 := kid_cells hkk 0 (by omega)
                                      have hk1 := kid_cells hkk 1 (by omega)
                                      refine q_indexAddr slz_23.slT rfl (by first | rfl | assumption) rfl (by omega) (by omega) rfl ?_
                                      refine QL_on rfl rfl ?_
                                      refine q_fieldAddr fa_25_1 rfl rfl ?_
                                      refine QL_on rfl rfl ?_
                                      refine q_load one_3 rfl (fun w1 hw => by first | exact hw.1.old c0 | exact hw.1.old c1 | exact hw.1.old c2 | exact hw.1.old c3 | exact hw.1.old (hK.at (by omega) (by omega)) | exact hw.1.old hk0 | exact hw.1.old hk1) rfl ?_
                                      refine QL_on rfl rfl ?_
                                      first | refine q_move (v := .pointer _) rfl rfl ?_ | refine q_move (by conv => lhs; whnf) rfl ?_
                                      refine QL_on rfl rfl ?_
                                      refine q_nilCheck rfl rfl ?_
                                      refine QL_on rfl rfl ?_
                                      refine q_fieldAddr fa_25_3 rfl rfl ?_
                                      refine QL_on rfl rfl ?_
                                      refine q_load one_23 rfl (fun w1 hw => by first | exact hw.1.old c0 | exact hw.1.old c1 | exact hw.1.old c2 | exact hw.1.old c3 | exact hw.1.old (hK.at (by omega) (by omega)) | exact hw.1.old hk0 | exact hw.1.old hk1) rfl ?_
                                      refine QL_on rfl rfl ?_
                                      refine q_indexAddr slz_23.slT rfl (by first | rfl | assumption) rfl (by omega) (by omega) rfl ?_
                                      refine QL_on rfl rfl ?_
                                      refine q_fieldAddr fa_25_1 rfl rfl ?_
                                      refine QL_on rfl rfl ?_
                                      refine q_load one_3 rfl (fun w1 hw => by first | exact hw.1.old c0 | exact hw.1.old c1 | exact hw.1.old c2 | exact hw.1.old c3 | exact hw.1.old (hK.at (by omega) (by omega)) | exact hw.1.old hk0 | exact hw.1.old hk1) rfl ?_
                                      refine QL_on rfl rfl ?_
                                      refine q_eql rfl rfl rfl (fun h144 => ?_) (fun h144 => ?_)
                                      · first | refine q_pick rfl (v := .bool _) rfl rfl ?_ | refine q_pick rfl (by conv => lhs; whnf) rfl ?_
                                        first | refine q_assign (v := .bool _) rfl rfl ?_ | refine q_assign (by conv => lhs; whnf) rfl ?_
                                        refine QL_nil ?_
                                        refine BK_of ?_
                                        refine BKL_nil ?_
                                        rintro wR24 ⟨SR24, XR24⟩
                                        refine WL_nil ?_
                                        refine W_ret ?_
                                        refine ret_1 rfl (by conv => lhs; whnf) ?_
                                        first
                                          | exact ⟨shape_f (fun h => by have := Shape_ar h; omega), SR24.fin⟩
                                          | exact ⟨shape_t ((Shape_1 (by omega)).2 (by omega)), SR24.fin⟩
                                          | exact ⟨shape_f (fun h => by have := (Shape_1 (by omega)).1 h; omega), SR24.fin⟩
                                          | exact ⟨shape_t ((Shape_2 (by omega)).2 (by omega)), SR24.fin⟩
                                          | exact ⟨shape_f (fun h => by have := (Shape_2 (by omega)).1 h; omega), SR24.fin⟩
                                          | exact ⟨shape_t ((Shape_4 (by omega)).2 (by have := wideB_1.1 h90; omega)), SR24.fin⟩
                                          | exact ⟨shape_f (fun h => by have := (Shape_4 (by omega)).1 h; rw [wideB_1.2 (by omega)] at h90; cases h90), SR24.fin⟩
                                          | exact ⟨shape_t ((Shape_5 (by omega)).2 (by have := wideB_2.1 h111; omega)), SR24.fin⟩
                                          | exact ⟨shape_f (fun h => by have := (Shape_5 (by omega)).1 h; rw [wideB_2.2 (by omega)] at h111; cases h111), SR24.fin⟩
                                          | exact ⟨shape_t ((Shape_14 (by omega)).2 (by have := wideB_3.1 h161; omega)), SR24.fin⟩
                                          | exact ⟨shape_f (fun h => by have := (Shape_14 (by omega)).1 h; rw [wideB_3.2 (by omega)] at h161; cases h161), SR24.fin⟩
                                          | exact ⟨shape_t ((Shape_11 (by omega)).2 (by omega)), SR24.fin⟩
                                          | exact ⟨shape_f (fun h => by have := (Shape_11 (by omega)).1 h; omega), SR24.fin⟩
                                          | exact ⟨shape_f (fun h => by obtain ⟨x1, x2, x3⟩ := h; omega), SR24.fin⟩
                                      · first | refine q_pick rfl (v := .bool _) rfl rfl ?_ | refine q_pick rfl (by conv => lhs; whnf) rfl ?_
                                        first | refine q_assign (v := .bool _) rfl rfl ?_ | refine q_assign (by conv => lhs; whnf) rfl ?_
                                        refine QL_nil ?_
                                        refine BK_of ?_
                                        refine BKL_nil ?_
                                        rintro wR24 ⟨SR24, XR24⟩
                                        refine WL_nil ?_
                                        refine W_ret ?_
                                        refine ret_1 rfl (by conv => lhs; whnf) ?_
                                        first
                                          | exact ⟨shape_f (fun h => by have := Shape_ar h; omega), SR24.fin⟩
                                          | exact ⟨shape_t ((Shape_1 (by omega)).2 (by omega)), SR24.fin⟩
                                          | exact ⟨shape_f (fun h => by have := (Shape_1 (by omega)).1 h; omega), SR24.fin⟩
                                          | exact ⟨shape_t ((Shape_2 (by omega)).2 (by omega)), SR24.fin⟩
                                          | exact ⟨shape_f (fun h => by have := (Shape_2 (by omega)).1 h; omega), SR24.fin⟩
                                          | exact ⟨shape_t ((Shape_4 (by omega)).2 (by have := wideB_1.1 h90; omega)), SR24.fin⟩
                                          | exact ⟨shape_f (fun h => by have := (Shape_4 (by omega)).1 h; rw [wideB_1.2 (by omega)] at h90; cases h90), SR24.fin⟩
                                          | exact ⟨shape_t ((Shape_5 (by omega)).2 (by have := wideB_2.1 h111; omega)), SR24.fin⟩
                                          | exact ⟨shape_f (fun h => by have := (Shape_5 (by omega)).1 h; rw [wideB_2.2 (by omega)] at h111; cases h111), SR24.fin⟩
                                          | exact ⟨shape_t ((Shape_14 (by omega)).2 (by have := wideB_3.1 h161; omega)), SR24.fin⟩
                                          | exact ⟨shape_f (fun h => by have := (Shape_14 (by omega)).1 h; rw [wideB_3.2 (by omega)] at h161; cases h161), SR24.fin⟩
                                          | exact ⟨shape_t ((Shape_11 (by omega)).2 (by omega)), SR24.fin⟩
                                          | exact ⟨shape_f (fun h => by have := (Shape_11 (by omega)).1 h; omega), SR24.fin⟩
                                          | exact ⟨shape_f (fun h => by obtain ⟨x1, x2, x3⟩ := h; omega), SR24.fin⟩
                                    · first | refine q_pick rfl (v := .bool _) rfl rfl ?_ | refine q_pick rfl (by conv => lhs; whnf) rfl ?_
                                      first | refine q_move (v := .bool _) rfl rfl ?_ | refine q_move (by conv => lhs; whnf) rfl ?_
                                      refine QL_off rfl rfl rfl ?_
                                      refine QL_off rfl rfl rfl ?_
                                      refine QL_off rfl rfl rfl ?_
                                      refine QL_off rfl rfl rfl ?_
                                      refine QL_off rfl rfl rfl ?_
                                      refine QL_off rfl rfl rfl ?_
                                      refine QL_off rfl rfl rfl ?_
                                      refine QL_off rfl rfl rfl ?_
                                      refine QL_off rfl rfl rfl ?_
                                      refine QL_off rfl rfl rfl ?_
                                      refine QL_off rfl rfl rfl ?_
                                      refine QL_off rfl rfl rfl ?_
                                      refine QL_off rfl rfl rfl ?_
                                      refine QL_off rfl rfl rfl ?_
                                      refine QL_off rfl rfl rfl ?_
                                      first | refine q_pick rfl (v := .bool _) rfl rfl ?_ | refine q_pick rfl (by conv => lhs; whnf) rfl ?_
                                      first | refine q_assign (v := .bool _) rfl rfl ?_ | refine q_assign (by conv => lhs; whnf) rfl ?_
                                      refine QL_nil ?_
                                      refine BK_of ?_
                                      refine BKL_nil ?_
                                      rintro wR24 ⟨SR24, XR24⟩
                                      refine WL_nil ?_
                                      refine W_ret ?_
                                      refine ret_1 rfl (by conv => lhs; whnf) ?_
                                      first
                                        | exact ⟨shape_f (fun h => by have := Shape_ar h; omega), SR24.fin⟩
                                        | exact ⟨shape_t ((Shape_1 (by omega)).2 (by omega)), SR24.fin⟩
                                        | exact ⟨shape_f (fun h => by have := (Shape_1 (by omega)).1 h; omega), SR24.fin⟩
                                        | exact ⟨shape_t ((Shape_2 (by omega)).2 (by omega)), SR24.fin⟩
                                        | exact ⟨shape_f (fun h => by have := (Shape_2 (by omega)).1 h; omega), SR24.fin⟩
                                        | exact ⟨shape_t ((Shape_4 (by omega)).2 (by have := wideB_1.1 h90; omega)), SR24.fin⟩
                                        | exact ⟨shape_f (fun h => by have := (Shape_4 (by omega)).1 h; rw [wideB_1.2 (by omega)] at h90; cases h90), SR24.fin⟩
                                        | exact ⟨shape_t ((Shape_5 (by omega)).2 (by have := wideB_2.1 h111; omega)), SR24.fin⟩
                                        | exact ⟨shape_f (fun h => by have := (Shape_5 (by omega)).1 h; rw [wideB_2.2 (by omega)] at h111; cases h111), SR24.fin⟩
                                        | exact ⟨shape_t ((Shape_14 (by omega)).2 (by have := wideB_3.1 h161; omega)), SR24.fin⟩
                                        | exact ⟨shape_f (fun h => by have := (Shape_14 (by omega)).1 h; rw [wideB_3.2 (by omega)] at h161; cases h161), SR24.fin⟩
                                        | exact ⟨shape_t ((Shape_11 (by omega)).2 (by omega)), SR24.fin⟩
                                        | exact ⟨shape_f (fun h => by have := (Shape_11 (by omega)).1 h; omega), SR24.fin⟩
                                        | exact ⟨shape_f (fun h => by obtain ⟨x1, x2, x3⟩ := h; omega), SR24.fin⟩
                                  · first | refine q_move (v := .bool _) rfl rfl ?_ | refine q_move (by conv => lhs; whnf) rfl ?_
                                    refine QL_off rfl rfl rfl ?_
                                    refine QL_off rfl rfl rfl ?_
                                    refine QL_off rfl rfl rfl ?_
                                    refine QL_off rfl rfl rfl ?_
                                    refine QL_off rfl rfl rfl ?_
                                    refine QL_off rfl rfl rfl ?_
                                    first | refine q_pick rfl (v := .bool _) rfl rfl ?_ | refine q_pick rfl (by conv => lhs; whnf) rfl ?_
                                    first | refine q_move (v := .bool _) rfl rfl ?_ | refine q_move (by conv => lhs; whnf) rfl ?_
                                    refine QL_off rfl rfl rfl ?_
                                    refine QL_off rfl rfl rfl ?_
                                    refine QL_off rfl rfl rfl ?_
                                    refine QL_off rfl rfl rfl ?_
                                    refine QL_off rfl rfl rfl ?_
                                    refine QL_off rfl rfl rfl ?_
                                    refine QL_off rfl rfl rfl ?_
                                    refine QL_off rfl rfl rfl ?_
                                    refine QL_off rfl rfl rfl ?_
                                    refine QL_off rfl rfl rfl ?_
                                    refine QL_off rfl rfl rfl ?_
                                    refine QL_off rfl rfl rfl ?_
                                    refine QL_off rfl rfl rfl ?_
                                    refine QL_off rfl rfl rfl ?_
                                    refine QL_off rfl rfl rfl ?_
                                    first | refine q_pick rfl (v := .bool _) rfl rfl ?_ | refine q_pick rfl (by conv => lhs; whnf) rfl ?_
                                    first | refine q_assign (v := .bool _) rfl rfl ?_ | refine q_assign (by conv => lhs; whnf) rfl ?_
                                    refine QL_nil ?_
                                    refine BK_of ?_
                                    refine BKL_nil ?_
                                    rintro wR24 ⟨SR24, XR24⟩
                                    refine WL_nil ?_
                                    refine W_ret ?_
                                    refine ret_1 rfl (by conv => lhs; whnf) ?_
                                    first
                                      | exact ⟨shape_f (fun h => by have := Shape_ar h; omega), SR24.fin⟩
                                      | exact ⟨shape_t ((Shape_1 (by omega)).2 (by omega)), SR24.fin⟩
                                      | exact ⟨shape_f (fun h => by have := (Shape_1 (by omega)).1 h; omega), SR24.fin⟩
                                      | exact ⟨shape_t ((Shape_2 (by omega)).2 (by omega)), SR24.fin⟩
                                      | exact ⟨shape_f (fun h => by have := (Shape_2 (by omega)).1 h; omega), SR24.fin⟩
                                      | exact ⟨shape_t ((Shape_4 (by omega)).2 (by have := wideB_1.1 h90; omega)), SR24.fin⟩
                                      | exact ⟨shape_f (fun h => by have := (Shape_4 (by omega)).1 h; rw [wideB_1.2 (by omega)] at h90; cases h90), SR24.fin⟩
                                      | exact ⟨shape_t ((Shape_5 (by omega)).2 (by have := wideB_2.1 h111; omega)), SR24.fin⟩
                                      | exact ⟨shape_f (fun h => by have := (Shape_5 (by omega)).1 h; rw [wideB_2.2 (by omega)] at h111; cases h111), SR24.fin⟩
                                      | exact ⟨shape_t ((Shape_14 (by omega)).2 (by have := wideB_3.1 h161; omega)), SR24.fin⟩
                                      | exact ⟨shape_f (fun h => by have := (Shape_14 (by omega)).1 h; rw [wideB_3.2 (by omega)] at h161; cases h161), SR24.fin⟩
                                      | exact ⟨shape_t ((Shape_11 (by omega)).2 (by omega)), SR24.fin⟩
                                      | exact ⟨shape_f (fun h => by have := (Shape_11 (by omega)).1 h; omega), SR24.fin⟩
                                      | exact ⟨shape_f (fun h => by obtain ⟨x1, x2, x3⟩ := h; omega), SR24.fin⟩
                                · first | refine o_assign (v := .bool _) rfl rfl ?_ | refine o_assign (by conv => lhs; whnf) rfl ?_
                                  refine WL_nil ?_
                                  refine W_else rfl ?_
                                  refine W_seq ?_
                                  refine W_region ?_
                                  refine o_eql rfl rfl rfl (fun h147 => ?_) (fun h147 => ?_)
                                  · first | refine o_assign (v := .bool _) rfl rfl ?_ | refine o_assign (by conv => lhs; whnf) rfl ?_
                                    refine WL_nil ?_
                                    refine W_then rfl ?_
                                    refine W_seq ?_
                                    refine W_draw follows_mixed [0, 1, 2, 3, 4, 5, 6, 7, 8, 9, 10, 11] [12] [13, 14] (by kernel_rfl) rfl (Cl _ _ _ _) (Cl.start S) ?_
                                    first | refine q_move (v := .pointer _) rfl rfl ?_ | refine q_move (by conv => lhs; whnf) rfl ?_
                                    refine q_nilCheck rfl rfl ?_
                                    refine q_fieldAddr fa_25_3 rfl rfl ?_
                                    refine q_load one_23 rfl (fun w1 hw => by first | exact hw.1.old c0 | exact hw.1.old c1 | exact hw.1.old c2 | exact hw.1.old c3 | exact hw.1.old (hK.at (by omega) (by omega)) | exact hw.1.old hk0 | exact hw.1.old hk1) rfl ?_
                                    first | refine q_move (v := .pointer _) rfl rfl ?_ | refine q_move (by conv => lhs; whnf) rfl ?_
                                    refine q_nilCheck rfl rfl ?_
                                    refine q_fieldAddr fa_25_1 rfl rfl ?_
                                    refine q_load one_3 rfl (fun w1 hw => by first | exact hw.1.old c0 | exact hw.1.old c1 | exact hw.1.old c2 | exact hw.1.old c3 | exact hw.1.old (hK.at (by omega) (by omega)) | exact hw.1.old hk0 | exact hw.1.old hk1) rfl ?_
                                    first | refine q_move (v := .pointer _) rfl rfl ?_ | refine q_move (by conv => lhs; whnf) rfl ?_
                                    refine q_nilCheck rfl rfl ?_
                                    refine q_fieldAddr fa_25_1 rfl rfl ?_
                                    refine q_load one_3 rfl (fun w1 hw => by first | exact hw.1.old c0 | exact hw.1.old c1 | exact hw.1.old c2 | exact hw.1.old c3 | exact hw.1.old (hK.at (by omega) (by omega)) | exact hw.1.old hk0 | exact hw.1.old hk1) rfl ?_
                                    refine QL_nil ?_
                                    refine BK_of ?_
                                    refine BKL_slice rfl rfl slz_28 (vs := [.int .i64 _, .int .i64 _, .int .i64 _]) (cs := [_, _, _]) (by rfl) rfl rfl rfl rfl rfl ?_
                                    refine BKL_nil ?_
                                    rintro wR26 ⟨SR26, XR26⟩
                                    intro g160 hg160 G160 ng160
                                    dsimp only [upds]
                                    clear ng160
                                    replace SR26 := SR26.push_new S hg160 G160
                                    refine o_callb SR26 has_65 rfl rfl (wide_fn e [] _ _ _ _ _ _ _ _ [1, e.w, e.w] (RdE.less (by simp) _ _ (RdE.keep (SR26.keep0 M) _ _ hRE)) (rdI_own (k := 0) SR26 rfl (by simp) rfl (by omega) (by simpa [i64] using o2))) (fun h161 w161 S161 X161 => ?_) (fun h161 w161 S161 X161 => ?_)
                                    · first | refine o_assign (v := .bool _) rfl rfl ?_ | refine o_assign (by conv => lhs; whnf) rfl ?_
                                      refine WL_nil ?_
                                      refine W_ret ?_
                                      refine ret_1 rfl (by conv => lhs; whnf) ?_
                                      first
                                        | exact ⟨shape_f (fun h => by have := Shape_ar h; omega), S161.fin⟩
                                        | exact ⟨shape_t ((Shape_1 (by omega)).2 (by omega)), S161.fin⟩
                                        | exact ⟨shape_f (fun h => by have := (Shape_1 (by omega)).1 h; omega), S161.fin⟩
                                        | exact ⟨shape_t ((Shape_2 (by omega)).2 (by omega)), S161.fin⟩
                                        | exact ⟨shape_f (fun h => by have := (Shape_2 (by omega)).1 h; omega), S161.fin⟩
                                        | exact ⟨shape_t ((Shape_4 (by omega)).2 (by have := wideB_1.1 h90; omega)), S161.fin⟩
                                        | exact ⟨shape_f (fun h => by have := (Shape_4 (by omega)).1 h; rw [wideB_1.2 (by omega)] at h90; cases h90), S161.fin⟩
                                        | exact ⟨shape_t ((Shape_5 (by omega)).2 (by have := wideB_2.1 h111; omega)), S161.fin⟩
                                        | exact ⟨shape_f (fun h => by have := (Shape_5 (by omega)).1 h; rw [wideB_2.2 (by omega)] at h111; cases h111), S161.fin⟩
                                        | exact ⟨shape_t ((Shape_14 (by omega)).2 (by have := wideB_3.1 h161; omega)), S161.fin⟩
                                        | exact ⟨shape_f (fun h => by have := (Shape_14 (by omega)).1 h; rw [wideB_3.2 (by omega)] at h161; cases h161), S161.fin⟩
                                        | exact ⟨shape_t ((Shape_11 (by omega)).2 (by omega)), S161.fin⟩
                                        | exact ⟨shape_f (fun h => by have := (Shape_11 (by omega)).1 h; omega), S161.fin⟩
                                        | exact ⟨shape_f (fun h => by obtain ⟨x1, x2, x3⟩ := h; omega), S161.fin⟩
                                    · first | refine o_assign (v := .bool _) rfl rfl ?_ | refine o_assign (by conv => lhs; whnf) rfl ?_
                                      refine WL_nil ?_
                                      refine W_ret ?_
                                      refine ret_1 rfl (by conv => lhs; whnf) ?_
                                      first
                                        | exact ⟨shape_f (fun h => by have := Shape_ar h; omega), S161.fin⟩
                                        | exact ⟨shape_t ((Shape_1 (by omega)).2 (by omega)), S161.fin⟩
                                        | exact ⟨shape_f (fun h => by have := (Shape_1 (by omega)).1 h; omega), S161.fin⟩
                                        | exact ⟨shape_t ((Shape_2 (by omega)).2 (by omega)), S161.fin⟩
                                        | exact ⟨shape_f (fun h => by have := (Shape_2 (by omega)).1 h; omega), S161.fin⟩
                                        | exact ⟨shape_t ((Shape_4 (by omega)).2 (by have := wideB_1.1 h90; omega)), S161.fin⟩
                                        | exact ⟨shape_f (fun h => by have := (Shape_4 (by omega)).1 h; rw [wideB_1.2 (by omega)] at h90; cases h90), S161.fin⟩
                                        | exact ⟨shape_t ((Shape_5 (by omega)).2 (by have := wideB_2.1 h111; omega)), S161.fin⟩
                                        | exact ⟨shape_f (fun h => by have := (Shape_5 (by omega)).1 h; rw [wideB_2.2 (by omega)] at h111; cases h111), S161.fin⟩
                                        | exact ⟨shape_t ((Shape_14 (by omega)).2 (by have := wideB_3.1 h161; omega)), S161.fin⟩
                                        | exact ⟨shape_f (fun h => by have := (Shape_14 (by omega)).1 h; rw [wideB_3.2 (by omega)] at h161; cases h161), S161.fin⟩
                                        | exact ⟨shape_t ((Shape_11 (by omega)).2 (by omega)), S161.fin⟩
                                        | exact ⟨shape_f (fun h => by have := (Shape_11 (by omega)).1 h; omega), S161.fin⟩
                                        | exact ⟨shape_f (fun h => by obtain ⟨x1, x2, x3⟩ := h; omega), S161.fin⟩
                                  · first | refine o_assign (v := .bool _) rfl rfl ?_ | refine o_assign (by conv => lhs; whnf) rfl ?_
                                    refine WL_nil ?_
                                    refine W_else rfl ?_
                                    refine W_skip ?_
                                    refine W_seq ?_
                                    refine W_region ?_
                                    first | refine o_assign (v := .bool _) rfl rfl ?_ | refine o_assign (by conv => lhs; whnf) rfl ?_
                                    refine WL_nil ?_
                                    refine W_ret ?_
                                    refine ret_1 rfl (by conv => lhs; whnf) ?_
                                    first
                                      | exact ⟨shape_f (fun h => by have := Shape_ar h; omega), S.fin⟩
                                      | exact ⟨shape_t ((Shape_1 (by omega)).2 (by omega)), S.fin⟩
                                      | exact ⟨shape_f (fun h => by have := (Shape_1 (by omega)).1 h; omega), S.fin⟩
                                      | exact ⟨shape_t ((Shape_2 (by omega)).2 (by omega)), S.fin⟩
                                      | exact ⟨shape_f (fun h => by have := (Shape_2 (by omega)).1 h; omega), S.fin⟩
                                      | exact ⟨shape_t ((Shape_4 (by omega)).2 (by have := wideB_1.1 h90; omega)), S.fin⟩
                                      | exact ⟨shape_f (fun h => by have := (Shape_4 (by omega)).1 h; rw [wideB_1.2 (by omega)] at h90; cases h90), S.fin⟩
                                      | exact ⟨shape_t ((Shape_5 (by omega)).2 (by have := wideB_2.1 h111; omega)), S.fin⟩
                                      | exact ⟨shape_f (fun h => by have := (Shape_5 (by omega)).1 h; rw [wideB_2.2 (by omega)] at h111; cases h111), S.fin⟩
                                      | exact ⟨shape_t ((Shape_14 (by omega)).2 (by have := wideB_3.1 h161; omega)), S.fin⟩
                                      | exact ⟨shape_f (fun h => by have := (Shape_14 (by omega)).1 h; rw [wideB_3.2 (by omega)] at h161; cases h161), S.fin⟩
                                      | exact ⟨shape_t ((Shape_11 (by omega)).2 (by omega)), S.fin⟩
                                      | exact ⟨shape_f (fun h => by have := (Shape_11 (by omega)).1 h; omega), S.fin⟩
                                      | exact ⟨shape_f (fun h => by obtain ⟨x1, x2, x3⟩ := h; omega), S.fin⟩

theorem cnts_take (ks : List E) (k : Nat) (h : k < ks.length) : E.cnts (ks.take (k + 1)) = E.cnts (ks.take k) + ks[k].cnt := by
  induction ks generalizing k with
  | nil => simp at h
  | cons x xs ih =>
    cases k with
    | zero => simp [E.cnts]
    | succ k => simp only [List.take_succ_cons, E.cnts, List.getElem_cons_succ]; rw [ih k (by simpa using h)]; omega
theorem cnts_take_le (ks : List E) (k : Nat) : E.cnts (ks.take k) ≤ E.cnts ks := by
  induction ks generalizing k with
  | nil => simp [E.cnts]
  | cons x xs ih =>
    cases k with
    | zero => simp [E.cnts]
    | succ k => simp only [List.take_succ_cons, E.cnts]; have := ih k; omega

def visB (e : E) (depth : Int) (cnt : Nat) : Bool := decide (cnt + e.cnt ≤ 600) && e.good (41 - depth)

theorem visit_fn : ∀ (e : E) (M : List Nat) (w0 : World) (b o : Nat) (depth : Int) (cnt gc gv : Nat), RdP M w0 e b o → Masks M w0 → gc ∈ M → gv ∉ M → hasBlk w0 (gc, 3, [.int .i64 (cnt : Int)]) →
    w0.cell? ⟨gv, 0, none⟩ = some (.func (.func 44) #[] #[.pointer (some ⟨gc, 0, none⟩), .pointer (some ⟨gv, 0, none⟩)]) → cnt ≤ 600 → 1 ≤ depth → depth ≤ 41 →
    Does Tryd.prog 44 #[.pointer (some ⟨b, o, none⟩), .int .i64 depth, .pointer (some ⟨gc, 0, none⟩), .pointer (some ⟨gv, 0, none⟩)] w0 fun v w' =>
      ∃ cnt' : Nat, BelowB [gc] w0 w' ∧ hasBlk w' (gc, 3, [.int .i64 (cnt' : Int)]) ∧ v = .bool (visB e depth cnt) ∧ (visB e depth cnt = true → cnt' = cnt + e.cnt) := by
  intro e
  induction e using E.induct with
  | _ e ih =>
  intro M w0 b o depth cnt gc gv hR hK hgc hgv hblk hvc hcnt hd1 hd2
  obtain ⟨hbM, o1, o2, o3, c0, c1, c2, A, n, c, c3, hn, hc, hm, hbig, hks, hRE⟩ := hR.open_
  have S := St.borrow1 hblk
  have hsub : ∀ g ∈ [gc], g ∈ M := fun g hg => by simp at hg; subst hg; exact hgc
  have hb' : b ∉ [gc] := fun h => hbM (hsub b h)
  have hv' : gv ∉ [gc] := fun h => hgv (hsub gv h)
  have hgd := E.good_def e (41 - depth)
  have hce := E.cnt_def e
  have hfalse : ∀ k ∈ e.kids, k.good (41 - (depth + 1)) = false → E.goods e.kids (41 - depth - 1) = false := fun k hk hf => by
    cases hg : E.goods e.kids (41 - depth - 1) with
    | false => rfl
    | true => rw [show 41 - (depth + 1) = 41 - depth - 1 by omega, (E.goods_iff _ _).1 hg k hk] at hf; cases hf
  refine Does_enter Tryd.func44 rfl Tryd.ntmps44 rfl ?_
  refine W_seq ?_
  refine W_region ?_
  first | refine o_assign (v := .bool _) rfl rfl ?_ | refine o_assign (by conv => lhs; whnf) rfl ?_
  refine WL_nil ?_
  refine W_seq ?_
  refine W_region ?_
  refine o_load one_3 rfl (by first | exact S.cell 0 rfl rfl | exact S.oldM hb' c0 | exact S.oldM hb' c3 | exact S.oldM hv' hvc) rfl ?_
  refine o_add rfl rfl (by unfold i64; omega) rfl ?_
  first | refine o_store (kk := 0) S sz_3 rfl (by conv => lhs; whnf) rfl rfl (by first | exact Nat.le_of_ble_eq_true rfl | (simp; omega)) ?_
  intro w1_2 S1_2 X1_2
  refine WL_nil ?_
  refine W_seq ?_
  refine W_seq ?_
  refine W_region ?_
  refine o_load one_3 rfl (by first | exact S1_2.cell 0 rfl rfl | exact S1_2.oldM hb' c0 | exact S1_2.oldM hb' c3 | exact S1_2.oldM hv' hvc) rfl ?_
  refine o_gtr rfl rfl rfl (fun h11 => ?_) (fun h11 => ?_)
  · first | refine o_move (v := .bool _) rfl rfl ?_ | refine o_move (by conv => lhs; whnf) rfl ?_
    refine WL_off rfl rfl rfl rfl ?_
    refine WL_off rfl rfl rfl rfl ?_
    first | refine o_pick rfl (v := .bool _) rfl rfl ?_ | refine o_pick rfl (by conv => lhs; whnf) rfl ?_
    first | refine o_move (v := .bool _) rfl rfl ?_ | refine o_move (by conv => lhs; whnf) rfl ?_
    refine WL_off rfl rfl rfl rfl ?_
    refine WL_off rfl rfl rfl rfl ?_
    refine WL_off rfl rfl rfl rfl ?_
    first | refine o_pick rfl (v := .bool _) rfl rfl ?_ | refine o_pick rfl (by conv => lhs; whnf) rfl ?_
    refine WL_nil ?_
    refine W_then rfl ?_
    refine W_seq ?_
    refine W_region ?_
    first | refine o_assign (v := .bool _) rfl rfl ?_ | refine o_assign (by conv => lhs; whnf) rfl ?_
    refine WL_nil ?_
    refine W_ret ?_
    refine ret_1 rfl (by conv => lhs; whnf) ?_
    first
      | (have hvf : visB e depth cnt = false := by
           unfold visB; rw [hgd]
           first | (rw [decide_eq_false (show ¬ cnt + e.cnt ≤ 600 by omega)]; rfl) | (simp [show ¬ 1 ≤ 41 - depth by omega]; done) | (simp [h18]; done)
         exact ⟨cnt + 1, S1_2.below, S1_2.blk 0 rfl, by rw [hvf], fun h => by rw [hvf] at h; cases h⟩)
      | (have hvf : visB e depth cnt = false := by
           unfold visB at hv38 ⊢; rw [hgd]
           by_cases hq : cnt + 1 + E.cnts (e.kids.take k) + e.kids[k].cnt ≤ 600
           · rw [decide_eq_true hq] at hv38; simp only [Bool.true_and] at hv38; rw [hfalse _ (List.getElem_mem hlt) hv38]; simp
           · rw [decide_eq_false (by omega)]; rfl
         exact ⟨cnt', S1_2.below, S1_2.blk 0 rfl, by rw [hvf], fun h => by rw [hvf] at h; cases h⟩)
      | (obtain rfl : k = e.kids.length := by omega
         rw [List.take_length] at hs2 S
         have hvt : visB e depth cnt = true := by
           unfold visB; rw [hgd, decide_eq_true (by omega), (E.goods_iff _ _).2 (fun x hx => by obtain ⟨j, hj, rfl⟩ := List.getElem_of_mem hx; exact hs j hj (by omega))]
           simp [h18, show 1 ≤ 41 - depth by omega]
         exact ⟨_, S.below, S.blk 0 rfl, by rw [hvt], fun _ => by omega⟩)
  · first | refine o_move (v := .bool _) rfl rfl ?_ | refine o_move (by conv => lhs; whnf) rfl ?_
    refine WL_on rfl rfl rfl ?_
    first | refine o_move (v := .int .i64 _) rfl rfl ?_ | refine o_move (by conv => lhs; whnf) rfl ?_
    refine WL_on rfl rfl rfl ?_
    refine o_gtr rfl rfl rfl (fun h14 => ?_) (fun h14 => ?_)
    · first | refine o_pick rfl (v := .bool _) rfl rfl ?_ | refine o_pick rfl (by conv => lhs; whnf) rfl ?_
      first | refine o_move (v := .bool _) rfl rfl ?_ | refine o_move (by conv => lhs; whnf) rfl ?_
      refine WL_off rfl rfl rfl rfl ?_
      refine WL_off rfl rfl rfl rfl ?_
      refine WL_off rfl rfl rfl rfl ?_
      first | refine o_pick rfl (v := .bool _) rfl rfl ?_ | refine o_pick rfl (by conv => lhs; whnf) rfl ?_
      refine WL_nil ?_
      refine W_then rfl ?_
      refine W_seq ?_
      refine W_region ?_
      first | refine o_assign (v := .bool _) rfl rfl ?_ | refine o_assign (by conv => lhs; whnf) rfl ?_
      refine WL_nil ?_
      refine W_ret ?_
      refine ret_1 rfl (by conv => lhs; whnf) ?_
      first
        | (have hvf : visB e depth cnt = false := by
             unfold visB; rw [hgd]
             first | (rw [decide_eq_false (show ¬ cnt + e.cnt ≤ 600 by omega)]; rfl) | (simp [show ¬ 1 ≤ 41 - depth by omega]; done) | (simp [h18]; done)
           exact ⟨cnt + 1, S1_2.below, S1_2.blk 0 rfl, by rw [hvf], fun h => by rw [hvf] at h; cases h⟩)
        | (have hvf : visB e depth cnt = false := by
             unfold visB at hv38 ⊢; rw [hgd]
             by_cases hq : cnt + 1 + E.cnts (e.kids.take k) + e.kids[k].cnt ≤ 600
             · rw [decide_eq_true hq] at hv38; simp only [Bool.true_and] at hv38; rw [hfalse _ (List.getElem_mem hlt) hv38]; simp
             · rw [decide_eq_false (by omega)]; rfl
           exact ⟨cnt', S1_2.below, S1_2.blk 0 rfl, by rw [hvf], fun h => by rw [hvf] at h; cases h⟩)
        | (obtain rfl : k = e.kids.length := by omega
           rw [List.take_length] at hs2 S
           have hvt : visB e depth cnt = true := by
             unfold visB; rw [hgd, decide_eq_true (by omega), (E.goods_iff _ _).2 (fun x hx => by obtain ⟨j, hj, rfl⟩ := List.getElem_of_mem hx; exact hs j hj (by omega))]
             simp [h18, show 1 ≤ 41 - depth by omega]
           exact ⟨_, S.below, S.blk 0 rfl, by rw [hvt], fun _ => by omega⟩)
    · first | refine o_pick rfl (v := .bool _) rfl rfl ?_ | refine o_pick rfl (by conv => lhs; whnf) rfl ?_
      first | refine o_move (v := .bool _) rfl rfl ?_ | refine o_move (by conv => lhs; whnf) rfl ?_
      refine WL_on rfl rfl rfl ?_
      first | refine o_move (v := .pointer _) rfl rfl ?_ | refine o_move (by conv => lhs; whnf) rfl ?_
      refine WL_on rfl rfl rfl ?_
      refine o_callb S1_2 has_45 rfl rfl (shaped_fn _ M _ _ _ (hR.keep (S1_2.keepM.mono hsub)) (hK.keep (S1_2.keepM.mono hsub))) (fun h18 w18 S18 X18 => ?_) (fun h18 w18 S18 X18 => ?_)
      · refine WL_on rfl rfl rfl ?_
        refine o_not rfl rfl ?_
        first | refine o_pick rfl (v := .bool _) rfl rfl ?_ | refine o_pick rfl (by conv => lhs; whnf) rfl ?_
        refine WL_nil ?_
        refine W_else rfl ?_
        refine W_skip ?_
        refine W_seq ?_
        refine W_seq ?_
        refine W_region ?_
        first | refine o_move (v := .pointer _) rfl rfl ?_ | refine o_move (by conv => lhs; whnf) rfl ?_
        refine o_nilCheck rfl rfl ?_
        refine o_fieldAddr fa_25_3 rfl rfl ?_
        refine o_load one_23 rfl (by first | exact S18.cell 0 rfl rfl | exact S18.oldM hb' c0 | exact S18.oldM hb' c3 | exact S18.oldM hv' hvc) rfl ?_
        refine o_len slz_23.slT rfl rfl ?_
        first | refine o_move (v := .int .i64 _) rfl rfl ?_ | refine o_move (by conv => lhs; whnf) rfl ?_
        refine WL_nil ?_
        refine W_block ?_
        refine W_loop (fun μ D ε w => D = [] ∧ ∃ k : Nat, (k + μ = e.kids.length) ∧ (∀ (j : Nat) (h : j < e.kids.length), j < k → e.kids[j].good (41 - depth - 1) = true) ∧ (cnt + 1 + E.cnts (e.kids.take k) ≤ 600) ∧ St [gc] w0 w [(some gc, 3, [.int .i64 ((cnt + 1 + E.cnts (e.kids.take k) : Nat) : Int)])] ∧ ε 0 = .pointer (some ⟨b, o, none⟩) ∧ ε 1 = .int .i64 depth ∧ ε 2 = .pointer (some ⟨gc, 0, none⟩) ∧ ε 3 = .pointer (some ⟨gv, 0, none⟩) ∧ ε 25 = .int .i64 n ∧ ε 26 = .int .i64 k) (μ := e.kids.length) ⟨rfl, 0, by omega, fun j _ h => absurd h (by omega), by simp [E.cnts]; omega, by simpa [E.cnts] using S18, rfl, rfl, rfl, rfl, rfl, rfl⟩ ?_
        rintro μ D ε w ⟨rfl, k, hk, hs, hs2, S, e0, e1, e2, e3, e25, e26⟩
        refine W_known 0 e0 ?_
        refine W_known 1 e1 ?_
        refine W_known 2 e2 ?_
        refine W_known 3 e3 ?_
        refine W_known 25 e25 ?_
        refine W_known 26 e26 ?_
        clear e0 e1 e2 e3 e25 e26
        refine W_seq ?_
        refine W_region ?_
        refine o_lss rfl rfl rfl (fun h27 => ?_) (fun h27 => ?_)
        · refine WL_nil ?_
          refine W_seq ?_
          refine W_then rfl ?_
          refine W_skip ?_
          refine W_seq ?_
          refine W_block ?_
          refine W_seq ?_
          refine W_region ?_
          first | refine o_move (v := .int .i64 _) rfl rfl ?_ | refine o_move (by conv => lhs; whnf) rfl ?_
          first | refine o_assign (v := .int .i64 _) rfl rfl ?_ | refine o_assign (by conv => lhs; whnf) rfl ?_
          refine WL_nil ?_
          refine W_seq ?_
          refine W_draw follows_mixed [0, 1, 2, 3, 4, 5, 6, 7, 8] [] [9, 10] (by kernel_rfl) rfl (Cl _ _ _ _) (Cl.start S) ?_
          refine q_load one_68 rfl (fun w1 hw => by first | exact hw.1.cell 0 rfl rfl | exact hw.1.oldM hb' c0 | exact hw.1.oldM hb' c3 | exact hw.1.oldM hv' hvc) rfl ?_
          first | refine q_move (v := .pointer _) rfl rfl ?_ | refine q_move (by conv => lhs; whnf) rfl ?_
          refine q_nilCheck rfl rfl ?_
          refine q_fieldAddr fa_25_3 rfl rfl ?_
          refine q_load one_23 rfl (fun w1 hw => by first | exact hw.1.cell 0 rfl rfl | exact hw.1.oldM hb' c0 | exact hw.1.oldM hb' c3 | exact hw.1.oldM hv' hvc) rfl ?_
          first | refine q_move (v := .int .i64 _) rfl rfl ?_ | refine q_move (by conv => lhs; whnf) rfl ?_
          have hlt : k < e.kids.length := by omega
          obtain ⟨bk, ok, hA, hbkM, hkk⟩ := hks (by omega)
          have hct := cnts_take e.kids k hlt
          have hcl := cnts_take_le e.kids (k + 1)
          refine q_indexAddr slz_23.slT rfl (by first | rfl | assumption) rfl (by omega) (by omega) rfl ?_
          first | refine q_move (v := .int .i64 _) rfl rfl ?_ | refine q_move (by conv => lhs; whnf) rfl ?_
          refine q_add rfl rfl (by unfold i64; omega) rfl ?_
          refine QL_nil ?_
          refine BK_of ?_
          refine BKL_nil ?_
          rintro wR7 ⟨SR7, XR7⟩
          refine o_callv has_44 rfl rfl rfl (ih _ (List.getElem_mem hlt) M _ bk (ok + k * 4) _ _ gc gv ((RdP.kid hbkM hkk k hlt).keep (SR7.keepM.mono hsub)) (hK.keep (SR7.keepM.mono hsub)) hgc hgv (SR7.blk 0 rfl) (SR7.oldM hv' hvc) hs2 (by omega) (by omega)) ?_
          rintro v38 w38 ⟨cnt', B38, hb38, rfl, hi38⟩
          have S38 := SR7.changed1 0 rfl B38 hb38
          dsimp only [List.set] at S38
          cases hv38 : visB e.kids[k] (depth + 1) (cnt + 1 + E.cnts (e.kids.take k))
          · refine o_not rfl rfl ?_
            refine WL_nil ?_
            refine W_then rfl ?_
            refine W_seq ?_
            refine W_region ?_
            first | refine o_assign (v := .bool _) rfl rfl ?_ | refine o_assign (by conv => lhs; whnf) rfl ?_
            refine WL_nil ?_
            refine W_ret ?_
            refine ret_1 rfl (by conv => lhs; whnf) ?_
            first
              | (have hvf : visB e depth cnt = false := by
                   unfold visB; rw [hgd]
                   first | (rw [decide_eq_false (show ¬ cnt + e.cnt ≤ 600 by omega)]; rfl) | (simp [show ¬ 1 ≤ 41 - depth by omega]; done) | (simp [h18]; done)
                 exact ⟨cnt + 1, S38.below, S38.blk 0 rfl, by rw [hvf], fun h => by rw [hvf] at h; cases h⟩)
              | (have hvf : visB e depth cnt = false := by
                   unfold visB at hv38 ⊢; rw [hgd]
                   by_cases hq : cnt + 1 + E.cnts (e.kids.take k) + e.kids[k].cnt ≤ 600
                   · rw [decide_eq_true hq] at hv38; simp only [Bool.true_and] at hv38; rw [hfalse _ (List.getElem_mem hlt) hv38]; simp
                   · rw [decide_eq_false (by omega)]; rfl
                 exact ⟨cnt', S38.below, S38.blk 0 rfl, by rw [hvf], fun h => by rw [hvf] at h; cases h⟩)
              | (obtain rfl : k = e.kids.length := by omega
                 rw [List.take_length] at hs2 S
                 have hvt : visB e depth cnt = true := by
                   unfold visB; rw [hgd, decide_eq_true (by omega), (E.goods_iff _ _).2 (fun x hx => by obtain ⟨j, hj, rfl⟩ := List.getElem_of_mem hx; exact hs j hj (by omega))]
                   simp [h18, show 1 ≤ 41 - depth by omega]
                 exact ⟨_, S.below, S.blk 0 rfl, by rw [hvt], fun _ => by omega⟩)
          · refine o_not rfl rfl ?_
            refine WL_nil ?_
            refine W_else rfl ?_
            refine W_skip ?_
            refine W_region ?_
            refine o_add rfl rfl (by unfold i64; omega) rfl ?_
            first | refine o_move (v := .int .i64 _) rfl rfl ?_ | refine o_move (by conv => lhs; whnf) rfl ?_
            refine WL_nil ?_
            have hcc := hi38 hv38
            unfold visB at hv38
            simp only [Bool.and_eq_true, decide_eq_true_eq] at hv38
            refine ⟨μ - 1, by omega, rfl, k + 1, by omega, fun j hj h => ?_, by omega, by rw [hct, ← Nat.add_assoc, ← hcc]; exact S38, rfl, rfl, rfl, rfl, rfl, rfl⟩
            by_cases hjk : j = k
            · subst hjk; rw [show 41 - depth - 1 = 41 - (depth + 1) by omega]; exact hv38.2
            · exact hs j hj (by omega)
        · refine WL_nil ?_
          refine W_seq ?_
          refine W_else rfl ?_
          refine W_exit ?_
          refine bcons_here ?_
          refine W_seq ?_
          refine W_region ?_
          first | refine o_assign (v := .bool _) rfl rfl ?_ | refine o_assign (by conv => lhs; whnf) rfl ?_
          refine WL_nil ?_
          refine W_ret ?_
          refine ret_1 rfl (by conv => lhs; whnf) ?_
          first
            | (have hvf : visB e depth cnt = false := by
                 unfold visB; rw [hgd]
                 first | (rw [decide_eq_false (show ¬ cnt + e.cnt ≤ 600 by omega)]; rfl) | (simp [show ¬ 1 ≤ 41 - depth by omega]; done) | (simp [h18]; done)
               exact ⟨cnt + 1, S.below, S.blk 0 rfl, by rw [hvf], fun h => by rw [hvf] at h; cases h⟩)
            | (have hvf : visB e depth cnt = false := by
                 unfold visB at hv38 ⊢; rw [hgd]
                 by_cases hq : cnt + 1 + E.cnts (e.kids.take k) + e.kids[k].cnt ≤ 600
                 · rw [decide_eq_true hq] at hv38; simp only [Bool.true_and] at hv38; rw [hfalse _ (List.getElem_mem hlt) hv38]; simp
                 · rw [decide_eq_false (by omega)]; rfl
               exact ⟨cnt', S.below, S.blk 0 rfl, by rw [hvf], fun h => by rw [hvf] at h; cases h⟩)
            | (obtain rfl : k = e.kids.length := by omega
               rw [List.take_length] at hs2 S
               have hvt : visB e depth cnt = true := by
                 unfold visB; rw [hgd, decide_eq_true (by omega), (E.goods_iff _ _).2 (fun x hx => by obtain ⟨j, hj, rfl⟩ := List.getElem_of_mem hx; exact hs j hj (by omega))]
                 simp [h18, show 1 ≤ 41 - depth by omega]
               exact ⟨_, S.below, S.blk 0 rfl, by rw [hvt], fun _ => by omega⟩)
      · refine WL_on rfl rfl rfl ?_
        refine o_not rfl rfl ?_
        first | refine o_pick rfl (v := .bool _) rfl rfl ?_ | refine o_pick rfl (by conv => lhs; whnf) rfl ?_
        refine WL_nil ?_
        refine W_then rfl ?_
        refine W_seq ?_
        refine W_region ?_
        first | refine o_assign (v := .bool _) rfl rfl ?_ | refine o_assign (by conv => lhs; whnf) rfl ?_
        refine WL_nil ?_
        refine W_ret ?_
        refine ret_1 rfl (by conv => lhs; whnf) ?_
        first
          | (have hvf : visB e depth cnt = false := by
               unfold visB; rw [hgd]
               first | (rw [decide_eq_false (show ¬ cnt + e.cnt ≤ 600 by omega)]; rfl) | (simp [show ¬ 1 ≤ 41 - depth by omega]; done) | (simp [h18]; done)
             exact ⟨cnt + 1, S18.below, S18.blk 0 rfl, by rw [hvf], fun h => by rw [hvf] at h; cases h⟩)
          | (have hvf : visB e depth cnt = false := by
               unfold visB at hv38 ⊢; rw [hgd]
               by_cases hq : cnt + 1 + E.cnts (e.kids.take k) + e.kids[k].cnt ≤ 600
               · rw [decide_eq_true hq] at hv38; simp only [Bool.true_and] at hv38; rw [hfalse _ (List.getElem_mem hlt) hv38]; simp
               · rw [decide_eq_false (by omega)]; rfl
             exact ⟨cnt', S18.below, S18.blk 0 rfl, by rw [hvf], fun h => by rw [hvf] at h; cases h⟩)
          | (obtain rfl : k = e.kids.length := by omega
             rw [List.take_length] at hs2 S
             have hvt : visB e depth cnt = true := by
               unfold visB; rw [hgd, decide_eq_true (by omega), (E.goods_iff _ _).2 (fun x hx => by obtain ⟨j, hj, rfl⟩ := List.getElem_of_mem hx; exact hs j hj (by omega))]
               simp [h18, show 1 ≤ 41 - depth by omega]
             exact ⟨_, S.below, S.blk 0 rfl, by rw [hvt], fun _ => by omega⟩)

theorem wellFormed_fn (e : E) (M : List Nat) (w0 : World) (cs : List Value) (hR : RdE M w0 e cs) (hK : Masks M w0) :
    Does Tryd.prog 30 #[.agg cs.toArray] w0 fun v w' => v = .bool e.wf ∧ Below w0.heap.size w0 w' := by
  obtain ⟨A, n, c, rfl, o1, o2, o3, hn, hc, hm, hbig, hks⟩ := hR.open_
  have S := St.refl w0
  refine Does_enter Tryd.func30 rfl Tryd.ntmps30 rfl ?_
  refine W_seq ?_
  refine W_region ?_
  refine o_boxa S (by conv => lhs; whnf) rfl ?_
  intro g1 w1 S1 X1 G1
  first | refine o_assign (v := .bool _) rfl rfl ?_ | refine o_assign (by conv => lhs; whnf) rfl ?_
  refine WL_nil ?_
  refine W_seq ?_
  refine W_region ?_
  refine o_alloc S1 zv_3 rfl rfl ?_
  intro g3 w3 S3 X3 G3
  first | refine o_store (kk := 0) S3 sz_3 rfl (by conv => lhs; whnf) rfl rfl (by first | exact Nat.le_of_ble_eq_true rfl | (simp; omega)) ?_ | refine o_store (kk := 1) S3 sz_3 rfl (by conv => lhs; whnf) rfl rfl (by first | exact Nat.le_of_ble_eq_true rfl | (simp; omega)) ?_
  intro w1_1 S1_1 X1_1
  refine WL_nil ?_
  refine W_seq ?_
  refine W_region ?_
  refine o_alloc S1_1 zv_68 rfl rfl ?_
  intro g4 w4 S4 X4 G4
  refine WL_nil ?_
  refine W_seq ?_
  refine W_region ?_
  refine o_makeFunc rfl rfl ?_
  first | refine o_store (kk := 0) S4 sz_68 rfl (by conv => lhs; whnf) rfl rfl (by first | exact Nat.le_of_ble_eq_true rfl | (simp; omega)) ?_ | refine o_store (kk := 1) S4 sz_68 rfl (by conv => lhs; whnf) rfl rfl (by first | exact Nat.le_of_ble_eq_true rfl | (simp; omega)) ?_ | refine o_store (kk := 2) S4 sz_68 rfl (by conv => lhs; whnf) rfl rfl (by first | exact Nat.le_of_ble_eq_true rfl | (simp; omega)) ?_
  intro w3_1 S3_1 X3_1
  refine WL_nil ?_
  refine W_seq ?_
  refine W_region ?_
  refine o_load one_68 rfl (by first | exact S3_1.cell 0 rfl rfl | exact S3_1.cell 1 rfl rfl | exact S3_1.cell 2 rfl rfl) rfl ?_
  have hM' : ∀ g ∈ [g3] , g ∈ M ∨ w0.heap.size ≤ g := fun g hg => by
    simp at hg; subst hg; right; have := S3_1.new 1 rfl; simp at this; exact this
  refine o_callv has_44 rfl rfl rfl (visit_fn e [g3] _ g1 0 1 0 g3 g4 ?_ ?_ (by simp) ?_ (S3_1.blk 1 rfl) (S3_1.cell 0 rfl rfl) (by omega) (by omega) (by omega)) ?_
  · exact ⟨by simpa using (S3_1.ne 1 2 rfl rfl (by omega)).symm, _, S3_1.cells 2 rfl, RdE.keep (S3_1.keep0 _) _ _ (RdE.more hM' _ _ hR)⟩
  · exact (hK.more hM').keep (S3_1.keep0 _)
  · simpa using S3_1.ne 0 1 rfl rfl (by omega)
  rintro v7 w7 ⟨cnt', B7, hb7, rfl, -⟩
  have S7 := S3_1.changed1 1 rfl B7 hb7
  first | refine o_assign (v := .bool _) rfl rfl ?_ | refine o_assign (by conv => lhs; whnf) rfl ?_
  refine WL_nil ?_
  refine W_ret ?_
  refine ret_1 rfl (by conv => lhs; whnf) ?_
  refine ⟨?_, S7.fin⟩
  unfold visB E.wf
  simp
end Go.Proofs.YtinhchacppkmgaaDoor
