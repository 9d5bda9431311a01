/-
  Plain: the fixed examples of the law's head.
-/
import Derived.Test.YtinhchacppkmgaaDoorLa0
namespace Go.Fw
open Go.RowKit

instance (x : Int) : Decidable (i64 x) := by unfold i64; infer_instance

def cellsA : List CellD := [⟨⟨#[120]⟩, 2, 0, -1, false, 0⟩, ⟨⟨#[121]⟩, 2, 0, -1, false, 0⟩]
def cellsB : List CellD := [⟨ByteArray.empty, 8, 0, 0, false, 0⟩, ⟨ByteArray.empty, 7, 0, 0, false, 0⟩]
def eX : E := ⟨2, 2, 0, []⟩
def eY : E := ⟨2, 2, 1, []⟩
def eOne : E := ⟨1, 1, 1, []⟩
def exA : CondD := mkC ⟨12, 1, 0, [⟨3, 2, 0, []⟩, eX]⟩ ⟨13, 1, 0, [⟨1, 2, 1, []⟩, eX]⟩
def exB : CondD := mkC eOne ⟨13, 1, 0, [eX, eY]⟩
def exC : CondD := mkC ⟨11, 1, 0, [⟨3, 2, 1, []⟩, eY]⟩ ⟨12, 1, 0, [eY, ⟨1, 2, 2, []⟩]⟩
def exD : CondD := mkC eX eOne
def exE : CondD := mkC ⟨11, 1, 0, [⟨2, 8, 0, []⟩, ⟨2, 8, 0, []⟩]⟩ ⟨11, 1, 0, [⟨3, 7, 1, []⟩, ⟨1, 7, 0, []⟩]⟩

theorem exA_formed : exA.formed cellsA = true := by kernel_rfl
theorem exA_bits : decide (exA.bits cellsA = 4) = true := by kernel_rfl
theorem exA_hits : ((List.range 16).all fun n => !exA.hit cellsA n) = true := by kernel_rfl
theorem exB_formed : exB.formed cellsA = true := by kernel_rfl
theorem exB_bits : decide (exB.bits cellsA = 4) = true := by kernel_rfl
theorem exB_hits : (exB.hit cellsA 1 && !exB.hit cellsA 0 && decide (pairAt cellsA (exB.sup 3) (exB.sup 2) 1 = ([0, 0], [1, 0]))) = true := by kernel_rfl
theorem exC_formed : exC.formed cellsA = true := by kernel_rfl
theorem exC_bits : decide (exC.bits cellsA = 4) = true := by kernel_rfl
theorem exC_hits : (exC.hit cellsA 10 && ((List.range 10).all fun n => !exC.hit cellsA n) && decide (pairAt cellsA (exC.sup 3) (exC.sup 2) 10 = ([0, 2], [0, 2]))) = true := by kernel_rfl
theorem exD_formed : exD.formed cellsA = false := by kernel_rfl
theorem exE_formed : exE.formed cellsB = true := by kernel_rfl
theorem exE_bits : decide (exE.bits cellsB = 15) = true := by kernel_rfl

theorem exA_yes : exA.yes cellsA := by
  have hb : exA.bits cellsA = 4 := of_decide_eq_true exA_bits
  refine ⟨exA_formed, by omega, fun n hn => ?_⟩
  rw [hb] at hn
  have := List.all_eq_true.1 exA_hits n (List.mem_range.2 hn)
  simpa using this

/-- The number of the first hit is known. -/
theorem first_hit {cells : List CellD} {c : CondD} {n k : Nat} (h1 : c.hit cells n = true) (h2 : ∀ m, m < n → c.hit cells m = false) (h3 : c.hit cells k = true) (h4 : ∀ m, m < k → c.hit cells m = false) : n = k := by
  rcases Nat.lt_trichotomy n k with h | h | h
  · have := h4 n h; rw [h1] at this; cases this
  · exact h
  · have := h2 k h; rw [h3] at this; cases this

/-- What Decide returns where the first hit is known. -/
theorem DecRes.no {M : List Nat} {cells : List CellD} {c : CondD} {v : Value} {w : World} {k : Nat} {o n : List Int} (h : DecRes M cells c v w) (hf : c.formed cells = true) (hb : c.bits cells ≤ 14) (hk : k < 2 ^ (c.bits cells).toNat) (h3 : c.hit cells k = true) (h4 : ∀ m, m < k → c.hit cells m = false) (hp : pairAt cells (c.sup 3) (c.sup 2) k = (o, n)) :
    ∃ vo vn, v = .tuple #[.int .i64 2, vo, vn, .int .i64 0] ∧ RdI M w vo o ∧ RdI M w vn n := by
  obtain ⟨x, vo, vn, y, rfl, h⟩ := h
  rcases h with ⟨f, -⟩ | ⟨f, g, -⟩ | ⟨f, g, hh, -⟩ | ⟨f, g, m, hm, hp', hl, rfl, r1, r2, rfl⟩
  · rw [hf] at f; cases f
  · omega
  · have := hh k hk; rw [h3] at this; cases this
  · obtain rfl : m = k := first_hit hp' hl h3 h4
    rw [hp] at r1 r2
    exact ⟨vo, vn, rfl, r1, r2⟩
theorem DecRes.is_yes {M : List Nat} {cells : List CellD} {c : CondD} {v : Value} {w : World} (h : DecRes M cells c v w) (hy : c.yes cells) : v = .tuple #[.int .i64 1, .slice none 0 0, .slice none 0 0, .int .i64 0] := by
  obtain ⟨hf, hb, hh⟩ := hy
  obtain ⟨x, vo, vn, y, rfl, h⟩ := h
  rcases h with ⟨f, -⟩ | ⟨f, g, -⟩ | ⟨f, g, hh, rfl, rfl, rfl, rfl⟩ | ⟨f, g, m, hm, hp', -⟩
  · rw [hf] at f; cases f
  · omega
  · rfl
  · have := hh m hm; rw [hp'] at this; cases this
theorem DecRes.bad {M : List Nat} {cells : List CellD} {c : CondD} {v : Value} {w : World} (h : DecRes M cells c v w) (hf : c.formed cells = false) : v = .tuple #[.int .i64 0, .slice none 0 0, .slice none 0 0, .int .i64 60] := by
  obtain ⟨x, vo, vn, y, rfl, h⟩ := h
  rcases h with ⟨f, rfl, rfl, rfl, rfl⟩ | ⟨f, -⟩ | ⟨f, -⟩ | ⟨f, -⟩
  · rfl
  all_goals rw [hf] at f; cases f
theorem DecRes.big {M : List Nat} {cells : List CellD} {c : CondD} {v : Value} {w : World} (h : DecRes M cells c v w) (hf : c.formed cells = true) (hb : 14 < c.bits cells) : v = .tuple #[.int .i64 0, .slice none 0 0, .slice none 0 0, .int .i64 2] := by
  obtain ⟨x, vo, vn, y, rfl, h⟩ := h
  rcases h with ⟨f, -⟩ | ⟨f, g, rfl, rfl, rfl, rfl⟩ | ⟨f, g, -⟩ | ⟨f, g, -⟩
  · rw [hf] at f; cases f
  · rfl
  · omega
  · omega
theorem exB_res {M : List Nat} {v : Value} {w : World} (h : DecRes M cellsA exB v w) : ∃ vo vn, v = .tuple #[.int .i64 2, vo, vn, .int .i64 0] ∧ RdI M w vo [0, 0] ∧ RdI M w vn [1, 0] := by
  have hb : exB.bits cellsA = 4 := of_decide_eq_true exB_bits
  have hh := exB_hits
  simp only [Bool.and_eq_true, Bool.not_eq_true', decide_eq_true_eq] at hh
  have h0 : ∀ m, m < 1 → exB.hit cellsA m = false := fun m hm => by
    have : m = 0 := by omega
    subst this; exact hh.1.2
  exact h.no exB_formed (by omega) (by rw [hb]; decide) hh.1.1 h0 hh.2
theorem exC_res {M : List Nat} {v : Value} {w : World} (h : DecRes M cellsA exC v w) : ∃ vo vn, v = .tuple #[.int .i64 2, vo, vn, .int .i64 0] ∧ RdI M w vo [0, 2] ∧ RdI M w vn [0, 2] := by
  have hb : exC.bits cellsA = 4 := of_decide_eq_true exC_bits
  have hh := exC_hits
  simp only [Bool.and_eq_true, decide_eq_true_eq] at hh
  exact h.no exC_formed (by omega) (by rw [hb]; decide) hh.1.1 (fun m hm => by simpa using List.all_eq_true.1 hh.1.2 m (List.mem_range.2 hm)) hh.2
theorem exE_res {M : List Nat} {v : Value} {w : World} (h : DecRes M cellsB exE v w) : v = .tuple #[.int .i64 0, .slice none 0 0, .slice none 0 0, .int .i64 2] := by
  have hb : exE.bits cellsB = 15 := of_decide_eq_true exE_bits
  exact h.big exE_formed (by omega)
theorem rdE_any {M M' : List Nat} {w w' : World} {op wd n : Int} {cs : List Value} (h : RdE M w ⟨op, wd, n, []⟩ cs) : RdE M' w' ⟨op, wd, n, []⟩ cs := by
  rw [RdE] at h ⊢
  obtain ⟨A, k, c, h1, h2, h3, h4, h5, h6, h7, h8, h9⟩ := h
  exact ⟨A, k, c, h1, h2, h3, h4, h5, h6, h7, h8, fun hk => absurd hk (by simp at h5; omega)⟩
end Go.Fw
