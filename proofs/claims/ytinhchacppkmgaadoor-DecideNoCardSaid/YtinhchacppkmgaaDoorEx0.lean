/-
  Expressions as trees: plain functions and laws; how a tree lies in memory.
-/
import Derived.Test.YtinhchacppkmgaaDoorFwMem
namespace Go.Fw
open Go.RowKit

/-- An expression. -/
structure E where
  op : Int
  w : Int
  n : Int
  kids : List E

theorem E.induct {C : E → Prop} (h : ∀ e, (∀ k ∈ e.kids, C k) → C e) : ∀ e, C e := by
  have key : ∀ (n : Nat) (e : E), SizeOf.sizeOf e ≤ n → C e := by
    intro n
    induction n with
    | zero => intro e he; cases e; simp at he
    | succ n ih =>
      intro e he
      refine h e fun k hk => ih k ?_
      have h1 := List.sizeOf_lt_of_mem hk
      cases e
      simp at he h1
      omega
  exact fun e => key _ e (Nat.le_refl _)

/-- The cells 'cs' read as the expression e; no block of M is touched. -/
def RdE (M : List Nat) (w : World) (e : E) (cs : List Value) : Prop :=
  ∃ A n c, cs = [.int .i64 e.op, .int .i64 e.w, .int .i64 e.n, .slice A n c] ∧ i64 e.op ∧ i64 e.w ∧ i64 e.n ∧ n = e.kids.length ∧ n ≤ c ∧ c ≤ maxLen ∧ n ≤ 140737488355328 ∧
    (0 < n → ∃ b o, A = some ⟨b, o, none⟩ ∧ b ∉ M ∧ ∀ (i : Nat) (h : i < e.kids.length), ∃ cs', Cells w b (o + i * 4) cs' ∧ RdE M w e.kids[i] cs')
termination_by SizeOf.sizeOf e
decreasing_by
  have h1 := List.sizeOf_lt_of_mem (List.getElem_mem h)
  cases e
  simp at h1 ⊢
  omega

theorem RdE.length {M : List Nat} {w : World} {e : E} {cs : List Value} (h : RdE M w e cs) : cs.length = 4 := by
  rw [RdE] at h
  obtain ⟨A, n, c, rfl, _⟩ := h
  rfl

theorem RdE.keep {M : List Nat} {w w' : World} (hk : Keep M w w') : ∀ (e : E) (cs : List Value), RdE M w e cs → RdE M w' e cs := by
  intro e
  induction e using E.induct with
  | _ e ih =>
    intro cs h
    rw [RdE] at h ⊢
    obtain ⟨A, n, c, h1, h2, h3, h4, h5, h6, h7, h8, h9⟩ := h
    refine ⟨A, n, c, h1, h2, h3, h4, h5, h6, h7, h8, fun hn => ?_⟩
    obtain ⟨b, o, hA, hb, hks⟩ := h9 hn
    refine ⟨b, o, hA, hb, fun i hi => ?_⟩
    obtain ⟨cs', hc, hr⟩ := hks i hi
    exact ⟨cs', hc.keep hk hb, ih _ (List.getElem_mem hi) cs' hr⟩

/-- Less is forbidden. -/
theorem RdE.less {M M' : List Nat} {w : World} (hM : ∀ g ∈ M', g ∈ M) : ∀ (e : E) (cs : List Value), RdE M w e cs → RdE M' w e cs := by
  intro e
  induction e using E.induct with
  | _ e ih =>
    intro cs h
    rw [RdE] at h ⊢
    obtain ⟨A, n, c, h1, h2, h3, h4, h5, h6, h7, h8, h9⟩ := h
    refine ⟨A, n, c, h1, h2, h3, h4, h5, h6, h7, h8, fun hn => ?_⟩
    obtain ⟨b, o, hA, hb, hks⟩ := h9 hn
    refine ⟨b, o, hA, fun hh => hb (hM b hh), fun i hi => ?_⟩
    obtain ⟨cs', hc, hr⟩ := hks i hi
    exact ⟨cs', hc, ih _ (List.getElem_mem hi) cs' hr⟩

theorem RdE.more {M M' : List Nat} {w : World} (hM : ∀ g ∈ M', g ∈ M ∨ w.heap.size ≤ g) : ∀ (e : E) (cs : List Value), RdE M w e cs → RdE M' w e cs := by
  intro e
  induction e using E.induct with
  | _ e ih =>
    intro cs h
    rw [RdE] at h ⊢
    obtain ⟨A, n, c, h1, h2, h3, h4, h5, h6, h7, h8, h9⟩ := h
    refine ⟨A, n, c, h1, h2, h3, h4, h5, h6, h7, h8, fun hn => ?_⟩
    obtain ⟨b, o, hA, hb, hks⟩ := h9 hn
    refine ⟨b, o, hA, fun hh => ?_, fun i hi => ?_⟩
    · rcases hM b hh with h | h
      · exact hb h
      · obtain ⟨cs', hc, hr⟩ := hks 0 (by omega)
        have hl := hr.length
        have := World.block_lt_of_cell? w _ (hc 0 cs'[0] (List.getElem?_eq_getElem (by omega)))
        simp at this; omega
    · obtain ⟨cs', hc, hr⟩ := hks i hi
      exact ⟨cs', hc, ih _ (List.getElem_mem hi) cs' hr⟩

/-- What a caller opens. -/
theorem RdE.open_ {M : List Nat} {w : World} {e : E} {cs : List Value} (h : RdE M w e cs) :
    ∃ A n c, cs = [.int .i64 e.op, .int .i64 e.w, .int .i64 e.n, .slice A n c] ∧ i64 e.op ∧ i64 e.w ∧ i64 e.n ∧ n = e.kids.length ∧ n ≤ c ∧ c ≤ maxLen ∧ n ≤ 140737488355328 ∧
    (0 < n → ∃ b o, A = some ⟨b, o, none⟩ ∧ b ∉ M ∧ ∀ (i : Nat) (h : i < e.kids.length), ∃ cs', Cells w b (o + i * 4) cs' ∧ RdE M w e.kids[i] cs') := by
  rw [RdE] at h; exact h

/-! ### Plain functions -/

mutual
/-- The number of nodes. -/
def E.cnt : E → Nat
  | ⟨_, _, _, ks⟩ => E.cnts ks + 1
def E.cnts : List E → Nat
  | [] => 0
  | k :: ks => E.cnt k + E.cnts ks
end

mutual
/-- The reference's Size. -/
def E.size : E → Int → Int
  | ⟨_, _, _, ks⟩, lim => if lim ≤ 0 then 0 else E.sizes ks lim 1
def E.sizes : List E → Int → Int → Int
  | [], _, n => n
  | k :: ks, lim, n => if n < lim then E.sizes ks lim (n + E.size k (lim - n)) else n
end

theorem E.size_def (e : E) (lim : Int) : e.size lim = if lim ≤ 0 then 0 else E.sizes e.kids lim 1 := by cases e; simp only [E.size]
theorem E.cnt_def (e : E) : e.cnt = E.cnts e.kids + 1 := by cases e; simp only [E.cnt]

theorem E.cnt_pos (e : E) : 1 ≤ e.cnt := by cases e; simp [E.cnt]

theorem E.size_eq : ∀ (e : E) (lim : Int), 0 ≤ lim → e.size lim = min (e.cnt : Int) lim := by
  intro e
  induction e using E.induct with
  | _ e ih =>
    obtain ⟨op, w, n, ks⟩ := e
    intro lim hl
    have key : ∀ (ks : List E), (∀ k ∈ ks, ∀ lim : Int, 0 ≤ lim → k.size lim = min (k.cnt : Int) lim) → ∀ (lim n : Int), 0 ≤ n → n ≤ lim → E.sizes ks lim n = min (n + (E.cnts ks : Int)) lim := by
      intro ks
      induction ks with
      | nil => intro _ lim n h0 h1; simp only [E.sizes, E.cnts]; omega
      | cons k ks ih2 =>
        intro hk lim n h0 h1
        have hkk := hk k (by simp) (lim - n) (by omega)
        have hpos := E.cnt_pos k
        simp only [E.sizes, E.cnts]
        by_cases hlt : n < lim
        · rw [if_pos hlt, hkk, ih2 (fun k' hk' => hk k' (by simp [hk'])) lim _ (by omega) (by omega)]
          omega
        · rw [if_neg hlt]
          omega
    simp only [E.size, E.cnt]
    by_cases h0 : lim ≤ 0
    · rw [if_pos h0]; omega
    · rw [if_neg h0, key ks (fun k hk => ih k hk) lim 1 (by omega) (by omega)]
      omega
theorem E.sizes_stop (ks : List E) (k : Nat) (lim nn : Int) (h : ks.length ≤ k ∨ lim ≤ nn) : E.sizes (ks.drop k) lim nn = nn := by
  rcases h with h | h
  · rw [List.drop_eq_nil_of_le h]; simp only [E.sizes]
  · cases hd : ks.drop k with
    | nil => simp only [E.sizes]
    | cons x xs => simp only [E.sizes]; rw [if_neg (by omega)]

theorem E.size_le (e : E) (lim : Int) (h : 0 ≤ lim) : 0 ≤ e.size lim ∧ e.size lim ≤ lim := by
  rw [E.size_eq e lim h]; omega

def pow2 : Nat → Int
  | 0 => 1
  | n + 1 => pow2 n * 2

theorem pow2_pos (n : Nat) : 0 < pow2 n := by
  induction n with
  | zero => decide
  | succ n ih => simp only [pow2]; omega
theorem pow2_le (n m : Nat) (h : n ≤ m) : pow2 n ≤ pow2 m := by
  induction m with
  | zero => simp at h; subst h; exact Int.le_refl _
  | succ m ih =>
    by_cases e : n = m + 1
    · subst e; exact Int.le_refl _
    · have := ih (by omega); have := pow2_pos m; simp only [pow2]; omega

/-- How many kids an operator has. -/
def arityL (op : Int) : Int := if 1 ≤ op ∧ op ≤ 3 then 0 else if op = 4 then 1 else if 5 ≤ op ∧ op ≤ 13 then 2 else if op = 14 then 3 else -1

theorem arityL_spec (op : Int) : (1 ≤ op ∧ op ≤ 3 ∧ arityL op = 0) ∨ (op = 4 ∧ arityL op = 1) ∨ (5 ≤ op ∧ op ≤ 13 ∧ arityL op = 2) ∨ (op = 14 ∧ arityL op = 3) ∨ ((op < 1 ∨ 14 < op) ∧ arityL op = -1) := by
  unfold arityL
  by_cases h1 : 1 ≤ op ∧ op ≤ 3
  · rw [if_pos h1]; omega
  · rw [if_neg h1]
    by_cases h2 : op = 4
    · rw [if_pos h2]; omega
    · rw [if_neg h2]
      by_cases h3 : 5 ≤ op ∧ op ≤ 13
      · rw [if_pos h3]; omega
      · rw [if_neg h3]
        by_cases h4 : op = 14
        · rw [if_pos h4]; omega
        · rw [if_neg h4]; omega

/-- The width of a kid. -/
def E.kw (e : E) (i : Nat) : Int := ((e.kids[i]?).map E.w).getD 0

/-- A node satisfies the row of its operator. -/
def E.Shape (e : E) : Prop :=
  1 ≤ e.w ∧ e.w ≤ 8 ∧ ((e.op = 1 ∧ e.kids.length = 0 ∧ 0 ≤ e.n ∧ e.n < pow2 e.w.toNat) ∨ ((e.op = 2 ∨ e.op = 3) ∧ e.kids.length = 0 ∧ 0 ≤ e.n ∧ e.n < 32) ∨
    (e.op = 4 ∧ e.kids.length = 1 ∧ e.n = 0 ∧ e.kw 0 = e.w) ∨ (5 ≤ e.op ∧ e.op ≤ 10 ∧ e.kids.length = 2 ∧ e.n = 0 ∧ e.kw 0 = e.w ∧ e.kw 1 = e.w) ∨
    (11 ≤ e.op ∧ e.op ≤ 13 ∧ e.kids.length = 2 ∧ e.n = 0 ∧ e.w = 1 ∧ e.kw 0 = e.kw 1) ∨ (e.op = 14 ∧ e.kids.length = 3 ∧ e.n = 0 ∧ e.kw 0 = 1 ∧ e.kw 1 = e.w ∧ e.kw 2 = e.w))

instance (e : E) : Decidable e.Shape := by unfold E.Shape; infer_instance

def E.shapeB (e : E) : Bool := decide e.Shape

theorem shape_t {e : E} (h : e.Shape) : Value.bool true = .bool e.shapeB := by unfold E.shapeB; rw [decide_eq_true h]
theorem shape_f {e : E} (h : ¬ e.Shape) : Value.bool false = .bool e.shapeB := by unfold E.shapeB; rw [decide_eq_false h]

theorem Shape_1 {e : E} (h : e.op = 1) : e.Shape ↔ (1 ≤ e.w ∧ e.w ≤ 8 ∧ e.kids.length = 0 ∧ 0 ≤ e.n ∧ e.n < pow2 e.w.toNat) := by
  unfold E.Shape
  constructor
  · rintro ⟨h1, h2, h3⟩
    rcases h3 with h3 | h3 | h3 | h3 | h3 | h3 <;> first | exact ⟨h1, h2, h3.2⟩ | (exfalso; omega)
  · rintro ⟨h1, h2, h3⟩; exact ⟨h1, h2, .inl ⟨h, h3⟩⟩
theorem Shape_2 {e : E} (h : e.op = 2 ∨ e.op = 3) : e.Shape ↔ (1 ≤ e.w ∧ e.w ≤ 8 ∧ e.kids.length = 0 ∧ 0 ≤ e.n ∧ e.n < 32) := by
  unfold E.Shape
  constructor
  · rintro ⟨h1, h2, h3⟩
    rcases h3 with h3 | h3 | h3 | h3 | h3 | h3 <;> first | exact ⟨h1, h2, h3.2⟩ | (exfalso; omega)
  · rintro ⟨h1, h2, h3⟩; exact ⟨h1, h2, .inr (.inl ⟨h, h3⟩)⟩
theorem Shape_4 {e : E} (h : e.op = 4) : e.Shape ↔ (1 ≤ e.w ∧ e.w ≤ 8 ∧ e.kids.length = 1 ∧ e.n = 0 ∧ e.kw 0 = e.w) := by
  unfold E.Shape
  constructor
  · rintro ⟨h1, h2, h3⟩
    rcases h3 with h3 | h3 | h3 | h3 | h3 | h3 <;> first | exact ⟨h1, h2, h3.2⟩ | (exfalso; omega)
  · rintro ⟨h1, h2, h3⟩; exact ⟨h1, h2, .inr (.inr (.inl ⟨h, h3⟩))⟩
theorem Shape_5 {e : E} (h : 5 ≤ e.op ∧ e.op ≤ 10) : e.Shape ↔ (1 ≤ e.w ∧ e.w ≤ 8 ∧ e.kids.length = 2 ∧ e.n = 0 ∧ e.kw 0 = e.w ∧ e.kw 1 = e.w) := by
  unfold E.Shape
  constructor
  · rintro ⟨h1, h2, h3⟩
    rcases h3 with h3 | h3 | h3 | h3 | h3 | h3 <;> first | exact ⟨h1, h2, h3.2.2⟩ | (exfalso; omega)
  · rintro ⟨h1, h2, h3⟩; exact ⟨h1, h2, .inr (.inr (.inr (.inl ⟨h.1, h.2, h3⟩)))⟩
theorem Shape_11 {e : E} (h : 11 ≤ e.op ∧ e.op ≤ 13) : e.Shape ↔ (e.kids.length = 2 ∧ e.n = 0 ∧ e.w = 1 ∧ e.kw 0 = e.kw 1) := by
  unfold E.Shape
  constructor
  · rintro ⟨h1, h2, h3⟩
    rcases h3 with h3 | h3 | h3 | h3 | h3 | h3 <;> first | exact h3.2.2 | (exfalso; omega)
  · intro h3; exact ⟨by omega, by omega, .inr (.inr (.inr (.inr (.inl ⟨h.1, h.2, h3⟩))))⟩
theorem Shape_14 {e : E} (h : e.op = 14) : e.Shape ↔ (1 ≤ e.w ∧ e.w ≤ 8 ∧ e.kids.length = 3 ∧ e.n = 0 ∧ e.kw 0 = 1 ∧ e.kw 1 = e.w ∧ e.kw 2 = e.w) := by
  unfold E.Shape
  constructor
  · rintro ⟨h1, h2, h3⟩
    rcases h3 with h3 | h3 | h3 | h3 | h3 | h3 <;> first | exact ⟨h1, h2, h3.2⟩ | (exfalso; omega)
  · rintro ⟨h1, h2, h3⟩; exact ⟨h1, h2, .inr (.inr (.inr (.inr (.inr ⟨h, h3⟩))))⟩
theorem Shape_ar {e : E} (h : e.Shape) : 1 ≤ e.w ∧ e.w ≤ 8 ∧ arityL e.op = e.kids.length ∧ 1 ≤ e.op ∧ e.op ≤ 14 := by
  have ha := arityL_spec e.op
  obtain ⟨h1, h2, h3⟩ := h
  refine ⟨h1, h2, ?_⟩
  rcases h3 with ⟨h4, h5, _⟩ | ⟨h4, h5, _⟩ | ⟨h4, h5, _⟩ | ⟨h4, h4', h5, _⟩ | ⟨h4, h4', h5, _⟩ | ⟨h4, h5, _⟩ <;> omega

theorem kid_cells {M : List Nat} {w : World} {e : E} {b o : Nat} (hkk : ∀ (i : Nat) (h : i < e.kids.length), ∃ cs', Cells w b (o + i * 4) cs' ∧ RdE M w e.kids[i] cs') (i : Nat) (hi : i < e.kids.length) :
    w.cell? ⟨b, o + i * 4 + 1, none⟩ = some (.int .i64 (e.kw i)) := by
  obtain ⟨cs', hc, hr⟩ := hkk i hi
  obtain ⟨A, n, c, rfl, _⟩ := hr.open_
  have := hc 1 _ rfl
  rw [this]
  simp [E.kw, hi]

mutual
/-- All nodes have their shapes; the depth is at most 'lim'. -/
def E.good : E → Int → Bool
  | ⟨op, w, n, ks⟩, lim => decide (1 ≤ lim) && E.shapeB ⟨op, w, n, ks⟩ && E.goods ks (lim - 1)
def E.goods : List E → Int → Bool
  | [], _ => true
  | k :: ks, lim => E.good k lim && E.goods ks lim
end

theorem E.good_def (e : E) (lim : Int) : e.good lim = (decide (1 ≤ lim) && e.shapeB && E.goods e.kids (lim - 1)) := by cases e; simp only [E.good]
theorem E.goods_iff (ks : List E) (lim : Int) : E.goods ks lim = true ↔ ∀ k ∈ ks, k.good lim = true := by
  induction ks with
  | nil => simp [E.goods]
  | cons k ks ih => simp [E.goods, ih]

/-- Well-formed: at most 600 nodes, depth at most 40, all shapes. -/
def E.wf (e : E) : Bool := decide (e.cnt ≤ 600) && e.good 40

/-- A cell of a program. -/
structure CellD where
  name : ByteArray
  w : Int
  init : Int
  thread : Int
  ghost : Bool
  module_ : Int

def RCell (cs : List Value) (c : CellD) : Prop := cs = [.string c.name, .int .i64 c.w, .int .i64 c.init, .int .i64 c.thread, .bool c.ghost, .int .i64 c.module_] ∧ i64 c.w ∧ i64 c.init ∧ i64 c.thread ∧ i64 c.module_

abbrev RdCs (M : List Nat) (w : World) (v : Value) (l : List CellD) : Prop := RdS M w 6 RCell v l

/-- The width of cell n, -1 if there is none. -/
def wAt (cells : List CellD) (n : Int) : Int := if 0 ≤ n then ((cells[n.toNat]?).map CellD.w).getD (-1) else -1

/-- What 'over' asks of one node. -/
def E.OverN (e : E) (cells : List CellD) (pair : Bool) : Prop :=
  (e.op = 3 → pair = true) ∧ ((e.op = 3 ∨ e.op = 2) → e.n < cells.length ∧ wAt cells e.n = e.w)
instance (e : E) (cells : List CellD) (pair : Bool) : Decidable (e.OverN cells pair) := by unfold E.OverN; infer_instance

mutual
def E.over (cells : List CellD) (pair : Bool) : E → Bool
  | ⟨op, w, n, ks⟩ => decide (E.OverN ⟨op, w, n, ks⟩ cells pair) && E.overs cells pair ks
def E.overs (cells : List CellD) (pair : Bool) : List E → Bool
  | [] => true
  | k :: ks => E.over cells pair k && E.overs cells pair ks
end
theorem E.over_def (cells : List CellD) (pair : Bool) (e : E) : e.over cells pair = (decide (e.OverN cells pair) && E.overs cells pair e.kids) := by cases e; simp only [E.over]
theorem E.overs_iff (cells : List CellD) (pair : Bool) (ks : List E) : E.overs cells pair ks = true ↔ ∀ k ∈ ks, k.over cells pair = true := by
  induction ks with
  | nil => simp [E.overs]
  | cons k ks ih => simp [E.overs, ih]

/-- Well-formed over cells. -/
def E.valid (cells : List CellD) (pair : Bool) (e : E) : Bool := e.wf && e.over cells pair
end Go.Fw
