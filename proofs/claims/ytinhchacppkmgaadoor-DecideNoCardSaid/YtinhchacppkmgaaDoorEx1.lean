/-
  Plain laws on expressions: which cells occur, supports, widths.
-/
import Derived.Test.YtinhchacppkmgaaDoorR20
namespace Go.Fw
open Go.RowKit

mutual
/-- The number i occurs at a node with the operator op. -/
def E.occ (op i : Int) : E → Bool
  | ⟨o, _, n, ks⟩ => decide (o = op ∧ n = i) || E.occs op i ks
def E.occs (op i : Int) : List E → Bool
  | [] => false
  | k :: ks => E.occ op i k || E.occs op i ks
end
theorem E.occ_def (op i : Int) (e : E) : e.occ op i = (decide (e.op = op ∧ e.n = i) || E.occs op i e.kids) := by cases e; simp only [E.occ]
theorem E.occs_iff (op i : Int) (ks : List E) : E.occs op i ks = true ↔ ∃ k ∈ ks, k.occ op i = true := by
  induction ks with
  | nil => simp [E.occs]
  | cons k ks ih => simp [E.occs, ih]

theorem good_shape {e : E} {lim : Int} (h : e.good lim = true) : e.Shape ∧ ∀ k ∈ e.kids, k.good (lim - 1) = true := by
  rw [E.good_def] at h
  simp only [Bool.and_eq_true] at h
  exact ⟨of_decide_eq_true h.1.2, (E.goods_iff _ _).1 h.2⟩

theorem getD_set' (bs : List Bool) (j i : Nat) (hj : j < bs.length) : (bs.set j true).getD i false = (bs.getD i false || decide (i = j)) := by
  simp only [List.getD_eq_getElem?_getD, List.getElem?_set]
  by_cases h : j = i
  · subst h; simp [hj]
  · have h' : ¬ i = j := fun e => h e.symm
    simp [h, h']

theorem mark_get (op : Int) (hop : op = 2 ∨ op = 3) : ∀ (e : E) (lim : Int), e.good lim = true → ∀ (bs : List Bool), bs.length = 32 → ∀ i : Nat, i < 32 → (e.mark op bs).getD i false = (bs.getD i false || e.occ op i) := by
  intro e
  induction e using E.induct with
  | _ e ih =>
    intro lim hg bs hb i hi
    obtain ⟨hsh, hkg⟩ := good_shape hg
    have key : ∀ (ks : List E), (∀ k ∈ ks, k ∈ e.kids) → ∀ bs : List Bool, bs.length = 32 → (E.markAll op ks bs).getD i false = (bs.getD i false || E.occs op i ks) := by
      intro ks
      induction ks with
      | nil => intro _ bs _; simp [E.markAll, E.occs]
      | cons k ks ih2 =>
        intro h bs hb
        simp only [E.markAll, E.occs]
        rw [ih2 (fun k' hk' => h k' (by simp [hk'])) _ (by rw [E.mark_len]; exact hb), ih k (h k (by simp)) (lim - 1) (hkg k (h k (by simp))) bs hb i hi, Bool.or_assoc]
    rw [E.mark_def, E.occ_def]
    by_cases ho : e.op = op
    · have hn := (Shape_2 (by omega)).1 hsh
      rw [if_pos ho, key e.kids (fun k hk => hk) _ (by simp [hb]), getD_set' _ _ _ (by omega), Bool.or_assoc]
      congr 2
      rw [decide_eq_decide]
      omega
    · rw [if_neg ho, key e.kids (fun k hk => hk) _ hb]
      simp [ho]

theorem wf_good {e : E} (h : e.wf = true) : e.good 40 = true := by
  unfold E.wf at h; simp only [Bool.and_eq_true] at h; exact h.2

theorem mem_sup {e : E} (h : e.wf = true) {op : Int} (hop : op = 2 ∨ op = 3) (x : Int) : x ∈ e.sup op ↔ 0 ≤ x ∧ x < 32 ∧ e.occ op x = true := by
  unfold E.sup
  rw [if_pos h]
  unfold markedL
  rw [markedTo_mem, E.mark_len]
  constructor
  · rintro ⟨i, rfl, hi, hm⟩
    simp at hi
    rw [mark_get op hop e 40 (wf_good h) _ (by simp) i hi] at hm
    refine ⟨by omega, by omega, ?_⟩
    have h0 : (List.replicate 32 false).getD i false = false := by
      simp only [List.getD_eq_getElem?_getD, List.getElem?_replicate]
      split <;> rfl
    rw [h0] at hm
    simpa using hm
  · rintro ⟨h0, h1, hm⟩
    obtain ⟨i, rfl⟩ := Int.eq_ofNat_of_zero_le h0
    refine ⟨i, rfl, by simp; omega, ?_⟩
    rw [mark_get op hop e 40 (wf_good h) _ (by simp) i (by omega), hm]
    simp

/-- Of a valid expression: a cell that occurs is a cell, and its width is between 1 and 8. -/
theorem valid_occ {cells : List CellD} {pair : Bool} {op : Int} (hop : op = 2 ∨ op = 3) : ∀ (e : E) (lim : Int), e.good lim = true → e.over cells pair = true → ∀ x : Int, e.occ op x = true →
    0 ≤ x ∧ x < 32 ∧ x < cells.length ∧ 1 ≤ wAt cells x ∧ wAt cells x ≤ 8 := by
  intro e
  induction e using E.induct with
  | _ e ih =>
    intro lim hg ho x hx
    obtain ⟨hsh, hkg⟩ := good_shape hg
    rw [E.over_def] at ho
    simp only [Bool.and_eq_true, decide_eq_true_eq] at ho
    rw [E.occ_def] at hx
    simp only [Bool.or_eq_true, decide_eq_true_eq] at hx
    rcases hx with ⟨h1, h2⟩ | hx
    · have hn := (Shape_2 (by omega)).1 hsh
      have ho1 := ho.1.2 (by omega)
      subst h2
      omega
    · obtain ⟨k, hk, hkx⟩ := (E.occs_iff _ _ _).1 hx
      exact ih k hk (lim - 1) (hkg k hk) ((E.overs_iff _ _ _).1 ho.2 k hk) x hkx

theorem setAll_get : ∀ (l : List Int) (bs : List Bool), (∀ x ∈ l, 0 ≤ x ∧ x < bs.length) → ∀ i : Nat, (setAll l bs).getD i false = (bs.getD i false || decide ((i : Int) ∈ l)) := by
  intro l
  induction l with
  | nil => intro bs _ i; simp [setAll]
  | cons x xs ih =>
    intro bs h i
    have hx := h x (by simp)
    show (setAll xs (bs.set x.toNat true)).getD i false = _
    rw [ih _ (fun y hy => by have := h y (by simp [hy]); simpa using this), getD_set' _ _ _ (by omega), Bool.or_assoc]
    congr 1
    rw [← Bool.decide_or, decide_eq_decide]
    simp only [List.mem_cons]
    constructor
    · rintro (h | h)
      · left; omega
      · exact .inr h
    · rintro (h | h)
      · left; omega
      · exact .inr h

theorem mem_mergeL {a b : List Int} (ha : ∀ x ∈ a, 0 ≤ x ∧ x < 32) (hb : ∀ x ∈ b, 0 ≤ x ∧ x < 32) (x : Int) : x ∈ mergeL a b ↔ x ∈ a ∨ x ∈ b := by
  unfold mergeL markedL
  rw [markedTo_mem]
  have hr : ∀ i : Nat, (setAll b (setAll a (List.replicate 32 false))).getD i false = (decide ((i : Int) ∈ a) || decide ((i : Int) ∈ b)) := fun i => by
    rw [setAll_get b _ (fun y hy => by rw [setAll_len]; simpa using hb y hy), setAll_get a _ (fun y hy => by simpa using ha y hy)]
    congr 1
    have : (List.replicate 32 false).getD i false = false := by
      simp only [List.getD_eq_getElem?_getD, List.getElem?_replicate]
      split <;> rfl
    rw [this, Bool.false_or]
  constructor
  · rintro ⟨i, rfl, _, hm⟩
    rw [hr] at hm
    simpa using hm
  · intro h
    have h0 : 0 ≤ x ∧ x < 32 := h.elim (ha x) (hb x)
    obtain ⟨i, rfl⟩ := Int.eq_ofNat_of_zero_le h0.1
    exact ⟨i, rfl, by rw [setAll_len, setAll_len]; simp; omega, by rw [hr]; simpa using h⟩

/-- A condition is formed over cells. -/
def CondD.formed (cells : List CellD) (c : CondD) : Bool := c.hyp.valid cells true && (c.goal.valid cells true && (decide (c.hyp.w = 1) && decide (c.goal.w = 1)))

theorem formed_parts {cells : List CellD} {c : CondD} (h : c.formed cells = true) : c.hyp.valid cells true = true ∧ c.goal.valid cells true = true ∧ c.hyp.w = 1 ∧ c.goal.w = 1 := by
  unfold CondD.formed at h; simpa using h

theorem valid_parts {cells : List CellD} {pair : Bool} {e : E} (h : e.valid cells pair = true) : e.wf = true ∧ e.good 40 = true ∧ e.over cells pair = true := by
  unfold E.valid at h; simp only [Bool.and_eq_true] at h; exact ⟨h.1, wf_good h.1, h.2⟩

theorem mem_csup {cells : List CellD} {c : CondD} (h : c.formed cells = true) {op : Int} (hop : op = 2 ∨ op = 3) (x : Int) : x ∈ c.sup op ↔ c.hyp.occ op x = true ∨ c.goal.occ op x = true := by
  obtain ⟨h1, h2, _, _⟩ := formed_parts h
  obtain ⟨w1, g1, o1⟩ := valid_parts h1
  obtain ⟨w2, g2, o2⟩ := valid_parts h2
  unfold CondD.sup
  rw [mem_mergeL (fun y hy => by have := (mem_sup w1 hop y).1 hy; omega) (fun y hy => by have := (mem_sup w2 hop y).1 hy; omega), mem_sup w1 hop, mem_sup w2 hop]
  constructor
  · rintro (h | h)
    · exact .inl h.2.2
    · exact .inr h.2.2
  · rintro (h | h)
    · have := valid_occ hop _ _ g1 o1 x h; exact .inl ⟨by omega, by omega, h⟩
    · have := valid_occ hop _ _ g2 o2 x h; exact .inr ⟨by omega, by omega, h⟩

theorem csup_cell {cells : List CellD} {c : CondD} (h : c.formed cells = true) {op : Int} (hop : op = 2 ∨ op = 3) {x : Int} (hx : x ∈ c.sup op) : 0 ≤ x ∧ x < 32 ∧ x < cells.length ∧ 1 ≤ wAt cells x ∧ wAt cells x ≤ 8 := by
  obtain ⟨h1, h2, _, _⟩ := formed_parts h
  obtain ⟨w1, g1, o1⟩ := valid_parts h1
  obtain ⟨w2, g2, o2⟩ := valid_parts h2
  rcases (mem_csup h hop x).1 hx with hh | hh
  · exact valid_occ hop _ _ g1 o1 x hh
  · exact valid_occ hop _ _ g2 o2 x hh

/-- The bits of a list of cells. -/
def bitsL (cells : List CellD) : List Int → Int
  | [] => 0
  | x :: xs => wAt cells x + bitsL cells xs

theorem bitsL_bound (cells : List CellD) (l : List Int) (h : ∀ x ∈ l, 1 ≤ wAt cells x ∧ wAt cells x ≤ 8) : 0 ≤ bitsL cells l ∧ bitsL cells l ≤ 8 * l.length := by
  induction l with
  | nil => simp [bitsL]
  | cons x xs ih =>
    have := ih (fun y hy => h y (by simp [hy]))
    have := h x (by simp)
    simp only [bitsL, List.length_cons]
    omega

theorem bitsL_append (cells : List CellD) (a b : List Int) : bitsL cells (a ++ b) = bitsL cells a + bitsL cells b := by
  induction a with
  | nil => simp [bitsL]
  | cons x xs ih => simp only [List.cons_append, bitsL, ih]; omega

theorem csup_len (c : CondD) (op : Int) : (c.sup op).length ≤ 32 := by
  unfold CondD.sup mergeL markedL
  refine Nat.le_trans (markedTo_len _ _) ?_
  rw [setAll_len, setAll_len]; simp
/-- What the laws' 'Small' and 'Quick' ask. -/
def CondD.small (cells : List CellD) (c : CondD) : Bool := decide (cells.length ≤ 40) && (decide (c.hyp.cnt ≤ 60) && decide (c.goal.cnt ≤ 60))

end Go.Fw
