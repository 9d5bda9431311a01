/-
  Plain: what union returns is the ordered union.
-/
import Derived.Test.YtinhchacppkmgaaDoorUn3
namespace Go.Proofs.YtinhchacppkmgaaDoor
open Go.Fw Go.RowKit Go.Sort

theorem compact_spec (d : Array Int) : ∀ m, (∀ i j, i ≤ j → j < m → d[i]! ≤ d[j]!) → (Lib.compactUpTo d m).Pairwise (· < ·) ∧ ∀ x, x ∈ Lib.compactUpTo d m ↔ ∃ j, j < m ∧ d[j]! = x := by
  intro m
  induction m with
  | zero => intro _; simp [Lib.compactUpTo]
  | succ m ih =>
    intro hmono
    obtain ⟨h1, h2⟩ := ih (fun i j hij hj => hmono i j hij (by omega))
    rw [Lib.compactUpTo_succ]
    by_cases hk : Lib.keeps d m = true
    · rw [if_pos hk]
      refine ⟨List.pairwise_append.2 ⟨h1, by simp, fun x hx y hy => ?_⟩, fun x => ?_⟩
      · simp at hy; subst hy
        obtain ⟨j, hj, rfl⟩ := (h2 x).1 hx
        have h3 := hmono j (m - 1) (by omega) (by omega)
        have h4 := hmono (m - 1) m (by omega) (by omega)
        have h5 : d[m]! ≠ d[m - 1]! := by
          simp only [Lib.keeps, decide_eq_true_eq] at hk
          rcases hk with h | h
          · omega
          · exact h
        omega
      · simp only [List.mem_append, h2, List.mem_singleton]
        constructor
        · rintro (⟨j, hj, rfl⟩ | rfl)
          · exact ⟨j, by omega, rfl⟩
          · exact ⟨m, by omega, rfl⟩
        · rintro ⟨j, hj, rfl⟩
          by_cases hjm : j = m
          · subst hjm; exact .inr rfl
          · exact .inl ⟨j, by omega, rfl⟩
    · rw [if_neg hk]
      have hk' : ¬ (m = 0 ∨ d[m]! ≠ d[m - 1]!) := by simpa [Lib.keeps] using hk
      have h5 : d[m]! = d[m - 1]! := Classical.byContradiction fun h => hk' (.inr h)
      have h6 : m ≠ 0 := fun h => hk' (.inl h)
      refine ⟨by simpa using h1, fun x => ?_⟩
      simp only [List.append_nil, h2]
      constructor
      · rintro ⟨j, hj, rfl⟩; exact ⟨j, by omega, rfl⟩
      · rintro ⟨j, hj, rfl⟩
        by_cases hjm : j = m
        · subst hjm; exact ⟨j - 1, by omega, h5.symm⟩
        · exact ⟨j, by omega, rfl⟩

theorem sorted_unique : ∀ (a b : List Int), a.Pairwise (· < ·) → b.Pairwise (· < ·) → (∀ x, x ∈ a ↔ x ∈ b) → a = b := by
  intro a
  induction a with
  | nil =>
    intro b _ _ h
    cases b with
    | nil => rfl
    | cons y ys => exact absurd ((h y).2 (by simp)) (by simp)
  | cons x xs ih =>
    intro b ha hb h
    cases b with
    | nil => exact absurd ((h x).1 (by simp)) (by simp)
    | cons y ys =>
      obtain ⟨ha1, ha2⟩ := List.pairwise_cons.1 ha
      obtain ⟨hb1, hb2⟩ := List.pairwise_cons.1 hb
      have hxy : x = y := by
        rcases List.mem_cons.1 ((h x).1 (by simp)) with h1 | h1
        · exact h1
        · rcases List.mem_cons.1 ((h y).2 (by simp)) with h2 | h2
          · exact h2.symm
          · have := hb1 x h1; have := ha1 y h2; omega
      subst hxy
      rw [ih ys ha2 hb2 (fun z => ?_)]
      constructor
      · intro hz
        rcases List.mem_cons.1 ((h z).1 (by simp [hz])) with h1 | h1
        · subst h1; have := ha1 z hz; omega
        · exact h1
      · intro hz
        rcases List.mem_cons.1 ((h z).2 (by simp [hz])) with h1 | h1
        · subst h1; have := hb1 z hz; omega
        · exact h1

theorem unionL_spec (a b : List Int) : (unionL a b).Pairwise (· < ·) ∧ ∀ x, x ∈ unionL a b ↔ x ∈ a ∨ x ∈ b := by
  have hs : (sortL (a ++ b)).Pairwise (fun x y => x ≤ y) := by
    have := List.pairwise_mergeSort (le := fun (x y : Int) => decide (x ≤ y)) (fun a b c => by simp; omega) (fun a b => by simp; omega) (a ++ b)
    simpa [sortL] using this
  have hm : ∀ x, x ∈ sortL (a ++ b) ↔ x ∈ a ∨ x ∈ b := fun x => by simp [sortL]
  generalize hz : sortL (a ++ b) = zs at hs hm
  have hu : unionL a b = Lib.compactUpTo zs.toArray zs.length := by unfold unionL Lib.compact; rw [hz]
  have hg : ∀ i, i < zs.length → zs.toArray[i]! = zs.getD i 0 := fun i hi => by simp [hi]
  obtain ⟨h1, h2⟩ := compact_spec zs.toArray zs.length (fun i j hij hj => by
    rw [hg i (by omega), hg j hj]
    by_cases he : i = j
    · subst he; exact Int.le_refl _
    · have := List.pairwise_iff_getElem.1 hs i j (by omega) hj (by omega)
      simpa [show i < zs.length by omega, hj] using this)
  rw [hu]
  refine ⟨h1, fun x => ?_⟩
  rw [h2, ← hm]
  constructor
  · rintro ⟨j, hj, rfl⟩; rw [hg j hj]; simp [hj]
  · intro hx
    obtain ⟨j, hj, rfl⟩ := List.getElem_of_mem hx
    exact ⟨j, hj, by rw [hg j hj]; simp [hj]⟩

theorem markedTo_sorted (bs : List Bool) (k : Nat) : (markedTo bs k).Pairwise (· < ·) := by
  induction k with
  | zero => simp [markedTo]
  | succ k ih =>
    rw [markedTo_succ]
    refine List.pairwise_append.2 ⟨ih, by split <;> simp, fun x hx y hy => ?_⟩
    obtain ⟨i, rfl, hi, _⟩ := (markedTo_mem _ _ _).1 hx
    split at hy
    · simp at hy; subst hy; omega
    · simp at hy

theorem union_eq {a b : List Int} (ha : ∀ x ∈ a, 0 ≤ x ∧ x < 32) (hb : ∀ x ∈ b, 0 ≤ x ∧ x < 32) : unionL a b = mergeL a b := by
  obtain ⟨h1, h2⟩ := unionL_spec a b
  refine sorted_unique _ _ h1 (markedTo_sorted _ _) (fun x => ?_)
  rw [h2, mem_mergeL ha hb]
end Go.Proofs.YtinhchacppkmgaaDoor
