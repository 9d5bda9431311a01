/-
  Plain: conjunction and disjunction as goal and hypothesis.
-/
import Derived.Test.YtinhchacppkmgaaDoorLa3
namespace Go.Fw
open Go.RowKit

def andE (a b : E) : E := ⟨5, 1, 0, [a, b]⟩
def orE (a b : E) : E := ⟨6, 1, 0, [a, b]⟩

theorem and_val (a b : E) (old now : List Int) (ha : a.val old now = 0 ∨ a.val old now = 1) (hb : b.val old now = 0 ∨ b.val old now = 1) : (andE a b).val old now = 1 ↔ a.val old now = 1 ∧ b.val old now = 1 := by
  have h : (andE a b).val old now = band (band (a.val old now) (b.val old now)) 1 := by rw [E.val_def]; rfl
  rw [h]
  rcases ha with ha | ha <;> rcases hb with hb | hb <;> rw [ha, hb] <;> decide
theorem or_val (a b : E) (old now : List Int) (ha : a.val old now = 0 ∨ a.val old now = 1) (hb : b.val old now = 0 ∨ b.val old now = 1) : (orE a b).val old now = 1 ↔ a.val old now = 1 ∨ b.val old now = 1 := by
  have h : (orE a b).val old now = band (bor (a.val old now) (b.val old now)) 1 := by rw [E.val_def]; rfl
  rw [h]
  rcases ha with ha | ha <;> rcases hb with hb | hb <;> rw [ha, hb] <;> decide

theorem and_law {cells : List CellD} {a b c : E} (h1 : (mkC c a).done cells) (h2 : (mkC c b).done cells) (h3 : (mkC c (andE a b)).done cells) : (mkC c (andE a b)).yes cells ↔ (mkC c a).yes cells ∧ (mkC c b).yes cells := by
  have va := (formed_parts h1.1).2.1
  have vb := (formed_parts h2.1).2.1
  have vn := (formed_parts h3.1).2.1
  have wa := (formed_parts h1.1).2.2.2
  have wb := (formed_parts h2.1).2.2.2
  have wn := (formed_parts h3.1).2.2.2
  rw [yes_iff h1, yes_iff h2, yes_iff h3]
  have key : ∀ old now : List Int, ((mkC c (andE a b)).fals (old, now) = false ↔ (mkC c a).fals (old, now) = false ∧ (mkC c b).fals (old, now) = false) := by
    intro old now
    have ba := evl_bit va wa old now
    have bb := evl_bit vb wb old now
    have bn := evl_bit vn wn old now
    have ea := evl_wf va old now
    have eb := evl_wf vb old now
    have en := evl_wf vn old now
    have hv := and_val a b old now (by rw [← show a.evl old now = a.val old now from ea]; exact ba) (by rw [← show b.evl old now = b.val old now from eb]; exact bb)
    simp only [mkC] at *
    rw [← ea, ← eb, ← en] at hv
    simp only [CondD.fals, Bool.and_eq_false_iff, decide_eq_false_iff_not]
    omega
  constructor
  · intro h; exact ⟨fun o n => ((key o n).1 (h o n)).1, fun o n => ((key o n).1 (h o n)).2⟩
  · rintro ⟨p, q⟩ o n; exact (key o n).2 ⟨p o n, q o n⟩

theorem or_law {cells : List CellD} {a b c : E} (h1 : (mkC a c).done cells) (h2 : (mkC b c).done cells) (h3 : (mkC (orE a b) c).done cells) : (mkC (orE a b) c).yes cells ↔ (mkC a c).yes cells ∧ (mkC b c).yes cells := by
  have va := (formed_parts h1.1).1
  have vb := (formed_parts h2.1).1
  have vn := (formed_parts h3.1).1
  have wa := (formed_parts h1.1).2.2.1
  have wb := (formed_parts h2.1).2.2.1
  have wn := (formed_parts h3.1).2.2.1
  rw [yes_iff h1, yes_iff h2, yes_iff h3]
  have key : ∀ old now : List Int, ((mkC (orE a b) c).fals (old, now) = false ↔ (mkC a c).fals (old, now) = false ∧ (mkC b c).fals (old, now) = false) := by
    intro old now
    have ba := evl_bit va wa old now
    have bb := evl_bit vb wb old now
    have bn := evl_bit vn wn old now
    have ea := evl_wf va old now
    have eb := evl_wf vb old now
    have en := evl_wf vn old now
    have hv := or_val a b old now (by rw [← show a.evl old now = a.val old now from ea]; exact ba) (by rw [← show b.evl old now = b.val old now from eb]; exact bb)
    simp only [mkC] at *
    rw [← ea, ← eb, ← en] at hv
    simp only [CondD.fals, Bool.and_eq_false_iff, decide_eq_false_iff_not]
    omega
  constructor
  · intro h; exact ⟨fun o n => ((key o n).1 (h o n)).1, fun o n => ((key o n).1 (h o n)).2⟩
  · rintro ⟨p, q⟩ o n; exact (key o n).2 ⟨p o n, q o n⟩
end Go.Fw
