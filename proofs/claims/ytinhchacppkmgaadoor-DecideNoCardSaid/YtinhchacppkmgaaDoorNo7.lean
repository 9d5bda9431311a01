/-
  Plain: a condition from which the first pair is excluded.
-/
import Derived.Test.YtinhchacppkmgaaDoorNo3
import Derived.Test.YtinhchacppkmgaaDoorNo6
import Derived.Test.YtinhchacppkmgaaDoorFwMixS
namespace Go.Fw
open Go.RowKit

theorem occ_and (a b : E) {op x : Int} (ho : op = 2 ∨ op = 3) : (andE a b).occ op x = (a.occ op x || b.occ op x) := by
  unfold andE; simp only [E.occ, E.occs, Bool.or_false]
  have h5 : decide ((5 : Int) = op ∧ (0 : Int) = x) = false := decide_eq_false (by omega)
  rw [h5, Bool.false_or]
theorem occ_foldl {op x : Int} (ho : op = 2 ∨ op = 3) : ∀ (es : List E) (acc : E), (es.foldl andE acc).occ op x = true ↔ acc.occ op x = true ∨ ∃ e ∈ es, e.occ op x = true := by
  intro es
  induction es with
  | nil => intro acc; simp
  | cons e es ih =>
    intro acc
    rw [List.foldl_cons, ih, occ_and _ _ ho]
    simp [or_assoc]
theorem occ_andAll {op x : Int} (ho : op = 2 ∨ op = 3) (l : List E) : (andAll l).occ op x = true ↔ ∃ e ∈ l, e.occ op x = true := by
  cases l with
  | nil => simp [andAll, E.occ, E.occs]; omega
  | cons e es => rw [show andAll (e :: es) = es.foldl andE e from rfl, occ_foldl ho]; simp
theorem occ_eqE {o y wd v op x : Int} (ho : op = 2 ∨ op = 3) : (eqE o y wd v).occ op x = true ↔ o = op ∧ y = x := by
  simp [eqE, E.occ, E.occs]; omega

theorem occ_other {cells : List CellD} {c : CondD} {p : List Int × List Int} {op x : Int} (ho : op = 2 ∨ op = 3) : (otherE cells c p).occ op x = true ↔ x ∈ c.sup op := by
  have h1 : (otherE cells c p).occ op x = (andAll (eqsE cells 3 (c.sup 3) p.1 ++ eqsE cells 2 (c.sup 2) p.2)).occ op x := by
    unfold otherE; simp only [E.occ, E.occs, Bool.or_false]
    have h5 : decide ((4 : Int) = op ∧ (0 : Int) = x) = false := decide_eq_false (by omega)
    rw [h5, Bool.false_or]
  rw [h1, occ_andAll ho]
  constructor
  · rintro ⟨e, he, hx⟩
    rcases List.mem_append.1 he with he | he
    · obtain ⟨y, hy, rfl⟩ := List.mem_map.1 he
      obtain ⟨rfl, rfl⟩ := (occ_eqE ho).1 hx; exact hy
    · obtain ⟨y, hy, rfl⟩ := List.mem_map.1 he
      obtain ⟨rfl, rfl⟩ := (occ_eqE ho).1 hx; exact hy
  · intro hx
    rcases ho with rfl | rfl
    · exact ⟨_, List.mem_append_right _ (List.mem_map.2 ⟨x, hx, rfl⟩), (occ_eqE (.inl rfl)).2 ⟨rfl, rfl⟩⟩
    · exact ⟨_, List.mem_append_left _ (List.mem_map.2 ⟨x, hx, rfl⟩), (occ_eqE (.inr rfl)).2 ⟨rfl, rfl⟩⟩

theorem foldl_and_val (old now : List Int) : ∀ (es : List E) (acc : E), acc.val old now = 1 → (∀ e ∈ es, e.val old now = 1) → (es.foldl andE acc).val old now = 1 := by
  intro es
  induction es with
  | nil => intro acc h _; exact h
  | cons e es ih =>
    intro acc h1 h2
    rw [List.foldl_cons]
    exact ih _ ((and_val acc e old now (.inr h1) (.inr (h2 e (by simp)))).2 ⟨h1, h2 e (by simp)⟩) (fun x hx => h2 x (by simp [hx]))
theorem andAll_val (old now : List Int) (l : List E) (h : ∀ e ∈ l, e.val old now = 1) : (andAll l).val old now = 1 := by
  cases l with
  | nil => rfl
  | cons e es => exact foldl_and_val old now es e (h e (by simp)) (fun x hx => h x (by simp [hx]))

theorem eqE_val {op x wd v : Int} {old now : List Int} (ho : op = 2 ∨ op = 3) (hw : 1 ≤ wd ∧ wd ≤ 8) (hv : 0 ≤ v ∧ v < pow2 wd.toNat) (h2 : op = 2 → now.getD x.toNat 0 = v) (h3 : op = 3 → old.getD x.toNat 0 = v) : (eqE op x wd v).val old now = 1 := by
  have hk : (⟨op, wd, x, []⟩ : E).val old now = v := by
    rw [E.val_def]
    rcases ho with rfl | rfl
    · simp only [show (2 : Int) ≠ 1 by decide, if_false, if_true]
      rw [band_mask _ _ (by omega), h2 rfl, Int.emod_eq_of_lt hv.1 hv.2]
    · simp only [show (3 : Int) ≠ 1 by decide, show (3 : Int) ≠ 2 by decide, if_false, if_true]
      rw [band_mask _ _ (by omega), h3 rfl, Int.emod_eq_of_lt hv.1 hv.2]
  have hc : (⟨1, wd, v, []⟩ : E).val old now = v := by rw [E.val_def]; rfl
  rw [E.val_def]
  have e1 : (eqE op x wd v).kids.map (E.val old now) = [v, v] := by simp only [eqE, List.map_cons, List.map_nil, hk, hc]
  rw [e1]
  have : applyV 11 v v 0 = 1 := by unfold applyV; simp
  show band (applyV 11 v v 0) (pow2 1 - 1) = 1
  rw [this]; decide

/-- The excluded pair makes 'other' 0. -/
theorem other_zero {cells : List CellD} {c : CondD} (hf : c.formed cells = true) (n : Int) : (otherE cells c (pairAt cells (c.sup 3) (c.sup 2) n)).val (pairAt cells (c.sup 3) (c.sup 2) n).1 (pairAt cells (c.sup 3) (c.sup 2) n).2 = 0 := by
  obtain ⟨r3, r2⟩ := pair_range hf n
  have h1 : (andAll (eqsE cells 3 (c.sup 3) (pairAt cells (c.sup 3) (c.sup 2) n).1 ++ eqsE cells 2 (c.sup 2) (pairAt cells (c.sup 3) (c.sup 2) n).2)).val (pairAt cells (c.sup 3) (c.sup 2) n).1 (pairAt cells (c.sup 3) (c.sup 2) n).2 = 1 := by
    apply andAll_val
    intro e he
    rcases List.mem_append.1 he with he | he
    · obtain ⟨x, hx, rfl⟩ := List.mem_map.1 he
      have hc := csup_cell hf (.inr rfl) hx
      exact eqE_val (.inr rfl) (by omega) (r3 x hx) (fun h => by omega) (fun _ => rfl)
    · obtain ⟨x, hx, rfl⟩ := List.mem_map.1 he
      have hc := csup_cell hf (.inl rfl) hx
      exact eqE_val (.inl rfl) (by omega) (r2 x hx) (fun _ => rfl) (fun h => by omega)
  rw [E.val_def]
  simp only [otherE, List.map_cons, List.map_nil, h1]
  rfl

theorem other_wf {cells : List CellD} {c : CondD} (hf : c.formed cells = true) (hb : c.bits cells ≤ 14) (n : Int) : (otherE cells c (pairAt cells (c.sup 3) (c.sup 2) n)).wf = true := by
  have hall := eqs_all hf n
  have hsl := sup_len_le hf hb
  have hll : (eqsE cells 3 (c.sup 3) (pairAt cells (c.sup 3) (c.sup 2) n).1 ++ eqsE cells 2 (c.sup 2) (pairAt cells (c.sup 3) (c.sup 2) n).2).length ≤ 14 := by rw [List.length_append, eqs_len, eqs_len]; omega
  have hcn : E.cnts (eqsE cells 3 (c.sup 3) (pairAt cells (c.sup 3) (c.sup 2) n).1 ++ eqsE cells 2 (c.sup 2) (pairAt cells (c.sup 3) (c.sup 2) n).2) ≤ 42 := by rw [cntsAppend, eqs_cnts, eqs_cnts]; omega
  have key : ∀ l : List E, l.length ≤ 14 → E.cnts l ≤ 42 → (∀ e ∈ l, e.good 2 = true ∧ e.w = 1) → (andAll l).good 39 = true ∧ (andAll l).w = 1 ∧ (andAll l).cnt ≤ 599 := by
    intro l h1 h2 h3
    cases l with
    | nil => exact ⟨by decide, rfl, by decide⟩
    | cons e es =>
      simp only [List.length_cons, E.cnts] at h1 h2
      obtain ⟨g, w⟩ := foldl_and_good es e 2 (by omega) (h3 e (by simp)).1 (h3 e (by simp)).2 (fun x hx => h3 x (by simp [hx]))
      have hc := foldl_and_cnt es e
      exact ⟨good_mono _ _ 39 (by omega) g, w, by show (es.foldl andE e).cnt ≤ 599; omega⟩
  obtain ⟨g1, w1, c1⟩ := key _ hll hcn (fun e he => ⟨(hall e he).1, (hall e he).2.1⟩)
  have hg : (otherE cells c (pairAt cells (c.sup 3) (c.sup 2) n)).good 40 = true := by
    rw [E.good_def]
    simp only [Bool.and_eq_true, decide_eq_true_eq]
    refine ⟨⟨by omega, ?_⟩, (E.goods_iff _ _).2 fun k hk => ?_⟩
    · unfold E.shapeB; exact decide_eq_true ((Shape_4 (e := otherE cells c _) rfl).2 ⟨by simp [otherE], by simp [otherE], rfl, rfl, by simp [E.kw, otherE, w1]⟩)
    · simp [otherE] at hk; subst hk; exact g1
  unfold E.wf
  rw [hg, decide_eq_true (by rw [E.cnt_def]; simp only [otherE, E.cnts]; omega)]; rfl

/-- The condition without its first pair. -/
def CondD.next (cells : List CellD) (c : CondD) (n : Int) : CondD := { c with hyp := Go.Proofs.YtinhchacppkmgaaDoor.andF [c.hyp, otherE cells c (pairAt cells (c.sup 3) (c.sup 2) n)] }

theorem next_hyp {cells : List CellD} {c : CondD} {n : Int} (h : (c.next cells n).formed cells = true) : (c.next cells n).hyp = if c.hyp.op = 1 then otherE cells c (pairAt cells (c.sup 3) (c.sup 2) n) else andE c.hyp (otherE cells c (pairAt cells (c.sup 3) (c.sup 2) n)) := by
  have hw := (valid_parts (formed_parts h).1).1
  unfold CondD.next Go.Proofs.YtinhchacppkmgaaDoor.andF at hw ⊢
  simp only at hw ⊢
  split at hw
  · rename_i hw'
    rw [if_pos hw']
    by_cases ho : c.hyp.op = 1
    · rw [if_pos ho]; simp [ho, otherE, andAll]
    · rw [if_neg ho]; simp [ho, otherE, andAll]
  · exact absurd hw (by decide)

theorem next_sup {cells : List CellD} {c : CondD} {n : Int} (hf : c.formed cells = true) (h : (c.next cells n).formed cells = true) {op : Int} (ho : op = 2 ∨ op = 3) : (c.next cells n).sup op = c.sup op := by
  refine Go.Proofs.YtinhchacppkmgaaDoor.sorted_unique _ _ (csup_sorted _ op) (csup_sorted c op) fun x => ?_
  rw [mem_csup h ho, next_hyp h]
  have hg : (c.next cells n).goal = c.goal := rfl
  rw [hg]
  have hm := mem_csup hf ho x
  split
  · rw [occ_other ho]
    constructor
    · rintro (h | h)
      · exact h
      · exact hm.2 (.inr h)
    · exact .inl
  · rw [occ_and _ _ ho, Bool.or_eq_true, occ_other ho]
    constructor
    · rintro ((h | h) | h)
      · exact hm.2 (.inl h)
      · exact h
      · exact hm.2 (.inr h)
    · intro h; exact .inl (.inr h)

theorem next_hit {cells : List CellD} {c : CondD} {n : Nat} (hf : c.formed cells = true) (hb : c.bits cells ≤ 14) (hop : c.hyp.op = 1 → c.hyp.n = 1) (h : (c.next cells n).formed cells = true) (m : Nat) (hm : (c.next cells n).hit cells m = true) : c.hit cells m = true ∧ m ≠ n := by
  obtain ⟨v1, v2, w1, w2⟩ := formed_parts hf
  obtain ⟨u1, u2, -, -⟩ := formed_parts h
  unfold CondD.hit at hm ⊢
  rw [next_sup hf h (.inr rfl), next_sup hf h (.inl rfl)] at hm
  obtain ⟨h1, h2⟩ := (fals_iff _ _).1 hm
  rw [evl_wf u1, next_hyp h] at h1
  have hwo := other_wf hf hb (n : Int)
  have bo : ∀ o q, (otherE cells c (pairAt cells (c.sup 3) (c.sup 2) n)).val o q = 0 ∨ (otherE cells c (pairAt cells (c.sup 3) (c.sup 2) n)).val o q = 1 := fun o q => val_bit (wf_good hwo) rfl o q
  have bh : ∀ o q, c.hyp.val o q = 0 ∨ c.hyp.val o q = 1 := fun o q => val_bit (valid_parts v1).2.1 w1 o q
  have key : c.hyp.val (pairAt cells (c.sup 3) (c.sup 2) m).1 (pairAt cells (c.sup 3) (c.sup 2) m).2 = 1 ∧ (otherE cells c (pairAt cells (c.sup 3) (c.sup 2) n)).val (pairAt cells (c.sup 3) (c.sup 2) m).1 (pairAt cells (c.sup 3) (c.sup 2) m).2 = 1 := by
    split at h1
    · rename_i ho
      exact ⟨by rw [E.val_def, if_pos ho]; exact hop ho, h1⟩
    · exact (and_val _ _ _ _ (bh _ _) (bo _ _)).1 h1
  refine ⟨(fals_iff _ _).2 ⟨by rw [evl_wf v1]; exact key.1, h2⟩, fun hmn => ?_⟩
  subst hmn
  rw [other_zero hf] at key
  exact absurd key.2 (by decide)

theorem next_bits {cells : List CellD} {c : CondD} {n : Int} (hf : c.formed cells = true) (h : (c.next cells n).formed cells = true) : (c.next cells n).bits cells = c.bits cells := by
  unfold CondD.bits; rw [next_sup hf h (.inr rfl), next_sup hf h (.inl rfl)]

/-- The hypothesis of a condition with a hit is no constant 0. -/
theorem hit_const {cells : List CellD} {c : CondD} {n : Nat} (hf : c.formed cells = true) (h : c.hit cells n = true) : c.hyp.op = 1 → c.hyp.n = 1 := by
  intro ho
  have h1 := ((fals_iff _ _).1 h).1
  rw [evl_wf (formed_parts hf).1, E.val_def, if_pos ho] at h1
  exact h1
end Go.Fw
