/-
  The framework: a region that draws its order, by an invariant on what has been done.
-/
import Derived.Test.YtinhchacppkmgaaDoorFwRange
namespace Go.Fw
open Go.RowKit

section
variable {P : Program} {r : Option Nat} {N : Nat} {l : List Oper} {D : List Deferred}

theorem any_inv {Q : Exit → Act → World → Prop} (hac : ((List.range l.length).all fun i => (predsAt l i).all fun j => decide (j < i)) = true) (I : (Nat → Bool) → Env → World → Prop)
    (step : ∀ (f : Nat → Bool) (e : Env) (w : World) (i : Nat) (o : Oper), I f e w → l[i]? = some o → f i = false → (∀ j ∈ predsAt l i, f j = true) →
      WL P r N l.toArray [o] (fun D' e' w' => D' = D ∧ I (fun j => f j || j == i) e' w') D e w)
    (fin : ∀ (f : Nat → Bool) (a : Act) (w : World), a.tmps.size = N → a.defers = D → I f (envOf a) w → (∀ i, i < l.length → f i = true) → Q .normal a w) :
    ∀ (fuel : Nat) (f : Nat → Bool) (listed : Array Bool) (a : Act) (w : World), listed.size = l.length → (∀ i, i < l.length → (Lst listed i ↔ f i = true)) → ((List.range l.length).filter fun i => !f i).length ≤ fuel →
      a.tmps.size = N → a.defers = D → I f (envOf a) w → wpAnyIn (fc r) 0 P .any l.toArray Q fuel listed a w := by
  intro fuel
  have all_of_empty : ∀ (f : Nat → Bool) (listed : Array Bool), listed.size = l.length → (∀ i, i < l.length → (Lst listed i ↔ f i = true)) → Region.ready .any l.toArray listed = [] → ∀ i, i < l.length → f i = true := by
    intro f listed hsz hf hr i hi
    cases hfi : f i with
    | true => rfl
    | false =>
      obtain ⟨k, hk, hnk, hbelow⟩ := least_unlisted (listed := listed) (n := l.length) ⟨i, hi, fun hh => by rw [(hf i hi).1 hh] at hfi; cases hfi⟩
      have : k ∈ Region.ready .any l.toArray listed := (ready_iff hsz).2 ⟨hk, hnk, fun j hj => hbelow j (predsAt_lt hac hj)⟩
      rw [hr] at this; cases this
  induction fuel with
  | zero =>
    intro f listed a w hsz hf hfu hs hd hI
    have hall : ∀ i, i < l.length → f i = true := by
      intro i hi
      cases hfi : f i with
      | true => rfl
      | false =>
        have : i ∈ (List.range l.length).filter fun i => !f i := List.mem_filter.2 ⟨List.mem_range.2 hi, by simp [hfi]⟩
        have hnil : (List.range l.length).filter (fun i => !f i) = [] := List.length_eq_zero_iff.1 (by omega)
        rw [hnil] at this; cases this
    refine ⟨?_, fin f a w hs hd hI hall⟩
    apply List.eq_nil_iff_forall_not_mem.2
    intro i hi
    obtain ⟨h1, h2, _⟩ := (ready_iff hsz).1 hi
    exact h2 ((hf i h1).2 (hall i h1))
  | succ fuel ih =>
    intro f listed a w hsz hf hfu hs hd hI
    refine ⟨fun h0 => fin f a w hs hd hI (all_of_empty f listed hsz hf h0), fun i hi => ?_⟩
    obtain ⟨h1, h2, h3⟩ := (ready_iff hsz).1 hi
    have hget : l[i]? = some l[i] := List.getElem?_eq_getElem h1
    have hfi : f i = false := by
      cases hfi : f i with
      | false => rfl
      | true => exact absurd ((hf i h1).2 hfi) h2
    have hpl : ∀ j ∈ predsAt l i, j < l.length := fun j hj => Nat.lt_trans (predsAt_lt hac hj) h1
    have hst := step f (envOf a) w i l[i] hI hget hfi (fun j hj => (hf j (hpl j hj)).1 (h3 j hj))
    unfold WL at hst
    have hst' := hst a (fun ex a' w' => ex = .normal ∧ wpAnyIn (fc r) 0 P .any l.toArray Q fuel (listed.setIfInBounds i true) a' w') hs hd rfl (fun a' w' hs' hk => by
      obtain ⟨hd', hI'⟩ := hk
      refine ⟨rfl, ih (fun j => f j || j == i) _ a' w' (by simp [hsz]) (fun j hj => ?_) ?_ hs' hd' hI'⟩
      · rw [Lst_set (by omega)]; have := hf j hj; simp only [Bool.or_eq_true, beq_iff_eq]; constructor
        · rintro (h | h)
          · exact .inr h
          · exact .inl (this.1 h)
        · rintro (h | h)
          · exact .inr (this.2 h)
          · exact .inl h
      · have := filter_lt (X := List.range l.length) (p := fun j => !f j) (q := fun j => !(f j || j == i)) (fun x hx => by simp at hx ⊢; exact hx.1) (List.mem_range.2 h1) (by simp [hfi]) (by simp)
        omega)
    unfold wpOpIn
    have hget' : (l.toArray)[i]? = some l[i] := by simp [h1]
    simp only [hget']
    simp only [wpListIn] at hst'
    split
    · rename_i hw
      simp only [hw, if_true] at hst'
      refine ⟨hst'.1, ?_⟩
      have h4 := hst'.2
      revert h4
      generalize (Oper.semAt (fc r).round a.eval l[i]).run P w = res
      intro h4
      cases res with
      | ok x w' =>
        cases x <;> simp only [Oper.uponIn] at h4 ⊢ <;>
          first
            | exact h4.2
            | exact ⟨h4.1, CallsIn.mono h4.2 (fun e w'' he => by
                cases e
                · exact he.2
                · exact absurd he.1 (by simp)
                · obtain ⟨a0, w0, hh⟩ := he; exact absurd hh.1 (by simp))⟩
            | exact ⟨h4.1, RowsIn.mono h4.2 (fun _ _ he => he.2)⟩
            | exact ⟨h4.1, RoundIn.mono h4.2 (fun e w'' he => by
                cases e
                · exact he.2
                · exact absurd he.1 (by simp)
                · obtain ⟨a0, w0, hh⟩ := he; exact absurd hh.1 (by simp))⟩
      | halt x w' => cases x <;> simp only [Oper.uponIn] at h4 ⊢ <;> first | exact h4 | exact absurd h4.1 (by simp)
    · rename_i hw
      simp only [hw] at hst'
      exact ⟨hst'.1, hst'.2.2⟩

theorem WL_known {ops : Array Oper} {rest : List Oper} {K : List Deferred → Env → World → Prop} {e : Env} {w : World} (i : Nat) {v : Value} (hi : e i = v) (h : WL P r N ops rest K D (upd e i v) w) : WL P r N ops rest K D e w := by
  rwa [upd_self e hi] at h

/-- A region that draws its order, by an invariant. -/
theorem W_any {id : Nat} {n t : List Deferred → Env → World → Prop} {b : Nat → List Deferred → Env → World → Prop} {e : Env} {w : World} (hm : P.follows .mixedOrders = true)
    (hac : ((List.range l.length).all fun i => (predsAt l i).all fun j => decide (j < i)) = true) (I : (Nat → Bool) → Env → World → Prop) (h0 : I (fun _ => false) e w.drew)
    (step : ∀ (f : Nat → Bool) (e : Env) (w : World) (i : Nat) (o : Oper), I f e w → l[i]? = some o → f i = false → (∀ j ∈ predsAt l i, f j = true) →
      WL P r N l.toArray [o] (fun D' e' w' => D' = D ∧ I (fun j => f j || j == i) e' w') D e w)
    (fin : ∀ (f : Nat → Bool) (e : Env) (w : World), I f e w → (∀ i, i < l.length → f i = true) → n D e w) : W P r N (.region id l.toArray true) ⟨n, b, t⟩ D e w := by
  unfold W; intro a hs hd he; subst he
  refine wpIn_region_any hm ?_
  refine any_inv hac I step (fun f a w hs hd hI hall => ⟨hs, by rw [hd]; exact fin f _ w hI hall⟩) _ (fun _ => false) _ a w.drew (by simp) (fun i hi => ?_) ?_ hs hd h0
  · unfold Lst; simp [hi]
  · simpa using List.length_filter_le _ (List.range l.length)
end
end Go.Fw
