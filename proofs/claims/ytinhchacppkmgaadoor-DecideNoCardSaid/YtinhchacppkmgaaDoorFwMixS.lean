/-
  The framework: a drawn region, walked in the order of the text, whose last operation (a store) waits for all others.
-/
import Derived.Test.YtinhchacppkmgaaDoorFwMix
namespace Go.Fw
open Go.RowKit
section
variable {P : Program} {r : Option Nat} {N : Nat} {l : List Oper} {D : List Deferred} {C : World → Prop} {K : List Deferred → Env → World → Prop}

def mixOkS (l : List Oper) (pur : Nat → Bool) (m : Nat) : Bool :=
  plainOps l && ((List.range l.length).all fun i => (predsAt l i).all fun j => decide (j < i)) && ((List.range m).all fun i => (List.range i).all fun j => (waits l i).contains j || indep l pur j i) && ((List.range m).all fun j => (waits l m).contains j) && decide (l.length = m + 1)

/-- The class of worlds behind one that is known. -/
abbrev clOf {M : List Nat} {w0 w : World} {L : List Ent} (_ : St M w0 w L) : World → Prop := Cl M w0 w L

def remTo (m : Nat) (f : Nat → Bool) : List Nat := (List.range m).filter fun i => !f i

theorem rem_splitTo {m : Nat} (f : Nat → Bool) {i : Nat} (hi : i < m) (hf : f i = false) : ∃ pre post, remTo m f = pre ++ i :: post ∧ remTo m (fun j => f j || j == i) = pre ++ post ∧ ∀ j ∈ pre, j < i ∧ f j = false := by
  have hr : List.range m = List.range i ++ i :: (List.range' (i + 1) (m - (i + 1))) := by
    have h1 : m = i + (m - i) := by omega
    have h2 : m - i = (m - (i + 1)) + 1 := by omega
    rw [List.range_eq_range', List.range_eq_range', show List.range' 0 m = List.range' 0 (i + ((m - (i + 1)) + 1)) by rw [← h2, ← h1], ← List.range'_append_1]
    simp [List.range'_succ]
  refine ⟨(List.range i).filter fun j => !f j, (List.range' (i + 1) (m - (i + 1))).filter fun j => !f j, ?_, ?_, ?_⟩
  · unfold remTo; rw [hr, List.filter_append, List.filter_cons]; simp [hf]
  · unfold remTo; rw [hr, List.filter_append, List.filter_cons]
    simp only [beq_self_eq_true, Bool.or_true, Bool.not_true, Bool.false_eq_true, if_false]
    congr 1
    · apply List.filter_congr; intro j hj; have := List.mem_range.1 hj; have : (j == i) = false := by simp; omega
      simp [this]
    · apply List.filter_congr; intro j hj; have := List.mem_range'.1 hj; have : (j == i) = false := by simp; omega
      simp [this]
  · intro j hj; rw [List.mem_filter] at hj; exact ⟨List.mem_range.1 hj.1, by simpa using hj.2⟩

theorem W_mixS {id : Nat} {n t : List Deferred → Env → World → Prop} {b : Nat → List Deferred → Env → World → Prop} {e : Env} {w : World} (hm : P.follows .mixedOrders = true) (pur : Nat → Bool) (ix : List Nat)
    (m : Nat) (hok : mixOkS l pur m = true) (hix : (List.range m == ix) = true) (C : World → Prop) (ol : Oper) (hol : l[m]? = some ol)
    (h : WM P r N l C pur (fun D e w => WL P r N l.toArray [ol] (fun D' e' w' => D' = D ∧ n D e' w') D e w) D ix e w.drew) : W P r N (.region id l.toArray true) ⟨n, b, t⟩ D e w := by
  obtain rfl : List.range m = ix := eq_of_beq hix
  generalize hKd : (fun (D : List Deferred) (e : Env) (w : World) => WL P r N l.toArray [ol] (fun D' e' w' => D' = D ∧ n D e' w') D e w) = K' at h
  unfold mixOkS at hok
  simp only [Bool.and_eq_true, decide_eq_true_eq] at hok
  obtain ⟨⟨⟨⟨hpl, hac⟩, hin⟩, hlast⟩, hm1⟩ := hok
  have hlw : ∀ j, j < m → j ∈ waits l m := fun j hj => by
    have := List.all_eq_true.1 hlast j (List.mem_range.2 hj)
    simpa using this
  have hz : (∀ i, N ≤ i → e i = undef) → W P r N (.region id l.toArray true) ⟨n, b, t⟩ D e w := by
    intro hz
    refine W_any hm hac (fun f e w => (∀ i, N ≤ i → e i = undef) ∧ (∀ i, f i = true → ∀ j ∈ predsAt l i, f j = true) ∧ ((f m = false ∧ WM P r N l C pur K' D (remTo m f) e w) ∨ (f m = true ∧ n D e w))) ⟨hz, by simp, .inl ⟨rfl, ?_⟩⟩ ?_ ?_
    · have : remTo m (fun _ => false) = List.range m := by unfold remTo; simp
      rw [this]; exact h
    · rintro f e w i o ⟨hz, hcl, hM⟩ ho hfi hpr
      have hil0 : i < l.length := (List.getElem?_eq_some_iff.1 ho).1
      have hcl' : ∀ k, (f k || k == i) = true → ∀ j ∈ predsAt l k, (f j || j == i) = true := by
        intro k hk j hj
        simp only [Bool.or_eq_true, beq_iff_eq] at hk ⊢
        rcases hk with hk | rfl
        · exact .inl (hcl k hk j hj)
        · exact .inl (hpr j hj)
      rcases hM with ⟨hfm, hM⟩ | ⟨hfm, -⟩
      rotate_left
      · have := closure_f hcl l.length (predsAt l m) (hcl m hfm) i (hlw i (by
          rcases Nat.lt_or_ge i m with h | h
          · exact h
          · have : i = m := by omega
            subst this; rw [hfi] at hfm; cases hfm))
        rw [hfi] at this; cases this
      by_cases him : i = m
      · subst him
        obtain rfl : ol = o := Option.some.inj (hol.symm.trans ho)
        have hall : ∀ j, j < i → f j = true := fun j hj => closure_f hcl _ _ hpr j (hlw j hj)
        have hrem : remTo i f = [] := by
          unfold remTo; rw [List.filter_eq_nil_iff]; intro j hj; simp [hall j (List.mem_range.1 hj)]
        rw [hrem] at hM
        have h4 := hM.2
        rw [← hKd] at h4
        clear hM h hKd
        unfold WL at *
        refine fun a Q hs hD he hK => h4 a Q hs hD he (fun a' w' hs' hh => hK a' w' hs' ?_)
        refine ⟨hh.1, fun j hj => ?_, hcl', .inr ⟨by simp, hh.2⟩⟩
        simp only [envOf, Array.getD_eq_getD_getElem?]; rw [Array.getElem?_eq_none (by omega)]; rfl
      have hil : i < m := by omega
      have hfm' : (f m || m == i) = false := by simp [hfm]; omega
      obtain ⟨pre, post, h1, h2, h3⟩ := rem_splitTo (m := m) f hil hfi
      rw [h1] at hM
      have hwt : ∀ j ∈ waits l i, f j = true := closure_f hcl _ _ hpr
      obtain ⟨o', d, ho', hd, hN, h4⟩ := WM.first hpl pre e w (fun j hj => by
        have := List.all_eq_true.1 (List.all_eq_true.1 hin i (List.mem_range.2 hil)) j (List.mem_range.2 (h3 j hj).1)
        simp only [Bool.or_eq_true, List.contains_eq_mem, decide_eq_true_eq] at this
        rcases this with h | h
        · have := hwt j h; rw [(h3 j hj).2] at this; cases this
        · exact h) hz hM
      obtain rfl : o' = o := Option.some.inj (ho'.symm.trans ho)
      rcases h4 with ⟨hpi, v, hv, h4⟩ | ⟨hpi, h4⟩
      · have hCw := hM.inC
        rcases hv with ⟨hw, hv⟩ | ⟨hw, rfl⟩
        · unfold WL; intro a Q hs hD he hK
          simp only [wpListIn]
          have hw' : Region.wanted o' (yielded l.toArray a.tmps) = true := by rw [wanted_env, he]; exact hw
          simp only [hw', if_true]
          refine ⟨about_trivial _ _ _, ?_⟩
          rw [Oper.semAt_eq _ _ _ (plain_at hpl ho).2, eval_eq, he, hv w hCw, Oper.uponIn_value]
          refine hK _ _ (by simp [Act.put, hd, hs]) ⟨by simp [Act.put, hd, hD], ?_⟩
          rw [hd, envOf_put v (by rw [hs]; exact hN), he]
          exact ⟨upd_undef hN hz, hcl', .inl ⟨hfm', by rw [h2]; exact h4⟩⟩
        · unfold WL; intro a Q hs hD he hK
          simp only [wpListIn]
          have hw' : Region.wanted o' (yielded l.toArray a.tmps) = false := by rw [wanted_env, he]; exact hw
          simp only [hw']
          refine ⟨about_trivial _ _ _, ?_⟩
          refine hK _ _ (by simp [Act.put, hd, hs]) ⟨by simp [Act.put, hd, hD], ?_⟩
          rw [hd, envOf_put undef (by rw [hs]; exact hN), he]
          exact ⟨upd_undef hN hz, hcl', .inl ⟨hfm', by rw [h2]; exact h4⟩⟩
      · unfold WL at *
        refine fun a Q hs hD he hK => h4 a Q hs hD he (fun a' w' hs' hh => hK a' w' hs' ?_)
        obtain ⟨hDD, v, hv, h5⟩ := hh
        exact ⟨hDD, by rw [hv]; exact upd_undef hN hz, hcl', .inl ⟨hfm', by rw [h2]; exact h5⟩⟩
    · rintro f e w ⟨hz, hcl, hM⟩ hall
      rcases hM with ⟨hfm, -⟩ | ⟨-, hM⟩
      · have := hall m (by omega); rw [hfm] at this; cases this
      · exact hM
  unfold W at *
  intro a hs hd he
  refine hz (fun i hi => ?_) a hs hd he
  rw [← he]; simp only [envOf, Array.getD_eq_getD_getElem?]; rw [Array.getElem?_eq_none (by omega)]; rfl

end
end Go.Fw
