/-
  Contracts of package decide: support.
-/
import Derived.Test.YtinhchacppkmgaaDoorUnP
namespace Go.Proofs.YtinhchacppkmgaaDoor
open Go.Fw Go.RowKit

theorem sup_len (e : E) (op : Int) : (e.sup op).length ≤ 32 := by
  unfold E.sup
  split
  · have := markedTo_len (e.mark op (List.replicate 32 false)) (e.mark op (List.replicate 32 false)).length
    rw [E.mark_len] at this; unfold markedL; rw [E.mark_len]; simpa using this
  · simp

theorem union_m_fn (M : List Nat) (w0 : World) (va vb : Value) (a b : List Int) (ha : RdI M w0 va a) (hb : RdI M w0 vb b) (hM : ∀ g ∈ M, g < w0.heap.size) (hla : a.length ≤ 32) (hlb : b.length ≤ 32) (ra : ∀ x ∈ a, 0 ≤ x ∧ x < 32) (rb : ∀ x ∈ b, 0 ≤ x ∧ x < 32) :
    Does Tryd.prog 42 #[va, vb] w0 fun v w' => RdI M w' v (mergeL a b) ∧ Below w0.heap.size w0 w' := by
  have h := union_fn M w0 va vb a b ha hb (by omega) (by omega) hM (fun x hx => by
    rcases ((unionL_spec a b).2 x).1 hx with h | h
    · have := ra x h; unfold i64; omega
    · have := rb x h; unfold i64; omega)
  rwa [union_eq ra rb] at h

theorem support_d_fn (c : CondD) (M : List Nat) (w0 : World) (cs : List Value) (hR : RdCond M w0 c cs) (hK : Masks M w0) (hM : ∀ g ∈ M, g < w0.heap.size) :
    Does Tryd.prog 27 #[.agg cs.toArray] w0 fun v w' => (∃ a b, v = .tuple #[a, b] ∧ RdI M w' a (c.sup 3) ∧ RdI M w' b (c.sup 2)) ∧ Below w0.heap.size w0 w' := by
  obtain ⟨ch, cg, rfl, hh, hg⟩ := hR
  obtain ⟨A, n, q, rfl, o1, o2, o3, hn, hq, hm, hbig, hks⟩ := hh.open_
  obtain ⟨A', n', q', rfl, o1', o2', o3', hn', hq', hm', hbig', hks'⟩ := hg.open_
  have S := St.refl w0
  simp only [List.cons_append, List.nil_append]
  refine Does_enter Tryd.func27 rfl Tryd.ntmps27 rfl ?_
  refine W_seq ?_
  refine W_region ?_
  refine o_boxa S (by conv => lhs; whnf) rfl ?_
  intro g1 w1 S1 X1 G1
  first | refine o_assign (v := .slice _ _ _) rfl rfl ?_ | refine o_assign (by conv => lhs; whnf) rfl ?_
  first | refine o_assign (v := .slice _ _ _) rfl rfl ?_ | refine o_assign (by conv => lhs; whnf) rfl ?_
  refine WL_nil ?_
  refine W_seq ?_
  refine W_region ?_
  refine o_fieldAddr fa_27_6 rfl rfl ?_
  first | refine o_loadN many_25 rfl (S1.cells 0 rfl) rfl rfl ?_ | refine o_loadN many_25 rfl (cs := [_, _, _, _]) (S1.cellsAt 0 6 4 rfl) rfl rfl ?_ | refine o_loadN many_25 rfl (cs := [_, _, _, _]) (S1.cellsAt 0 10 4 rfl) rfl rfl ?_
  refine o_calln S1 has_41 rfl rfl (support_e_fn c.hyp M _ _ (RdE.keep (S1.keep0 M) _ _ hh) (hK.keep (S1.keep0 M)) (fun g hg => by have := hM g hg; have := S1.size; omega)) ?_
  rintro v11 w11 ⟨a1, b1, rfl, ra1, rb1⟩ S11 X11
  first | refine o_move (v := .tuple _) rfl rfl ?_ | refine o_move (by conv => lhs; whnf) rfl ?_
  refine o_extract rfl rfl rfl ?_
  refine o_extract rfl rfl rfl ?_
  first | refine o_assign (v := .slice _ _ _) rfl rfl ?_ | refine o_assign (by conv => lhs; whnf) rfl ?_
  first | refine o_assign (v := .slice _ _ _) rfl rfl ?_ | refine o_assign (by conv => lhs; whnf) rfl ?_
  refine WL_nil ?_
  refine W_seq ?_
  refine W_region ?_
  refine o_fieldAddr fa_27_7 rfl rfl ?_
  first | refine o_loadN many_25 rfl (S11.cells 0 rfl) rfl rfl ?_ | refine o_loadN many_25 rfl (cs := [_, _, _, _]) (S11.cellsAt 0 6 4 rfl) rfl rfl ?_ | refine o_loadN many_25 rfl (cs := [_, _, _, _]) (S11.cellsAt 0 10 4 rfl) rfl rfl ?_
  refine o_calln S11 has_41 rfl rfl (support_e_fn c.goal M _ _ (RdE.keep (S11.keep0 M) _ _ hg) (hK.keep (S11.keep0 M)) (fun g hg => by have := hM g hg; have := S11.size; omega)) ?_
  rintro v17 w17 ⟨a2, b2, rfl, ra2, rb2⟩ S17 X17
  replace ra1 := ra1.keep (X17.of_nil)
  replace rb1 := rb1.keep (X17.of_nil)
  first | refine o_move (v := .tuple _) rfl rfl ?_ | refine o_move (by conv => lhs; whnf) rfl ?_
  refine o_extract rfl rfl rfl ?_
  refine o_extract rfl rfl rfl ?_
  first | refine o_assign (v := .slice _ _ _) rfl rfl ?_ | refine o_assign (by conv => lhs; whnf) rfl ?_
  first | refine o_assign (v := .slice _ _ _) rfl rfl ?_ | refine o_assign (by conv => lhs; whnf) rfl ?_
  refine WL_nil ?_
  refine W_seq ?_
  refine W_region ?_
  first | refine o_move (v := .slice _ _ _) rfl rfl ?_ | refine o_move (by conv => lhs; whnf) rfl ?_
  first | refine o_move (v := .slice _ _ _) rfl rfl ?_ | refine o_move (by conv => lhs; whnf) rfl ?_
  refine o_calln S17 has_42 rfl rfl (union_m_fn M _ _ _ _ _ ra1 ra2 (fun g hg => by have := hM g hg; have := S17.size; omega) (sup_len _ _) (sup_len _ _) (sup_bound _ _) (sup_bound _ _)) ?_
  rintro v22 w22 r22 S22 X22
  replace ra1 := ra1.keep (X22.of_nil)
  replace rb1 := rb1.keep (X22.of_nil)
  replace ra2 := ra2.keep (X22.of_nil)
  replace rb2 := rb2.keep (X22.of_nil)
  first | refine o_move (v := .slice _ _ _) rfl rfl ?_ | refine o_move (by conv => lhs; whnf) rfl ?_
  first | refine o_move (v := .slice _ _ _) rfl rfl ?_ | refine o_move (by conv => lhs; whnf) rfl ?_
  refine o_calln S22 has_42 rfl rfl (union_m_fn M _ _ _ _ _ rb1 rb2 (fun g hg => by have := hM g hg; have := S22.size; omega) (sup_len _ _) (sup_len _ _) (sup_bound _ _) (sup_bound _ _)) ?_
  rintro v25 w25 r25 S25 X25
  replace ra1 := ra1.keep (X25.of_nil)
  replace rb1 := rb1.keep (X25.of_nil)
  replace ra2 := ra2.keep (X25.of_nil)
  replace rb2 := rb2.keep (X25.of_nil)
  replace r22 := r22.keep (X25.of_nil)
  first | refine o_assign (v := .slice _ _ _) rfl rfl ?_ | refine o_assign (by conv => lhs; whnf) rfl ?_
  first | refine o_assign (v := .slice _ _ _) rfl rfl ?_ | refine o_assign (by conv => lhs; whnf) rfl ?_
  refine WL_nil ?_
  refine W_ret ?_
  refine ret_2 rfl (by conv => lhs; whnf) (by conv => lhs; whnf) ?_
  exact ⟨⟨_, _, rfl, r22, r25⟩, S25.fin⟩
end Go.Proofs.YtinhchacppkmgaaDoor
