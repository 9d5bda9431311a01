/-
  Contracts of package decide: pairs, and the test of one pair.
-/
import Derived.Test.YtinhchacppkmgaaDoorDe2
namespace Go.Fw
/-- A pair of states falsifies a condition. -/
def CondD.fals (c : CondD) (p : List Int × List Int) : Bool := decide (c.hyp.evl p.1 p.2 = 1) && decide (c.goal.evl p.1 p.2 = 0)
end Go.Fw
namespace Go.Proofs.YtinhchacppkmgaaDoor
open Go.Fw Go.RowKit

theorem pairs_fn (w0 : World) (Ac Ao An : Option Addr) (nc cc no co nn cn : Nat) (bits : Int) :
    Does Tryd.prog 29 #[.slice Ac nc cc, .slice Ao no co, .slice An nn cn, .int .i64 bits] w0 fun v w' =>
      (∃ g1 g2 g3 g4, v = .func (.func 43) #[] #[.pointer (some ⟨g1, 0, none⟩), .pointer (some ⟨g2, 0, none⟩), .pointer (some ⟨g3, 0, none⟩), .pointer (some ⟨g4, 0, none⟩)] ∧
        w0.heap.size ≤ g1 ∧ w0.heap.size ≤ g2 ∧ w0.heap.size ≤ g3 ∧ w0.heap.size ≤ g4 ∧
        w'.cell? ⟨g1, 0, none⟩ = some (.slice Ac nc cc) ∧ w'.cell? ⟨g2, 0, none⟩ = some (.int .i64 bits) ∧ w'.cell? ⟨g3, 0, none⟩ = some (.slice Ao no co) ∧ w'.cell? ⟨g4, 0, none⟩ = some (.slice An nn cn)) ∧ Below w0.heap.size w0 w' := by
  have S := St.refl w0
  refine Does_enter Tryd.func29 rfl Tryd.ntmps29 rfl ?_
  refine W_seq ?_
  refine W_region ?_
  refine o_box1 S (v := .slice _ _ _) rfl rfl rfl ?_
  intro g4 w4 S4 X4 G4
  refine o_box1 S4 (v := .slice _ _ _) rfl rfl rfl ?_
  intro g5 w5 S5 X5 G5
  refine o_box1 S5 (v := .slice _ _ _) rfl rfl rfl ?_
  intro g6 w6 S6 X6 G6
  refine o_box1 S6 (v := .int .i64 _) rfl rfl rfl ?_
  intro g7 w7 S7 X7 G7
  first | refine o_assign (v := .func _ _ _) rfl rfl ?_ | refine o_assign (by conv => lhs; whnf) rfl ?_
  refine WL_nil ?_
  refine W_seq ?_
  refine W_region ?_
  refine o_makeFunc rfl rfl ?_
  first | refine o_assign (v := .func _ _ _) rfl rfl ?_ | refine o_assign (by conv => lhs; whnf) rfl ?_
  refine WL_nil ?_
  refine W_ret ?_
  refine ret_1 rfl (by conv => lhs; whnf) ?_
  have q5 := X5.size
  have q6 := X6.size
  have q4 := X4.size
  exact ⟨⟨g4, g7, g5, g6, rfl, G4, by omega, by omega, by omega, S7.cell 3 rfl rfl, S7.cell 0 rfl rfl, S7.cell 2 rfl rfl, S7.cell 1 rfl rfl⟩, S7.fin⟩

theorem fals_fn (c : CondD) (M : List Nat) (w0 : World) (g : Nat) (cs : List Value) (vb va : Value) (before after : List Int) (hg : g ∉ M) (hcs : Cells w0 g 0 cs) (hR : RdCond M w0 c cs) (hK : Masks M w0) (hB : RdI M w0 vb before) (hA : RdI M w0 va after) :
    Does Tryd.prog 28 #[vb, va, .pointer (some ⟨g, 0, none⟩)] w0 fun v w' => v = .bool (c.fals (before, after)) ∧ Below w0.heap.size w0 w' := by
  obtain ⟨ch, cg, rfl, hh, hgo⟩ := hR
  obtain ⟨Ab, nb, cb, rfl⟩ := hB.form
  obtain ⟨Aa, na, ca, rfl⟩ := hA.form
  have hc6 : Cells w0 g 6 ch := fun j v hj => by
    have hl : j < ch.length := (List.getElem?_eq_some_iff.1 hj).1
    have := hcs (6 + j) v (by rw [List.append_assoc, List.getElem?_append_right (by simp)]; simp [List.getElem?_append_left hl, hj])
    simpa using this
  have hc10 : Cells w0 g 10 cg := fun j v hj => by
    have := hcs (10 + j) v (by rw [List.getElem?_append_right (by simp [hh.length])]; simp [hh.length, hj])
    simpa using this
  have S := St.refl w0
  obtain ⟨A, n, q, rfl, -⟩ := hh.open_
  obtain ⟨A', n', q', rfl, -⟩ := hgo.open_
  refine Does_enter Tryd.func28 rfl Tryd.ntmps28 rfl ?_
  refine W_seq ?_
  refine W_region ?_
  first | refine o_assign (v := .bool _) rfl rfl ?_ | refine o_assign (by conv => lhs; whnf) rfl ?_
  refine WL_nil ?_
  refine W_seq ?_
  refine W_region ?_
  refine o_fieldAddr fa_27_6 rfl rfl ?_
  first | refine o_loadN many_25 rfl (hc6.keep (S.keep0 M) hg) (by first | rfl | assumption) rfl ?_ | refine o_loadN many_25 rfl (hc10.keep (S.keep0 M) hg) (by first | rfl | assumption) rfl ?_
  first | refine o_move (v := .slice _ _ _) rfl rfl ?_ | refine o_move (by conv => lhs; whnf) rfl ?_
  first | refine o_move (v := .slice _ _ _) rfl rfl ?_ | refine o_move (by conv => lhs; whnf) rfl ?_
  refine o_callr S has_10 rfl rfl (eval_fn c.hyp M _ _ _ _ before after (RdE.keep (S.keep0 M) _ _ hh) (hK.keep (S.keep0 M)) (hB.keep (S.keep0 M)) (hA.keep (S.keep0 M))) ?_
  intro w10 S10 X10
  refine o_eql rfl rfl rfl (fun h11 => ?_) (fun h11 => ?_)
  · first | refine o_move (v := .bool _) rfl rfl ?_ | refine o_move (by conv => lhs; whnf) rfl ?_
    refine WL_on rfl rfl rfl ?_
    refine o_fieldAddr fa_27_7 rfl rfl ?_
    refine WL_on rfl rfl rfl ?_
    first | refine o_loadN many_25 rfl (hc6.keep (S10.keep0 M) hg) (by first | rfl | assumption) rfl ?_ | refine o_loadN many_25 rfl (hc10.keep (S10.keep0 M) hg) (by first | rfl | assumption) rfl ?_
    refine WL_on rfl rfl rfl ?_
    first | refine o_move (v := .slice _ _ _) rfl rfl ?_ | refine o_move (by conv => lhs; whnf) rfl ?_
    refine WL_on rfl rfl rfl ?_
    first | refine o_move (v := .slice _ _ _) rfl rfl ?_ | refine o_move (by conv => lhs; whnf) rfl ?_
    refine WL_on rfl rfl rfl ?_
    refine o_callr S10 has_10 rfl rfl (eval_fn c.goal M _ _ _ _ before after (RdE.keep (S10.keep0 M) _ _ hgo) (hK.keep (S10.keep0 M)) (hB.keep (S10.keep0 M)) (hA.keep (S10.keep0 M))) ?_
    intro w17 S17 X17
    refine WL_on rfl rfl rfl ?_
    refine o_eql rfl rfl rfl (fun h18 => ?_) (fun h18 => ?_)
    · first | refine o_pick rfl (v := .bool _) rfl rfl ?_ | refine o_pick rfl (by conv => lhs; whnf) rfl ?_
      first | refine o_assign (v := .bool _) rfl rfl ?_ | refine o_assign (by conv => lhs; whnf) rfl ?_
      refine WL_nil ?_
      refine W_ret ?_
      refine ret_1 rfl (by conv => lhs; whnf) ?_
      refine ⟨congrArg Value.bool ?_, S17.fin⟩
      unfold CondD.fals
      first
        | (simp [h11, h18]; done)
        | (simp [h11]; done)
    · first | refine o_pick rfl (v := .bool _) rfl rfl ?_ | refine o_pick rfl (by conv => lhs; whnf) rfl ?_
      first | refine o_assign (v := .bool _) rfl rfl ?_ | refine o_assign (by conv => lhs; whnf) rfl ?_
      refine WL_nil ?_
      refine W_ret ?_
      refine ret_1 rfl (by conv => lhs; whnf) ?_
      refine ⟨congrArg Value.bool ?_, S17.fin⟩
      unfold CondD.fals
      first
        | (simp [h11, h18]; done)
        | (simp [h11]; done)
  · first | refine o_move (v := .bool _) rfl rfl ?_ | refine o_move (by conv => lhs; whnf) rfl ?_
    refine WL_off rfl rfl rfl rfl ?_
    refine WL_off rfl rfl rfl rfl ?_
    refine WL_off rfl rfl rfl rfl ?_
    refine WL_off rfl rfl rfl rfl ?_
    refine WL_off rfl rfl rfl rfl ?_
    refine WL_off rfl rfl rfl rfl ?_
    first | refine o_pick rfl (v := .bool _) rfl rfl ?_ | refine o_pick rfl (by conv => lhs; whnf) rfl ?_
    first | refine o_assign (v := .bool _) rfl rfl ?_ | refine o_assign (by conv => lhs; whnf) rfl ?_
    refine WL_nil ?_
    refine W_ret ?_
    refine ret_1 rfl (by conv => lhs; whnf) ?_
    refine ⟨congrArg Value.bool ?_, S10.fin⟩
    unfold CondD.fals
    first
      | (simp [h11, h18]; done)
      | (simp [h11]; done)
end Go.Proofs.YtinhchacppkmgaaDoor
