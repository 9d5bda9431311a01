/-
  Contracts of package relyguardref06.
-/
import Derived.Test.YtinhchacppkmgaaDoorFwFacts
import Derived.Test.YtinhchacppkmgaaDoorEx0
namespace Go.Proofs.YtinhchacppkmgaaDoor
open Go.Fw Go.RowKit

theorem power_fn (n : Nat) (hn : n ≤ 20) (w : World) : Does Tryd.prog 35 #[.int .i64 n] w fun v w' => v = .int .i64 (pow2 n) ∧ Below w.heap.size w w' := by
  have S := St.refl w
  obtain ⟨w0, hw0⟩ : ∃ w0, w0 = w := ⟨_, rfl⟩
  rw [← hw0] at S ⊢
  clear hw0
  refine Does_enter Tryd.func35 rfl Tryd.ntmps35 rfl ?_
  refine W_seq ?_
  refine W_region ?_
  first | refine o_assign (v := .int .i64 _) rfl rfl ?_ | refine o_assign (by conv => lhs; whnf) rfl ?_
  refine WL_nil ?_
  refine W_seq ?_
  refine W_region ?_
  first | refine o_assign (v := .int .i64 _) rfl rfl ?_ | refine o_assign (by conv => lhs; whnf) rfl ?_
  refine WL_nil ?_
  refine W_seq ?_
  refine W_seq ?_
  refine W_region ?_
  first | refine o_assign (v := .int .i64 _) rfl rfl ?_ | refine o_assign (by conv => lhs; whnf) rfl ?_
  refine WL_nil ?_
  refine W_block ?_
  refine W_loop (fun μ D ε w => D = [] ∧ ∃ k : Nat, (k + μ = n) ∧ St [] w0 w [] ∧ ε 0 = .int .i64 n ∧ ε 4 = .int .i64 k ∧ ε 3 = .int .i64 (pow2 k)) (μ := n) ⟨rfl, 0, by omega, S, rfl, rfl, rfl⟩ ?_
  rintro μ D ε w ⟨rfl, k, hk, S, e0, e4, e3⟩
  refine W_known 0 e0 ?_
  refine W_known 4 e4 ?_
  refine W_known 3 e3 ?_
  clear e0 e4 e3
  have hb : pow2 (k+1) ≤ pow2 21 := pow2_le _ _ (by omega)
  have hb' : pow2 21 = 2097152 := by decide
  have hp := pow2_pos k
  simp only [pow2] at hb
  refine W_seq ?_
  refine W_seq ?_
  refine W_region ?_
  first | refine o_move (v := .int .i64 _) rfl rfl ?_ | refine o_move (by conv => lhs; whnf) rfl ?_
  first | refine o_move (v := .int .i64 _) rfl rfl ?_ | refine o_move (by conv => lhs; whnf) rfl ?_
  refine o_lss rfl rfl rfl (fun h7 => ?_) (fun h7 => ?_)
  · refine WL_nil ?_
    refine W_then rfl ?_
    refine W_skip ?_
    refine W_seq ?_
    refine W_block ?_
    refine W_region ?_
    first | refine o_move (v := .int .i64 _) rfl rfl ?_ | refine o_move (by conv => lhs; whnf) rfl ?_
    refine o_mul rfl rfl (by unfold i64; omega) rfl ?_
    first | refine o_assign (v := .int .i64 _) rfl rfl ?_ | refine o_assign (by conv => lhs; whnf) rfl ?_
    refine WL_nil ?_
    refine W_region ?_
    first | refine o_move (v := .int .i64 _) rfl rfl ?_ | refine o_move (by conv => lhs; whnf) rfl ?_
    refine o_add rfl rfl (by unfold i64; omega) rfl ?_
    first | refine o_assign (v := .int .i64 _) rfl rfl ?_ | refine o_assign (by conv => lhs; whnf) rfl ?_
    refine WL_nil ?_
    exact ⟨μ - 1, by omega, rfl, k + 1, by omega, S, rfl, rfl, rfl⟩
  · refine WL_nil ?_
    refine W_else rfl ?_
    refine W_exit ?_
    refine bcons_here ?_
    refine W_seq ?_
    refine W_region ?_
    first | refine o_move (v := .int .i64 _) rfl rfl ?_ | refine o_move (by conv => lhs; whnf) rfl ?_
    first | refine o_assign (v := .int .i64 _) rfl rfl ?_ | refine o_assign (by conv => lhs; whnf) rfl ?_
    refine WL_nil ?_
    refine W_ret ?_
    refine ret_1 rfl (by conv => lhs; whnf) ?_
    obtain rfl : k = n := by omega
    exact ⟨rfl, S.fin⟩

theorem power_eq (n : Int) (w : World) (h0 : 0 ≤ n) (hn : n ≤ 20) : Does Tryd.prog 35 #[.int .i64 n] w fun v w' => v = .int .i64 (pow2 n.toNat) ∧ Below w.heap.size w w' := by
  have h := power_fn n.toNat (by omega) w
  rwa [Int.toNat_of_nonneg h0] at h

theorem size_fn : ∀ (e : E) (M : List Nat) (w0 : World) (cs : List Value) (lim : Int), RdE M w0 e cs → i64 lim →
    Does Tryd.prog 32 #[.agg cs.toArray, .int .i64 lim] w0 fun v w' => v = .int .i64 (e.size lim) ∧ Below w0.heap.size w0 w' := by
  intro e
  induction e using E.induct with
  | _ e ih =>
  intro M w0 cs lim hR hl
  obtain ⟨A, n, c, rfl, o1, o2, o3, hn, hc, hm, hbig, hks⟩ := hR.open_
  have S := St.refl w0
  unfold i64 at hl
  refine Does_enter Tryd.func32 rfl Tryd.ntmps32 rfl ?_
  refine W_seq ?_
  refine W_region ?_
  refine o_boxa S (by conv => lhs; whnf) rfl ?_
  intro g2 w2 S2 X2 G2
  first | refine o_assign (v := .int .i64 _) rfl rfl ?_ | refine o_assign (by conv => lhs; whnf) rfl ?_
  refine WL_nil ?_
  refine W_seq ?_
  refine W_seq ?_
  refine W_region ?_
  first | refine o_move (v := .int .i64 _) rfl rfl ?_ | refine o_move (by conv => lhs; whnf) rfl ?_
  refine o_leq rfl rfl rfl (fun h8 => ?_) (fun h8 => ?_)
  · refine WL_nil ?_
    refine W_then rfl ?_
    refine W_seq ?_
    refine W_region ?_
    first | refine o_assign (v := .int .i64 _) rfl rfl ?_ | refine o_assign (by conv => lhs; whnf) rfl ?_
    refine WL_nil ?_
    refine W_ret ?_
    refine ret_1 rfl (by conv => lhs; whnf) ?_
    first
      | exact ⟨by rw [E.size_def, if_pos h8], S2.fin⟩
      | exact ⟨by rw [hs, E.sizes_stop _ _ _ _ (by omega)], S2.fin⟩
  · refine WL_nil ?_
    refine W_else rfl ?_
    refine W_skip ?_
    refine W_seq ?_
    refine W_region ?_
    first | refine o_assign (v := .int .i64 _) rfl rfl ?_ | refine o_assign (by conv => lhs; whnf) rfl ?_
    refine WL_nil ?_
    refine W_seq ?_
    refine W_seq ?_
    refine W_region ?_
    first | refine o_assign (v := .int .i64 _) rfl rfl ?_ | refine o_assign (by conv => lhs; whnf) rfl ?_
    refine WL_nil ?_
    refine W_block ?_
    refine W_loop (fun μ D ε w => D = [] ∧ ∃ k : Nat, ∃ nn : Int, (k + μ = e.kids.length) ∧ (e.size lim = E.sizes (e.kids.drop k) lim nn) ∧ (1 ≤ nn) ∧ (nn ≤ lim) ∧ St [] w0 w [(some g2, 25, [.int .i64 e.op, .int .i64 e.w, .int .i64 e.n, .slice A n c])] ∧ ε 1 = .int .i64 lim ∧ ε 2 = .pointer (some ⟨g2, 0, none⟩) ∧ ε 5 = .int .i64 nn ∧ ε 6 = .int .i64 k) (μ := e.kids.length) ⟨rfl, 0, 1, by omega, by rw [E.size_def, if_neg (by omega)]; rfl, by omega, by omega, S2, rfl, rfl, rfl, rfl⟩ ?_
    rintro μ D ε w ⟨rfl, k, nn, hk, hs, h1, h2, S, e1, e2, e5, e6⟩
    refine W_known 1 e1 ?_
    refine W_known 2 e2 ?_
    refine W_known 5 e5 ?_
    refine W_known 6 e6 ?_
    clear e1 e2 e5 e6
    refine W_seq ?_
    refine W_seq ?_
    refine W_region ?_
    first | refine o_move (v := .int .i64 _) rfl rfl ?_ | refine o_move (by conv => lhs; whnf) rfl ?_
    refine o_fieldAddr fa_25_3 rfl rfl ?_
    refine o_load one_23 rfl (by first | exact S.cell 0 rfl rfl) rfl ?_
    refine o_len slz_23.slT rfl rfl ?_
    refine o_lss rfl rfl rfl (fun h13 => ?_) (fun h13 => ?_)
    · first | refine o_move (v := .bool _) rfl rfl ?_ | refine o_move (by conv => lhs; whnf) rfl ?_
      refine WL_on rfl rfl rfl ?_
      first | refine o_move (v := .int .i64 _) rfl rfl ?_ | refine o_move (by conv => lhs; whnf) rfl ?_
      refine WL_on rfl rfl rfl ?_
      first | refine o_move (v := .int .i64 _) rfl rfl ?_ | refine o_move (by conv => lhs; whnf) rfl ?_
      refine WL_on rfl rfl rfl ?_
      refine o_lss rfl rfl rfl (fun h17 => ?_) (fun h17 => ?_)
      · first | refine o_pick rfl (v := .bool _) rfl rfl ?_ | refine o_pick rfl (by conv => lhs; whnf) rfl ?_
        refine WL_nil ?_
        refine W_then rfl ?_
        refine W_skip ?_
        refine W_seq ?_
        refine W_block ?_
        refine W_region ?_
        have hlt : k < e.kids.length := by omega
        obtain ⟨b, o, hA, hbM, hkk⟩ := hks (by omega)
        obtain ⟨ck, hck, hrk⟩ := hkk k hlt
        have hlen : ck.length = 4 := hrk.length
        have hb := E.size_le e.kids[k] (lim - nn) (by omega)
        have hdr : e.kids.drop k = e.kids[k] :: e.kids.drop (k + 1) := List.drop_eq_getElem_cons hlt
        rw [hdr] at hs
        simp only [E.sizes, h17, if_true] at hs
        first | refine o_move (v := .int .i64 _) rfl rfl ?_ | refine o_move (by conv => lhs; whnf) rfl ?_
        refine o_fieldAddr fa_25_3 rfl rfl ?_
        refine o_load one_23 rfl (by first | exact S.cell 0 rfl rfl) rfl ?_
        first | refine o_move (v := .int .i64 _) rfl rfl ?_ | refine o_move (by conv => lhs; whnf) rfl ?_
        refine o_indexAddr slz_23.slT rfl (by first | rfl | assumption) rfl (by omega) (by omega) rfl ?_
        first | refine o_loadN many_25 rfl (S.cells 0 rfl) rfl rfl ?_ | refine o_loadN many_25 rfl (hck.keep (S.keep0 M) hbM) (by first | rfl | assumption) rfl ?_
        first | refine o_move (v := .int .i64 _) rfl rfl ?_ | refine o_move (by conv => lhs; whnf) rfl ?_
        first | refine o_move (v := .int .i64 _) rfl rfl ?_ | refine o_move (by conv => lhs; whnf) rfl ?_
        refine o_sub rfl rfl (by unfold i64; omega) rfl ?_
        refine o_callr S has_32 rfl rfl (ih _ (List.getElem_mem hlt) M _ ck _ (RdE.keep (S.keep0 M) _ _ hrk) (by unfold i64; omega)) ?_
        intro w30 S30 X30
        refine o_add rfl rfl (by unfold i64; omega) rfl ?_
        first | refine o_assign (v := .int .i64 _) rfl rfl ?_ | refine o_assign (by conv => lhs; whnf) rfl ?_
        refine WL_nil ?_
        refine W_region ?_
        first | refine o_move (v := .int .i64 _) rfl rfl ?_ | refine o_move (by conv => lhs; whnf) rfl ?_
        refine o_add rfl rfl (by unfold i64; omega) rfl ?_
        first | refine o_assign (v := .int .i64 _) rfl rfl ?_ | refine o_assign (by conv => lhs; whnf) rfl ?_
        refine WL_nil ?_
        exact ⟨μ - 1, by omega, rfl, k + 1, _, by omega, hs, by omega, by omega, S30, rfl, rfl, rfl, rfl⟩
      · first | refine o_pick rfl (v := .bool _) rfl rfl ?_ | refine o_pick rfl (by conv => lhs; whnf) rfl ?_
        refine WL_nil ?_
        refine W_else rfl ?_
        refine W_exit ?_
        refine bcons_here ?_
        refine W_seq ?_
        refine W_region ?_
        first | refine o_move (v := .int .i64 _) rfl rfl ?_ | refine o_move (by conv => lhs; whnf) rfl ?_
        first | refine o_assign (v := .int .i64 _) rfl rfl ?_ | refine o_assign (by conv => lhs; whnf) rfl ?_
        refine WL_nil ?_
        refine W_ret ?_
        refine ret_1 rfl (by conv => lhs; whnf) ?_
        first
          | exact ⟨by rw [E.size_def, if_pos h8], S.fin⟩
          | exact ⟨by rw [hs, E.sizes_stop _ _ _ _ (by omega)], S.fin⟩
    · first | refine o_move (v := .bool _) rfl rfl ?_ | refine o_move (by conv => lhs; whnf) rfl ?_
      refine WL_off rfl rfl rfl rfl ?_
      refine WL_off rfl rfl rfl rfl ?_
      refine WL_off rfl rfl rfl rfl ?_
      first | refine o_pick rfl (v := .bool _) rfl rfl ?_ | refine o_pick rfl (by conv => lhs; whnf) rfl ?_
      refine WL_nil ?_
      refine W_else rfl ?_
      refine W_exit ?_
      refine bcons_here ?_
      refine W_seq ?_
      refine W_region ?_
      first | refine o_move (v := .int .i64 _) rfl rfl ?_ | refine o_move (by conv => lhs; whnf) rfl ?_
      first | refine o_assign (v := .int .i64 _) rfl rfl ?_ | refine o_assign (by conv => lhs; whnf) rfl ?_
      refine WL_nil ?_
      refine W_ret ?_
      refine ret_1 rfl (by conv => lhs; whnf) ?_
      first
        | exact ⟨by rw [E.size_def, if_pos h8], S.fin⟩
        | exact ⟨by rw [hs, E.sizes_stop _ _ _ _ (by omega)], S.fin⟩

theorem arity_fn (op : Int) (w0 : World) : Does Tryd.prog 88 #[.int .i64 op] w0 fun v w' => v = .int .i64 (arityL op) ∧ Below w0.heap.size w0 w' := by
  have S := St.refl w0
  have ha := arityL_spec op
  refine Does_enter Tryd.func88 rfl Tryd.ntmps88 rfl ?_
  refine W_seq ?_
  refine W_region ?_
  first | refine o_assign (v := .int .i64 _) rfl rfl ?_ | refine o_assign (by conv => lhs; whnf) rfl ?_
  refine WL_nil ?_
  refine W_seq ?_
  refine W_seq ?_
  refine W_region ?_
  first | refine o_move (v := .int .i64 _) rfl rfl ?_ | refine o_move (by conv => lhs; whnf) rfl ?_
  refine o_geq rfl rfl rfl (fun h4 => ?_) (fun h4 => ?_)
  · first | refine o_move (v := .bool _) rfl rfl ?_ | refine o_move (by conv => lhs; whnf) rfl ?_
    refine WL_on rfl rfl rfl ?_
    first | refine o_move (v := .int .i64 _) rfl rfl ?_ | refine o_move (by conv => lhs; whnf) rfl ?_
    refine WL_on rfl rfl rfl ?_
    refine o_leq rfl rfl rfl (fun h7 => ?_) (fun h7 => ?_)
    · first | refine o_pick rfl (v := .bool _) rfl rfl ?_ | refine o_pick rfl (by conv => lhs; whnf) rfl ?_
      refine WL_nil ?_
      refine W_then rfl ?_
      refine W_seq ?_
      refine W_region ?_
      first | refine o_assign (v := .int .i64 _) rfl rfl ?_ | refine o_assign (by conv => lhs; whnf) rfl ?_
      refine WL_nil ?_
      refine W_ret ?_
      refine ret_1 rfl (by conv => lhs; whnf) ?_
      exact ⟨congrArg (Value.int .i64) (by omega), S.fin⟩
    · first | refine o_pick rfl (v := .bool _) rfl rfl ?_ | refine o_pick rfl (by conv => lhs; whnf) rfl ?_
      refine WL_nil ?_
      refine W_else rfl ?_
      refine W_skip ?_
      refine W_seq ?_
      refine W_seq ?_
      refine W_region ?_
      first | refine o_move (v := .int .i64 _) rfl rfl ?_ | refine o_move (by conv => lhs; whnf) rfl ?_
      refine o_eql rfl rfl rfl (fun h10 => ?_) (fun h10 => ?_)
      · refine WL_nil ?_
        refine W_then rfl ?_
        refine W_seq ?_
        refine W_region ?_
        first | refine o_assign (v := .int .i64 _) rfl rfl ?_ | refine o_assign (by conv => lhs; whnf) rfl ?_
        refine WL_nil ?_
        refine W_ret ?_
        refine ret_1 rfl (by conv => lhs; whnf) ?_
        exact ⟨congrArg (Value.int .i64) (by omega), S.fin⟩
      · refine WL_nil ?_
        refine W_else rfl ?_
        refine W_skip ?_
        refine W_seq ?_
        refine W_seq ?_
        refine W_region ?_
        first | refine o_move (v := .int .i64 _) rfl rfl ?_ | refine o_move (by conv => lhs; whnf) rfl ?_
        refine o_geq rfl rfl rfl (fun h12 => ?_) (fun h12 => ?_)
        · first | refine o_move (v := .bool _) rfl rfl ?_ | refine o_move (by conv => lhs; whnf) rfl ?_
          refine WL_on rfl rfl rfl ?_
          first | refine o_move (v := .int .i64 _) rfl rfl ?_ | refine o_move (by conv => lhs; whnf) rfl ?_
          refine WL_on rfl rfl rfl ?_
          refine o_leq rfl rfl rfl (fun h15 => ?_) (fun h15 => ?_)
          · first | refine o_pick rfl (v := .bool _) rfl rfl ?_ | refine o_pick rfl (by conv => lhs; whnf) rfl ?_
            refine WL_nil ?_
            refine W_then rfl ?_
            refine W_seq ?_
            refine W_region ?_
            first | refine o_assign (v := .int .i64 _) rfl rfl ?_ | refine o_assign (by conv => lhs; whnf) rfl ?_
            refine WL_nil ?_
            refine W_ret ?_
            refine ret_1 rfl (by conv => lhs; whnf) ?_
            exact ⟨congrArg (Value.int .i64) (by omega), S.fin⟩
          · first | refine o_pick rfl (v := .bool _) rfl rfl ?_ | refine o_pick rfl (by conv => lhs; whnf) rfl ?_
            refine WL_nil ?_
            refine W_else rfl ?_
            refine W_skip ?_
            refine W_seq ?_
            refine W_seq ?_
            refine W_region ?_
            first | refine o_move (v := .int .i64 _) rfl rfl ?_ | refine o_move (by conv => lhs; whnf) rfl ?_
            refine o_eql rfl rfl rfl (fun h18 => ?_) (fun h18 => ?_)
            · refine WL_nil ?_
              refine W_then rfl ?_
              refine W_seq ?_
              refine W_region ?_
              first | refine o_assign (v := .int .i64 _) rfl rfl ?_ | refine o_assign (by conv => lhs; whnf) rfl ?_
              refine WL_nil ?_
              refine W_ret ?_
              refine ret_1 rfl (by conv => lhs; whnf) ?_
              exact ⟨congrArg (Value.int .i64) (by omega), S.fin⟩
            · refine WL_nil ?_
              refine W_else rfl ?_
              refine W_skip ?_
              refine W_seq ?_
              refine W_region ?_
              first | refine o_assign (v := .int .i64 _) rfl rfl ?_ | refine o_assign (by conv => lhs; whnf) rfl ?_
              refine WL_nil ?_
              refine W_ret ?_
              refine ret_1 rfl (by conv => lhs; whnf) ?_
              exact ⟨congrArg (Value.int .i64) (by omega), S.fin⟩
        · first | refine o_move (v := .bool _) rfl rfl ?_ | refine o_move (by conv => lhs; whnf) rfl ?_
          refine WL_off rfl rfl rfl rfl ?_
          refine WL_off rfl rfl rfl rfl ?_
          first | refine o_pick rfl (v := .bool _) rfl rfl ?_ | refine o_pick rfl (by conv => lhs; whnf) rfl ?_
          refine WL_nil ?_
          refine W_else rfl ?_
          refine W_skip ?_
          refine W_seq ?_
          refine W_seq ?_
          refine W_region ?_
          first | refine o_move (v := .int .i64 _) rfl rfl ?_ | refine o_move (by conv => lhs; whnf) rfl ?_
          refine o_eql rfl rfl rfl (fun h18 => ?_) (fun h18 => ?_)
          · refine WL_nil ?_
            refine W_then rfl ?_
            refine W_seq ?_
            refine W_region ?_
            first | refine o_assign (v := .int .i64 _) rfl rfl ?_ | refine o_assign (by conv => lhs; whnf) rfl ?_
            refine WL_nil ?_
            refine W_ret ?_
            refine ret_1 rfl (by conv => lhs; whnf) ?_
            exact ⟨congrArg (Value.int .i64) (by omega), S.fin⟩
          · refine WL_nil ?_
            refine W_else rfl ?_
            refine W_skip ?_
            refine W_seq ?_
            refine W_region ?_
            first | refine o_assign (v := .int .i64 _) rfl rfl ?_ | refine o_assign (by conv => lhs; whnf) rfl ?_
            refine WL_nil ?_
            refine W_ret ?_
            refine ret_1 rfl (by conv => lhs; whnf) ?_
            exact ⟨congrArg (Value.int .i64) (by omega), S.fin⟩
  · first | refine o_move (v := .bool _) rfl rfl ?_ | refine o_move (by conv => lhs; whnf) rfl ?_
    refine WL_off rfl rfl rfl rfl ?_
    refine WL_off rfl rfl rfl rfl ?_
    first | refine o_pick rfl (v := .bool _) rfl rfl ?_ | refine o_pick rfl (by conv => lhs; whnf) rfl ?_
    refine WL_nil ?_
    refine W_else rfl ?_
    refine W_skip ?_
    refine W_seq ?_
    refine W_seq ?_
    refine W_region ?_
    first | refine o_move (v := .int .i64 _) rfl rfl ?_ | refine o_move (by conv => lhs; whnf) rfl ?_
    refine o_eql rfl rfl rfl (fun h10 => ?_) (fun h10 => ?_)
    · refine WL_nil ?_
      refine W_then rfl ?_
      refine W_seq ?_
      refine W_region ?_
      first | refine o_assign (v := .int .i64 _) rfl rfl ?_ | refine o_assign (by conv => lhs; whnf) rfl ?_
      refine WL_nil ?_
      refine W_ret ?_
      refine ret_1 rfl (by conv => lhs; whnf) ?_
      exact ⟨congrArg (Value.int .i64) (by omega), S.fin⟩
    · refine WL_nil ?_
      refine W_else rfl ?_
      refine W_skip ?_
      refine W_seq ?_
      refine W_seq ?_
      refine W_region ?_
      first | refine o_move (v := .int .i64 _) rfl rfl ?_ | refine o_move (by conv => lhs; whnf) rfl ?_
      refine o_geq rfl rfl rfl (fun h12 => ?_) (fun h12 => ?_)
      · first | refine o_move (v := .bool _) rfl rfl ?_ | refine o_move (by conv => lhs; whnf) rfl ?_
        refine WL_on rfl rfl rfl ?_
        first | refine o_move (v := .int .i64 _) rfl rfl ?_ | refine o_move (by conv => lhs; whnf) rfl ?_
        refine WL_on rfl rfl rfl ?_
        refine o_leq rfl rfl rfl (fun h15 => ?_) (fun h15 => ?_)
        · first | refine o_pick rfl (v := .bool _) rfl rfl ?_ | refine o_pick rfl (by conv => lhs; whnf) rfl ?_
          refine WL_nil ?_
          refine W_then rfl ?_
          refine W_seq ?_
          refine W_region ?_
          first | refine o_assign (v := .int .i64 _) rfl rfl ?_ | refine o_assign (by conv => lhs; whnf) rfl ?_
          refine WL_nil ?_
          refine W_ret ?_
          refine ret_1 rfl (by conv => lhs; whnf) ?_
          exact ⟨congrArg (Value.int .i64) (by omega), S.fin⟩
        · first | refine o_pick rfl (v := .bool _) rfl rfl ?_ | refine o_pick rfl (by conv => lhs; whnf) rfl ?_
          refine WL_nil ?_
          refine W_else rfl ?_
          refine W_skip ?_
          refine W_seq ?_
          refine W_seq ?_
          refine W_region ?_
          first | refine o_move (v := .int .i64 _) rfl rfl ?_ | refine o_move (by conv => lhs; whnf) rfl ?_
          refine o_eql rfl rfl rfl (fun h18 => ?_) (fun h18 => ?_)
          · refine WL_nil ?_
            refine W_then rfl ?_
            refine W_seq ?_
            refine W_region ?_
            first | refine o_assign (v := .int .i64 _) rfl rfl ?_ | refine o_assign (by conv => lhs; whnf) rfl ?_
            refine WL_nil ?_
            refine W_ret ?_
            refine ret_1 rfl (by conv => lhs; whnf) ?_
            exact ⟨congrArg (Value.int .i64) (by omega), S.fin⟩
          · refine WL_nil ?_
            refine W_else rfl ?_
            refine W_skip ?_
            refine W_seq ?_
            refine W_region ?_
            first | refine o_assign (v := .int .i64 _) rfl rfl ?_ | refine o_assign (by conv => lhs; whnf) rfl ?_
            refine WL_nil ?_
            refine W_ret ?_
            refine ret_1 rfl (by conv => lhs; whnf) ?_
            exact ⟨congrArg (Value.int .i64) (by omega), S.fin⟩
      · first | refine o_move (v := .bool _) rfl rfl ?_ | refine o_move (by conv => lhs; whnf) rfl ?_
        refine WL_off rfl rfl rfl rfl ?_
        refine WL_off rfl rfl rfl rfl ?_
        first | refine o_pick rfl (v := .bool _) rfl rfl ?_ | refine o_pick rfl (by conv => lhs; whnf) rfl ?_
        refine WL_nil ?_
        refine W_else rfl ?_
        refine W_skip ?_
        refine W_seq ?_
        refine W_seq ?_
        refine W_region ?_
        first | refine o_move (v := .int .i64 _) rfl rfl ?_ | refine o_move (by conv => lhs; whnf) rfl ?_
        refine o_eql rfl rfl rfl (fun h18 => ?_) (fun h18 => ?_)
        · refine WL_nil ?_
          refine W_then rfl ?_
          refine W_seq ?_
          refine W_region ?_
          first | refine o_assign (v := .int .i64 _) rfl rfl ?_ | refine o_assign (by conv => lhs; whnf) rfl ?_
          refine WL_nil ?_
          refine W_ret ?_
          refine ret_1 rfl (by conv => lhs; whnf) ?_
          exact ⟨congrArg (Value.int .i64) (by omega), S.fin⟩
        · refine WL_nil ?_
          refine W_else rfl ?_
          refine W_skip ?_
          refine W_seq ?_
          refine W_region ?_
          first | refine o_assign (v := .int .i64 _) rfl rfl ?_ | refine o_assign (by conv => lhs; whnf) rfl ?_
          refine WL_nil ?_
          refine W_ret ?_
          refine ret_1 rfl (by conv => lhs; whnf) ?_
          exact ⟨congrArg (Value.int .i64) (by omega), S.fin⟩

set_option maxHeartbeats 4000000 in
theorem node_fn (e : E) (M : List Nat) (w0 : World) (cs : List Value) (hR : RdE M w0 e cs) :
    Does Tryd.prog 76 #[.agg cs.toArray] w0 fun v w' => v = .bool e.shapeB ∧ Below w0.heap.size w0 w' := by
  obtain ⟨A, n, c, rfl, o1, o2, o3, hn, hc, hm, hbig, hks⟩ := hR.open_
  have S := St.refl w0
  have ha := arityL_spec e.op
  refine Does_enter Tryd.func76 rfl Tryd.ntmps76 rfl ?_
  refine W_seq ?_
  refine W_region ?_
  refine o_boxa S (by conv => lhs; whnf) rfl ?_
  intro g1 w1 S1 X1 G1
  first | refine o_assign (v := .bool _) rfl rfl ?_ | refine o_assign (by conv => lhs; whnf) rfl ?_
  refine WL_nil ?_
  refine W_seq ?_
  refine W_seq ?_
  refine W_draw follows_mixed [0, 1, 2, 3, 4, 5, 6, 7, 8, 9, 10, 11, 12, 13, 14, 15, 16] [] [] (by kernel_rfl) rfl (Cl _ _ _ _) (Cl.start S1) ?_
  refine q_fieldAddr fa_25_0 rfl rfl ?_
  refine q_load one_3 rfl (fun w1 hw => by first | exact hw.1.cell 0 rfl rfl | exact hw.1.old hk0 | exact hw.1.old hk1 | exact hw.1.old hk2) rfl ?_
  refine q_callr has_88 rfl rfl (fun w1 S1 X1 => arity_fn _ _) ?_
  refine q_fieldAddr fa_25_3 rfl rfl ?_
  refine q_load one_23 rfl (fun w1 hw => by first | exact hw.1.cell 0 rfl rfl | exact hw.1.old hk0 | exact hw.1.old hk1 | exact hw.1.old hk2) rfl ?_
  refine q_len slz_23.slT rfl rfl ?_
  refine q_neq rfl rfl rfl (fun h9 => ?_) (fun h9 => ?_)
  · first | refine q_move (v := .bool _) rfl rfl ?_ | refine q_move (by conv => lhs; whnf) rfl ?_
    refine QL_off rfl rfl rfl ?_
    refine QL_off rfl rfl rfl ?_
    refine QL_off rfl rfl rfl ?_
    first | refine q_pick rfl (v := .bool _) rfl rfl ?_ | refine q_pick rfl (by conv => lhs; whnf) rfl ?_
    first | refine q_move (v := .bool _) rfl rfl ?_ | refine q_move (by conv => lhs; whnf) rfl ?_
    refine QL_off rfl rfl rfl ?_
    refine QL_off rfl rfl rfl ?_
    refine QL_off rfl rfl rfl ?_
    first | refine q_pick rfl (v := .bool _) rfl rfl ?_ | refine q_pick rfl (by conv => lhs; whnf) rfl ?_
    refine QL_nil ?_
    refine BK_of ?_
    refine BKL_nil ?_
    rintro wR1 ⟨SR1, XR1⟩
    refine WL_nil ?_
    refine W_then rfl ?_
    refine W_seq ?_
    refine W_region ?_
    first | refine o_assign (v := .bool _) rfl rfl ?_ | refine o_assign (by conv => lhs; whnf) rfl ?_
    refine WL_nil ?_
    refine W_ret ?_
    refine ret_1 rfl (by conv => lhs; whnf) ?_
    first
      | exact ⟨shape_f (fun h => by have := Shape_ar h; omega), SR1.fin⟩
      | exact ⟨shape_t ((Shape_1 (by omega)).2 (by omega)), SR1.fin⟩
      | exact ⟨shape_f (fun h => by have := (Shape_1 (by omega)).1 h; omega), SR1.fin⟩
      | exact ⟨shape_t ((Shape_2 (by omega)).2 (by omega)), SR1.fin⟩
      | exact ⟨shape_f (fun h => by have := (Shape_2 (by omega)).1 h; omega), SR1.fin⟩
      | exact ⟨shape_t ((Shape_4 (by omega)).2 (by omega)), SR1.fin⟩
      | exact ⟨shape_f (fun h => by have := (Shape_4 (by omega)).1 h; omega), SR1.fin⟩
      | exact ⟨shape_t ((Shape_11 (by omega)).2 (by omega)), SR1.fin⟩
      | exact ⟨shape_f (fun h => by have := (Shape_11 (by omega)).1 h; omega), SR1.fin⟩
      | exact ⟨shape_t ((Shape_14 (by omega)).2 (by omega)), SR1.fin⟩
      | exact ⟨shape_f (fun h => by have := (Shape_14 (by omega)).1 h; omega), SR1.fin⟩
      | exact ⟨shape_t ((Shape_5 (by omega)).2 (by omega)), SR1.fin⟩
      | exact ⟨shape_f (fun h => by have := (Shape_5 (by omega)).1 h; omega), SR1.fin⟩
  · first | refine q_move (v := .bool _) rfl rfl ?_ | refine q_move (by conv => lhs; whnf) rfl ?_
    refine QL_on rfl rfl ?_
    refine q_fieldAddr fa_25_1 rfl rfl ?_
    refine QL_on rfl rfl ?_
    refine q_load one_3 rfl (fun w1 hw => by first | exact hw.1.cell 0 rfl rfl | exact hw.1.old hk0 | exact hw.1.old hk1 | exact hw.1.old hk2) rfl ?_
    refine QL_on rfl rfl ?_
    refine q_lss rfl rfl rfl (fun h13 => ?_) (fun h13 => ?_)
    · first | refine q_pick rfl (v := .bool _) rfl rfl ?_ | refine q_pick rfl (by conv => lhs; whnf) rfl ?_
      first | refine q_move (v := .bool _) rfl rfl ?_ | refine q_move (by conv => lhs; whnf) rfl ?_
      refine QL_off rfl rfl rfl ?_
      refine QL_off rfl rfl rfl ?_
      refine QL_off rfl rfl rfl ?_
      first | refine q_pick rfl (v := .bool _) rfl rfl ?_ | refine q_pick rfl (by conv => lhs; whnf) rfl ?_
      refine QL_nil ?_
      refine BK_of ?_
      refine BKL_nil ?_
      rintro wR1 ⟨SR1, XR1⟩
      refine WL_nil ?_
      refine W_then rfl ?_
      refine W_seq ?_
      refine W_region ?_
      first | refine o_assign (v := .bool _) rfl rfl ?_ | refine o_assign (by conv => lhs; whnf) rfl ?_
      refine WL_nil ?_
      refine W_ret ?_
      refine ret_1 rfl (by conv => lhs; whnf) ?_
      first
        | exact ⟨shape_f (fun h => by have := Shape_ar h; omega), SR1.fin⟩
        | exact ⟨shape_t ((Shape_1 (by omega)).2 (by omega)), SR1.fin⟩
        | exact ⟨shape_f (fun h => by have := (Shape_1 (by omega)).1 h; omega), SR1.fin⟩
        | exact ⟨shape_t ((Shape_2 (by omega)).2 (by omega)), SR1.fin⟩
        | exact ⟨shape_f (fun h => by have := (Shape_2 (by omega)).1 h; omega), SR1.fin⟩
        | exact ⟨shape_t ((Shape_4 (by omega)).2 (by omega)), SR1.fin⟩
        | exact ⟨shape_f (fun h => by have := (Shape_4 (by omega)).1 h; omega), SR1.fin⟩
        | exact ⟨shape_t ((Shape_11 (by omega)).2 (by omega)), SR1.fin⟩
        | exact ⟨shape_f (fun h => by have := (Shape_11 (by omega)).1 h; omega), SR1.fin⟩
        | exact ⟨shape_t ((Shape_14 (by omega)).2 (by omega)), SR1.fin⟩
        | exact ⟨shape_f (fun h => by have := (Shape_14 (by omega)).1 h; omega), SR1.fin⟩
        | exact ⟨shape_t ((Shape_5 (by omega)).2 (by omega)), SR1.fin⟩
        | exact ⟨shape_f (fun h => by have := (Shape_5 (by omega)).1 h; omega), SR1.fin⟩
    · first | refine q_pick rfl (v := .bool _) rfl rfl ?_ | refine q_pick rfl (by conv => lhs; whnf) rfl ?_
      first | refine q_move (v := .bool _) rfl rfl ?_ | refine q_move (by conv => lhs; whnf) rfl ?_
      refine QL_on rfl rfl ?_
      refine q_fieldAddr fa_25_1 rfl rfl ?_
      refine QL_on rfl rfl ?_
      refine q_load one_3 rfl (fun w1 hw => by first | exact hw.1.cell 0 rfl rfl | exact hw.1.old hk0 | exact hw.1.old hk1 | exact hw.1.old hk2) rfl ?_
      refine QL_on rfl rfl ?_
      refine q_gtr rfl rfl rfl (fun h18 => ?_) (fun h18 => ?_)
      · first | refine q_pick rfl (v := .bool _) rfl rfl ?_ | refine q_pick rfl (by conv => lhs; whnf) rfl ?_
        refine QL_nil ?_
        refine BK_of ?_
        refine BKL_nil ?_
        rintro wR1 ⟨SR1, XR1⟩
        refine WL_nil ?_
        refine W_then rfl ?_
        refine W_seq ?_
        refine W_region ?_
        first | refine o_assign (v := .bool _) rfl rfl ?_ | refine o_assign (by conv => lhs; whnf) rfl ?_
        refine WL_nil ?_
        refine W_ret ?_
        refine ret_1 rfl (by conv => lhs; whnf) ?_
        first
          | exact ⟨shape_f (fun h => by have := Shape_ar h; omega), SR1.fin⟩
          | exact ⟨shape_t ((Shape_1 (by omega)).2 (by omega)), SR1.fin⟩
          | exact ⟨shape_f (fun h => by have := (Shape_1 (by omega)).1 h; omega), SR1.fin⟩
          | exact ⟨shape_t ((Shape_2 (by omega)).2 (by omega)), SR1.fin⟩
          | exact ⟨shape_f (fun h => by have := (Shape_2 (by omega)).1 h; omega), SR1.fin⟩
          | exact ⟨shape_t ((Shape_4 (by omega)).2 (by omega)), SR1.fin⟩
          | exact ⟨shape_f (fun h => by have := (Shape_4 (by omega)).1 h; omega), SR1.fin⟩
          | exact ⟨shape_t ((Shape_11 (by omega)).2 (by omega)), SR1.fin⟩
          | exact ⟨shape_f (fun h => by have := (Shape_11 (by omega)).1 h; omega), SR1.fin⟩
          | exact ⟨shape_t ((Shape_14 (by omega)).2 (by omega)), SR1.fin⟩
          | exact ⟨shape_f (fun h => by have := (Shape_14 (by omega)).1 h; omega), SR1.fin⟩
          | exact ⟨shape_t ((Shape_5 (by omega)).2 (by omega)), SR1.fin⟩
          | exact ⟨shape_f (fun h => by have := (Shape_5 (by omega)).1 h; omega), SR1.fin⟩
      · first | refine q_pick rfl (v := .bool _) rfl rfl ?_ | refine q_pick rfl (by conv => lhs; whnf) rfl ?_
        refine QL_nil ?_
        refine BK_of ?_
        refine BKL_nil ?_
        rintro wR1 ⟨SR1, XR1⟩
        refine WL_nil ?_
        refine W_else rfl ?_
        refine W_skip ?_
        refine W_seq ?_
        refine W_seq ?_
        refine W_region ?_
        refine o_fieldAddr fa_25_0 rfl rfl ?_
        refine o_load one_3 rfl (by first | exact SR1.cell 0 rfl rfl | exact SR1.old hk0 | exact SR1.old hk1 | exact SR1.old hk2) rfl ?_
        refine WL_nil ?_
        refine W_block ?_
        refine W_seq ?_
        refine W_region ?_
        refine o_eql rfl rfl rfl (fun h23 => ?_) (fun h23 => ?_)
        · first | refine o_assign (v := .bool _) rfl rfl ?_ | refine o_assign (by conv => lhs; whnf) rfl ?_
          refine WL_nil ?_
          refine W_then rfl ?_
          refine W_seq ?_
          refine W_draw follows_mixed [0, 1, 2, 3, 4, 5, 6, 7, 8, 9, 10, 11] [] [] (by kernel_rfl) rfl (Cl _ _ _ _) (Cl.start SR1) ?_
          refine q_fieldAddr fa_25_2 rfl rfl ?_
          refine q_load one_3 rfl (fun w1 hw => by first | exact hw.1.cell 0 rfl rfl | exact hw.1.old hk0 | exact hw.1.old hk1 | exact hw.1.old hk2) rfl ?_
          refine q_geq rfl rfl rfl (fun h26 => ?_) (fun h26 => ?_)
          · first | refine q_move (v := .bool _) rfl rfl ?_ | refine q_move (by conv => lhs; whnf) rfl ?_
            refine QL_on rfl rfl ?_
            refine q_fieldAddr fa_25_2 rfl rfl ?_
            refine QL_on rfl rfl ?_
            refine q_load one_3 rfl (fun w1 hw => by first | exact hw.1.cell 0 rfl rfl | exact hw.1.old hk0 | exact hw.1.old hk1 | exact hw.1.old hk2) rfl ?_
            refine QL_on rfl rfl ?_
            refine q_fieldAddr fa_25_1 rfl rfl ?_
            refine QL_on rfl rfl ?_
            refine q_load one_3 rfl (fun w1 hw => by first | exact hw.1.cell 0 rfl rfl | exact hw.1.old hk0 | exact hw.1.old hk1 | exact hw.1.old hk2) rfl ?_
            refine QL_on rfl rfl ?_
            refine q_callr has_35 rfl rfl (fun w1 S1 X1 => power_eq _ _ (by omega) (by omega)) ?_
            refine QL_on rfl rfl ?_
            refine q_lss rfl rfl rfl (fun h33 => ?_) (fun h33 => ?_)
            · first | refine q_pick rfl (v := .bool _) rfl rfl ?_ | refine q_pick rfl (by conv => lhs; whnf) rfl ?_
              first | refine q_assign (v := .bool _) rfl rfl ?_ | refine q_assign (by conv => lhs; whnf) rfl ?_
              refine QL_nil ?_
              refine BK_of ?_
              refine BKL_nil ?_
              rintro wR5 ⟨SR5, XR5⟩
              refine WL_nil ?_
              refine W_ret ?_
              refine ret_1 rfl (by conv => lhs; whnf) ?_
              first
                | exact ⟨shape_f (fun h => by have := Shape_ar h; omega), SR5.fin⟩
                | exact ⟨shape_t ((Shape_1 (by omega)).2 (by omega)), SR5.fin⟩
                | exact ⟨shape_f (fun h => by have := (Shape_1 (by omega)).1 h; omega), SR5.fin⟩
                | exact ⟨shape_t ((Shape_2 (by omega)).2 (by omega)), SR5.fin⟩
                | exact ⟨shape_f (fun h => by have := (Shape_2 (by omega)).1 h; omega), SR5.fin⟩
                | exact ⟨shape_t ((Shape_4 (by omega)).2 (by omega)), SR5.fin⟩
                | exact ⟨shape_f (fun h => by have := (Shape_4 (by omega)).1 h; omega), SR5.fin⟩
                | exact ⟨shape_t ((Shape_11 (by omega)).2 (by omega)), SR5.fin⟩
                | exact ⟨shape_f (fun h => by have := (Shape_11 (by omega)).1 h; omega), SR5.fin⟩
                | exact ⟨shape_t ((Shape_14 (by omega)).2 (by omega)), SR5.fin⟩
                | exact ⟨shape_f (fun h => by have := (Shape_14 (by omega)).1 h; omega), SR5.fin⟩
                | exact ⟨shape_t ((Shape_5 (by omega)).2 (by omega)), SR5.fin⟩
                | exact ⟨shape_f (fun h => by have := (Shape_5 (by omega)).1 h; omega), SR5.fin⟩
            · first | refine q_pick rfl (v := .bool _) rfl rfl ?_ | refine q_pick rfl (by conv => lhs; whnf) rfl ?_
              first | refine q_assign (v := .bool _) rfl rfl ?_ | refine q_assign (by conv => lhs; whnf) rfl ?_
              refine QL_nil ?_
              refine BK_of ?_
              refine BKL_nil ?_
              rintro wR5 ⟨SR5, XR5⟩
              refine WL_nil ?_
              refine W_ret ?_
              refine ret_1 rfl (by conv => lhs; whnf) ?_
              first
                | exact ⟨shape_f (fun h => by have := Shape_ar h; omega), SR5.fin⟩
                | exact ⟨shape_t ((Shape_1 (by omega)).2 (by omega)), SR5.fin⟩
                | exact ⟨shape_f (fun h => by have := (Shape_1 (by omega)).1 h; omega), SR5.fin⟩
                | exact ⟨shape_t ((Shape_2 (by omega)).2 (by omega)), SR5.fin⟩
                | exact ⟨shape_f (fun h => by have := (Shape_2 (by omega)).1 h; omega), SR5.fin⟩
                | exact ⟨shape_t ((Shape_4 (by omega)).2 (by omega)), SR5.fin⟩
                | exact ⟨shape_f (fun h => by have := (Shape_4 (by omega)).1 h; omega), SR5.fin⟩
                | exact ⟨shape_t ((Shape_11 (by omega)).2 (by omega)), SR5.fin⟩
                | exact ⟨shape_f (fun h => by have := (Shape_11 (by omega)).1 h; omega), SR5.fin⟩
                | exact ⟨shape_t ((Shape_14 (by omega)).2 (by omega)), SR5.fin⟩
                | exact ⟨shape_f (fun h => by have := (Shape_14 (by omega)).1 h; omega), SR5.fin⟩
                | exact ⟨shape_t ((Shape_5 (by omega)).2 (by omega)), SR5.fin⟩
                | exact ⟨shape_f (fun h => by have := (Shape_5 (by omega)).1 h; omega), SR5.fin⟩
          · first | refine q_move (v := .bool _) rfl rfl ?_ | refine q_move (by conv => lhs; whnf) rfl ?_
            refine QL_off rfl rfl rfl ?_
            refine QL_off rfl rfl rfl ?_
            refine QL_off rfl rfl rfl ?_
            refine QL_off rfl rfl rfl ?_
            refine QL_off rfl rfl rfl ?_
            refine QL_off rfl rfl rfl ?_
            first | refine q_pick rfl (v := .bool _) rfl rfl ?_ | refine q_pick rfl (by conv => lhs; whnf) rfl ?_
            first | refine q_assign (v := .bool _) rfl rfl ?_ | refine q_assign (by conv => lhs; whnf) rfl ?_
            refine QL_nil ?_
            refine BK_of ?_
            refine BKL_nil ?_
            rintro wR5 ⟨SR5, XR5⟩
            refine WL_nil ?_
            refine W_ret ?_
            refine ret_1 rfl (by conv => lhs; whnf) ?_
            first
              | exact ⟨shape_f (fun h => by have := Shape_ar h; omega), SR5.fin⟩
              | exact ⟨shape_t ((Shape_1 (by omega)).2 (by omega)), SR5.fin⟩
              | exact ⟨shape_f (fun h => by have := (Shape_1 (by omega)).1 h; omega), SR5.fin⟩
              | exact ⟨shape_t ((Shape_2 (by omega)).2 (by omega)), SR5.fin⟩
              | exact ⟨shape_f (fun h => by have := (Shape_2 (by omega)).1 h; omega), SR5.fin⟩
              | exact ⟨shape_t ((Shape_4 (by omega)).2 (by omega)), SR5.fin⟩
              | exact ⟨shape_f (fun h => by have := (Shape_4 (by omega)).1 h; omega), SR5.fin⟩
              | exact ⟨shape_t ((Shape_11 (by omega)).2 (by omega)), SR5.fin⟩
              | exact ⟨shape_f (fun h => by have := (Shape_11 (by omega)).1 h; omega), SR5.fin⟩
              | exact ⟨shape_t ((Shape_14 (by omega)).2 (by omega)), SR5.fin⟩
              | exact ⟨shape_f (fun h => by have := (Shape_14 (by omega)).1 h; omega), SR5.fin⟩
              | exact ⟨shape_t ((Shape_5 (by omega)).2 (by omega)), SR5.fin⟩
              | exact ⟨shape_f (fun h => by have := (Shape_5 (by omega)).1 h; omega), SR5.fin⟩
        · first | refine o_assign (v := .bool _) rfl rfl ?_ | refine o_assign (by conv => lhs; whnf) rfl ?_
          refine WL_nil ?_
          refine W_else rfl ?_
          refine W_seq ?_
          refine W_seq ?_
          refine W_region ?_
          refine o_eql rfl rfl rfl (fun h36 => ?_) (fun h36 => ?_)
          · first | refine o_assign (v := .bool _) rfl rfl ?_ | refine o_assign (by conv => lhs; whnf) rfl ?_
            refine WL_nil ?_
            refine W_then rfl ?_
            refine W_skip ?_
            refine W_then rfl ?_
            refine W_seq ?_
            refine W_region ?_
            refine o_fieldAddr fa_25_2 rfl rfl ?_
            refine o_load one_3 rfl (by first | exact SR1.cell 0 rfl rfl | exact SR1.old hk0 | exact SR1.old hk1 | exact SR1.old hk2) rfl ?_
            refine o_geq rfl rfl rfl (fun h40 => ?_) (fun h40 => ?_)
            · first | refine o_move (v := .bool _) rfl rfl ?_ | refine o_move (by conv => lhs; whnf) rfl ?_
              refine WL_on rfl rfl rfl ?_
              refine o_fieldAddr fa_25_2 rfl rfl ?_
              refine WL_on rfl rfl rfl ?_
              refine o_load one_3 rfl (by first | exact SR1.cell 0 rfl rfl | exact SR1.old hk0 | exact SR1.old hk1 | exact SR1.old hk2) rfl ?_
              refine WL_on rfl rfl rfl ?_
              refine o_lss rfl rfl rfl (fun h44 => ?_) (fun h44 => ?_)
              · first | refine o_pick rfl (v := .bool _) rfl rfl ?_ | refine o_pick rfl (by conv => lhs; whnf) rfl ?_
                first | refine o_assign (v := .bool _) rfl rfl ?_ | refine o_assign (by conv => lhs; whnf) rfl ?_
                refine WL_nil ?_
                refine W_ret ?_
                refine ret_1 rfl (by conv => lhs; whnf) ?_
                first
                  | exact ⟨shape_f (fun h => by have := Shape_ar h; omega), SR1.fin⟩
                  | exact ⟨shape_t ((Shape_1 (by omega)).2 (by omega)), SR1.fin⟩
                  | exact ⟨shape_f (fun h => by have := (Shape_1 (by omega)).1 h; omega), SR1.fin⟩
                  | exact ⟨shape_t ((Shape_2 (by omega)).2 (by omega)), SR1.fin⟩
                  | exact ⟨shape_f (fun h => by have := (Shape_2 (by omega)).1 h; omega), SR1.fin⟩
                  | exact ⟨shape_t ((Shape_4 (by omega)).2 (by omega)), SR1.fin⟩
                  | exact ⟨shape_f (fun h => by have := (Shape_4 (by omega)).1 h; omega), SR1.fin⟩
                  | exact ⟨shape_t ((Shape_11 (by omega)).2 (by omega)), SR1.fin⟩
                  | exact ⟨shape_f (fun h => by have := (Shape_11 (by omega)).1 h; omega), SR1.fin⟩
                  | exact ⟨shape_t ((Shape_14 (by omega)).2 (by omega)), SR1.fin⟩
                  | exact ⟨shape_f (fun h => by have := (Shape_14 (by omega)).1 h; omega), SR1.fin⟩
                  | exact ⟨shape_t ((Shape_5 (by omega)).2 (by omega)), SR1.fin⟩
                  | exact ⟨shape_f (fun h => by have := (Shape_5 (by omega)).1 h; omega), SR1.fin⟩
              · first | refine o_pick rfl (v := .bool _) rfl rfl ?_ | refine o_pick rfl (by conv => lhs; whnf) rfl ?_
                first | refine o_assign (v := .bool _) rfl rfl ?_ | refine o_assign (by conv => lhs; whnf) rfl ?_
                refine WL_nil ?_
                refine W_ret ?_
                refine ret_1 rfl (by conv => lhs; whnf) ?_
                first
                  | exact ⟨shape_f (fun h => by have := Shape_ar h; omega), SR1.fin⟩
                  | exact ⟨shape_t ((Shape_1 (by omega)).2 (by omega)), SR1.fin⟩
                  | exact ⟨shape_f (fun h => by have := (Shape_1 (by omega)).1 h; omega), SR1.fin⟩
                  | exact ⟨shape_t ((Shape_2 (by omega)).2 (by omega)), SR1.fin⟩
                  | exact ⟨shape_f (fun h => by have := (Shape_2 (by omega)).1 h; omega), SR1.fin⟩
                  | exact ⟨shape_t ((Shape_4 (by omega)).2 (by omega)), SR1.fin⟩
                  | exact ⟨shape_f (fun h => by have := (Shape_4 (by omega)).1 h; omega), SR1.fin⟩
                  | exact ⟨shape_t ((Shape_11 (by omega)).2 (by omega)), SR1.fin⟩
                  | exact ⟨shape_f (fun h => by have := (Shape_11 (by omega)).1 h; omega), SR1.fin⟩
                  | exact ⟨shape_t ((Shape_14 (by omega)).2 (by omega)), SR1.fin⟩
                  | exact ⟨shape_f (fun h => by have := (Shape_14 (by omega)).1 h; omega), SR1.fin⟩
                  | exact ⟨shape_t ((Shape_5 (by omega)).2 (by omega)), SR1.fin⟩
                  | exact ⟨shape_f (fun h => by have := (Shape_5 (by omega)).1 h; omega), SR1.fin⟩
            · first | refine o_move (v := .bool _) rfl rfl ?_ | refine o_move (by conv => lhs; whnf) rfl ?_
              refine WL_off rfl rfl rfl rfl ?_
              refine WL_off rfl rfl rfl rfl ?_
              refine WL_off rfl rfl rfl rfl ?_
              first | refine o_pick rfl (v := .bool _) rfl rfl ?_ | refine o_pick rfl (by conv => lhs; whnf) rfl ?_
              first | refine o_assign (v := .bool _) rfl rfl ?_ | refine o_assign (by conv => lhs; whnf) rfl ?_
              refine WL_nil ?_
              refine W_ret ?_
              refine ret_1 rfl (by conv => lhs; whnf) ?_
              first
                | exact ⟨shape_f (fun h => by have := Shape_ar h; omega), SR1.fin⟩
                | exact ⟨shape_t ((Shape_1 (by omega)).2 (by omega)), SR1.fin⟩
                | exact ⟨shape_f (fun h => by have := (Shape_1 (by omega)).1 h; omega), SR1.fin⟩
                | exact ⟨shape_t ((Shape_2 (by omega)).2 (by omega)), SR1.fin⟩
                | exact ⟨shape_f (fun h => by have := (Shape_2 (by omega)).1 h; omega), SR1.fin⟩
                | exact ⟨shape_t ((Shape_4 (by omega)).2 (by omega)), SR1.fin⟩
                | exact ⟨shape_f (fun h => by have := (Shape_4 (by omega)).1 h; omega), SR1.fin⟩
                | exact ⟨shape_t ((Shape_11 (by omega)).2 (by omega)), SR1.fin⟩
                | exact ⟨shape_f (fun h => by have := (Shape_11 (by omega)).1 h; omega), SR1.fin⟩
                | exact ⟨shape_t ((Shape_14 (by omega)).2 (by omega)), SR1.fin⟩
                | exact ⟨shape_f (fun h => by have := (Shape_14 (by omega)).1 h; omega), SR1.fin⟩
                | exact ⟨shape_t ((Shape_5 (by omega)).2 (by omega)), SR1.fin⟩
                | exact ⟨shape_f (fun h => by have := (Shape_5 (by omega)).1 h; omega), SR1.fin⟩
          · first | refine o_assign (v := .bool _) rfl rfl ?_ | refine o_assign (by conv => lhs; whnf) rfl ?_
            refine WL_nil ?_
            refine W_else rfl ?_
            refine W_region ?_
            refine o_eql rfl rfl rfl (fun h37 => ?_) (fun h37 => ?_)
            · first | refine o_assign (v := .bool _) rfl rfl ?_ | refine o_assign (by conv => lhs; whnf) rfl ?_
              refine WL_nil ?_
              refine W_then rfl ?_
              refine W_seq ?_
              refine W_region ?_
              refine o_fieldAddr fa_25_2 rfl rfl ?_
              refine o_load one_3 rfl (by first | exact SR1.cell 0 rfl rfl | exact SR1.old hk0 | exact SR1.old hk1 | exact SR1.old hk2) rfl ?_
              refine o_geq rfl rfl rfl (fun h40 => ?_) (fun h40 => ?_)
              · first | refine o_move (v := .bool _) rfl rfl ?_ | refine o_move (by conv => lhs; whnf) rfl ?_
                refine WL_on rfl rfl rfl ?_
                refine o_fieldAddr fa_25_2 rfl rfl ?_
                refine WL_on rfl rfl rfl ?_
                refine o_load one_3 rfl (by first | exact SR1.cell 0 rfl rfl | exact SR1.old hk0 | exact SR1.old hk1 | exact SR1.old hk2) rfl ?_
                refine WL_on rfl rfl rfl ?_
                refine o_lss rfl rfl rfl (fun h44 => ?_) (fun h44 => ?_)
                · first | refine o_pick rfl (v := .bool _) rfl rfl ?_ | refine o_pick rfl (by conv => lhs; whnf) rfl ?_
                  first | refine o_assign (v := .bool _) rfl rfl ?_ | refine o_assign (by conv => lhs; whnf) rfl ?_
                  refine WL_nil ?_
                  refine W_ret ?_
                  refine ret_1 rfl (by conv => lhs; whnf) ?_
                  first
                    | exact ⟨shape_f (fun h => by have := Shape_ar h; omega), SR1.fin⟩
                    | exact ⟨shape_t ((Shape_1 (by omega)).2 (by omega)), SR1.fin⟩
                    | exact ⟨shape_f (fun h => by have := (Shape_1 (by omega)).1 h; omega), SR1.fin⟩
                    | exact ⟨shape_t ((Shape_2 (by omega)).2 (by omega)), SR1.fin⟩
                    | exact ⟨shape_f (fun h => by have := (Shape_2 (by omega)).1 h; omega), SR1.fin⟩
                    | exact ⟨shape_t ((Shape_4 (by omega)).2 (by omega)), SR1.fin⟩
                    | exact ⟨shape_f (fun h => by have := (Shape_4 (by omega)).1 h; omega), SR1.fin⟩
                    | exact ⟨shape_t ((Shape_11 (by omega)).2 (by omega)), SR1.fin⟩
                    | exact ⟨shape_f (fun h => by have := (Shape_11 (by omega)).1 h; omega), SR1.fin⟩
                    | exact ⟨shape_t ((Shape_14 (by omega)).2 (by omega)), SR1.fin⟩
                    | exact ⟨shape_f (fun h => by have := (Shape_14 (by omega)).1 h; omega), SR1.fin⟩
                    | exact ⟨shape_t ((Shape_5 (by omega)).2 (by omega)), SR1.fin⟩
                    | exact ⟨shape_f (fun h => by have := (Shape_5 (by omega)).1 h; omega), SR1.fin⟩
                · first | refine o_pick rfl (v := .bool _) rfl rfl ?_ | refine o_pick rfl (by conv => lhs; whnf) rfl ?_
                  first | refine o_assign (v := .bool _) rfl rfl ?_ | refine o_assign (by conv => lhs; whnf) rfl ?_
                  refine WL_nil ?_
                  refine W_ret ?_
                  refine ret_1 rfl (by conv => lhs; whnf) ?_
                  first
                    | exact ⟨shape_f (fun h => by have := Shape_ar h; omega), SR1.fin⟩
                    | exact ⟨shape_t ((Shape_1 (by omega)).2 (by omega)), SR1.fin⟩
                    | exact ⟨shape_f (fun h => by have := (Shape_1 (by omega)).1 h; omega), SR1.fin⟩
                    | exact ⟨shape_t ((Shape_2 (by omega)).2 (by omega)), SR1.fin⟩
                    | exact ⟨shape_f (fun h => by have := (Shape_2 (by omega)).1 h; omega), SR1.fin⟩
                    | exact ⟨shape_t ((Shape_4 (by omega)).2 (by omega)), SR1.fin⟩
                    | exact ⟨shape_f (fun h => by have := (Shape_4 (by omega)).1 h; omega), SR1.fin⟩
                    | exact ⟨shape_t ((Shape_11 (by omega)).2 (by omega)), SR1.fin⟩
                    | exact ⟨shape_f (fun h => by have := (Shape_11 (by omega)).1 h; omega), SR1.fin⟩
                    | exact ⟨shape_t ((Shape_14 (by omega)).2 (by omega)), SR1.fin⟩
                    | exact ⟨shape_f (fun h => by have := (Shape_14 (by omega)).1 h; omega), SR1.fin⟩
                    | exact ⟨shape_t ((Shape_5 (by omega)).2 (by omega)), SR1.fin⟩
                    | exact ⟨shape_f (fun h => by have := (Shape_5 (by omega)).1 h; omega), SR1.fin⟩
              · first | refine o_move (v := .bool _) rfl rfl ?_ | refine o_move (by conv => lhs; whnf) rfl ?_
                refine WL_off rfl rfl rfl rfl ?_
                refine WL_off rfl rfl rfl rfl ?_
                refine WL_off rfl rfl rfl rfl ?_
                first | refine o_pick rfl (v := .bool _) rfl rfl ?_ | refine o_pick rfl (by conv => lhs; whnf) rfl ?_
                first | refine o_assign (v := .bool _) rfl rfl ?_ | refine o_assign (by conv => lhs; whnf) rfl ?_
                refine WL_nil ?_
                refine W_ret ?_
                refine ret_1 rfl (by conv => lhs; whnf) ?_
                first
                  | exact ⟨shape_f (fun h => by have := Shape_ar h; omega), SR1.fin⟩
                  | exact ⟨shape_t ((Shape_1 (by omega)).2 (by omega)), SR1.fin⟩
                  | exact ⟨shape_f (fun h => by have := (Shape_1 (by omega)).1 h; omega), SR1.fin⟩
                  | exact ⟨shape_t ((Shape_2 (by omega)).2 (by omega)), SR1.fin⟩
                  | exact ⟨shape_f (fun h => by have := (Shape_2 (by omega)).1 h; omega), SR1.fin⟩
                  | exact ⟨shape_t ((Shape_4 (by omega)).2 (by omega)), SR1.fin⟩
                  | exact ⟨shape_f (fun h => by have := (Shape_4 (by omega)).1 h; omega), SR1.fin⟩
                  | exact ⟨shape_t ((Shape_11 (by omega)).2 (by omega)), SR1.fin⟩
                  | exact ⟨shape_f (fun h => by have := (Shape_11 (by omega)).1 h; omega), SR1.fin⟩
                  | exact ⟨shape_t ((Shape_14 (by omega)).2 (by omega)), SR1.fin⟩
                  | exact ⟨shape_f (fun h => by have := (Shape_14 (by omega)).1 h; omega), SR1.fin⟩
                  | exact ⟨shape_t ((Shape_5 (by omega)).2 (by omega)), SR1.fin⟩
                  | exact ⟨shape_f (fun h => by have := (Shape_5 (by omega)).1 h; omega), SR1.fin⟩
            · first | refine o_assign (v := .bool _) rfl rfl ?_ | refine o_assign (by conv => lhs; whnf) rfl ?_
              refine WL_nil ?_
              refine W_else rfl ?_
              refine W_seq ?_
              refine W_region ?_
              refine o_eql rfl rfl rfl (fun h47 => ?_) (fun h47 => ?_)
              · first | refine o_assign (v := .bool _) rfl rfl ?_ | refine o_assign (by conv => lhs; whnf) rfl ?_
                refine WL_nil ?_
                refine W_then rfl ?_
                refine W_seq ?_
                refine W_draw follows_mixed [0, 1, 2, 3, 4, 5, 6, 7, 8, 9, 10, 11, 12, 13] [] [] (by kernel_rfl) rfl (Cl _ _ _ _) (Cl.start SR1) ?_
                refine q_fieldAddr fa_25_2 rfl rfl ?_
                refine q_load one_3 rfl (fun w1 hw => by first | exact hw.1.cell 0 rfl rfl | exact hw.1.old hk0 | exact hw.1.old hk1 | exact hw.1.old hk2) rfl ?_
                refine q_eql rfl rfl rfl (fun h50 => ?_) (fun h50 => ?_)
                · first | refine q_move (v := .bool _) rfl rfl ?_ | refine q_move (by conv => lhs; whnf) rfl ?_
                  refine QL_on rfl rfl ?_
                  refine q_fieldAddr fa_25_3 rfl rfl ?_
                  refine QL_on rfl rfl ?_
                  refine q_load one_23 rfl (fun w1 hw => by first | exact hw.1.cell 0 rfl rfl | exact hw.1.old hk0 | exact hw.1.old hk1 | exact hw.1.old hk2) rfl ?_
                  refine QL_on rfl rfl ?_
                  obtain ⟨b, o, hA, hbM, hkk⟩ := hks (by omega)
                  have hk0 := kid_cells hkk 0 (by omega)
                  refine q_indexAddr slz_23.slT rfl (by first | rfl | assumption) rfl (by omega) (by omega) rfl ?_
                  refine QL_on rfl rfl ?_
                  refine q_fieldAddr fa_25_1 rfl rfl ?_
                  refine QL_on rfl rfl ?_
                  refine q_load one_3 rfl (fun w1 hw => by first | exact hw.1.cell 0 rfl rfl | exact hw.1.old hk0 | exact hw.1.old hk1 | exact hw.1.old hk2) rfl ?_
                  refine QL_on rfl rfl ?_
                  refine q_fieldAddr fa_25_1 rfl rfl ?_
                  refine QL_on rfl rfl ?_
                  refine q_load one_3 rfl (fun w1 hw => by first | exact hw.1.cell 0 rfl rfl | exact hw.1.old hk0 | exact hw.1.old hk1 | exact hw.1.old hk2) rfl ?_
                  refine QL_on rfl rfl ?_
                  refine q_eql rfl rfl rfl (fun h59 => ?_) (fun h59 => ?_)
                  · first | refine q_pick rfl (v := .bool _) rfl rfl ?_ | refine q_pick rfl (by conv => lhs; whnf) rfl ?_
                    first | refine q_assign (v := .bool _) rfl rfl ?_ | refine q_assign (by conv => lhs; whnf) rfl ?_
                    refine QL_nil ?_
                    refine BK_of ?_
                    refine BKL_nil ?_
                    rintro wR10 ⟨SR10, XR10⟩
                    refine WL_nil ?_
                    refine W_ret ?_
                    refine ret_1 rfl (by conv => lhs; whnf) ?_
                    first
                      | exact ⟨shape_f (fun h => by have := Shape_ar h; omega), SR10.fin⟩
                      | exact ⟨shape_t ((Shape_1 (by omega)).2 (by omega)), SR10.fin⟩
                      | exact ⟨shape_f (fun h => by have := (Shape_1 (by omega)).1 h; omega), SR10.fin⟩
                      | exact ⟨shape_t ((Shape_2 (by omega)).2 (by omega)), SR10.fin⟩
                      | exact ⟨shape_f (fun h => by have := (Shape_2 (by omega)).1 h; omega), SR10.fin⟩
                      | exact ⟨shape_t ((Shape_4 (by omega)).2 (by omega)), SR10.fin⟩
                      | exact ⟨shape_f (fun h => by have := (Shape_4 (by omega)).1 h; omega), SR10.fin⟩
                      | exact ⟨shape_t ((Shape_11 (by omega)).2 (by omega)), SR10.fin⟩
                      | exact ⟨shape_f (fun h => by have := (Shape_11 (by omega)).1 h; omega), SR10.fin⟩
                      | exact ⟨shape_t ((Shape_14 (by omega)).2 (by omega)), SR10.fin⟩
                      | exact ⟨shape_f (fun h => by have := (Shape_14 (by omega)).1 h; omega), SR10.fin⟩
                      | exact ⟨shape_t ((Shape_5 (by omega)).2 (by omega)), SR10.fin⟩
                      | exact ⟨shape_f (fun h => by have := (Shape_5 (by omega)).1 h; omega), SR10.fin⟩
                  · first | refine q_pick rfl (v := .bool _) rfl rfl ?_ | refine q_pick rfl (by conv => lhs; whnf) rfl ?_
                    first | refine q_assign (v := .bool _) rfl rfl ?_ | refine q_assign (by conv => lhs; whnf) rfl ?_
                    refine QL_nil ?_
                    refine BK_of ?_
                    refine BKL_nil ?_
                    rintro wR10 ⟨SR10, XR10⟩
                    refine WL_nil ?_
                    refine W_ret ?_
                    refine ret_1 rfl (by conv => lhs; whnf) ?_
                    first
                      | exact ⟨shape_f (fun h => by have := Shape_ar h; omega), SR10.fin⟩
                      | exact ⟨shape_t ((Shape_1 (by omega)).2 (by omega)), SR10.fin⟩
                      | exact ⟨shape_f (fun h => by have := (Shape_1 (by omega)).1 h; omega), SR10.fin⟩
                      | exact ⟨shape_t ((Shape_2 (by omega)).2 (by omega)), SR10.fin⟩
                      | exact ⟨shape_f (fun h => by have := (Shape_2 (by omega)).1 h; omega), SR10.fin⟩
                      | exact ⟨shape_t ((Shape_4 (by omega)).2 (by omega)), SR10.fin⟩
                      | exact ⟨shape_f (fun h => by have := (Shape_4 (by omega)).1 h; omega), SR10.fin⟩
                      | exact ⟨shape_t ((Shape_11 (by omega)).2 (by omega)), SR10.fin⟩
                      | exact ⟨shape_f (fun h => by have := (Shape_11 (by omega)).1 h; omega), SR10.fin⟩
                      | exact ⟨shape_t ((Shape_14 (by omega)).2 (by omega)), SR10.fin⟩
                      | exact ⟨shape_f (fun h => by have := (Shape_14 (by omega)).1 h; omega), SR10.fin⟩
                      | exact ⟨shape_t ((Shape_5 (by omega)).2 (by omega)), SR10.fin⟩
                      | exact ⟨shape_f (fun h => by have := (Shape_5 (by omega)).1 h; omega), SR10.fin⟩
                · first | refine q_move (v := .bool _) rfl rfl ?_ | refine q_move (by conv => lhs; whnf) rfl ?_
                  refine QL_off rfl rfl rfl ?_
                  refine QL_off rfl rfl rfl ?_
                  refine QL_off rfl rfl rfl ?_
                  refine QL_off rfl rfl rfl ?_
                  refine QL_off rfl rfl rfl ?_
                  refine QL_off rfl rfl rfl ?_
                  refine QL_off rfl rfl rfl ?_
                  refine QL_off rfl rfl rfl ?_
                  first | refine q_pick rfl (v := .bool _) rfl rfl ?_ | refine q_pick rfl (by conv => lhs; whnf) rfl ?_
                  first | refine q_assign (v := .bool _) rfl rfl ?_ | refine q_assign (by conv => lhs; whnf) rfl ?_
                  refine QL_nil ?_
                  refine BK_of ?_
                  refine BKL_nil ?_
                  rintro wR10 ⟨SR10, XR10⟩
                  refine WL_nil ?_
                  refine W_ret ?_
                  refine ret_1 rfl (by conv => lhs; whnf) ?_
                  first
                    | exact ⟨shape_f (fun h => by have := Shape_ar h; omega), SR10.fin⟩
                    | exact ⟨shape_t ((Shape_1 (by omega)).2 (by omega)), SR10.fin⟩
                    | exact ⟨shape_f (fun h => by have := (Shape_1 (by omega)).1 h; omega), SR10.fin⟩
                    | exact ⟨shape_t ((Shape_2 (by omega)).2 (by omega)), SR10.fin⟩
                    | exact ⟨shape_f (fun h => by have := (Shape_2 (by omega)).1 h; omega), SR10.fin⟩
                    | exact ⟨shape_t ((Shape_4 (by omega)).2 (by omega)), SR10.fin⟩
                    | exact ⟨shape_f (fun h => by have := (Shape_4 (by omega)).1 h; omega), SR10.fin⟩
                    | exact ⟨shape_t ((Shape_11 (by omega)).2 (by omega)), SR10.fin⟩
                    | exact ⟨shape_f (fun h => by have := (Shape_11 (by omega)).1 h; omega), SR10.fin⟩
                    | exact ⟨shape_t ((Shape_14 (by omega)).2 (by omega)), SR10.fin⟩
                    | exact ⟨shape_f (fun h => by have := (Shape_14 (by omega)).1 h; omega), SR10.fin⟩
                    | exact ⟨shape_t ((Shape_5 (by omega)).2 (by omega)), SR10.fin⟩
                    | exact ⟨shape_f (fun h => by have := (Shape_5 (by omega)).1 h; omega), SR10.fin⟩
              · first | refine o_assign (v := .bool _) rfl rfl ?_ | refine o_assign (by conv => lhs; whnf) rfl ?_
                refine WL_nil ?_
                refine W_else rfl ?_
                refine W_seq ?_
                refine W_seq ?_
                refine W_region ?_
                refine o_eql rfl rfl rfl (fun h62 => ?_) (fun h62 => ?_)
                · first | refine o_assign (v := .bool _) rfl rfl ?_ | refine o_assign (by conv => lhs; whnf) rfl ?_
                  refine WL_nil ?_
                  refine W_then rfl ?_
                  refine W_skip ?_
                  refine W_then rfl ?_
                  refine W_seq ?_
                  refine W_draw follows_mixed [0, 1, 2, 3, 4, 5, 6, 7, 8, 9, 10, 11, 12, 13, 14, 15, 16, 17, 18, 19, 20, 21] [] [] (by kernel_rfl) rfl (Cl _ _ _ _) (Cl.start SR1) ?_
                  refine q_fieldAddr fa_25_2 rfl rfl ?_
                  refine q_load one_3 rfl (fun w1 hw => by first | exact hw.1.cell 0 rfl rfl | exact hw.1.old hk0 | exact hw.1.old hk1 | exact hw.1.old hk2) rfl ?_
                  refine q_eql rfl rfl rfl (fun h67 => ?_) (fun h67 => ?_)
                  · first | refine q_move (v := .bool _) rfl rfl ?_ | refine q_move (by conv => lhs; whnf) rfl ?_
                    refine QL_on rfl rfl ?_
                    refine q_fieldAddr fa_25_1 rfl rfl ?_
                    refine QL_on rfl rfl ?_
                    refine q_load one_3 rfl (fun w1 hw => by first | exact hw.1.cell 0 rfl rfl | exact hw.1.old hk0 | exact hw.1.old hk1 | exact hw.1.old hk2) rfl ?_
                    refine QL_on rfl rfl ?_
                    refine q_eql rfl rfl rfl (fun h71 => ?_) (fun h71 => ?_)
                    · first | refine q_pick rfl (v := .bool _) rfl rfl ?_ | refine q_pick rfl (by conv => lhs; whnf) rfl ?_
                      first | refine q_move (v := .bool _) rfl rfl ?_ | refine q_move (by conv => lhs; whnf) rfl ?_
                      refine QL_on rfl rfl ?_
                      refine q_fieldAddr fa_25_3 rfl rfl ?_
                      refine QL_on rfl rfl ?_
                      refine q_load one_23 rfl (fun w1 hw => by first | exact hw.1.cell 0 rfl rfl | exact hw.1.old hk0 | exact hw.1.old hk1 | exact hw.1.old hk2) rfl ?_
                      refine QL_on rfl rfl ?_
                      obtain ⟨b, o, hA, hbM, hkk⟩ := hks (by omega)
                      have hk0 := kid_cells hkk 0 (by omega)
                      have hk1 := kid_cells hkk 1 (by omega)
                      refine q_indexAddr slz_23.slT rfl (by first | rfl | assumption) rfl (by omega) (by omega) rfl ?_
                      refine QL_on rfl rfl ?_
                      refine q_fieldAddr fa_25_1 rfl rfl ?_
                      refine QL_on rfl rfl ?_
                      refine q_load one_3 rfl (fun w1 hw => by first | exact hw.1.cell 0 rfl rfl | exact hw.1.old hk0 | exact hw.1.old hk1 | exact hw.1.old hk2) rfl ?_
                      refine QL_on rfl rfl ?_
                      refine q_fieldAddr fa_25_3 rfl rfl ?_
                      refine QL_on rfl rfl ?_
                      refine q_load one_23 rfl (fun w1 hw => by first | exact hw.1.cell 0 rfl rfl | exact hw.1.old hk0 | exact hw.1.old hk1 | exact hw.1.old hk2) rfl ?_
                      refine QL_on rfl rfl ?_
                      refine q_indexAddr slz_23.slT rfl (by first | rfl | assumption) rfl (by omega) (by omega) rfl ?_
                      refine QL_on rfl rfl ?_
                      refine q_fieldAddr fa_25_1 rfl rfl ?_
                      refine QL_on rfl rfl ?_
                      refine q_load one_3 rfl (fun w1 hw => by first | exact hw.1.cell 0 rfl rfl | exact hw.1.old hk0 | exact hw.1.old hk1 | exact hw.1.old hk2) rfl ?_
                      refine QL_on rfl rfl ?_
                      refine q_eql rfl rfl rfl (fun h84 => ?_) (fun h84 => ?_)
                      · first | refine q_pick rfl (v := .bool _) rfl rfl ?_ | refine q_pick rfl (by conv => lhs; whnf) rfl ?_
                        first | refine q_assign (v := .bool _) rfl rfl ?_ | refine q_assign (by conv => lhs; whnf) rfl ?_
                        refine QL_nil ?_
                        refine BK_of ?_
                        refine BKL_nil ?_
                        rintro wR14 ⟨SR14, XR14⟩
                        refine WL_nil ?_
                        refine W_ret ?_
                        refine ret_1 rfl (by conv => lhs; whnf) ?_
                        first
                          | exact ⟨shape_f (fun h => by have := Shape_ar h; omega), SR14.fin⟩
                          | exact ⟨shape_t ((Shape_1 (by omega)).2 (by omega)), SR14.fin⟩
                          | exact ⟨shape_f (fun h => by have := (Shape_1 (by omega)).1 h; omega), SR14.fin⟩
                          | exact ⟨shape_t ((Shape_2 (by omega)).2 (by omega)), SR14.fin⟩
                          | exact ⟨shape_f (fun h => by have := (Shape_2 (by omega)).1 h; omega), SR14.fin⟩
                          | exact ⟨shape_t ((Shape_4 (by omega)).2 (by omega)), SR14.fin⟩
                          | exact ⟨shape_f (fun h => by have := (Shape_4 (by omega)).1 h; omega), SR14.fin⟩
                          | exact ⟨shape_t ((Shape_11 (by omega)).2 (by omega)), SR14.fin⟩
                          | exact ⟨shape_f (fun h => by have := (Shape_11 (by omega)).1 h; omega), SR14.fin⟩
                          | exact ⟨shape_t ((Shape_14 (by omega)).2 (by omega)), SR14.fin⟩
                          | exact ⟨shape_f (fun h => by have := (Shape_14 (by omega)).1 h; omega), SR14.fin⟩
                          | exact ⟨shape_t ((Shape_5 (by omega)).2 (by omega)), SR14.fin⟩
                          | exact ⟨shape_f (fun h => by have := (Shape_5 (by omega)).1 h; omega), SR14.fin⟩
                      · first | refine q_pick rfl (v := .bool _) rfl rfl ?_ | refine q_pick rfl (by conv => lhs; whnf) rfl ?_
                        first | refine q_assign (v := .bool _) rfl rfl ?_ | refine q_assign (by conv => lhs; whnf) rfl ?_
                        refine QL_nil ?_
                        refine BK_of ?_
                        refine BKL_nil ?_
                        rintro wR14 ⟨SR14, XR14⟩
                        refine WL_nil ?_
                        refine W_ret ?_
                        refine ret_1 rfl (by conv => lhs; whnf) ?_
                        first
                          | exact ⟨shape_f (fun h => by have := Shape_ar h; omega), SR14.fin⟩
                          | exact ⟨shape_t ((Shape_1 (by omega)).2 (by omega)), SR14.fin⟩
                          | exact ⟨shape_f (fun h => by have := (Shape_1 (by omega)).1 h; omega), SR14.fin⟩
                          | exact ⟨shape_t ((Shape_2 (by omega)).2 (by omega)), SR14.fin⟩
                          | exact ⟨shape_f (fun h => by have := (Shape_2 (by omega)).1 h; omega), SR14.fin⟩
                          | exact ⟨shape_t ((Shape_4 (by omega)).2 (by omega)), SR14.fin⟩
                          | exact ⟨shape_f (fun h => by have := (Shape_4 (by omega)).1 h; omega), SR14.fin⟩
                          | exact ⟨shape_t ((Shape_11 (by omega)).2 (by omega)), SR14.fin⟩
                          | exact ⟨shape_f (fun h => by have := (Shape_11 (by omega)).1 h; omega), SR14.fin⟩
                          | exact ⟨shape_t ((Shape_14 (by omega)).2 (by omega)), SR14.fin⟩
                          | exact ⟨shape_f (fun h => by have := (Shape_14 (by omega)).1 h; omega), SR14.fin⟩
                          | exact ⟨shape_t ((Shape_5 (by omega)).2 (by omega)), SR14.fin⟩
                          | exact ⟨shape_f (fun h => by have := (Shape_5 (by omega)).1 h; omega), SR14.fin⟩
                    · first | refine q_pick rfl (v := .bool _) rfl rfl ?_ | refine q_pick rfl (by conv => lhs; whnf) rfl ?_
                      first | refine q_move (v := .bool _) rfl rfl ?_ | refine q_move (by conv => lhs; whnf) rfl ?_
                      refine QL_off rfl rfl rfl ?_
                      refine QL_off rfl rfl rfl ?_
                      refine QL_off rfl rfl rfl ?_
                      refine QL_off rfl rfl rfl ?_
                      refine QL_off rfl rfl rfl ?_
                      refine QL_off rfl rfl rfl ?_
                      refine QL_off rfl rfl rfl ?_
                      refine QL_off rfl rfl rfl ?_
                      refine QL_off rfl rfl rfl ?_
                      refine QL_off rfl rfl rfl ?_
                      refine QL_off rfl rfl rfl ?_
                      first | refine q_pick rfl (v := .bool _) rfl rfl ?_ | refine q_pick rfl (by conv => lhs; whnf) rfl ?_
                      first | refine q_assign (v := .bool _) rfl rfl ?_ | refine q_assign (by conv => lhs; whnf) rfl ?_
                      refine QL_nil ?_
                      refine BK_of ?_
                      refine BKL_nil ?_
                      rintro wR14 ⟨SR14, XR14⟩
                      refine WL_nil ?_
                      refine W_ret ?_
                      refine ret_1 rfl (by conv => lhs; whnf) ?_
                      first
                        | exact ⟨shape_f (fun h => by have := Shape_ar h; omega), SR14.fin⟩
                        | exact ⟨shape_t ((Shape_1 (by omega)).2 (by omega)), SR14.fin⟩
                        | exact ⟨shape_f (fun h => by have := (Shape_1 (by omega)).1 h; omega), SR14.fin⟩
                        | exact ⟨shape_t ((Shape_2 (by omega)).2 (by omega)), SR14.fin⟩
                        | exact ⟨shape_f (fun h => by have := (Shape_2 (by omega)).1 h; omega), SR14.fin⟩
                        | exact ⟨shape_t ((Shape_4 (by omega)).2 (by omega)), SR14.fin⟩
                        | exact ⟨shape_f (fun h => by have := (Shape_4 (by omega)).1 h; omega), SR14.fin⟩
                        | exact ⟨shape_t ((Shape_11 (by omega)).2 (by omega)), SR14.fin⟩
                        | exact ⟨shape_f (fun h => by have := (Shape_11 (by omega)).1 h; omega), SR14.fin⟩
                        | exact ⟨shape_t ((Shape_14 (by omega)).2 (by omega)), SR14.fin⟩
                        | exact ⟨shape_f (fun h => by have := (Shape_14 (by omega)).1 h; omega), SR14.fin⟩
                        | exact ⟨shape_t ((Shape_5 (by omega)).2 (by omega)), SR14.fin⟩
                        | exact ⟨shape_f (fun h => by have := (Shape_5 (by omega)).1 h; omega), SR14.fin⟩
                  · first | refine q_move (v := .bool _) rfl rfl ?_ | refine q_move (by conv => lhs; whnf) rfl ?_
                    refine QL_off rfl rfl rfl ?_
                    refine QL_off rfl rfl rfl ?_
                    refine QL_off rfl rfl rfl ?_
                    first | refine q_pick rfl (v := .bool _) rfl rfl ?_ | refine q_pick rfl (by conv => lhs; whnf) rfl ?_
                    first | refine q_move (v := .bool _) rfl rfl ?_ | refine q_move (by conv => lhs; whnf) rfl ?_
                    refine QL_off rfl rfl rfl ?_
                    refine QL_off rfl rfl rfl ?_
                    refine QL_off rfl rfl rfl ?_
                    refine QL_off rfl rfl rfl ?_
                    refine QL_off rfl rfl rfl ?_
                    refine QL_off rfl rfl rfl ?_
                    refine QL_off rfl rfl rfl ?_
                    refine QL_off rfl rfl rfl ?_
                    refine QL_off rfl rfl rfl ?_
                    refine QL_off rfl rfl rfl ?_
                    refine QL_off rfl rfl rfl ?_
                    first | refine q_pick rfl (v := .bool _) rfl rfl ?_ | refine q_pick rfl (by conv => lhs; whnf) rfl ?_
                    first | refine q_assign (v := .bool _) rfl rfl ?_ | refine q_assign (by conv => lhs; whnf) rfl ?_
                    refine QL_nil ?_
                    refine BK_of ?_
                    refine BKL_nil ?_
                    rintro wR14 ⟨SR14, XR14⟩
                    refine WL_nil ?_
                    refine W_ret ?_
                    refine ret_1 rfl (by conv => lhs; whnf) ?_
                    first
                      | exact ⟨shape_f (fun h => by have := Shape_ar h; omega), SR14.fin⟩
                      | exact ⟨shape_t ((Shape_1 (by omega)).2 (by omega)), SR14.fin⟩
                      | exact ⟨shape_f (fun h => by have := (Shape_1 (by omega)).1 h; omega), SR14.fin⟩
                      | exact ⟨shape_t ((Shape_2 (by omega)).2 (by omega)), SR14.fin⟩
                      | exact ⟨shape_f (fun h => by have := (Shape_2 (by omega)).1 h; omega), SR14.fin⟩
                      | exact ⟨shape_t ((Shape_4 (by omega)).2 (by omega)), SR14.fin⟩
                      | exact ⟨shape_f (fun h => by have := (Shape_4 (by omega)).1 h; omega), SR14.fin⟩
                      | exact ⟨shape_t ((Shape_11 (by omega)).2 (by omega)), SR14.fin⟩
                      | exact ⟨shape_f (fun h => by have := (Shape_11 (by omega)).1 h; omega), SR14.fin⟩
                      | exact ⟨shape_t ((Shape_14 (by omega)).2 (by omega)), SR14.fin⟩
                      | exact ⟨shape_f (fun h => by have := (Shape_14 (by omega)).1 h; omega), SR14.fin⟩
                      | exact ⟨shape_t ((Shape_5 (by omega)).2 (by omega)), SR14.fin⟩
                      | exact ⟨shape_f (fun h => by have := (Shape_5 (by omega)).1 h; omega), SR14.fin⟩
                · first | refine o_assign (v := .bool _) rfl rfl ?_ | refine o_assign (by conv => lhs; whnf) rfl ?_
                  refine WL_nil ?_
                  refine W_else rfl ?_
                  refine W_seq ?_
                  refine W_region ?_
                  refine o_eql rfl rfl rfl (fun h63 => ?_) (fun h63 => ?_)
                  · first | refine o_assign (v := .bool _) rfl rfl ?_ | refine o_assign (by conv => lhs; whnf) rfl ?_
                    refine WL_nil ?_
                    refine W_then rfl ?_
                    refine W_skip ?_
                    refine W_then rfl ?_
                    refine W_seq ?_
                    refine W_draw follows_mixed [0, 1, 2, 3, 4, 5, 6, 7, 8, 9, 10, 11, 12, 13, 14, 15, 16, 17, 18, 19, 20, 21] [] [] (by kernel_rfl) rfl (Cl _ _ _ _) (Cl.start SR1) ?_
                    refine q_fieldAddr fa_25_2 rfl rfl ?_
                    refine q_load one_3 rfl (fun w1 hw => by first | exact hw.1.cell 0 rfl rfl | exact hw.1.old hk0 | exact hw.1.old hk1 | exact hw.1.old hk2) rfl ?_
                    refine q_eql rfl rfl rfl (fun h67 => ?_) (fun h67 => ?_)
                    · first | refine q_move (v := .bool _) rfl rfl ?_ | refine q_move (by conv => lhs; whnf) rfl ?_
                      refine QL_on rfl rfl ?_
                      refine q_fieldAddr fa_25_1 rfl rfl ?_
                      refine QL_on rfl rfl ?_
                      refine q_load one_3 rfl (fun w1 hw => by first | exact hw.1.cell 0 rfl rfl | exact hw.1.old hk0 | exact hw.1.old hk1 | exact hw.1.old hk2) rfl ?_
                      refine QL_on rfl rfl ?_
                      refine q_eql rfl rfl rfl (fun h71 => ?_) (fun h71 => ?_)
                      · first | refine q_pick rfl (v := .bool _) rfl rfl ?_ | refine q_pick rfl (by conv => lhs; whnf) rfl ?_
                        first | refine q_move (v := .bool _) rfl rfl ?_ | refine q_move (by conv => lhs; whnf) rfl ?_
                        refine QL_on rfl rfl ?_
                        refine q_fieldAddr fa_25_3 rfl rfl ?_
                        refine QL_on rfl rfl ?_
                        refine q_load one_23 rfl (fun w1 hw => by first | exact hw.1.cell 0 rfl rfl | exact hw.1.old hk0 | exact hw.1.old hk1 | exact hw.1.old hk2) rfl ?_
                        refine QL_on rfl rfl ?_
                        obtain ⟨b, o, hA, hbM, hkk⟩ := hks (by omega)
                        have hk0 := kid_cells hkk 0 (by omega)
                        have hk1 := kid_cells hkk 1 (by omega)
                        refine q_indexAddr slz_23.slT rfl (by first | rfl | assumption) rfl (by omega) (by omega) rfl ?_
                        refine QL_on rfl rfl ?_
                        refine q_fieldAddr fa_25_1 rfl rfl ?_
                        refine QL_on rfl rfl ?_
                        refine q_load one_3 rfl (fun w1 hw => by first | exact hw.1.cell 0 rfl rfl | exact hw.1.old hk0 | exact hw.1.old hk1 | exact hw.1.old hk2) rfl ?_
                        refine QL_on rfl rfl ?_
                        refine q_fieldAddr fa_25_3 rfl rfl ?_
                        refine QL_on rfl rfl ?_
                        refine q_load one_23 rfl (fun w1 hw => by first | exact hw.1.cell 0 rfl rfl | exact hw.1.old hk0 | exact hw.1.old hk1 | exact hw.1.old hk2) rfl ?_
                        refine QL_on rfl rfl ?_
                        refine q_indexAddr slz_23.slT rfl (by first | rfl | assumption) rfl (by omega) (by omega) rfl ?_
                        refine QL_on rfl rfl ?_
                        refine q_fieldAddr fa_25_1 rfl rfl ?_
                        refine QL_on rfl rfl ?_
                        refine q_load one_3 rfl (fun w1 hw => by first | exact hw.1.cell 0 rfl rfl | exact hw.1.old hk0 | exact hw.1.old hk1 | exact hw.1.old hk2) rfl ?_
                        refine QL_on rfl rfl ?_
                        refine q_eql rfl rfl rfl (fun h84 => ?_) (fun h84 => ?_)
                        · first | refine q_pick rfl (v := .bool _) rfl rfl ?_ | refine q_pick rfl (by conv => lhs; whnf) rfl ?_
                          first | refine q_assign (v := .bool _) rfl rfl ?_ | refine q_assign (by conv => lhs; whnf) rfl ?_
                          refine QL_nil ?_
                          refine BK_of ?_
                          refine BKL_nil ?_
                          rintro wR14 ⟨SR14, XR14⟩
                          refine WL_nil ?_
                          refine W_ret ?_
                          refine ret_1 rfl (by conv => lhs; whnf) ?_
                          first
                            | exact ⟨shape_f (fun h => by have := Shape_ar h; omega), SR14.fin⟩
                            | exact ⟨shape_t ((Shape_1 (by omega)).2 (by omega)), SR14.fin⟩
                            | exact ⟨shape_f (fun h => by have := (Shape_1 (by omega)).1 h; omega), SR14.fin⟩
                            | exact ⟨shape_t ((Shape_2 (by omega)).2 (by omega)), SR14.fin⟩
                            | exact ⟨shape_f (fun h => by have := (Shape_2 (by omega)).1 h; omega), SR14.fin⟩
                            | exact ⟨shape_t ((Shape_4 (by omega)).2 (by omega)), SR14.fin⟩
                            | exact ⟨shape_f (fun h => by have := (Shape_4 (by omega)).1 h; omega), SR14.fin⟩
                            | exact ⟨shape_t ((Shape_11 (by omega)).2 (by omega)), SR14.fin⟩
                            | exact ⟨shape_f (fun h => by have := (Shape_11 (by omega)).1 h; omega), SR14.fin⟩
                            | exact ⟨shape_t ((Shape_14 (by omega)).2 (by omega)), SR14.fin⟩
                            | exact ⟨shape_f (fun h => by have := (Shape_14 (by omega)).1 h; omega), SR14.fin⟩
                            | exact ⟨shape_t ((Shape_5 (by omega)).2 (by omega)), SR14.fin⟩
                            | exact ⟨shape_f (fun h => by have := (Shape_5 (by omega)).1 h; omega), SR14.fin⟩
                        · first | refine q_pick rfl (v := .bool _) rfl rfl ?_ | refine q_pick rfl (by conv => lhs; whnf) rfl ?_
                          first | refine q_assign (v := .bool _) rfl rfl ?_ | refine q_assign (by conv => lhs; whnf) rfl ?_
                          refine QL_nil ?_
                          refine BK_of ?_
                          refine BKL_nil ?_
                          rintro wR14 ⟨SR14, XR14⟩
                          refine WL_nil ?_
                          refine W_ret ?_
                          refine ret_1 rfl (by conv => lhs; whnf) ?_
                          first
                            | exact ⟨shape_f (fun h => by have := Shape_ar h; omega), SR14.fin⟩
                            | exact ⟨shape_t ((Shape_1 (by omega)).2 (by omega)), SR14.fin⟩
                            | exact ⟨shape_f (fun h => by have := (Shape_1 (by omega)).1 h; omega), SR14.fin⟩
                            | exact ⟨shape_t ((Shape_2 (by omega)).2 (by omega)), SR14.fin⟩
                            | exact ⟨shape_f (fun h => by have := (Shape_2 (by omega)).1 h; omega), SR14.fin⟩
                            | exact ⟨shape_t ((Shape_4 (by omega)).2 (by omega)), SR14.fin⟩
                            | exact ⟨shape_f (fun h => by have := (Shape_4 (by omega)).1 h; omega), SR14.fin⟩
                            | exact ⟨shape_t ((Shape_11 (by omega)).2 (by omega)), SR14.fin⟩
                            | exact ⟨shape_f (fun h => by have := (Shape_11 (by omega)).1 h; omega), SR14.fin⟩
                            | exact ⟨shape_t ((Shape_14 (by omega)).2 (by omega)), SR14.fin⟩
                            | exact ⟨shape_f (fun h => by have := (Shape_14 (by omega)).1 h; omega), SR14.fin⟩
                            | exact ⟨shape_t ((Shape_5 (by omega)).2 (by omega)), SR14.fin⟩
                            | exact ⟨shape_f (fun h => by have := (Shape_5 (by omega)).1 h; omega), SR14.fin⟩
                      · first | refine q_pick rfl (v := .bool _) rfl rfl ?_ | refine q_pick rfl (by conv => lhs; whnf) rfl ?_
                        first | refine q_move (v := .bool _) rfl rfl ?_ | refine q_move (by conv => lhs; whnf) rfl ?_
                        refine QL_off rfl rfl rfl ?_
                        refine QL_off rfl rfl rfl ?_
                        refine QL_off rfl rfl rfl ?_
                        refine QL_off rfl rfl rfl ?_
                        refine QL_off rfl rfl rfl ?_
                        refine QL_off rfl rfl rfl ?_
                        refine QL_off rfl rfl rfl ?_
                        refine QL_off rfl rfl rfl ?_
                        refine QL_off rfl rfl rfl ?_
                        refine QL_off rfl rfl rfl ?_
                        refine QL_off rfl rfl rfl ?_
                        first | refine q_pick rfl (v := .bool _) rfl rfl ?_ | refine q_pick rfl (by conv => lhs; whnf) rfl ?_
                        first | refine q_assign (v := .bool _) rfl rfl ?_ | refine q_assign (by conv => lhs; whnf) rfl ?_
                        refine QL_nil ?_
                        refine BK_of ?_
                        refine BKL_nil ?_
                        rintro wR14 ⟨SR14, XR14⟩
                        refine WL_nil ?_
                        refine W_ret ?_
                        refine ret_1 rfl (by conv => lhs; whnf) ?_
                        first
                          | exact ⟨shape_f (fun h => by have := Shape_ar h; omega), SR14.fin⟩
                          | exact ⟨shape_t ((Shape_1 (by omega)).2 (by omega)), SR14.fin⟩
                          | exact ⟨shape_f (fun h => by have := (Shape_1 (by omega)).1 h; omega), SR14.fin⟩
                          | exact ⟨shape_t ((Shape_2 (by omega)).2 (by omega)), SR14.fin⟩
                          | exact ⟨shape_f (fun h => by have := (Shape_2 (by omega)).1 h; omega), SR14.fin⟩
                          | exact ⟨shape_t ((Shape_4 (by omega)).2 (by omega)), SR14.fin⟩
                          | exact ⟨shape_f (fun h => by have := (Shape_4 (by omega)).1 h; omega), SR14.fin⟩
                          | exact ⟨shape_t ((Shape_11 (by omega)).2 (by omega)), SR14.fin⟩
                          | exact ⟨shape_f (fun h => by have := (Shape_11 (by omega)).1 h; omega), SR14.fin⟩
                          | exact ⟨shape_t ((Shape_14 (by omega)).2 (by omega)), SR14.fin⟩
                          | exact ⟨shape_f (fun h => by have := (Shape_14 (by omega)).1 h; omega), SR14.fin⟩
                          | exact ⟨shape_t ((Shape_5 (by omega)).2 (by omega)), SR14.fin⟩
                          | exact ⟨shape_f (fun h => by have := (Shape_5 (by omega)).1 h; omega), SR14.fin⟩
                    · first | refine q_move (v := .bool _) rfl rfl ?_ | refine q_move (by conv => lhs; whnf) rfl ?_
                      refine QL_off rfl rfl rfl ?_
                      refine QL_off rfl rfl rfl ?_
                      refine QL_off rfl rfl rfl ?_
                      first | refine q_pick rfl (v := .bool _) rfl rfl ?_ | refine q_pick rfl (by conv => lhs; whnf) rfl ?_
                      first | refine q_move (v := .bool _) rfl rfl ?_ | refine q_move (by conv => lhs; whnf) rfl ?_
                      refine QL_off rfl rfl rfl ?_
                      refine QL_off rfl rfl rfl ?_
                      refine QL_off rfl rfl rfl ?_
                      refine QL_off rfl rfl rfl ?_
                      refine QL_off rfl rfl rfl ?_
                      refine QL_off rfl rfl rfl ?_
                      refine QL_off rfl rfl rfl ?_
                      refine QL_off rfl rfl rfl ?_
                      refine QL_off rfl rfl rfl ?_
                      refine QL_off rfl rfl rfl ?_
                      refine QL_off rfl rfl rfl ?_
                      first | refine q_pick rfl (v := .bool _) rfl rfl ?_ | refine q_pick rfl (by conv => lhs; whnf) rfl ?_
                      first | refine q_assign (v := .bool _) rfl rfl ?_ | refine q_assign (by conv => lhs; whnf) rfl ?_
                      refine QL_nil ?_
                      refine BK_of ?_
                      refine BKL_nil ?_
                      rintro wR14 ⟨SR14, XR14⟩
                      refine WL_nil ?_
                      refine W_ret ?_
                      refine ret_1 rfl (by conv => lhs; whnf) ?_
                      first
                        | exact ⟨shape_f (fun h => by have := Shape_ar h; omega), SR14.fin⟩
                        | exact ⟨shape_t ((Shape_1 (by omega)).2 (by omega)), SR14.fin⟩
                        | exact ⟨shape_f (fun h => by have := (Shape_1 (by omega)).1 h; omega), SR14.fin⟩
                        | exact ⟨shape_t ((Shape_2 (by omega)).2 (by omega)), SR14.fin⟩
                        | exact ⟨shape_f (fun h => by have := (Shape_2 (by omega)).1 h; omega), SR14.fin⟩
                        | exact ⟨shape_t ((Shape_4 (by omega)).2 (by omega)), SR14.fin⟩
                        | exact ⟨shape_f (fun h => by have := (Shape_4 (by omega)).1 h; omega), SR14.fin⟩
                        | exact ⟨shape_t ((Shape_11 (by omega)).2 (by omega)), SR14.fin⟩
                        | exact ⟨shape_f (fun h => by have := (Shape_11 (by omega)).1 h; omega), SR14.fin⟩
                        | exact ⟨shape_t ((Shape_14 (by omega)).2 (by omega)), SR14.fin⟩
                        | exact ⟨shape_f (fun h => by have := (Shape_14 (by omega)).1 h; omega), SR14.fin⟩
                        | exact ⟨shape_t ((Shape_5 (by omega)).2 (by omega)), SR14.fin⟩
                        | exact ⟨shape_f (fun h => by have := (Shape_5 (by omega)).1 h; omega), SR14.fin⟩
                  · first | refine o_assign (v := .bool _) rfl rfl ?_ | refine o_assign (by conv => lhs; whnf) rfl ?_
                    refine WL_nil ?_
                    refine W_else rfl ?_
                    refine W_region ?_
                    refine o_eql rfl rfl rfl (fun h64 => ?_) (fun h64 => ?_)
                    · first | refine o_assign (v := .bool _) rfl rfl ?_ | refine o_assign (by conv => lhs; whnf) rfl ?_
                      refine WL_nil ?_
                      refine W_then rfl ?_
                      refine W_seq ?_
                      refine W_draw follows_mixed [0, 1, 2, 3, 4, 5, 6, 7, 8, 9, 10, 11, 12, 13, 14, 15, 16, 17, 18, 19, 20, 21] [] [] (by kernel_rfl) rfl (Cl _ _ _ _) (Cl.start SR1) ?_
                      refine q_fieldAddr fa_25_2 rfl rfl ?_
                      refine q_load one_3 rfl (fun w1 hw => by first | exact hw.1.cell 0 rfl rfl | exact hw.1.old hk0 | exact hw.1.old hk1 | exact hw.1.old hk2) rfl ?_
                      refine q_eql rfl rfl rfl (fun h67 => ?_) (fun h67 => ?_)
                      · first | refine q_move (v := .bool _) rfl rfl ?_ | refine q_move (by conv => lhs; whnf) rfl ?_
                        refine QL_on rfl rfl ?_
                        refine q_fieldAddr fa_25_1 rfl rfl ?_
                        refine QL_on rfl rfl ?_
                        refine q_load one_3 rfl (fun w1 hw => by first | exact hw.1.cell 0 rfl rfl | exact hw.1.old hk0 | exact hw.1.old hk1 | exact hw.1.old hk2) rfl ?_
                        refine QL_on rfl rfl ?_
                        refine q_eql rfl rfl rfl (fun h71 => ?_) (fun h71 => ?_)
                        · first | refine q_pick rfl (v := .bool _) rfl rfl ?_ | refine q_pick rfl (by conv => lhs; whnf) rfl ?_
                          first | refine q_move (v := .bool _) rfl rfl ?_ | refine q_move (by conv => lhs; whnf) rfl ?_
                          refine QL_on rfl rfl ?_
                          refine q_fieldAddr fa_25_3 rfl rfl ?_
                          refine QL_on rfl rfl ?_
                          refine q_load one_23 rfl (fun w1 hw => by first | exact hw.1.cell 0 rfl rfl | exact hw.1.old hk0 | exact hw.1.old hk1 | exact hw.1.old hk2) rfl ?_
                          refine QL_on rfl rfl ?_
                          obtain ⟨b, o, hA, hbM, hkk⟩ := hks (by omega)
                          have hk0 := kid_cells hkk 0 (by omega)
                          have hk1 := kid_cells hkk 1 (by omega)
                          refine q_indexAddr slz_23.slT rfl (by first | rfl | assumption) rfl (by omega) (by omega) rfl ?_
                          refine QL_on rfl rfl ?_
                          refine q_fieldAddr fa_25_1 rfl rfl ?_
                          refine QL_on rfl rfl ?_
                          refine q_load one_3 rfl (fun w1 hw => by first | exact hw.1.cell 0 rfl rfl | exact hw.1.old hk0 | exact hw.1.old hk1 | exact hw.1.old hk2) rfl ?_
                          refine QL_on rfl rfl ?_
                          refine q_fieldAddr fa_25_3 rfl rfl ?_
                          refine QL_on rfl rfl ?_
                          refine q_load one_23 rfl (fun w1 hw => by first | exact hw.1.cell 0 rfl rfl | exact hw.1.old hk0 | exact hw.1.old hk1 | exact hw.1.old hk2) rfl ?_
                          refine QL_on rfl rfl ?_
                          refine q_indexAddr slz_23.slT rfl (by first | rfl | assumption) rfl (by omega) (by omega) rfl ?_
                          refine QL_on rfl rfl ?_
                          refine q_fieldAddr fa_25_1 rfl rfl ?_
                          refine QL_on rfl rfl ?_
                          refine q_load one_3 rfl (fun w1 hw => by first | exact hw.1.cell 0 rfl rfl | exact hw.1.old hk0 | exact hw.1.old hk1 | exact hw.1.old hk2) rfl ?_
                          refine QL_on rfl rfl ?_
                          refine q_eql rfl rfl rfl (fun h84 => ?_) (fun h84 => ?_)
                          · first | refine q_pick rfl (v := .bool _) rfl rfl ?_ | refine q_pick rfl (by conv => lhs; whnf) rfl ?_
                            first | refine q_assign (v := .bool _) rfl rfl ?_ | refine q_assign (by conv => lhs; whnf) rfl ?_
                            refine QL_nil ?_
                            refine BK_of ?_
                            refine BKL_nil ?_
                            rintro wR14 ⟨SR14, XR14⟩
                            refine WL_nil ?_
                            refine W_ret ?_
                            refine ret_1 rfl (by conv => lhs; whnf) ?_
                            first
                              | exact ⟨shape_f (fun h => by have := Shape_ar h; omega), SR14.fin⟩
                              | exact ⟨shape_t ((Shape_1 (by omega)).2 (by omega)), SR14.fin⟩
                              | exact ⟨shape_f (fun h => by have := (Shape_1 (by omega)).1 h; omega), SR14.fin⟩
                              | exact ⟨shape_t ((Shape_2 (by omega)).2 (by omega)), SR14.fin⟩
                              | exact ⟨shape_f (fun h => by have := (Shape_2 (by omega)).1 h; omega), SR14.fin⟩
                              | exact ⟨shape_t ((Shape_4 (by omega)).2 (by omega)), SR14.fin⟩
                              | exact ⟨shape_f (fun h => by have := (Shape_4 (by omega)).1 h; omega), SR14.fin⟩
                              | exact ⟨shape_t ((Shape_11 (by omega)).2 (by omega)), SR14.fin⟩
                              | exact ⟨shape_f (fun h => by have := (Shape_11 (by omega)).1 h; omega), SR14.fin⟩
                              | exact ⟨shape_t ((Shape_14 (by omega)).2 (by omega)), SR14.fin⟩
                              | exact ⟨shape_f (fun h => by have := (Shape_14 (by omega)).1 h; omega), SR14.fin⟩
                              | exact ⟨shape_t ((Shape_5 (by omega)).2 (by omega)), SR14.fin⟩
                              | exact ⟨shape_f (fun h => by have := (Shape_5 (by omega)).1 h; omega), SR14.fin⟩
                          · first | refine q_pick rfl (v := .bool _) rfl rfl ?_ | refine q_pick rfl (by conv => lhs; whnf) rfl ?_
                            first | refine q_assign (v := .bool _) rfl rfl ?_ | refine q_assign (by conv => lhs; whnf) rfl ?_
                            refine QL_nil ?_
                            refine BK_of ?_
                            refine BKL_nil ?_
                            rintro wR14 ⟨SR14, XR14⟩
                            refine WL_nil ?_
                            refine W_ret ?_
                            refine ret_1 rfl (by conv => lhs; whnf) ?_
                            first
                              | exact ⟨shape_f (fun h => by have := Shape_ar h; omega), SR14.fin⟩
                              | exact ⟨shape_t ((Shape_1 (by omega)).2 (by omega)), SR14.fin⟩
                              | exact ⟨shape_f (fun h => by have := (Shape_1 (by omega)).1 h; omega), SR14.fin⟩
                              | exact ⟨shape_t ((Shape_2 (by omega)).2 (by omega)), SR14.fin⟩
                              | exact ⟨shape_f (fun h => by have := (Shape_2 (by omega)).1 h; omega), SR14.fin⟩
                              | exact ⟨shape_t ((Shape_4 (by omega)).2 (by omega)), SR14.fin⟩
                              | exact ⟨shape_f (fun h => by have := (Shape_4 (by omega)).1 h; omega), SR14.fin⟩
                              | exact ⟨shape_t ((Shape_11 (by omega)).2 (by omega)), SR14.fin⟩
                              | exact ⟨shape_f (fun h => by have := (Shape_11 (by omega)).1 h; omega), SR14.fin⟩
                              | exact ⟨shape_t ((Shape_14 (by omega)).2 (by omega)), SR14.fin⟩
                              | exact ⟨shape_f (fun h => by have := (Shape_14 (by omega)).1 h; omega), SR14.fin⟩
                              | exact ⟨shape_t ((Shape_5 (by omega)).2 (by omega)), SR14.fin⟩
                              | exact ⟨shape_f (fun h => by have := (Shape_5 (by omega)).1 h; omega), SR14.fin⟩
                        · first | refine q_pick rfl (v := .bool _) rfl rfl ?_ | refine q_pick rfl (by conv => lhs; whnf) rfl ?_
                          first | refine q_move (v := .bool _) rfl rfl ?_ | refine q_move (by conv => lhs; whnf) rfl ?_
                          refine QL_off rfl rfl rfl ?_
                          refine QL_off rfl rfl rfl ?_
                          refine QL_off rfl rfl rfl ?_
                          refine QL_off rfl rfl rfl ?_
                          refine QL_off rfl rfl rfl ?_
                          refine QL_off rfl rfl rfl ?_
                          refine QL_off rfl rfl rfl ?_
                          refine QL_off rfl rfl rfl ?_
                          refine QL_off rfl rfl rfl ?_
                          refine QL_off rfl rfl rfl ?_
                          refine QL_off rfl rfl rfl ?_
                          first | refine q_pick rfl (v := .bool _) rfl rfl ?_ | refine q_pick rfl (by conv => lhs; whnf) rfl ?_
                          first | refine q_assign (v := .bool _) rfl rfl ?_ | refine q_assign (by conv => lhs; whnf) rfl ?_
                          refine QL_nil ?_
                          refine BK_of ?_
                          refine BKL_nil ?_
                          rintro wR14 ⟨SR14, XR14⟩
                          refine WL_nil ?_
                          refine W_ret ?_
                          refine ret_1 rfl (by conv => lhs; whnf) ?_
                          first
                            | exact ⟨shape_f (fun h => by have := Shape_ar h; omega), SR14.fin⟩
                            | exact ⟨shape_t ((Shape_1 (by omega)).2 (by omega)), SR14.fin⟩
                            | exact ⟨shape_f (fun h => by have := (Shape_1 (by omega)).1 h; omega), SR14.fin⟩
                            | exact ⟨shape_t ((Shape_2 (by omega)).2 (by omega)), SR14.fin⟩
                            | exact ⟨shape_f (fun h => by have := (Shape_2 (by omega)).1 h; omega), SR14.fin⟩
                            | exact ⟨shape_t ((Shape_4 (by omega)).2 (by omega)), SR14.fin⟩
                            | exact ⟨shape_f (fun h => by have := (Shape_4 (by omega)).1 h; omega), SR14.fin⟩
                            | exact ⟨shape_t ((Shape_11 (by omega)).2 (by omega)), SR14.fin⟩
                            | exact ⟨shape_f (fun h => by have := (Shape_11 (by omega)).1 h; omega), SR14.fin⟩
                            | exact ⟨shape_t ((Shape_14 (by omega)).2 (by omega)), SR14.fin⟩
                            | exact ⟨shape_f (fun h => by have := (Shape_14 (by omega)).1 h; omega), SR14.fin⟩
                            | exact ⟨shape_t ((Shape_5 (by omega)).2 (by omega)), SR14.fin⟩
                            | exact ⟨shape_f (fun h => by have := (Shape_5 (by omega)).1 h; omega), SR14.fin⟩
                      · first | refine q_move (v := .bool _) rfl rfl ?_ | refine q_move (by conv => lhs; whnf) rfl ?_
                        refine QL_off rfl rfl rfl ?_
                        refine QL_off rfl rfl rfl ?_
                        refine QL_off rfl rfl rfl ?_
                        first | refine q_pick rfl (v := .bool _) rfl rfl ?_ | refine q_pick rfl (by conv => lhs; whnf) rfl ?_
                        first | refine q_move (v := .bool _) rfl rfl ?_ | refine q_move (by conv => lhs; whnf) rfl ?_
                        refine QL_off rfl rfl rfl ?_
                        refine QL_off rfl rfl rfl ?_
                        refine QL_off rfl rfl rfl ?_
                        refine QL_off rfl rfl rfl ?_
                        refine QL_off rfl rfl rfl ?_
                        refine QL_off rfl rfl rfl ?_
                        refine QL_off rfl rfl rfl ?_
                        refine QL_off rfl rfl rfl ?_
                        refine QL_off rfl rfl rfl ?_
                        refine QL_off rfl rfl rfl ?_
                        refine QL_off rfl rfl rfl ?_
                        first | refine q_pick rfl (v := .bool _) rfl rfl ?_ | refine q_pick rfl (by conv => lhs; whnf) rfl ?_
                        first | refine q_assign (v := .bool _) rfl rfl ?_ | refine q_assign (by conv => lhs; whnf) rfl ?_
                        refine QL_nil ?_
                        refine BK_of ?_
                        refine BKL_nil ?_
                        rintro wR14 ⟨SR14, XR14⟩
                        refine WL_nil ?_
                        refine W_ret ?_
                        refine ret_1 rfl (by conv => lhs; whnf) ?_
                        first
                          | exact ⟨shape_f (fun h => by have := Shape_ar h; omega), SR14.fin⟩
                          | exact ⟨shape_t ((Shape_1 (by omega)).2 (by omega)), SR14.fin⟩
                          | exact ⟨shape_f (fun h => by have := (Shape_1 (by omega)).1 h; omega), SR14.fin⟩
                          | exact ⟨shape_t ((Shape_2 (by omega)).2 (by omega)), SR14.fin⟩
                          | exact ⟨shape_f (fun h => by have := (Shape_2 (by omega)).1 h; omega), SR14.fin⟩
                          | exact ⟨shape_t ((Shape_4 (by omega)).2 (by omega)), SR14.fin⟩
                          | exact ⟨shape_f (fun h => by have := (Shape_4 (by omega)).1 h; omega), SR14.fin⟩
                          | exact ⟨shape_t ((Shape_11 (by omega)).2 (by omega)), SR14.fin⟩
                          | exact ⟨shape_f (fun h => by have := (Shape_11 (by omega)).1 h; omega), SR14.fin⟩
                          | exact ⟨shape_t ((Shape_14 (by omega)).2 (by omega)), SR14.fin⟩
                          | exact ⟨shape_f (fun h => by have := (Shape_14 (by omega)).1 h; omega), SR14.fin⟩
                          | exact ⟨shape_t ((Shape_5 (by omega)).2 (by omega)), SR14.fin⟩
                          | exact ⟨shape_f (fun h => by have := (Shape_5 (by omega)).1 h; omega), SR14.fin⟩
                    · first | refine o_assign (v := .bool _) rfl rfl ?_ | refine o_assign (by conv => lhs; whnf) rfl ?_
                      refine WL_nil ?_
                      refine W_else rfl ?_
                      refine W_seq ?_
                      refine W_region ?_
                      refine o_eql rfl rfl rfl (fun h87 => ?_) (fun h87 => ?_)
                      · first | refine o_assign (v := .bool _) rfl rfl ?_ | refine o_assign (by conv => lhs; whnf) rfl ?_
                        refine WL_nil ?_
                        refine W_then rfl ?_
                        refine W_seq ?_
                        refine W_draw follows_mixed [0, 1, 2, 3, 4, 5, 6, 7, 8, 9, 10, 11, 12, 13, 14, 15, 16, 17, 18, 19, 20, 21, 22, 23, 24, 25, 26, 27, 28, 29, 30, 31] [] [] (by kernel_rfl) rfl (Cl _ _ _ _) (Cl.start SR1) ?_
                        refine q_fieldAddr fa_25_2 rfl rfl ?_
                        refine q_load one_3 rfl (fun w1 hw => by first | exact hw.1.cell 0 rfl rfl | exact hw.1.old hk0 | exact hw.1.old hk1 | exact hw.1.old hk2) rfl ?_
                        refine q_eql rfl rfl rfl (fun h90 => ?_) (fun h90 => ?_)
                        · first | refine q_move (v := .bool _) rfl rfl ?_ | refine q_move (by conv => lhs; whnf) rfl ?_
                          refine QL_on rfl rfl ?_
                          refine q_fieldAddr fa_25_3 rfl rfl ?_
                          refine QL_on rfl rfl ?_
                          refine q_load one_23 rfl (fun w1 hw => by first | exact hw.1.cell 0 rfl rfl | exact hw.1.old hk0 | exact hw.1.old hk1 | exact hw.1.old hk2) rfl ?_
                          refine QL_on rfl rfl ?_
                          obtain ⟨b, o, hA, hbM, hkk⟩ := hks (by omega)
                          have hk0 := kid_cells hkk 0 (by omega)
                          have hk1 := kid_cells hkk 1 (by omega)
                          have hk2 := kid_cells hkk 2 (by omega)
                          refine q_indexAddr slz_23.slT rfl (by first | rfl | assumption) rfl (by omega) (by omega) rfl ?_
                          refine QL_on rfl rfl ?_
                          refine q_fieldAddr fa_25_1 rfl rfl ?_
                          refine QL_on rfl rfl ?_
                          refine q_load one_3 rfl (fun w1 hw => by first | exact hw.1.cell 0 rfl rfl | exact hw.1.old hk0 | exact hw.1.old hk1 | exact hw.1.old hk2) rfl ?_
                          refine QL_on rfl rfl ?_
                          refine q_eql rfl rfl rfl (fun h97 => ?_) (fun h97 => ?_)
                          · first | refine q_pick rfl (v := .bool _) rfl rfl ?_ | refine q_pick rfl (by conv => lhs; whnf) rfl ?_
                            first | refine q_move (v := .bool _) rfl rfl ?_ | refine q_move (by conv => lhs; whnf) rfl ?_
                            refine QL_on rfl rfl ?_
                            refine q_fieldAddr fa_25_3 rfl rfl ?_
                            refine QL_on rfl rfl ?_
                            refine q_load one_23 rfl (fun w1 hw => by first | exact hw.1.cell 0 rfl rfl | exact hw.1.old hk0 | exact hw.1.old hk1 | exact hw.1.old hk2) rfl ?_
                            refine QL_on rfl rfl ?_
                            refine q_indexAddr slz_23.slT rfl (by first | rfl | assumption) rfl (by omega) (by omega) rfl ?_
                            refine QL_on rfl rfl ?_
                            refine q_fieldAddr fa_25_1 rfl rfl ?_
                            refine QL_on rfl rfl ?_
                            refine q_load one_3 rfl (fun w1 hw => by first | exact hw.1.cell 0 rfl rfl | exact hw.1.old hk0 | exact hw.1.old hk1 | exact hw.1.old hk2) rfl ?_
                            refine QL_on rfl rfl ?_
                            refine q_fieldAddr fa_25_1 rfl rfl ?_
                            refine QL_on rfl rfl ?_
                            refine q_load one_3 rfl (fun w1 hw => by first | exact hw.1.cell 0 rfl rfl | exact hw.1.old hk0 | exact hw.1.old hk1 | exact hw.1.old hk2) rfl ?_
                            refine QL_on rfl rfl ?_
                            refine q_eql rfl rfl rfl (fun h107 => ?_) (fun h107 => ?_)
                            · first | refine q_pick rfl (v := .bool _) rfl rfl ?_ | refine q_pick rfl (by conv => lhs; whnf) rfl ?_
                              first | refine q_move (v := .bool _) rfl rfl ?_ | refine q_move (by conv => lhs; whnf) rfl ?_
                              refine QL_on rfl rfl ?_
                              refine q_fieldAddr fa_25_3 rfl rfl ?_
                              refine QL_on rfl rfl ?_
                              refine q_load one_23 rfl (fun w1 hw => by first | exact hw.1.cell 0 rfl rfl | exact hw.1.old hk0 | exact hw.1.old hk1 | exact hw.1.old hk2) rfl ?_
                              refine QL_on rfl rfl ?_
                              refine q_indexAddr slz_23.slT rfl (by first | rfl | assumption) rfl (by omega) (by omega) rfl ?_
                              refine QL_on rfl rfl ?_
                              refine q_fieldAddr fa_25_1 rfl rfl ?_
                              refine QL_on rfl rfl ?_
                              refine q_load one_3 rfl (fun w1 hw => by first | exact hw.1.cell 0 rfl rfl | exact hw.1.old hk0 | exact hw.1.old hk1 | exact hw.1.old hk2) rfl ?_
                              refine QL_on rfl rfl ?_
                              refine q_fieldAddr fa_25_1 rfl rfl ?_
                              refine QL_on rfl rfl ?_
                              refine q_load one_3 rfl (fun w1 hw => by first | exact hw.1.cell 0 rfl rfl | exact hw.1.old hk0 | exact hw.1.old hk1 | exact hw.1.old hk2) rfl ?_
                              refine QL_on rfl rfl ?_
                              refine q_eql rfl rfl rfl (fun h117 => ?_) (fun h117 => ?_)
                              · first | refine q_pick rfl (v := .bool _) rfl rfl ?_ | refine q_pick rfl (by conv => lhs; whnf) rfl ?_
                                first | refine q_assign (v := .bool _) rfl rfl ?_ | refine q_assign (by conv => lhs; whnf) rfl ?_
                                refine QL_nil ?_
                                refine BK_of ?_
                                refine BKL_nil ?_
                                rintro wR16 ⟨SR16, XR16⟩
                                refine WL_nil ?_
                                refine W_ret ?_
                                refine ret_1 rfl (by conv => lhs; whnf) ?_
                                first
                                  | exact ⟨shape_f (fun h => by have := Shape_ar h; omega), SR16.fin⟩
                                  | exact ⟨shape_t ((Shape_1 (by omega)).2 (by omega)), SR16.fin⟩
                                  | exact ⟨shape_f (fun h => by have := (Shape_1 (by omega)).1 h; omega), SR16.fin⟩
                                  | exact ⟨shape_t ((Shape_2 (by omega)).2 (by omega)), SR16.fin⟩
                                  | exact ⟨shape_f (fun h => by have := (Shape_2 (by omega)).1 h; omega), SR16.fin⟩
                                  | exact ⟨shape_t ((Shape_4 (by omega)).2 (by omega)), SR16.fin⟩
                                  | exact ⟨shape_f (fun h => by have := (Shape_4 (by omega)).1 h; omega), SR16.fin⟩
                                  | exact ⟨shape_t ((Shape_11 (by omega)).2 (by omega)), SR16.fin⟩
                                  | exact ⟨shape_f (fun h => by have := (Shape_11 (by omega)).1 h; omega), SR16.fin⟩
                                  | exact ⟨shape_t ((Shape_14 (by omega)).2 (by omega)), SR16.fin⟩
                                  | exact ⟨shape_f (fun h => by have := (Shape_14 (by omega)).1 h; omega), SR16.fin⟩
                                  | exact ⟨shape_t ((Shape_5 (by omega)).2 (by omega)), SR16.fin⟩
                                  | exact ⟨shape_f (fun h => by have := (Shape_5 (by omega)).1 h; omega), SR16.fin⟩
                              · first | refine q_pick rfl (v := .bool _) rfl rfl ?_ | refine q_pick rfl (by conv => lhs; whnf) rfl ?_
                                first | refine q_assign (v := .bool _) rfl rfl ?_ | refine q_assign (by conv => lhs; whnf) rfl ?_
                                refine QL_nil ?_
                                refine BK_of ?_
                                refine BKL_nil ?_
                                rintro wR16 ⟨SR16, XR16⟩
                                refine WL_nil ?_
                                refine W_ret ?_
                                refine ret_1 rfl (by conv => lhs; whnf) ?_
                                first
                                  | exact ⟨shape_f (fun h => by have := Shape_ar h; omega), SR16.fin⟩
                                  | exact ⟨shape_t ((Shape_1 (by omega)).2 (by omega)), SR16.fin⟩
                                  | exact ⟨shape_f (fun h => by have := (Shape_1 (by omega)).1 h; omega), SR16.fin⟩
                                  | exact ⟨shape_t ((Shape_2 (by omega)).2 (by omega)), SR16.fin⟩
                                  | exact ⟨shape_f (fun h => by have := (Shape_2 (by omega)).1 h; omega), SR16.fin⟩
                                  | exact ⟨shape_t ((Shape_4 (by omega)).2 (by omega)), SR16.fin⟩
                                  | exact ⟨shape_f (fun h => by have := (Shape_4 (by omega)).1 h; omega), SR16.fin⟩
                                  | exact ⟨shape_t ((Shape_11 (by omega)).2 (by omega)), SR16.fin⟩
                                  | exact ⟨shape_f (fun h => by have := (Shape_11 (by omega)).1 h; omega), SR16.fin⟩
                                  | exact ⟨shape_t ((Shape_14 (by omega)).2 (by omega)), SR16.fin⟩
                                  | exact ⟨shape_f (fun h => by have := (Shape_14 (by omega)).1 h; omega), SR16.fin⟩
                                  | exact ⟨shape_t ((Shape_5 (by omega)).2 (by omega)), SR16.fin⟩
                                  | exact ⟨shape_f (fun h => by have := (Shape_5 (by omega)).1 h; omega), SR16.fin⟩
                            · first | refine q_pick rfl (v := .bool _) rfl rfl ?_ | refine q_pick rfl (by conv => lhs; whnf) rfl ?_
                              first | refine q_move (v := .bool _) rfl rfl ?_ | refine q_move (by conv => lhs; whnf) rfl ?_
                              refine QL_off rfl rfl rfl ?_
                              refine QL_off rfl rfl rfl ?_
                              refine QL_off rfl rfl rfl ?_
                              refine QL_off rfl rfl rfl ?_
                              refine QL_off rfl rfl rfl ?_
                              refine QL_off rfl rfl rfl ?_
                              refine QL_off rfl rfl rfl ?_
                              refine QL_off rfl rfl rfl ?_
                              first | refine q_pick rfl (v := .bool _) rfl rfl ?_ | refine q_pick rfl (by conv => lhs; whnf) rfl ?_
                              first | refine q_assign (v := .bool _) rfl rfl ?_ | refine q_assign (by conv => lhs; whnf) rfl ?_
                              refine QL_nil ?_
                              refine BK_of ?_
                              refine BKL_nil ?_
                              rintro wR16 ⟨SR16, XR16⟩
                              refine WL_nil ?_
                              refine W_ret ?_
                              refine ret_1 rfl (by conv => lhs; whnf) ?_
                              first
                                | exact ⟨shape_f (fun h => by have := Shape_ar h; omega), SR16.fin⟩
                                | exact ⟨shape_t ((Shape_1 (by omega)).2 (by omega)), SR16.fin⟩
                                | exact ⟨shape_f (fun h => by have := (Shape_1 (by omega)).1 h; omega), SR16.fin⟩
                                | exact ⟨shape_t ((Shape_2 (by omega)).2 (by omega)), SR16.fin⟩
                                | exact ⟨shape_f (fun h => by have := (Shape_2 (by omega)).1 h; omega), SR16.fin⟩
                                | exact ⟨shape_t ((Shape_4 (by omega)).2 (by omega)), SR16.fin⟩
                                | exact ⟨shape_f (fun h => by have := (Shape_4 (by omega)).1 h; omega), SR16.fin⟩
                                | exact ⟨shape_t ((Shape_11 (by omega)).2 (by omega)), SR16.fin⟩
                                | exact ⟨shape_f (fun h => by have := (Shape_11 (by omega)).1 h; omega), SR16.fin⟩
                                | exact ⟨shape_t ((Shape_14 (by omega)).2 (by omega)), SR16.fin⟩
                                | exact ⟨shape_f (fun h => by have := (Shape_14 (by omega)).1 h; omega), SR16.fin⟩
                                | exact ⟨shape_t ((Shape_5 (by omega)).2 (by omega)), SR16.fin⟩
                                | exact ⟨shape_f (fun h => by have := (Shape_5 (by omega)).1 h; omega), SR16.fin⟩
                          · first | refine q_pick rfl (v := .bool _) rfl rfl ?_ | refine q_pick rfl (by conv => lhs; whnf) rfl ?_
                            first | refine q_move (v := .bool _) rfl rfl ?_ | refine q_move (by conv => lhs; whnf) rfl ?_
                            refine QL_off rfl rfl rfl ?_
                            refine QL_off rfl rfl rfl ?_
                            refine QL_off rfl rfl rfl ?_
                            refine QL_off rfl rfl rfl ?_
                            refine QL_off rfl rfl rfl ?_
                            refine QL_off rfl rfl rfl ?_
                            refine QL_off rfl rfl rfl ?_
                            refine QL_off rfl rfl rfl ?_
                            first | refine q_pick rfl (v := .bool _) rfl rfl ?_ | refine q_pick rfl (by conv => lhs; whnf) rfl ?_
                            first | refine q_move (v := .bool _) rfl rfl ?_ | refine q_move (by conv => lhs; whnf) rfl ?_
                            refine QL_off rfl rfl rfl ?_
                            refine QL_off rfl rfl rfl ?_
                            refine QL_off rfl rfl rfl ?_
                            refine QL_off rfl rfl rfl ?_
                            refine QL_off rfl rfl rfl ?_
                            refine QL_off rfl rfl rfl ?_
                            refine QL_off rfl rfl rfl ?_
                            refine QL_off rfl rfl rfl ?_
                            first | refine q_pick rfl (v := .bool _) rfl rfl ?_ | refine q_pick rfl (by conv => lhs; whnf) rfl ?_
                            first | refine q_assign (v := .bool _) rfl rfl ?_ | refine q_assign (by conv => lhs; whnf) rfl ?_
                            refine QL_nil ?_
                            refine BK_of ?_
                            refine BKL_nil ?_
                            rintro wR16 ⟨SR16, XR16⟩
                            refine WL_nil ?_
                            refine W_ret ?_
                            refine ret_1 rfl (by conv => lhs; whnf) ?_
                            first
                              | exact ⟨shape_f (fun h => by have := Shape_ar h; omega), SR16.fin⟩
                              | exact ⟨shape_t ((Shape_1 (by omega)).2 (by omega)), SR16.fin⟩
                              | exact ⟨shape_f (fun h => by have := (Shape_1 (by omega)).1 h; omega), SR16.fin⟩
                              | exact ⟨shape_t ((Shape_2 (by omega)).2 (by omega)), SR16.fin⟩
                              | exact ⟨shape_f (fun h => by have := (Shape_2 (by omega)).1 h; omega), SR16.fin⟩
                              | exact ⟨shape_t ((Shape_4 (by omega)).2 (by omega)), SR16.fin⟩
                              | exact ⟨shape_f (fun h => by have := (Shape_4 (by omega)).1 h; omega), SR16.fin⟩
                              | exact ⟨shape_t ((Shape_11 (by omega)).2 (by omega)), SR16.fin⟩
                              | exact ⟨shape_f (fun h => by have := (Shape_11 (by omega)).1 h; omega), SR16.fin⟩
                              | exact ⟨shape_t ((Shape_14 (by omega)).2 (by omega)), SR16.fin⟩
                              | exact ⟨shape_f (fun h => by have := (Shape_14 (by omega)).1 h; omega), SR16.fin⟩
                              | exact ⟨shape_t ((Shape_5 (by omega)).2 (by omega)), SR16.fin⟩
                              | exact ⟨shape_f (fun h => by have := (Shape_5 (by omega)).1 h; omega), SR16.fin⟩
                        · first | refine q_move (v := .bool _) rfl rfl ?_ | refine q_move (by conv => lhs; whnf) rfl ?_
                          refine QL_off rfl rfl rfl ?_
                          refine QL_off rfl rfl rfl ?_
                          refine QL_off rfl rfl rfl ?_
                          refine QL_off rfl rfl rfl ?_
                          refine QL_off rfl rfl rfl ?_
                          refine QL_off rfl rfl rfl ?_
                          first | refine q_pick rfl (v := .bool _) rfl rfl ?_ | refine q_pick rfl (by conv => lhs; whnf) rfl ?_
                          first | refine q_move (v := .bool _) rfl rfl ?_ | refine q_move (by conv => lhs; whnf) rfl ?_
                          refine QL_off rfl rfl rfl ?_
                          refine QL_off rfl rfl rfl ?_
                          refine QL_off rfl rfl rfl ?_
                          refine QL_off rfl rfl rfl ?_
                          refine QL_off rfl rfl rfl ?_
                          refine QL_off rfl rfl rfl ?_
                          refine QL_off rfl rfl rfl ?_
                          refine QL_off rfl rfl rfl ?_
                          first | refine q_pick rfl (v := .bool _) rfl rfl ?_ | refine q_pick rfl (by conv => lhs; whnf) rfl ?_
                          first | refine q_move (v := .bool _) rfl rfl ?_ | refine q_move (by conv => lhs; whnf) rfl ?_
                          refine QL_off rfl rfl rfl ?_
                          refine QL_off rfl rfl rfl ?_
                          refine QL_off rfl rfl rfl ?_
                          refine QL_off rfl rfl rfl ?_
                          refine QL_off rfl rfl rfl ?_
                          refine QL_off rfl rfl rfl ?_
                          refine QL_off rfl rfl rfl ?_
                          refine QL_off rfl rfl rfl ?_
                          first | refine q_pick rfl (v := .bool _) rfl rfl ?_ | refine q_pick rfl (by conv => lhs; whnf) rfl ?_
                          first | refine q_assign (v := .bool _) rfl rfl ?_ | refine q_assign (by conv => lhs; whnf) rfl ?_
                          refine QL_nil ?_
                          refine BK_of ?_
                          refine BKL_nil ?_
                          rintro wR16 ⟨SR16, XR16⟩
                          refine WL_nil ?_
                          refine W_ret ?_
                          refine ret_1 rfl (by conv => lhs; whnf) ?_
                          first
                            | exact ⟨shape_f (fun h => by have := Shape_ar h; omega), SR16.fin⟩
                            | exact ⟨shape_t ((Shape_1 (by omega)).2 (by omega)), SR16.fin⟩
                            | exact ⟨shape_f (fun h => by have := (Shape_1 (by omega)).1 h; omega), SR16.fin⟩
                            | exact ⟨shape_t ((Shape_2 (by omega)).2 (by omega)), SR16.fin⟩
                            | exact ⟨shape_f (fun h => by have := (Shape_2 (by omega)).1 h; omega), SR16.fin⟩
                            | exact ⟨shape_t ((Shape_4 (by omega)).2 (by omega)), SR16.fin⟩
                            | exact ⟨shape_f (fun h => by have := (Shape_4 (by omega)).1 h; omega), SR16.fin⟩
                            | exact ⟨shape_t ((Shape_11 (by omega)).2 (by omega)), SR16.fin⟩
                            | exact ⟨shape_f (fun h => by have := (Shape_11 (by omega)).1 h; omega), SR16.fin⟩
                            | exact ⟨shape_t ((Shape_14 (by omega)).2 (by omega)), SR16.fin⟩
                            | exact ⟨shape_f (fun h => by have := (Shape_14 (by omega)).1 h; omega), SR16.fin⟩
                            | exact ⟨shape_t ((Shape_5 (by omega)).2 (by omega)), SR16.fin⟩
                            | exact ⟨shape_f (fun h => by have := (Shape_5 (by omega)).1 h; omega), SR16.fin⟩
                      · first | refine o_assign (v := .bool _) rfl rfl ?_ | refine o_assign (by conv => lhs; whnf) rfl ?_
                        refine WL_nil ?_
                        refine W_else rfl ?_
                        refine W_skip ?_
                        refine W_seq ?_
                        refine W_draw follows_mixed [0, 1, 2, 3, 4, 5, 6, 7, 8, 9, 10, 11, 12, 13, 14, 15, 16, 17, 18, 19, 20, 21, 22, 23] [] [] (by kernel_rfl) rfl (Cl _ _ _ _) (Cl.start SR1) ?_
                        refine q_fieldAddr fa_25_2 rfl rfl ?_
                        refine q_load one_3 rfl (fun w1 hw => by first | exact hw.1.cell 0 rfl rfl | exact hw.1.old hk0 | exact hw.1.old hk1 | exact hw.1.old hk2) rfl ?_
                        refine q_eql rfl rfl rfl (fun h121 => ?_) (fun h121 => ?_)
                        · first | refine q_move (v := .bool _) rfl rfl ?_ | refine q_move (by conv => lhs; whnf) rfl ?_
                          refine QL_on rfl rfl ?_
                          refine q_fieldAddr fa_25_3 rfl rfl ?_
                          refine QL_on rfl rfl ?_
                          refine q_load one_23 rfl (fun w1 hw => by first | exact hw.1.cell 0 rfl rfl | exact hw.1.old hk0 | exact hw.1.old hk1 | exact hw.1.old hk2) rfl ?_
                          refine QL_on rfl rfl ?_
                          obtain ⟨b, o, hA, hbM, hkk⟩ := hks (by omega)
                          have hk0 := kid_cells hkk 0 (by omega)
                          have hk1 := kid_cells hkk 1 (by omega)
                          refine q_indexAddr slz_23.slT rfl (by first | rfl | assumption) rfl (by omega) (by omega) rfl ?_
                          refine QL_on rfl rfl ?_
                          refine q_fieldAddr fa_25_1 rfl rfl ?_
                          refine QL_on rfl rfl ?_
                          refine q_load one_3 rfl (fun w1 hw => by first | exact hw.1.cell 0 rfl rfl | exact hw.1.old hk0 | exact hw.1.old hk1 | exact hw.1.old hk2) rfl ?_
                          refine QL_on rfl rfl ?_
                          refine q_fieldAddr fa_25_1 rfl rfl ?_
                          refine QL_on rfl rfl ?_
                          refine q_load one_3 rfl (fun w1 hw => by first | exact hw.1.cell 0 rfl rfl | exact hw.1.old hk0 | exact hw.1.old hk1 | exact hw.1.old hk2) rfl ?_
                          refine QL_on rfl rfl ?_
                          refine q_eql rfl rfl rfl (fun h130 => ?_) (fun h130 => ?_)
                          · first | refine q_pick rfl (v := .bool _) rfl rfl ?_ | refine q_pick rfl (by conv => lhs; whnf) rfl ?_
                            first | refine q_move (v := .bool _) rfl rfl ?_ | refine q_move (by conv => lhs; whnf) rfl ?_
                            refine QL_on rfl rfl ?_
                            refine q_fieldAddr fa_25_3 rfl rfl ?_
                            refine QL_on rfl rfl ?_
                            refine q_load one_23 rfl (fun w1 hw => by first | exact hw.1.cell 0 rfl rfl | exact hw.1.old hk0 | exact hw.1.old hk1 | exact hw.1.old hk2) rfl ?_
                            refine QL_on rfl rfl ?_
                            refine q_indexAddr slz_23.slT rfl (by first | rfl | assumption) rfl (by omega) (by omega) rfl ?_
                            refine QL_on rfl rfl ?_
                            refine q_fieldAddr fa_25_1 rfl rfl ?_
                            refine QL_on rfl rfl ?_
                            refine q_load one_3 rfl (fun w1 hw => by first | exact hw.1.cell 0 rfl rfl | exact hw.1.old hk0 | exact hw.1.old hk1 | exact hw.1.old hk2) rfl ?_
                            refine QL_on rfl rfl ?_
                            refine q_fieldAddr fa_25_1 rfl rfl ?_
                            refine QL_on rfl rfl ?_
                            refine q_load one_3 rfl (fun w1 hw => by first | exact hw.1.cell 0 rfl rfl | exact hw.1.old hk0 | exact hw.1.old hk1 | exact hw.1.old hk2) rfl ?_
                            refine QL_on rfl rfl ?_
                            refine q_eql rfl rfl rfl (fun h140 => ?_) (fun h140 => ?_)
                            · first | refine q_pick rfl (v := .bool _) rfl rfl ?_ | refine q_pick rfl (by conv => lhs; whnf) rfl ?_
                              first | refine q_assign (v := .bool _) rfl rfl ?_ | refine q_assign (by conv => lhs; whnf) rfl ?_
                              refine QL_nil ?_
                              refine BK_of ?_
                              refine BKL_nil ?_
                              rintro wR17 ⟨SR17, XR17⟩
                              refine WL_nil ?_
                              refine W_ret ?_
                              refine ret_1 rfl (by conv => lhs; whnf) ?_
                              first
                                | exact ⟨shape_f (fun h => by have := Shape_ar h; omega), SR17.fin⟩
                                | exact ⟨shape_t ((Shape_1 (by omega)).2 (by omega)), SR17.fin⟩
                                | exact ⟨shape_f (fun h => by have := (Shape_1 (by omega)).1 h; omega), SR17.fin⟩
                                | exact ⟨shape_t ((Shape_2 (by omega)).2 (by omega)), SR17.fin⟩
                                | exact ⟨shape_f (fun h => by have := (Shape_2 (by omega)).1 h; omega), SR17.fin⟩
                                | exact ⟨shape_t ((Shape_4 (by omega)).2 (by omega)), SR17.fin⟩
                                | exact ⟨shape_f (fun h => by have := (Shape_4 (by omega)).1 h; omega), SR17.fin⟩
                                | exact ⟨shape_t ((Shape_11 (by omega)).2 (by omega)), SR17.fin⟩
                                | exact ⟨shape_f (fun h => by have := (Shape_11 (by omega)).1 h; omega), SR17.fin⟩
                                | exact ⟨shape_t ((Shape_14 (by omega)).2 (by omega)), SR17.fin⟩
                                | exact ⟨shape_f (fun h => by have := (Shape_14 (by omega)).1 h; omega), SR17.fin⟩
                                | exact ⟨shape_t ((Shape_5 (by omega)).2 (by omega)), SR17.fin⟩
                                | exact ⟨shape_f (fun h => by have := (Shape_5 (by omega)).1 h; omega), SR17.fin⟩
                            · first | refine q_pick rfl (v := .bool _) rfl rfl ?_ | refine q_pick rfl (by conv => lhs; whnf) rfl ?_
                              first | refine q_assign (v := .bool _) rfl rfl ?_ | refine q_assign (by conv => lhs; whnf) rfl ?_
                              refine QL_nil ?_
                              refine BK_of ?_
                              refine BKL_nil ?_
                              rintro wR17 ⟨SR17, XR17⟩
                              refine WL_nil ?_
                              refine W_ret ?_
                              refine ret_1 rfl (by conv => lhs; whnf) ?_
                              first
                                | exact ⟨shape_f (fun h => by have := Shape_ar h; omega), SR17.fin⟩
                                | exact ⟨shape_t ((Shape_1 (by omega)).2 (by omega)), SR17.fin⟩
                                | exact ⟨shape_f (fun h => by have := (Shape_1 (by omega)).1 h; omega), SR17.fin⟩
                                | exact ⟨shape_t ((Shape_2 (by omega)).2 (by omega)), SR17.fin⟩
                                | exact ⟨shape_f (fun h => by have := (Shape_2 (by omega)).1 h; omega), SR17.fin⟩
                                | exact ⟨shape_t ((Shape_4 (by omega)).2 (by omega)), SR17.fin⟩
                                | exact ⟨shape_f (fun h => by have := (Shape_4 (by omega)).1 h; omega), SR17.fin⟩
                                | exact ⟨shape_t ((Shape_11 (by omega)).2 (by omega)), SR17.fin⟩
                                | exact ⟨shape_f (fun h => by have := (Shape_11 (by omega)).1 h; omega), SR17.fin⟩
                                | exact ⟨shape_t ((Shape_14 (by omega)).2 (by omega)), SR17.fin⟩
                                | exact ⟨shape_f (fun h => by have := (Shape_14 (by omega)).1 h; omega), SR17.fin⟩
                                | exact ⟨shape_t ((Shape_5 (by omega)).2 (by omega)), SR17.fin⟩
                                | exact ⟨shape_f (fun h => by have := (Shape_5 (by omega)).1 h; omega), SR17.fin⟩
                          · first | refine q_pick rfl (v := .bool _) rfl rfl ?_ | refine q_pick rfl (by conv => lhs; whnf) rfl ?_
                            first | refine q_move (v := .bool _) rfl rfl ?_ | refine q_move (by conv => lhs; whnf) rfl ?_
                            refine QL_off rfl rfl rfl ?_
                            refine QL_off rfl rfl rfl ?_
                            refine QL_off rfl rfl rfl ?_
                            refine QL_off rfl rfl rfl ?_
                            refine QL_off rfl rfl rfl ?_
                            refine QL_off rfl rfl rfl ?_
                            refine QL_off rfl rfl rfl ?_
                            refine QL_off rfl rfl rfl ?_
                            first | refine q_pick rfl (v := .bool _) rfl rfl ?_ | refine q_pick rfl (by conv => lhs; whnf) rfl ?_
                            first | refine q_assign (v := .bool _) rfl rfl ?_ | refine q_assign (by conv => lhs; whnf) rfl ?_
                            refine QL_nil ?_
                            refine BK_of ?_
                            refine BKL_nil ?_
                            rintro wR17 ⟨SR17, XR17⟩
                            refine WL_nil ?_
                            refine W_ret ?_
                            refine ret_1 rfl (by conv => lhs; whnf) ?_
                            first
                              | exact ⟨shape_f (fun h => by have := Shape_ar h; omega), SR17.fin⟩
                              | exact ⟨shape_t ((Shape_1 (by omega)).2 (by omega)), SR17.fin⟩
                              | exact ⟨shape_f (fun h => by have := (Shape_1 (by omega)).1 h; omega), SR17.fin⟩
                              | exact ⟨shape_t ((Shape_2 (by omega)).2 (by omega)), SR17.fin⟩
                              | exact ⟨shape_f (fun h => by have := (Shape_2 (by omega)).1 h; omega), SR17.fin⟩
                              | exact ⟨shape_t ((Shape_4 (by omega)).2 (by omega)), SR17.fin⟩
                              | exact ⟨shape_f (fun h => by have := (Shape_4 (by omega)).1 h; omega), SR17.fin⟩
                              | exact ⟨shape_t ((Shape_11 (by omega)).2 (by omega)), SR17.fin⟩
                              | exact ⟨shape_f (fun h => by have := (Shape_11 (by omega)).1 h; omega), SR17.fin⟩
                              | exact ⟨shape_t ((Shape_14 (by omega)).2 (by omega)), SR17.fin⟩
                              | exact ⟨shape_f (fun h => by have := (Shape_14 (by omega)).1 h; omega), SR17.fin⟩
                              | exact ⟨shape_t ((Shape_5 (by omega)).2 (by omega)), SR17.fin⟩
                              | exact ⟨shape_f (fun h => by have := (Shape_5 (by omega)).1 h; omega), SR17.fin⟩
                        · first | refine q_move (v := .bool _) rfl rfl ?_ | refine q_move (by conv => lhs; whnf) rfl ?_
                          refine QL_off rfl rfl rfl ?_
                          refine QL_off rfl rfl rfl ?_
                          refine QL_off rfl rfl rfl ?_
                          refine QL_off rfl rfl rfl ?_
                          refine QL_off rfl rfl rfl ?_
                          refine QL_off rfl rfl rfl ?_
                          refine QL_off rfl rfl rfl ?_
                          refine QL_off rfl rfl rfl ?_
                          first | refine q_pick rfl (v := .bool _) rfl rfl ?_ | refine q_pick rfl (by conv => lhs; whnf) rfl ?_
                          first | refine q_move (v := .bool _) rfl rfl ?_ | refine q_move (by conv => lhs; whnf) rfl ?_
                          refine QL_off rfl rfl rfl ?_
                          refine QL_off rfl rfl rfl ?_
                          refine QL_off rfl rfl rfl ?_
                          refine QL_off rfl rfl rfl ?_
                          refine QL_off rfl rfl rfl ?_
                          refine QL_off rfl rfl rfl ?_
                          refine QL_off rfl rfl rfl ?_
                          refine QL_off rfl rfl rfl ?_
                          first | refine q_pick rfl (v := .bool _) rfl rfl ?_ | refine q_pick rfl (by conv => lhs; whnf) rfl ?_
                          first | refine q_assign (v := .bool _) rfl rfl ?_ | refine q_assign (by conv => lhs; whnf) rfl ?_
                          refine QL_nil ?_
                          refine BK_of ?_
                          refine BKL_nil ?_
                          rintro wR17 ⟨SR17, XR17⟩
                          refine WL_nil ?_
                          refine W_ret ?_
                          refine ret_1 rfl (by conv => lhs; whnf) ?_
                          first
                            | exact ⟨shape_f (fun h => by have := Shape_ar h; omega), SR17.fin⟩
                            | exact ⟨shape_t ((Shape_1 (by omega)).2 (by omega)), SR17.fin⟩
                            | exact ⟨shape_f (fun h => by have := (Shape_1 (by omega)).1 h; omega), SR17.fin⟩
                            | exact ⟨shape_t ((Shape_2 (by omega)).2 (by omega)), SR17.fin⟩
                            | exact ⟨shape_f (fun h => by have := (Shape_2 (by omega)).1 h; omega), SR17.fin⟩
                            | exact ⟨shape_t ((Shape_4 (by omega)).2 (by omega)), SR17.fin⟩
                            | exact ⟨shape_f (fun h => by have := (Shape_4 (by omega)).1 h; omega), SR17.fin⟩
                            | exact ⟨shape_t ((Shape_11 (by omega)).2 (by omega)), SR17.fin⟩
                            | exact ⟨shape_f (fun h => by have := (Shape_11 (by omega)).1 h; omega), SR17.fin⟩
                            | exact ⟨shape_t ((Shape_14 (by omega)).2 (by omega)), SR17.fin⟩
                            | exact ⟨shape_f (fun h => by have := (Shape_14 (by omega)).1 h; omega), SR17.fin⟩
                            | exact ⟨shape_t ((Shape_5 (by omega)).2 (by omega)), SR17.fin⟩
                            | exact ⟨shape_f (fun h => by have := (Shape_5 (by omega)).1 h; omega), SR17.fin⟩

theorem deep_fn : ∀ (e : E) (M : List Nat) (w0 : World) (cs : List Value) (lim : Int), RdE M w0 e cs → -1000 ≤ lim → lim ≤ 1000 →
    Does Tryd.prog 67 #[.agg cs.toArray, .int .i64 lim] w0 fun v w' => v = .bool (e.good lim) ∧ Below w0.heap.size w0 w' := by
  intro e
  induction e using E.induct with
  | _ e ih =>
  intro M w0 cs lim hR hl1 hl2
  obtain ⟨A, n, c, rfl, o1, o2, o3, hn, hc, hm, hbig, hks⟩ := hR.open_
  have S := St.refl w0
  have hdef := E.good_def e lim
  have hfalse : ∀ k ∈ e.kids, k.good (lim - 1) = false → E.goods e.kids (lim - 1) = false := fun k hk hf => by
    cases hg : E.goods e.kids (lim - 1) with
    | false => rfl
    | true => rw [(E.goods_iff _ _).1 hg k hk] at hf; cases hf
  refine Does_enter Tryd.func67 rfl Tryd.ntmps67 rfl ?_
  refine W_seq ?_
  refine W_region ?_
  refine o_boxa S (by conv => lhs; whnf) rfl ?_
  intro g2 w2 S2 X2 G2
  first | refine o_assign (v := .bool _) rfl rfl ?_ | refine o_assign (by conv => lhs; whnf) rfl ?_
  refine WL_nil ?_
  refine W_seq ?_
  refine W_seq ?_
  refine W_region ?_
  first | refine o_move (v := .int .i64 _) rfl rfl ?_ | refine o_move (by conv => lhs; whnf) rfl ?_
  refine o_lss rfl rfl rfl (fun h7 => ?_) (fun h7 => ?_)
  · first | refine o_move (v := .bool _) rfl rfl ?_ | refine o_move (by conv => lhs; whnf) rfl ?_
    refine WL_off rfl rfl rfl rfl ?_
    refine WL_off rfl rfl rfl rfl ?_
    refine WL_off rfl rfl rfl rfl ?_
    first | refine o_pick rfl (v := .bool _) rfl rfl ?_ | refine o_pick rfl (by conv => lhs; whnf) rfl ?_
    refine WL_nil ?_
    refine W_then rfl ?_
    refine W_seq ?_
    refine W_region ?_
    first | refine o_assign (v := .bool _) rfl rfl ?_ | refine o_assign (by conv => lhs; whnf) rfl ?_
    refine WL_nil ?_
    refine W_ret ?_
    refine ret_1 rfl (by conv => lhs; whnf) ?_
    refine ⟨congrArg Value.bool ?_, S2.fin⟩
    rw [hdef]
    first
      | (simp [show ¬ 1 ≤ lim by omega]; done)
      | (simp [h10]; done)
      | (simp [hfalse _ (List.getElem_mem hlt) h27]; done)
      | (rw [(E.goods_iff _ _).2 (fun x hx => by obtain ⟨j, hj, rfl⟩ := List.getElem_of_mem hx; exact hs j hj (by omega))]; simp [h10, show 1 ≤ lim by omega])
  · first | refine o_move (v := .bool _) rfl rfl ?_ | refine o_move (by conv => lhs; whnf) rfl ?_
    refine WL_on rfl rfl rfl ?_
    first | refine o_loadN many_25 rfl (S2.cells 0 rfl) rfl rfl ?_ | refine o_loadN many_25 rfl (hck.keep (S2.keep0 M) hbM) (by first | rfl | assumption) rfl ?_
    refine WL_on rfl rfl rfl ?_
    refine o_callb S2 has_76 rfl rfl (node_fn _ M _ _ (RdE.keep (S2.keep0 M) _ _ hR)) (fun h10 w10 S10 X10 => ?_) (fun h10 w10 S10 X10 => ?_)
    · refine WL_on rfl rfl rfl ?_
      refine o_not rfl rfl ?_
      first | refine o_pick rfl (v := .bool _) rfl rfl ?_ | refine o_pick rfl (by conv => lhs; whnf) rfl ?_
      refine WL_nil ?_
      refine W_else rfl ?_
      refine W_skip ?_
      refine W_seq ?_
      refine W_seq ?_
      refine W_region ?_
      first | refine o_assign (v := .int .i64 _) rfl rfl ?_ | refine o_assign (by conv => lhs; whnf) rfl ?_
      refine WL_nil ?_
      refine W_block ?_
      refine W_loop (fun μ D ε w => D = [] ∧ ∃ k : Nat, (k + μ = e.kids.length) ∧ (∀ (j : Nat) (h : j < e.kids.length), j < k → e.kids[j].good (lim - 1) = true) ∧ St [] w0 w [(some g2, 25, [.int .i64 e.op, .int .i64 e.w, .int .i64 e.n, .slice A n c])] ∧ ε 1 = .int .i64 lim ∧ ε 2 = .pointer (some ⟨g2, 0, none⟩) ∧ ε 5 = .int .i64 k) (μ := e.kids.length) ⟨rfl, 0, by omega, fun j _ h => absurd h (by omega), S10, rfl, rfl, rfl⟩ ?_
      rintro μ D ε w ⟨rfl, k, hk, hs, S, e1, e2, e5⟩
      refine W_known 1 e1 ?_
      refine W_known 2 e2 ?_
      refine W_known 5 e5 ?_
      clear e1 e2 e5
      refine W_seq ?_
      refine W_seq ?_
      refine W_region ?_
      first | refine o_move (v := .int .i64 _) rfl rfl ?_ | refine o_move (by conv => lhs; whnf) rfl ?_
      refine o_fieldAddr fa_25_3 rfl rfl ?_
      refine o_load one_23 rfl (by first | exact S.cell 0 rfl rfl) rfl ?_
      refine o_len slz_23.slT rfl rfl ?_
      refine o_lss rfl rfl rfl (fun h17 => ?_) (fun h17 => ?_)
      · refine WL_nil ?_
        refine W_then rfl ?_
        refine W_skip ?_
        refine W_seq ?_
        refine W_block ?_
        refine W_seq ?_
        refine W_region ?_
        have hlt : k < e.kids.length := by omega
        obtain ⟨b, o, hA, hbM, hkk⟩ := hks (by omega)
        obtain ⟨ck, hck, hrk⟩ := hkk k hlt
        have hlen : ck.length = 4 := hrk.length
        refine o_fieldAddr fa_25_3 rfl rfl ?_
        refine o_load one_23 rfl (by first | exact S.cell 0 rfl rfl) rfl ?_
        first | refine o_move (v := .int .i64 _) rfl rfl ?_ | refine o_move (by conv => lhs; whnf) rfl ?_
        refine o_indexAddr slz_23.slT rfl (by first | rfl | assumption) rfl (by omega) (by omega) rfl ?_
        first | refine o_loadN many_25 rfl (S.cells 0 rfl) rfl rfl ?_ | refine o_loadN many_25 rfl (hck.keep (S.keep0 M) hbM) (by first | rfl | assumption) rfl ?_
        first | refine o_move (v := .int .i64 _) rfl rfl ?_ | refine o_move (by conv => lhs; whnf) rfl ?_
        refine o_sub rfl rfl (by unfold i64; omega) rfl ?_
        refine o_callb S has_67 rfl rfl (ih _ (List.getElem_mem hlt) M _ ck _ (RdE.keep (S.keep0 M) _ _ hrk) (by omega) (by omega)) (fun h27 w27 S27 X27 => ?_) (fun h27 w27 S27 X27 => ?_)
        · refine o_not rfl rfl ?_
          refine WL_nil ?_
          refine W_else rfl ?_
          refine W_skip ?_
          refine W_region ?_
          first | refine o_move (v := .int .i64 _) rfl rfl ?_ | refine o_move (by conv => lhs; whnf) rfl ?_
          refine o_add rfl rfl (by unfold i64; omega) rfl ?_
          first | refine o_assign (v := .int .i64 _) rfl rfl ?_ | refine o_assign (by conv => lhs; whnf) rfl ?_
          refine WL_nil ?_
          refine ⟨μ - 1, by omega, rfl, k + 1, by omega, fun j hj h => ?_, S27, rfl, rfl, rfl⟩
          by_cases hjk : j = k
          · subst hjk; exact h27
          · exact hs j hj (by omega)
        · refine o_not rfl rfl ?_
          refine WL_nil ?_
          refine W_then rfl ?_
          refine W_seq ?_
          refine W_region ?_
          first | refine o_assign (v := .bool _) rfl rfl ?_ | refine o_assign (by conv => lhs; whnf) rfl ?_
          refine WL_nil ?_
          refine W_ret ?_
          refine ret_1 rfl (by conv => lhs; whnf) ?_
          refine ⟨congrArg Value.bool ?_, S27.fin⟩
          rw [hdef]
          first
            | (simp [show ¬ 1 ≤ lim by omega]; done)
            | (simp [h10]; done)
            | (simp [hfalse _ (List.getElem_mem hlt) h27]; done)
            | (rw [(E.goods_iff _ _).2 (fun x hx => by obtain ⟨j, hj, rfl⟩ := List.getElem_of_mem hx; exact hs j hj (by omega))]; simp [h10, show 1 ≤ lim by omega])
      · refine WL_nil ?_
        refine W_else rfl ?_
        refine W_exit ?_
        refine bcons_here ?_
        refine W_seq ?_
        refine W_region ?_
        first | refine o_assign (v := .bool _) rfl rfl ?_ | refine o_assign (by conv => lhs; whnf) rfl ?_
        refine WL_nil ?_
        refine W_ret ?_
        refine ret_1 rfl (by conv => lhs; whnf) ?_
        refine ⟨congrArg Value.bool ?_, S.fin⟩
        rw [hdef]
        first
          | (simp [show ¬ 1 ≤ lim by omega]; done)
          | (simp [h10]; done)
          | (simp [hfalse _ (List.getElem_mem hlt) h27]; done)
          | (rw [(E.goods_iff _ _).2 (fun x hx => by obtain ⟨j, hj, rfl⟩ := List.getElem_of_mem hx; exact hs j hj (by omega))]; simp [h10, show 1 ≤ lim by omega])
    · refine WL_on rfl rfl rfl ?_
      refine o_not rfl rfl ?_
      first | refine o_pick rfl (v := .bool _) rfl rfl ?_ | refine o_pick rfl (by conv => lhs; whnf) rfl ?_
      refine WL_nil ?_
      refine W_then rfl ?_
      refine W_seq ?_
      refine W_region ?_
      first | refine o_assign (v := .bool _) rfl rfl ?_ | refine o_assign (by conv => lhs; whnf) rfl ?_
      refine WL_nil ?_
      refine W_ret ?_
      refine ret_1 rfl (by conv => lhs; whnf) ?_
      refine ⟨congrArg Value.bool ?_, S10.fin⟩
      rw [hdef]
      first
        | (simp [show ¬ 1 ≤ lim by omega]; done)
        | (simp [h10]; done)
        | (simp [hfalse _ (List.getElem_mem hlt) h27]; done)
        | (rw [(E.goods_iff _ _).2 (fun x hx => by obtain ⟨j, hj, rfl⟩ := List.getElem_of_mem hx; exact hs j hj (by omega))]; simp [h10, show 1 ≤ lim by omega])

theorem formed_fn (e : E) (M : List Nat) (w0 : World) (cs : List Value) (hR : RdE M w0 e cs) :
    Does Tryd.prog 48 #[.agg cs.toArray] w0 fun v w' => v = .bool e.wf ∧ Below w0.heap.size w0 w' := by
  obtain ⟨A, n, c, rfl, o1, o2, o3, hn, hc, hm, hbig, hks⟩ := hR.open_
  have S := St.refl w0
  have hsz := E.size_eq e 601 (by omega)
  refine Does_enter Tryd.func48 rfl Tryd.ntmps48 rfl ?_
  refine W_seq ?_
  refine W_region ?_
  refine o_boxa S (by conv => lhs; whnf) rfl ?_
  intro g1 w1 S1 X1 G1
  first | refine o_assign (v := .bool _) rfl rfl ?_ | refine o_assign (by conv => lhs; whnf) rfl ?_
  refine WL_nil ?_
  refine W_seq ?_
  refine W_region ?_
  first | refine o_loadN many_25 rfl (S1.cells 0 rfl) rfl rfl ?_
  refine o_callr S1 has_32 rfl rfl (size_fn _ M _ _ _ (RdE.keep (S1.keep0 M) _ _ hR) (by unfold i64; omega)) ?_
  intro w4 S4 X4
  refine o_leq rfl rfl rfl (fun h5 => ?_) (fun h5 => ?_)
  · first | refine o_move (v := .bool _) rfl rfl ?_ | refine o_move (by conv => lhs; whnf) rfl ?_
    refine WL_on rfl rfl rfl ?_
    first | refine o_loadN many_25 rfl (S4.cells 0 rfl) rfl rfl ?_
    refine WL_on rfl rfl rfl ?_
    refine o_callb S4 has_67 rfl rfl (deep_fn _ M _ _ _ (RdE.keep (S4.keep0 M) _ _ hR) (by omega) (by omega)) (fun h8 w8 S8 X8 => ?_) (fun h8 w8 S8 X8 => ?_)
    · first | refine o_pick rfl (v := .bool _) rfl rfl ?_ | refine o_pick rfl (by conv => lhs; whnf) rfl ?_
      first | refine o_assign (v := .bool _) rfl rfl ?_ | refine o_assign (by conv => lhs; whnf) rfl ?_
      refine WL_nil ?_
      refine W_ret ?_
      refine ret_1 rfl (by conv => lhs; whnf) ?_
      refine ⟨congrArg Value.bool ?_, S8.fin⟩
      unfold E.wf
      first
        | (simp [h8, show e.cnt ≤ 600 by omega]; done)
        | (simp [show ¬ e.cnt ≤ 600 by omega]; done)
    · first | refine o_pick rfl (v := .bool _) rfl rfl ?_ | refine o_pick rfl (by conv => lhs; whnf) rfl ?_
      first | refine o_assign (v := .bool _) rfl rfl ?_ | refine o_assign (by conv => lhs; whnf) rfl ?_
      refine WL_nil ?_
      refine W_ret ?_
      refine ret_1 rfl (by conv => lhs; whnf) ?_
      refine ⟨congrArg Value.bool ?_, S8.fin⟩
      unfold E.wf
      first
        | (simp [h8, show e.cnt ≤ 600 by omega]; done)
        | (simp [show ¬ e.cnt ≤ 600 by omega]; done)
  · first | refine o_move (v := .bool _) rfl rfl ?_ | refine o_move (by conv => lhs; whnf) rfl ?_
    refine WL_off rfl rfl rfl rfl ?_
    refine WL_off rfl rfl rfl rfl ?_
    first | refine o_pick rfl (v := .bool _) rfl rfl ?_ | refine o_pick rfl (by conv => lhs; whnf) rfl ?_
    first | refine o_assign (v := .bool _) rfl rfl ?_ | refine o_assign (by conv => lhs; whnf) rfl ?_
    refine WL_nil ?_
    refine W_ret ?_
    refine ret_1 rfl (by conv => lhs; whnf) ?_
    refine ⟨congrArg Value.bool ?_, S4.fin⟩
    unfold E.wf
    first
      | (simp [h8, show e.cnt ≤ 600 by omega]; done)
      | (simp [show ¬ e.cnt ≤ 600 by omega]; done)

theorem small_fn (e : E) (M : List Nat) (w0 : World) (cs : List Value) (lim : Int) (hR : RdE M w0 e cs) (h0 : 0 ≤ lim) (h1 : lim ≤ 1000000) :
    Does Tryd.prog 13 #[.agg cs.toArray, .int .i64 lim] w0 fun v w' => v = .bool (decide ((e.cnt : Int) ≤ lim)) ∧ Below w0.heap.size w0 w' := by
  obtain ⟨A, n, c, rfl, o1, o2, o3, hn, hc, hm, hbig, hks⟩ := hR.open_
  have S := St.refl w0
  have hsz := E.size_eq e (lim + 1) (by omega)
  refine Does_enter Tryd.func13 rfl Tryd.ntmps13 rfl ?_
  refine W_seq ?_
  refine W_region ?_
  refine o_boxa S (by conv => lhs; whnf) rfl ?_
  intro g2 w2 S2 X2 G2
  first | refine o_assign (v := .bool _) rfl rfl ?_ | refine o_assign (by conv => lhs; whnf) rfl ?_
  refine WL_nil ?_
  refine W_seq ?_
  refine W_region ?_
  first | refine o_loadN many_25 rfl (S2.cells 0 rfl) rfl rfl ?_
  first | refine o_move (v := .int .i64 _) rfl rfl ?_ | refine o_move (by conv => lhs; whnf) rfl ?_
  refine o_add rfl rfl (by unfold i64; omega) rfl ?_
  refine o_callr S2 has_32 rfl rfl (size_fn _ M _ _ _ (RdE.keep (S2.keep0 M) _ _ hR) (by unfold i64; omega)) ?_
  intro w8 S8 X8
  first | refine o_move (v := .int .i64 _) rfl rfl ?_ | refine o_move (by conv => lhs; whnf) rfl ?_
  refine o_leq rfl rfl rfl (fun h10 => ?_) (fun h10 => ?_)
  · first | refine o_assign (v := .bool _) rfl rfl ?_ | refine o_assign (by conv => lhs; whnf) rfl ?_
    refine WL_nil ?_
    refine W_ret ?_
    refine ret_1 rfl (by conv => lhs; whnf) ?_
    refine ⟨congrArg Value.bool ?_, S8.fin⟩
    first
      | exact (decide_eq_true (by omega)).symm
      | exact (decide_eq_false (by omega)).symm
  · first | refine o_assign (v := .bool _) rfl rfl ?_ | refine o_assign (by conv => lhs; whnf) rfl ?_
    refine WL_nil ?_
    refine W_ret ?_
    refine ret_1 rfl (by conv => lhs; whnf) ?_
    refine ⟨congrArg Value.bool ?_, S8.fin⟩
    first
      | exact (decide_eq_true (by omega)).symm
      | exact (decide_eq_false (by omega)).symm

theorem over_fn : ∀ (e : E) (M : List Nat) (w0 : World) (cs : List Value) (vc : Value) (cells : List CellD) (pair : Bool) (lim : Int), RdE M w0 e cs → RdCs M w0 vc cells → e.good lim = true →
    Does Tryd.prog 49 #[.agg cs.toArray, vc, .bool pair] w0 fun v w' => v = .bool (e.over cells pair) ∧ Below w0.heap.size w0 w' := by
  intro e
  induction e using E.induct with
  | _ e ih =>
  intro M w0 cs vc cells pair lim hR hC hg
  obtain ⟨A, n, c, rfl, o1, o2, o3, hn, hc, hm, hbig, hks⟩ := hR.open_
  obtain ⟨Ac, nc, cc, rfl, hnc, hcc, hcm, hcbig, hcs⟩ := id hC
  have S := St.refl w0
  have hdef := E.over_def cells pair e
  have hfalse : ∀ k ∈ e.kids, k.over cells pair = false → E.overs cells pair e.kids = false := fun k hk hf => by
    cases hg : E.overs cells pair e.kids with
    | false => rfl
    | true => rw [(E.overs_iff _ _ _).1 hg k hk] at hf; cases hf
  rw [E.good_def] at hg
  simp only [Bool.and_eq_true] at hg
  have hsh : e.Shape := of_decide_eq_true hg.1.2
  have hkg : ∀ k ∈ e.kids, k.good (lim - 1) = true := (E.goods_iff _ _).1 hg.2
  clear hg
  have har := arityL_spec e.op
  have hov : (e.op = 3 ∨ e.op = 2) → 0 ≤ e.n ∧ e.n < 32 := fun h => by
    have := (Shape_2 (by omega)).1 hsh; omega
  cases pair
  · refine Does_enter Tryd.func49 rfl Tryd.ntmps49 rfl ?_
    refine W_seq ?_
    refine W_region ?_
    refine o_boxa S (by conv => lhs; whnf) rfl ?_
    intro g3 w3 S3 X3 G3
    first | refine o_assign (v := .bool _) rfl rfl ?_ | refine o_assign (by conv => lhs; whnf) rfl ?_
    refine WL_nil ?_
    refine W_seq ?_
    refine W_seq ?_
    refine W_region ?_
    refine o_fieldAddr fa_25_0 rfl rfl ?_
    refine o_load one_3 rfl (by first | exact S3.cell 0 rfl rfl | exact S3.old hcw) rfl ?_
    refine o_eql rfl rfl rfl (fun h10 => ?_) (fun h10 => ?_)
    · first | refine o_move (v := .bool _) rfl rfl ?_ | refine o_move (by conv => lhs; whnf) rfl ?_
      refine WL_on rfl rfl rfl ?_
      first | refine o_move (v := .bool _) rfl rfl ?_ | refine o_move (by conv => lhs; whnf) rfl ?_
      refine WL_on rfl rfl rfl ?_
      refine o_not rfl rfl ?_
      first | refine o_pick rfl (v := .bool _) rfl rfl ?_ | refine o_pick rfl (by conv => lhs; whnf) rfl ?_
      refine WL_nil ?_
      refine W_then rfl ?_
      refine W_seq ?_
      refine W_region ?_
      first | refine o_assign (v := .bool _) rfl rfl ?_ | refine o_assign (by conv => lhs; whnf) rfl ?_
      refine WL_nil ?_
      refine W_ret ?_
      refine ret_1 rfl (by conv => lhs; whnf) ?_
      refine ⟨congrArg Value.bool ?_, S3.fin⟩
      rw [hdef]
      first
        | (rw [decide_eq_false (by unfold E.OverN; omega)]; rfl)
        | (rw [decide_eq_false (by unfold E.OverN; simp; omega)]; rfl)
        | (rw [hfalse _ (List.getElem_mem hlt) h55]; simp; done)
        | (rw [(E.overs_iff _ _ _).2 (fun x hx => by obtain ⟨j, hj, rfl⟩ := List.getElem_of_mem hx; exact hs j hj (by omega)), decide_eq_true (by unfold E.OverN; simp; omega)]; rfl)
    · first | refine o_move (v := .bool _) rfl rfl ?_ | refine o_move (by conv => lhs; whnf) rfl ?_
      refine WL_off rfl rfl rfl rfl ?_
      refine WL_off rfl rfl rfl rfl ?_
      first | refine o_pick rfl (v := .bool _) rfl rfl ?_ | refine o_pick rfl (by conv => lhs; whnf) rfl ?_
      refine WL_nil ?_
      refine W_else rfl ?_
      refine W_skip ?_
      refine W_seq ?_
      refine W_seq ?_
      refine W_draw follows_mixed [0, 1, 2, 3, 4, 5, 6, 7, 8, 9, 10, 11, 12, 13, 14, 15, 16, 17, 18, 19, 20, 21, 22, 23, 24, 25] [] [] (by kernel_rfl) rfl (Cl _ _ _ _) (Cl.start S3) ?_
      refine q_fieldAddr fa_25_0 rfl rfl ?_
      refine q_load one_3 rfl (fun w1 hw => by first | exact hw.1.cell 0 rfl rfl | exact hw.1.old hcw) rfl ?_
      refine q_eql rfl rfl rfl (fun h17 => ?_) (fun h17 => ?_)
      · first | refine q_move (v := .bool _) rfl rfl ?_ | refine q_move (by conv => lhs; whnf) rfl ?_
        refine QL_off rfl rfl rfl ?_
        refine QL_off rfl rfl rfl ?_
        refine QL_off rfl rfl rfl ?_
        first | refine q_pick rfl (v := .bool _) rfl rfl ?_ | refine q_pick rfl (by conv => lhs; whnf) rfl ?_
        first | refine q_move (v := .bool _) rfl rfl ?_ | refine q_move (by conv => lhs; whnf) rfl ?_
        refine QL_on rfl rfl ?_
        refine q_fieldAddr fa_25_2 rfl rfl ?_
        refine QL_on rfl rfl ?_
        refine q_load one_3 rfl (fun w1 hw => by first | exact hw.1.cell 0 rfl rfl | exact hw.1.old hcw) rfl ?_
        refine QL_on rfl rfl ?_
        first | refine q_move (v := .slice _ _ _) rfl rfl ?_ | refine q_move (by conv => lhs; whnf) rfl ?_
        refine QL_on rfl rfl ?_
        refine q_len slz_22.slT rfl rfl ?_
        refine QL_on rfl rfl ?_
        refine q_geq rfl rfl rfl (fun h28 => ?_) (fun h28 => ?_)
        · refine QL_on rfl rfl ?_
          first | refine q_move (v := .bool _) rfl rfl ?_ | refine q_move (by conv => lhs; whnf) rfl ?_
          refine QL_off rfl rfl rfl ?_
          refine QL_off rfl rfl rfl ?_
          refine QL_off rfl rfl rfl ?_
          refine QL_off rfl rfl rfl ?_
          refine QL_off rfl rfl rfl ?_
          refine QL_off rfl rfl rfl ?_
          refine QL_off rfl rfl rfl ?_
          refine QL_off rfl rfl rfl ?_
          refine QL_off rfl rfl rfl ?_
          refine QL_on rfl rfl ?_
          first | refine q_pick rfl (v := .bool _) rfl rfl ?_ | refine q_pick rfl (by conv => lhs; whnf) rfl ?_
          first | refine q_pick rfl (v := .bool _) rfl rfl ?_ | refine q_pick rfl (by conv => lhs; whnf) rfl ?_
          refine QL_nil ?_
          refine BK_of ?_
          refine BKL_nil ?_
          rintro wR3 ⟨SR3, XR3⟩
          refine WL_nil ?_
          refine W_then rfl ?_
          refine W_seq ?_
          refine W_region ?_
          first | refine o_assign (v := .bool _) rfl rfl ?_ | refine o_assign (by conv => lhs; whnf) rfl ?_
          refine WL_nil ?_
          refine W_ret ?_
          refine ret_1 rfl (by conv => lhs; whnf) ?_
          refine ⟨congrArg Value.bool ?_, SR3.fin⟩
          rw [hdef]
          first
            | (rw [decide_eq_false (by unfold E.OverN; omega)]; rfl)
            | (rw [decide_eq_false (by unfold E.OverN; simp; omega)]; rfl)
            | (rw [hfalse _ (List.getElem_mem hlt) h55]; simp; done)
            | (rw [(E.overs_iff _ _ _).2 (fun x hx => by obtain ⟨j, hj, rfl⟩ := List.getElem_of_mem hx; exact hs j hj (by omega)), decide_eq_true (by unfold E.OverN; simp; omega)]; rfl)
        · refine QL_on rfl rfl ?_
          first | refine q_move (v := .bool _) rfl rfl ?_ | refine q_move (by conv => lhs; whnf) rfl ?_
          refine QL_on rfl rfl ?_
          first | refine q_move (v := .slice _ _ _) rfl rfl ?_ | refine q_move (by conv => lhs; whnf) rfl ?_
          refine QL_on rfl rfl ?_
          refine q_fieldAddr fa_25_2 rfl rfl ?_
          refine QL_on rfl rfl ?_
          refine q_load one_3 rfl (fun w1 hw => by first | exact hw.1.cell 0 rfl rfl | exact hw.1.old hcw) rfl ?_
          refine QL_on rfl rfl ?_
          obtain ⟨bc, oc, hAc, hbc, hce⟩ := hcs (by omega)
          obtain ⟨m, hm⟩ := Int.eq_ofNat_of_zero_le (show 0 ≤ e.n by omega)
          have hml : m < cells.length := by omega
          obtain ⟨cl, hcl, hcw', hrc⟩ := hce m cells[m] (List.getElem?_eq_getElem hml)
          have hcw : w0.cell? ⟨bc, oc + e.n.toNat * 6 + 1, none⟩ = some (.int .i64 (wAt cells e.n)) := by
            rw [hm]; have := hcw' 1 (.int .i64 cells[m].w) (by rw [hrc.1]; rfl)
            simpa [wAt, hml] using this
          refine q_indexAddr slz_22.slT rfl (by first | rfl | assumption) rfl (by omega) (by omega) rfl ?_
          refine QL_on rfl rfl ?_
          refine q_fieldAddr fa_48_1 rfl rfl ?_
          refine QL_on rfl rfl ?_
          refine q_load one_3 rfl (fun w1 hw => by first | exact hw.1.cell 0 rfl rfl | exact hw.1.old hcw) rfl ?_
          refine QL_on rfl rfl ?_
          refine q_fieldAddr fa_25_1 rfl rfl ?_
          refine QL_on rfl rfl ?_
          refine q_load one_3 rfl (fun w1 hw => by first | exact hw.1.cell 0 rfl rfl | exact hw.1.old hcw) rfl ?_
          refine QL_on rfl rfl ?_
          refine q_neq rfl rfl rfl (fun h38 => ?_) (fun h38 => ?_)
          · refine QL_on rfl rfl ?_
            first | refine q_pick rfl (v := .bool _) rfl rfl ?_ | refine q_pick rfl (by conv => lhs; whnf) rfl ?_
            first | refine q_pick rfl (v := .bool _) rfl rfl ?_ | refine q_pick rfl (by conv => lhs; whnf) rfl ?_
            refine QL_nil ?_
            refine BK_of ?_
            refine BKL_nil ?_
            rintro wR3 ⟨SR3, XR3⟩
            refine WL_nil ?_
            refine W_then rfl ?_
            refine W_seq ?_
            refine W_region ?_
            first | refine o_assign (v := .bool _) rfl rfl ?_ | refine o_assign (by conv => lhs; whnf) rfl ?_
            refine WL_nil ?_
            refine W_ret ?_
            refine ret_1 rfl (by conv => lhs; whnf) ?_
            refine ⟨congrArg Value.bool ?_, SR3.fin⟩
            rw [hdef]
            first
              | (rw [decide_eq_false (by unfold E.OverN; omega)]; rfl)
              | (rw [decide_eq_false (by unfold E.OverN; simp; omega)]; rfl)
              | (rw [hfalse _ (List.getElem_mem hlt) h55]; simp; done)
              | (rw [(E.overs_iff _ _ _).2 (fun x hx => by obtain ⟨j, hj, rfl⟩ := List.getElem_of_mem hx; exact hs j hj (by omega)), decide_eq_true (by unfold E.OverN; simp; omega)]; rfl)
          · refine QL_on rfl rfl ?_
            first | refine q_pick rfl (v := .bool _) rfl rfl ?_ | refine q_pick rfl (by conv => lhs; whnf) rfl ?_
            first | refine q_pick rfl (v := .bool _) rfl rfl ?_ | refine q_pick rfl (by conv => lhs; whnf) rfl ?_
            refine QL_nil ?_
            refine BK_of ?_
            refine BKL_nil ?_
            rintro wR3 ⟨SR3, XR3⟩
            refine WL_nil ?_
            refine W_else rfl ?_
            refine W_skip ?_
            refine W_seq ?_
            refine W_seq ?_
            refine W_region ?_
            first | refine o_assign (v := .int .i64 _) rfl rfl ?_ | refine o_assign (by conv => lhs; whnf) rfl ?_
            refine WL_nil ?_
            refine W_block ?_
            refine W_loop (fun μ D ε w => D = [] ∧ ∃ k : Nat, (k + μ = e.kids.length) ∧ (∀ (j : Nat) (h : j < e.kids.length), j < k → e.kids[j].over cells false = true) ∧ St [] w0 w [(some g3, 25, [.int .i64 e.op, .int .i64 e.w, .int .i64 e.n, .slice A n c])] ∧ ε 1 = .slice Ac nc cc ∧ ε 2 = .bool false ∧ ε 3 = .pointer (some ⟨g3, 0, none⟩) ∧ ε 7 = .int .i64 k) (μ := e.kids.length) ⟨rfl, 0, by omega, fun j _ h => absurd h (by omega), SR3, rfl, rfl, rfl, rfl⟩ ?_
            rintro μ D ε w ⟨rfl, k, hk, hs, S, e1, e2, e3, e7⟩
            refine W_known 1 e1 ?_
            refine W_known 2 e2 ?_
            refine W_known 3 e3 ?_
            refine W_known 7 e7 ?_
            clear e1 e2 e3 e7
            refine W_seq ?_
            refine W_seq ?_
            refine W_region ?_
            first | refine o_move (v := .int .i64 _) rfl rfl ?_ | refine o_move (by conv => lhs; whnf) rfl ?_
            refine o_fieldAddr fa_25_3 rfl rfl ?_
            refine o_load one_23 rfl (by first | exact S.cell 0 rfl rfl | exact S.old hcw) rfl ?_
            refine o_len slz_23.slT rfl rfl ?_
            refine o_lss rfl rfl rfl (fun h45 => ?_) (fun h45 => ?_)
            · refine WL_nil ?_
              refine W_then rfl ?_
              refine W_skip ?_
              refine W_seq ?_
              refine W_block ?_
              refine W_seq ?_
              refine W_region ?_
              have hlt : k < e.kids.length := by omega
              obtain ⟨b, o, hA, hbM, hkk⟩ := hks (by omega)
              obtain ⟨ck, hck, hrk⟩ := hkk k hlt
              have hlen : ck.length = 4 := hrk.length
              refine o_fieldAddr fa_25_3 rfl rfl ?_
              refine o_load one_23 rfl (by first | exact S.cell 0 rfl rfl | exact S.old hcw) rfl ?_
              first | refine o_move (v := .int .i64 _) rfl rfl ?_ | refine o_move (by conv => lhs; whnf) rfl ?_
              refine o_indexAddr slz_23.slT rfl (by first | rfl | assumption) rfl (by omega) (by omega) rfl ?_
              first | refine o_loadN many_25 rfl (S.cells 0 rfl) rfl rfl ?_ | refine o_loadN many_25 rfl (hck.keep (S.keep0 M) hbM) (by first | rfl | assumption) rfl ?_
              first | refine o_move (v := .slice _ _ _) rfl rfl ?_ | refine o_move (by conv => lhs; whnf) rfl ?_
              first | refine o_move (v := .bool _) rfl rfl ?_ | refine o_move (by conv => lhs; whnf) rfl ?_
              refine o_callb S has_49 rfl rfl (ih _ (List.getElem_mem hlt) M _ ck _ cells false _ (RdE.keep (S.keep0 M) _ _ hrk) (hC.keep (S.keep0 M)) (hkg _ (List.getElem_mem hlt))) (fun h55 w55 S55 X55 => ?_) (fun h55 w55 S55 X55 => ?_)
              · refine o_not rfl rfl ?_
                refine WL_nil ?_
                refine W_else rfl ?_
                refine W_skip ?_
                refine W_region ?_
                first | refine o_move (v := .int .i64 _) rfl rfl ?_ | refine o_move (by conv => lhs; whnf) rfl ?_
                refine o_add rfl rfl (by unfold i64; omega) rfl ?_
                first | refine o_assign (v := .int .i64 _) rfl rfl ?_ | refine o_assign (by conv => lhs; whnf) rfl ?_
                refine WL_nil ?_
                refine ⟨μ - 1, by omega, rfl, k + 1, by omega, fun j hj h => ?_, S55, rfl, rfl, rfl, rfl⟩
                by_cases hjk : j = k
                · subst hjk; exact h55
                · exact hs j hj (by omega)
              · refine o_not rfl rfl ?_
                refine WL_nil ?_
                refine W_then rfl ?_
                refine W_seq ?_
                refine W_region ?_
                first | refine o_assign (v := .bool _) rfl rfl ?_ | refine o_assign (by conv => lhs; whnf) rfl ?_
                refine WL_nil ?_
                refine W_ret ?_
                refine ret_1 rfl (by conv => lhs; whnf) ?_
                refine ⟨congrArg Value.bool ?_, S55.fin⟩
                rw [hdef]
                first
                  | (rw [decide_eq_false (by unfold E.OverN; omega)]; rfl)
                  | (rw [decide_eq_false (by unfold E.OverN; simp; omega)]; rfl)
                  | (rw [hfalse _ (List.getElem_mem hlt) h55]; simp; done)
                  | (rw [(E.overs_iff _ _ _).2 (fun x hx => by obtain ⟨j, hj, rfl⟩ := List.getElem_of_mem hx; exact hs j hj (by omega)), decide_eq_true (by unfold E.OverN; simp; omega)]; rfl)
            · refine WL_nil ?_
              refine W_else rfl ?_
              refine W_exit ?_
              refine bcons_here ?_
              refine W_seq ?_
              refine W_region ?_
              first | refine o_assign (v := .bool _) rfl rfl ?_ | refine o_assign (by conv => lhs; whnf) rfl ?_
              refine WL_nil ?_
              refine W_ret ?_
              refine ret_1 rfl (by conv => lhs; whnf) ?_
              refine ⟨congrArg Value.bool ?_, S.fin⟩
              rw [hdef]
              first
                | (rw [decide_eq_false (by unfold E.OverN; omega)]; rfl)
                | (rw [decide_eq_false (by unfold E.OverN; simp; omega)]; rfl)
                | (rw [hfalse _ (List.getElem_mem hlt) h55]; simp; done)
                | (rw [(E.overs_iff _ _ _).2 (fun x hx => by obtain ⟨j, hj, rfl⟩ := List.getElem_of_mem hx; exact hs j hj (by omega)), decide_eq_true (by unfold E.OverN; simp; omega)]; rfl)
      · first | refine q_move (v := .bool _) rfl rfl ?_ | refine q_move (by conv => lhs; whnf) rfl ?_
        refine QL_on rfl rfl ?_
        refine q_fieldAddr fa_25_0 rfl rfl ?_
        refine QL_on rfl rfl ?_
        refine q_load one_3 rfl (fun w1 hw => by first | exact hw.1.cell 0 rfl rfl | exact hw.1.old hcw) rfl ?_
        refine QL_on rfl rfl ?_
        refine q_eql rfl rfl rfl (fun h21 => ?_) (fun h21 => ?_)
        · first | refine q_pick rfl (v := .bool _) rfl rfl ?_ | refine q_pick rfl (by conv => lhs; whnf) rfl ?_
          first | refine q_move (v := .bool _) rfl rfl ?_ | refine q_move (by conv => lhs; whnf) rfl ?_
          refine QL_on rfl rfl ?_
          refine q_fieldAddr fa_25_2 rfl rfl ?_
          refine QL_on rfl rfl ?_
          refine q_load one_3 rfl (fun w1 hw => by first | exact hw.1.cell 0 rfl rfl | exact hw.1.old hcw) rfl ?_
          refine QL_on rfl rfl ?_
          first | refine q_move (v := .slice _ _ _) rfl rfl ?_ | refine q_move (by conv => lhs; whnf) rfl ?_
          refine QL_on rfl rfl ?_
          refine q_len slz_22.slT rfl rfl ?_
          refine QL_on rfl rfl ?_
          refine q_geq rfl rfl rfl (fun h28 => ?_) (fun h28 => ?_)
          · refine QL_on rfl rfl ?_
            first | refine q_move (v := .bool _) rfl rfl ?_ | refine q_move (by conv => lhs; whnf) rfl ?_
            refine QL_off rfl rfl rfl ?_
            refine QL_off rfl rfl rfl ?_
            refine QL_off rfl rfl rfl ?_
            refine QL_off rfl rfl rfl ?_
            refine QL_off rfl rfl rfl ?_
            refine QL_off rfl rfl rfl ?_
            refine QL_off rfl rfl rfl ?_
            refine QL_off rfl rfl rfl ?_
            refine QL_off rfl rfl rfl ?_
            refine QL_on rfl rfl ?_
            first | refine q_pick rfl (v := .bool _) rfl rfl ?_ | refine q_pick rfl (by conv => lhs; whnf) rfl ?_
            first | refine q_pick rfl (v := .bool _) rfl rfl ?_ | refine q_pick rfl (by conv => lhs; whnf) rfl ?_
            refine QL_nil ?_
            refine BK_of ?_
            refine BKL_nil ?_
            rintro wR3 ⟨SR3, XR3⟩
            refine WL_nil ?_
            refine W_then rfl ?_
            refine W_seq ?_
            refine W_region ?_
            first | refine o_assign (v := .bool _) rfl rfl ?_ | refine o_assign (by conv => lhs; whnf) rfl ?_
            refine WL_nil ?_
            refine W_ret ?_
            refine ret_1 rfl (by conv => lhs; whnf) ?_
            refine ⟨congrArg Value.bool ?_, SR3.fin⟩
            rw [hdef]
            first
              | (rw [decide_eq_false (by unfold E.OverN; omega)]; rfl)
              | (rw [decide_eq_false (by unfold E.OverN; simp; omega)]; rfl)
              | (rw [hfalse _ (List.getElem_mem hlt) h55]; simp; done)
              | (rw [(E.overs_iff _ _ _).2 (fun x hx => by obtain ⟨j, hj, rfl⟩ := List.getElem_of_mem hx; exact hs j hj (by omega)), decide_eq_true (by unfold E.OverN; simp; omega)]; rfl)
          · refine QL_on rfl rfl ?_
            first | refine q_move (v := .bool _) rfl rfl ?_ | refine q_move (by conv => lhs; whnf) rfl ?_
            refine QL_on rfl rfl ?_
            first | refine q_move (v := .slice _ _ _) rfl rfl ?_ | refine q_move (by conv => lhs; whnf) rfl ?_
            refine QL_on rfl rfl ?_
            refine q_fieldAddr fa_25_2 rfl rfl ?_
            refine QL_on rfl rfl ?_
            refine q_load one_3 rfl (fun w1 hw => by first | exact hw.1.cell 0 rfl rfl | exact hw.1.old hcw) rfl ?_
            refine QL_on rfl rfl ?_
            obtain ⟨bc, oc, hAc, hbc, hce⟩ := hcs (by omega)
            obtain ⟨m, hm⟩ := Int.eq_ofNat_of_zero_le (show 0 ≤ e.n by omega)
            have hml : m < cells.length := by omega
            obtain ⟨cl, hcl, hcw', hrc⟩ := hce m cells[m] (List.getElem?_eq_getElem hml)
            have hcw : w0.cell? ⟨bc, oc + e.n.toNat * 6 + 1, none⟩ = some (.int .i64 (wAt cells e.n)) := by
              rw [hm]; have := hcw' 1 (.int .i64 cells[m].w) (by rw [hrc.1]; rfl)
              simpa [wAt, hml] using this
            refine q_indexAddr slz_22.slT rfl (by first | rfl | assumption) rfl (by omega) (by omega) rfl ?_
            refine QL_on rfl rfl ?_
            refine q_fieldAddr fa_48_1 rfl rfl ?_
            refine QL_on rfl rfl ?_
            refine q_load one_3 rfl (fun w1 hw => by first | exact hw.1.cell 0 rfl rfl | exact hw.1.old hcw) rfl ?_
            refine QL_on rfl rfl ?_
            refine q_fieldAddr fa_25_1 rfl rfl ?_
            refine QL_on rfl rfl ?_
            refine q_load one_3 rfl (fun w1 hw => by first | exact hw.1.cell 0 rfl rfl | exact hw.1.old hcw) rfl ?_
            refine QL_on rfl rfl ?_
            refine q_neq rfl rfl rfl (fun h38 => ?_) (fun h38 => ?_)
            · refine QL_on rfl rfl ?_
              first | refine q_pick rfl (v := .bool _) rfl rfl ?_ | refine q_pick rfl (by conv => lhs; whnf) rfl ?_
              first | refine q_pick rfl (v := .bool _) rfl rfl ?_ | refine q_pick rfl (by conv => lhs; whnf) rfl ?_
              refine QL_nil ?_
              refine BK_of ?_
              refine BKL_nil ?_
              rintro wR3 ⟨SR3, XR3⟩
              refine WL_nil ?_
              refine W_then rfl ?_
              refine W_seq ?_
              refine W_region ?_
              first | refine o_assign (v := .bool _) rfl rfl ?_ | refine o_assign (by conv => lhs; whnf) rfl ?_
              refine WL_nil ?_
              refine W_ret ?_
              refine ret_1 rfl (by conv => lhs; whnf) ?_
              refine ⟨congrArg Value.bool ?_, SR3.fin⟩
              rw [hdef]
              first
                | (rw [decide_eq_false (by unfold E.OverN; omega)]; rfl)
                | (rw [decide_eq_false (by unfold E.OverN; simp; omega)]; rfl)
                | (rw [hfalse _ (List.getElem_mem hlt) h55]; simp; done)
                | (rw [(E.overs_iff _ _ _).2 (fun x hx => by obtain ⟨j, hj, rfl⟩ := List.getElem_of_mem hx; exact hs j hj (by omega)), decide_eq_true (by unfold E.OverN; simp; omega)]; rfl)
            · refine QL_on rfl rfl ?_
              first | refine q_pick rfl (v := .bool _) rfl rfl ?_ | refine q_pick rfl (by conv => lhs; whnf) rfl ?_
              first | refine q_pick rfl (v := .bool _) rfl rfl ?_ | refine q_pick rfl (by conv => lhs; whnf) rfl ?_
              refine QL_nil ?_
              refine BK_of ?_
              refine BKL_nil ?_
              rintro wR3 ⟨SR3, XR3⟩
              refine WL_nil ?_
              refine W_else rfl ?_
              refine W_skip ?_
              refine W_seq ?_
              refine W_seq ?_
              refine W_region ?_
              first | refine o_assign (v := .int .i64 _) rfl rfl ?_ | refine o_assign (by conv => lhs; whnf) rfl ?_
              refine WL_nil ?_
              refine W_block ?_
              refine W_loop (fun μ D ε w => D = [] ∧ ∃ k : Nat, (k + μ = e.kids.length) ∧ (∀ (j : Nat) (h : j < e.kids.length), j < k → e.kids[j].over cells false = true) ∧ St [] w0 w [(some g3, 25, [.int .i64 e.op, .int .i64 e.w, .int .i64 e.n, .slice A n c])] ∧ ε 1 = .slice Ac nc cc ∧ ε 2 = .bool false ∧ ε 3 = .pointer (some ⟨g3, 0, none⟩) ∧ ε 7 = .int .i64 k) (μ := e.kids.length) ⟨rfl, 0, by omega, fun j _ h => absurd h (by omega), SR3, rfl, rfl, rfl, rfl⟩ ?_
              rintro μ D ε w ⟨rfl, k, hk, hs, S, e1, e2, e3, e7⟩
              refine W_known 1 e1 ?_
              refine W_known 2 e2 ?_
              refine W_known 3 e3 ?_
              refine W_known 7 e7 ?_
              clear e1 e2 e3 e7
              refine W_seq ?_
              refine W_seq ?_
              refine W_region ?_
              first | refine o_move (v := .int .i64 _) rfl rfl ?_ | refine o_move (by conv => lhs; whnf) rfl ?_
              refine o_fieldAddr fa_25_3 rfl rfl ?_
              refine o_load one_23 rfl (by first | exact S.cell 0 rfl rfl | exact S.old hcw) rfl ?_
              refine o_len slz_23.slT rfl rfl ?_
              refine o_lss rfl rfl rfl (fun h45 => ?_) (fun h45 => ?_)
              · refine WL_nil ?_
                refine W_then rfl ?_
                refine W_skip ?_
                refine W_seq ?_
                refine W_block ?_
                refine W_seq ?_
                refine W_region ?_
                have hlt : k < e.kids.length := by omega
                obtain ⟨b, o, hA, hbM, hkk⟩ := hks (by omega)
                obtain ⟨ck, hck, hrk⟩ := hkk k hlt
                have hlen : ck.length = 4 := hrk.length
                refine o_fieldAddr fa_25_3 rfl rfl ?_
                refine o_load one_23 rfl (by first | exact S.cell 0 rfl rfl | exact S.old hcw) rfl ?_
                first | refine o_move (v := .int .i64 _) rfl rfl ?_ | refine o_move (by conv => lhs; whnf) rfl ?_
                refine o_indexAddr slz_23.slT rfl (by first | rfl | assumption) rfl (by omega) (by omega) rfl ?_
                first | refine o_loadN many_25 rfl (S.cells 0 rfl) rfl rfl ?_ | refine o_loadN many_25 rfl (hck.keep (S.keep0 M) hbM) (by first | rfl | assumption) rfl ?_
                first | refine o_move (v := .slice _ _ _) rfl rfl ?_ | refine o_move (by conv => lhs; whnf) rfl ?_
                first | refine o_move (v := .bool _) rfl rfl ?_ | refine o_move (by conv => lhs; whnf) rfl ?_
                refine o_callb S has_49 rfl rfl (ih _ (List.getElem_mem hlt) M _ ck _ cells false _ (RdE.keep (S.keep0 M) _ _ hrk) (hC.keep (S.keep0 M)) (hkg _ (List.getElem_mem hlt))) (fun h55 w55 S55 X55 => ?_) (fun h55 w55 S55 X55 => ?_)
                · refine o_not rfl rfl ?_
                  refine WL_nil ?_
                  refine W_else rfl ?_
                  refine W_skip ?_
                  refine W_region ?_
                  first | refine o_move (v := .int .i64 _) rfl rfl ?_ | refine o_move (by conv => lhs; whnf) rfl ?_
                  refine o_add rfl rfl (by unfold i64; omega) rfl ?_
                  first | refine o_assign (v := .int .i64 _) rfl rfl ?_ | refine o_assign (by conv => lhs; whnf) rfl ?_
                  refine WL_nil ?_
                  refine ⟨μ - 1, by omega, rfl, k + 1, by omega, fun j hj h => ?_, S55, rfl, rfl, rfl, rfl⟩
                  by_cases hjk : j = k
                  · subst hjk; exact h55
                  · exact hs j hj (by omega)
                · refine o_not rfl rfl ?_
                  refine WL_nil ?_
                  refine W_then rfl ?_
                  refine W_seq ?_
                  refine W_region ?_
                  first | refine o_assign (v := .bool _) rfl rfl ?_ | refine o_assign (by conv => lhs; whnf) rfl ?_
                  refine WL_nil ?_
                  refine W_ret ?_
                  refine ret_1 rfl (by conv => lhs; whnf) ?_
                  refine ⟨congrArg Value.bool ?_, S55.fin⟩
                  rw [hdef]
                  first
                    | (rw [decide_eq_false (by unfold E.OverN; omega)]; rfl)
                    | (rw [decide_eq_false (by unfold E.OverN; simp; omega)]; rfl)
                    | (rw [hfalse _ (List.getElem_mem hlt) h55]; simp; done)
                    | (rw [(E.overs_iff _ _ _).2 (fun x hx => by obtain ⟨j, hj, rfl⟩ := List.getElem_of_mem hx; exact hs j hj (by omega)), decide_eq_true (by unfold E.OverN; simp; omega)]; rfl)
              · refine WL_nil ?_
                refine W_else rfl ?_
                refine W_exit ?_
                refine bcons_here ?_
                refine W_seq ?_
                refine W_region ?_
                first | refine o_assign (v := .bool _) rfl rfl ?_ | refine o_assign (by conv => lhs; whnf) rfl ?_
                refine WL_nil ?_
                refine W_ret ?_
                refine ret_1 rfl (by conv => lhs; whnf) ?_
                refine ⟨congrArg Value.bool ?_, S.fin⟩
                rw [hdef]
                first
                  | (rw [decide_eq_false (by unfold E.OverN; omega)]; rfl)
                  | (rw [decide_eq_false (by unfold E.OverN; simp; omega)]; rfl)
                  | (rw [hfalse _ (List.getElem_mem hlt) h55]; simp; done)
                  | (rw [(E.overs_iff _ _ _).2 (fun x hx => by obtain ⟨j, hj, rfl⟩ := List.getElem_of_mem hx; exact hs j hj (by omega)), decide_eq_true (by unfold E.OverN; simp; omega)]; rfl)
        · first | refine q_pick rfl (v := .bool _) rfl rfl ?_ | refine q_pick rfl (by conv => lhs; whnf) rfl ?_
          first | refine q_move (v := .bool _) rfl rfl ?_ | refine q_move (by conv => lhs; whnf) rfl ?_
          refine QL_off rfl rfl rfl ?_
          refine QL_off rfl rfl rfl ?_
          refine QL_off rfl rfl rfl ?_
          refine QL_off rfl rfl rfl ?_
          refine QL_off rfl rfl rfl ?_
          refine QL_off rfl rfl rfl ?_
          refine QL_off rfl rfl rfl ?_
          refine QL_off rfl rfl rfl ?_
          refine QL_off rfl rfl rfl ?_
          refine QL_off rfl rfl rfl ?_
          refine QL_off rfl rfl rfl ?_
          refine QL_off rfl rfl rfl ?_
          refine QL_off rfl rfl rfl ?_
          refine QL_off rfl rfl rfl ?_
          refine QL_off rfl rfl rfl ?_
          refine QL_off rfl rfl rfl ?_
          first | refine q_pick rfl (v := .bool _) rfl rfl ?_ | refine q_pick rfl (by conv => lhs; whnf) rfl ?_
          refine QL_nil ?_
          refine BK_of ?_
          refine BKL_nil ?_
          rintro wR3 ⟨SR3, XR3⟩
          refine WL_nil ?_
          refine W_else rfl ?_
          refine W_skip ?_
          refine W_seq ?_
          refine W_seq ?_
          refine W_region ?_
          first | refine o_assign (v := .int .i64 _) rfl rfl ?_ | refine o_assign (by conv => lhs; whnf) rfl ?_
          refine WL_nil ?_
          refine W_block ?_
          refine W_loop (fun μ D ε w => D = [] ∧ ∃ k : Nat, (k + μ = e.kids.length) ∧ (∀ (j : Nat) (h : j < e.kids.length), j < k → e.kids[j].over cells false = true) ∧ St [] w0 w [(some g3, 25, [.int .i64 e.op, .int .i64 e.w, .int .i64 e.n, .slice A n c])] ∧ ε 1 = .slice Ac nc cc ∧ ε 2 = .bool false ∧ ε 3 = .pointer (some ⟨g3, 0, none⟩) ∧ ε 7 = .int .i64 k) (μ := e.kids.length) ⟨rfl, 0, by omega, fun j _ h => absurd h (by omega), SR3, rfl, rfl, rfl, rfl⟩ ?_
          rintro μ D ε w ⟨rfl, k, hk, hs, S, e1, e2, e3, e7⟩
          refine W_known 1 e1 ?_
          refine W_known 2 e2 ?_
          refine W_known 3 e3 ?_
          refine W_known 7 e7 ?_
          clear e1 e2 e3 e7
          refine W_seq ?_
          refine W_seq ?_
          refine W_region ?_
          first | refine o_move (v := .int .i64 _) rfl rfl ?_ | refine o_move (by conv => lhs; whnf) rfl ?_
          refine o_fieldAddr fa_25_3 rfl rfl ?_
          refine o_load one_23 rfl (by first | exact S.cell 0 rfl rfl | exact S.old hcw) rfl ?_
          refine o_len slz_23.slT rfl rfl ?_
          refine o_lss rfl rfl rfl (fun h45 => ?_) (fun h45 => ?_)
          · refine WL_nil ?_
            refine W_then rfl ?_
            refine W_skip ?_
            refine W_seq ?_
            refine W_block ?_
            refine W_seq ?_
            refine W_region ?_
            have hlt : k < e.kids.length := by omega
            obtain ⟨b, o, hA, hbM, hkk⟩ := hks (by omega)
            obtain ⟨ck, hck, hrk⟩ := hkk k hlt
            have hlen : ck.length = 4 := hrk.length
            refine o_fieldAddr fa_25_3 rfl rfl ?_
            refine o_load one_23 rfl (by first | exact S.cell 0 rfl rfl | exact S.old hcw) rfl ?_
            first | refine o_move (v := .int .i64 _) rfl rfl ?_ | refine o_move (by conv => lhs; whnf) rfl ?_
            refine o_indexAddr slz_23.slT rfl (by first | rfl | assumption) rfl (by omega) (by omega) rfl ?_
            first | refine o_loadN many_25 rfl (S.cells 0 rfl) rfl rfl ?_ | refine o_loadN many_25 rfl (hck.keep (S.keep0 M) hbM) (by first | rfl | assumption) rfl ?_
            first | refine o_move (v := .slice _ _ _) rfl rfl ?_ | refine o_move (by conv => lhs; whnf) rfl ?_
            first | refine o_move (v := .bool _) rfl rfl ?_ | refine o_move (by conv => lhs; whnf) rfl ?_
            refine o_callb S has_49 rfl rfl (ih _ (List.getElem_mem hlt) M _ ck _ cells false _ (RdE.keep (S.keep0 M) _ _ hrk) (hC.keep (S.keep0 M)) (hkg _ (List.getElem_mem hlt))) (fun h55 w55 S55 X55 => ?_) (fun h55 w55 S55 X55 => ?_)
            · refine o_not rfl rfl ?_
              refine WL_nil ?_
              refine W_else rfl ?_
              refine W_skip ?_
              refine W_region ?_
              first | refine o_move (v := .int .i64 _) rfl rfl ?_ | refine o_move (by conv => lhs; whnf) rfl ?_
              refine o_add rfl rfl (by unfold i64; omega) rfl ?_
              first | refine o_assign (v := .int .i64 _) rfl rfl ?_ | refine o_assign (by conv => lhs; whnf) rfl ?_
              refine WL_nil ?_
              refine ⟨μ - 1, by omega, rfl, k + 1, by omega, fun j hj h => ?_, S55, rfl, rfl, rfl, rfl⟩
              by_cases hjk : j = k
              · subst hjk; exact h55
              · exact hs j hj (by omega)
            · refine o_not rfl rfl ?_
              refine WL_nil ?_
              refine W_then rfl ?_
              refine W_seq ?_
              refine W_region ?_
              first | refine o_assign (v := .bool _) rfl rfl ?_ | refine o_assign (by conv => lhs; whnf) rfl ?_
              refine WL_nil ?_
              refine W_ret ?_
              refine ret_1 rfl (by conv => lhs; whnf) ?_
              refine ⟨congrArg Value.bool ?_, S55.fin⟩
              rw [hdef]
              first
                | (rw [decide_eq_false (by unfold E.OverN; omega)]; rfl)
                | (rw [decide_eq_false (by unfold E.OverN; simp; omega)]; rfl)
                | (rw [hfalse _ (List.getElem_mem hlt) h55]; simp; done)
                | (rw [(E.overs_iff _ _ _).2 (fun x hx => by obtain ⟨j, hj, rfl⟩ := List.getElem_of_mem hx; exact hs j hj (by omega)), decide_eq_true (by unfold E.OverN; simp; omega)]; rfl)
          · refine WL_nil ?_
            refine W_else rfl ?_
            refine W_exit ?_
            refine bcons_here ?_
            refine W_seq ?_
            refine W_region ?_
            first | refine o_assign (v := .bool _) rfl rfl ?_ | refine o_assign (by conv => lhs; whnf) rfl ?_
            refine WL_nil ?_
            refine W_ret ?_
            refine ret_1 rfl (by conv => lhs; whnf) ?_
            refine ⟨congrArg Value.bool ?_, S.fin⟩
            rw [hdef]
            first
              | (rw [decide_eq_false (by unfold E.OverN; omega)]; rfl)
              | (rw [decide_eq_false (by unfold E.OverN; simp; omega)]; rfl)
              | (rw [hfalse _ (List.getElem_mem hlt) h55]; simp; done)
              | (rw [(E.overs_iff _ _ _).2 (fun x hx => by obtain ⟨j, hj, rfl⟩ := List.getElem_of_mem hx; exact hs j hj (by omega)), decide_eq_true (by unfold E.OverN; simp; omega)]; rfl)
  · refine Does_enter Tryd.func49 rfl Tryd.ntmps49 rfl ?_
    refine W_seq ?_
    refine W_region ?_
    refine o_boxa S (by conv => lhs; whnf) rfl ?_
    intro g3 w3 S3 X3 G3
    first | refine o_assign (v := .bool _) rfl rfl ?_ | refine o_assign (by conv => lhs; whnf) rfl ?_
    refine WL_nil ?_
    refine W_seq ?_
    refine W_seq ?_
    refine W_region ?_
    refine o_fieldAddr fa_25_0 rfl rfl ?_
    refine o_load one_3 rfl (by first | exact S3.cell 0 rfl rfl | exact S3.old hcw) rfl ?_
    refine o_eql rfl rfl rfl (fun h10 => ?_) (fun h10 => ?_)
    · first | refine o_move (v := .bool _) rfl rfl ?_ | refine o_move (by conv => lhs; whnf) rfl ?_
      refine WL_on rfl rfl rfl ?_
      first | refine o_move (v := .bool _) rfl rfl ?_ | refine o_move (by conv => lhs; whnf) rfl ?_
      refine WL_on rfl rfl rfl ?_
      refine o_not rfl rfl ?_
      first | refine o_pick rfl (v := .bool _) rfl rfl ?_ | refine o_pick rfl (by conv => lhs; whnf) rfl ?_
      refine WL_nil ?_
      refine W_else rfl ?_
      refine W_skip ?_
      refine W_seq ?_
      refine W_seq ?_
      refine W_draw follows_mixed [0, 1, 2, 3, 4, 5, 6, 7, 8, 9, 10, 11, 12, 13, 14, 15, 16, 17, 18, 19, 20, 21, 22, 23, 24, 25] [] [] (by kernel_rfl) rfl (Cl _ _ _ _) (Cl.start S3) ?_
      refine q_fieldAddr fa_25_0 rfl rfl ?_
      refine q_load one_3 rfl (fun w1 hw => by first | exact hw.1.cell 0 rfl rfl | exact hw.1.old hcw) rfl ?_
      refine q_eql rfl rfl rfl (fun h17 => ?_) (fun h17 => ?_)
      · first | refine q_move (v := .bool _) rfl rfl ?_ | refine q_move (by conv => lhs; whnf) rfl ?_
        refine QL_off rfl rfl rfl ?_
        refine QL_off rfl rfl rfl ?_
        refine QL_off rfl rfl rfl ?_
        first | refine q_pick rfl (v := .bool _) rfl rfl ?_ | refine q_pick rfl (by conv => lhs; whnf) rfl ?_
        first | refine q_move (v := .bool _) rfl rfl ?_ | refine q_move (by conv => lhs; whnf) rfl ?_
        refine QL_on rfl rfl ?_
        refine q_fieldAddr fa_25_2 rfl rfl ?_
        refine QL_on rfl rfl ?_
        refine q_load one_3 rfl (fun w1 hw => by first | exact hw.1.cell 0 rfl rfl | exact hw.1.old hcw) rfl ?_
        refine QL_on rfl rfl ?_
        first | refine q_move (v := .slice _ _ _) rfl rfl ?_ | refine q_move (by conv => lhs; whnf) rfl ?_
        refine QL_on rfl rfl ?_
        refine q_len slz_22.slT rfl rfl ?_
        refine QL_on rfl rfl ?_
        refine q_geq rfl rfl rfl (fun h28 => ?_) (fun h28 => ?_)
        · refine QL_on rfl rfl ?_
          first | refine q_move (v := .bool _) rfl rfl ?_ | refine q_move (by conv => lhs; whnf) rfl ?_
          refine QL_off rfl rfl rfl ?_
          refine QL_off rfl rfl rfl ?_
          refine QL_off rfl rfl rfl ?_
          refine QL_off rfl rfl rfl ?_
          refine QL_off rfl rfl rfl ?_
          refine QL_off rfl rfl rfl ?_
          refine QL_off rfl rfl rfl ?_
          refine QL_off rfl rfl rfl ?_
          refine QL_off rfl rfl rfl ?_
          refine QL_on rfl rfl ?_
          first | refine q_pick rfl (v := .bool _) rfl rfl ?_ | refine q_pick rfl (by conv => lhs; whnf) rfl ?_
          first | refine q_pick rfl (v := .bool _) rfl rfl ?_ | refine q_pick rfl (by conv => lhs; whnf) rfl ?_
          refine QL_nil ?_
          refine BK_of ?_
          refine BKL_nil ?_
          rintro wR3 ⟨SR3, XR3⟩
          refine WL_nil ?_
          refine W_then rfl ?_
          refine W_seq ?_
          refine W_region ?_
          first | refine o_assign (v := .bool _) rfl rfl ?_ | refine o_assign (by conv => lhs; whnf) rfl ?_
          refine WL_nil ?_
          refine W_ret ?_
          refine ret_1 rfl (by conv => lhs; whnf) ?_
          refine ⟨congrArg Value.bool ?_, SR3.fin⟩
          rw [hdef]
          first
            | (rw [decide_eq_false (by unfold E.OverN; omega)]; rfl)
            | (rw [decide_eq_false (by unfold E.OverN; simp; omega)]; rfl)
            | (rw [hfalse _ (List.getElem_mem hlt) h55]; simp; done)
            | (rw [(E.overs_iff _ _ _).2 (fun x hx => by obtain ⟨j, hj, rfl⟩ := List.getElem_of_mem hx; exact hs j hj (by omega)), decide_eq_true (by unfold E.OverN; simp; omega)]; rfl)
        · refine QL_on rfl rfl ?_
          first | refine q_move (v := .bool _) rfl rfl ?_ | refine q_move (by conv => lhs; whnf) rfl ?_
          refine QL_on rfl rfl ?_
          first | refine q_move (v := .slice _ _ _) rfl rfl ?_ | refine q_move (by conv => lhs; whnf) rfl ?_
          refine QL_on rfl rfl ?_
          refine q_fieldAddr fa_25_2 rfl rfl ?_
          refine QL_on rfl rfl ?_
          refine q_load one_3 rfl (fun w1 hw => by first | exact hw.1.cell 0 rfl rfl | exact hw.1.old hcw) rfl ?_
          refine QL_on rfl rfl ?_
          obtain ⟨bc, oc, hAc, hbc, hce⟩ := hcs (by omega)
          obtain ⟨m, hm⟩ := Int.eq_ofNat_of_zero_le (show 0 ≤ e.n by omega)
          have hml : m < cells.length := by omega
          obtain ⟨cl, hcl, hcw', hrc⟩ := hce m cells[m] (List.getElem?_eq_getElem hml)
          have hcw : w0.cell? ⟨bc, oc + e.n.toNat * 6 + 1, none⟩ = some (.int .i64 (wAt cells e.n)) := by
            rw [hm]; have := hcw' 1 (.int .i64 cells[m].w) (by rw [hrc.1]; rfl)
            simpa [wAt, hml] using this
          refine q_indexAddr slz_22.slT rfl (by first | rfl | assumption) rfl (by omega) (by omega) rfl ?_
          refine QL_on rfl rfl ?_
          refine q_fieldAddr fa_48_1 rfl rfl ?_
          refine QL_on rfl rfl ?_
          refine q_load one_3 rfl (fun w1 hw => by first | exact hw.1.cell 0 rfl rfl | exact hw.1.old hcw) rfl ?_
          refine QL_on rfl rfl ?_
          refine q_fieldAddr fa_25_1 rfl rfl ?_
          refine QL_on rfl rfl ?_
          refine q_load one_3 rfl (fun w1 hw => by first | exact hw.1.cell 0 rfl rfl | exact hw.1.old hcw) rfl ?_
          refine QL_on rfl rfl ?_
          refine q_neq rfl rfl rfl (fun h38 => ?_) (fun h38 => ?_)
          · refine QL_on rfl rfl ?_
            first | refine q_pick rfl (v := .bool _) rfl rfl ?_ | refine q_pick rfl (by conv => lhs; whnf) rfl ?_
            first | refine q_pick rfl (v := .bool _) rfl rfl ?_ | refine q_pick rfl (by conv => lhs; whnf) rfl ?_
            refine QL_nil ?_
            refine BK_of ?_
            refine BKL_nil ?_
            rintro wR3 ⟨SR3, XR3⟩
            refine WL_nil ?_
            refine W_then rfl ?_
            refine W_seq ?_
            refine W_region ?_
            first | refine o_assign (v := .bool _) rfl rfl ?_ | refine o_assign (by conv => lhs; whnf) rfl ?_
            refine WL_nil ?_
            refine W_ret ?_
            refine ret_1 rfl (by conv => lhs; whnf) ?_
            refine ⟨congrArg Value.bool ?_, SR3.fin⟩
            rw [hdef]
            first
              | (rw [decide_eq_false (by unfold E.OverN; omega)]; rfl)
              | (rw [decide_eq_false (by unfold E.OverN; simp; omega)]; rfl)
              | (rw [hfalse _ (List.getElem_mem hlt) h55]; simp; done)
              | (rw [(E.overs_iff _ _ _).2 (fun x hx => by obtain ⟨j, hj, rfl⟩ := List.getElem_of_mem hx; exact hs j hj (by omega)), decide_eq_true (by unfold E.OverN; simp; omega)]; rfl)
          · refine QL_on rfl rfl ?_
            first | refine q_pick rfl (v := .bool _) rfl rfl ?_ | refine q_pick rfl (by conv => lhs; whnf) rfl ?_
            first | refine q_pick rfl (v := .bool _) rfl rfl ?_ | refine q_pick rfl (by conv => lhs; whnf) rfl ?_
            refine QL_nil ?_
            refine BK_of ?_
            refine BKL_nil ?_
            rintro wR3 ⟨SR3, XR3⟩
            refine WL_nil ?_
            refine W_else rfl ?_
            refine W_skip ?_
            refine W_seq ?_
            refine W_seq ?_
            refine W_region ?_
            first | refine o_assign (v := .int .i64 _) rfl rfl ?_ | refine o_assign (by conv => lhs; whnf) rfl ?_
            refine WL_nil ?_
            refine W_block ?_
            refine W_loop (fun μ D ε w => D = [] ∧ ∃ k : Nat, (k + μ = e.kids.length) ∧ (∀ (j : Nat) (h : j < e.kids.length), j < k → e.kids[j].over cells true = true) ∧ St [] w0 w [(some g3, 25, [.int .i64 e.op, .int .i64 e.w, .int .i64 e.n, .slice A n c])] ∧ ε 1 = .slice Ac nc cc ∧ ε 2 = .bool true ∧ ε 3 = .pointer (some ⟨g3, 0, none⟩) ∧ ε 7 = .int .i64 k) (μ := e.kids.length) ⟨rfl, 0, by omega, fun j _ h => absurd h (by omega), SR3, rfl, rfl, rfl, rfl⟩ ?_
            rintro μ D ε w ⟨rfl, k, hk, hs, S, e1, e2, e3, e7⟩
            refine W_known 1 e1 ?_
            refine W_known 2 e2 ?_
            refine W_known 3 e3 ?_
            refine W_known 7 e7 ?_
            clear e1 e2 e3 e7
            refine W_seq ?_
            refine W_seq ?_
            refine W_region ?_
            first | refine o_move (v := .int .i64 _) rfl rfl ?_ | refine o_move (by conv => lhs; whnf) rfl ?_
            refine o_fieldAddr fa_25_3 rfl rfl ?_
            refine o_load one_23 rfl (by first | exact S.cell 0 rfl rfl | exact S.old hcw) rfl ?_
            refine o_len slz_23.slT rfl rfl ?_
            refine o_lss rfl rfl rfl (fun h45 => ?_) (fun h45 => ?_)
            · refine WL_nil ?_
              refine W_then rfl ?_
              refine W_skip ?_
              refine W_seq ?_
              refine W_block ?_
              refine W_seq ?_
              refine W_region ?_
              have hlt : k < e.kids.length := by omega
              obtain ⟨b, o, hA, hbM, hkk⟩ := hks (by omega)
              obtain ⟨ck, hck, hrk⟩ := hkk k hlt
              have hlen : ck.length = 4 := hrk.length
              refine o_fieldAddr fa_25_3 rfl rfl ?_
              refine o_load one_23 rfl (by first | exact S.cell 0 rfl rfl | exact S.old hcw) rfl ?_
              first | refine o_move (v := .int .i64 _) rfl rfl ?_ | refine o_move (by conv => lhs; whnf) rfl ?_
              refine o_indexAddr slz_23.slT rfl (by first | rfl | assumption) rfl (by omega) (by omega) rfl ?_
              first | refine o_loadN many_25 rfl (S.cells 0 rfl) rfl rfl ?_ | refine o_loadN many_25 rfl (hck.keep (S.keep0 M) hbM) (by first | rfl | assumption) rfl ?_
              first | refine o_move (v := .slice _ _ _) rfl rfl ?_ | refine o_move (by conv => lhs; whnf) rfl ?_
              first | refine o_move (v := .bool _) rfl rfl ?_ | refine o_move (by conv => lhs; whnf) rfl ?_
              refine o_callb S has_49 rfl rfl (ih _ (List.getElem_mem hlt) M _ ck _ cells true _ (RdE.keep (S.keep0 M) _ _ hrk) (hC.keep (S.keep0 M)) (hkg _ (List.getElem_mem hlt))) (fun h55 w55 S55 X55 => ?_) (fun h55 w55 S55 X55 => ?_)
              · refine o_not rfl rfl ?_
                refine WL_nil ?_
                refine W_else rfl ?_
                refine W_skip ?_
                refine W_region ?_
                first | refine o_move (v := .int .i64 _) rfl rfl ?_ | refine o_move (by conv => lhs; whnf) rfl ?_
                refine o_add rfl rfl (by unfold i64; omega) rfl ?_
                first | refine o_assign (v := .int .i64 _) rfl rfl ?_ | refine o_assign (by conv => lhs; whnf) rfl ?_
                refine WL_nil ?_
                refine ⟨μ - 1, by omega, rfl, k + 1, by omega, fun j hj h => ?_, S55, rfl, rfl, rfl, rfl⟩
                by_cases hjk : j = k
                · subst hjk; exact h55
                · exact hs j hj (by omega)
              · refine o_not rfl rfl ?_
                refine WL_nil ?_
                refine W_then rfl ?_
                refine W_seq ?_
                refine W_region ?_
                first | refine o_assign (v := .bool _) rfl rfl ?_ | refine o_assign (by conv => lhs; whnf) rfl ?_
                refine WL_nil ?_
                refine W_ret ?_
                refine ret_1 rfl (by conv => lhs; whnf) ?_
                refine ⟨congrArg Value.bool ?_, S55.fin⟩
                rw [hdef]
                first
                  | (rw [decide_eq_false (by unfold E.OverN; omega)]; rfl)
                  | (rw [decide_eq_false (by unfold E.OverN; simp; omega)]; rfl)
                  | (rw [hfalse _ (List.getElem_mem hlt) h55]; simp; done)
                  | (rw [(E.overs_iff _ _ _).2 (fun x hx => by obtain ⟨j, hj, rfl⟩ := List.getElem_of_mem hx; exact hs j hj (by omega)), decide_eq_true (by unfold E.OverN; simp; omega)]; rfl)
            · refine WL_nil ?_
              refine W_else rfl ?_
              refine W_exit ?_
              refine bcons_here ?_
              refine W_seq ?_
              refine W_region ?_
              first | refine o_assign (v := .bool _) rfl rfl ?_ | refine o_assign (by conv => lhs; whnf) rfl ?_
              refine WL_nil ?_
              refine W_ret ?_
              refine ret_1 rfl (by conv => lhs; whnf) ?_
              refine ⟨congrArg Value.bool ?_, S.fin⟩
              rw [hdef]
              first
                | (rw [decide_eq_false (by unfold E.OverN; omega)]; rfl)
                | (rw [decide_eq_false (by unfold E.OverN; simp; omega)]; rfl)
                | (rw [hfalse _ (List.getElem_mem hlt) h55]; simp; done)
                | (rw [(E.overs_iff _ _ _).2 (fun x hx => by obtain ⟨j, hj, rfl⟩ := List.getElem_of_mem hx; exact hs j hj (by omega)), decide_eq_true (by unfold E.OverN; simp; omega)]; rfl)
      · first | refine q_move (v := .bool _) rfl rfl ?_ | refine q_move (by conv => lhs; whnf) rfl ?_
        refine QL_on rfl rfl ?_
        refine q_fieldAddr fa_25_0 rfl rfl ?_
        refine QL_on rfl rfl ?_
        refine q_load one_3 rfl (fun w1 hw => by first | exact hw.1.cell 0 rfl rfl | exact hw.1.old hcw) rfl ?_
        refine QL_on rfl rfl ?_
        refine q_eql rfl rfl rfl (fun h21 => ?_) (fun h21 => ?_)
        · first | refine q_pick rfl (v := .bool _) rfl rfl ?_ | refine q_pick rfl (by conv => lhs; whnf) rfl ?_
          first | refine q_move (v := .bool _) rfl rfl ?_ | refine q_move (by conv => lhs; whnf) rfl ?_
          refine QL_on rfl rfl ?_
          refine q_fieldAddr fa_25_2 rfl rfl ?_
          refine QL_on rfl rfl ?_
          refine q_load one_3 rfl (fun w1 hw => by first | exact hw.1.cell 0 rfl rfl | exact hw.1.old hcw) rfl ?_
          refine QL_on rfl rfl ?_
          first | refine q_move (v := .slice _ _ _) rfl rfl ?_ | refine q_move (by conv => lhs; whnf) rfl ?_
          refine QL_on rfl rfl ?_
          refine q_len slz_22.slT rfl rfl ?_
          refine QL_on rfl rfl ?_
          refine q_geq rfl rfl rfl (fun h28 => ?_) (fun h28 => ?_)
          · refine QL_on rfl rfl ?_
            first | refine q_move (v := .bool _) rfl rfl ?_ | refine q_move (by conv => lhs; whnf) rfl ?_
            refine QL_off rfl rfl rfl ?_
            refine QL_off rfl rfl rfl ?_
            refine QL_off rfl rfl rfl ?_
            refine QL_off rfl rfl rfl ?_
            refine QL_off rfl rfl rfl ?_
            refine QL_off rfl rfl rfl ?_
            refine QL_off rfl rfl rfl ?_
            refine QL_off rfl rfl rfl ?_
            refine QL_off rfl rfl rfl ?_
            refine QL_on rfl rfl ?_
            first | refine q_pick rfl (v := .bool _) rfl rfl ?_ | refine q_pick rfl (by conv => lhs; whnf) rfl ?_
            first | refine q_pick rfl (v := .bool _) rfl rfl ?_ | refine q_pick rfl (by conv => lhs; whnf) rfl ?_
            refine QL_nil ?_
            refine BK_of ?_
            refine BKL_nil ?_
            rintro wR3 ⟨SR3, XR3⟩
            refine WL_nil ?_
            refine W_then rfl ?_
            refine W_seq ?_
            refine W_region ?_
            first | refine o_assign (v := .bool _) rfl rfl ?_ | refine o_assign (by conv => lhs; whnf) rfl ?_
            refine WL_nil ?_
            refine W_ret ?_
            refine ret_1 rfl (by conv => lhs; whnf) ?_
            refine ⟨congrArg Value.bool ?_, SR3.fin⟩
            rw [hdef]
            first
              | (rw [decide_eq_false (by unfold E.OverN; omega)]; rfl)
              | (rw [decide_eq_false (by unfold E.OverN; simp; omega)]; rfl)
              | (rw [hfalse _ (List.getElem_mem hlt) h55]; simp; done)
              | (rw [(E.overs_iff _ _ _).2 (fun x hx => by obtain ⟨j, hj, rfl⟩ := List.getElem_of_mem hx; exact hs j hj (by omega)), decide_eq_true (by unfold E.OverN; simp; omega)]; rfl)
          · refine QL_on rfl rfl ?_
            first | refine q_move (v := .bool _) rfl rfl ?_ | refine q_move (by conv => lhs; whnf) rfl ?_
            refine QL_on rfl rfl ?_
            first | refine q_move (v := .slice _ _ _) rfl rfl ?_ | refine q_move (by conv => lhs; whnf) rfl ?_
            refine QL_on rfl rfl ?_
            refine q_fieldAddr fa_25_2 rfl rfl ?_
            refine QL_on rfl rfl ?_
            refine q_load one_3 rfl (fun w1 hw => by first | exact hw.1.cell 0 rfl rfl | exact hw.1.old hcw) rfl ?_
            refine QL_on rfl rfl ?_
            obtain ⟨bc, oc, hAc, hbc, hce⟩ := hcs (by omega)
            obtain ⟨m, hm⟩ := Int.eq_ofNat_of_zero_le (show 0 ≤ e.n by omega)
            have hml : m < cells.length := by omega
            obtain ⟨cl, hcl, hcw', hrc⟩ := hce m cells[m] (List.getElem?_eq_getElem hml)
            have hcw : w0.cell? ⟨bc, oc + e.n.toNat * 6 + 1, none⟩ = some (.int .i64 (wAt cells e.n)) := by
              rw [hm]; have := hcw' 1 (.int .i64 cells[m].w) (by rw [hrc.1]; rfl)
              simpa [wAt, hml] using this
            refine q_indexAddr slz_22.slT rfl (by first | rfl | assumption) rfl (by omega) (by omega) rfl ?_
            refine QL_on rfl rfl ?_
            refine q_fieldAddr fa_48_1 rfl rfl ?_
            refine QL_on rfl rfl ?_
            refine q_load one_3 rfl (fun w1 hw => by first | exact hw.1.cell 0 rfl rfl | exact hw.1.old hcw) rfl ?_
            refine QL_on rfl rfl ?_
            refine q_fieldAddr fa_25_1 rfl rfl ?_
            refine QL_on rfl rfl ?_
            refine q_load one_3 rfl (fun w1 hw => by first | exact hw.1.cell 0 rfl rfl | exact hw.1.old hcw) rfl ?_
            refine QL_on rfl rfl ?_
            refine q_neq rfl rfl rfl (fun h38 => ?_) (fun h38 => ?_)
            · refine QL_on rfl rfl ?_
              first | refine q_pick rfl (v := .bool _) rfl rfl ?_ | refine q_pick rfl (by conv => lhs; whnf) rfl ?_
              first | refine q_pick rfl (v := .bool _) rfl rfl ?_ | refine q_pick rfl (by conv => lhs; whnf) rfl ?_
              refine QL_nil ?_
              refine BK_of ?_
              refine BKL_nil ?_
              rintro wR3 ⟨SR3, XR3⟩
              refine WL_nil ?_
              refine W_then rfl ?_
              refine W_seq ?_
              refine W_region ?_
              first | refine o_assign (v := .bool _) rfl rfl ?_ | refine o_assign (by conv => lhs; whnf) rfl ?_
              refine WL_nil ?_
              refine W_ret ?_
              refine ret_1 rfl (by conv => lhs; whnf) ?_
              refine ⟨congrArg Value.bool ?_, SR3.fin⟩
              rw [hdef]
              first
                | (rw [decide_eq_false (by unfold E.OverN; omega)]; rfl)
                | (rw [decide_eq_false (by unfold E.OverN; simp; omega)]; rfl)
                | (rw [hfalse _ (List.getElem_mem hlt) h55]; simp; done)
                | (rw [(E.overs_iff _ _ _).2 (fun x hx => by obtain ⟨j, hj, rfl⟩ := List.getElem_of_mem hx; exact hs j hj (by omega)), decide_eq_true (by unfold E.OverN; simp; omega)]; rfl)
            · refine QL_on rfl rfl ?_
              first | refine q_pick rfl (v := .bool _) rfl rfl ?_ | refine q_pick rfl (by conv => lhs; whnf) rfl ?_
              first | refine q_pick rfl (v := .bool _) rfl rfl ?_ | refine q_pick rfl (by conv => lhs; whnf) rfl ?_
              refine QL_nil ?_
              refine BK_of ?_
              refine BKL_nil ?_
              rintro wR3 ⟨SR3, XR3⟩
              refine WL_nil ?_
              refine W_else rfl ?_
              refine W_skip ?_
              refine W_seq ?_
              refine W_seq ?_
              refine W_region ?_
              first | refine o_assign (v := .int .i64 _) rfl rfl ?_ | refine o_assign (by conv => lhs; whnf) rfl ?_
              refine WL_nil ?_
              refine W_block ?_
              refine W_loop (fun μ D ε w => D = [] ∧ ∃ k : Nat, (k + μ = e.kids.length) ∧ (∀ (j : Nat) (h : j < e.kids.length), j < k → e.kids[j].over cells true = true) ∧ St [] w0 w [(some g3, 25, [.int .i64 e.op, .int .i64 e.w, .int .i64 e.n, .slice A n c])] ∧ ε 1 = .slice Ac nc cc ∧ ε 2 = .bool true ∧ ε 3 = .pointer (some ⟨g3, 0, none⟩) ∧ ε 7 = .int .i64 k) (μ := e.kids.length) ⟨rfl, 0, by omega, fun j _ h => absurd h (by omega), SR3, rfl, rfl, rfl, rfl⟩ ?_
              rintro μ D ε w ⟨rfl, k, hk, hs, S, e1, e2, e3, e7⟩
              refine W_known 1 e1 ?_
              refine W_known 2 e2 ?_
              refine W_known 3 e3 ?_
              refine W_known 7 e7 ?_
              clear e1 e2 e3 e7
              refine W_seq ?_
              refine W_seq ?_
              refine W_region ?_
              first | refine o_move (v := .int .i64 _) rfl rfl ?_ | refine o_move (by conv => lhs; whnf) rfl ?_
              refine o_fieldAddr fa_25_3 rfl rfl ?_
              refine o_load one_23 rfl (by first | exact S.cell 0 rfl rfl | exact S.old hcw) rfl ?_
              refine o_len slz_23.slT rfl rfl ?_
              refine o_lss rfl rfl rfl (fun h45 => ?_) (fun h45 => ?_)
              · refine WL_nil ?_
                refine W_then rfl ?_
                refine W_skip ?_
                refine W_seq ?_
                refine W_block ?_
                refine W_seq ?_
                refine W_region ?_
                have hlt : k < e.kids.length := by omega
                obtain ⟨b, o, hA, hbM, hkk⟩ := hks (by omega)
                obtain ⟨ck, hck, hrk⟩ := hkk k hlt
                have hlen : ck.length = 4 := hrk.length
                refine o_fieldAddr fa_25_3 rfl rfl ?_
                refine o_load one_23 rfl (by first | exact S.cell 0 rfl rfl | exact S.old hcw) rfl ?_
                first | refine o_move (v := .int .i64 _) rfl rfl ?_ | refine o_move (by conv => lhs; whnf) rfl ?_
                refine o_indexAddr slz_23.slT rfl (by first | rfl | assumption) rfl (by omega) (by omega) rfl ?_
                first | refine o_loadN many_25 rfl (S.cells 0 rfl) rfl rfl ?_ | refine o_loadN many_25 rfl (hck.keep (S.keep0 M) hbM) (by first | rfl | assumption) rfl ?_
                first | refine o_move (v := .slice _ _ _) rfl rfl ?_ | refine o_move (by conv => lhs; whnf) rfl ?_
                first | refine o_move (v := .bool _) rfl rfl ?_ | refine o_move (by conv => lhs; whnf) rfl ?_
                refine o_callb S has_49 rfl rfl (ih _ (List.getElem_mem hlt) M _ ck _ cells true _ (RdE.keep (S.keep0 M) _ _ hrk) (hC.keep (S.keep0 M)) (hkg _ (List.getElem_mem hlt))) (fun h55 w55 S55 X55 => ?_) (fun h55 w55 S55 X55 => ?_)
                · refine o_not rfl rfl ?_
                  refine WL_nil ?_
                  refine W_else rfl ?_
                  refine W_skip ?_
                  refine W_region ?_
                  first | refine o_move (v := .int .i64 _) rfl rfl ?_ | refine o_move (by conv => lhs; whnf) rfl ?_
                  refine o_add rfl rfl (by unfold i64; omega) rfl ?_
                  first | refine o_assign (v := .int .i64 _) rfl rfl ?_ | refine o_assign (by conv => lhs; whnf) rfl ?_
                  refine WL_nil ?_
                  refine ⟨μ - 1, by omega, rfl, k + 1, by omega, fun j hj h => ?_, S55, rfl, rfl, rfl, rfl⟩
                  by_cases hjk : j = k
                  · subst hjk; exact h55
                  · exact hs j hj (by omega)
                · refine o_not rfl rfl ?_
                  refine WL_nil ?_
                  refine W_then rfl ?_
                  refine W_seq ?_
                  refine W_region ?_
                  first | refine o_assign (v := .bool _) rfl rfl ?_ | refine o_assign (by conv => lhs; whnf) rfl ?_
                  refine WL_nil ?_
                  refine W_ret ?_
                  refine ret_1 rfl (by conv => lhs; whnf) ?_
                  refine ⟨congrArg Value.bool ?_, S55.fin⟩
                  rw [hdef]
                  first
                    | (rw [decide_eq_false (by unfold E.OverN; omega)]; rfl)
                    | (rw [decide_eq_false (by unfold E.OverN; simp; omega)]; rfl)
                    | (rw [hfalse _ (List.getElem_mem hlt) h55]; simp; done)
                    | (rw [(E.overs_iff _ _ _).2 (fun x hx => by obtain ⟨j, hj, rfl⟩ := List.getElem_of_mem hx; exact hs j hj (by omega)), decide_eq_true (by unfold E.OverN; simp; omega)]; rfl)
              · refine WL_nil ?_
                refine W_else rfl ?_
                refine W_exit ?_
                refine bcons_here ?_
                refine W_seq ?_
                refine W_region ?_
                first | refine o_assign (v := .bool _) rfl rfl ?_ | refine o_assign (by conv => lhs; whnf) rfl ?_
                refine WL_nil ?_
                refine W_ret ?_
                refine ret_1 rfl (by conv => lhs; whnf) ?_
                refine ⟨congrArg Value.bool ?_, S.fin⟩
                rw [hdef]
                first
                  | (rw [decide_eq_false (by unfold E.OverN; omega)]; rfl)
                  | (rw [decide_eq_false (by unfold E.OverN; simp; omega)]; rfl)
                  | (rw [hfalse _ (List.getElem_mem hlt) h55]; simp; done)
                  | (rw [(E.overs_iff _ _ _).2 (fun x hx => by obtain ⟨j, hj, rfl⟩ := List.getElem_of_mem hx; exact hs j hj (by omega)), decide_eq_true (by unfold E.OverN; simp; omega)]; rfl)
        · first | refine q_pick rfl (v := .bool _) rfl rfl ?_ | refine q_pick rfl (by conv => lhs; whnf) rfl ?_
          first | refine q_move (v := .bool _) rfl rfl ?_ | refine q_move (by conv => lhs; whnf) rfl ?_
          refine QL_off rfl rfl rfl ?_
          refine QL_off rfl rfl rfl ?_
          refine QL_off rfl rfl rfl ?_
          refine QL_off rfl rfl rfl ?_
          refine QL_off rfl rfl rfl ?_
          refine QL_off rfl rfl rfl ?_
          refine QL_off rfl rfl rfl ?_
          refine QL_off rfl rfl rfl ?_
          refine QL_off rfl rfl rfl ?_
          refine QL_off rfl rfl rfl ?_
          refine QL_off rfl rfl rfl ?_
          refine QL_off rfl rfl rfl ?_
          refine QL_off rfl rfl rfl ?_
          refine QL_off rfl rfl rfl ?_
          refine QL_off rfl rfl rfl ?_
          refine QL_off rfl rfl rfl ?_
          first | refine q_pick rfl (v := .bool _) rfl rfl ?_ | refine q_pick rfl (by conv => lhs; whnf) rfl ?_
          refine QL_nil ?_
          refine BK_of ?_
          refine BKL_nil ?_
          rintro wR3 ⟨SR3, XR3⟩
          refine WL_nil ?_
          refine W_else rfl ?_
          refine W_skip ?_
          refine W_seq ?_
          refine W_seq ?_
          refine W_region ?_
          first | refine o_assign (v := .int .i64 _) rfl rfl ?_ | refine o_assign (by conv => lhs; whnf) rfl ?_
          refine WL_nil ?_
          refine W_block ?_
          refine W_loop (fun μ D ε w => D = [] ∧ ∃ k : Nat, (k + μ = e.kids.length) ∧ (∀ (j : Nat) (h : j < e.kids.length), j < k → e.kids[j].over cells true = true) ∧ St [] w0 w [(some g3, 25, [.int .i64 e.op, .int .i64 e.w, .int .i64 e.n, .slice A n c])] ∧ ε 1 = .slice Ac nc cc ∧ ε 2 = .bool true ∧ ε 3 = .pointer (some ⟨g3, 0, none⟩) ∧ ε 7 = .int .i64 k) (μ := e.kids.length) ⟨rfl, 0, by omega, fun j _ h => absurd h (by omega), SR3, rfl, rfl, rfl, rfl⟩ ?_
          rintro μ D ε w ⟨rfl, k, hk, hs, S, e1, e2, e3, e7⟩
          refine W_known 1 e1 ?_
          refine W_known 2 e2 ?_
          refine W_known 3 e3 ?_
          refine W_known 7 e7 ?_
          clear e1 e2 e3 e7
          refine W_seq ?_
          refine W_seq ?_
          refine W_region ?_
          first | refine o_move (v := .int .i64 _) rfl rfl ?_ | refine o_move (by conv => lhs; whnf) rfl ?_
          refine o_fieldAddr fa_25_3 rfl rfl ?_
          refine o_load one_23 rfl (by first | exact S.cell 0 rfl rfl | exact S.old hcw) rfl ?_
          refine o_len slz_23.slT rfl rfl ?_
          refine o_lss rfl rfl rfl (fun h45 => ?_) (fun h45 => ?_)
          · refine WL_nil ?_
            refine W_then rfl ?_
            refine W_skip ?_
            refine W_seq ?_
            refine W_block ?_
            refine W_seq ?_
            refine W_region ?_
            have hlt : k < e.kids.length := by omega
            obtain ⟨b, o, hA, hbM, hkk⟩ := hks (by omega)
            obtain ⟨ck, hck, hrk⟩ := hkk k hlt
            have hlen : ck.length = 4 := hrk.length
            refine o_fieldAddr fa_25_3 rfl rfl ?_
            refine o_load one_23 rfl (by first | exact S.cell 0 rfl rfl | exact S.old hcw) rfl ?_
            first | refine o_move (v := .int .i64 _) rfl rfl ?_ | refine o_move (by conv => lhs; whnf) rfl ?_
            refine o_indexAddr slz_23.slT rfl (by first | rfl | assumption) rfl (by omega) (by omega) rfl ?_
            first | refine o_loadN many_25 rfl (S.cells 0 rfl) rfl rfl ?_ | refine o_loadN many_25 rfl (hck.keep (S.keep0 M) hbM) (by first | rfl | assumption) rfl ?_
            first | refine o_move (v := .slice _ _ _) rfl rfl ?_ | refine o_move (by conv => lhs; whnf) rfl ?_
            first | refine o_move (v := .bool _) rfl rfl ?_ | refine o_move (by conv => lhs; whnf) rfl ?_
            refine o_callb S has_49 rfl rfl (ih _ (List.getElem_mem hlt) M _ ck _ cells true _ (RdE.keep (S.keep0 M) _ _ hrk) (hC.keep (S.keep0 M)) (hkg _ (List.getElem_mem hlt))) (fun h55 w55 S55 X55 => ?_) (fun h55 w55 S55 X55 => ?_)
            · refine o_not rfl rfl ?_
              refine WL_nil ?_
              refine W_else rfl ?_
              refine W_skip ?_
              refine W_region ?_
              first | refine o_move (v := .int .i64 _) rfl rfl ?_ | refine o_move (by conv => lhs; whnf) rfl ?_
              refine o_add rfl rfl (by unfold i64; omega) rfl ?_
              first | refine o_assign (v := .int .i64 _) rfl rfl ?_ | refine o_assign (by conv => lhs; whnf) rfl ?_
              refine WL_nil ?_
              refine ⟨μ - 1, by omega, rfl, k + 1, by omega, fun j hj h => ?_, S55, rfl, rfl, rfl, rfl⟩
              by_cases hjk : j = k
              · subst hjk; exact h55
              · exact hs j hj (by omega)
            · refine o_not rfl rfl ?_
              refine WL_nil ?_
              refine W_then rfl ?_
              refine W_seq ?_
              refine W_region ?_
              first | refine o_assign (v := .bool _) rfl rfl ?_ | refine o_assign (by conv => lhs; whnf) rfl ?_
              refine WL_nil ?_
              refine W_ret ?_
              refine ret_1 rfl (by conv => lhs; whnf) ?_
              refine ⟨congrArg Value.bool ?_, S55.fin⟩
              rw [hdef]
              first
                | (rw [decide_eq_false (by unfold E.OverN; omega)]; rfl)
                | (rw [decide_eq_false (by unfold E.OverN; simp; omega)]; rfl)
                | (rw [hfalse _ (List.getElem_mem hlt) h55]; simp; done)
                | (rw [(E.overs_iff _ _ _).2 (fun x hx => by obtain ⟨j, hj, rfl⟩ := List.getElem_of_mem hx; exact hs j hj (by omega)), decide_eq_true (by unfold E.OverN; simp; omega)]; rfl)
          · refine WL_nil ?_
            refine W_else rfl ?_
            refine W_exit ?_
            refine bcons_here ?_
            refine W_seq ?_
            refine W_region ?_
            first | refine o_assign (v := .bool _) rfl rfl ?_ | refine o_assign (by conv => lhs; whnf) rfl ?_
            refine WL_nil ?_
            refine W_ret ?_
            refine ret_1 rfl (by conv => lhs; whnf) ?_
            refine ⟨congrArg Value.bool ?_, S.fin⟩
            rw [hdef]
            first
              | (rw [decide_eq_false (by unfold E.OverN; omega)]; rfl)
              | (rw [decide_eq_false (by unfold E.OverN; simp; omega)]; rfl)
              | (rw [hfalse _ (List.getElem_mem hlt) h55]; simp; done)
              | (rw [(E.overs_iff _ _ _).2 (fun x hx => by obtain ⟨j, hj, rfl⟩ := List.getElem_of_mem hx; exact hs j hj (by omega)), decide_eq_true (by unfold E.OverN; simp; omega)]; rfl)
    · first | refine o_move (v := .bool _) rfl rfl ?_ | refine o_move (by conv => lhs; whnf) rfl ?_
      refine WL_off rfl rfl rfl rfl ?_
      refine WL_off rfl rfl rfl rfl ?_
      first | refine o_pick rfl (v := .bool _) rfl rfl ?_ | refine o_pick rfl (by conv => lhs; whnf) rfl ?_
      refine WL_nil ?_
      refine W_else rfl ?_
      refine W_skip ?_
      refine W_seq ?_
      refine W_seq ?_
      refine W_draw follows_mixed [0, 1, 2, 3, 4, 5, 6, 7, 8, 9, 10, 11, 12, 13, 14, 15, 16, 17, 18, 19, 20, 21, 22, 23, 24, 25] [] [] (by kernel_rfl) rfl (Cl _ _ _ _) (Cl.start S3) ?_
      refine q_fieldAddr fa_25_0 rfl rfl ?_
      refine q_load one_3 rfl (fun w1 hw => by first | exact hw.1.cell 0 rfl rfl | exact hw.1.old hcw) rfl ?_
      refine q_eql rfl rfl rfl (fun h17 => ?_) (fun h17 => ?_)
      · first | refine q_move (v := .bool _) rfl rfl ?_ | refine q_move (by conv => lhs; whnf) rfl ?_
        refine QL_off rfl rfl rfl ?_
        refine QL_off rfl rfl rfl ?_
        refine QL_off rfl rfl rfl ?_
        first | refine q_pick rfl (v := .bool _) rfl rfl ?_ | refine q_pick rfl (by conv => lhs; whnf) rfl ?_
        first | refine q_move (v := .bool _) rfl rfl ?_ | refine q_move (by conv => lhs; whnf) rfl ?_
        refine QL_on rfl rfl ?_
        refine q_fieldAddr fa_25_2 rfl rfl ?_
        refine QL_on rfl rfl ?_
        refine q_load one_3 rfl (fun w1 hw => by first | exact hw.1.cell 0 rfl rfl | exact hw.1.old hcw) rfl ?_
        refine QL_on rfl rfl ?_
        first | refine q_move (v := .slice _ _ _) rfl rfl ?_ | refine q_move (by conv => lhs; whnf) rfl ?_
        refine QL_on rfl rfl ?_
        refine q_len slz_22.slT rfl rfl ?_
        refine QL_on rfl rfl ?_
        refine q_geq rfl rfl rfl (fun h28 => ?_) (fun h28 => ?_)
        · refine QL_on rfl rfl ?_
          first | refine q_move (v := .bool _) rfl rfl ?_ | refine q_move (by conv => lhs; whnf) rfl ?_
          refine QL_off rfl rfl rfl ?_
          refine QL_off rfl rfl rfl ?_
          refine QL_off rfl rfl rfl ?_
          refine QL_off rfl rfl rfl ?_
          refine QL_off rfl rfl rfl ?_
          refine QL_off rfl rfl rfl ?_
          refine QL_off rfl rfl rfl ?_
          refine QL_off rfl rfl rfl ?_
          refine QL_off rfl rfl rfl ?_
          refine QL_on rfl rfl ?_
          first | refine q_pick rfl (v := .bool _) rfl rfl ?_ | refine q_pick rfl (by conv => lhs; whnf) rfl ?_
          first | refine q_pick rfl (v := .bool _) rfl rfl ?_ | refine q_pick rfl (by conv => lhs; whnf) rfl ?_
          refine QL_nil ?_
          refine BK_of ?_
          refine BKL_nil ?_
          rintro wR3 ⟨SR3, XR3⟩
          refine WL_nil ?_
          refine W_then rfl ?_
          refine W_seq ?_
          refine W_region ?_
          first | refine o_assign (v := .bool _) rfl rfl ?_ | refine o_assign (by conv => lhs; whnf) rfl ?_
          refine WL_nil ?_
          refine W_ret ?_
          refine ret_1 rfl (by conv => lhs; whnf) ?_
          refine ⟨congrArg Value.bool ?_, SR3.fin⟩
          rw [hdef]
          first
            | (rw [decide_eq_false (by unfold E.OverN; omega)]; rfl)
            | (rw [decide_eq_false (by unfold E.OverN; simp; omega)]; rfl)
            | (rw [hfalse _ (List.getElem_mem hlt) h55]; simp; done)
            | (rw [(E.overs_iff _ _ _).2 (fun x hx => by obtain ⟨j, hj, rfl⟩ := List.getElem_of_mem hx; exact hs j hj (by omega)), decide_eq_true (by unfold E.OverN; simp; omega)]; rfl)
        · refine QL_on rfl rfl ?_
          first | refine q_move (v := .bool _) rfl rfl ?_ | refine q_move (by conv => lhs; whnf) rfl ?_
          refine QL_on rfl rfl ?_
          first | refine q_move (v := .slice _ _ _) rfl rfl ?_ | refine q_move (by conv => lhs; whnf) rfl ?_
          refine QL_on rfl rfl ?_
          refine q_fieldAddr fa_25_2 rfl rfl ?_
          refine QL_on rfl rfl ?_
          refine q_load one_3 rfl (fun w1 hw => by first | exact hw.1.cell 0 rfl rfl | exact hw.1.old hcw) rfl ?_
          refine QL_on rfl rfl ?_
          obtain ⟨bc, oc, hAc, hbc, hce⟩ := hcs (by omega)
          obtain ⟨m, hm⟩ := Int.eq_ofNat_of_zero_le (show 0 ≤ e.n by omega)
          have hml : m < cells.length := by omega
          obtain ⟨cl, hcl, hcw', hrc⟩ := hce m cells[m] (List.getElem?_eq_getElem hml)
          have hcw : w0.cell? ⟨bc, oc + e.n.toNat * 6 + 1, none⟩ = some (.int .i64 (wAt cells e.n)) := by
            rw [hm]; have := hcw' 1 (.int .i64 cells[m].w) (by rw [hrc.1]; rfl)
            simpa [wAt, hml] using this
          refine q_indexAddr slz_22.slT rfl (by first | rfl | assumption) rfl (by omega) (by omega) rfl ?_
          refine QL_on rfl rfl ?_
          refine q_fieldAddr fa_48_1 rfl rfl ?_
          refine QL_on rfl rfl ?_
          refine q_load one_3 rfl (fun w1 hw => by first | exact hw.1.cell 0 rfl rfl | exact hw.1.old hcw) rfl ?_
          refine QL_on rfl rfl ?_
          refine q_fieldAddr fa_25_1 rfl rfl ?_
          refine QL_on rfl rfl ?_
          refine q_load one_3 rfl (fun w1 hw => by first | exact hw.1.cell 0 rfl rfl | exact hw.1.old hcw) rfl ?_
          refine QL_on rfl rfl ?_
          refine q_neq rfl rfl rfl (fun h38 => ?_) (fun h38 => ?_)
          · refine QL_on rfl rfl ?_
            first | refine q_pick rfl (v := .bool _) rfl rfl ?_ | refine q_pick rfl (by conv => lhs; whnf) rfl ?_
            first | refine q_pick rfl (v := .bool _) rfl rfl ?_ | refine q_pick rfl (by conv => lhs; whnf) rfl ?_
            refine QL_nil ?_
            refine BK_of ?_
            refine BKL_nil ?_
            rintro wR3 ⟨SR3, XR3⟩
            refine WL_nil ?_
            refine W_then rfl ?_
            refine W_seq ?_
            refine W_region ?_
            first | refine o_assign (v := .bool _) rfl rfl ?_ | refine o_assign (by conv => lhs; whnf) rfl ?_
            refine WL_nil ?_
            refine W_ret ?_
            refine ret_1 rfl (by conv => lhs; whnf) ?_
            refine ⟨congrArg Value.bool ?_, SR3.fin⟩
            rw [hdef]
            first
              | (rw [decide_eq_false (by unfold E.OverN; omega)]; rfl)
              | (rw [decide_eq_false (by unfold E.OverN; simp; omega)]; rfl)
              | (rw [hfalse _ (List.getElem_mem hlt) h55]; simp; done)
              | (rw [(E.overs_iff _ _ _).2 (fun x hx => by obtain ⟨j, hj, rfl⟩ := List.getElem_of_mem hx; exact hs j hj (by omega)), decide_eq_true (by unfold E.OverN; simp; omega)]; rfl)
          · refine QL_on rfl rfl ?_
            first | refine q_pick rfl (v := .bool _) rfl rfl ?_ | refine q_pick rfl (by conv => lhs; whnf) rfl ?_
            first | refine q_pick rfl (v := .bool _) rfl rfl ?_ | refine q_pick rfl (by conv => lhs; whnf) rfl ?_
            refine QL_nil ?_
            refine BK_of ?_
            refine BKL_nil ?_
            rintro wR3 ⟨SR3, XR3⟩
            refine WL_nil ?_
            refine W_else rfl ?_
            refine W_skip ?_
            refine W_seq ?_
            refine W_seq ?_
            refine W_region ?_
            first | refine o_assign (v := .int .i64 _) rfl rfl ?_ | refine o_assign (by conv => lhs; whnf) rfl ?_
            refine WL_nil ?_
            refine W_block ?_
            refine W_loop (fun μ D ε w => D = [] ∧ ∃ k : Nat, (k + μ = e.kids.length) ∧ (∀ (j : Nat) (h : j < e.kids.length), j < k → e.kids[j].over cells true = true) ∧ St [] w0 w [(some g3, 25, [.int .i64 e.op, .int .i64 e.w, .int .i64 e.n, .slice A n c])] ∧ ε 1 = .slice Ac nc cc ∧ ε 2 = .bool true ∧ ε 3 = .pointer (some ⟨g3, 0, none⟩) ∧ ε 7 = .int .i64 k) (μ := e.kids.length) ⟨rfl, 0, by omega, fun j _ h => absurd h (by omega), SR3, rfl, rfl, rfl, rfl⟩ ?_
            rintro μ D ε w ⟨rfl, k, hk, hs, S, e1, e2, e3, e7⟩
            refine W_known 1 e1 ?_
            refine W_known 2 e2 ?_
            refine W_known 3 e3 ?_
            refine W_known 7 e7 ?_
            clear e1 e2 e3 e7
            refine W_seq ?_
            refine W_seq ?_
            refine W_region ?_
            first | refine o_move (v := .int .i64 _) rfl rfl ?_ | refine o_move (by conv => lhs; whnf) rfl ?_
            refine o_fieldAddr fa_25_3 rfl rfl ?_
            refine o_load one_23 rfl (by first | exact S.cell 0 rfl rfl | exact S.old hcw) rfl ?_
            refine o_len slz_23.slT rfl rfl ?_
            refine o_lss rfl rfl rfl (fun h45 => ?_) (fun h45 => ?_)
            · refine WL_nil ?_
              refine W_then rfl ?_
              refine W_skip ?_
              refine W_seq ?_
              refine W_block ?_
              refine W_seq ?_
              refine W_region ?_
              have hlt : k < e.kids.length := by omega
              obtain ⟨b, o, hA, hbM, hkk⟩ := hks (by omega)
              obtain ⟨ck, hck, hrk⟩ := hkk k hlt
              have hlen : ck.length = 4 := hrk.length
              refine o_fieldAddr fa_25_3 rfl rfl ?_
              refine o_load one_23 rfl (by first | exact S.cell 0 rfl rfl | exact S.old hcw) rfl ?_
              first | refine o_move (v := .int .i64 _) rfl rfl ?_ | refine o_move (by conv => lhs; whnf) rfl ?_
              refine o_indexAddr slz_23.slT rfl (by first | rfl | assumption) rfl (by omega) (by omega) rfl ?_
              first | refine o_loadN many_25 rfl (S.cells 0 rfl) rfl rfl ?_ | refine o_loadN many_25 rfl (hck.keep (S.keep0 M) hbM) (by first | rfl | assumption) rfl ?_
              first | refine o_move (v := .slice _ _ _) rfl rfl ?_ | refine o_move (by conv => lhs; whnf) rfl ?_
              first | refine o_move (v := .bool _) rfl rfl ?_ | refine o_move (by conv => lhs; whnf) rfl ?_
              refine o_callb S has_49 rfl rfl (ih _ (List.getElem_mem hlt) M _ ck _ cells true _ (RdE.keep (S.keep0 M) _ _ hrk) (hC.keep (S.keep0 M)) (hkg _ (List.getElem_mem hlt))) (fun h55 w55 S55 X55 => ?_) (fun h55 w55 S55 X55 => ?_)
              · refine o_not rfl rfl ?_
                refine WL_nil ?_
                refine W_else rfl ?_
                refine W_skip ?_
                refine W_region ?_
                first | refine o_move (v := .int .i64 _) rfl rfl ?_ | refine o_move (by conv => lhs; whnf) rfl ?_
                refine o_add rfl rfl (by unfold i64; omega) rfl ?_
                first | refine o_assign (v := .int .i64 _) rfl rfl ?_ | refine o_assign (by conv => lhs; whnf) rfl ?_
                refine WL_nil ?_
                refine ⟨μ - 1, by omega, rfl, k + 1, by omega, fun j hj h => ?_, S55, rfl, rfl, rfl, rfl⟩
                by_cases hjk : j = k
                · subst hjk; exact h55
                · exact hs j hj (by omega)
              · refine o_not rfl rfl ?_
                refine WL_nil ?_
                refine W_then rfl ?_
                refine W_seq ?_
                refine W_region ?_
                first | refine o_assign (v := .bool _) rfl rfl ?_ | refine o_assign (by conv => lhs; whnf) rfl ?_
                refine WL_nil ?_
                refine W_ret ?_
                refine ret_1 rfl (by conv => lhs; whnf) ?_
                refine ⟨congrArg Value.bool ?_, S55.fin⟩
                rw [hdef]
                first
                  | (rw [decide_eq_false (by unfold E.OverN; omega)]; rfl)
                  | (rw [decide_eq_false (by unfold E.OverN; simp; omega)]; rfl)
                  | (rw [hfalse _ (List.getElem_mem hlt) h55]; simp; done)
                  | (rw [(E.overs_iff _ _ _).2 (fun x hx => by obtain ⟨j, hj, rfl⟩ := List.getElem_of_mem hx; exact hs j hj (by omega)), decide_eq_true (by unfold E.OverN; simp; omega)]; rfl)
            · refine WL_nil ?_
              refine W_else rfl ?_
              refine W_exit ?_
              refine bcons_here ?_
              refine W_seq ?_
              refine W_region ?_
              first | refine o_assign (v := .bool _) rfl rfl ?_ | refine o_assign (by conv => lhs; whnf) rfl ?_
              refine WL_nil ?_
              refine W_ret ?_
              refine ret_1 rfl (by conv => lhs; whnf) ?_
              refine ⟨congrArg Value.bool ?_, S.fin⟩
              rw [hdef]
              first
                | (rw [decide_eq_false (by unfold E.OverN; omega)]; rfl)
                | (rw [decide_eq_false (by unfold E.OverN; simp; omega)]; rfl)
                | (rw [hfalse _ (List.getElem_mem hlt) h55]; simp; done)
                | (rw [(E.overs_iff _ _ _).2 (fun x hx => by obtain ⟨j, hj, rfl⟩ := List.getElem_of_mem hx; exact hs j hj (by omega)), decide_eq_true (by unfold E.OverN; simp; omega)]; rfl)
      · first | refine q_move (v := .bool _) rfl rfl ?_ | refine q_move (by conv => lhs; whnf) rfl ?_
        refine QL_on rfl rfl ?_
        refine q_fieldAddr fa_25_0 rfl rfl ?_
        refine QL_on rfl rfl ?_
        refine q_load one_3 rfl (fun w1 hw => by first | exact hw.1.cell 0 rfl rfl | exact hw.1.old hcw) rfl ?_
        refine QL_on rfl rfl ?_
        refine q_eql rfl rfl rfl (fun h21 => ?_) (fun h21 => ?_)
        · first | refine q_pick rfl (v := .bool _) rfl rfl ?_ | refine q_pick rfl (by conv => lhs; whnf) rfl ?_
          first | refine q_move (v := .bool _) rfl rfl ?_ | refine q_move (by conv => lhs; whnf) rfl ?_
          refine QL_on rfl rfl ?_
          refine q_fieldAddr fa_25_2 rfl rfl ?_
          refine QL_on rfl rfl ?_
          refine q_load one_3 rfl (fun w1 hw => by first | exact hw.1.cell 0 rfl rfl | exact hw.1.old hcw) rfl ?_
          refine QL_on rfl rfl ?_
          first | refine q_move (v := .slice _ _ _) rfl rfl ?_ | refine q_move (by conv => lhs; whnf) rfl ?_
          refine QL_on rfl rfl ?_
          refine q_len slz_22.slT rfl rfl ?_
          refine QL_on rfl rfl ?_
          refine q_geq rfl rfl rfl (fun h28 => ?_) (fun h28 => ?_)
          · refine QL_on rfl rfl ?_
            first | refine q_move (v := .bool _) rfl rfl ?_ | refine q_move (by conv => lhs; whnf) rfl ?_
            refine QL_off rfl rfl rfl ?_
            refine QL_off rfl rfl rfl ?_
            refine QL_off rfl rfl rfl ?_
            refine QL_off rfl rfl rfl ?_
            refine QL_off rfl rfl rfl ?_
            refine QL_off rfl rfl rfl ?_
            refine QL_off rfl rfl rfl ?_
            refine QL_off rfl rfl rfl ?_
            refine QL_off rfl rfl rfl ?_
            refine QL_on rfl rfl ?_
            first | refine q_pick rfl (v := .bool _) rfl rfl ?_ | refine q_pick rfl (by conv => lhs; whnf) rfl ?_
            first | refine q_pick rfl (v := .bool _) rfl rfl ?_ | refine q_pick rfl (by conv => lhs; whnf) rfl ?_
            refine QL_nil ?_
            refine BK_of ?_
            refine BKL_nil ?_
            rintro wR3 ⟨SR3, XR3⟩
            refine WL_nil ?_
            refine W_then rfl ?_
            refine W_seq ?_
            refine W_region ?_
            first | refine o_assign (v := .bool _) rfl rfl ?_ | refine o_assign (by conv => lhs; whnf) rfl ?_
            refine WL_nil ?_
            refine W_ret ?_
            refine ret_1 rfl (by conv => lhs; whnf) ?_
            refine ⟨congrArg Value.bool ?_, SR3.fin⟩
            rw [hdef]
            first
              | (rw [decide_eq_false (by unfold E.OverN; omega)]; rfl)
              | (rw [decide_eq_false (by unfold E.OverN; simp; omega)]; rfl)
              | (rw [hfalse _ (List.getElem_mem hlt) h55]; simp; done)
              | (rw [(E.overs_iff _ _ _).2 (fun x hx => by obtain ⟨j, hj, rfl⟩ := List.getElem_of_mem hx; exact hs j hj (by omega)), decide_eq_true (by unfold E.OverN; simp; omega)]; rfl)
          · refine QL_on rfl rfl ?_
            first | refine q_move (v := .bool _) rfl rfl ?_ | refine q_move (by conv => lhs; whnf) rfl ?_
            refine QL_on rfl rfl ?_
            first | refine q_move (v := .slice _ _ _) rfl rfl ?_ | refine q_move (by conv => lhs; whnf) rfl ?_
            refine QL_on rfl rfl ?_
            refine q_fieldAddr fa_25_2 rfl rfl ?_
            refine QL_on rfl rfl ?_
            refine q_load one_3 rfl (fun w1 hw => by first | exact hw.1.cell 0 rfl rfl | exact hw.1.old hcw) rfl ?_
            refine QL_on rfl rfl ?_
            obtain ⟨bc, oc, hAc, hbc, hce⟩ := hcs (by omega)
            obtain ⟨m, hm⟩ := Int.eq_ofNat_of_zero_le (show 0 ≤ e.n by omega)
            have hml : m < cells.length := by omega
            obtain ⟨cl, hcl, hcw', hrc⟩ := hce m cells[m] (List.getElem?_eq_getElem hml)
            have hcw : w0.cell? ⟨bc, oc + e.n.toNat * 6 + 1, none⟩ = some (.int .i64 (wAt cells e.n)) := by
              rw [hm]; have := hcw' 1 (.int .i64 cells[m].w) (by rw [hrc.1]; rfl)
              simpa [wAt, hml] using this
            refine q_indexAddr slz_22.slT rfl (by first | rfl | assumption) rfl (by omega) (by omega) rfl ?_
            refine QL_on rfl rfl ?_
            refine q_fieldAddr fa_48_1 rfl rfl ?_
            refine QL_on rfl rfl ?_
            refine q_load one_3 rfl (fun w1 hw => by first | exact hw.1.cell 0 rfl rfl | exact hw.1.old hcw) rfl ?_
            refine QL_on rfl rfl ?_
            refine q_fieldAddr fa_25_1 rfl rfl ?_
            refine QL_on rfl rfl ?_
            refine q_load one_3 rfl (fun w1 hw => by first | exact hw.1.cell 0 rfl rfl | exact hw.1.old hcw) rfl ?_
            refine QL_on rfl rfl ?_
            refine q_neq rfl rfl rfl (fun h38 => ?_) (fun h38 => ?_)
            · refine QL_on rfl rfl ?_
              first | refine q_pick rfl (v := .bool _) rfl rfl ?_ | refine q_pick rfl (by conv => lhs; whnf) rfl ?_
              first | refine q_pick rfl (v := .bool _) rfl rfl ?_ | refine q_pick rfl (by conv => lhs; whnf) rfl ?_
              refine QL_nil ?_
              refine BK_of ?_
              refine BKL_nil ?_
              rintro wR3 ⟨SR3, XR3⟩
              refine WL_nil ?_
              refine W_then rfl ?_
              refine W_seq ?_
              refine W_region ?_
              first | refine o_assign (v := .bool _) rfl rfl ?_ | refine o_assign (by conv => lhs; whnf) rfl ?_
              refine WL_nil ?_
              refine W_ret ?_
              refine ret_1 rfl (by conv => lhs; whnf) ?_
              refine ⟨congrArg Value.bool ?_, SR3.fin⟩
              rw [hdef]
              first
                | (rw [decide_eq_false (by unfold E.OverN; omega)]; rfl)
                | (rw [decide_eq_false (by unfold E.OverN; simp; omega)]; rfl)
                | (rw [hfalse _ (List.getElem_mem hlt) h55]; simp; done)
                | (rw [(E.overs_iff _ _ _).2 (fun x hx => by obtain ⟨j, hj, rfl⟩ := List.getElem_of_mem hx; exact hs j hj (by omega)), decide_eq_true (by unfold E.OverN; simp; omega)]; rfl)
            · refine QL_on rfl rfl ?_
              first | refine q_pick rfl (v := .bool _) rfl rfl ?_ | refine q_pick rfl (by conv => lhs; whnf) rfl ?_
              first | refine q_pick rfl (v := .bool _) rfl rfl ?_ | refine q_pick rfl (by conv => lhs; whnf) rfl ?_
              refine QL_nil ?_
              refine BK_of ?_
              refine BKL_nil ?_
              rintro wR3 ⟨SR3, XR3⟩
              refine WL_nil ?_
              refine W_else rfl ?_
              refine W_skip ?_
              refine W_seq ?_
              refine W_seq ?_
              refine W_region ?_
              first | refine o_assign (v := .int .i64 _) rfl rfl ?_ | refine o_assign (by conv => lhs; whnf) rfl ?_
              refine WL_nil ?_
              refine W_block ?_
              refine W_loop (fun μ D ε w => D = [] ∧ ∃ k : Nat, (k + μ = e.kids.length) ∧ (∀ (j : Nat) (h : j < e.kids.length), j < k → e.kids[j].over cells true = true) ∧ St [] w0 w [(some g3, 25, [.int .i64 e.op, .int .i64 e.w, .int .i64 e.n, .slice A n c])] ∧ ε 1 = .slice Ac nc cc ∧ ε 2 = .bool true ∧ ε 3 = .pointer (some ⟨g3, 0, none⟩) ∧ ε 7 = .int .i64 k) (μ := e.kids.length) ⟨rfl, 0, by omega, fun j _ h => absurd h (by omega), SR3, rfl, rfl, rfl, rfl⟩ ?_
              rintro μ D ε w ⟨rfl, k, hk, hs, S, e1, e2, e3, e7⟩
              refine W_known 1 e1 ?_
              refine W_known 2 e2 ?_
              refine W_known 3 e3 ?_
              refine W_known 7 e7 ?_
              clear e1 e2 e3 e7
              refine W_seq ?_
              refine W_seq ?_
              refine W_region ?_
              first | refine o_move (v := .int .i64 _) rfl rfl ?_ | refine o_move (by conv => lhs; whnf) rfl ?_
              refine o_fieldAddr fa_25_3 rfl rfl ?_
              refine o_load one_23 rfl (by first | exact S.cell 0 rfl rfl | exact S.old hcw) rfl ?_
              refine o_len slz_23.slT rfl rfl ?_
              refine o_lss rfl rfl rfl (fun h45 => ?_) (fun h45 => ?_)
              · refine WL_nil ?_
                refine W_then rfl ?_
                refine W_skip ?_
                refine W_seq ?_
                refine W_block ?_
                refine W_seq ?_
                refine W_region ?_
                have hlt : k < e.kids.length := by omega
                obtain ⟨b, o, hA, hbM, hkk⟩ := hks (by omega)
                obtain ⟨ck, hck, hrk⟩ := hkk k hlt
                have hlen : ck.length = 4 := hrk.length
                refine o_fieldAddr fa_25_3 rfl rfl ?_
                refine o_load one_23 rfl (by first | exact S.cell 0 rfl rfl | exact S.old hcw) rfl ?_
                first | refine o_move (v := .int .i64 _) rfl rfl ?_ | refine o_move (by conv => lhs; whnf) rfl ?_
                refine o_indexAddr slz_23.slT rfl (by first | rfl | assumption) rfl (by omega) (by omega) rfl ?_
                first | refine o_loadN many_25 rfl (S.cells 0 rfl) rfl rfl ?_ | refine o_loadN many_25 rfl (hck.keep (S.keep0 M) hbM) (by first | rfl | assumption) rfl ?_
                first | refine o_move (v := .slice _ _ _) rfl rfl ?_ | refine o_move (by conv => lhs; whnf) rfl ?_
                first | refine o_move (v := .bool _) rfl rfl ?_ | refine o_move (by conv => lhs; whnf) rfl ?_
                refine o_callb S has_49 rfl rfl (ih _ (List.getElem_mem hlt) M _ ck _ cells true _ (RdE.keep (S.keep0 M) _ _ hrk) (hC.keep (S.keep0 M)) (hkg _ (List.getElem_mem hlt))) (fun h55 w55 S55 X55 => ?_) (fun h55 w55 S55 X55 => ?_)
                · refine o_not rfl rfl ?_
                  refine WL_nil ?_
                  refine W_else rfl ?_
                  refine W_skip ?_
                  refine W_region ?_
                  first | refine o_move (v := .int .i64 _) rfl rfl ?_ | refine o_move (by conv => lhs; whnf) rfl ?_
                  refine o_add rfl rfl (by unfold i64; omega) rfl ?_
                  first | refine o_assign (v := .int .i64 _) rfl rfl ?_ | refine o_assign (by conv => lhs; whnf) rfl ?_
                  refine WL_nil ?_
                  refine ⟨μ - 1, by omega, rfl, k + 1, by omega, fun j hj h => ?_, S55, rfl, rfl, rfl, rfl⟩
                  by_cases hjk : j = k
                  · subst hjk; exact h55
                  · exact hs j hj (by omega)
                · refine o_not rfl rfl ?_
                  refine WL_nil ?_
                  refine W_then rfl ?_
                  refine W_seq ?_
                  refine W_region ?_
                  first | refine o_assign (v := .bool _) rfl rfl ?_ | refine o_assign (by conv => lhs; whnf) rfl ?_
                  refine WL_nil ?_
                  refine W_ret ?_
                  refine ret_1 rfl (by conv => lhs; whnf) ?_
                  refine ⟨congrArg Value.bool ?_, S55.fin⟩
                  rw [hdef]
                  first
                    | (rw [decide_eq_false (by unfold E.OverN; omega)]; rfl)
                    | (rw [decide_eq_false (by unfold E.OverN; simp; omega)]; rfl)
                    | (rw [hfalse _ (List.getElem_mem hlt) h55]; simp; done)
                    | (rw [(E.overs_iff _ _ _).2 (fun x hx => by obtain ⟨j, hj, rfl⟩ := List.getElem_of_mem hx; exact hs j hj (by omega)), decide_eq_true (by unfold E.OverN; simp; omega)]; rfl)
              · refine WL_nil ?_
                refine W_else rfl ?_
                refine W_exit ?_
                refine bcons_here ?_
                refine W_seq ?_
                refine W_region ?_
                first | refine o_assign (v := .bool _) rfl rfl ?_ | refine o_assign (by conv => lhs; whnf) rfl ?_
                refine WL_nil ?_
                refine W_ret ?_
                refine ret_1 rfl (by conv => lhs; whnf) ?_
                refine ⟨congrArg Value.bool ?_, S.fin⟩
                rw [hdef]
                first
                  | (rw [decide_eq_false (by unfold E.OverN; omega)]; rfl)
                  | (rw [decide_eq_false (by unfold E.OverN; simp; omega)]; rfl)
                  | (rw [hfalse _ (List.getElem_mem hlt) h55]; simp; done)
                  | (rw [(E.overs_iff _ _ _).2 (fun x hx => by obtain ⟨j, hj, rfl⟩ := List.getElem_of_mem hx; exact hs j hj (by omega)), decide_eq_true (by unfold E.OverN; simp; omega)]; rfl)
        · first | refine q_pick rfl (v := .bool _) rfl rfl ?_ | refine q_pick rfl (by conv => lhs; whnf) rfl ?_
          first | refine q_move (v := .bool _) rfl rfl ?_ | refine q_move (by conv => lhs; whnf) rfl ?_
          refine QL_off rfl rfl rfl ?_
          refine QL_off rfl rfl rfl ?_
          refine QL_off rfl rfl rfl ?_
          refine QL_off rfl rfl rfl ?_
          refine QL_off rfl rfl rfl ?_
          refine QL_off rfl rfl rfl ?_
          refine QL_off rfl rfl rfl ?_
          refine QL_off rfl rfl rfl ?_
          refine QL_off rfl rfl rfl ?_
          refine QL_off rfl rfl rfl ?_
          refine QL_off rfl rfl rfl ?_
          refine QL_off rfl rfl rfl ?_
          refine QL_off rfl rfl rfl ?_
          refine QL_off rfl rfl rfl ?_
          refine QL_off rfl rfl rfl ?_
          refine QL_off rfl rfl rfl ?_
          first | refine q_pick rfl (v := .bool _) rfl rfl ?_ | refine q_pick rfl (by conv => lhs; whnf) rfl ?_
          refine QL_nil ?_
          refine BK_of ?_
          refine BKL_nil ?_
          rintro wR3 ⟨SR3, XR3⟩
          refine WL_nil ?_
          refine W_else rfl ?_
          refine W_skip ?_
          refine W_seq ?_
          refine W_seq ?_
          refine W_region ?_
          first | refine o_assign (v := .int .i64 _) rfl rfl ?_ | refine o_assign (by conv => lhs; whnf) rfl ?_
          refine WL_nil ?_
          refine W_block ?_
          refine W_loop (fun μ D ε w => D = [] ∧ ∃ k : Nat, (k + μ = e.kids.length) ∧ (∀ (j : Nat) (h : j < e.kids.length), j < k → e.kids[j].over cells true = true) ∧ St [] w0 w [(some g3, 25, [.int .i64 e.op, .int .i64 e.w, .int .i64 e.n, .slice A n c])] ∧ ε 1 = .slice Ac nc cc ∧ ε 2 = .bool true ∧ ε 3 = .pointer (some ⟨g3, 0, none⟩) ∧ ε 7 = .int .i64 k) (μ := e.kids.length) ⟨rfl, 0, by omega, fun j _ h => absurd h (by omega), SR3, rfl, rfl, rfl, rfl⟩ ?_
          rintro μ D ε w ⟨rfl, k, hk, hs, S, e1, e2, e3, e7⟩
          refine W_known 1 e1 ?_
          refine W_known 2 e2 ?_
          refine W_known 3 e3 ?_
          refine W_known 7 e7 ?_
          clear e1 e2 e3 e7
          refine W_seq ?_
          refine W_seq ?_
          refine W_region ?_
          first | refine o_move (v := .int .i64 _) rfl rfl ?_ | refine o_move (by conv => lhs; whnf) rfl ?_
          refine o_fieldAddr fa_25_3 rfl rfl ?_
          refine o_load one_23 rfl (by first | exact S.cell 0 rfl rfl | exact S.old hcw) rfl ?_
          refine o_len slz_23.slT rfl rfl ?_
          refine o_lss rfl rfl rfl (fun h45 => ?_) (fun h45 => ?_)
          · refine WL_nil ?_
            refine W_then rfl ?_
            refine W_skip ?_
            refine W_seq ?_
            refine W_block ?_
            refine W_seq ?_
            refine W_region ?_
            have hlt : k < e.kids.length := by omega
            obtain ⟨b, o, hA, hbM, hkk⟩ := hks (by omega)
            obtain ⟨ck, hck, hrk⟩ := hkk k hlt
            have hlen : ck.length = 4 := hrk.length
            refine o_fieldAddr fa_25_3 rfl rfl ?_
            refine o_load one_23 rfl (by first | exact S.cell 0 rfl rfl | exact S.old hcw) rfl ?_
            first | refine o_move (v := .int .i64 _) rfl rfl ?_ | refine o_move (by conv => lhs; whnf) rfl ?_
            refine o_indexAddr slz_23.slT rfl (by first | rfl | assumption) rfl (by omega) (by omega) rfl ?_
            first | refine o_loadN many_25 rfl (S.cells 0 rfl) rfl rfl ?_ | refine o_loadN many_25 rfl (hck.keep (S.keep0 M) hbM) (by first | rfl | assumption) rfl ?_
            first | refine o_move (v := .slice _ _ _) rfl rfl ?_ | refine o_move (by conv => lhs; whnf) rfl ?_
            first | refine o_move (v := .bool _) rfl rfl ?_ | refine o_move (by conv => lhs; whnf) rfl ?_
            refine o_callb S has_49 rfl rfl (ih _ (List.getElem_mem hlt) M _ ck _ cells true _ (RdE.keep (S.keep0 M) _ _ hrk) (hC.keep (S.keep0 M)) (hkg _ (List.getElem_mem hlt))) (fun h55 w55 S55 X55 => ?_) (fun h55 w55 S55 X55 => ?_)
            · refine o_not rfl rfl ?_
              refine WL_nil ?_
              refine W_else rfl ?_
              refine W_skip ?_
              refine W_region ?_
              first | refine o_move (v := .int .i64 _) rfl rfl ?_ | refine o_move (by conv => lhs; whnf) rfl ?_
              refine o_add rfl rfl (by unfold i64; omega) rfl ?_
              first | refine o_assign (v := .int .i64 _) rfl rfl ?_ | refine o_assign (by conv => lhs; whnf) rfl ?_
              refine WL_nil ?_
              refine ⟨μ - 1, by omega, rfl, k + 1, by omega, fun j hj h => ?_, S55, rfl, rfl, rfl, rfl⟩
              by_cases hjk : j = k
              · subst hjk; exact h55
              · exact hs j hj (by omega)
            · refine o_not rfl rfl ?_
              refine WL_nil ?_
              refine W_then rfl ?_
              refine W_seq ?_
              refine W_region ?_
              first | refine o_assign (v := .bool _) rfl rfl ?_ | refine o_assign (by conv => lhs; whnf) rfl ?_
              refine WL_nil ?_
              refine W_ret ?_
              refine ret_1 rfl (by conv => lhs; whnf) ?_
              refine ⟨congrArg Value.bool ?_, S55.fin⟩
              rw [hdef]
              first
                | (rw [decide_eq_false (by unfold E.OverN; omega)]; rfl)
                | (rw [decide_eq_false (by unfold E.OverN; simp; omega)]; rfl)
                | (rw [hfalse _ (List.getElem_mem hlt) h55]; simp; done)
                | (rw [(E.overs_iff _ _ _).2 (fun x hx => by obtain ⟨j, hj, rfl⟩ := List.getElem_of_mem hx; exact hs j hj (by omega)), decide_eq_true (by unfold E.OverN; simp; omega)]; rfl)
          · refine WL_nil ?_
            refine W_else rfl ?_
            refine W_exit ?_
            refine bcons_here ?_
            refine W_seq ?_
            refine W_region ?_
            first | refine o_assign (v := .bool _) rfl rfl ?_ | refine o_assign (by conv => lhs; whnf) rfl ?_
            refine WL_nil ?_
            refine W_ret ?_
            refine ret_1 rfl (by conv => lhs; whnf) ?_
            refine ⟨congrArg Value.bool ?_, S.fin⟩
            rw [hdef]
            first
              | (rw [decide_eq_false (by unfold E.OverN; omega)]; rfl)
              | (rw [decide_eq_false (by unfold E.OverN; simp; omega)]; rfl)
              | (rw [hfalse _ (List.getElem_mem hlt) h55]; simp; done)
              | (rw [(E.overs_iff _ _ _).2 (fun x hx => by obtain ⟨j, hj, rfl⟩ := List.getElem_of_mem hx; exact hs j hj (by omega)), decide_eq_true (by unfold E.OverN; simp; omega)]; rfl)
end Go.Proofs.YtinhchacppkmgaaDoor
