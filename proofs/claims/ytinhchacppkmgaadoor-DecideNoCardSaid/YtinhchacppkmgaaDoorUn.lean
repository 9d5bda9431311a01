/-
  Contracts: slices.Grow (of nil), slices.Concat of two slices of ints.
-/
import Derived.Test.YtinhchacppkmgaaDoorFwMem2
import Derived.Test.YtinhchacppkmgaaDoorEx5
namespace Go.Proofs.YtinhchacppkmgaaDoor
open Go.Fw Go.RowKit

theorem grow_fn (k : Nat) (hk : k ≤ 1000000) (w0 : World) : Does Tryd.prog 73 #[.slice none 0 0, .int .i64 (k : Int)] w0 fun v w' => NewRow 3 w0 w' v [] ∧ Below w0.heap.size w0 w' := by
  have S := St.refl w0
  refine Does_enter Tryd.func73 rfl Tryd.ntmps73 rfl ?_
  refine W_seq ?_
  refine W_region ?_
  first | refine o_assign (v := .slice _ _ _) rfl rfl ?_ | refine o_assign (by conv => lhs; whnf) rfl ?_
  refine WL_nil ?_
  refine W_seq ?_
  refine W_seq ?_
  refine W_region ?_
  first | refine o_move (v := .int .i64 _) rfl rfl ?_ | refine o_move (by conv => lhs; whnf) rfl ?_
  refine o_lss rfl rfl rfl (fun h6 => ?_) (fun h6 => ?_)
  · exfalso; omega
  · refine WL_nil ?_
    refine W_else rfl ?_
    refine W_skip ?_
    refine W_seq ?_
    refine W_seq ?_
    refine W_region ?_
    first | refine o_move (v := .int .i64 _) rfl rfl ?_ | refine o_move (by conv => lhs; whnf) rfl ?_
    first | refine o_move (v := .slice _ _ _) rfl rfl ?_ | refine o_move (by conv => lhs; whnf) rfl ?_
    refine o_cap slz_28.slT rfl rfl ?_
    first | refine o_move (v := .slice _ _ _) rfl rfl ?_ | refine o_move (by conv => lhs; whnf) rfl ?_
    refine o_len slz_28.slT rfl rfl ?_
    refine o_sub rfl rfl (by unfold i64; omega) rfl ?_
    refine o_sub rfl rfl (by unfold i64; omega) rfl ?_
    first | refine o_assign (v := .int .i64 _) rfl rfl ?_ | refine o_assign (by conv => lhs; whnf) rfl ?_
    refine WL_nil ?_
    refine W_seq ?_
    refine W_region ?_
    first | refine o_move (v := .int .i64 _) rfl rfl ?_ | refine o_move (by conv => lhs; whnf) rfl ?_
    refine o_gtr rfl rfl rfl (fun h16 => ?_) (fun h16 => ?_)
    · refine WL_nil ?_
      refine W_then rfl ?_
      refine W_region ?_
      first | refine o_move (v := .slice _ _ _) rfl rfl ?_ | refine o_move (by conv => lhs; whnf) rfl ?_
      first | refine o_move (v := .slice _ _ _) rfl rfl ?_ | refine o_move (by conv => lhs; whnf) rfl ?_
      refine o_cap slz_28.slT rfl rfl ?_
      refine o_sliceNil slz_28.slT rfl rfl rfl ?_
      first | refine o_move (v := .int .i64 _) rfl rfl ?_ | refine o_move (by conv => lhs; whnf) rfl ?_
      refine o_appendZ (k := k) S slz_28 rfl Tryd.underlying3 rfl (by show Value.int .i64 _ = _; exact congrArg _ (by omega)) (by omega) (by omega) (by omega) rfl ?_
      intro g22 cap22 w22 S22 hc1 hc2 X22 G22
      first | refine o_move (v := .slice _ _ _) rfl rfl ?_ | refine o_move (by conv => lhs; whnf) rfl ?_
      refine o_len slz_28.slT rfl rfl ?_
      refine o_cutTo (k := 0) slz_28.slT rfl rfl (by omega) (by omega) rfl ?_
      first | refine o_assign (v := .slice _ _ _) rfl rfl ?_ | refine o_assign (by conv => lhs; whnf) rfl ?_
      refine WL_nil ?_
      refine W_seq ?_
      refine W_region ?_
      first | refine o_move (v := .slice _ _ _) rfl rfl ?_ | refine o_move (by conv => lhs; whnf) rfl ?_
      first | refine o_assign (v := .slice _ _ _) rfl rfl ?_ | refine o_assign (by conv => lhs; whnf) rfl ?_
      refine WL_nil ?_
      refine W_ret ?_
      refine ret_1 rfl (by conv => lhs; whnf) ?_
      first
        | exact ⟨⟨some g22, List.replicate cap22 (.int .i64 0), ⟨rfl, .inr ⟨g22, cap22, rfl, rfl, Nat.zero_le _, hc2, by simp, by simp⟩⟩, fun g hg => by cases hg; exact ⟨G22, S22.blk 0 rfl⟩⟩, S22.nil.fin⟩
        | exact ⟨⟨none, [], RowV.nil 1, fun g hg => by cases hg⟩, S22.fin⟩
    · refine WL_nil ?_
      refine W_else rfl ?_
      refine W_skip ?_
      refine W_seq ?_
      refine W_region ?_
      first | refine o_move (v := .slice _ _ _) rfl rfl ?_ | refine o_move (by conv => lhs; whnf) rfl ?_
      first | refine o_assign (v := .slice _ _ _) rfl rfl ?_ | refine o_assign (by conv => lhs; whnf) rfl ?_
      refine WL_nil ?_
      refine W_ret ?_
      refine ret_1 rfl (by conv => lhs; whnf) ?_
      first
        | exact ⟨⟨some g22, List.replicate cap22 (.int .i64 0), ⟨rfl, .inr ⟨g22, cap22, rfl, rfl, Nat.zero_le _, hc2, by simp, by simp⟩⟩, fun g hg => by cases hg; exact ⟨G22, S.blk 0 rfl⟩⟩, S.nil.fin⟩
        | exact ⟨⟨none, [], RowV.nil 1, fun g hg => by cases hg⟩, S.fin⟩

theorem fl_succ (ls : List (List Int)) (k : Nat) (h : k < ls.length) : (ls.take (k + 1)).flatten = (ls.take k).flatten ++ ls[k] := by
  induction ls generalizing k with
  | nil => simp at h
  | cons x xs ih =>
    cases k with
    | zero => simp
    | succ k => simp only [List.take_succ_cons, List.flatten_cons, List.getElem_cons_succ]; rw [ih k (by simpa using h), List.append_assoc]
theorem fl_le (ls : List (List Int)) (hl : ∀ l ∈ ls, l.length ≤ 1000) (k : Nat) : k ≤ ls.length → (ls.take k).flatten.length ≤ 1000 * k := by
  induction k with
  | zero => intro _; simp
  | succ k ih =>
    intro h
    rw [fl_succ ls k (by omega), List.length_append]
    have := ih (by omega); have := hl ls[k] (List.getElem_mem (by omega)); omega

theorem concat_fn (M : List Nat) (w0 : World) (g : Nat) (ls : List (List Int)) (hl : ∀ l ∈ ls, l.length ≤ 1000) (hls : ls.length ≤ 100)
    (hcs : ∀ (k : Nat) (h : k < ls.length), ∃ A n c, w0.cell? ⟨g, 0 + k * 1, none⟩ = some (.slice A n c) ∧ RdI M w0 (.slice A n c) ls[k]) :
    Does Tryd.prog 62 #[.slice (some ⟨g, 0, none⟩) ls.length ls.length] w0 fun v w' => NewRow 3 w0 w' v ls.flatten ∧ Below w0.heap.size w0 w' := by
  have S := St.refl w0
  refine Does_enter Tryd.func62 rfl Tryd.ntmps62 rfl ?_
  refine W_seq ?_
  refine W_region ?_
  first | refine o_assign (v := .slice _ _ _) rfl rfl ?_ | refine o_assign (by conv => lhs; whnf) rfl ?_
  refine WL_nil ?_
  refine W_seq ?_
  refine W_region ?_
  first | refine o_assign (v := .int .i64 _) rfl rfl ?_ | refine o_assign (by conv => lhs; whnf) rfl ?_
  refine WL_nil ?_
  refine W_seq ?_
  refine W_seq ?_
  refine W_region ?_
  first | refine o_move (v := .slice _ _ _) rfl rfl ?_ | refine o_move (by conv => lhs; whnf) rfl ?_
  refine o_len slz_54.slT rfl rfl ?_
  first | refine o_move (v := .int .i64 _) rfl rfl ?_ | refine o_move (by conv => lhs; whnf) rfl ?_
  refine WL_nil ?_
  refine W_block ?_
  refine W_loop (fun μ D ε w => D = [] ∧ ∃ k : Nat, (k + μ = ls.length) ∧ St [] w0 w [] ∧ ε 0 = .slice (some ⟨g, 0, none⟩) ls.length ls.length ∧ ε 3 = .int .i64 ((ls.take k).flatten.length : Nat) ∧ ε 9 = .slice (some ⟨g, 0, none⟩) ls.length ls.length ∧ ε 10 = .int .i64 (ls.length : Nat) ∧ ε 11 = .int .i64 (k : Nat)) (μ := ls.length) ⟨rfl, 0, by omega, S, rfl, rfl, rfl, rfl, rfl⟩ ?_
  rintro μ D ε w ⟨rfl, k, hk, S, e0, e3, e9, e10, e11⟩
  refine W_known 0 e0 ?_
  refine W_known 3 e3 ?_
  refine W_known 9 e9 ?_
  refine W_known 10 e10 ?_
  refine W_known 11 e11 ?_
  clear e0 e3 e9 e10 e11
  refine W_seq ?_
  refine W_region ?_
  refine o_lss rfl rfl rfl (fun h12 => ?_) (fun h12 => ?_)
  · refine WL_nil ?_
    refine W_seq ?_
    refine W_then rfl ?_
    refine W_skip ?_
    refine W_seq ?_
    refine W_block ?_
    refine W_seq ?_
    refine W_region ?_
    have hlt : k < ls.length := by omega
    obtain ⟨A, n, c, hcell, hR⟩ := hcs k hlt
    obtain ⟨hn, _⟩ := hR.at
    have hfs := fl_succ ls k hlt
    have hfl := fl_le ls hl (k + 1) (by omega)
    have hfe : (ls.take (k + 1)).flatten.length = (ls.take k).flatten.length + n := by rw [hfs, List.length_append, hn]
    refine o_indexAddr slz_54.slT rfl (by first | rfl | assumption) rfl (by omega) (by omega) rfl ?_
    refine o_load one_28 rfl (by first | exact S.old hcell) rfl ?_
    first | refine o_assign (v := .slice _ _ _) rfl rfl ?_ | refine o_assign (by conv => lhs; whnf) rfl ?_
    refine WL_nil ?_
    refine W_seq ?_
    refine W_region ?_
    first | refine o_move (v := .int .i64 _) rfl rfl ?_ | refine o_move (by conv => lhs; whnf) rfl ?_
    first | refine o_move (v := .slice _ _ _) rfl rfl ?_ | refine o_move (by conv => lhs; whnf) rfl ?_
    refine o_len slz_28.slT rfl rfl ?_
    refine o_add rfl rfl (by unfold i64; omega) rfl ?_
    first | refine o_assign (v := .int .i64 _) rfl rfl ?_ | refine o_assign (by conv => lhs; whnf) rfl ?_
    refine WL_nil ?_
    refine W_seq ?_
    refine W_region ?_
    first | refine o_move (v := .int .i64 _) rfl rfl ?_ | refine o_move (by conv => lhs; whnf) rfl ?_
    refine o_lss rfl rfl rfl (fun h20 => ?_) (fun h20 => ?_)
    · exfalso; omega
    · refine WL_nil ?_
      refine W_else rfl ?_
      refine W_skip ?_
      refine W_region ?_
      refine o_add rfl rfl (by unfold i64; omega) rfl ?_
      first | refine o_move (v := .int .i64 _) rfl rfl ?_ | refine o_move (by conv => lhs; whnf) rfl ?_
      refine WL_nil ?_
      refine ⟨μ - 1, by omega, rfl, k + 1, by omega, S, rfl, ?_, rfl, rfl, rfl⟩
      rw [hfe]; rfl
  · refine WL_nil ?_
    refine W_seq ?_
    refine W_else rfl ?_
    refine W_exit ?_
    refine bcons_here ?_
    refine W_seq ?_
    refine W_region ?_
    first | refine o_move (v := .int .i64 _) rfl rfl ?_ | refine o_move (by conv => lhs; whnf) rfl ?_
    refine o_calln S has_73 rfl rfl (grow_fn _ (by have := fl_le ls hl k (by omega); omega) _) ?_
    rintro v24 w24 r24 S24 X24
    obtain ⟨G24, cs24, hrow24, S24⟩ := r24.open_ S24 S
    first | refine o_assign (v := .slice _ _ _) rfl rfl ?_ | refine o_assign (by conv => lhs; whnf) rfl ?_
    refine WL_nil ?_
    refine W_seq ?_
    refine W_seq ?_
    refine W_region ?_
    first | refine o_move (v := .slice _ _ _) rfl rfl ?_ | refine o_move (by conv => lhs; whnf) rfl ?_
    refine o_len slz_54.slT rfl rfl ?_
    first | refine o_move (v := .int .i64 _) rfl rfl ?_ | refine o_move (by conv => lhs; whnf) rfl ?_
    refine WL_nil ?_
    refine W_block ?_
    refine W_loop (fun μ D ε w => D = [] ∧ ∃ k2 : Nat, ∃ G : Option Nat, ∃ cs : List Value, ∃ v : Value, (k2 + μ = ls.length) ∧ (RowV G 1 (ls.take k2).flatten.length cs v ((ls.take k2).flatten.map (Value.int .i64))) ∧ St [] w0 w [(G, 3, cs)] ∧ ε 6 = v ∧ ε 25 = .slice (some ⟨g, 0, none⟩) ls.length ls.length ∧ ε 26 = .int .i64 (ls.length : Nat) ∧ ε 27 = .int .i64 (k2 : Nat)) (μ := ls.length) ⟨rfl, 0, G24, cs24, v24, by omega, by simpa using hrow24, S24, rfl, rfl, rfl, rfl⟩ ?_
    rintro μ D ε w ⟨rfl, k2, G, cs, v, hk2, hrow, S, e6, e25, e26, e27⟩
    refine W_known 6 e6 ?_
    refine W_known 25 e25 ?_
    refine W_known 26 e26 ?_
    refine W_known 27 e27 ?_
    clear e6 e25 e26 e27
    refine W_seq ?_
    refine W_region ?_
    refine o_lss rfl rfl rfl (fun h28 => ?_) (fun h28 => ?_)
    · refine WL_nil ?_
      refine W_seq ?_
      refine W_then rfl ?_
      refine W_skip ?_
      refine W_seq ?_
      refine W_block ?_
      refine W_seq ?_
      refine W_region ?_
      have hlt : k2 < ls.length := by omega
      obtain ⟨A, n, c, hcell, hR⟩ := hcs k2 hlt
      have hfs := fl_succ ls k2 hlt
      have hfl := fl_le ls hl (k2 + 1) (by omega)
      rw [hfs, List.length_append] at hfl
      refine o_indexAddr slz_54.slT rfl (by first | rfl | assumption) rfl (by omega) (by omega) rfl ?_
      refine o_load one_28 rfl (by first | exact S.cell 0 rfl rfl | exact S.old hcell) rfl ?_
      first | refine o_assign (v := .slice _ _ _) rfl rfl ?_ | refine o_assign (by conv => lhs; whnf) rfl ?_
      refine WL_nil ?_
      refine W_region ?_
      first | refine o_move (v := .slice _ _ _) rfl rfl ?_ | refine o_move (by conv => lhs; whnf) rfl ?_
      first | refine o_move (v := .slice _ _ _) rfl rfl ?_ | refine o_move (by conv => lhs; whnf) rfl ?_
      refine o_appendI (k := 0) S slz_28 rfl hrow rfl rfl (hR.keep (S.keep0 M)) (by omega) (by omega) rfl ?_
      intro v33 G33 cs33 w33 S33 hrow33 X33
      first | refine o_assign (v := .slice _ _ _) rfl rfl ?_ | refine o_assign (by conv => lhs; whnf) rfl ?_
      refine WL_nil ?_
      refine W_region ?_
      refine o_add rfl rfl (by unfold i64; omega) rfl ?_
      first | refine o_move (v := .int .i64 _) rfl rfl ?_ | refine o_move (by conv => lhs; whnf) rfl ?_
      refine WL_nil ?_
      refine ⟨μ - 1, by omega, rfl, k2 + 1, G33, cs33, v33, by omega, ?_, S33, rfl, rfl, rfl, rfl⟩
      rw [hfs]; exact hrow33
    · refine WL_nil ?_
      refine W_seq ?_
      refine W_else rfl ?_
      refine W_exit ?_
      refine bcons_here ?_
      refine W_seq ?_
      refine W_region ?_
      first | refine o_move (v := .slice _ _ _) rfl rfl ?_ | refine o_move (by conv => lhs; whnf) rfl ?_
      first | refine o_assign (v := .slice _ _ _) rfl rfl ?_ | refine o_assign (by conv => lhs; whnf) rfl ?_
      refine WL_nil ?_
      refine W_ret ?_
      refine ret_1 rfl (by conv => lhs; whnf) ?_
      obtain rfl : k2 = ls.length := by omega
      rw [List.take_length] at hrow
      exact ⟨⟨G, cs, hrow, fun g hg => by subst hg; exact ⟨by have := S.new 0 rfl; simpa using this, S.blk 0 rfl⟩⟩, S.nil.fin⟩
end Go.Proofs.YtinhchacppkmgaaDoor
