/-
  Contracts of package expr: connect$1, fold.
-/
import Derived.Test.YtinhchacppkmgaaDoorNo4
namespace Go.Proofs.YtinhchacppkmgaaDoor
open Go.Fw Go.RowKit

theorem join_fn (a b : E) (ca cb : List Value) (g : Nat) (M : List Nat) (w0 : World) (hM : ∀ g ∈ M, g < w0.heap.size) (ha : RdE M w0 a ca) (hb : RdE M w0 b cb) (hg : w0.cell? ⟨g, 0, none⟩ = some (.int .i64 5)) :
    Does Tryd.prog 58 #[.agg ca.toArray, .agg cb.toArray, .pointer (some ⟨g, 0, none⟩)] w0 fun v w' => (∃ cs : List Value, v = .agg cs.toArray ∧ RdE M w' (andE a b) cs) ∧ Below w0.heap.size w0 w' := by
  have S := St.refl w0
  obtain ⟨A, n, c, rfl, -⟩ := ha.open_
  obtain ⟨A', n', c', rfl, -⟩ := hb.open_
  refine Does_enter Tryd.func58 rfl Tryd.ntmps58 rfl ?_
  refine W_seq ?_
  refine W_region ?_
  refine o_boxa S (by conv => lhs; whnf) rfl ?_
  intro g3 w3 S3 X3 G3
  refine o_boxa S3 (by conv => lhs; whnf) rfl ?_
  intro g4 w4 S4 X4 G4
  refine o_alloc S4 zv_25 rfl rfl ?_
  intro g5 w5 S5 X5 G5
  refine WL_nil ?_
  refine W_seq ?_
  refine W_region ?_
  refine o_load one_3 rfl (by first | exact S5.cell 0 rfl rfl | exact S5.cell 1 rfl rfl | exact S5.cell 2 rfl rfl | exact S5.old hg) rfl ?_
  first | refine o_loadN many_25 rfl (S5.cells 0 rfl) rfl rfl ?_ | refine o_loadN many_25 rfl (S5.cells 1 rfl) rfl rfl ?_ | refine o_loadN many_25 rfl (S5.cells 2 rfl) rfl rfl ?_
  first | refine o_loadN many_25 rfl (S5.cells 0 rfl) rfl rfl ?_ | refine o_loadN many_25 rfl (S5.cells 1 rfl) rfl rfl ?_ | refine o_loadN many_25 rfl (S5.cells 2 rfl) rfl rfl ?_
  refine o_buildSlice S5 slz_23 (vs := [.agg _, .agg _]) (cs := [_, _, _, _, _, _, _, _]) (by rfl) rfl rfl rfl rfl rfl rfl ?_
  intro g9 w9 S9 X9 G9
  refine o_build bld_25 (vs := [(0, .int .i64 _), (1, .int .i64 _), (3, .slice _ _ _)]) (cs := [_, _, _, _]) rfl rfl rfl rfl ?_
  first | refine o_storeN (kk := 0) (vs := [_, _, _, _]) S9 sz_25 rfl rfl rfl rfl rfl rfl rfl ?_ | refine o_storeN (kk := 1) (vs := [_, _, _, _]) S9 sz_25 rfl rfl rfl rfl rfl rfl rfl ?_ | refine o_storeN (kk := 2) (vs := [_, _, _, _]) S9 sz_25 rfl rfl rfl rfl rfl rfl rfl ?_ | refine o_storeN (kk := 3) (vs := [_, _, _, _]) S9 sz_25 rfl rfl rfl rfl rfl rfl rfl ?_
  intro w1_5 S1_5 X1_5
  dsimp only [setsAt, List.set] at S1_5
  refine WL_nil ?_
  refine W_ret ?_
  refine ret_cell1 rfl many_25 rfl (S1_5.cells 1 rfl) rfl ⟨⟨_, rfl, rdE_two (by decide) (by decide) (fun hm => ?_) (S1_5.cells 0 rfl) (RdE.keep (S1_5.keep0 M) _ _ ha) (RdE.keep (S1_5.keep0 M) _ _ hb)⟩, S1_5.fin⟩
  have h1 := hM _ hm
  have h2 := S1_5.new 0 rfl
  simp at h2; omega

theorem foldE_fn (l : List E) (hl0 : 0 < l.length) (hl1 : l.length ≤ 1000) (M : List Nat) (w0 : World) (vl : Value) (g : Nat) (hL : RdL M w0 vl l) (hM : ∀ g ∈ M, g < w0.heap.size) (hg : w0.cell? ⟨g, 0, none⟩ = some (.int .i64 5)) :
    Does Tryd.prog 57 #[vl, .func (.func 58) #[] #[.pointer (some ⟨g, 0, none⟩)]] w0 fun v w' => (∃ cs : List Value, v = .agg cs.toArray ∧ RdE M w' (andAll l) cs) ∧ Below w0.heap.size w0 w' := by
  obtain ⟨A, n, c, rfl, hn, hc, hm, hbig, hks⟩ := hL.open_
  obtain ⟨b, o, rfl, hbM, hkk⟩ := hks (by omega)
  have S := St.refl w0
  refine Does_enter Tryd.func57 rfl Tryd.ntmps57 rfl ?_
  refine W_seq ?_
  refine W_region ?_
  refine o_alloc S zv_25 rfl rfl ?_
  intro g4 w4 S4 X4 G4
  refine WL_nil ?_
  refine W_seq ?_
  refine W_region ?_
  first | refine o_move (v := .slice _ _ _) rfl rfl ?_ | refine o_move (by conv => lhs; whnf) rfl ?_
  obtain ⟨ck0, hck0, hrk0⟩ := hkk 0 hl0
  obtain ⟨A0, n0, q0, rfl, -⟩ := hrk0.open_
  refine o_indexAddr slz_23.slT rfl (by first | rfl | assumption) rfl (by omega) (by omega) rfl ?_
  first | refine o_loadN many_25 rfl (S4.cells 0 rfl) rfl rfl ?_ | refine o_loadN many_25 rfl (hck0.keep (S4.keep0 M) hbM) (by first | rfl | assumption) rfl ?_ | refine o_loadN many_25 rfl (hck.keep (S4.keep0 M) hbM) (by first | rfl | assumption) rfl ?_
  refine o_alloc S4 zv_25 rfl rfl ?_
  intro g5 w5 S5 X5 G5
  first | refine o_storeN (kk := 0) (vs := [_, _, _, _]) S5 sz_25 rfl rfl rfl rfl rfl rfl rfl ?_ | refine o_storeN (kk := 1) (vs := [_, _, _, _]) S5 sz_25 rfl rfl rfl rfl rfl rfl rfl ?_
  intro w1_4 S1_4 X1_4
  dsimp only [setsAt, List.set] at S1_4
  refine WL_nil ?_
  refine W_seq ?_
  refine W_seq ?_
  refine W_region ?_
  first | refine o_move (v := .slice _ _ _) rfl rfl ?_ | refine o_move (by conv => lhs; whnf) rfl ?_
  refine o_slice (lo := 1) (hi := n) slz_23.slT rfl (.inr rfl) (.inl ⟨rfl, rfl⟩) (by omega) hc hc rfl ?_
  obtain ⟨A12, hA12⟩ : ∃ A12 : Addr, (if c = 1 then (⟨b, o, none⟩ : Addr) else ⟨b, o + 1 * 4, none⟩) = A12 := ⟨_, rfl⟩
  rw [hA12]
  have hA2 : 1 < n → some A12 = some (⟨b, o + 4, none⟩ : Addr) := fun h => by rw [← hA12, if_neg (by omega)]
  refine o_len slz_23.slT rfl rfl ?_
  first | refine o_move (v := .int .i64 _) rfl rfl ?_ | refine o_move (by conv => lhs; whnf) rfl ?_
  refine WL_nil ?_
  refine W_block ?_
  refine W_loop (fun μ D ε w => D = [] ∧ ∃ k : Nat, ∃ co : List Value, ∃ out : E, (k + 1 + μ = l.length) ∧ (out = andAll (l.take (k + 1))) ∧ (RdE (g4 :: g5 :: M) w out co) ∧ St [] w0 w [(some g5, 25, co), (some g4, 25, [.int .i64 0, .int .i64 0, .int .i64 0, .slice none 0 0])] ∧ ε 0 = .slice (some ⟨b, o, none⟩) n c ∧ ε 1 = .func (.func 58) #[] #[.pointer (some ⟨g, 0, none⟩)] ∧ ε 4 = .pointer (some ⟨g4, 0, none⟩) ∧ ε 5 = .pointer (some ⟨g5, 0, none⟩) ∧ ε 12 = .slice (some A12) (n - 1) (c - 1) ∧ ε 13 = .int .i64 ((n - 1 : Nat) : Int) ∧ ε 14 = .int .i64 k) (μ := l.length - 1) ⟨rfl, 0, _, l[0], by omega, by rw [andAll_succ l 0 hl0, if_pos rfl], RdE.keep (S1_4.keep0 _) _ _ (RdE.more (fun x hx => by simp at hx; rcases hx with rfl | rfl | hx; right; simpa using S1_4.new 1 rfl; right; simpa using S1_4.new 0 rfl; exact .inl hx) _ _ hrk0), S1_4, rfl, rfl, rfl, rfl, rfl, rfl, rfl⟩ ?_
  rintro μ D ε w ⟨rfl, k, co, out, hk, hout, ro, S, e0, e1, e4, e5, e12, e13, e14⟩
  refine W_known 0 e0 ?_
  refine W_known 1 e1 ?_
  refine W_known 4 e4 ?_
  refine W_known 5 e5 ?_
  refine W_known 12 e12 ?_
  refine W_known 13 e13 ?_
  refine W_known 14 e14 ?_
  clear e0 e1 e4 e5 e12 e13 e14
  obtain ⟨Ao, no, qo, rfl, -⟩ := ro.open_
  have hM3 : ∀ x ∈ g4 :: g5 :: M, x < w.heap.size := by
    intro x hx; simp at hx
    rcases hx with rfl | rfl | hx
    · exact S.lt 1 rfl
    · exact S.lt 0 rfl
    · have := hM x hx; have := S.size; omega
  refine W_seq ?_
  refine W_region ?_
  refine o_lss rfl rfl rfl (fun h15 => ?_) (fun h15 => ?_)
  · refine WL_nil ?_
    refine W_seq ?_
    refine W_then rfl ?_
    refine W_skip ?_
    refine W_seq ?_
    refine W_block ?_
    refine W_seq ?_
    refine W_region ?_
    have hlt : k + 1 < l.length := by omega
    have hA16 := hA2 (by omega)
    obtain ⟨ck, hck, hrk⟩ := hkk (k + 1) hlt
    obtain ⟨Ak, nk, qk, rfl, -⟩ := hrk.open_
    rw [show o + (k + 1) * 4 = o + 4 + k * 4 by omega] at hck
    refine o_indexAddr slz_23.slT rfl (by first | rfl | assumption) rfl (by omega) (by omega) rfl ?_
    first | refine o_loadN many_25 rfl (S.cells 0 rfl) rfl rfl ?_ | refine o_loadN many_25 rfl (S.cells 1 rfl) rfl rfl ?_ | refine o_loadN many_25 rfl (hck0.keep (S.keep0 M) hbM) (by first | rfl | assumption) rfl ?_ | refine o_loadN many_25 rfl (hck.keep (S.keep0 M) hbM) (by first | rfl | assumption) rfl ?_
    refine o_alloc S zv_25 rfl rfl ?_
    intro g7 w7 S7 X7 G7
    have ro7 := RdE.keep X7.of_nil _ _ (RdE.more (M' := g7 :: g4 :: g5 :: M) (fun x hx => by rcases List.mem_cons.1 hx with rfl | hx; exact .inr G7; exact .inl hx) _ _ ro)
    have sz7 := X7.size
    first | refine o_storeN (kk := 0) (vs := [_, _, _, _]) S7 sz_25 rfl rfl rfl rfl rfl rfl rfl ?_ | refine o_storeN (kk := 1) (vs := [_, _, _, _]) S7 sz_25 rfl rfl rfl rfl rfl rfl rfl ?_ | refine o_storeN (kk := 2) (vs := [_, _, _, _]) S7 sz_25 rfl rfl rfl rfl rfl rfl rfl ?_
    intro w4_3 S4_3 X4_3
    dsimp only [setsAt, List.set] at S4_3
    refine WL_nil ?_
    refine W_region ?_
    first | refine o_move (v := .func _ _ _) rfl rfl ?_ | refine o_move (by conv => lhs; whnf) rfl ?_
    first | refine o_loadN many_25 rfl (S4_3.cells 0 rfl) rfl rfl ?_ | refine o_loadN many_25 rfl (S4_3.cells 1 rfl) rfl rfl ?_ | refine o_loadN many_25 rfl (S4_3.cells 2 rfl) rfl rfl ?_ | refine o_loadN many_25 rfl (hck0.keep (S4_3.keep0 M) hbM) (by first | rfl | assumption) rfl ?_ | refine o_loadN many_25 rfl (hck.keep (S4_3.keep0 M) hbM) (by first | rfl | assumption) rfl ?_
    first | refine o_loadN many_25 rfl (S4_3.cells 0 rfl) rfl rfl ?_ | refine o_loadN many_25 rfl (S4_3.cells 1 rfl) rfl rfl ?_ | refine o_loadN many_25 rfl (S4_3.cells 2 rfl) rfl rfl ?_ | refine o_loadN many_25 rfl (hck0.keep (S4_3.keep0 M) hbM) (by first | rfl | assumption) rfl ?_ | refine o_loadN many_25 rfl (hck.keep (S4_3.keep0 M) hbM) (by first | rfl | assumption) rfl ?_
    have ro4 := RdE.more (M' := g4 :: g5 :: M) (fun x hx => .inl (List.mem_cons_of_mem _ hx)) _ _ (RdE.keep (X4_3.mono (by simp)) _ _ ro7)
    refine o_callvn S4_3 has_58 rfl rfl rfl (join_fn out l[k + 1] _ _ g (g4 :: g5 :: M) _ (fun x hx => by have := hM3 x hx; have := X4_3.size; omega) ro4 (RdE.keep (S4_3.keep0 _) _ _ (RdE.more (fun x hx => by simp at hx; rcases hx with rfl | rfl | hx; right; simpa using S4_3.new 2 rfl; right; simpa using S4_3.new 1 rfl; exact .inl hx) _ _ hrk)) (S4_3.old hg)) ?_
    rintro v21 w21 ⟨c21, rfl, r21⟩ S21 X21
    obtain ⟨A21, n21, q21, rfl, -⟩ := r21.open_
    refine o_storeN (kk := 1) (vs := [_, _, _, _]) S21 sz_25 rfl rfl rfl rfl rfl rfl rfl ?_
    intro w5_4 S5_4 X5_4
    dsimp only [setsAt, List.set] at S5_4
    have r21' := RdE.keep (X5_4.mono (by simp)) _ _ r21
    refine WL_nil ?_
    refine W_region ?_
    refine o_add rfl rfl (by unfold i64; omega) rfl ?_
    first | refine o_move (v := .int .i64 _) rfl rfl ?_ | refine o_move (by conv => lhs; whnf) rfl ?_
    refine WL_nil ?_
    have hs := andAll_succ l (k + 1) hlt
    rw [if_neg (by omega), ← hout] at hs
    exact ⟨μ - 1, by omega, rfl, k + 1, _, andE out l[k + 1], by omega, hs.symm, r21', S5_4.tail, rfl, rfl, rfl, rfl, rfl, rfl, rfl⟩
  · refine WL_nil ?_
    refine W_seq ?_
    refine W_else rfl ?_
    refine W_exit ?_
    refine bcons_here ?_
    refine W_seq ?_
    refine W_region ?_
    first | refine o_loadN many_25 rfl (S.cells 0 rfl) rfl rfl ?_ | refine o_loadN many_25 rfl (S.cells 1 rfl) rfl rfl ?_ | refine o_loadN many_25 rfl (hck0.keep (S.keep0 M) hbM) (by first | rfl | assumption) rfl ?_ | refine o_loadN many_25 rfl (hck.keep (S.keep0 M) hbM) (by first | rfl | assumption) rfl ?_
    first | refine o_storeN (kk := 0) (vs := [_, _, _, _]) S sz_25 rfl rfl rfl rfl rfl rfl rfl ?_ | refine o_storeN (kk := 1) (vs := [_, _, _, _]) S sz_25 rfl rfl rfl rfl rfl rfl rfl ?_
    intro w7_1 S7_1 X7_1
    dsimp only [setsAt, List.set] at S7_1
    refine WL_nil ?_
    refine W_ret ?_
    have htk : l.take (k + 1) = l := List.take_of_length_le (by omega)
    rw [htk] at hout
    exact ret_cell1 rfl many_25 rfl (S7_1.cells 1 rfl) rfl ⟨⟨_, rfl, by rw [← hout]; exact RdE.more (fun x hx => .inl (by simp [hx])) _ _ (RdE.keep (X7_1.mono (by simp)) _ _ ro)⟩, S7_1.fin⟩
end Go.Proofs.YtinhchacppkmgaaDoor
