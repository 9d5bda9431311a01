/-
  Contracts of package expr: leaves, validity, supports.
-/
import Derived.Test.YtinhchacppkmgaaDoorEx3
namespace Go.Fw
open Go.RowKit

section
variable {σ : Type}
mutual
/-- A fold over the nodes without kids. -/
def E.lf (step : E → σ → σ) : E → σ → σ
  | ⟨op, w, n, ks⟩, s => E.lfs step ks (if ks.length = 0 then step ⟨op, w, n, ks⟩ s else s)
def E.lfs (step : E → σ → σ) : List E → σ → σ
  | [], s => s
  | k :: ks, s => E.lfs step ks (E.lf step k s)
end
theorem E.lf_def (step : E → σ → σ) (e : E) (s : σ) : e.lf step s = E.lfs step e.kids (if e.kids.length = 0 then step e s else s) := by cases e; simp only [E.lf]

theorem BelowB.mono {M M' : List Nat} {w w' : World} (h : BelowB M w w') (hs : ∀ g ∈ M, g ∈ M') : BelowB M' w w' := ⟨h.os, h.tape, h.output, h.size, fun i hi hm => h.block i hi fun hh => hm (hs i hh)⟩
theorem St.more0 {M : List Nat} {w0 w w' : World} (S : St M w0 w []) (h : BelowB M w w') : St M w0 w' [] :=
  S.changed (G := M) (L' := []) h (fun _ hg => .inr hg) rfl (by simp)
end
end Go.Fw
namespace Go.Proofs.YtinhchacppkmgaaDoor
open Go.Fw Go.RowKit

theorem leaves_fn {σ : Type} (M : List Nat) (Inv : σ → World → Prop) (step : E → σ → σ) (f : FuncId) (caps : Array Value) (hf : Has Tryd.prog f)
    (hstep : ∀ (e : E) (s : σ) (w : World) (b o : Nat), e.Shape → e.kids.length = 0 → RdP M w e b o → Inv s w →
      Does Tryd.prog f (.pointer (some ⟨b, o, none⟩) :: caps.toList).toArray w fun _ w' => Inv (step e s) w' ∧ BelowB M w w') :
    ∀ (e : E) (w0 : World) (b o : Nat) (s : σ) (lim : Int), RdP M w0 e b o → Inv s w0 → e.good lim = true →
    Does Tryd.prog 39 #[.pointer (some ⟨b, o, none⟩), .func (.func f) #[] caps] w0 fun _ w' => Inv (e.lf step s) w' ∧ BelowB M w0 w' := by
  intro e
  induction e using E.induct with
  | _ e ih =>
  intro w0 b o s lim hR hI hg
  obtain ⟨hbM, o1, o2, o3, c0, c1, c2, A, n, c, c3, hn, hc, hm, hbig, hks, hRE⟩ := hR.open_
  rw [E.good_def] at hg
  simp only [Bool.and_eq_true] at hg
  have hsh : e.Shape := of_decide_eq_true hg.1.2
  have hkg : ∀ k ∈ e.kids, k.good (lim - 1) = true := (E.goods_iff _ _).1 hg.2
  clear hg
  have S : St M w0 w0 [] := ⟨BelowB.refl _ _, by simp, by simp⟩
  have hlf := E.lf_def step e s
  refine Does_enter Tryd.func39 rfl Tryd.ntmps39 rfl ?_
  refine W_cut (fun D ε w => D = [] ∧ ∃ s1 : σ, (Inv s1 w) ∧ (s1 = if e.kids.length = 0 then step e s else s) ∧ St M w0 w [] ∧ ε 0 = .pointer (some ⟨b, o, none⟩) ∧ ε 1 = .func (.func f) #[] caps) ?_ ?_
  · refine W_seq ?_
    refine W_region ?_
    first | refine o_move (v := .pointer _) rfl rfl ?_ | refine o_move (by conv => lhs; whnf) rfl ?_
    refine o_nilCheck rfl rfl ?_
    refine o_fieldAddr fa_25_3 rfl rfl ?_
    refine o_load one_23 rfl (by first | exact S.oldM hbM c3) rfl ?_
    refine o_len slz_23.slT rfl rfl ?_
    refine o_eql rfl rfl rfl (fun h10 => ?_) (fun h10 => ?_)
    · refine WL_nil ?_
      refine W_then rfl ?_
      refine W_region ?_
      first | refine o_move (v := .func _ _ _) rfl rfl ?_ | refine o_move (by conv => lhs; whnf) rfl ?_
      first | refine o_move (v := .pointer _) rfl rfl ?_ | refine o_move (by conv => lhs; whnf) rfl ?_
      refine o_callv hf rfl rfl rfl (hstep e s _ b o hsh (by omega) (hR.keep S.keepM) hI) ?_
      rintro v13 w13 ⟨I13, B13⟩
      have S13 := S.more0 B13
      refine WL_nil ?_
      first
        | exact ⟨rfl, _, I13, by rw [if_pos (by omega)], S13, rfl, rfl⟩
        | exact ⟨rfl, _, hI, by rw [if_neg (by omega)], S13, rfl, rfl⟩
    · refine WL_nil ?_
      refine W_else rfl ?_
      refine W_skip ?_
      first
        | exact ⟨rfl, _, I13, by rw [if_pos (by omega)], S, rfl, rfl⟩
        | exact ⟨rfl, _, hI, by rw [if_neg (by omega)], S, rfl, rfl⟩
  · rintro D ε w ⟨rfl, s1, hI1, hs1, S, e0, e1⟩
    refine W_known 0 e0 ?_
    refine W_known 1 e1 ?_
    clear e0 e1
    rw [← hs1] at hlf
    refine W_seq ?_
    refine W_region ?_
    first | refine o_move (v := .pointer _) rfl rfl ?_ | refine o_move (by conv => lhs; whnf) rfl ?_
    refine o_nilCheck rfl rfl ?_
    refine o_fieldAddr fa_25_3 rfl rfl ?_
    refine o_load one_23 rfl (by first | exact S.oldM hbM c3) rfl ?_
    refine o_len slz_23.slT rfl rfl ?_
    first | refine o_move (v := .int .i64 _) rfl rfl ?_ | refine o_move (by conv => lhs; whnf) rfl ?_
    refine WL_nil ?_
    refine W_block ?_
    refine W_loop (fun μ D ε w => D = [] ∧ ∃ k : Nat, ∃ s2 : σ, (k + μ = e.kids.length) ∧ (Inv s2 w) ∧ (E.lfs step e.kids s1 = E.lfs step (e.kids.drop k) s2) ∧ St M w0 w [] ∧ ε 0 = .pointer (some ⟨b, o, none⟩) ∧ ε 1 = .func (.func f) #[] caps ∧ ε 18 = .int .i64 n ∧ ε 19 = .int .i64 k) (μ := e.kids.length) ⟨rfl, 0, s1, by omega, hI1, rfl, S, rfl, rfl, rfl, rfl⟩ ?_
    rintro μ D ε w ⟨rfl, k, s2, hk, hI2, hs2, S, e0, e1, e18, e19⟩
    refine W_known 0 e0 ?_
    refine W_known 1 e1 ?_
    refine W_known 18 e18 ?_
    refine W_known 19 e19 ?_
    clear e0 e1 e18 e19
    refine W_seq ?_
    refine W_region ?_
    refine o_lss rfl rfl rfl (fun h20 => ?_) (fun h20 => ?_)
    · refine WL_nil ?_
      refine W_seq ?_
      refine W_then rfl ?_
      refine W_skip ?_
      refine W_seq ?_
      refine W_block ?_
      refine W_seq ?_
      refine W_region ?_
      first | refine o_move (v := .int .i64 _) rfl rfl ?_ | refine o_move (by conv => lhs; whnf) rfl ?_
      first | refine o_assign (v := .int .i64 _) rfl rfl ?_ | refine o_assign (by conv => lhs; whnf) rfl ?_
      refine WL_nil ?_
      refine W_region ?_
      first | refine o_move (v := .pointer _) rfl rfl ?_ | refine o_move (by conv => lhs; whnf) rfl ?_
      refine o_nilCheck rfl rfl ?_
      refine o_fieldAddr fa_25_3 rfl rfl ?_
      refine o_load one_23 rfl (by first | exact S.oldM hbM c3) rfl ?_
      first | refine o_move (v := .int .i64 _) rfl rfl ?_ | refine o_move (by conv => lhs; whnf) rfl ?_
      have hlt : k < e.kids.length := by omega
      obtain ⟨bk, ok, hA, hbkM, hkk⟩ := hks (by omega)
      have hdr : e.kids.drop k = e.kids[k] :: e.kids.drop (k + 1) := List.drop_eq_getElem_cons hlt
      rw [hdr] at hs2
      simp only [E.lfs] at hs2
      refine o_indexAddr slz_23.slT rfl (by first | rfl | assumption) rfl (by omega) (by omega) rfl ?_
      first | refine o_move (v := .func _ _ _) rfl rfl ?_ | refine o_move (by conv => lhs; whnf) rfl ?_
      refine o_call has_39 rfl rfl (ih _ (List.getElem_mem hlt) _ bk (ok + k * 4) s2 _ ((RdP.kid hbkM hkk k hlt).keep S.keepM) hI2 (hkg _ (List.getElem_mem hlt))) ?_
      rintro v29 w29 ⟨I29, B29⟩
      have S29 := S.more0 B29
      refine WL_nil ?_
      refine W_region ?_
      refine o_add rfl rfl (by unfold i64; omega) rfl ?_
      first | refine o_move (v := .int .i64 _) rfl rfl ?_ | refine o_move (by conv => lhs; whnf) rfl ?_
      refine WL_nil ?_
      exact ⟨μ - 1, by omega, rfl, k + 1, _, by omega, I29, hs2, S29, rfl, rfl, rfl, rfl⟩
    · refine WL_nil ?_
      refine W_seq ?_
      refine W_else rfl ?_
      refine W_exit ?_
      refine bcons_here ?_
      refine ret_none rfl ?_
      obtain rfl : k = e.kids.length := by omega
      rw [List.drop_length] at hs2
      simp only [E.lfs] at hs2
      rw [hlf, hs2]
      exact ⟨hI2, S.below⟩

/-- What Valid's visit knows. -/
def VInv (M : List Nat) (gc gp gg : Nat) (vc : Value) (cells : List CellD) (pair : Bool) (s : Bool) (w : World) : Prop :=
  gc ∉ M ∧ gp ∉ M ∧ w.cell? ⟨gc, 0, none⟩ = some vc ∧ w.cell? ⟨gp, 0, none⟩ = some (.bool pair) ∧ hasBlk w (gg, 4, [.bool s]) ∧ RdCs M w vc cells

theorem valid1_fn (M : List Nat) (gc gp gg : Nat) (vc : Value) (cells : List CellD) (pair : Bool) (hgg : gg ∈ M) (e : E) (s : Bool) (w0 : World) (b o : Nat) (hsh : e.Shape) (hlf : e.kids.length = 0) (hR : RdP M w0 e b o) (hI : VInv M gc gp gg vc cells pair s w0) :
    Does Tryd.prog 40 #[.pointer (some ⟨b, o, none⟩), .pointer (some ⟨gc, 0, none⟩), .pointer (some ⟨gp, 0, none⟩), .pointer (some ⟨gg, 0, none⟩)] w0 fun _ w' => VInv M gc gp gg vc cells pair (s && decide (e.OverN cells pair)) w' ∧ BelowB M w0 w' := by
  obtain ⟨hgc, hgp, hcc, hcp, hblk, hC⟩ := hI
  obtain ⟨hbM, o1, o2, o3, c0, c1, c2, A, n, c, c3, hn, hc, hm, hbig, hks, hRE⟩ := hR.open_
  obtain ⟨Ac, nc, cc, rfl, hnc, hcc', hcm, hcbig, hcs⟩ := id hC
  have har := Shape_ar hsh
  have har2 := arityL_spec e.op
  have hov : (e.op = 3 ∨ e.op = 2) → 0 ≤ e.n ∧ e.n < 32 := fun h => by
    have := (Shape_2 (by omega)).1 hsh; omega
  have S := St.borrow1 hblk
  have hsub : ∀ g ∈ [gg], g ∈ M := fun g hg => by simp at hg; subst hg; exact hgg
  have hb' : b ∉ [gg] := fun h => hbM (hsub b h)
  have hc' : gc ∉ [gg] := fun h => hgc (hsub gc h)
  have hp' : gp ∉ [gg] := fun h => hgp (hsub gp h)
  have fin : ∀ (z : Bool) (w' : World), St [gg] w0 w' [(some gg, 4, [.bool z])] → z = (s && decide (e.OverN cells pair)) → VInv M gc gp gg (.slice Ac nc cc) cells pair (s && decide (e.OverN cells pair)) w' ∧ BelowB M w0 w' := by
    intro z w' S' hz
    subst hz
    exact ⟨⟨hgc, hgp, S'.oldM hc' hcc, S'.oldM hp' hcp, S'.blk 0 rfl, hC.keep (S'.keepM.mono hsub)⟩, S'.below.mono hsub⟩
  obtain ⟨pr, hpr⟩ : ∃ pr, pr = pair := ⟨_, rfl⟩
  have hcp2 := hcp
  rw [← hpr] at hcp2
  refine Does_enter Tryd.func40 rfl Tryd.ntmps40 rfl ?_
  refine W_seq ?_
  refine W_draw follows_mixed [0, 1, 2, 3, 4, 5, 6, 7, 8, 9, 10, 11, 12, 13, 14, 15, 16, 17, 18, 19, 20, 21, 22, 23, 24, 25, 26, 27, 28, 29, 30, 31, 32, 33, 34, 35, 36, 37, 38, 39] [] [] (by kernel_rfl) rfl (Cl _ _ _ _) (Cl.start S) ?_
  first | refine q_move (v := .pointer _) rfl rfl ?_ | refine q_move (by conv => lhs; whnf) rfl ?_
  refine q_nilCheck rfl rfl ?_
  refine q_fieldAddr fa_25_0 rfl rfl ?_
  refine q_load one_3 rfl (fun w1 hw => by first | exact hw.1.cell 0 rfl rfl | exact hw.1.oldM hb' c0 | exact hw.1.oldM hb' c1 | exact hw.1.oldM hb' c2 | exact hw.1.oldM hc' hcc | exact hw.1.oldM hp' (hcp2.trans (by rw [hb40])) | exact hw.1.oldM hbc' hcw) rfl ?_
  refine q_neq rfl rfl rfl (fun h9 => ?_) (fun h9 => ?_)
  · first | refine q_move (v := .bool _) rfl rfl ?_ | refine q_move (by conv => lhs; whnf) rfl ?_
    refine QL_on rfl rfl ?_
    first | refine q_move (v := .pointer _) rfl rfl ?_ | refine q_move (by conv => lhs; whnf) rfl ?_
    refine QL_on rfl rfl ?_
    refine q_nilCheck rfl rfl ?_
    refine QL_on rfl rfl ?_
    refine q_fieldAddr fa_25_2 rfl rfl ?_
    refine QL_on rfl rfl ?_
    refine q_load one_3 rfl (fun w1 hw => by first | exact hw.1.cell 0 rfl rfl | exact hw.1.oldM hb' c0 | exact hw.1.oldM hb' c1 | exact hw.1.oldM hb' c2 | exact hw.1.oldM hc' hcc | exact hw.1.oldM hp' (hcp2.trans (by rw [hb40])) | exact hw.1.oldM hbc' hcw) rfl ?_
    refine QL_on rfl rfl ?_
    refine q_load one_22 rfl (fun w1 hw => by first | exact hw.1.cell 0 rfl rfl | exact hw.1.oldM hb' c0 | exact hw.1.oldM hb' c1 | exact hw.1.oldM hb' c2 | exact hw.1.oldM hc' hcc | exact hw.1.oldM hp' (hcp2.trans (by rw [hb40])) | exact hw.1.oldM hbc' hcw) rfl ?_
    refine QL_on rfl rfl ?_
    refine q_len slz_22.slT rfl rfl ?_
    refine QL_on rfl rfl ?_
    refine q_geq rfl rfl rfl (fun h17 => ?_) (fun h17 => ?_)
    · refine QL_on rfl rfl ?_
      first | refine q_move (v := .bool _) rfl rfl ?_ | refine q_move (by conv => lhs; whnf) rfl ?_
      refine QL_off rfl rfl rfl ?_
      refine QL_off rfl rfl rfl ?_
      refine QL_off rfl rfl rfl ?_
      refine QL_off rfl rfl rfl ?_
      refine QL_off rfl rfl rfl ?_
      refine QL_off rfl rfl rfl ?_
      refine QL_off rfl rfl rfl ?_
      refine QL_off rfl rfl rfl ?_
      refine QL_off rfl rfl rfl ?_
      refine QL_off rfl rfl rfl ?_
      refine QL_off rfl rfl rfl ?_
      refine QL_off rfl rfl rfl ?_
      refine QL_off rfl rfl rfl ?_
      refine QL_on rfl rfl ?_
      first | refine q_pick rfl (v := .bool _) rfl rfl ?_ | refine q_pick rfl (by conv => lhs; whnf) rfl ?_
      refine QL_on rfl rfl ?_
      first | refine q_move (v := .bool _) rfl rfl ?_ | refine q_move (by conv => lhs; whnf) rfl ?_
      refine QL_off rfl rfl rfl ?_
      refine QL_off rfl rfl rfl ?_
      refine QL_off rfl rfl rfl ?_
      refine QL_off rfl rfl rfl ?_
      refine QL_off rfl rfl rfl ?_
      refine QL_off rfl rfl rfl ?_
      refine QL_off rfl rfl rfl ?_
      refine QL_off rfl rfl rfl ?_
      refine QL_off rfl rfl rfl ?_
      refine QL_on rfl rfl ?_
      first | refine q_pick rfl (v := .bool _) rfl rfl ?_ | refine q_pick rfl (by conv => lhs; whnf) rfl ?_
      first | refine q_pick rfl (v := .bool _) rfl rfl ?_ | refine q_pick rfl (by conv => lhs; whnf) rfl ?_
      refine QL_nil ?_
      refine BK_of ?_
      refine BKL_nil ?_
      rintro wR0 ⟨SR0, XR0⟩
      refine WL_nil ?_
      refine W_then rfl ?_
      refine W_region ?_
      first | refine o_store (kk := 0) SR0 sz_4 rfl (by conv => lhs; whnf) rfl rfl (by first | exact Nat.le_of_ble_eq_true rfl | (simp; omega)) ?_
      intro w1_0 S1_0 X1_0
      refine WL_nil ?_
      refine ret_none rfl ?_
      first
        | (refine fin _ _ S1_0 ?_; rw [decide_eq_true (show e.OverN cells pair from ⟨fun h => absurd h (by omega), fun h => by omega⟩)]; simp; done)
        | (refine fin _ _ S1_0 ?_; rw [decide_eq_true (show e.OverN cells pair from ⟨fun h => by rw [← hpr, hb40], fun h => by omega⟩)]; simp; done)
        | (refine fin _ _ S1_0 ?_; rw [decide_eq_false (show ¬ e.OverN cells pair from fun h => by have := h.2 (by omega); omega)]; simp; done)
        | (refine fin _ _ S1_0 ?_; rw [decide_eq_false (show ¬ e.OverN cells pair from fun h => by have := h.1 (by omega); rw [← hpr, hb40] at this; cases this)]; simp; done)
    · refine QL_on rfl rfl ?_
      first | refine q_move (v := .bool _) rfl rfl ?_ | refine q_move (by conv => lhs; whnf) rfl ?_
      refine QL_on rfl rfl ?_
      refine q_load one_22 rfl (fun w1 hw => by first | exact hw.1.cell 0 rfl rfl | exact hw.1.oldM hb' c0 | exact hw.1.oldM hb' c1 | exact hw.1.oldM hb' c2 | exact hw.1.oldM hc' hcc | exact hw.1.oldM hp' (hcp2.trans (by rw [hb40])) | exact hw.1.oldM hbc' hcw) rfl ?_
      refine QL_on rfl rfl ?_
      first | refine q_move (v := .pointer _) rfl rfl ?_ | refine q_move (by conv => lhs; whnf) rfl ?_
      refine QL_on rfl rfl ?_
      refine q_nilCheck rfl rfl ?_
      refine QL_on rfl rfl ?_
      refine q_fieldAddr fa_25_2 rfl rfl ?_
      refine QL_on rfl rfl ?_
      refine q_load one_3 rfl (fun w1 hw => by first | exact hw.1.cell 0 rfl rfl | exact hw.1.oldM hb' c0 | exact hw.1.oldM hb' c1 | exact hw.1.oldM hb' c2 | exact hw.1.oldM hc' hcc | exact hw.1.oldM hp' (hcp2.trans (by rw [hb40])) | exact hw.1.oldM hbc' hcw) rfl ?_
      refine QL_on rfl rfl ?_
      obtain ⟨bc, oc, hAc, hbc, hce⟩ := hcs (by omega)
      obtain ⟨m, hm⟩ := Int.eq_ofNat_of_zero_le (show 0 ≤ e.n by omega)
      have hml : m < cells.length := by omega
      have hbc' : bc ∉ [gg] := fun h => hbc (hsub bc h)
      obtain ⟨cl, hcl, hcw', hrc⟩ := hce m cells[m] (List.getElem?_eq_getElem hml)
      have hcw : w0.cell? ⟨bc, oc + e.n.toNat * 6 + 1, none⟩ = some (.int .i64 (wAt cells e.n)) := by
        rw [hm]; have := hcw' 1 (.int .i64 cells[m].w) (by rw [hrc.1]; rfl)
        simpa [wAt, hml] using this
      refine q_indexAddr slz_22.slT rfl (by first | rfl | assumption) rfl (by omega) (by omega) rfl ?_
      refine QL_on rfl rfl ?_
      refine q_fieldAddr fa_48_1 rfl rfl ?_
      refine QL_on rfl rfl ?_
      refine q_load one_3 rfl (fun w1 hw => by first | exact hw.1.cell 0 rfl rfl | exact hw.1.oldM hb' c0 | exact hw.1.oldM hb' c1 | exact hw.1.oldM hb' c2 | exact hw.1.oldM hc' hcc | exact hw.1.oldM hp' (hcp2.trans (by rw [hb40])) | exact hw.1.oldM hbc' hcw) rfl ?_
      refine QL_on rfl rfl ?_
      first | refine q_move (v := .pointer _) rfl rfl ?_ | refine q_move (by conv => lhs; whnf) rfl ?_
      refine QL_on rfl rfl ?_
      refine q_nilCheck rfl rfl ?_
      refine QL_on rfl rfl ?_
      refine q_fieldAddr fa_25_1 rfl rfl ?_
      refine QL_on rfl rfl ?_
      refine q_load one_3 rfl (fun w1 hw => by first | exact hw.1.cell 0 rfl rfl | exact hw.1.oldM hb' c0 | exact hw.1.oldM hb' c1 | exact hw.1.oldM hb' c2 | exact hw.1.oldM hc' hcc | exact hw.1.oldM hp' (hcp2.trans (by rw [hb40])) | exact hw.1.oldM hbc' hcw) rfl ?_
      refine QL_on rfl rfl ?_
      refine q_neq rfl rfl rfl (fun h31 => ?_) (fun h31 => ?_)
      · refine QL_on rfl rfl ?_
        first | refine q_pick rfl (v := .bool _) rfl rfl ?_ | refine q_pick rfl (by conv => lhs; whnf) rfl ?_
        refine QL_on rfl rfl ?_
        first | refine q_move (v := .bool _) rfl rfl ?_ | refine q_move (by conv => lhs; whnf) rfl ?_
        refine QL_off rfl rfl rfl ?_
        refine QL_off rfl rfl rfl ?_
        refine QL_off rfl rfl rfl ?_
        refine QL_off rfl rfl rfl ?_
        refine QL_off rfl rfl rfl ?_
        refine QL_off rfl rfl rfl ?_
        refine QL_off rfl rfl rfl ?_
        refine QL_off rfl rfl rfl ?_
        refine QL_off rfl rfl rfl ?_
        refine QL_on rfl rfl ?_
        first | refine q_pick rfl (v := .bool _) rfl rfl ?_ | refine q_pick rfl (by conv => lhs; whnf) rfl ?_
        first | refine q_pick rfl (v := .bool _) rfl rfl ?_ | refine q_pick rfl (by conv => lhs; whnf) rfl ?_
        refine QL_nil ?_
        refine BK_of ?_
        refine BKL_nil ?_
        rintro wR0 ⟨SR0, XR0⟩
        refine WL_nil ?_
        refine W_then rfl ?_
        refine W_region ?_
        first | refine o_store (kk := 0) SR0 sz_4 rfl (by conv => lhs; whnf) rfl rfl (by first | exact Nat.le_of_ble_eq_true rfl | (simp; omega)) ?_
        intro w1_0 S1_0 X1_0
        refine WL_nil ?_
        refine ret_none rfl ?_
        first
          | (refine fin _ _ S1_0 ?_; rw [decide_eq_true (show e.OverN cells pair from ⟨fun h => absurd h (by omega), fun h => by omega⟩)]; simp; done)
          | (refine fin _ _ S1_0 ?_; rw [decide_eq_true (show e.OverN cells pair from ⟨fun h => by rw [← hpr, hb40], fun h => by omega⟩)]; simp; done)
          | (refine fin _ _ S1_0 ?_; rw [decide_eq_false (show ¬ e.OverN cells pair from fun h => by have := h.2 (by omega); omega)]; simp; done)
          | (refine fin _ _ S1_0 ?_; rw [decide_eq_false (show ¬ e.OverN cells pair from fun h => by have := h.1 (by omega); rw [← hpr, hb40] at this; cases this)]; simp; done)
      · refine QL_on rfl rfl ?_
        first | refine q_pick rfl (v := .bool _) rfl rfl ?_ | refine q_pick rfl (by conv => lhs; whnf) rfl ?_
        refine QL_on rfl rfl ?_
        first | refine q_move (v := .bool _) rfl rfl ?_ | refine q_move (by conv => lhs; whnf) rfl ?_
        refine QL_on rfl rfl ?_
        first | refine q_move (v := .pointer _) rfl rfl ?_ | refine q_move (by conv => lhs; whnf) rfl ?_
        refine QL_on rfl rfl ?_
        refine q_nilCheck rfl rfl ?_
        refine QL_on rfl rfl ?_
        refine q_fieldAddr fa_25_0 rfl rfl ?_
        refine QL_on rfl rfl ?_
        refine q_load one_3 rfl (fun w1 hw => by first | exact hw.1.cell 0 rfl rfl | exact hw.1.oldM hb' c0 | exact hw.1.oldM hb' c1 | exact hw.1.oldM hb' c2 | exact hw.1.oldM hc' hcc | exact hw.1.oldM hp' (hcp2.trans (by rw [hb40])) | exact hw.1.oldM hbc' hcw) rfl ?_
        refine QL_on rfl rfl ?_
        refine q_eql rfl rfl rfl (fun h38 => ?_) (fun h38 => ?_)
        · refine QL_on rfl rfl ?_
          first | refine q_move (v := .bool _) rfl rfl ?_ | refine q_move (by conv => lhs; whnf) rfl ?_
          refine QL_on rfl rfl ?_
          cases hb40 : pr
          · refine q_load one_4 rfl (fun w1 hw => by first | exact hw.1.cell 0 rfl rfl | exact hw.1.oldM hb' c0 | exact hw.1.oldM hb' c1 | exact hw.1.oldM hb' c2 | exact hw.1.oldM hc' hcc | exact hw.1.oldM hp' (hcp2.trans (by rw [hb40])) | exact hw.1.oldM hbc' hcw) rfl ?_
            refine QL_on rfl rfl ?_
            refine q_not rfl rfl ?_
            refine QL_on rfl rfl ?_
            first | refine q_pick rfl (v := .bool _) rfl rfl ?_ | refine q_pick rfl (by conv => lhs; whnf) rfl ?_
            refine QL_on rfl rfl ?_
            first | refine q_pick rfl (v := .bool _) rfl rfl ?_ | refine q_pick rfl (by conv => lhs; whnf) rfl ?_
            first | refine q_pick rfl (v := .bool _) rfl rfl ?_ | refine q_pick rfl (by conv => lhs; whnf) rfl ?_
            refine QL_nil ?_
            refine BK_of ?_
            refine BKL_nil ?_
            rintro wR0 ⟨SR0, XR0⟩
            refine WL_nil ?_
            refine W_then rfl ?_
            refine W_region ?_
            first | refine o_store (kk := 0) SR0 sz_4 rfl (by conv => lhs; whnf) rfl rfl (by first | exact Nat.le_of_ble_eq_true rfl | (simp; omega)) ?_
            intro w1_0 S1_0 X1_0
            refine WL_nil ?_
            refine ret_none rfl ?_
            first
              | (refine fin _ _ S1_0 ?_; rw [decide_eq_true (show e.OverN cells pair from ⟨fun h => absurd h (by omega), fun h => by omega⟩)]; simp; done)
              | (refine fin _ _ S1_0 ?_; rw [decide_eq_true (show e.OverN cells pair from ⟨fun h => by rw [← hpr, hb40], fun h => by omega⟩)]; simp; done)
              | (refine fin _ _ S1_0 ?_; rw [decide_eq_false (show ¬ e.OverN cells pair from fun h => by have := h.2 (by omega); omega)]; simp; done)
              | (refine fin _ _ S1_0 ?_; rw [decide_eq_false (show ¬ e.OverN cells pair from fun h => by have := h.1 (by omega); rw [← hpr, hb40] at this; cases this)]; simp; done)
          · refine q_load one_4 rfl (fun w1 hw => by first | exact hw.1.cell 0 rfl rfl | exact hw.1.oldM hb' c0 | exact hw.1.oldM hb' c1 | exact hw.1.oldM hb' c2 | exact hw.1.oldM hc' hcc | exact hw.1.oldM hp' (hcp2.trans (by rw [hb40])) | exact hw.1.oldM hbc' hcw) rfl ?_
            refine QL_on rfl rfl ?_
            refine q_not rfl rfl ?_
            refine QL_on rfl rfl ?_
            first | refine q_pick rfl (v := .bool _) rfl rfl ?_ | refine q_pick rfl (by conv => lhs; whnf) rfl ?_
            refine QL_on rfl rfl ?_
            first | refine q_pick rfl (v := .bool _) rfl rfl ?_ | refine q_pick rfl (by conv => lhs; whnf) rfl ?_
            first | refine q_pick rfl (v := .bool _) rfl rfl ?_ | refine q_pick rfl (by conv => lhs; whnf) rfl ?_
            refine QL_nil ?_
            refine BK_of ?_
            refine BKL_nil ?_
            rintro wR0 ⟨SR0, XR0⟩
            refine WL_nil ?_
            refine W_else rfl ?_
            refine W_skip ?_
            refine ret_none rfl ?_
            first
              | (refine fin _ _ SR0 ?_; rw [decide_eq_true (show e.OverN cells pair from ⟨fun h => absurd h (by omega), fun h => by omega⟩)]; simp; done)
              | (refine fin _ _ SR0 ?_; rw [decide_eq_true (show e.OverN cells pair from ⟨fun h => by rw [← hpr, hb40], fun h => by omega⟩)]; simp; done)
              | (refine fin _ _ SR0 ?_; rw [decide_eq_false (show ¬ e.OverN cells pair from fun h => by have := h.2 (by omega); omega)]; simp; done)
              | (refine fin _ _ SR0 ?_; rw [decide_eq_false (show ¬ e.OverN cells pair from fun h => by have := h.1 (by omega); rw [← hpr, hb40] at this; cases this)]; simp; done)
        · refine QL_on rfl rfl ?_
          first | refine q_move (v := .bool _) rfl rfl ?_ | refine q_move (by conv => lhs; whnf) rfl ?_
          refine QL_off rfl rfl rfl ?_
          refine QL_off rfl rfl rfl ?_
          refine QL_on rfl rfl ?_
          first | refine q_pick rfl (v := .bool _) rfl rfl ?_ | refine q_pick rfl (by conv => lhs; whnf) rfl ?_
          refine QL_on rfl rfl ?_
          first | refine q_pick rfl (v := .bool _) rfl rfl ?_ | refine q_pick rfl (by conv => lhs; whnf) rfl ?_
          first | refine q_pick rfl (v := .bool _) rfl rfl ?_ | refine q_pick rfl (by conv => lhs; whnf) rfl ?_
          refine QL_nil ?_
          refine BK_of ?_
          refine BKL_nil ?_
          rintro wR0 ⟨SR0, XR0⟩
          refine WL_nil ?_
          refine W_else rfl ?_
          refine W_skip ?_
          refine ret_none rfl ?_
          first
            | (refine fin _ _ SR0 ?_; rw [decide_eq_true (show e.OverN cells pair from ⟨fun h => absurd h (by omega), fun h => by omega⟩)]; simp; done)
            | (refine fin _ _ SR0 ?_; rw [decide_eq_true (show e.OverN cells pair from ⟨fun h => by rw [← hpr, hb40], fun h => by omega⟩)]; simp; done)
            | (refine fin _ _ SR0 ?_; rw [decide_eq_false (show ¬ e.OverN cells pair from fun h => by have := h.2 (by omega); omega)]; simp; done)
            | (refine fin _ _ SR0 ?_; rw [decide_eq_false (show ¬ e.OverN cells pair from fun h => by have := h.1 (by omega); rw [← hpr, hb40] at this; cases this)]; simp; done)
  · first | refine q_move (v := .bool _) rfl rfl ?_ | refine q_move (by conv => lhs; whnf) rfl ?_
    refine QL_off rfl rfl rfl ?_
    refine QL_off rfl rfl rfl ?_
    refine QL_off rfl rfl rfl ?_
    refine QL_off rfl rfl rfl ?_
    refine QL_off rfl rfl rfl ?_
    refine QL_off rfl rfl rfl ?_
    refine QL_off rfl rfl rfl ?_
    refine QL_off rfl rfl rfl ?_
    refine QL_off rfl rfl rfl ?_
    refine QL_off rfl rfl rfl ?_
    refine QL_off rfl rfl rfl ?_
    refine QL_off rfl rfl rfl ?_
    refine QL_off rfl rfl rfl ?_
    refine QL_off rfl rfl rfl ?_
    refine QL_off rfl rfl rfl ?_
    refine QL_off rfl rfl rfl ?_
    refine QL_off rfl rfl rfl ?_
    refine QL_off rfl rfl rfl ?_
    refine QL_off rfl rfl rfl ?_
    refine QL_off rfl rfl rfl ?_
    refine QL_off rfl rfl rfl ?_
    refine QL_off rfl rfl rfl ?_
    refine QL_off rfl rfl rfl ?_
    refine QL_off rfl rfl rfl ?_
    refine QL_off rfl rfl rfl ?_
    refine QL_off rfl rfl rfl ?_
    refine QL_off rfl rfl rfl ?_
    refine QL_off rfl rfl rfl ?_
    refine QL_off rfl rfl rfl ?_
    refine QL_off rfl rfl rfl ?_
    refine QL_off rfl rfl rfl ?_
    refine QL_off rfl rfl rfl ?_
    refine QL_off rfl rfl rfl ?_
    first | refine q_pick rfl (v := .bool _) rfl rfl ?_ | refine q_pick rfl (by conv => lhs; whnf) rfl ?_
    refine QL_nil ?_
    refine BK_of ?_
    refine BKL_nil ?_
    rintro wR0 ⟨SR0, XR0⟩
    refine WL_nil ?_
    refine W_else rfl ?_
    refine W_skip ?_
    refine ret_none rfl ?_
    first
      | (refine fin _ _ SR0 ?_; rw [decide_eq_true (show e.OverN cells pair from ⟨fun h => absurd h (by omega), fun h => by omega⟩)]; simp; done)
      | (refine fin _ _ SR0 ?_; rw [decide_eq_true (show e.OverN cells pair from ⟨fun h => by rw [← hpr, hb40], fun h => by omega⟩)]; simp; done)
      | (refine fin _ _ SR0 ?_; rw [decide_eq_false (show ¬ e.OverN cells pair from fun h => by have := h.2 (by omega); omega)]; simp; done)
      | (refine fin _ _ SR0 ?_; rw [decide_eq_false (show ¬ e.OverN cells pair from fun h => by have := h.1 (by omega); rw [← hpr, hb40] at this; cases this)]; simp; done)

theorem lf_over (cells : List CellD) (pair : Bool) : ∀ (e : E) (s : Bool) (lim : Int), e.good lim = true → e.lf (fun e s => s && decide (e.OverN cells pair)) s = (s && e.over cells pair) := by
  intro e
  induction e using E.induct with
  | _ e ih =>
    intro s lim hg
    rw [E.good_def] at hg
    simp only [Bool.and_eq_true] at hg
    have hsh : e.Shape := of_decide_eq_true hg.1.2
    have hkg : ∀ k ∈ e.kids, k.good (lim - 1) = true := (E.goods_iff _ _).1 hg.2
    have har := Shape_ar hsh
    have har2 := arityL_spec e.op
    have key : ∀ (ks : List E), (∀ k ∈ ks, ∀ (s : Bool) (lim : Int), k.good lim = true → k.lf (fun e s => s && decide (e.OverN cells pair)) s = (s && k.over cells pair)) → (∀ k ∈ ks, k.good (lim - 1) = true) →
        ∀ s : Bool, E.lfs (fun e s => s && decide (e.OverN cells pair)) ks s = (s && E.overs cells pair ks) := by
      intro ks
      induction ks with
      | nil => intro _ _ s; simp [E.lfs, E.overs]
      | cons k ks ih2 =>
        intro h1 h2 s
        simp only [E.lfs, E.overs]
        rw [ih2 (fun k' hk' => h1 k' (by simp [hk'])) (fun k' hk' => h2 k' (by simp [hk'])), h1 k (by simp) _ (lim - 1) (h2 k (by simp)), Bool.and_assoc]
    rw [E.lf_def, key e.kids ih hkg, E.over_def]
    by_cases h0 : e.kids.length = 0
    · rw [if_pos h0, Bool.and_assoc]
    · rw [if_neg h0, decide_eq_true (show e.OverN cells pair by unfold E.OverN; omega)]; simp

theorem valid_e_fn (e : E) (M : List Nat) (w0 : World) (cs : List Value) (vc : Value) (cells : List CellD) (pair : Bool) (hR : RdE M w0 e cs) (hC : RdCs M w0 vc cells) (hK : Masks M w0) :
    Does Tryd.prog 26 #[.agg cs.toArray, vc, .bool pair] w0 fun v w' => v = .bool (e.valid cells pair) ∧ Below w0.heap.size w0 w' := by
  obtain ⟨A, n, c, rfl, o1, o2, o3, hn, hc, hm, hbig, hks⟩ := hR.open_
  obtain ⟨Ac, nc, cc, rfl⟩ := hC.form
  have S := St.refl w0
  refine Does_enter Tryd.func26 rfl Tryd.ntmps26 rfl ?_
  refine W_seq ?_
  refine W_region ?_
  refine o_boxa S (by conv => lhs; whnf) rfl ?_
  intro g3 w3 S3 X3 G3
  refine o_box1 S3 (v := .slice _ _ _) rfl rfl rfl ?_
  intro g4 w4 S4 X4 G4
  refine o_box1 S4 (v := .bool _) rfl rfl rfl ?_
  intro g5 w5 S5 X5 G5
  first | refine o_assign (v := .bool _) rfl rfl ?_ | refine o_assign (by conv => lhs; whnf) rfl ?_
  refine WL_nil ?_
  refine W_seq ?_
  refine W_seq ?_
  refine W_region ?_
  first | refine o_loadN many_25 rfl (S5.cells 0 rfl) rfl rfl ?_ | refine o_loadN many_25 rfl (S5.cells 1 rfl) rfl rfl ?_ | refine o_loadN many_25 rfl (S5.cells 2 rfl) rfl rfl ?_
  refine o_callb S5 has_30 rfl rfl (wellFormed_fn e M _ _ (RdE.keep (S5.keep0 M) _ _ hR) (hK.keep (S5.keep0 M))) (fun h9 w9 S9 X9 => ?_) (fun h9 w9 S9 X9 => ?_)
  · refine o_not rfl rfl ?_
    refine WL_nil ?_
    refine W_else rfl ?_
    refine W_skip ?_
    refine W_seq ?_
    refine W_region ?_
    refine o_alloc S9 zv_4 rfl rfl ?_
    intro g7 w7 S7 X7 G7
    first | refine o_store (kk := 0) S7 sz_4 rfl (by conv => lhs; whnf) rfl rfl (by first | exact Nat.le_of_ble_eq_true rfl | (simp; omega)) ?_ | refine o_store (kk := 1) S7 sz_4 rfl (by conv => lhs; whnf) rfl rfl (by first | exact Nat.le_of_ble_eq_true rfl | (simp; omega)) ?_ | refine o_store (kk := 2) S7 sz_4 rfl (by conv => lhs; whnf) rfl rfl (by first | exact Nat.le_of_ble_eq_true rfl | (simp; omega)) ?_ | refine o_store (kk := 3) S7 sz_4 rfl (by conv => lhs; whnf) rfl rfl (by first | exact Nat.le_of_ble_eq_true rfl | (simp; omega)) ?_
    intro w3_1 S3_1 X3_1
    refine WL_nil ?_
    refine W_seq ?_
    refine W_region ?_
    refine o_makeFunc rfl rfl ?_
    have hM' : ∀ g ∈ [g7] , g ∈ M ∨ w0.heap.size ≤ g := fun g hg => by
      simp at hg; subst hg; right; have := S3_1.new 0 rfl; simp at this; exact this
    have hgood : e.good 40 = true := by unfold E.wf at h9; simp only [Bool.and_eq_true] at h9; exact h9.2
    refine o_call has_39 rfl rfl (leaves_fn [g7] (VInv [g7] g4 g5 g7 (.slice Ac nc cc) cells pair) (fun e s => s && decide (e.OverN cells pair)) _ _ has_40 (fun e s w b o h1 h2 h3 h4 => valid1_fn [g7] g4 g5 g7 _ cells pair (by simp) e s w b o h1 h2 h3 h4) e _ g3 0 true 40
      ⟨by simpa using (S3_1.ne 0 3 rfl rfl (by omega)).symm, _, S3_1.cells 3 rfl, RdE.keep (S3_1.keep0 _) _ _ (RdE.more hM' _ _ hR)⟩
      ⟨by simpa using (S3_1.ne 0 2 rfl rfl (by omega)).symm, by simpa using (S3_1.ne 0 1 rfl rfl (by omega)).symm, S3_1.cell 2 rfl rfl, S3_1.cell 1 rfl rfl, S3_1.blk 0 rfl, (hC.more (by omega) hM').keep (S3_1.keep0 _)⟩ hgood) ?_
    rintro v12 w12 ⟨⟨-, -, -, -, I12, -⟩, B12⟩
    have S12 := S3_1.changed1 0 rfl B12 I12
    rw [lf_over cells pair e true 40 hgood] at S12
    dsimp only [List.set] at S12
    refine WL_nil ?_
    refine W_seq ?_
    refine W_region ?_
    refine o_load one_4 rfl (by first | exact S12.cell 0 rfl rfl | exact S12.cell 1 rfl rfl | exact S12.cell 2 rfl rfl | exact S12.cell 3 rfl rfl) rfl ?_
    first | refine o_assign (v := .bool _) rfl rfl ?_ | refine o_assign (by conv => lhs; whnf) rfl ?_
    refine WL_nil ?_
    refine W_ret ?_
    refine ret_1 rfl (by conv => lhs; whnf) ?_
    refine ⟨congrArg Value.bool ?_, S12.fin⟩
    unfold E.valid
    simp [h9]
  · refine o_not rfl rfl ?_
    refine WL_nil ?_
    refine W_then rfl ?_
    refine W_seq ?_
    refine W_region ?_
    first | refine o_assign (v := .bool _) rfl rfl ?_ | refine o_assign (by conv => lhs; whnf) rfl ?_
    refine WL_nil ?_
    refine W_ret ?_
    refine ret_1 rfl (by conv => lhs; whnf) ?_
    refine ⟨congrArg Value.bool ?_, S9.fin⟩
    unfold E.valid
    simp [h9]
end Go.Proofs.YtinhchacppkmgaaDoor
