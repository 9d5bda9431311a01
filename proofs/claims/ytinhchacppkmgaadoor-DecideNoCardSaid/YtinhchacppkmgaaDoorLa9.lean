/-
  The law DecideNo: what the call returns.
-/
import Derived.Test.YtinhchacppkmgaaDoorNo7
namespace Go.Proofs.YtinhchacppkmgaaDoor
open Go.Fw Go.RowKit

set_option maxHeartbeats 2000000 in
theorem decideNo_fn (c0 : CondD) (cells : List CellD) (w0 : World) (cs : List Value) (vc : Value) (hR : RdCond [] w0 c0 cs) (hC : RdCs [] w0 vc cells) (hK : Masks [] w0) :
    Does Tryd.prog 6 #[vc, .agg cs.toArray] w0 fun v w' => v = .bool true ∧ Below w0.heap.size w0 w' := by
  obtain ⟨Ac, nc, cc, rfl⟩ := hC.form
  obtain ⟨hnc, -⟩ := hC.at
  have hR0 := hR
  obtain ⟨ch, cg, rfl, hh, hg⟩ := hR0
  obtain ⟨A, n0, q, rfl, -⟩ := hh.open_
  obtain ⟨A', n1, q', rfl, -⟩ := hg.open_
  have S := St.refl w0
  simp only [List.cons_append, List.nil_append] at hR ⊢
  refine Does_enter Tryd.func6 rfl Tryd.ntmps6 rfl ?_
  refine W_seq ?_
  refine W_region ?_
  refine o_boxa S (by conv => lhs; whnf) rfl ?_
  intro g3 w3 S3 X3 G3
  first | refine o_assign (v := .bool _) rfl rfl ?_ | refine o_assign (by conv => lhs; whnf) rfl ?_
  refine WL_nil ?_
  refine W_seq ?_
  refine W_region ?_
  refine o_callr S3 has_7 rfl rfl (head_fn _ (hK.keep (S3.keep0 []))) ?_
  intro w13 S13 X13
  first | refine o_assign (v := .bool _) rfl rfl ?_ | refine o_assign (by conv => lhs; whnf) rfl ?_
  refine WL_nil ?_
  refine W_seq ?_
  refine W_seq ?_
  refine W_region ?_
  first | refine o_move (v := .slice _ _ _) rfl rfl ?_ | refine o_move (by conv => lhs; whnf) rfl ?_
  first | refine o_loadN many_27 rfl (S13.cells 0 rfl) rfl rfl ?_ | refine o_loadN many_27 rfl (cs := [_, _, _, _, _, _, _, _, _, _, _, _, _, _]) (S13.cellsAt 0 6 14 rfl) rfl rfl ?_ | refine o_loadN many_27 rfl (cs := [_, _, _, _, _, _, _, _, _, _, _, _, _, _]) (S13.cellsAt 0 10 14 rfl) rfl rfl ?_
  obtain ⟨b16, hb16, hq16⟩ := quick_fn c0 cells [] w13 _ _ (hR.keep (S13.keep0 [])) (hC.keep (S13.keep0 [])) (by simp)
  refine o_callb S13 has_8 rfl rfl (hq16) (fun h16 w16 S16 X16 => ?_) (fun h16 w16 S16 X16 => ?_)
  · refine o_not rfl rfl ?_
    refine WL_nil ?_
    refine W_else rfl ?_
    refine W_skip ?_
    refine W_seq ?_
    refine W_region ?_
    first | refine o_assign (v := .int .i64 _) rfl rfl ?_ | refine o_assign (by conv => lhs; whnf) rfl ?_
    refine WL_nil ?_
    refine W_seq ?_
    refine W_seq ?_
    have hcl : cells.length ≤ 1000 := small_len (hb16 h16)
    have hmg : ∀ g ∈ [g3], g ∈ ([] : List Nat) ∨ w0.heap.size ≤ g := by
      intro g hg; simp at hg; subst hg; right; simpa using S16.new 0 rfl
    have hC' := hC.more (by omega) hmg
    have hK' := hK.more hmg
    have hR' := hR.more hmg
    refine W_region ?_
    first | refine o_assign (v := .int .i64 _) rfl rfl ?_ | refine o_assign (by conv => lhs; whnf) rfl ?_
    refine WL_nil ?_
    refine W_block ?_
    refine W_loop (fun μ D ε w => D = [] ∧ ∃ k : Nat, ∃ c : CondD, ∃ cs : List Value, ∃ last : Int, (k + μ = 4) ∧ (RdCond [g3] w c cs) ∧ (-1 ≤ last ∧ last ≤ 100000) ∧ (c.formed cells = true → ∀ m : Nat, (m : Int) ≤ last → c.hit cells m = false) ∧ (0 < k → c.formed cells = true → c.bits cells ≤ 14) ∧ St [] w0 w [(some g3, 27, cs)] ∧ ε 0 = .slice Ac nc cc ∧ ε 3 = .pointer (some ⟨g3, 0, none⟩) ∧ ε 5 = .bool true ∧ ε 6 = .int .i64 last ∧ ε 7 = .int .i64 k) (μ := 4) ⟨rfl, 0, c0, _, -1, by omega, hR'.keep (S16.keep0 _), by omega, fun _ m hm => absurd hm (by omega), fun h => absurd h (by omega), S16, rfl, rfl, rfl, rfl, rfl⟩ ?_
    rintro μ D ε w ⟨rfl, k, c, cs, last, hk, hr, hl1, hno, hbt, S, e0, e3, e5, e6, e7⟩
    refine W_known 0 e0 ?_
    refine W_known 3 e3 ?_
    refine W_known 5 e5 ?_
    refine W_known 6 e6 ?_
    refine W_known 7 e7 ?_
    clear e0 e3 e5 e6 e7
    obtain ⟨ch, cg, rfl, hh, hg⟩ := id hr
    obtain ⟨A, n0, q, rfl, -⟩ := hh.open_
    obtain ⟨A', n1, q', rfl, -⟩ := hg.open_
    simp only [List.cons_append, List.nil_append] at hr S
    have hM3 : ∀ g ∈ [g3], g < w.heap.size := by intro g hg; simp at hg; subst hg; exact S.lt 0 rfl
    refine W_seq ?_
    refine W_seq ?_
    refine W_region ?_
    first | refine o_move (v := .int .i64 _) rfl rfl ?_ | refine o_move (by conv => lhs; whnf) rfl ?_
    refine o_lss rfl rfl rfl (fun h20 => ?_) (fun h20 => ?_)
    · refine WL_nil ?_
      refine W_then rfl ?_
      refine W_skip ?_
      refine W_seq ?_
      refine W_block ?_
      refine W_seq ?_
      refine W_region ?_
      first | refine o_move (v := .slice _ _ _) rfl rfl ?_ | refine o_move (by conv => lhs; whnf) rfl ?_
      first | refine o_loadN many_27 rfl (S.cells 0 rfl) rfl rfl ?_ | refine o_loadN many_27 rfl (cs := [_, _, _, _, _, _, _, _, _, _, _, _, _, _]) (S.cellsAt 0 6 14 rfl) rfl rfl ?_ | refine o_loadN many_27 rfl (cs := [_, _, _, _, _, _, _, _, _, _, _, _, _, _]) (S.cellsAt 0 10 14 rfl) rfl rfl ?_
      refine o_calln S has_9 rfl rfl (decide_fn c cells [g3] _ _ _ hr (hC'.keep (S.keep0 _)) (hK'.keep (S.keep0 _)) hM3 hcl) ?_
      rintro v26 w26 r26 S26 X26
      replace hh := RdE.keep (X26.of_nil) _ _ hh
      replace hg := RdE.keep (X26.of_nil) _ _ hg
      replace hr := hr.keep (X26.of_nil)
      obtain ⟨x, vo, vn, y, rfl, hy, hd, hx1, hx2, hx012, hx0⟩ := DecRes.verdict r26
      first | refine o_move (v := .tuple _) rfl rfl ?_ | refine o_move (by conv => lhs; whnf) rfl ?_
      refine o_extract rfl rfl rfl ?_
      refine o_extract rfl rfl rfl ?_
      refine o_extract rfl rfl rfl ?_
      refine o_extract rfl rfl rfl ?_
      first | refine o_assign (v := .int .i64 _) rfl rfl ?_ | refine o_assign (by conv => lhs; whnf) rfl ?_
      first | refine o_assign (v := .slice _ _ _) rfl rfl ?_ | refine o_assign (by conv => lhs; whnf) rfl ?_
      first | refine o_assign (v := .slice _ _ _) rfl rfl ?_ | refine o_assign (by conv => lhs; whnf) rfl ?_
      first | refine o_assign (v := .int .i64 _) rfl rfl ?_ | refine o_assign (by conv => lhs; whnf) rfl ?_
      refine WL_nil ?_
      refine W_seq ?_
      refine W_seq ?_
      refine W_region ?_
      first | refine o_move (v := .slice _ _ _) rfl rfl ?_ | refine o_move (by conv => lhs; whnf) rfl ?_
      first | refine o_loadN many_27 rfl (S26.cells 0 rfl) rfl rfl ?_ | refine o_loadN many_27 rfl (cs := [_, _, _, _, _, _, _, _, _, _, _, _, _, _]) (S26.cellsAt 0 6 14 rfl) rfl rfl ?_ | refine o_loadN many_27 rfl (cs := [_, _, _, _, _, _, _, _, _, _, _, _, _, _]) (S26.cellsAt 0 10 14 rfl) rfl rfl ?_
      refine o_callb S26 has_14 rfl rfl (formed20_fn c cells [g3] _ _ _ hr (hC'.keep (S26.keep0 _))) (fun h33 w33 S33 X33 => ?_) (fun h33 w33 S33 X33 => ?_)
      · replace hh := RdE.keep (X33.of_nil) _ _ hh
        replace hg := RdE.keep (X33.of_nil) _ _ hg
        replace hr := hr.keep (X33.of_nil)
        refine o_not rfl rfl ?_
        refine WL_nil ?_
        refine W_else rfl ?_
        refine W_skip ?_
        refine W_seq ?_
        refine W_seq ?_
        refine W_region ?_
        first | refine o_move (v := .int .i64 _) rfl rfl ?_ | refine o_move (by conv => lhs; whnf) rfl ?_
        refine o_neq rfl rfl rfl (fun h45 => ?_) (fun h45 => ?_)
        · refine WL_nil ?_
          refine W_then rfl ?_
          refine W_seq ?_
          have hk1 : 0 < k → x ≠ 0 := fun h0 => hd.2 ⟨h33, hbt h0 h33⟩
          refine W_region ?_
          first | refine o_move (v := .bool _) rfl rfl ?_ | refine o_move (by conv => lhs; whnf) rfl ?_
          first | refine o_move (v := .bool _) rfl rfl ?_ | refine o_move (by conv => lhs; whnf) rfl ?_
          refine WL_on rfl rfl rfl ?_
          first | refine o_move (v := .int .i64 _) rfl rfl ?_ | refine o_move (by conv => lhs; whnf) rfl ?_
          refine WL_on rfl rfl rfl ?_
          refine o_eql rfl rfl rfl (fun h49 => ?_) (fun h49 => ?_)
          · refine WL_on rfl rfl rfl ?_
            first | refine o_move (v := .bool _) rfl rfl ?_ | refine o_move (by conv => lhs; whnf) rfl ?_
            refine WL_off rfl rfl rfl rfl ?_
            refine WL_off rfl rfl rfl rfl ?_
            refine WL_on rfl rfl rfl ?_
            first | refine o_pick rfl (v := .bool _) rfl rfl ?_ | refine o_pick rfl (by conv => lhs; whnf) rfl ?_
            refine WL_on rfl rfl rfl ?_
            first | refine o_move (v := .bool _) rfl rfl ?_ | refine o_move (by conv => lhs; whnf) rfl ?_
            refine WL_off rfl rfl rfl rfl ?_
            refine WL_off rfl rfl rfl rfl ?_
            refine WL_on rfl rfl rfl ?_
            first | refine o_pick rfl (v := .bool _) rfl rfl ?_ | refine o_pick rfl (by conv => lhs; whnf) rfl ?_
            first | refine o_pick rfl (v := .bool _) rfl rfl ?_ | refine o_pick rfl (by conv => lhs; whnf) rfl ?_
            first | refine o_assign (v := .bool _) rfl rfl ?_ | refine o_assign (by conv => lhs; whnf) rfl ?_
            refine WL_nil ?_
            refine W_ret ?_
            refine ret_1 rfl (by conv => lhs; whnf) ?_
            exact ⟨rfl, S33.nil.fin⟩
          · refine WL_on rfl rfl rfl ?_
            first | refine o_move (v := .bool _) rfl rfl ?_ | refine o_move (by conv => lhs; whnf) rfl ?_
            refine WL_on rfl rfl rfl ?_
            first | refine o_move (v := .int .i64 _) rfl rfl ?_ | refine o_move (by conv => lhs; whnf) rfl ?_
            refine WL_on rfl rfl rfl ?_
            refine o_eql rfl rfl rfl (fun h52 => ?_) (fun h52 => ?_)
            · refine WL_on rfl rfl rfl ?_
              first | refine o_pick rfl (v := .bool _) rfl rfl ?_ | refine o_pick rfl (by conv => lhs; whnf) rfl ?_
              refine WL_on rfl rfl rfl ?_
              first | refine o_move (v := .bool _) rfl rfl ?_ | refine o_move (by conv => lhs; whnf) rfl ?_
              refine WL_off rfl rfl rfl rfl ?_
              refine WL_off rfl rfl rfl rfl ?_
              refine WL_on rfl rfl rfl ?_
              first | refine o_pick rfl (v := .bool _) rfl rfl ?_ | refine o_pick rfl (by conv => lhs; whnf) rfl ?_
              first | refine o_pick rfl (v := .bool _) rfl rfl ?_ | refine o_pick rfl (by conv => lhs; whnf) rfl ?_
              first | refine o_assign (v := .bool _) rfl rfl ?_ | refine o_assign (by conv => lhs; whnf) rfl ?_
              refine WL_nil ?_
              refine W_ret ?_
              refine ret_1 rfl (by conv => lhs; whnf) ?_
              exact ⟨rfl, S33.nil.fin⟩
            · exfalso; have := hk1 (by omega); omega
        · refine WL_nil ?_
          refine W_else rfl ?_
          refine W_skip ?_
          refine W_seq ?_
          refine W_seq ?_
          obtain ⟨hdn, hy0, n, hn, hit, hmin, ro, rn⟩ := hx2 (by omega)
          replace ro := ro.keep X33.of_nil
          replace rn := rn.keep X33.of_nil
          obtain ⟨Ao, no, co, rfl⟩ := ro.form
          obtain ⟨An, nn, cn, rfl⟩ := rn.form
          have hno' := ro.at.1
          have hnn' := rn.at.1
          have pl := pair_len cells c n
          obtain ⟨ev1, ev0⟩ := (fals_iff _ _).1 hit
          refine W_region ?_
          first | refine o_move (v := .int .i64 _) rfl rfl ?_ | refine o_move (by conv => lhs; whnf) rfl ?_
          refine o_neq rfl rfl rfl (fun h60 => ?_) (fun h60 => ?_)
          · exfalso; omega
          · first | refine o_move (v := .bool _) rfl rfl ?_ | refine o_move (by conv => lhs; whnf) rfl ?_
            refine WL_on rfl rfl rfl ?_
            first | refine o_move (v := .slice _ _ _) rfl rfl ?_ | refine o_move (by conv => lhs; whnf) rfl ?_
            refine WL_on rfl rfl rfl ?_
            refine o_len slz_28.slT rfl rfl ?_
            refine WL_on rfl rfl rfl ?_
            first | refine o_move (v := .slice _ _ _) rfl rfl ?_ | refine o_move (by conv => lhs; whnf) rfl ?_
            refine WL_on rfl rfl rfl ?_
            refine o_len slz_22.slT rfl rfl ?_
            refine WL_on rfl rfl rfl ?_
            refine o_neq rfl rfl rfl (fun h66 => ?_) (fun h66 => ?_)
            · exfalso; omega
            · first | refine o_pick rfl (v := .bool _) rfl rfl ?_ | refine o_pick rfl (by conv => lhs; whnf) rfl ?_
              first | refine o_move (v := .bool _) rfl rfl ?_ | refine o_move (by conv => lhs; whnf) rfl ?_
              refine WL_on rfl rfl rfl ?_
              first | refine o_move (v := .slice _ _ _) rfl rfl ?_ | refine o_move (by conv => lhs; whnf) rfl ?_
              refine WL_on rfl rfl rfl ?_
              refine o_len slz_28.slT rfl rfl ?_
              refine WL_on rfl rfl rfl ?_
              first | refine o_move (v := .slice _ _ _) rfl rfl ?_ | refine o_move (by conv => lhs; whnf) rfl ?_
              refine WL_on rfl rfl rfl ?_
              refine o_len slz_22.slT rfl rfl ?_
              refine WL_on rfl rfl rfl ?_
              refine o_neq rfl rfl rfl (fun h73 => ?_) (fun h73 => ?_)
              · exfalso; omega
              · first | refine o_pick rfl (v := .bool _) rfl rfl ?_ | refine o_pick rfl (by conv => lhs; whnf) rfl ?_
                first | refine o_move (v := .bool _) rfl rfl ?_ | refine o_move (by conv => lhs; whnf) rfl ?_
                refine WL_on rfl rfl rfl ?_
                refine o_fieldAddr fa_27_6 rfl rfl ?_
                refine WL_on rfl rfl rfl ?_
                first | refine o_loadN many_25 rfl (S33.cells 0 rfl) rfl rfl ?_ | refine o_loadN many_25 rfl (cs := [_, _, _, _]) (S33.cellsAt 0 6 4 rfl) rfl rfl ?_ | refine o_loadN many_25 rfl (cs := [_, _, _, _]) (S33.cellsAt 0 10 4 rfl) rfl rfl ?_
                refine WL_on rfl rfl rfl ?_
                first | refine o_move (v := .slice _ _ _) rfl rfl ?_ | refine o_move (by conv => lhs; whnf) rfl ?_
                refine WL_on rfl rfl rfl ?_
                first | refine o_move (v := .slice _ _ _) rfl rfl ?_ | refine o_move (by conv => lhs; whnf) rfl ?_
                refine WL_on rfl rfl rfl ?_
                refine o_callr S33 has_10 rfl rfl (eval_fn c.hyp [g3] _ _ _ _ (pairAt cells (c.sup 3) (c.sup 2) n).1 (pairAt cells (c.sup 3) (c.sup 2) n).2 hh (hK'.keep (S33.keep0 _)) ro rn) ?_
                intro w80 S80 X80
                replace hh := RdE.keep (X80.of_nil) _ _ hh
                replace hg := RdE.keep (X80.of_nil) _ _ hg
                replace hr := hr.keep (X80.of_nil)
                replace ro := ro.keep (X80.of_nil)
                replace rn := rn.keep (X80.of_nil)
                refine WL_on rfl rfl rfl ?_
                refine o_neq rfl rfl rfl (fun h81 => ?_) (fun h81 => ?_)
                · exfalso; exact h81 ev1
                · first | refine o_pick rfl (v := .bool _) rfl rfl ?_ | refine o_pick rfl (by conv => lhs; whnf) rfl ?_
                  first | refine o_move (v := .bool _) rfl rfl ?_ | refine o_move (by conv => lhs; whnf) rfl ?_
                  refine WL_on rfl rfl rfl ?_
                  refine o_fieldAddr fa_27_7 rfl rfl ?_
                  refine WL_on rfl rfl rfl ?_
                  first | refine o_loadN many_25 rfl (S80.cells 0 rfl) rfl rfl ?_ | refine o_loadN many_25 rfl (cs := [_, _, _, _]) (S80.cellsAt 0 6 4 rfl) rfl rfl ?_ | refine o_loadN many_25 rfl (cs := [_, _, _, _]) (S80.cellsAt 0 10 4 rfl) rfl rfl ?_
                  refine WL_on rfl rfl rfl ?_
                  first | refine o_move (v := .slice _ _ _) rfl rfl ?_ | refine o_move (by conv => lhs; whnf) rfl ?_
                  refine WL_on rfl rfl rfl ?_
                  first | refine o_move (v := .slice _ _ _) rfl rfl ?_ | refine o_move (by conv => lhs; whnf) rfl ?_
                  refine WL_on rfl rfl rfl ?_
                  refine o_callr S80 has_10 rfl rfl (eval_fn c.goal [g3] _ _ _ _ (pairAt cells (c.sup 3) (c.sup 2) n).1 (pairAt cells (c.sup 3) (c.sup 2) n).2 hg (hK'.keep (S80.keep0 _)) ro rn) ?_
                  intro w88 S88 X88
                  replace hh := RdE.keep (X88.of_nil) _ _ hh
                  replace hg := RdE.keep (X88.of_nil) _ _ hg
                  replace hr := hr.keep (X88.of_nil)
                  replace ro := ro.keep (X88.of_nil)
                  replace rn := rn.keep (X88.of_nil)
                  refine WL_on rfl rfl rfl ?_
                  refine o_neq rfl rfl rfl (fun h89 => ?_) (fun h89 => ?_)
                  · exfalso; exact h89 ev0
                  · first | refine o_pick rfl (v := .bool _) rfl rfl ?_ | refine o_pick rfl (by conv => lhs; whnf) rfl ?_
                    refine WL_nil ?_
                    refine W_else rfl ?_
                    refine W_skip ?_
                    refine W_seq ?_
                    refine W_region ?_
                    first | refine o_move (v := .slice _ _ _) rfl rfl ?_ | refine o_move (by conv => lhs; whnf) rfl ?_
                    first | refine o_loadN many_27 rfl (S88.cells 0 rfl) rfl rfl ?_ | refine o_loadN many_27 rfl (cs := [_, _, _, _, _, _, _, _, _, _, _, _, _, _]) (S88.cellsAt 0 6 14 rfl) rfl rfl ?_ | refine o_loadN many_27 rfl (cs := [_, _, _, _, _, _, _, _, _, _, _, _, _, _]) (S88.cellsAt 0 10 14 rfl) rfl rfl ?_
                    first | refine o_move (v := .slice _ _ _) rfl rfl ?_ | refine o_move (by conv => lhs; whnf) rfl ?_
                    first | refine o_move (v := .slice _ _ _) rfl rfl ?_ | refine o_move (by conv => lhs; whnf) rfl ?_
                    refine o_callr S88 has_17 rfl rfl (number_fn c cells n [g3] _ _ _ _ _ hr (hC'.keep (S88.keep0 _)) (by intro g hg; simp at hg; subst hg; exact S88.lt 0 rfl) hdn.1 hdn.2 hn ro rn) ?_
                    intro w95 S95 X95
                    replace hh := RdE.keep (X95.of_nil) _ _ hh
                    replace hg := RdE.keep (X95.of_nil) _ _ hg
                    replace hr := hr.keep (X95.of_nil)
                    replace ro := ro.keep (X95.of_nil)
                    replace rn := rn.keep (X95.of_nil)
                    first | refine o_assign (v := .int .i64 _) rfl rfl ?_ | refine o_assign (by conv => lhs; whnf) rfl ?_
                    refine WL_nil ?_
                    refine W_seq ?_
                    refine W_seq ?_
                    refine W_region ?_
                    first | refine o_move (v := .int .i64 _) rfl rfl ?_ | refine o_move (by conv => lhs; whnf) rfl ?_
                    first | refine o_move (v := .int .i64 _) rfl rfl ?_ | refine o_move (by conv => lhs; whnf) rfl ?_
                    refine o_leq rfl rfl rfl (fun h98 => ?_) (fun h98 => ?_)
                    · exfalso; have hz := hno hdn.1 n h98; rw [hit] at hz; cases hz
                    · refine WL_nil ?_
                      refine W_else rfl ?_
                      refine W_skip ?_
                      refine W_seq ?_
                      refine W_region ?_
                      first | refine o_move (v := .int .i64 _) rfl rfl ?_ | refine o_move (by conv => lhs; whnf) rfl ?_
                      first | refine o_assign (v := .int .i64 _) rfl rfl ?_ | refine o_assign (by conv => lhs; whnf) rfl ?_
                      refine WL_nil ?_
                      refine W_mixS follows_mixed (fun i => [0, 1, 2, 3, 4, 5, 9].contains i) [0, 1, 2, 3, 4, 5, 6, 7, 8, 9] 10 (by kernel_rfl) (by kernel_rfl) (clOf S95) _ rfl ?_
                      have SR19 := S95.drew
                      have XR19 : Keep [] w95 w95.drew := keep_drew _ _
                      generalize w95.drew = wR19 at SR19 XR19 ⊢
                      replace hh := RdE.keep (XR19.of_nil) _ _ hh
                      replace hg := RdE.keep (XR19.of_nil) _ _ hg
                      replace hr := hr.keep (XR19.of_nil)
                      replace ro := ro.keep (XR19.of_nil)
                      replace rn := rn.keep (XR19.of_nil)
                      refine WM_q ⟨SR19, XR19⟩ rfl rfl rfl ?_
                      refine q_fieldAddr fa_27_6 rfl rfl ?_
                      refine QL_nil ?_
                      refine WM_q ⟨SR19, XR19⟩ rfl rfl rfl ?_
                      first | refine q_loadN many_25 rfl (fun w1 hw => hw.1.cells 0 rfl) rfl rfl ?_ | refine q_loadN many_25 rfl (cs := [_, _, _, _]) (fun w1 hw => hw.1.cellsAt 0 6 4 rfl) rfl rfl ?_ | refine q_loadN many_25 rfl (cs := [_, _, _, _]) (fun w1 hw => hw.1.cellsAt 0 10 4 rfl) rfl rfl ?_
                      refine QL_nil ?_
                      refine WM_q ⟨SR19, XR19⟩ rfl rfl rfl ?_
                      first | refine q_move (v := .slice _ _ _) rfl rfl ?_ | refine q_move (by conv => lhs; whnf) rfl ?_
                      refine QL_nil ?_
                      refine WM_q ⟨SR19, XR19⟩ rfl rfl rfl ?_
                      first | refine q_loadN many_27 rfl (fun w1 hw => hw.1.cells 0 rfl) rfl rfl ?_ | refine q_loadN many_27 rfl (cs := [_, _, _, _, _, _, _, _, _, _, _, _, _, _]) (fun w1 hw => hw.1.cellsAt 0 6 14 rfl) rfl rfl ?_ | refine q_loadN many_27 rfl (cs := [_, _, _, _, _, _, _, _, _, _, _, _, _, _]) (fun w1 hw => hw.1.cellsAt 0 10 14 rfl) rfl rfl ?_
                      refine QL_nil ?_
                      refine WM_q ⟨SR19, XR19⟩ rfl rfl rfl ?_
                      first | refine q_move (v := .slice _ _ _) rfl rfl ?_ | refine q_move (by conv => lhs; whnf) rfl ?_
                      refine QL_nil ?_
                      refine WM_q ⟨SR19, XR19⟩ rfl rfl rfl ?_
                      first | refine q_move (v := .slice _ _ _) rfl rfl ?_ | refine q_move (by conv => lhs; whnf) rfl ?_
                      refine QL_nil ?_
                      refine WM_o ⟨SR19, XR19⟩ rfl rfl rfl rfl ?_
                      refine o_calln SR19 has_19 rfl rfl (other_fn c cells n [g3] _ _ _ _ _ hr (hC'.keep (SR19.keep0 _)) (by intro g hg; simp at hg; subst hg; exact SR19.lt 0 rfl) hdn.1 hdn.2 ro rn) ?_
                      rintro v106 w106 ⟨c106, rfl, r106⟩ S106 X106
                      have XCw106 := XR19.trans X106
                      replace hh := RdE.keep (X106.of_nil) _ _ hh
                      replace hg := RdE.keep (X106.of_nil) _ _ hg
                      replace hr := hr.keep (X106.of_nil)
                      replace ro := ro.keep (X106.of_nil)
                      replace rn := rn.keep (X106.of_nil)
                      obtain ⟨A106, n106, q106, rfl, -⟩ := r106.open_
                      refine WL_nil ⟨rfl, ?_⟩
                      refine WM_o ⟨S106, XCw106⟩ rfl rfl rfl rfl ?_
                      refine o_buildSlice S106 slz_23 (vs := [.agg _, .agg _]) (cs := [_, _, _, _, _, _, _, _]) (by rfl) rfl rfl rfl rfl rfl rfl ?_
                      intro g107 w107 S107 X107 G107
                      have XCw107 := XCw106.trans X107
                      replace hh := RdE.keep (X107.of_nil) _ _ hh
                      replace hg := RdE.keep (X107.of_nil) _ _ hg
                      replace r106 := RdE.keep (X107.of_nil) _ _ r106
                      replace hr := hr.keep (X107.of_nil)
                      replace ro := ro.keep (X107.of_nil)
                      replace rn := rn.keep (X107.of_nil)
                      refine WL_nil ⟨rfl, ?_⟩
                      refine WM_o ⟨S107.tail, XCw107⟩ rfl rfl rfl rfl ?_
                      have hL108 : RdL [g3] w107 (.slice (some ⟨g107, 0, none⟩) 2 2) [c.hyp, otherE cells c (pairAt cells (c.sup 3) (c.sup 2) n)] := rdE_two (by decide) (by decide) (fun hm => by simp at hm; exact absurd (ent_get S107.apart (i := 0) (j := 1) rfl rfl rfl (congrArg some hm.symm)) (by decide)) (S107.cells 0 rfl) hh r106
                      have hel108 : ∀ e ∈ [c.hyp, otherE cells c (pairAt cells (c.sup 3) (c.sup 2) n)], e.wf = true ∧ e.w = 1 ∧ (e.op = 1 → e.n = 1) := by
                        intro e he; simp at he
                        rcases he with rfl | rfl
                        · exact ⟨(valid_parts (formed_parts hdn.1).1).1, (formed_parts hdn.1).2.2.1, hit_const hdn.1 hit⟩
                        · exact ⟨other_wf hdn.1 hdn.2 n, rfl, fun h => absurd h (by simp [otherE])⟩
                      refine o_calln S107 has_18 rfl rfl (andX_fn [c.hyp, otherE cells c (pairAt cells (c.sup 3) (c.sup 2) n)] [g3] _ (.slice (some ⟨g107, 0, none⟩) 2 2) hL108 (by intro g hg; simp at hg; subst hg; exact S107.lt 1 rfl) (hK'.keep (S107.keep0 _)) hel108 (by simp) (by simp [List.filter_cons, otherE]; split <;> simp)) ?_
                      rintro v108 w108 ⟨c108, rfl, r108⟩ S108 X108
                      have XCw108 := XCw107.trans X108
                      replace hh := RdE.keep (X108.of_nil) _ _ hh
                      replace hg := RdE.keep (X108.of_nil) _ _ hg
                      replace r106 := RdE.keep (X108.of_nil) _ _ r106
                      replace hr := hr.keep (X108.of_nil)
                      replace ro := ro.keep (X108.of_nil)
                      replace rn := rn.keep (X108.of_nil)
                      obtain ⟨A108, n108, q108, rfl, -⟩ := r108.open_
                      refine WL_nil ⟨rfl, ?_⟩
                      refine WM_q ⟨S108.tail, XCw108⟩ rfl rfl rfl ?_
                      refine q_fieldAddr fa_27_6 rfl rfl ?_
                      refine QL_nil ?_
                      refine WM_nil ⟨S108.tail, XCw108⟩ ?_
                      first | refine o_storeN (kk := 0) (vs := [_, _, _, _]) S108 sz_25 rfl rfl rfl rfl rfl rfl rfl ?_ | refine o_storeN (kk := 1) (vs := [_, _, _, _]) S108 sz_25 rfl rfl rfl rfl rfl rfl rfl ?_
                      intro w19_10 S19_10 X19_10
                      dsimp only [setsAt, List.set] at S19_10
                      replace hh := RdE.keep (X19_10.mono (by simp)) _ _ hh
                      replace hg := RdE.keep (X19_10.mono (by simp)) _ _ hg
                      replace r106 := RdE.keep (X19_10.mono (by simp)) _ _ r106
                      replace r108 := RdE.keep (X19_10.mono (by simp)) _ _ r108
                      replace hr := hr.keep (X19_10.mono (by simp))
                      replace ro := ro.keep (X19_10.mono (by simp))
                      replace rn := rn.keep (X19_10.mono (by simp))
                      refine WL_nil ⟨rfl, ?_⟩
                      refine W_region ?_
                      first | refine o_move (v := .int .i64 _) rfl rfl ?_ | refine o_move (by conv => lhs; whnf) rfl ?_
                      refine o_add rfl rfl (by unfold i64; omega) rfl ?_
                      first | refine o_assign (v := .int .i64 _) rfl rfl ?_ | refine o_assign (by conv => lhs; whnf) rfl ?_
                      refine WL_nil ?_
                      have hd2 : c.bits cells ≤ 14 := hdn.2
                      have hp14 : (2 : Nat) ^ (c.bits cells).toNat ≤ 2 ^ 14 := Nat.pow_le_pow_right (by omega) (by omega)
                      refine ⟨μ - 1, by omega, rfl, k + 1, c.next cells n, _, n, by omega, ⟨_, _, rfl, r108, hg⟩, by omega, fun hf' m hm => ?_, fun _ hf' => by rw [next_bits hdn.1 hf']; exact hdn.2, S19_10.tail, rfl, rfl, rfl, rfl, rfl⟩
                      cases hz : (c.next cells n).hit cells m with
                      | false => rfl
                      | true =>
                        obtain ⟨z1, z2⟩ := next_hit hdn.1 hdn.2 (hit_const hdn.1 hit) hf' m hz
                        have z3 := hmin m (by omega)
                        rw [z1] at z3; exact z3
      · replace hh := RdE.keep (X33.of_nil) _ _ hh
        replace hg := RdE.keep (X33.of_nil) _ _ hg
        replace hr := hr.keep (X33.of_nil)
        refine o_not rfl rfl ?_
        refine WL_nil ?_
        refine W_then rfl ?_
        refine W_seq ?_
        have hx00 : x = 0 := Classical.byContradiction fun h => by have := (hd.1 h).1; rw [h33] at this; cases this
        have hy60 := (hx0 hx00).1 h33
        refine W_region ?_
        first | refine o_move (v := .bool _) rfl rfl ?_ | refine o_move (by conv => lhs; whnf) rfl ?_
        first | refine o_move (v := .bool _) rfl rfl ?_ | refine o_move (by conv => lhs; whnf) rfl ?_
        refine WL_on rfl rfl rfl ?_
        first | refine o_move (v := .int .i64 _) rfl rfl ?_ | refine o_move (by conv => lhs; whnf) rfl ?_
        refine WL_on rfl rfl rfl ?_
        refine o_eql rfl rfl rfl (fun h38 => ?_) (fun h38 => ?_)
        · first | refine o_pick rfl (v := .bool _) rfl rfl ?_ | refine o_pick rfl (by conv => lhs; whnf) rfl ?_
          first | refine o_move (v := .bool _) rfl rfl ?_ | refine o_move (by conv => lhs; whnf) rfl ?_
          refine WL_on rfl rfl rfl ?_
          first | refine o_move (v := .int .i64 _) rfl rfl ?_ | refine o_move (by conv => lhs; whnf) rfl ?_
          refine WL_on rfl rfl rfl ?_
          refine o_eql rfl rfl rfl (fun h42 => ?_) (fun h42 => ?_)
          · first | refine o_pick rfl (v := .bool _) rfl rfl ?_ | refine o_pick rfl (by conv => lhs; whnf) rfl ?_
            first | refine o_assign (v := .bool _) rfl rfl ?_ | refine o_assign (by conv => lhs; whnf) rfl ?_
            refine WL_nil ?_
            refine W_ret ?_
            refine ret_1 rfl (by conv => lhs; whnf) ?_
            exact ⟨rfl, S33.nil.fin⟩
          · exfalso; omega
        · exfalso; omega
    · refine WL_nil ?_
      refine W_else rfl ?_
      refine W_exit ?_
      refine bcons_here ?_
      refine W_seq ?_
      refine W_region ?_
      first | refine o_move (v := .bool _) rfl rfl ?_ | refine o_move (by conv => lhs; whnf) rfl ?_
      first | refine o_assign (v := .bool _) rfl rfl ?_ | refine o_assign (by conv => lhs; whnf) rfl ?_
      refine WL_nil ?_
      refine W_ret ?_
      refine ret_1 rfl (by conv => lhs; whnf) ?_
      exact ⟨rfl, S.nil.fin⟩
  · refine o_not rfl rfl ?_
    refine WL_nil ?_
    refine W_then rfl ?_
    refine W_seq ?_
    refine W_region ?_
    first | refine o_move (v := .bool _) rfl rfl ?_ | refine o_move (by conv => lhs; whnf) rfl ?_
    first | refine o_assign (v := .bool _) rfl rfl ?_ | refine o_assign (by conv => lhs; whnf) rfl ?_
    refine WL_nil ?_
    refine W_ret ?_
    refine ret_1 rfl (by conv => lhs; whnf) ?_
    exact ⟨rfl, S16.nil.fin⟩
end Go.Proofs.YtinhchacppkmgaaDoor
