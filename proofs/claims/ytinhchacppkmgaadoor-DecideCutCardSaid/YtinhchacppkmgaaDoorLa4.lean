/-
  The laws DecideYes and DecideCut: what the calls return.
-/
import Derived.Test.YtinhchacppkmgaaDoorLa3
namespace Go.Proofs.YtinhchacppkmgaaDoor
open Go.Fw Go.RowKit

theorem small_len {cells : List CellD} {c : CondD} (h : c.small cells = true) : cells.length ≤ 1000 := by
  unfold CondD.small at h; simp only [Bool.and_eq_true, decide_eq_true_eq] at h; omega

theorem decideYes_fn (c : CondD) (cells : List CellD) (old now : List Int) (w0 : World) (cs : List Value) (vc vo vn : Value) (hR : RdCond [] w0 c cs) (hC : RdCs [] w0 vc cells) (hO : RdI [] w0 vo old) (hN : RdI [] w0 vn now) (hK : Masks [] w0) :
    Does Tryd.prog 3 #[vc, .agg cs.toArray, vo, vn] w0 fun v w' => v = .bool true ∧ Below w0.heap.size w0 w' := by
  obtain ⟨Ac, nc, cc, rfl⟩ := hC.form
  obtain ⟨Ao, no, co, rfl⟩ := hO.form
  obtain ⟨An, nn, cn, rfl⟩ := hN.form
  have hR0 := hR
  obtain ⟨ch, cg, rfl, hh, hg⟩ := hR0
  obtain ⟨A, n, q, rfl, -⟩ := hh.open_
  obtain ⟨A', n', q', rfl, -⟩ := hg.open_
  have S := St.refl w0
  simp only [List.cons_append, List.nil_append] at hR ⊢
  refine Does_enter Tryd.func3 rfl Tryd.ntmps3 rfl ?_
  refine W_seq ?_
  refine W_region ?_
  refine o_boxa S (by conv => lhs; whnf) rfl ?_
  intro g5 w5 S5 X5 G5
  first | refine o_assign (v := .bool _) rfl rfl ?_ | refine o_assign (by conv => lhs; whnf) rfl ?_
  refine WL_nil ?_
  refine W_seq ?_
  refine W_region ?_
  refine o_callr S5 has_7 rfl rfl (head_fn _ (hK.keep (S5.keep0 []))) ?_
  intro w14 S14 X14
  first | refine o_assign (v := .bool _) rfl rfl ?_ | refine o_assign (by conv => lhs; whnf) rfl ?_
  refine WL_nil ?_
  refine W_seq ?_
  refine W_seq ?_
  refine W_region ?_
  first | refine o_move (v := .slice _ _ _) rfl rfl ?_ | refine o_move (by conv => lhs; whnf) rfl ?_
  first | refine o_loadN many_27 rfl (S14.cells 0 rfl) rfl rfl ?_ | refine o_loadN many_27 rfl (cs := [_, _, _, _, _, _, _, _, _, _, _, _, _, _]) (S14.cellsAt 0 6 14 rfl) rfl rfl ?_ | refine o_loadN many_27 rfl (cs := [_, _, _, _, _, _, _, _, _, _, _, _, _, _]) (S14.cellsAt 0 10 14 rfl) rfl rfl ?_
  obtain ⟨b17, hb17, hq17⟩ := quick_fn c cells [] w14 _ _ (hR.keep (S14.keep0 [])) (hC.keep (S14.keep0 [])) (by simp)
  refine o_callb S14 has_8 rfl rfl (hq17) (fun h17 w17 S17 X17 => ?_) (fun h17 w17 S17 X17 => ?_)
  · refine o_not rfl rfl ?_
    first | refine o_move (v := .bool _) rfl rfl ?_ | refine o_move (by conv => lhs; whnf) rfl ?_
    refine WL_on rfl rfl rfl ?_
    first | refine o_move (v := .slice _ _ _) rfl rfl ?_ | refine o_move (by conv => lhs; whnf) rfl ?_
    refine WL_on rfl rfl rfl ?_
    refine o_len slz_28.slT rfl rfl ?_
    refine WL_on rfl rfl rfl ?_
    refine o_gtr rfl rfl rfl (fun h22 => ?_) (fun h22 => ?_)
    · first | refine o_pick rfl (v := .bool _) rfl rfl ?_ | refine o_pick rfl (by conv => lhs; whnf) rfl ?_
      first | refine o_move (v := .bool _) rfl rfl ?_ | refine o_move (by conv => lhs; whnf) rfl ?_
      refine WL_off rfl rfl rfl rfl ?_
      refine WL_off rfl rfl rfl rfl ?_
      refine WL_off rfl rfl rfl rfl ?_
      first | refine o_pick rfl (v := .bool _) rfl rfl ?_ | refine o_pick rfl (by conv => lhs; whnf) rfl ?_
      refine WL_nil ?_
      refine W_then rfl ?_
      refine W_seq ?_
      refine W_region ?_
      first | refine o_move (v := .bool _) rfl rfl ?_ | refine o_move (by conv => lhs; whnf) rfl ?_
      first | refine o_assign (v := .bool _) rfl rfl ?_ | refine o_assign (by conv => lhs; whnf) rfl ?_
      refine WL_nil ?_
      refine W_ret ?_
      refine ret_1 rfl (by conv => lhs; whnf) ?_
      first
        | exact ⟨rfl, S17.fin⟩
        | (exfalso; have := yes_law (hy.1 (by omega)) old now; omega)
    · first | refine o_pick rfl (v := .bool _) rfl rfl ?_ | refine o_pick rfl (by conv => lhs; whnf) rfl ?_
      first | refine o_move (v := .bool _) rfl rfl ?_ | refine o_move (by conv => lhs; whnf) rfl ?_
      refine WL_on rfl rfl rfl ?_
      first | refine o_move (v := .slice _ _ _) rfl rfl ?_ | refine o_move (by conv => lhs; whnf) rfl ?_
      refine WL_on rfl rfl rfl ?_
      refine o_len slz_28.slT rfl rfl ?_
      refine WL_on rfl rfl rfl ?_
      refine o_gtr rfl rfl rfl (fun h27 => ?_) (fun h27 => ?_)
      · first | refine o_pick rfl (v := .bool _) rfl rfl ?_ | refine o_pick rfl (by conv => lhs; whnf) rfl ?_
        refine WL_nil ?_
        refine W_then rfl ?_
        refine W_seq ?_
        refine W_region ?_
        first | refine o_move (v := .bool _) rfl rfl ?_ | refine o_move (by conv => lhs; whnf) rfl ?_
        first | refine o_assign (v := .bool _) rfl rfl ?_ | refine o_assign (by conv => lhs; whnf) rfl ?_
        refine WL_nil ?_
        refine W_ret ?_
        refine ret_1 rfl (by conv => lhs; whnf) ?_
        first
          | exact ⟨rfl, S17.fin⟩
          | (exfalso; have := yes_law (hy.1 (by omega)) old now; omega)
      · first | refine o_pick rfl (v := .bool _) rfl rfl ?_ | refine o_pick rfl (by conv => lhs; whnf) rfl ?_
        refine WL_nil ?_
        refine W_else rfl ?_
        refine W_skip ?_
        refine W_seq ?_
        refine W_region ?_
        first | refine o_move (v := .slice _ _ _) rfl rfl ?_ | refine o_move (by conv => lhs; whnf) rfl ?_
        first | refine o_loadN many_27 rfl (S17.cells 0 rfl) rfl rfl ?_ | refine o_loadN many_27 rfl (cs := [_, _, _, _, _, _, _, _, _, _, _, _, _, _]) (S17.cellsAt 0 6 14 rfl) rfl rfl ?_ | refine o_loadN many_27 rfl (cs := [_, _, _, _, _, _, _, _, _, _, _, _, _, _]) (S17.cellsAt 0 10 14 rfl) rfl rfl ?_
        refine o_calln S17 has_9 rfl rfl (decide_fn c cells [] _ _ _ (hR.keep (S17.keep0 [])) (hC.keep (S17.keep0 [])) (hK.keep (S17.keep0 [])) (by simp) (small_len (hb17 h17))) ?_
        rintro v33 w33 r33 S33 X33
        obtain ⟨x, vo33, vn33, y, rfl, hy, hd, hx1, -⟩ := DecRes.verdict r33
        first | refine o_move (v := .tuple _) rfl rfl ?_ | refine o_move (by conv => lhs; whnf) rfl ?_
        refine o_extract rfl rfl rfl ?_
        refine o_extract rfl rfl rfl ?_
        refine o_extract rfl rfl rfl ?_
        refine o_extract rfl rfl rfl ?_
        first | refine o_assign (v := .int .i64 _) rfl rfl ?_ | refine o_assign (by conv => lhs; whnf) rfl ?_
        first | refine o_assign (v := .slice _ _ _) rfl rfl ?_ | refine o_assign (by conv => lhs; whnf) rfl ?_
        first | refine o_assign (v := .slice _ _ _) rfl rfl ?_ | refine o_assign (by conv => lhs; whnf) rfl ?_
        first | refine o_assign (v := .int .i64 _) rfl rfl ?_ | refine o_assign (by conv => lhs; whnf) rfl ?_
        refine WL_nil ?_
        refine W_seq ?_
        refine W_seq ?_
        refine W_region ?_
        first | refine o_move (v := .int .i64 _) rfl rfl ?_ | refine o_move (by conv => lhs; whnf) rfl ?_
        refine o_neq rfl rfl rfl (fun h39 => ?_) (fun h39 => ?_)
        · refine WL_nil ?_
          refine W_then rfl ?_
          refine W_seq ?_
          refine W_region ?_
          first | refine o_move (v := .bool _) rfl rfl ?_ | refine o_move (by conv => lhs; whnf) rfl ?_
          first | refine o_assign (v := .bool _) rfl rfl ?_ | refine o_assign (by conv => lhs; whnf) rfl ?_
          refine WL_nil ?_
          refine W_ret ?_
          refine ret_1 rfl (by conv => lhs; whnf) ?_
          first
            | exact ⟨rfl, S33.fin⟩
            | (exfalso; have := yes_law (hy.1 (by omega)) old now; omega)
        · refine WL_nil ?_
          refine W_else rfl ?_
          refine W_skip ?_
          refine W_seq ?_
          refine W_region ?_
          obtain ⟨e1, e2, e3⟩ := hx1 (by omega)
          subst e1 e2 e3
          first | refine o_move (v := .bool _) rfl rfl ?_ | refine o_move (by conv => lhs; whnf) rfl ?_
          first | refine o_move (v := .bool _) rfl rfl ?_ | refine o_move (by conv => lhs; whnf) rfl ?_
          refine WL_on rfl rfl rfl ?_
          first | refine o_move (v := .int .i64 _) rfl rfl ?_ | refine o_move (by conv => lhs; whnf) rfl ?_
          refine WL_on rfl rfl rfl ?_
          refine o_eql rfl rfl rfl (fun h44 => ?_) (fun h44 => ?_)
          · first | refine o_pick rfl (v := .bool _) rfl rfl ?_ | refine o_pick rfl (by conv => lhs; whnf) rfl ?_
            first | refine o_move (v := .bool _) rfl rfl ?_ | refine o_move (by conv => lhs; whnf) rfl ?_
            refine WL_on rfl rfl rfl ?_
            first | refine o_move (v := .slice _ _ _) rfl rfl ?_ | refine o_move (by conv => lhs; whnf) rfl ?_
            refine WL_on rfl rfl rfl ?_
            refine o_len slz_28.slT rfl rfl ?_
            refine WL_on rfl rfl rfl ?_
            refine o_eql rfl rfl rfl (fun h49 => ?_) (fun h49 => ?_)
            · first | refine o_pick rfl (v := .bool _) rfl rfl ?_ | refine o_pick rfl (by conv => lhs; whnf) rfl ?_
              first | refine o_move (v := .bool _) rfl rfl ?_ | refine o_move (by conv => lhs; whnf) rfl ?_
              refine WL_on rfl rfl rfl ?_
              first | refine o_move (v := .slice _ _ _) rfl rfl ?_ | refine o_move (by conv => lhs; whnf) rfl ?_
              refine WL_on rfl rfl rfl ?_
              refine o_len slz_28.slT rfl rfl ?_
              refine WL_on rfl rfl rfl ?_
              refine o_eql rfl rfl rfl (fun h54 => ?_) (fun h54 => ?_)
              · first | refine o_pick rfl (v := .bool _) rfl rfl ?_ | refine o_pick rfl (by conv => lhs; whnf) rfl ?_
                first | refine o_move (v := .bool _) rfl rfl ?_ | refine o_move (by conv => lhs; whnf) rfl ?_
                refine WL_on rfl rfl rfl ?_
                refine o_fieldAddr fa_27_6 rfl rfl ?_
                refine WL_on rfl rfl rfl ?_
                first | refine o_loadN many_25 rfl (S33.cells 0 rfl) rfl rfl ?_ | refine o_loadN many_25 rfl (cs := [_, _, _, _]) (S33.cellsAt 0 6 4 rfl) rfl rfl ?_ | refine o_loadN many_25 rfl (cs := [_, _, _, _]) (S33.cellsAt 0 10 4 rfl) rfl rfl ?_
                refine WL_on rfl rfl rfl ?_
                first | refine o_move (v := .slice _ _ _) rfl rfl ?_ | refine o_move (by conv => lhs; whnf) rfl ?_
                refine WL_on rfl rfl rfl ?_
                first | refine o_move (v := .slice _ _ _) rfl rfl ?_ | refine o_move (by conv => lhs; whnf) rfl ?_
                refine WL_on rfl rfl rfl ?_
                refine o_callr S33 has_10 rfl rfl (eval_fn c.hyp [] _ _ _ _ old now (RdE.keep (S33.keep0 []) _ _ hh) (hK.keep (S33.keep0 [])) (hO.keep (S33.keep0 [])) (hN.keep (S33.keep0 []))) ?_
                intro w61 S61 X61
                refine WL_on rfl rfl rfl ?_
                refine o_eql rfl rfl rfl (fun h62 => ?_) (fun h62 => ?_)
                · refine WL_on rfl rfl rfl ?_
                  first | refine o_move (v := .bool _) rfl rfl ?_ | refine o_move (by conv => lhs; whnf) rfl ?_
                  refine WL_off rfl rfl rfl rfl ?_
                  refine WL_off rfl rfl rfl rfl ?_
                  refine WL_off rfl rfl rfl rfl ?_
                  refine WL_off rfl rfl rfl rfl ?_
                  refine WL_off rfl rfl rfl rfl ?_
                  refine WL_off rfl rfl rfl rfl ?_
                  refine WL_on rfl rfl rfl ?_
                  first | refine o_pick rfl (v := .bool _) rfl rfl ?_ | refine o_pick rfl (by conv => lhs; whnf) rfl ?_
                  first | refine o_pick rfl (v := .bool _) rfl rfl ?_ | refine o_pick rfl (by conv => lhs; whnf) rfl ?_
                  first | refine o_assign (v := .bool _) rfl rfl ?_ | refine o_assign (by conv => lhs; whnf) rfl ?_
                  refine WL_nil ?_
                  refine W_ret ?_
                  refine ret_1 rfl (by conv => lhs; whnf) ?_
                  first
                    | exact ⟨rfl, S61.fin⟩
                    | (exfalso; have := yes_law (hy.1 (by omega)) old now; omega)
                · refine WL_on rfl rfl rfl ?_
                  first | refine o_move (v := .bool _) rfl rfl ?_ | refine o_move (by conv => lhs; whnf) rfl ?_
                  refine WL_on rfl rfl rfl ?_
                  refine o_fieldAddr fa_27_7 rfl rfl ?_
                  refine WL_on rfl rfl rfl ?_
                  first | refine o_loadN many_25 rfl (S61.cells 0 rfl) rfl rfl ?_ | refine o_loadN many_25 rfl (cs := [_, _, _, _]) (S61.cellsAt 0 6 4 rfl) rfl rfl ?_ | refine o_loadN many_25 rfl (cs := [_, _, _, _]) (S61.cellsAt 0 10 4 rfl) rfl rfl ?_
                  refine WL_on rfl rfl rfl ?_
                  first | refine o_move (v := .slice _ _ _) rfl rfl ?_ | refine o_move (by conv => lhs; whnf) rfl ?_
                  refine WL_on rfl rfl rfl ?_
                  first | refine o_move (v := .slice _ _ _) rfl rfl ?_ | refine o_move (by conv => lhs; whnf) rfl ?_
                  refine WL_on rfl rfl rfl ?_
                  refine o_callr S61 has_10 rfl rfl (eval_fn c.goal [] _ _ _ _ old now (RdE.keep (S61.keep0 []) _ _ hg) (hK.keep (S61.keep0 [])) (hO.keep (S61.keep0 [])) (hN.keep (S61.keep0 []))) ?_
                  intro w68 S68 X68
                  refine WL_on rfl rfl rfl ?_
                  refine o_eql rfl rfl rfl (fun h69 => ?_) (fun h69 => ?_)
                  · refine WL_on rfl rfl rfl ?_
                    first | refine o_pick rfl (v := .bool _) rfl rfl ?_ | refine o_pick rfl (by conv => lhs; whnf) rfl ?_
                    first | refine o_pick rfl (v := .bool _) rfl rfl ?_ | refine o_pick rfl (by conv => lhs; whnf) rfl ?_
                    first | refine o_assign (v := .bool _) rfl rfl ?_ | refine o_assign (by conv => lhs; whnf) rfl ?_
                    refine WL_nil ?_
                    refine W_ret ?_
                    refine ret_1 rfl (by conv => lhs; whnf) ?_
                    first
                      | exact ⟨rfl, S68.fin⟩
                      | (exfalso; have := yes_law (hy.1 (by omega)) old now; omega)
                  · refine WL_on rfl rfl rfl ?_
                    first | refine o_pick rfl (v := .bool _) rfl rfl ?_ | refine o_pick rfl (by conv => lhs; whnf) rfl ?_
                    first | refine o_pick rfl (v := .bool _) rfl rfl ?_ | refine o_pick rfl (by conv => lhs; whnf) rfl ?_
                    first | refine o_assign (v := .bool _) rfl rfl ?_ | refine o_assign (by conv => lhs; whnf) rfl ?_
                    refine WL_nil ?_
                    refine W_ret ?_
                    refine ret_1 rfl (by conv => lhs; whnf) ?_
                    first
                      | exact ⟨rfl, S68.fin⟩
                      | (exfalso; have := yes_law (hy.1 (by omega)) old now; omega)
              · exfalso; omega
            · exfalso; omega
          · exfalso; omega
  · refine o_not rfl rfl ?_
    first | refine o_move (v := .bool _) rfl rfl ?_ | refine o_move (by conv => lhs; whnf) rfl ?_
    refine WL_off rfl rfl rfl rfl ?_
    refine WL_off rfl rfl rfl rfl ?_
    refine WL_off rfl rfl rfl rfl ?_
    first | refine o_pick rfl (v := .bool _) rfl rfl ?_ | refine o_pick rfl (by conv => lhs; whnf) rfl ?_
    first | refine o_move (v := .bool _) rfl rfl ?_ | refine o_move (by conv => lhs; whnf) rfl ?_
    refine WL_off rfl rfl rfl rfl ?_
    refine WL_off rfl rfl rfl rfl ?_
    refine WL_off rfl rfl rfl rfl ?_
    first | refine o_pick rfl (v := .bool _) rfl rfl ?_ | refine o_pick rfl (by conv => lhs; whnf) rfl ?_
    refine WL_nil ?_
    refine W_then rfl ?_
    refine W_seq ?_
    refine W_region ?_
    first | refine o_move (v := .bool _) rfl rfl ?_ | refine o_move (by conv => lhs; whnf) rfl ?_
    first | refine o_assign (v := .bool _) rfl rfl ?_ | refine o_assign (by conv => lhs; whnf) rfl ?_
    refine WL_nil ?_
    refine W_ret ?_
    refine ret_1 rfl (by conv => lhs; whnf) ?_
    first
      | exact ⟨rfl, S17.fin⟩
      | (exfalso; have := yes_law (hy.1 (by omega)) old now; omega)

theorem decideCut_fn (a b c : E) (cells : List CellD) (w0 : World) (ca cb cd : List Value) (vc : Value) (ha : RdE [] w0 a ca) (hb : RdE [] w0 b cb) (hc : RdE [] w0 c cd) (hC : RdCs [] w0 vc cells) (hK : Masks [] w0) :
    Does Tryd.prog 5 #[vc, .agg ca.toArray, .agg cb.toArray, .agg cd.toArray] w0 fun v w' => v = .bool true ∧ Below w0.heap.size w0 w' := by
  obtain ⟨Ac, nc, cc, rfl⟩ := hC.form
  obtain ⟨A1, n1, q1, rfl, -⟩ := ha.open_
  obtain ⟨A2, n2, q2, rfl, -⟩ := hb.open_
  obtain ⟨A3, n3, q3, rfl, -⟩ := hc.open_
  have S := St.refl w0
  have ea : ∀ {w1 : World}, Keep [] w0 w1 → RdE [] w1 a _ := fun hk => RdE.keep hk _ _ ha
  have eb : ∀ {w1 : World}, Keep [] w0 w1 → RdE [] w1 b _ := fun hk => RdE.keep hk _ _ hb
  have ec : ∀ {w1 : World}, Keep [] w0 w1 → RdE [] w1 c _ := fun hk => RdE.keep hk _ _ hc
  refine Does_enter Tryd.func5 rfl Tryd.ntmps5 rfl ?_
  refine W_seq ?_
  refine W_region ?_
  refine o_boxa S (by conv => lhs; whnf) rfl ?_
  intro g5 w5 S5 X5 G5
  refine o_boxa S5 (by conv => lhs; whnf) rfl ?_
  intro g6 w6 S6 X6 G6
  refine o_boxa S6 (by conv => lhs; whnf) rfl ?_
  intro g7 w7 S7 X7 G7
  first | refine o_assign (v := .bool _) rfl rfl ?_ | refine o_assign (by conv => lhs; whnf) rfl ?_
  refine WL_nil ?_
  refine W_seq ?_
  refine W_region ?_
  refine o_callr S7 has_7 rfl rfl (head_fn _ (hK.keep (S7.keep0 []))) ?_
  intro w19 S19 X19
  first | refine o_assign (v := .bool _) rfl rfl ?_ | refine o_assign (by conv => lhs; whnf) rfl ?_
  refine WL_nil ?_
  refine W_seq ?_
  refine W_seq ?_
  refine W_region ?_
  first | refine o_move (v := .slice _ _ _) rfl rfl ?_ | refine o_move (by conv => lhs; whnf) rfl ?_
  first | refine o_loadN many_25 rfl (S19.cells 0 rfl) rfl rfl ?_ | refine o_loadN many_25 rfl (S19.cells 1 rfl) rfl rfl ?_ | refine o_loadN many_25 rfl (S19.cells 2 rfl) rfl rfl ?_
  first | refine o_loadN many_25 rfl (S19.cells 0 rfl) rfl rfl ?_ | refine o_loadN many_25 rfl (S19.cells 1 rfl) rfl rfl ?_ | refine o_loadN many_25 rfl (S19.cells 2 rfl) rfl rfl ?_
  refine o_calln S19 has_11 rfl rfl (cond_fn a b _ _ [] _ (ea (S19.keep0 [])) (eb (S19.keep0 []))) ?_
  rintro v23 w23 ⟨c23, rfl, r23⟩ S23 X23
  obtain ⟨b24, hb24, hq24⟩ := quick_fn (mkC a b) cells [] w23 _ _ r23 (hC.keep (S23.keep0 [])) (by simp)
  refine o_callb S23 has_8 rfl rfl (hq24) (fun h24 w24 S24 X24 => ?_) (fun h24 w24 S24 X24 => ?_)
  · refine o_not rfl rfl ?_
    first | refine o_move (v := .bool _) rfl rfl ?_ | refine o_move (by conv => lhs; whnf) rfl ?_
    refine WL_on rfl rfl rfl ?_
    first | refine o_move (v := .slice _ _ _) rfl rfl ?_ | refine o_move (by conv => lhs; whnf) rfl ?_
    refine WL_on rfl rfl rfl ?_
    first | refine o_loadN many_25 rfl (S24.cells 0 rfl) rfl rfl ?_ | refine o_loadN many_25 rfl (S24.cells 1 rfl) rfl rfl ?_ | refine o_loadN many_25 rfl (S24.cells 2 rfl) rfl rfl ?_
    refine WL_on rfl rfl rfl ?_
    first | refine o_loadN many_25 rfl (S24.cells 0 rfl) rfl rfl ?_ | refine o_loadN many_25 rfl (S24.cells 1 rfl) rfl rfl ?_ | refine o_loadN many_25 rfl (S24.cells 2 rfl) rfl rfl ?_
    refine WL_on rfl rfl rfl ?_
    refine o_calln S24 has_11 rfl rfl (cond_fn b c _ _ [] _ (eb (S24.keep0 [])) (ec (S24.keep0 []))) ?_
    rintro v30 w30 ⟨c30, rfl, r30⟩ S30 X30
    refine WL_on rfl rfl rfl ?_
    obtain ⟨b31, hb31, hq31⟩ := quick_fn (mkC b c) cells [] w30 _ _ r30 (hC.keep (S30.keep0 [])) (by simp)
    refine o_callb S30 has_8 rfl rfl (hq31) (fun h31 w31 S31 X31 => ?_) (fun h31 w31 S31 X31 => ?_)
    · refine WL_on rfl rfl rfl ?_
      refine o_not rfl rfl ?_
      first | refine o_pick rfl (v := .bool _) rfl rfl ?_ | refine o_pick rfl (by conv => lhs; whnf) rfl ?_
      first | refine o_move (v := .bool _) rfl rfl ?_ | refine o_move (by conv => lhs; whnf) rfl ?_
      refine WL_on rfl rfl rfl ?_
      first | refine o_move (v := .slice _ _ _) rfl rfl ?_ | refine o_move (by conv => lhs; whnf) rfl ?_
      refine WL_on rfl rfl rfl ?_
      first | refine o_loadN many_25 rfl (S31.cells 0 rfl) rfl rfl ?_ | refine o_loadN many_25 rfl (S31.cells 1 rfl) rfl rfl ?_ | refine o_loadN many_25 rfl (S31.cells 2 rfl) rfl rfl ?_
      refine WL_on rfl rfl rfl ?_
      first | refine o_loadN many_25 rfl (S31.cells 0 rfl) rfl rfl ?_ | refine o_loadN many_25 rfl (S31.cells 1 rfl) rfl rfl ?_ | refine o_loadN many_25 rfl (S31.cells 2 rfl) rfl rfl ?_
      refine WL_on rfl rfl rfl ?_
      refine o_calln S31 has_11 rfl rfl (cond_fn a c _ _ [] _ (ea (S31.keep0 [])) (ec (S31.keep0 []))) ?_
      rintro v38 w38 ⟨c38, rfl, r38⟩ S38 X38
      refine WL_on rfl rfl rfl ?_
      obtain ⟨b39, hb39, hq39⟩ := quick_fn (mkC a c) cells [] w38 _ _ r38 (hC.keep (S38.keep0 [])) (by simp)
      refine o_callb S38 has_8 rfl rfl (hq39) (fun h39 w39 S39 X39 => ?_) (fun h39 w39 S39 X39 => ?_)
      · refine WL_on rfl rfl rfl ?_
        refine o_not rfl rfl ?_
        first | refine o_pick rfl (v := .bool _) rfl rfl ?_ | refine o_pick rfl (by conv => lhs; whnf) rfl ?_
        refine WL_nil ?_
        refine W_else rfl ?_
        refine W_skip ?_
        refine W_seq ?_
        refine W_region ?_
        first | refine o_move (v := .slice _ _ _) rfl rfl ?_ | refine o_move (by conv => lhs; whnf) rfl ?_
        first | refine o_loadN many_25 rfl (S39.cells 0 rfl) rfl rfl ?_ | refine o_loadN many_25 rfl (S39.cells 1 rfl) rfl rfl ?_ | refine o_loadN many_25 rfl (S39.cells 2 rfl) rfl rfl ?_
        first | refine o_loadN many_25 rfl (S39.cells 0 rfl) rfl rfl ?_ | refine o_loadN many_25 rfl (S39.cells 1 rfl) rfl rfl ?_ | refine o_loadN many_25 rfl (S39.cells 2 rfl) rfl rfl ?_
        refine o_calln S39 has_15 rfl rfl (holds_fn a b _ _ cells _ [] _ (ea (S39.keep0 [])) (eb (S39.keep0 [])) (hC.keep (S39.keep0 [])) (hK.keep (S39.keep0 [])) (by simp) (small_len (hb24 h24))) ?_
        rintro v47 w47 ⟨y47, d47, rfl, hy47, hd47⟩ S47 X47
        first | refine o_move (v := .tuple _) rfl rfl ?_ | refine o_move (by conv => lhs; whnf) rfl ?_
        refine o_extract rfl rfl rfl ?_
        refine o_extract rfl rfl rfl ?_
        first | refine o_assign (v := .bool _) rfl rfl ?_ | refine o_assign (by conv => lhs; whnf) rfl ?_
        first | refine o_assign (v := .bool _) rfl rfl ?_ | refine o_assign (by conv => lhs; whnf) rfl ?_
        refine WL_nil ?_
        refine W_seq ?_
        refine W_region ?_
        first | refine o_move (v := .slice _ _ _) rfl rfl ?_ | refine o_move (by conv => lhs; whnf) rfl ?_
        first | refine o_loadN many_25 rfl (S47.cells 0 rfl) rfl rfl ?_ | refine o_loadN many_25 rfl (S47.cells 1 rfl) rfl rfl ?_ | refine o_loadN many_25 rfl (S47.cells 2 rfl) rfl rfl ?_
        first | refine o_loadN many_25 rfl (S47.cells 0 rfl) rfl rfl ?_ | refine o_loadN many_25 rfl (S47.cells 1 rfl) rfl rfl ?_ | refine o_loadN many_25 rfl (S47.cells 2 rfl) rfl rfl ?_
        refine o_calln S47 has_15 rfl rfl (holds_fn b c _ _ cells _ [] _ (eb (S47.keep0 [])) (ec (S47.keep0 [])) (hC.keep (S47.keep0 [])) (hK.keep (S47.keep0 [])) (by simp) (small_len (hb24 h24))) ?_
        rintro v54 w54 ⟨y54, d54, rfl, hy54, hd54⟩ S54 X54
        first | refine o_move (v := .tuple _) rfl rfl ?_ | refine o_move (by conv => lhs; whnf) rfl ?_
        refine o_extract rfl rfl rfl ?_
        refine o_extract rfl rfl rfl ?_
        first | refine o_assign (v := .bool _) rfl rfl ?_ | refine o_assign (by conv => lhs; whnf) rfl ?_
        first | refine o_assign (v := .bool _) rfl rfl ?_ | refine o_assign (by conv => lhs; whnf) rfl ?_
        refine WL_nil ?_
        refine W_seq ?_
        refine W_region ?_
        first | refine o_move (v := .slice _ _ _) rfl rfl ?_ | refine o_move (by conv => lhs; whnf) rfl ?_
        first | refine o_loadN many_25 rfl (S54.cells 0 rfl) rfl rfl ?_ | refine o_loadN many_25 rfl (S54.cells 1 rfl) rfl rfl ?_ | refine o_loadN many_25 rfl (S54.cells 2 rfl) rfl rfl ?_
        first | refine o_loadN many_25 rfl (S54.cells 0 rfl) rfl rfl ?_ | refine o_loadN many_25 rfl (S54.cells 1 rfl) rfl rfl ?_ | refine o_loadN many_25 rfl (S54.cells 2 rfl) rfl rfl ?_
        refine o_calln S54 has_15 rfl rfl (holds_fn a c _ _ cells _ [] _ (ea (S54.keep0 [])) (ec (S54.keep0 [])) (hC.keep (S54.keep0 [])) (hK.keep (S54.keep0 [])) (by simp) (small_len (hb24 h24))) ?_
        rintro v61 w61 ⟨y61, d61, rfl, hy61, hd61⟩ S61 X61
        first | refine o_move (v := .tuple _) rfl rfl ?_ | refine o_move (by conv => lhs; whnf) rfl ?_
        refine o_extract rfl rfl rfl ?_
        refine o_extract rfl rfl rfl ?_
        first | refine o_assign (v := .bool _) rfl rfl ?_ | refine o_assign (by conv => lhs; whnf) rfl ?_
        first | refine o_assign (v := .bool _) rfl rfl ?_ | refine o_assign (by conv => lhs; whnf) rfl ?_
        refine WL_nil ?_
        refine W_seq ?_
        refine W_seq ?_
        refine W_region ?_
        cases hb64 : y47
        · first | refine o_move (v := .bool _) rfl rfl ?_ | refine o_move (by conv => lhs; whnf) rfl ?_
          first | refine o_move (v := .bool _) rfl rfl ?_ | refine o_move (by conv => lhs; whnf) rfl ?_
          refine WL_off rfl rfl rfl rfl ?_
          first | refine o_pick rfl (v := .bool _) rfl rfl ?_ | refine o_pick rfl (by conv => lhs; whnf) rfl ?_
          first | refine o_move (v := .bool _) rfl rfl ?_ | refine o_move (by conv => lhs; whnf) rfl ?_
          refine WL_off rfl rfl rfl rfl ?_
          first | refine o_pick rfl (v := .bool _) rfl rfl ?_ | refine o_pick rfl (by conv => lhs; whnf) rfl ?_
          first | refine o_move (v := .bool _) rfl rfl ?_ | refine o_move (by conv => lhs; whnf) rfl ?_
          refine WL_off rfl rfl rfl rfl ?_
          refine WL_off rfl rfl rfl rfl ?_
          first | refine o_pick rfl (v := .bool _) rfl rfl ?_ | refine o_pick rfl (by conv => lhs; whnf) rfl ?_
          refine WL_nil ?_
          refine W_else rfl ?_
          refine W_skip ?_
          refine W_seq ?_
          refine W_region ?_
          first | refine o_move (v := .slice _ _ _) rfl rfl ?_ | refine o_move (by conv => lhs; whnf) rfl ?_
          first | refine o_loadN many_25 rfl (S61.cells 0 rfl) rfl rfl ?_ | refine o_loadN many_25 rfl (S61.cells 1 rfl) rfl rfl ?_ | refine o_loadN many_25 rfl (S61.cells 2 rfl) rfl rfl ?_
          first | refine o_loadN many_25 rfl (S61.cells 0 rfl) rfl rfl ?_ | refine o_loadN many_25 rfl (S61.cells 1 rfl) rfl rfl ?_ | refine o_loadN many_25 rfl (S61.cells 2 rfl) rfl rfl ?_
          refine o_calln S61 has_15 rfl rfl (holds_fn a a _ _ cells _ [] _ (ea (S61.keep0 [])) (ea (S61.keep0 [])) (hC.keep (S61.keep0 [])) (hK.keep (S61.keep0 [])) (by simp) (small_len (hb24 h24))) ?_
          rintro v79 w79 ⟨y79, d79, rfl, hy79, hd79⟩ S79 X79
          first | refine o_move (v := .tuple _) rfl rfl ?_ | refine o_move (by conv => lhs; whnf) rfl ?_
          refine o_extract rfl rfl rfl ?_
          refine o_extract rfl rfl rfl ?_
          first | refine o_assign (v := .bool _) rfl rfl ?_ | refine o_assign (by conv => lhs; whnf) rfl ?_
          first | refine o_assign (v := .bool _) rfl rfl ?_ | refine o_assign (by conv => lhs; whnf) rfl ?_
          refine WL_nil ?_
          refine W_seq ?_
          refine W_mix follows_mixed (fun i => [0, 2, 4, 5, 6, 7, 8].contains i) [0, 1, 2, 3, 4, 5, 6, 7, 8] (by kernel_rfl) (by kernel_rfl) (Cl _ _ _ _) (Cl.start S79) ?_
          rintro wR10 ⟨SR10, XR10⟩
          refine WM_q ⟨SR10, XR10⟩ rfl rfl rfl ?_
          first | refine q_move (v := .slice _ _ _) rfl rfl ?_ | refine q_move (by conv => lhs; whnf) rfl ?_
          refine QL_nil ?_
          refine WM_o ⟨SR10, XR10⟩ rfl rfl rfl rfl ?_
          refine o_calln SR10 has_16 rfl rfl (const_fn 0 1 (by decide) (by decide) [] _) ?_
          rintro v84 w84 ⟨c84, rfl, r84⟩ S84 X84
          have XCw84 := XR10.trans X84
          refine WL_nil ⟨rfl, ?_⟩
          refine WM_q ⟨S84, XCw84⟩ rfl rfl rfl ?_
          first | refine q_loadN many_25 rfl (fun w1 hw => hw.1.cells 0 rfl) rfl rfl ?_ | refine q_loadN many_25 rfl (fun w1 hw => hw.1.cells 1 rfl) rfl rfl ?_ | refine q_loadN many_25 rfl (fun w1 hw => hw.1.cells 2 rfl) rfl rfl ?_
          refine QL_nil ?_
          refine WM_o ⟨S84, XCw84⟩ rfl rfl rfl rfl ?_
          refine o_calln S84 has_15 rfl rfl (holds_fn ⟨1, 1, 0, []⟩ a _ _ cells _ [] _ r84 (ea (S84.keep0 [])) (hC.keep (S84.keep0 [])) (hK.keep (S84.keep0 [])) (by simp) (small_len (hb24 h24))) ?_
          rintro v86 w86 ⟨y86, d86, rfl, hy86, hd86⟩ S86 X86
          have XCw86 := XCw84.trans X86
          refine WL_nil ⟨rfl, ?_⟩
          refine WM_q ⟨S86, XCw86⟩ rfl rfl rfl ?_
          first | refine q_move (v := .tuple _) rfl rfl ?_ | refine q_move (by conv => lhs; whnf) rfl ?_
          refine QL_nil ?_
          refine WM_q ⟨S86, XCw86⟩ rfl rfl rfl ?_
          refine q_extract rfl rfl rfl ?_
          refine QL_nil ?_
          refine WM_q ⟨S86, XCw86⟩ rfl rfl rfl ?_
          refine q_extract rfl rfl rfl ?_
          refine QL_nil ?_
          refine WM_q ⟨S86, XCw86⟩ rfl rfl rfl ?_
          first | refine q_assign (v := .bool _) rfl rfl ?_ | refine q_assign (by conv => lhs; whnf) rfl ?_
          refine QL_nil ?_
          refine WM_q ⟨S86, XCw86⟩ rfl rfl rfl ?_
          first | refine q_assign (v := .bool _) rfl rfl ?_ | refine q_assign (by conv => lhs; whnf) rfl ?_
          refine QL_nil ?_
          refine WM_nil ⟨S86, XCw86⟩ ?_
          refine W_seq ?_
          refine W_region ?_
          first | refine o_move (v := .bool _) rfl rfl ?_ | refine o_move (by conv => lhs; whnf) rfl ?_
          first | refine o_move (v := .bool _) rfl rfl ?_ | refine o_move (by conv => lhs; whnf) rfl ?_
          refine WL_on rfl rfl rfl ?_
          cases hb91 : d79
          · first | refine o_move (v := .bool _) rfl rfl ?_ | refine o_move (by conv => lhs; whnf) rfl ?_
            refine WL_on rfl rfl rfl ?_
            refine o_not rfl rfl ?_
            refine WL_on rfl rfl rfl ?_
            first | refine o_move (v := .bool _) rfl rfl ?_ | refine o_move (by conv => lhs; whnf) rfl ?_
            refine WL_off rfl rfl rfl rfl ?_
            refine WL_on rfl rfl rfl ?_
            first | refine o_pick rfl (v := .bool _) rfl rfl ?_ | refine o_pick rfl (by conv => lhs; whnf) rfl ?_
            first | refine o_pick rfl (v := .bool _) rfl rfl ?_ | refine o_pick rfl (by conv => lhs; whnf) rfl ?_
            first | refine o_move (v := .bool _) rfl rfl ?_ | refine o_move (by conv => lhs; whnf) rfl ?_
            refine WL_on rfl rfl rfl ?_
            cases hb98 : d86
            · first | refine o_move (v := .bool _) rfl rfl ?_ | refine o_move (by conv => lhs; whnf) rfl ?_
              refine WL_on rfl rfl rfl ?_
              refine o_not rfl rfl ?_
              refine WL_on rfl rfl rfl ?_
              first | refine o_move (v := .bool _) rfl rfl ?_ | refine o_move (by conv => lhs; whnf) rfl ?_
              refine WL_off rfl rfl rfl rfl ?_
              refine WL_on rfl rfl rfl ?_
              first | refine o_pick rfl (v := .bool _) rfl rfl ?_ | refine o_pick rfl (by conv => lhs; whnf) rfl ?_
              first | refine o_pick rfl (v := .bool _) rfl rfl ?_ | refine o_pick rfl (by conv => lhs; whnf) rfl ?_
              first | refine o_assign (v := .bool _) rfl rfl ?_ | refine o_assign (by conv => lhs; whnf) rfl ?_
              refine WL_nil ?_
              refine W_ret ?_
              refine ret_1 rfl (by conv => lhs; whnf) ?_
              first
                | exact ⟨rfl, S86.fin⟩
                | (exfalso; have hh := hy61.2 (cut_law (hy47.1 hb64) (hy54.1 hb66) (hd61.1 hb69)); rw [hh] at hb72; cases hb72; done)
                | (exfalso; have hh := hy79.2 (self_law (hd79.1 hb91)); rw [hh] at hb94; cases hb94; done)
                | (exfalso; have hh := hy86.2 (zero_law (hd86.1 hb98)); rw [hh] at hb101; cases hb101; done)
            · first | refine o_move (v := .bool _) rfl rfl ?_ | refine o_move (by conv => lhs; whnf) rfl ?_
              refine WL_on rfl rfl rfl ?_
              refine o_not rfl rfl ?_
              refine WL_on rfl rfl rfl ?_
              first | refine o_move (v := .bool _) rfl rfl ?_ | refine o_move (by conv => lhs; whnf) rfl ?_
              refine WL_on rfl rfl rfl ?_
              cases hb101 : y86
              · first | refine o_move (v := .bool _) rfl rfl ?_ | refine o_move (by conv => lhs; whnf) rfl ?_
                refine WL_on rfl rfl rfl ?_
                first | refine o_pick rfl (v := .bool _) rfl rfl ?_ | refine o_pick rfl (by conv => lhs; whnf) rfl ?_
                first | refine o_pick rfl (v := .bool _) rfl rfl ?_ | refine o_pick rfl (by conv => lhs; whnf) rfl ?_
                first | refine o_assign (v := .bool _) rfl rfl ?_ | refine o_assign (by conv => lhs; whnf) rfl ?_
                refine WL_nil ?_
                refine W_ret ?_
                refine ret_1 rfl (by conv => lhs; whnf) ?_
                first
                  | exact ⟨rfl, S86.fin⟩
                  | (exfalso; have hh := hy61.2 (cut_law (hy47.1 hb64) (hy54.1 hb66) (hd61.1 hb69)); rw [hh] at hb72; cases hb72; done)
                  | (exfalso; have hh := hy79.2 (self_law (hd79.1 hb91)); rw [hh] at hb94; cases hb94; done)
                  | (exfalso; have hh := hy86.2 (zero_law (hd86.1 hb98)); rw [hh] at hb101; cases hb101; done)
              · first | refine o_move (v := .bool _) rfl rfl ?_ | refine o_move (by conv => lhs; whnf) rfl ?_
                refine WL_on rfl rfl rfl ?_
                first | refine o_pick rfl (v := .bool _) rfl rfl ?_ | refine o_pick rfl (by conv => lhs; whnf) rfl ?_
                first | refine o_pick rfl (v := .bool _) rfl rfl ?_ | refine o_pick rfl (by conv => lhs; whnf) rfl ?_
                first | refine o_assign (v := .bool _) rfl rfl ?_ | refine o_assign (by conv => lhs; whnf) rfl ?_
                refine WL_nil ?_
                refine W_ret ?_
                refine ret_1 rfl (by conv => lhs; whnf) ?_
                first
                  | exact ⟨rfl, S86.fin⟩
                  | (exfalso; have hh := hy61.2 (cut_law (hy47.1 hb64) (hy54.1 hb66) (hd61.1 hb69)); rw [hh] at hb72; cases hb72; done)
                  | (exfalso; have hh := hy79.2 (self_law (hd79.1 hb91)); rw [hh] at hb94; cases hb94; done)
                  | (exfalso; have hh := hy86.2 (zero_law (hd86.1 hb98)); rw [hh] at hb101; cases hb101; done)
          · first | refine o_move (v := .bool _) rfl rfl ?_ | refine o_move (by conv => lhs; whnf) rfl ?_
            refine WL_on rfl rfl rfl ?_
            refine o_not rfl rfl ?_
            refine WL_on rfl rfl rfl ?_
            first | refine o_move (v := .bool _) rfl rfl ?_ | refine o_move (by conv => lhs; whnf) rfl ?_
            refine WL_on rfl rfl rfl ?_
            cases hb94 : y79
            · first | refine o_move (v := .bool _) rfl rfl ?_ | refine o_move (by conv => lhs; whnf) rfl ?_
              refine WL_on rfl rfl rfl ?_
              first | refine o_pick rfl (v := .bool _) rfl rfl ?_ | refine o_pick rfl (by conv => lhs; whnf) rfl ?_
              first | refine o_pick rfl (v := .bool _) rfl rfl ?_ | refine o_pick rfl (by conv => lhs; whnf) rfl ?_
              first | refine o_move (v := .bool _) rfl rfl ?_ | refine o_move (by conv => lhs; whnf) rfl ?_
              refine WL_off rfl rfl rfl rfl ?_
              refine WL_off rfl rfl rfl rfl ?_
              refine WL_off rfl rfl rfl rfl ?_
              refine WL_off rfl rfl rfl rfl ?_
              refine WL_off rfl rfl rfl rfl ?_
              first | refine o_pick rfl (v := .bool _) rfl rfl ?_ | refine o_pick rfl (by conv => lhs; whnf) rfl ?_
              first | refine o_assign (v := .bool _) rfl rfl ?_ | refine o_assign (by conv => lhs; whnf) rfl ?_
              refine WL_nil ?_
              refine W_ret ?_
              refine ret_1 rfl (by conv => lhs; whnf) ?_
              first
                | exact ⟨rfl, S86.fin⟩
                | (exfalso; have hh := hy61.2 (cut_law (hy47.1 hb64) (hy54.1 hb66) (hd61.1 hb69)); rw [hh] at hb72; cases hb72; done)
                | (exfalso; have hh := hy79.2 (self_law (hd79.1 hb91)); rw [hh] at hb94; cases hb94; done)
                | (exfalso; have hh := hy86.2 (zero_law (hd86.1 hb98)); rw [hh] at hb101; cases hb101; done)
            · first | refine o_move (v := .bool _) rfl rfl ?_ | refine o_move (by conv => lhs; whnf) rfl ?_
              refine WL_on rfl rfl rfl ?_
              first | refine o_pick rfl (v := .bool _) rfl rfl ?_ | refine o_pick rfl (by conv => lhs; whnf) rfl ?_
              first | refine o_pick rfl (v := .bool _) rfl rfl ?_ | refine o_pick rfl (by conv => lhs; whnf) rfl ?_
              first | refine o_move (v := .bool _) rfl rfl ?_ | refine o_move (by conv => lhs; whnf) rfl ?_
              refine WL_on rfl rfl rfl ?_
              cases hb98 : d86
              · first | refine o_move (v := .bool _) rfl rfl ?_ | refine o_move (by conv => lhs; whnf) rfl ?_
                refine WL_on rfl rfl rfl ?_
                refine o_not rfl rfl ?_
                refine WL_on rfl rfl rfl ?_
                first | refine o_move (v := .bool _) rfl rfl ?_ | refine o_move (by conv => lhs; whnf) rfl ?_
                refine WL_off rfl rfl rfl rfl ?_
                refine WL_on rfl rfl rfl ?_
                first | refine o_pick rfl (v := .bool _) rfl rfl ?_ | refine o_pick rfl (by conv => lhs; whnf) rfl ?_
                first | refine o_pick rfl (v := .bool _) rfl rfl ?_ | refine o_pick rfl (by conv => lhs; whnf) rfl ?_
                first | refine o_assign (v := .bool _) rfl rfl ?_ | refine o_assign (by conv => lhs; whnf) rfl ?_
                refine WL_nil ?_
                refine W_ret ?_
                refine ret_1 rfl (by conv => lhs; whnf) ?_
                first
                  | exact ⟨rfl, S86.fin⟩
                  | (exfalso; have hh := hy61.2 (cut_law (hy47.1 hb64) (hy54.1 hb66) (hd61.1 hb69)); rw [hh] at hb72; cases hb72; done)
                  | (exfalso; have hh := hy79.2 (self_law (hd79.1 hb91)); rw [hh] at hb94; cases hb94; done)
                  | (exfalso; have hh := hy86.2 (zero_law (hd86.1 hb98)); rw [hh] at hb101; cases hb101; done)
              · first | refine o_move (v := .bool _) rfl rfl ?_ | refine o_move (by conv => lhs; whnf) rfl ?_
                refine WL_on rfl rfl rfl ?_
                refine o_not rfl rfl ?_
                refine WL_on rfl rfl rfl ?_
                first | refine o_move (v := .bool _) rfl rfl ?_ | refine o_move (by conv => lhs; whnf) rfl ?_
                refine WL_on rfl rfl rfl ?_
                cases hb101 : y86
                · first | refine o_move (v := .bool _) rfl rfl ?_ | refine o_move (by conv => lhs; whnf) rfl ?_
                  refine WL_on rfl rfl rfl ?_
                  first | refine o_pick rfl (v := .bool _) rfl rfl ?_ | refine o_pick rfl (by conv => lhs; whnf) rfl ?_
                  first | refine o_pick rfl (v := .bool _) rfl rfl ?_ | refine o_pick rfl (by conv => lhs; whnf) rfl ?_
                  first | refine o_assign (v := .bool _) rfl rfl ?_ | refine o_assign (by conv => lhs; whnf) rfl ?_
                  refine WL_nil ?_
                  refine W_ret ?_
                  refine ret_1 rfl (by conv => lhs; whnf) ?_
                  first
                    | exact ⟨rfl, S86.fin⟩
                    | (exfalso; have hh := hy61.2 (cut_law (hy47.1 hb64) (hy54.1 hb66) (hd61.1 hb69)); rw [hh] at hb72; cases hb72; done)
                    | (exfalso; have hh := hy79.2 (self_law (hd79.1 hb91)); rw [hh] at hb94; cases hb94; done)
                    | (exfalso; have hh := hy86.2 (zero_law (hd86.1 hb98)); rw [hh] at hb101; cases hb101; done)
                · first | refine o_move (v := .bool _) rfl rfl ?_ | refine o_move (by conv => lhs; whnf) rfl ?_
                  refine WL_on rfl rfl rfl ?_
                  first | refine o_pick rfl (v := .bool _) rfl rfl ?_ | refine o_pick rfl (by conv => lhs; whnf) rfl ?_
                  first | refine o_pick rfl (v := .bool _) rfl rfl ?_ | refine o_pick rfl (by conv => lhs; whnf) rfl ?_
                  first | refine o_assign (v := .bool _) rfl rfl ?_ | refine o_assign (by conv => lhs; whnf) rfl ?_
                  refine WL_nil ?_
                  refine W_ret ?_
                  refine ret_1 rfl (by conv => lhs; whnf) ?_
                  first
                    | exact ⟨rfl, S86.fin⟩
                    | (exfalso; have hh := hy61.2 (cut_law (hy47.1 hb64) (hy54.1 hb66) (hd61.1 hb69)); rw [hh] at hb72; cases hb72; done)
                    | (exfalso; have hh := hy79.2 (self_law (hd79.1 hb91)); rw [hh] at hb94; cases hb94; done)
                    | (exfalso; have hh := hy86.2 (zero_law (hd86.1 hb98)); rw [hh] at hb101; cases hb101; done)
        · first | refine o_move (v := .bool _) rfl rfl ?_ | refine o_move (by conv => lhs; whnf) rfl ?_
          first | refine o_move (v := .bool _) rfl rfl ?_ | refine o_move (by conv => lhs; whnf) rfl ?_
          refine WL_on rfl rfl rfl ?_
          cases hb66 : y54
          · first | refine o_move (v := .bool _) rfl rfl ?_ | refine o_move (by conv => lhs; whnf) rfl ?_
            first | refine o_pick rfl (v := .bool _) rfl rfl ?_ | refine o_pick rfl (by conv => lhs; whnf) rfl ?_
            first | refine o_move (v := .bool _) rfl rfl ?_ | refine o_move (by conv => lhs; whnf) rfl ?_
            refine WL_off rfl rfl rfl rfl ?_
            first | refine o_pick rfl (v := .bool _) rfl rfl ?_ | refine o_pick rfl (by conv => lhs; whnf) rfl ?_
            first | refine o_move (v := .bool _) rfl rfl ?_ | refine o_move (by conv => lhs; whnf) rfl ?_
            refine WL_off rfl rfl rfl rfl ?_
            refine WL_off rfl rfl rfl rfl ?_
            first | refine o_pick rfl (v := .bool _) rfl rfl ?_ | refine o_pick rfl (by conv => lhs; whnf) rfl ?_
            refine WL_nil ?_
            refine W_else rfl ?_
            refine W_skip ?_
            refine W_seq ?_
            refine W_region ?_
            first | refine o_move (v := .slice _ _ _) rfl rfl ?_ | refine o_move (by conv => lhs; whnf) rfl ?_
            first | refine o_loadN many_25 rfl (S61.cells 0 rfl) rfl rfl ?_ | refine o_loadN many_25 rfl (S61.cells 1 rfl) rfl rfl ?_ | refine o_loadN many_25 rfl (S61.cells 2 rfl) rfl rfl ?_
            first | refine o_loadN many_25 rfl (S61.cells 0 rfl) rfl rfl ?_ | refine o_loadN many_25 rfl (S61.cells 1 rfl) rfl rfl ?_ | refine o_loadN many_25 rfl (S61.cells 2 rfl) rfl rfl ?_
            refine o_calln S61 has_15 rfl rfl (holds_fn a a _ _ cells _ [] _ (ea (S61.keep0 [])) (ea (S61.keep0 [])) (hC.keep (S61.keep0 [])) (hK.keep (S61.keep0 [])) (by simp) (small_len (hb24 h24))) ?_
            rintro v79 w79 ⟨y79, d79, rfl, hy79, hd79⟩ S79 X79
            first | refine o_move (v := .tuple _) rfl rfl ?_ | refine o_move (by conv => lhs; whnf) rfl ?_
            refine o_extract rfl rfl rfl ?_
            refine o_extract rfl rfl rfl ?_
            first | refine o_assign (v := .bool _) rfl rfl ?_ | refine o_assign (by conv => lhs; whnf) rfl ?_
            first | refine o_assign (v := .bool _) rfl rfl ?_ | refine o_assign (by conv => lhs; whnf) rfl ?_
            refine WL_nil ?_
            refine W_seq ?_
            refine W_mix follows_mixed (fun i => [0, 2, 4, 5, 6, 7, 8].contains i) [0, 1, 2, 3, 4, 5, 6, 7, 8] (by kernel_rfl) (by kernel_rfl) (Cl _ _ _ _) (Cl.start S79) ?_
            rintro wR10 ⟨SR10, XR10⟩
            refine WM_q ⟨SR10, XR10⟩ rfl rfl rfl ?_
            first | refine q_move (v := .slice _ _ _) rfl rfl ?_ | refine q_move (by conv => lhs; whnf) rfl ?_
            refine QL_nil ?_
            refine WM_o ⟨SR10, XR10⟩ rfl rfl rfl rfl ?_
            refine o_calln SR10 has_16 rfl rfl (const_fn 0 1 (by decide) (by decide) [] _) ?_
            rintro v84 w84 ⟨c84, rfl, r84⟩ S84 X84
            have XCw84 := XR10.trans X84
            refine WL_nil ⟨rfl, ?_⟩
            refine WM_q ⟨S84, XCw84⟩ rfl rfl rfl ?_
            first | refine q_loadN many_25 rfl (fun w1 hw => hw.1.cells 0 rfl) rfl rfl ?_ | refine q_loadN many_25 rfl (fun w1 hw => hw.1.cells 1 rfl) rfl rfl ?_ | refine q_loadN many_25 rfl (fun w1 hw => hw.1.cells 2 rfl) rfl rfl ?_
            refine QL_nil ?_
            refine WM_o ⟨S84, XCw84⟩ rfl rfl rfl rfl ?_
            refine o_calln S84 has_15 rfl rfl (holds_fn ⟨1, 1, 0, []⟩ a _ _ cells _ [] _ r84 (ea (S84.keep0 [])) (hC.keep (S84.keep0 [])) (hK.keep (S84.keep0 [])) (by simp) (small_len (hb24 h24))) ?_
            rintro v86 w86 ⟨y86, d86, rfl, hy86, hd86⟩ S86 X86
            have XCw86 := XCw84.trans X86
            refine WL_nil ⟨rfl, ?_⟩
            refine WM_q ⟨S86, XCw86⟩ rfl rfl rfl ?_
            first | refine q_move (v := .tuple _) rfl rfl ?_ | refine q_move (by conv => lhs; whnf) rfl ?_
            refine QL_nil ?_
            refine WM_q ⟨S86, XCw86⟩ rfl rfl rfl ?_
            refine q_extract rfl rfl rfl ?_
            refine QL_nil ?_
            refine WM_q ⟨S86, XCw86⟩ rfl rfl rfl ?_
            refine q_extract rfl rfl rfl ?_
            refine QL_nil ?_
            refine WM_q ⟨S86, XCw86⟩ rfl rfl rfl ?_
            first | refine q_assign (v := .bool _) rfl rfl ?_ | refine q_assign (by conv => lhs; whnf) rfl ?_
            refine QL_nil ?_
            refine WM_q ⟨S86, XCw86⟩ rfl rfl rfl ?_
            first | refine q_assign (v := .bool _) rfl rfl ?_ | refine q_assign (by conv => lhs; whnf) rfl ?_
            refine QL_nil ?_
            refine WM_nil ⟨S86, XCw86⟩ ?_
            refine W_seq ?_
            refine W_region ?_
            first | refine o_move (v := .bool _) rfl rfl ?_ | refine o_move (by conv => lhs; whnf) rfl ?_
            first | refine o_move (v := .bool _) rfl rfl ?_ | refine o_move (by conv => lhs; whnf) rfl ?_
            refine WL_on rfl rfl rfl ?_
            cases hb91 : d79
            · first | refine o_move (v := .bool _) rfl rfl ?_ | refine o_move (by conv => lhs; whnf) rfl ?_
              refine WL_on rfl rfl rfl ?_
              refine o_not rfl rfl ?_
              refine WL_on rfl rfl rfl ?_
              first | refine o_move (v := .bool _) rfl rfl ?_ | refine o_move (by conv => lhs; whnf) rfl ?_
              refine WL_off rfl rfl rfl rfl ?_
              refine WL_on rfl rfl rfl ?_
              first | refine o_pick rfl (v := .bool _) rfl rfl ?_ | refine o_pick rfl (by conv => lhs; whnf) rfl ?_
              first | refine o_pick rfl (v := .bool _) rfl rfl ?_ | refine o_pick rfl (by conv => lhs; whnf) rfl ?_
              first | refine o_move (v := .bool _) rfl rfl ?_ | refine o_move (by conv => lhs; whnf) rfl ?_
              refine WL_on rfl rfl rfl ?_
              cases hb98 : d86
              · first | refine o_move (v := .bool _) rfl rfl ?_ | refine o_move (by conv => lhs; whnf) rfl ?_
                refine WL_on rfl rfl rfl ?_
                refine o_not rfl rfl ?_
                refine WL_on rfl rfl rfl ?_
                first | refine o_move (v := .bool _) rfl rfl ?_ | refine o_move (by conv => lhs; whnf) rfl ?_
                refine WL_off rfl rfl rfl rfl ?_
                refine WL_on rfl rfl rfl ?_
                first | refine o_pick rfl (v := .bool _) rfl rfl ?_ | refine o_pick rfl (by conv => lhs; whnf) rfl ?_
                first | refine o_pick rfl (v := .bool _) rfl rfl ?_ | refine o_pick rfl (by conv => lhs; whnf) rfl ?_
                first | refine o_assign (v := .bool _) rfl rfl ?_ | refine o_assign (by conv => lhs; whnf) rfl ?_
                refine WL_nil ?_
                refine W_ret ?_
                refine ret_1 rfl (by conv => lhs; whnf) ?_
                first
                  | exact ⟨rfl, S86.fin⟩
                  | (exfalso; have hh := hy61.2 (cut_law (hy47.1 hb64) (hy54.1 hb66) (hd61.1 hb69)); rw [hh] at hb72; cases hb72; done)
                  | (exfalso; have hh := hy79.2 (self_law (hd79.1 hb91)); rw [hh] at hb94; cases hb94; done)
                  | (exfalso; have hh := hy86.2 (zero_law (hd86.1 hb98)); rw [hh] at hb101; cases hb101; done)
              · first | refine o_move (v := .bool _) rfl rfl ?_ | refine o_move (by conv => lhs; whnf) rfl ?_
                refine WL_on rfl rfl rfl ?_
                refine o_not rfl rfl ?_
                refine WL_on rfl rfl rfl ?_
                first | refine o_move (v := .bool _) rfl rfl ?_ | refine o_move (by conv => lhs; whnf) rfl ?_
                refine WL_on rfl rfl rfl ?_
                cases hb101 : y86
                · first | refine o_move (v := .bool _) rfl rfl ?_ | refine o_move (by conv => lhs; whnf) rfl ?_
                  refine WL_on rfl rfl rfl ?_
                  first | refine o_pick rfl (v := .bool _) rfl rfl ?_ | refine o_pick rfl (by conv => lhs; whnf) rfl ?_
                  first | refine o_pick rfl (v := .bool _) rfl rfl ?_ | refine o_pick rfl (by conv => lhs; whnf) rfl ?_
                  first | refine o_assign (v := .bool _) rfl rfl ?_ | refine o_assign (by conv => lhs; whnf) rfl ?_
                  refine WL_nil ?_
                  refine W_ret ?_
                  refine ret_1 rfl (by conv => lhs; whnf) ?_
                  first
                    | exact ⟨rfl, S86.fin⟩
                    | (exfalso; have hh := hy61.2 (cut_law (hy47.1 hb64) (hy54.1 hb66) (hd61.1 hb69)); rw [hh] at hb72; cases hb72; done)
                    | (exfalso; have hh := hy79.2 (self_law (hd79.1 hb91)); rw [hh] at hb94; cases hb94; done)
                    | (exfalso; have hh := hy86.2 (zero_law (hd86.1 hb98)); rw [hh] at hb101; cases hb101; done)
                · first | refine o_move (v := .bool _) rfl rfl ?_ | refine o_move (by conv => lhs; whnf) rfl ?_
                  refine WL_on rfl rfl rfl ?_
                  first | refine o_pick rfl (v := .bool _) rfl rfl ?_ | refine o_pick rfl (by conv => lhs; whnf) rfl ?_
                  first | refine o_pick rfl (v := .bool _) rfl rfl ?_ | refine o_pick rfl (by conv => lhs; whnf) rfl ?_
                  first | refine o_assign (v := .bool _) rfl rfl ?_ | refine o_assign (by conv => lhs; whnf) rfl ?_
                  refine WL_nil ?_
                  refine W_ret ?_
                  refine ret_1 rfl (by conv => lhs; whnf) ?_
                  first
                    | exact ⟨rfl, S86.fin⟩
                    | (exfalso; have hh := hy61.2 (cut_law (hy47.1 hb64) (hy54.1 hb66) (hd61.1 hb69)); rw [hh] at hb72; cases hb72; done)
                    | (exfalso; have hh := hy79.2 (self_law (hd79.1 hb91)); rw [hh] at hb94; cases hb94; done)
                    | (exfalso; have hh := hy86.2 (zero_law (hd86.1 hb98)); rw [hh] at hb101; cases hb101; done)
            · first | refine o_move (v := .bool _) rfl rfl ?_ | refine o_move (by conv => lhs; whnf) rfl ?_
              refine WL_on rfl rfl rfl ?_
              refine o_not rfl rfl ?_
              refine WL_on rfl rfl rfl ?_
              first | refine o_move (v := .bool _) rfl rfl ?_ | refine o_move (by conv => lhs; whnf) rfl ?_
              refine WL_on rfl rfl rfl ?_
              cases hb94 : y79
              · first | refine o_move (v := .bool _) rfl rfl ?_ | refine o_move (by conv => lhs; whnf) rfl ?_
                refine WL_on rfl rfl rfl ?_
                first | refine o_pick rfl (v := .bool _) rfl rfl ?_ | refine o_pick rfl (by conv => lhs; whnf) rfl ?_
                first | refine o_pick rfl (v := .bool _) rfl rfl ?_ | refine o_pick rfl (by conv => lhs; whnf) rfl ?_
                first | refine o_move (v := .bool _) rfl rfl ?_ | refine o_move (by conv => lhs; whnf) rfl ?_
                refine WL_off rfl rfl rfl rfl ?_
                refine WL_off rfl rfl rfl rfl ?_
                refine WL_off rfl rfl rfl rfl ?_
                refine WL_off rfl rfl rfl rfl ?_
                refine WL_off rfl rfl rfl rfl ?_
                first | refine o_pick rfl (v := .bool _) rfl rfl ?_ | refine o_pick rfl (by conv => lhs; whnf) rfl ?_
                first | refine o_assign (v := .bool _) rfl rfl ?_ | refine o_assign (by conv => lhs; whnf) rfl ?_
                refine WL_nil ?_
                refine W_ret ?_
                refine ret_1 rfl (by conv => lhs; whnf) ?_
                first
                  | exact ⟨rfl, S86.fin⟩
                  | (exfalso; have hh := hy61.2 (cut_law (hy47.1 hb64) (hy54.1 hb66) (hd61.1 hb69)); rw [hh] at hb72; cases hb72; done)
                  | (exfalso; have hh := hy79.2 (self_law (hd79.1 hb91)); rw [hh] at hb94; cases hb94; done)
                  | (exfalso; have hh := hy86.2 (zero_law (hd86.1 hb98)); rw [hh] at hb101; cases hb101; done)
              · first | refine o_move (v := .bool _) rfl rfl ?_ | refine o_move (by conv => lhs; whnf) rfl ?_
                refine WL_on rfl rfl rfl ?_
                first | refine o_pick rfl (v := .bool _) rfl rfl ?_ | refine o_pick rfl (by conv => lhs; whnf) rfl ?_
                first | refine o_pick rfl (v := .bool _) rfl rfl ?_ | refine o_pick rfl (by conv => lhs; whnf) rfl ?_
                first | refine o_move (v := .bool _) rfl rfl ?_ | refine o_move (by conv => lhs; whnf) rfl ?_
                refine WL_on rfl rfl rfl ?_
                cases hb98 : d86
                · first | refine o_move (v := .bool _) rfl rfl ?_ | refine o_move (by conv => lhs; whnf) rfl ?_
                  refine WL_on rfl rfl rfl ?_
                  refine o_not rfl rfl ?_
                  refine WL_on rfl rfl rfl ?_
                  first | refine o_move (v := .bool _) rfl rfl ?_ | refine o_move (by conv => lhs; whnf) rfl ?_
                  refine WL_off rfl rfl rfl rfl ?_
                  refine WL_on rfl rfl rfl ?_
                  first | refine o_pick rfl (v := .bool _) rfl rfl ?_ | refine o_pick rfl (by conv => lhs; whnf) rfl ?_
                  first | refine o_pick rfl (v := .bool _) rfl rfl ?_ | refine o_pick rfl (by conv => lhs; whnf) rfl ?_
                  first | refine o_assign (v := .bool _) rfl rfl ?_ | refine o_assign (by conv => lhs; whnf) rfl ?_
                  refine WL_nil ?_
                  refine W_ret ?_
                  refine ret_1 rfl (by conv => lhs; whnf) ?_
                  first
                    | exact ⟨rfl, S86.fin⟩
                    | (exfalso; have hh := hy61.2 (cut_law (hy47.1 hb64) (hy54.1 hb66) (hd61.1 hb69)); rw [hh] at hb72; cases hb72; done)
                    | (exfalso; have hh := hy79.2 (self_law (hd79.1 hb91)); rw [hh] at hb94; cases hb94; done)
                    | (exfalso; have hh := hy86.2 (zero_law (hd86.1 hb98)); rw [hh] at hb101; cases hb101; done)
                · first | refine o_move (v := .bool _) rfl rfl ?_ | refine o_move (by conv => lhs; whnf) rfl ?_
                  refine WL_on rfl rfl rfl ?_
                  refine o_not rfl rfl ?_
                  refine WL_on rfl rfl rfl ?_
                  first | refine o_move (v := .bool _) rfl rfl ?_ | refine o_move (by conv => lhs; whnf) rfl ?_
                  refine WL_on rfl rfl rfl ?_
                  cases hb101 : y86
                  · first | refine o_move (v := .bool _) rfl rfl ?_ | refine o_move (by conv => lhs; whnf) rfl ?_
                    refine WL_on rfl rfl rfl ?_
                    first | refine o_pick rfl (v := .bool _) rfl rfl ?_ | refine o_pick rfl (by conv => lhs; whnf) rfl ?_
                    first | refine o_pick rfl (v := .bool _) rfl rfl ?_ | refine o_pick rfl (by conv => lhs; whnf) rfl ?_
                    first | refine o_assign (v := .bool _) rfl rfl ?_ | refine o_assign (by conv => lhs; whnf) rfl ?_
                    refine WL_nil ?_
                    refine W_ret ?_
                    refine ret_1 rfl (by conv => lhs; whnf) ?_
                    first
                      | exact ⟨rfl, S86.fin⟩
                      | (exfalso; have hh := hy61.2 (cut_law (hy47.1 hb64) (hy54.1 hb66) (hd61.1 hb69)); rw [hh] at hb72; cases hb72; done)
                      | (exfalso; have hh := hy79.2 (self_law (hd79.1 hb91)); rw [hh] at hb94; cases hb94; done)
                      | (exfalso; have hh := hy86.2 (zero_law (hd86.1 hb98)); rw [hh] at hb101; cases hb101; done)
                  · first | refine o_move (v := .bool _) rfl rfl ?_ | refine o_move (by conv => lhs; whnf) rfl ?_
                    refine WL_on rfl rfl rfl ?_
                    first | refine o_pick rfl (v := .bool _) rfl rfl ?_ | refine o_pick rfl (by conv => lhs; whnf) rfl ?_
                    first | refine o_pick rfl (v := .bool _) rfl rfl ?_ | refine o_pick rfl (by conv => lhs; whnf) rfl ?_
                    first | refine o_assign (v := .bool _) rfl rfl ?_ | refine o_assign (by conv => lhs; whnf) rfl ?_
                    refine WL_nil ?_
                    refine W_ret ?_
                    refine ret_1 rfl (by conv => lhs; whnf) ?_
                    first
                      | exact ⟨rfl, S86.fin⟩
                      | (exfalso; have hh := hy61.2 (cut_law (hy47.1 hb64) (hy54.1 hb66) (hd61.1 hb69)); rw [hh] at hb72; cases hb72; done)
                      | (exfalso; have hh := hy79.2 (self_law (hd79.1 hb91)); rw [hh] at hb94; cases hb94; done)
                      | (exfalso; have hh := hy86.2 (zero_law (hd86.1 hb98)); rw [hh] at hb101; cases hb101; done)
          · first | refine o_move (v := .bool _) rfl rfl ?_ | refine o_move (by conv => lhs; whnf) rfl ?_
            first | refine o_pick rfl (v := .bool _) rfl rfl ?_ | refine o_pick rfl (by conv => lhs; whnf) rfl ?_
            first | refine o_move (v := .bool _) rfl rfl ?_ | refine o_move (by conv => lhs; whnf) rfl ?_
            refine WL_on rfl rfl rfl ?_
            cases hb69 : d61
            · first | refine o_move (v := .bool _) rfl rfl ?_ | refine o_move (by conv => lhs; whnf) rfl ?_
              first | refine o_pick rfl (v := .bool _) rfl rfl ?_ | refine o_pick rfl (by conv => lhs; whnf) rfl ?_
              first | refine o_move (v := .bool _) rfl rfl ?_ | refine o_move (by conv => lhs; whnf) rfl ?_
              refine WL_off rfl rfl rfl rfl ?_
              refine WL_off rfl rfl rfl rfl ?_
              first | refine o_pick rfl (v := .bool _) rfl rfl ?_ | refine o_pick rfl (by conv => lhs; whnf) rfl ?_
              refine WL_nil ?_
              refine W_else rfl ?_
              refine W_skip ?_
              refine W_seq ?_
              refine W_region ?_
              first | refine o_move (v := .slice _ _ _) rfl rfl ?_ | refine o_move (by conv => lhs; whnf) rfl ?_
              first | refine o_loadN many_25 rfl (S61.cells 0 rfl) rfl rfl ?_ | refine o_loadN many_25 rfl (S61.cells 1 rfl) rfl rfl ?_ | refine o_loadN many_25 rfl (S61.cells 2 rfl) rfl rfl ?_
              first | refine o_loadN many_25 rfl (S61.cells 0 rfl) rfl rfl ?_ | refine o_loadN many_25 rfl (S61.cells 1 rfl) rfl rfl ?_ | refine o_loadN many_25 rfl (S61.cells 2 rfl) rfl rfl ?_
              refine o_calln S61 has_15 rfl rfl (holds_fn a a _ _ cells _ [] _ (ea (S61.keep0 [])) (ea (S61.keep0 [])) (hC.keep (S61.keep0 [])) (hK.keep (S61.keep0 [])) (by simp) (small_len (hb24 h24))) ?_
              rintro v79 w79 ⟨y79, d79, rfl, hy79, hd79⟩ S79 X79
              first | refine o_move (v := .tuple _) rfl rfl ?_ | refine o_move (by conv => lhs; whnf) rfl ?_
              refine o_extract rfl rfl rfl ?_
              refine o_extract rfl rfl rfl ?_
              first | refine o_assign (v := .bool _) rfl rfl ?_ | refine o_assign (by conv => lhs; whnf) rfl ?_
              first | refine o_assign (v := .bool _) rfl rfl ?_ | refine o_assign (by conv => lhs; whnf) rfl ?_
              refine WL_nil ?_
              refine W_seq ?_
              refine W_mix follows_mixed (fun i => [0, 2, 4, 5, 6, 7, 8].contains i) [0, 1, 2, 3, 4, 5, 6, 7, 8] (by kernel_rfl) (by kernel_rfl) (Cl _ _ _ _) (Cl.start S79) ?_
              rintro wR10 ⟨SR10, XR10⟩
              refine WM_q ⟨SR10, XR10⟩ rfl rfl rfl ?_
              first | refine q_move (v := .slice _ _ _) rfl rfl ?_ | refine q_move (by conv => lhs; whnf) rfl ?_
              refine QL_nil ?_
              refine WM_o ⟨SR10, XR10⟩ rfl rfl rfl rfl ?_
              refine o_calln SR10 has_16 rfl rfl (const_fn 0 1 (by decide) (by decide) [] _) ?_
              rintro v84 w84 ⟨c84, rfl, r84⟩ S84 X84
              have XCw84 := XR10.trans X84
              refine WL_nil ⟨rfl, ?_⟩
              refine WM_q ⟨S84, XCw84⟩ rfl rfl rfl ?_
              first | refine q_loadN many_25 rfl (fun w1 hw => hw.1.cells 0 rfl) rfl rfl ?_ | refine q_loadN many_25 rfl (fun w1 hw => hw.1.cells 1 rfl) rfl rfl ?_ | refine q_loadN many_25 rfl (fun w1 hw => hw.1.cells 2 rfl) rfl rfl ?_
              refine QL_nil ?_
              refine WM_o ⟨S84, XCw84⟩ rfl rfl rfl rfl ?_
              refine o_calln S84 has_15 rfl rfl (holds_fn ⟨1, 1, 0, []⟩ a _ _ cells _ [] _ r84 (ea (S84.keep0 [])) (hC.keep (S84.keep0 [])) (hK.keep (S84.keep0 [])) (by simp) (small_len (hb24 h24))) ?_
              rintro v86 w86 ⟨y86, d86, rfl, hy86, hd86⟩ S86 X86
              have XCw86 := XCw84.trans X86
              refine WL_nil ⟨rfl, ?_⟩
              refine WM_q ⟨S86, XCw86⟩ rfl rfl rfl ?_
              first | refine q_move (v := .tuple _) rfl rfl ?_ | refine q_move (by conv => lhs; whnf) rfl ?_
              refine QL_nil ?_
              refine WM_q ⟨S86, XCw86⟩ rfl rfl rfl ?_
              refine q_extract rfl rfl rfl ?_
              refine QL_nil ?_
              refine WM_q ⟨S86, XCw86⟩ rfl rfl rfl ?_
              refine q_extract rfl rfl rfl ?_
              refine QL_nil ?_
              refine WM_q ⟨S86, XCw86⟩ rfl rfl rfl ?_
              first | refine q_assign (v := .bool _) rfl rfl ?_ | refine q_assign (by conv => lhs; whnf) rfl ?_
              refine QL_nil ?_
              refine WM_q ⟨S86, XCw86⟩ rfl rfl rfl ?_
              first | refine q_assign (v := .bool _) rfl rfl ?_ | refine q_assign (by conv => lhs; whnf) rfl ?_
              refine QL_nil ?_
              refine WM_nil ⟨S86, XCw86⟩ ?_
              refine W_seq ?_
              refine W_region ?_
              first | refine o_move (v := .bool _) rfl rfl ?_ | refine o_move (by conv => lhs; whnf) rfl ?_
              first | refine o_move (v := .bool _) rfl rfl ?_ | refine o_move (by conv => lhs; whnf) rfl ?_
              refine WL_on rfl rfl rfl ?_
              cases hb91 : d79
              · first | refine o_move (v := .bool _) rfl rfl ?_ | refine o_move (by conv => lhs; whnf) rfl ?_
                refine WL_on rfl rfl rfl ?_
                refine o_not rfl rfl ?_
                refine WL_on rfl rfl rfl ?_
                first | refine o_move (v := .bool _) rfl rfl ?_ | refine o_move (by conv => lhs; whnf) rfl ?_
                refine WL_off rfl rfl rfl rfl ?_
                refine WL_on rfl rfl rfl ?_
                first | refine o_pick rfl (v := .bool _) rfl rfl ?_ | refine o_pick rfl (by conv => lhs; whnf) rfl ?_
                first | refine o_pick rfl (v := .bool _) rfl rfl ?_ | refine o_pick rfl (by conv => lhs; whnf) rfl ?_
                first | refine o_move (v := .bool _) rfl rfl ?_ | refine o_move (by conv => lhs; whnf) rfl ?_
                refine WL_on rfl rfl rfl ?_
                cases hb98 : d86
                · first | refine o_move (v := .bool _) rfl rfl ?_ | refine o_move (by conv => lhs; whnf) rfl ?_
                  refine WL_on rfl rfl rfl ?_
                  refine o_not rfl rfl ?_
                  refine WL_on rfl rfl rfl ?_
                  first | refine o_move (v := .bool _) rfl rfl ?_ | refine o_move (by conv => lhs; whnf) rfl ?_
                  refine WL_off rfl rfl rfl rfl ?_
                  refine WL_on rfl rfl rfl ?_
                  first | refine o_pick rfl (v := .bool _) rfl rfl ?_ | refine o_pick rfl (by conv => lhs; whnf) rfl ?_
                  first | refine o_pick rfl (v := .bool _) rfl rfl ?_ | refine o_pick rfl (by conv => lhs; whnf) rfl ?_
                  first | refine o_assign (v := .bool _) rfl rfl ?_ | refine o_assign (by conv => lhs; whnf) rfl ?_
                  refine WL_nil ?_
                  refine W_ret ?_
                  refine ret_1 rfl (by conv => lhs; whnf) ?_
                  first
                    | exact ⟨rfl, S86.fin⟩
                    | (exfalso; have hh := hy61.2 (cut_law (hy47.1 hb64) (hy54.1 hb66) (hd61.1 hb69)); rw [hh] at hb72; cases hb72; done)
                    | (exfalso; have hh := hy79.2 (self_law (hd79.1 hb91)); rw [hh] at hb94; cases hb94; done)
                    | (exfalso; have hh := hy86.2 (zero_law (hd86.1 hb98)); rw [hh] at hb101; cases hb101; done)
                · first | refine o_move (v := .bool _) rfl rfl ?_ | refine o_move (by conv => lhs; whnf) rfl ?_
                  refine WL_on rfl rfl rfl ?_
                  refine o_not rfl rfl ?_
                  refine WL_on rfl rfl rfl ?_
                  first | refine o_move (v := .bool _) rfl rfl ?_ | refine o_move (by conv => lhs; whnf) rfl ?_
                  refine WL_on rfl rfl rfl ?_
                  cases hb101 : y86
                  · first | refine o_move (v := .bool _) rfl rfl ?_ | refine o_move (by conv => lhs; whnf) rfl ?_
                    refine WL_on rfl rfl rfl ?_
                    first | refine o_pick rfl (v := .bool _) rfl rfl ?_ | refine o_pick rfl (by conv => lhs; whnf) rfl ?_
                    first | refine o_pick rfl (v := .bool _) rfl rfl ?_ | refine o_pick rfl (by conv => lhs; whnf) rfl ?_
                    first | refine o_assign (v := .bool _) rfl rfl ?_ | refine o_assign (by conv => lhs; whnf) rfl ?_
                    refine WL_nil ?_
                    refine W_ret ?_
                    refine ret_1 rfl (by conv => lhs; whnf) ?_
                    first
                      | exact ⟨rfl, S86.fin⟩
                      | (exfalso; have hh := hy61.2 (cut_law (hy47.1 hb64) (hy54.1 hb66) (hd61.1 hb69)); rw [hh] at hb72; cases hb72; done)
                      | (exfalso; have hh := hy79.2 (self_law (hd79.1 hb91)); rw [hh] at hb94; cases hb94; done)
                      | (exfalso; have hh := hy86.2 (zero_law (hd86.1 hb98)); rw [hh] at hb101; cases hb101; done)
                  · first | refine o_move (v := .bool _) rfl rfl ?_ | refine o_move (by conv => lhs; whnf) rfl ?_
                    refine WL_on rfl rfl rfl ?_
                    first | refine o_pick rfl (v := .bool _) rfl rfl ?_ | refine o_pick rfl (by conv => lhs; whnf) rfl ?_
                    first | refine o_pick rfl (v := .bool _) rfl rfl ?_ | refine o_pick rfl (by conv => lhs; whnf) rfl ?_
                    first | refine o_assign (v := .bool _) rfl rfl ?_ | refine o_assign (by conv => lhs; whnf) rfl ?_
                    refine WL_nil ?_
                    refine W_ret ?_
                    refine ret_1 rfl (by conv => lhs; whnf) ?_
                    first
                      | exact ⟨rfl, S86.fin⟩
                      | (exfalso; have hh := hy61.2 (cut_law (hy47.1 hb64) (hy54.1 hb66) (hd61.1 hb69)); rw [hh] at hb72; cases hb72; done)
                      | (exfalso; have hh := hy79.2 (self_law (hd79.1 hb91)); rw [hh] at hb94; cases hb94; done)
                      | (exfalso; have hh := hy86.2 (zero_law (hd86.1 hb98)); rw [hh] at hb101; cases hb101; done)
              · first | refine o_move (v := .bool _) rfl rfl ?_ | refine o_move (by conv => lhs; whnf) rfl ?_
                refine WL_on rfl rfl rfl ?_
                refine o_not rfl rfl ?_
                refine WL_on rfl rfl rfl ?_
                first | refine o_move (v := .bool _) rfl rfl ?_ | refine o_move (by conv => lhs; whnf) rfl ?_
                refine WL_on rfl rfl rfl ?_
                cases hb94 : y79
                · first | refine o_move (v := .bool _) rfl rfl ?_ | refine o_move (by conv => lhs; whnf) rfl ?_
                  refine WL_on rfl rfl rfl ?_
                  first | refine o_pick rfl (v := .bool _) rfl rfl ?_ | refine o_pick rfl (by conv => lhs; whnf) rfl ?_
                  first | refine o_pick rfl (v := .bool _) rfl rfl ?_ | refine o_pick rfl (by conv => lhs; whnf) rfl ?_
                  first | refine o_move (v := .bool _) rfl rfl ?_ | refine o_move (by conv => lhs; whnf) rfl ?_
                  refine WL_off rfl rfl rfl rfl ?_
                  refine WL_off rfl rfl rfl rfl ?_
                  refine WL_off rfl rfl rfl rfl ?_
                  refine WL_off rfl rfl rfl rfl ?_
                  refine WL_off rfl rfl rfl rfl ?_
                  first | refine o_pick rfl (v := .bool _) rfl rfl ?_ | refine o_pick rfl (by conv => lhs; whnf) rfl ?_
                  first | refine o_assign (v := .bool _) rfl rfl ?_ | refine o_assign (by conv => lhs; whnf) rfl ?_
                  refine WL_nil ?_
                  refine W_ret ?_
                  refine ret_1 rfl (by conv => lhs; whnf) ?_
                  first
                    | exact ⟨rfl, S86.fin⟩
                    | (exfalso; have hh := hy61.2 (cut_law (hy47.1 hb64) (hy54.1 hb66) (hd61.1 hb69)); rw [hh] at hb72; cases hb72; done)
                    | (exfalso; have hh := hy79.2 (self_law (hd79.1 hb91)); rw [hh] at hb94; cases hb94; done)
                    | (exfalso; have hh := hy86.2 (zero_law (hd86.1 hb98)); rw [hh] at hb101; cases hb101; done)
                · first | refine o_move (v := .bool _) rfl rfl ?_ | refine o_move (by conv => lhs; whnf) rfl ?_
                  refine WL_on rfl rfl rfl ?_
                  first | refine o_pick rfl (v := .bool _) rfl rfl ?_ | refine o_pick rfl (by conv => lhs; whnf) rfl ?_
                  first | refine o_pick rfl (v := .bool _) rfl rfl ?_ | refine o_pick rfl (by conv => lhs; whnf) rfl ?_
                  first | refine o_move (v := .bool _) rfl rfl ?_ | refine o_move (by conv => lhs; whnf) rfl ?_
                  refine WL_on rfl rfl rfl ?_
                  cases hb98 : d86
                  · first | refine o_move (v := .bool _) rfl rfl ?_ | refine o_move (by conv => lhs; whnf) rfl ?_
                    refine WL_on rfl rfl rfl ?_
                    refine o_not rfl rfl ?_
                    refine WL_on rfl rfl rfl ?_
                    first | refine o_move (v := .bool _) rfl rfl ?_ | refine o_move (by conv => lhs; whnf) rfl ?_
                    refine WL_off rfl rfl rfl rfl ?_
                    refine WL_on rfl rfl rfl ?_
                    first | refine o_pick rfl (v := .bool _) rfl rfl ?_ | refine o_pick rfl (by conv => lhs; whnf) rfl ?_
                    first | refine o_pick rfl (v := .bool _) rfl rfl ?_ | refine o_pick rfl (by conv => lhs; whnf) rfl ?_
                    first | refine o_assign (v := .bool _) rfl rfl ?_ | refine o_assign (by conv => lhs; whnf) rfl ?_
                    refine WL_nil ?_
                    refine W_ret ?_
                    refine ret_1 rfl (by conv => lhs; whnf) ?_
                    first
                      | exact ⟨rfl, S86.fin⟩
                      | (exfalso; have hh := hy61.2 (cut_law (hy47.1 hb64) (hy54.1 hb66) (hd61.1 hb69)); rw [hh] at hb72; cases hb72; done)
                      | (exfalso; have hh := hy79.2 (self_law (hd79.1 hb91)); rw [hh] at hb94; cases hb94; done)
                      | (exfalso; have hh := hy86.2 (zero_law (hd86.1 hb98)); rw [hh] at hb101; cases hb101; done)
                  · first | refine o_move (v := .bool _) rfl rfl ?_ | refine o_move (by conv => lhs; whnf) rfl ?_
                    refine WL_on rfl rfl rfl ?_
                    refine o_not rfl rfl ?_
                    refine WL_on rfl rfl rfl ?_
                    first | refine o_move (v := .bool _) rfl rfl ?_ | refine o_move (by conv => lhs; whnf) rfl ?_
                    refine WL_on rfl rfl rfl ?_
                    cases hb101 : y86
                    · first | refine o_move (v := .bool _) rfl rfl ?_ | refine o_move (by conv => lhs; whnf) rfl ?_
                      refine WL_on rfl rfl rfl ?_
                      first | refine o_pick rfl (v := .bool _) rfl rfl ?_ | refine o_pick rfl (by conv => lhs; whnf) rfl ?_
                      first | refine o_pick rfl (v := .bool _) rfl rfl ?_ | refine o_pick rfl (by conv => lhs; whnf) rfl ?_
                      first | refine o_assign (v := .bool _) rfl rfl ?_ | refine o_assign (by conv => lhs; whnf) rfl ?_
                      refine WL_nil ?_
                      refine W_ret ?_
                      refine ret_1 rfl (by conv => lhs; whnf) ?_
                      first
                        | exact ⟨rfl, S86.fin⟩
                        | (exfalso; have hh := hy61.2 (cut_law (hy47.1 hb64) (hy54.1 hb66) (hd61.1 hb69)); rw [hh] at hb72; cases hb72; done)
                        | (exfalso; have hh := hy79.2 (self_law (hd79.1 hb91)); rw [hh] at hb94; cases hb94; done)
                        | (exfalso; have hh := hy86.2 (zero_law (hd86.1 hb98)); rw [hh] at hb101; cases hb101; done)
                    · first | refine o_move (v := .bool _) rfl rfl ?_ | refine o_move (by conv => lhs; whnf) rfl ?_
                      refine WL_on rfl rfl rfl ?_
                      first | refine o_pick rfl (v := .bool _) rfl rfl ?_ | refine o_pick rfl (by conv => lhs; whnf) rfl ?_
                      first | refine o_pick rfl (v := .bool _) rfl rfl ?_ | refine o_pick rfl (by conv => lhs; whnf) rfl ?_
                      first | refine o_assign (v := .bool _) rfl rfl ?_ | refine o_assign (by conv => lhs; whnf) rfl ?_
                      refine WL_nil ?_
                      refine W_ret ?_
                      refine ret_1 rfl (by conv => lhs; whnf) ?_
                      first
                        | exact ⟨rfl, S86.fin⟩
                        | (exfalso; have hh := hy61.2 (cut_law (hy47.1 hb64) (hy54.1 hb66) (hd61.1 hb69)); rw [hh] at hb72; cases hb72; done)
                        | (exfalso; have hh := hy79.2 (self_law (hd79.1 hb91)); rw [hh] at hb94; cases hb94; done)
                        | (exfalso; have hh := hy86.2 (zero_law (hd86.1 hb98)); rw [hh] at hb101; cases hb101; done)
            · first | refine o_move (v := .bool _) rfl rfl ?_ | refine o_move (by conv => lhs; whnf) rfl ?_
              first | refine o_pick rfl (v := .bool _) rfl rfl ?_ | refine o_pick rfl (by conv => lhs; whnf) rfl ?_
              first | refine o_move (v := .bool _) rfl rfl ?_ | refine o_move (by conv => lhs; whnf) rfl ?_
              refine WL_on rfl rfl rfl ?_
              cases hb72 : y61
              · first | refine o_move (v := .bool _) rfl rfl ?_ | refine o_move (by conv => lhs; whnf) rfl ?_
                refine WL_on rfl rfl rfl ?_
                refine o_not rfl rfl ?_
                first | refine o_pick rfl (v := .bool _) rfl rfl ?_ | refine o_pick rfl (by conv => lhs; whnf) rfl ?_
                refine WL_nil ?_
                refine W_then rfl ?_
                refine W_seq ?_
                refine W_region ?_
                first | refine o_assign (v := .bool _) rfl rfl ?_ | refine o_assign (by conv => lhs; whnf) rfl ?_
                refine WL_nil ?_
                refine W_ret ?_
                refine ret_1 rfl (by conv => lhs; whnf) ?_
                first
                  | exact ⟨rfl, S61.fin⟩
                  | (exfalso; have hh := hy61.2 (cut_law (hy47.1 hb64) (hy54.1 hb66) (hd61.1 hb69)); rw [hh] at hb72; cases hb72; done)
                  | (exfalso; have hh := hy79.2 (self_law (hd79.1 hb91)); rw [hh] at hb94; cases hb94; done)
                  | (exfalso; have hh := hy86.2 (zero_law (hd86.1 hb98)); rw [hh] at hb101; cases hb101; done)
              · first | refine o_move (v := .bool _) rfl rfl ?_ | refine o_move (by conv => lhs; whnf) rfl ?_
                refine WL_on rfl rfl rfl ?_
                refine o_not rfl rfl ?_
                first | refine o_pick rfl (v := .bool _) rfl rfl ?_ | refine o_pick rfl (by conv => lhs; whnf) rfl ?_
                refine WL_nil ?_
                refine W_else rfl ?_
                refine W_skip ?_
                refine W_seq ?_
                refine W_region ?_
                first | refine o_move (v := .slice _ _ _) rfl rfl ?_ | refine o_move (by conv => lhs; whnf) rfl ?_
                first | refine o_loadN many_25 rfl (S61.cells 0 rfl) rfl rfl ?_ | refine o_loadN many_25 rfl (S61.cells 1 rfl) rfl rfl ?_ | refine o_loadN many_25 rfl (S61.cells 2 rfl) rfl rfl ?_
                first | refine o_loadN many_25 rfl (S61.cells 0 rfl) rfl rfl ?_ | refine o_loadN many_25 rfl (S61.cells 1 rfl) rfl rfl ?_ | refine o_loadN many_25 rfl (S61.cells 2 rfl) rfl rfl ?_
                refine o_calln S61 has_15 rfl rfl (holds_fn a a _ _ cells _ [] _ (ea (S61.keep0 [])) (ea (S61.keep0 [])) (hC.keep (S61.keep0 [])) (hK.keep (S61.keep0 [])) (by simp) (small_len (hb24 h24))) ?_
                rintro v79 w79 ⟨y79, d79, rfl, hy79, hd79⟩ S79 X79
                first | refine o_move (v := .tuple _) rfl rfl ?_ | refine o_move (by conv => lhs; whnf) rfl ?_
                refine o_extract rfl rfl rfl ?_
                refine o_extract rfl rfl rfl ?_
                first | refine o_assign (v := .bool _) rfl rfl ?_ | refine o_assign (by conv => lhs; whnf) rfl ?_
                first | refine o_assign (v := .bool _) rfl rfl ?_ | refine o_assign (by conv => lhs; whnf) rfl ?_
                refine WL_nil ?_
                refine W_seq ?_
                refine W_mix follows_mixed (fun i => [0, 2, 4, 5, 6, 7, 8].contains i) [0, 1, 2, 3, 4, 5, 6, 7, 8] (by kernel_rfl) (by kernel_rfl) (Cl _ _ _ _) (Cl.start S79) ?_
                rintro wR10 ⟨SR10, XR10⟩
                refine WM_q ⟨SR10, XR10⟩ rfl rfl rfl ?_
                first | refine q_move (v := .slice _ _ _) rfl rfl ?_ | refine q_move (by conv => lhs; whnf) rfl ?_
                refine QL_nil ?_
                refine WM_o ⟨SR10, XR10⟩ rfl rfl rfl rfl ?_
                refine o_calln SR10 has_16 rfl rfl (const_fn 0 1 (by decide) (by decide) [] _) ?_
                rintro v84 w84 ⟨c84, rfl, r84⟩ S84 X84
                have XCw84 := XR10.trans X84
                refine WL_nil ⟨rfl, ?_⟩
                refine WM_q ⟨S84, XCw84⟩ rfl rfl rfl ?_
                first | refine q_loadN many_25 rfl (fun w1 hw => hw.1.cells 0 rfl) rfl rfl ?_ | refine q_loadN many_25 rfl (fun w1 hw => hw.1.cells 1 rfl) rfl rfl ?_ | refine q_loadN many_25 rfl (fun w1 hw => hw.1.cells 2 rfl) rfl rfl ?_
                refine QL_nil ?_
                refine WM_o ⟨S84, XCw84⟩ rfl rfl rfl rfl ?_
                refine o_calln S84 has_15 rfl rfl (holds_fn ⟨1, 1, 0, []⟩ a _ _ cells _ [] _ r84 (ea (S84.keep0 [])) (hC.keep (S84.keep0 [])) (hK.keep (S84.keep0 [])) (by simp) (small_len (hb24 h24))) ?_
                rintro v86 w86 ⟨y86, d86, rfl, hy86, hd86⟩ S86 X86
                have XCw86 := XCw84.trans X86
                refine WL_nil ⟨rfl, ?_⟩
                refine WM_q ⟨S86, XCw86⟩ rfl rfl rfl ?_
                first | refine q_move (v := .tuple _) rfl rfl ?_ | refine q_move (by conv => lhs; whnf) rfl ?_
                refine QL_nil ?_
                refine WM_q ⟨S86, XCw86⟩ rfl rfl rfl ?_
                refine q_extract rfl rfl rfl ?_
                refine QL_nil ?_
                refine WM_q ⟨S86, XCw86⟩ rfl rfl rfl ?_
                refine q_extract rfl rfl rfl ?_
                refine QL_nil ?_
                refine WM_q ⟨S86, XCw86⟩ rfl rfl rfl ?_
                first | refine q_assign (v := .bool _) rfl rfl ?_ | refine q_assign (by conv => lhs; whnf) rfl ?_
                refine QL_nil ?_
                refine WM_q ⟨S86, XCw86⟩ rfl rfl rfl ?_
                first | refine q_assign (v := .bool _) rfl rfl ?_ | refine q_assign (by conv => lhs; whnf) rfl ?_
                refine QL_nil ?_
                refine WM_nil ⟨S86, XCw86⟩ ?_
                refine W_seq ?_
                refine W_region ?_
                first | refine o_move (v := .bool _) rfl rfl ?_ | refine o_move (by conv => lhs; whnf) rfl ?_
                first | refine o_move (v := .bool _) rfl rfl ?_ | refine o_move (by conv => lhs; whnf) rfl ?_
                refine WL_on rfl rfl rfl ?_
                cases hb91 : d79
                · first | refine o_move (v := .bool _) rfl rfl ?_ | refine o_move (by conv => lhs; whnf) rfl ?_
                  refine WL_on rfl rfl rfl ?_
                  refine o_not rfl rfl ?_
                  refine WL_on rfl rfl rfl ?_
                  first | refine o_move (v := .bool _) rfl rfl ?_ | refine o_move (by conv => lhs; whnf) rfl ?_
                  refine WL_off rfl rfl rfl rfl ?_
                  refine WL_on rfl rfl rfl ?_
                  first | refine o_pick rfl (v := .bool _) rfl rfl ?_ | refine o_pick rfl (by conv => lhs; whnf) rfl ?_
                  first | refine o_pick rfl (v := .bool _) rfl rfl ?_ | refine o_pick rfl (by conv => lhs; whnf) rfl ?_
                  first | refine o_move (v := .bool _) rfl rfl ?_ | refine o_move (by conv => lhs; whnf) rfl ?_
                  refine WL_on rfl rfl rfl ?_
                  cases hb98 : d86
                  · first | refine o_move (v := .bool _) rfl rfl ?_ | refine o_move (by conv => lhs; whnf) rfl ?_
                    refine WL_on rfl rfl rfl ?_
                    refine o_not rfl rfl ?_
                    refine WL_on rfl rfl rfl ?_
                    first | refine o_move (v := .bool _) rfl rfl ?_ | refine o_move (by conv => lhs; whnf) rfl ?_
                    refine WL_off rfl rfl rfl rfl ?_
                    refine WL_on rfl rfl rfl ?_
                    first | refine o_pick rfl (v := .bool _) rfl rfl ?_ | refine o_pick rfl (by conv => lhs; whnf) rfl ?_
                    first | refine o_pick rfl (v := .bool _) rfl rfl ?_ | refine o_pick rfl (by conv => lhs; whnf) rfl ?_
                    first | refine o_assign (v := .bool _) rfl rfl ?_ | refine o_assign (by conv => lhs; whnf) rfl ?_
                    refine WL_nil ?_
                    refine W_ret ?_
                    refine ret_1 rfl (by conv => lhs; whnf) ?_
                    first
                      | exact ⟨rfl, S86.fin⟩
                      | (exfalso; have hh := hy61.2 (cut_law (hy47.1 hb64) (hy54.1 hb66) (hd61.1 hb69)); rw [hh] at hb72; cases hb72; done)
                      | (exfalso; have hh := hy79.2 (self_law (hd79.1 hb91)); rw [hh] at hb94; cases hb94; done)
                      | (exfalso; have hh := hy86.2 (zero_law (hd86.1 hb98)); rw [hh] at hb101; cases hb101; done)
                  · first | refine o_move (v := .bool _) rfl rfl ?_ | refine o_move (by conv => lhs; whnf) rfl ?_
                    refine WL_on rfl rfl rfl ?_
                    refine o_not rfl rfl ?_
                    refine WL_on rfl rfl rfl ?_
                    first | refine o_move (v := .bool _) rfl rfl ?_ | refine o_move (by conv => lhs; whnf) rfl ?_
                    refine WL_on rfl rfl rfl ?_
                    cases hb101 : y86
                    · first | refine o_move (v := .bool _) rfl rfl ?_ | refine o_move (by conv => lhs; whnf) rfl ?_
                      refine WL_on rfl rfl rfl ?_
                      first | refine o_pick rfl (v := .bool _) rfl rfl ?_ | refine o_pick rfl (by conv => lhs; whnf) rfl ?_
                      first | refine o_pick rfl (v := .bool _) rfl rfl ?_ | refine o_pick rfl (by conv => lhs; whnf) rfl ?_
                      first | refine o_assign (v := .bool _) rfl rfl ?_ | refine o_assign (by conv => lhs; whnf) rfl ?_
                      refine WL_nil ?_
                      refine W_ret ?_
                      refine ret_1 rfl (by conv => lhs; whnf) ?_
                      first
                        | exact ⟨rfl, S86.fin⟩
                        | (exfalso; have hh := hy61.2 (cut_law (hy47.1 hb64) (hy54.1 hb66) (hd61.1 hb69)); rw [hh] at hb72; cases hb72; done)
                        | (exfalso; have hh := hy79.2 (self_law (hd79.1 hb91)); rw [hh] at hb94; cases hb94; done)
                        | (exfalso; have hh := hy86.2 (zero_law (hd86.1 hb98)); rw [hh] at hb101; cases hb101; done)
                    · first | refine o_move (v := .bool _) rfl rfl ?_ | refine o_move (by conv => lhs; whnf) rfl ?_
                      refine WL_on rfl rfl rfl ?_
                      first | refine o_pick rfl (v := .bool _) rfl rfl ?_ | refine o_pick rfl (by conv => lhs; whnf) rfl ?_
                      first | refine o_pick rfl (v := .bool _) rfl rfl ?_ | refine o_pick rfl (by conv => lhs; whnf) rfl ?_
                      first | refine o_assign (v := .bool _) rfl rfl ?_ | refine o_assign (by conv => lhs; whnf) rfl ?_
                      refine WL_nil ?_
                      refine W_ret ?_
                      refine ret_1 rfl (by conv => lhs; whnf) ?_
                      first
                        | exact ⟨rfl, S86.fin⟩
                        | (exfalso; have hh := hy61.2 (cut_law (hy47.1 hb64) (hy54.1 hb66) (hd61.1 hb69)); rw [hh] at hb72; cases hb72; done)
                        | (exfalso; have hh := hy79.2 (self_law (hd79.1 hb91)); rw [hh] at hb94; cases hb94; done)
                        | (exfalso; have hh := hy86.2 (zero_law (hd86.1 hb98)); rw [hh] at hb101; cases hb101; done)
                · first | refine o_move (v := .bool _) rfl rfl ?_ | refine o_move (by conv => lhs; whnf) rfl ?_
                  refine WL_on rfl rfl rfl ?_
                  refine o_not rfl rfl ?_
                  refine WL_on rfl rfl rfl ?_
                  first | refine o_move (v := .bool _) rfl rfl ?_ | refine o_move (by conv => lhs; whnf) rfl ?_
                  refine WL_on rfl rfl rfl ?_
                  cases hb94 : y79
                  · first | refine o_move (v := .bool _) rfl rfl ?_ | refine o_move (by conv => lhs; whnf) rfl ?_
                    refine WL_on rfl rfl rfl ?_
                    first | refine o_pick rfl (v := .bool _) rfl rfl ?_ | refine o_pick rfl (by conv => lhs; whnf) rfl ?_
                    first | refine o_pick rfl (v := .bool _) rfl rfl ?_ | refine o_pick rfl (by conv => lhs; whnf) rfl ?_
                    first | refine o_move (v := .bool _) rfl rfl ?_ | refine o_move (by conv => lhs; whnf) rfl ?_
                    refine WL_off rfl rfl rfl rfl ?_
                    refine WL_off rfl rfl rfl rfl ?_
                    refine WL_off rfl rfl rfl rfl ?_
                    refine WL_off rfl rfl rfl rfl ?_
                    refine WL_off rfl rfl rfl rfl ?_
                    first | refine o_pick rfl (v := .bool _) rfl rfl ?_ | refine o_pick rfl (by conv => lhs; whnf) rfl ?_
                    first | refine o_assign (v := .bool _) rfl rfl ?_ | refine o_assign (by conv => lhs; whnf) rfl ?_
                    refine WL_nil ?_
                    refine W_ret ?_
                    refine ret_1 rfl (by conv => lhs; whnf) ?_
                    first
                      | exact ⟨rfl, S86.fin⟩
                      | (exfalso; have hh := hy61.2 (cut_law (hy47.1 hb64) (hy54.1 hb66) (hd61.1 hb69)); rw [hh] at hb72; cases hb72; done)
                      | (exfalso; have hh := hy79.2 (self_law (hd79.1 hb91)); rw [hh] at hb94; cases hb94; done)
                      | (exfalso; have hh := hy86.2 (zero_law (hd86.1 hb98)); rw [hh] at hb101; cases hb101; done)
                  · first | refine o_move (v := .bool _) rfl rfl ?_ | refine o_move (by conv => lhs; whnf) rfl ?_
                    refine WL_on rfl rfl rfl ?_
                    first | refine o_pick rfl (v := .bool _) rfl rfl ?_ | refine o_pick rfl (by conv => lhs; whnf) rfl ?_
                    first | refine o_pick rfl (v := .bool _) rfl rfl ?_ | refine o_pick rfl (by conv => lhs; whnf) rfl ?_
                    first | refine o_move (v := .bool _) rfl rfl ?_ | refine o_move (by conv => lhs; whnf) rfl ?_
                    refine WL_on rfl rfl rfl ?_
                    cases hb98 : d86
                    · first | refine o_move (v := .bool _) rfl rfl ?_ | refine o_move (by conv => lhs; whnf) rfl ?_
                      refine WL_on rfl rfl rfl ?_
                      refine o_not rfl rfl ?_
                      refine WL_on rfl rfl rfl ?_
                      first | refine o_move (v := .bool _) rfl rfl ?_ | refine o_move (by conv => lhs; whnf) rfl ?_
                      refine WL_off rfl rfl rfl rfl ?_
                      refine WL_on rfl rfl rfl ?_
                      first | refine o_pick rfl (v := .bool _) rfl rfl ?_ | refine o_pick rfl (by conv => lhs; whnf) rfl ?_
                      first | refine o_pick rfl (v := .bool _) rfl rfl ?_ | refine o_pick rfl (by conv => lhs; whnf) rfl ?_
                      first | refine o_assign (v := .bool _) rfl rfl ?_ | refine o_assign (by conv => lhs; whnf) rfl ?_
                      refine WL_nil ?_
                      refine W_ret ?_
                      refine ret_1 rfl (by conv => lhs; whnf) ?_
                      first
                        | exact ⟨rfl, S86.fin⟩
                        | (exfalso; have hh := hy61.2 (cut_law (hy47.1 hb64) (hy54.1 hb66) (hd61.1 hb69)); rw [hh] at hb72; cases hb72; done)
                        | (exfalso; have hh := hy79.2 (self_law (hd79.1 hb91)); rw [hh] at hb94; cases hb94; done)
                        | (exfalso; have hh := hy86.2 (zero_law (hd86.1 hb98)); rw [hh] at hb101; cases hb101; done)
                    · first | refine o_move (v := .bool _) rfl rfl ?_ | refine o_move (by conv => lhs; whnf) rfl ?_
                      refine WL_on rfl rfl rfl ?_
                      refine o_not rfl rfl ?_
                      refine WL_on rfl rfl rfl ?_
                      first | refine o_move (v := .bool _) rfl rfl ?_ | refine o_move (by conv => lhs; whnf) rfl ?_
                      refine WL_on rfl rfl rfl ?_
                      cases hb101 : y86
                      · first | refine o_move (v := .bool _) rfl rfl ?_ | refine o_move (by conv => lhs; whnf) rfl ?_
                        refine WL_on rfl rfl rfl ?_
                        first | refine o_pick rfl (v := .bool _) rfl rfl ?_ | refine o_pick rfl (by conv => lhs; whnf) rfl ?_
                        first | refine o_pick rfl (v := .bool _) rfl rfl ?_ | refine o_pick rfl (by conv => lhs; whnf) rfl ?_
                        first | refine o_assign (v := .bool _) rfl rfl ?_ | refine o_assign (by conv => lhs; whnf) rfl ?_
                        refine WL_nil ?_
                        refine W_ret ?_
                        refine ret_1 rfl (by conv => lhs; whnf) ?_
                        first
                          | exact ⟨rfl, S86.fin⟩
                          | (exfalso; have hh := hy61.2 (cut_law (hy47.1 hb64) (hy54.1 hb66) (hd61.1 hb69)); rw [hh] at hb72; cases hb72; done)
                          | (exfalso; have hh := hy79.2 (self_law (hd79.1 hb91)); rw [hh] at hb94; cases hb94; done)
                          | (exfalso; have hh := hy86.2 (zero_law (hd86.1 hb98)); rw [hh] at hb101; cases hb101; done)
                      · first | refine o_move (v := .bool _) rfl rfl ?_ | refine o_move (by conv => lhs; whnf) rfl ?_
                        refine WL_on rfl rfl rfl ?_
                        first | refine o_pick rfl (v := .bool _) rfl rfl ?_ | refine o_pick rfl (by conv => lhs; whnf) rfl ?_
                        first | refine o_pick rfl (v := .bool _) rfl rfl ?_ | refine o_pick rfl (by conv => lhs; whnf) rfl ?_
                        first | refine o_assign (v := .bool _) rfl rfl ?_ | refine o_assign (by conv => lhs; whnf) rfl ?_
                        refine WL_nil ?_
                        refine W_ret ?_
                        refine ret_1 rfl (by conv => lhs; whnf) ?_
                        first
                          | exact ⟨rfl, S86.fin⟩
                          | (exfalso; have hh := hy61.2 (cut_law (hy47.1 hb64) (hy54.1 hb66) (hd61.1 hb69)); rw [hh] at hb72; cases hb72; done)
                          | (exfalso; have hh := hy79.2 (self_law (hd79.1 hb91)); rw [hh] at hb94; cases hb94; done)
                          | (exfalso; have hh := hy86.2 (zero_law (hd86.1 hb98)); rw [hh] at hb101; cases hb101; done)
      · refine WL_on rfl rfl rfl ?_
        refine o_not rfl rfl ?_
        first | refine o_pick rfl (v := .bool _) rfl rfl ?_ | refine o_pick rfl (by conv => lhs; whnf) rfl ?_
        refine WL_nil ?_
        refine W_then rfl ?_
        refine W_seq ?_
        refine W_region ?_
        first | refine o_move (v := .bool _) rfl rfl ?_ | refine o_move (by conv => lhs; whnf) rfl ?_
        first | refine o_assign (v := .bool _) rfl rfl ?_ | refine o_assign (by conv => lhs; whnf) rfl ?_
        refine WL_nil ?_
        refine W_ret ?_
        refine ret_1 rfl (by conv => lhs; whnf) ?_
        first
          | exact ⟨rfl, S39.fin⟩
          | (exfalso; have hh := hy61.2 (cut_law (hy47.1 hb64) (hy54.1 hb66) (hd61.1 hb69)); rw [hh] at hb72; cases hb72; done)
          | (exfalso; have hh := hy79.2 (self_law (hd79.1 hb91)); rw [hh] at hb94; cases hb94; done)
          | (exfalso; have hh := hy86.2 (zero_law (hd86.1 hb98)); rw [hh] at hb101; cases hb101; done)
    · refine WL_on rfl rfl rfl ?_
      refine o_not rfl rfl ?_
      first | refine o_pick rfl (v := .bool _) rfl rfl ?_ | refine o_pick rfl (by conv => lhs; whnf) rfl ?_
      first | refine o_move (v := .bool _) rfl rfl ?_ | refine o_move (by conv => lhs; whnf) rfl ?_
      refine WL_off rfl rfl rfl rfl ?_
      refine WL_off rfl rfl rfl rfl ?_
      refine WL_off rfl rfl rfl rfl ?_
      refine WL_off rfl rfl rfl rfl ?_
      refine WL_off rfl rfl rfl rfl ?_
      refine WL_off rfl rfl rfl rfl ?_
      first | refine o_pick rfl (v := .bool _) rfl rfl ?_ | refine o_pick rfl (by conv => lhs; whnf) rfl ?_
      refine WL_nil ?_
      refine W_then rfl ?_
      refine W_seq ?_
      refine W_region ?_
      first | refine o_move (v := .bool _) rfl rfl ?_ | refine o_move (by conv => lhs; whnf) rfl ?_
      first | refine o_assign (v := .bool _) rfl rfl ?_ | refine o_assign (by conv => lhs; whnf) rfl ?_
      refine WL_nil ?_
      refine W_ret ?_
      refine ret_1 rfl (by conv => lhs; whnf) ?_
      first
        | exact ⟨rfl, S31.fin⟩
        | (exfalso; have hh := hy61.2 (cut_law (hy47.1 hb64) (hy54.1 hb66) (hd61.1 hb69)); rw [hh] at hb72; cases hb72; done)
        | (exfalso; have hh := hy79.2 (self_law (hd79.1 hb91)); rw [hh] at hb94; cases hb94; done)
        | (exfalso; have hh := hy86.2 (zero_law (hd86.1 hb98)); rw [hh] at hb101; cases hb101; done)
  · refine o_not rfl rfl ?_
    first | refine o_move (v := .bool _) rfl rfl ?_ | refine o_move (by conv => lhs; whnf) rfl ?_
    refine WL_off rfl rfl rfl rfl ?_
    refine WL_off rfl rfl rfl rfl ?_
    refine WL_off rfl rfl rfl rfl ?_
    refine WL_off rfl rfl rfl rfl ?_
    refine WL_off rfl rfl rfl rfl ?_
    refine WL_off rfl rfl rfl rfl ?_
    first | refine o_pick rfl (v := .bool _) rfl rfl ?_ | refine o_pick rfl (by conv => lhs; whnf) rfl ?_
    first | refine o_move (v := .bool _) rfl rfl ?_ | refine o_move (by conv => lhs; whnf) rfl ?_
    refine WL_off rfl rfl rfl rfl ?_
    refine WL_off rfl rfl rfl rfl ?_
    refine WL_off rfl rfl rfl rfl ?_
    refine WL_off rfl rfl rfl rfl ?_
    refine WL_off rfl rfl rfl rfl ?_
    refine WL_off rfl rfl rfl rfl ?_
    first | refine o_pick rfl (v := .bool _) rfl rfl ?_ | refine o_pick rfl (by conv => lhs; whnf) rfl ?_
    refine WL_nil ?_
    refine W_then rfl ?_
    refine W_seq ?_
    refine W_region ?_
    first | refine o_move (v := .bool _) rfl rfl ?_ | refine o_move (by conv => lhs; whnf) rfl ?_
    first | refine o_assign (v := .bool _) rfl rfl ?_ | refine o_assign (by conv => lhs; whnf) rfl ?_
    refine WL_nil ?_
    refine W_ret ?_
    refine ret_1 rfl (by conv => lhs; whnf) ?_
    first
      | exact ⟨rfl, S24.fin⟩
      | (exfalso; have hh := hy61.2 (cut_law (hy47.1 hb64) (hy54.1 hb66) (hd61.1 hb69)); rw [hh] at hb72; cases hb72; done)
      | (exfalso; have hh := hy79.2 (self_law (hd79.1 hb91)); rw [hh] at hb94; cases hb94; done)
      | (exfalso; have hh := hy86.2 (zero_law (hd86.1 hb98)); rw [hh] at hb101; cases hb101; done)
end Go.Proofs.YtinhchacppkmgaaDoor
