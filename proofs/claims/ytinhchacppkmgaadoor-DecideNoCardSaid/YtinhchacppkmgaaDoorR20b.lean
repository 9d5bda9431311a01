/-
  Contracts: Bits, Formed of the reference; Small and Quick of the law.
-/
import Derived.Test.YtinhchacppkmgaaDoorEx1
namespace Go.Proofs.YtinhchacppkmgaaDoor
open Go.Fw Go.RowKit

theorem cell_w {w : World} {b o : Nat} {cells : List CellD} (hce : ∀ (i : Nat) (x : CellD), cells[i]? = some x → ∃ cs, cs.length = 6 ∧ Cells w b (o + i * 6) cs ∧ RCell cs x) {x : Int} (h0 : 0 ≤ x) (h1 : x < cells.length) :
    w.cell? ⟨b, o + x.toNat * 6 + 1, none⟩ = some (.int .i64 (wAt cells x)) := by
  obtain ⟨m, rfl⟩ := Int.eq_ofNat_of_zero_le h0
  have hml : m < cells.length := by omega
  obtain ⟨cl, _, hcw, hrc⟩ := hce m cells[m] (List.getElem?_eq_getElem hml)
  have := hcw 1 (.int .i64 cells[m].w) (by rw [hrc.1]; rfl)
  simpa [wAt, hml] using this

theorem bits20_fn (c : CondD) (cells : List CellD) (M : List Nat) (w0 : World) (cs : List Value) (vc : Value) (hR : RdCond M w0 c cs) (hC : RdCs M w0 vc cells) (hM : ∀ g ∈ M, g < w0.heap.size) (hf : c.formed cells = true) :
    Does Tryd.prog 25 #[vc, .agg cs.toArray] w0 fun v w' => v = .int .i64 (bitsL cells (c.sup 3) + bitsL cells (c.sup 2)) ∧ Below w0.heap.size w0 w' := by
  obtain ⟨Ac, nc, cc, rfl⟩ := hC.form
  obtain ⟨hnc, hcc, hcm, hcbig, hcs⟩ := hC.at
  have hR' := hR
  obtain ⟨ch, cg, rfl, hh, hg⟩ := hR'
  obtain ⟨A, n, q, rfl, o1, o2, o3, hn, hq, hm, hbig, hks⟩ := hh.open_
  obtain ⟨A', n', q', rfl, o1', o2', o3', hn', hq', hm', hbig', hks'⟩ := hg.open_
  have S := St.refl w0
  have b3 := bitsL_bound cells (c.sup 3) (fun x hx => by have := csup_cell hf (.inr rfl) hx; omega)
  have b2 := bitsL_bound cells (c.sup 2) (fun x hx => by have := csup_cell hf (.inl rfl) hx; omega)
  have l3 := csup_len c 3
  have l2 := csup_len c 2
  simp only [List.cons_append, List.nil_append] at hR ⊢
  refine Does_enter Tryd.func25 rfl Tryd.ntmps25 rfl ?_
  refine W_seq ?_
  refine W_region ?_
  refine o_boxa S (by conv => lhs; whnf) rfl ?_
  intro g3 w3 S3 X3 G3
  first | refine o_assign (v := .int .i64 _) rfl rfl ?_ | refine o_assign (by conv => lhs; whnf) rfl ?_
  refine WL_nil ?_
  refine W_seq ?_
  refine W_region ?_
  first | refine o_loadN many_27 rfl (S3.cells 0 rfl) rfl rfl ?_
  refine o_calln S3 has_34 rfl rfl (support20_fn c M _ _ (hR.keep (S3.keep0 M)) (fun g hg => by have := hM g hg; have := S3.size; omega)) ?_
  rintro v12 w12 ⟨va, vb, rfl, ra, rb⟩ S12 X12
  obtain ⟨Aa, na, ca, rfl⟩ := ra.form
  obtain ⟨Ab, nb, cb, rfl⟩ := rb.form
  first | refine o_move (v := .tuple _) rfl rfl ?_ | refine o_move (by conv => lhs; whnf) rfl ?_
  refine o_extract rfl rfl rfl ?_
  refine o_extract rfl rfl rfl ?_
  first | refine o_assign (v := .slice _ _ _) rfl rfl ?_ | refine o_assign (by conv => lhs; whnf) rfl ?_
  first | refine o_assign (v := .slice _ _ _) rfl rfl ?_ | refine o_assign (by conv => lhs; whnf) rfl ?_
  refine WL_nil ?_
  refine W_seq ?_
  refine W_region ?_
  first | refine o_assign (v := .int .i64 _) rfl rfl ?_ | refine o_assign (by conv => lhs; whnf) rfl ?_
  refine WL_nil ?_
  refine W_seq ?_
  refine W_seq ?_
  refine W_region ?_
  first | refine o_assign (v := .int .i64 _) rfl rfl ?_ | refine o_assign (by conv => lhs; whnf) rfl ?_
  refine WL_nil ?_
  refine W_block ?_
  refine W_loop (fun μ D ε w => D = [] ∧ ∃ k : Nat, ∃ s : Int, (k + μ = (c.sup 3).length) ∧ (s + bitsL cells ((c.sup 3).drop k) = bitsL cells (c.sup 3)) ∧ (0 ≤ s) ∧ (RdI M w (.slice Aa na ca) (c.sup 3)) ∧ (RdI M w (.slice Ab nb cb) (c.sup 2)) ∧ St [] w0 w [] ∧ ε 0 = .slice Ac nc cc ∧ ε 5 = .slice Aa na ca ∧ ε 6 = .slice Ab nb cb ∧ ε 7 = .int .i64 s ∧ ε 8 = .int .i64 k) (μ := (c.sup 3).length) ⟨rfl, 0, 0, by omega, by simp, by omega, ra, rb, S12.nil, rfl, rfl, rfl, rfl, rfl⟩ ?_
  rintro μ D ε w ⟨rfl, k, s, hk, hs, hs0, ra, rb, S, e0, e5, e6, e7, e8⟩
  refine W_known 0 e0 ?_
  refine W_known 5 e5 ?_
  refine W_known 6 e6 ?_
  refine W_known 7 e7 ?_
  refine W_known 8 e8 ?_
  clear e0 e5 e6 e7 e8
  obtain ⟨hna, hca, hma, hbiga, hela⟩ := ra.at
  refine W_seq ?_
  refine W_seq ?_
  refine W_region ?_
  first | refine o_move (v := .int .i64 _) rfl rfl ?_ | refine o_move (by conv => lhs; whnf) rfl ?_
  first | refine o_move (v := .slice _ _ _) rfl rfl ?_ | refine o_move (by conv => lhs; whnf) rfl ?_
  refine o_len slz_28.slT rfl rfl ?_
  refine o_lss rfl rfl rfl (fun h18 => ?_) (fun h18 => ?_)
  · refine WL_nil ?_
    refine W_then rfl ?_
    refine W_skip ?_
    refine W_seq ?_
    refine W_block ?_
    refine W_region ?_
    have hlt : k < (c.sup 3).length := by omega
    obtain ⟨ba, oa, hA, hbM, hee⟩ := hela (by omega)
    obtain ⟨ck, hck1, hck2, hck3⟩ := hee k (c.sup 3)[k] (List.getElem?_eq_getElem hlt)
    have hce2 : w.cell? ⟨ba, oa + k * 1, none⟩ = some (.int .i64 (c.sup 3)[k]) := hck2 0 _ (by rw [hck3.1]; rfl)
    have hcc := csup_cell hf (.inr rfl) (List.getElem_mem hlt)
    obtain ⟨bc, oc, hAc, hbc, hce⟩ := hcs (by omega)
    have hcw := cell_w hce (x := (c.sup 3)[k]) (by omega) (by omega)
    have hd : bitsL cells ((c.sup 3).drop k) = wAt cells (c.sup 3)[k] + bitsL cells ((c.sup 3).drop (k + 1)) := by rw [List.drop_eq_getElem_cons hlt]; rfl
    have bd := bitsL_bound cells ((c.sup 3).drop (k + 1)) (fun x hx => by have := csup_cell hf (.inr rfl) (List.mem_of_mem_drop hx); omega)
    first | refine o_move (v := .int .i64 _) rfl rfl ?_ | refine o_move (by conv => lhs; whnf) rfl ?_
    first | refine o_move (v := .slice _ _ _) rfl rfl ?_ | refine o_move (by conv => lhs; whnf) rfl ?_
    first | refine o_move (v := .slice _ _ _) rfl rfl ?_ | refine o_move (by conv => lhs; whnf) rfl ?_
    first | refine o_move (v := .int .i64 _) rfl rfl ?_ | refine o_move (by conv => lhs; whnf) rfl ?_
    refine o_indexAddr slz_28.slT rfl (by first | rfl | assumption) rfl (by omega) (by omega) rfl ?_
    refine o_load one_3 rfl (by first | exact S.old hcw | exact hce2) rfl ?_
    refine o_indexAddr slz_22.slT rfl (by first | rfl | assumption) rfl (by omega) (by omega) rfl ?_
    refine o_fieldAddr fa_48_1 rfl rfl ?_
    refine o_load one_3 rfl (by first | exact S.old hcw | exact hce2) rfl ?_
    refine o_add rfl rfl (by unfold i64; omega) rfl ?_
    first | refine o_assign (v := .int .i64 _) rfl rfl ?_ | refine o_assign (by conv => lhs; whnf) rfl ?_
    refine WL_nil ?_
    refine W_region ?_
    first | refine o_move (v := .int .i64 _) rfl rfl ?_ | refine o_move (by conv => lhs; whnf) rfl ?_
    refine o_add rfl rfl (by unfold i64; omega) rfl ?_
    first | refine o_assign (v := .int .i64 _) rfl rfl ?_ | refine o_assign (by conv => lhs; whnf) rfl ?_
    refine WL_nil ?_
    refine ⟨μ - 1, by omega, rfl, k + 1, _, by omega, ?_, ?_, ra, rb, S, rfl, rfl, rfl, rfl, rfl⟩
    · omega
    · omega
  · refine WL_nil ?_
    refine W_else rfl ?_
    refine W_exit ?_
    refine bcons_here ?_
    refine W_seq ?_
    refine W_seq ?_
    refine W_region ?_
    first | refine o_assign (v := .int .i64 _) rfl rfl ?_ | refine o_assign (by conv => lhs; whnf) rfl ?_
    refine WL_nil ?_
    refine W_block ?_
    refine W_loop (fun μ D ε w => D = [] ∧ ∃ j : Nat, ∃ s2 : Int, (j + μ = (c.sup 2).length) ∧ (s2 + bitsL cells ((c.sup 2).drop j) = bitsL cells (c.sup 3) + bitsL cells (c.sup 2)) ∧ (0 ≤ s2) ∧ (RdI M w (.slice Ab nb cb) (c.sup 2)) ∧ St [] w0 w [] ∧ ε 0 = .slice Ac nc cc ∧ ε 6 = .slice Ab nb cb ∧ ε 7 = .int .i64 s2 ∧ ε 9 = .int .i64 j) (μ := (c.sup 2).length) ⟨rfl, 0, s, by omega, by rw [List.drop_eq_nil_of_le (show (c.sup 3).length ≤ k by omega)] at hs; simp only [bitsL, List.drop_zero] at hs ⊢; omega, hs0, rb, S, rfl, rfl, rfl, rfl⟩ ?_
    rintro μ D ε w ⟨rfl, j, s2, hj, hs2, hs20, rb, S, e0, e6, e7, e9⟩
    refine W_known 0 e0 ?_
    refine W_known 6 e6 ?_
    refine W_known 7 e7 ?_
    refine W_known 9 e9 ?_
    clear e0 e6 e7 e9
    obtain ⟨hnb, hcb, hmb, hbigb, helb⟩ := rb.at
    refine W_seq ?_
    refine W_seq ?_
    refine W_region ?_
    first | refine o_move (v := .int .i64 _) rfl rfl ?_ | refine o_move (by conv => lhs; whnf) rfl ?_
    first | refine o_move (v := .slice _ _ _) rfl rfl ?_ | refine o_move (by conv => lhs; whnf) rfl ?_
    refine o_len slz_28.slT rfl rfl ?_
    refine o_lss rfl rfl rfl (fun h34 => ?_) (fun h34 => ?_)
    · refine WL_nil ?_
      refine W_then rfl ?_
      refine W_skip ?_
      refine W_seq ?_
      refine W_block ?_
      refine W_region ?_
      have hlt : j < (c.sup 2).length := by omega
      obtain ⟨ba, oa, hA, hbM, hee⟩ := helb (by omega)
      obtain ⟨ck, hck1, hck2, hck3⟩ := hee j (c.sup 2)[j] (List.getElem?_eq_getElem hlt)
      have hce2 : w.cell? ⟨ba, oa + j * 1, none⟩ = some (.int .i64 (c.sup 2)[j]) := hck2 0 _ (by rw [hck3.1]; rfl)
      have hcc := csup_cell hf (.inl rfl) (List.getElem_mem hlt)
      obtain ⟨bc, oc, hAc, hbc, hce⟩ := hcs (by omega)
      have hcw := cell_w hce (x := (c.sup 2)[j]) (by omega) (by omega)
      have hd : bitsL cells ((c.sup 2).drop j) = wAt cells (c.sup 2)[j] + bitsL cells ((c.sup 2).drop (j + 1)) := by rw [List.drop_eq_getElem_cons hlt]; rfl
      have bd := bitsL_bound cells ((c.sup 2).drop (j + 1)) (fun x hx => by have := csup_cell hf (.inl rfl) (List.mem_of_mem_drop hx); omega)
      first | refine o_move (v := .int .i64 _) rfl rfl ?_ | refine o_move (by conv => lhs; whnf) rfl ?_
      first | refine o_move (v := .slice _ _ _) rfl rfl ?_ | refine o_move (by conv => lhs; whnf) rfl ?_
      first | refine o_move (v := .slice _ _ _) rfl rfl ?_ | refine o_move (by conv => lhs; whnf) rfl ?_
      first | refine o_move (v := .int .i64 _) rfl rfl ?_ | refine o_move (by conv => lhs; whnf) rfl ?_
      refine o_indexAddr slz_28.slT rfl (by first | rfl | assumption) rfl (by omega) (by omega) rfl ?_
      refine o_load one_3 rfl (by first | exact S.old hcw | exact hce2) rfl ?_
      refine o_indexAddr slz_22.slT rfl (by first | rfl | assumption) rfl (by omega) (by omega) rfl ?_
      refine o_fieldAddr fa_48_1 rfl rfl ?_
      refine o_load one_3 rfl (by first | exact S.old hcw | exact hce2) rfl ?_
      refine o_add rfl rfl (by unfold i64; omega) rfl ?_
      first | refine o_assign (v := .int .i64 _) rfl rfl ?_ | refine o_assign (by conv => lhs; whnf) rfl ?_
      refine WL_nil ?_
      refine W_region ?_
      first | refine o_move (v := .int .i64 _) rfl rfl ?_ | refine o_move (by conv => lhs; whnf) rfl ?_
      refine o_add rfl rfl (by unfold i64; omega) rfl ?_
      first | refine o_assign (v := .int .i64 _) rfl rfl ?_ | refine o_assign (by conv => lhs; whnf) rfl ?_
      refine WL_nil ?_
      refine ⟨μ - 1, by omega, rfl, j + 1, _, by omega, ?_, ?_, rb, S, rfl, rfl, rfl, rfl⟩
      · omega
      · omega
    · refine WL_nil ?_
      refine W_else rfl ?_
      refine W_exit ?_
      refine bcons_here ?_
      refine W_seq ?_
      refine W_region ?_
      first | refine o_move (v := .int .i64 _) rfl rfl ?_ | refine o_move (by conv => lhs; whnf) rfl ?_
      first | refine o_assign (v := .int .i64 _) rfl rfl ?_ | refine o_assign (by conv => lhs; whnf) rfl ?_
      refine WL_nil ?_
      refine W_ret ?_
      refine ret_1 rfl (by conv => lhs; whnf) ?_
      refine ⟨congrArg (Value.int .i64) ?_, S.fin⟩
      rw [List.drop_eq_nil_of_le (show (c.sup 2).length ≤ j by omega)] at hs2
      simp only [bitsL] at hs2; omega

theorem formed20_fn (c : CondD) (cells : List CellD) (M : List Nat) (w0 : World) (cs : List Value) (vc : Value) (hR : RdCond M w0 c cs) (hC : RdCs M w0 vc cells) :
    Does Tryd.prog 14 #[vc, .agg cs.toArray] w0 fun v w' => v = .bool (c.formed cells) ∧ Below w0.heap.size w0 w' := by
  obtain ⟨Ac, nc, cc, rfl⟩ := hC.form
  obtain ⟨ch, cg, rfl, hh, hg⟩ := hR
  obtain ⟨A, n, q, rfl, o1, o2, o3, hn, hq, hm, hbig, hks⟩ := hh.open_
  obtain ⟨A', n', q', rfl, o1', o2', o3', hn', hq', hm', hbig', hks'⟩ := hg.open_
  have S := St.refl w0
  simp only [List.cons_append, List.nil_append]
  refine Does_enter Tryd.func14 rfl Tryd.ntmps14 rfl ?_
  refine W_seq ?_
  refine W_region ?_
  refine o_boxa S (by conv => lhs; whnf) rfl ?_
  intro g3 w3 S3 X3 G3
  first | refine o_assign (v := .bool _) rfl rfl ?_ | refine o_assign (by conv => lhs; whnf) rfl ?_
  refine WL_nil ?_
  refine W_seq ?_
  refine W_region ?_
  refine o_fieldAddr fa_27_6 rfl rfl ?_
  first | refine o_loadN many_25 rfl (S3.cells 0 rfl) rfl rfl ?_ | refine o_loadN many_25 rfl (cs := [_, _, _, _]) (S3.cellsAt 0 6 4 rfl) rfl rfl ?_ | refine o_loadN many_25 rfl (cs := [_, _, _, _]) (S3.cellsAt 0 10 4 rfl) rfl rfl ?_
  first | refine o_move (v := .slice _ _ _) rfl rfl ?_ | refine o_move (by conv => lhs; whnf) rfl ?_
  refine o_callb S3 has_33 rfl rfl (valid_fn c.hyp M _ _ _ cells true (RdE.keep (S3.keep0 M) _ _ hh) (hC.keep (S3.keep0 M))) (fun h8 w8 S8 X8 => ?_) (fun h8 w8 S8 X8 => ?_)
  · first | refine o_move (v := .bool _) rfl rfl ?_ | refine o_move (by conv => lhs; whnf) rfl ?_
    refine WL_on rfl rfl rfl ?_
    refine o_fieldAddr fa_27_7 rfl rfl ?_
    refine WL_on rfl rfl rfl ?_
    first | refine o_loadN many_25 rfl (S8.cells 0 rfl) rfl rfl ?_ | refine o_loadN many_25 rfl (cs := [_, _, _, _]) (S8.cellsAt 0 6 4 rfl) rfl rfl ?_ | refine o_loadN many_25 rfl (cs := [_, _, _, _]) (S8.cellsAt 0 10 4 rfl) rfl rfl ?_
    refine WL_on rfl rfl rfl ?_
    first | refine o_move (v := .slice _ _ _) rfl rfl ?_ | refine o_move (by conv => lhs; whnf) rfl ?_
    refine WL_on rfl rfl rfl ?_
    refine o_callb S8 has_33 rfl rfl (valid_fn c.goal M _ _ _ cells true (RdE.keep (S8.keep0 M) _ _ hg) (hC.keep (S8.keep0 M))) (fun h13 w13 S13 X13 => ?_) (fun h13 w13 S13 X13 => ?_)
    · first | refine o_pick rfl (v := .bool _) rfl rfl ?_ | refine o_pick rfl (by conv => lhs; whnf) rfl ?_
      first | refine o_move (v := .bool _) rfl rfl ?_ | refine o_move (by conv => lhs; whnf) rfl ?_
      refine WL_on rfl rfl rfl ?_
      refine o_fieldAddr fa_27_6 rfl rfl ?_
      refine WL_on rfl rfl rfl ?_
      refine o_fieldAddr fa_25_1 rfl rfl ?_
      refine WL_on rfl rfl rfl ?_
      refine o_load one_3 rfl (by first | exact S13.cell 0 rfl rfl) rfl ?_
      refine WL_on rfl rfl rfl ?_
      refine o_eql rfl rfl rfl (fun h19 => ?_) (fun h19 => ?_)
      · first | refine o_pick rfl (v := .bool _) rfl rfl ?_ | refine o_pick rfl (by conv => lhs; whnf) rfl ?_
        first | refine o_move (v := .bool _) rfl rfl ?_ | refine o_move (by conv => lhs; whnf) rfl ?_
        refine WL_on rfl rfl rfl ?_
        refine o_fieldAddr fa_27_7 rfl rfl ?_
        refine WL_on rfl rfl rfl ?_
        refine o_fieldAddr fa_25_1 rfl rfl ?_
        refine WL_on rfl rfl rfl ?_
        refine o_load one_3 rfl (by first | exact S13.cell 0 rfl rfl) rfl ?_
        refine WL_on rfl rfl rfl ?_
        refine o_eql rfl rfl rfl (fun h25 => ?_) (fun h25 => ?_)
        · first | refine o_pick rfl (v := .bool _) rfl rfl ?_ | refine o_pick rfl (by conv => lhs; whnf) rfl ?_
          first | refine o_assign (v := .bool _) rfl rfl ?_ | refine o_assign (by conv => lhs; whnf) rfl ?_
          refine WL_nil ?_
          refine W_ret ?_
          refine ret_1 rfl (by conv => lhs; whnf) ?_
          refine ⟨congrArg Value.bool ?_, S13.fin⟩
          unfold CondD.formed
          first
            | (simp [h8, h13, h19, h25]; done)
            | (simp [h8, h13, h19]; done)
            | (simp [h8, h13]; done)
            | (simp [h8]; done)
        · first | refine o_pick rfl (v := .bool _) rfl rfl ?_ | refine o_pick rfl (by conv => lhs; whnf) rfl ?_
          first | refine o_assign (v := .bool _) rfl rfl ?_ | refine o_assign (by conv => lhs; whnf) rfl ?_
          refine WL_nil ?_
          refine W_ret ?_
          refine ret_1 rfl (by conv => lhs; whnf) ?_
          refine ⟨congrArg Value.bool ?_, S13.fin⟩
          unfold CondD.formed
          first
            | (simp [h8, h13, h19, h25]; done)
            | (simp [h8, h13, h19]; done)
            | (simp [h8, h13]; done)
            | (simp [h8]; done)
      · first | refine o_pick rfl (v := .bool _) rfl rfl ?_ | refine o_pick rfl (by conv => lhs; whnf) rfl ?_
        first | refine o_move (v := .bool _) rfl rfl ?_ | refine o_move (by conv => lhs; whnf) rfl ?_
        refine WL_off rfl rfl rfl rfl ?_
        refine WL_off rfl rfl rfl rfl ?_
        refine WL_off rfl rfl rfl rfl ?_
        refine WL_off rfl rfl rfl rfl ?_
        first | refine o_pick rfl (v := .bool _) rfl rfl ?_ | refine o_pick rfl (by conv => lhs; whnf) rfl ?_
        first | refine o_assign (v := .bool _) rfl rfl ?_ | refine o_assign (by conv => lhs; whnf) rfl ?_
        refine WL_nil ?_
        refine W_ret ?_
        refine ret_1 rfl (by conv => lhs; whnf) ?_
        refine ⟨congrArg Value.bool ?_, S13.fin⟩
        unfold CondD.formed
        first
          | (simp [h8, h13, h19, h25]; done)
          | (simp [h8, h13, h19]; done)
          | (simp [h8, h13]; done)
          | (simp [h8]; done)
    · first | refine o_pick rfl (v := .bool _) rfl rfl ?_ | refine o_pick rfl (by conv => lhs; whnf) rfl ?_
      first | refine o_move (v := .bool _) rfl rfl ?_ | refine o_move (by conv => lhs; whnf) rfl ?_
      refine WL_off rfl rfl rfl rfl ?_
      refine WL_off rfl rfl rfl rfl ?_
      refine WL_off rfl rfl rfl rfl ?_
      refine WL_off rfl rfl rfl rfl ?_
      first | refine o_pick rfl (v := .bool _) rfl rfl ?_ | refine o_pick rfl (by conv => lhs; whnf) rfl ?_
      first | refine o_move (v := .bool _) rfl rfl ?_ | refine o_move (by conv => lhs; whnf) rfl ?_
      refine WL_off rfl rfl rfl rfl ?_
      refine WL_off rfl rfl rfl rfl ?_
      refine WL_off rfl rfl rfl rfl ?_
      refine WL_off rfl rfl rfl rfl ?_
      first | refine o_pick rfl (v := .bool _) rfl rfl ?_ | refine o_pick rfl (by conv => lhs; whnf) rfl ?_
      first | refine o_assign (v := .bool _) rfl rfl ?_ | refine o_assign (by conv => lhs; whnf) rfl ?_
      refine WL_nil ?_
      refine W_ret ?_
      refine ret_1 rfl (by conv => lhs; whnf) ?_
      refine ⟨congrArg Value.bool ?_, S13.fin⟩
      unfold CondD.formed
      first
        | (simp [h8, h13, h19, h25]; done)
        | (simp [h8, h13, h19]; done)
        | (simp [h8, h13]; done)
        | (simp [h8]; done)
  · first | refine o_move (v := .bool _) rfl rfl ?_ | refine o_move (by conv => lhs; whnf) rfl ?_
    refine WL_off rfl rfl rfl rfl ?_
    refine WL_off rfl rfl rfl rfl ?_
    refine WL_off rfl rfl rfl rfl ?_
    refine WL_off rfl rfl rfl rfl ?_
    first | refine o_pick rfl (v := .bool _) rfl rfl ?_ | refine o_pick rfl (by conv => lhs; whnf) rfl ?_
    first | refine o_move (v := .bool _) rfl rfl ?_ | refine o_move (by conv => lhs; whnf) rfl ?_
    refine WL_off rfl rfl rfl rfl ?_
    refine WL_off rfl rfl rfl rfl ?_
    refine WL_off rfl rfl rfl rfl ?_
    refine WL_off rfl rfl rfl rfl ?_
    first | refine o_pick rfl (v := .bool _) rfl rfl ?_ | refine o_pick rfl (by conv => lhs; whnf) rfl ?_
    first | refine o_move (v := .bool _) rfl rfl ?_ | refine o_move (by conv => lhs; whnf) rfl ?_
    refine WL_off rfl rfl rfl rfl ?_
    refine WL_off rfl rfl rfl rfl ?_
    refine WL_off rfl rfl rfl rfl ?_
    refine WL_off rfl rfl rfl rfl ?_
    first | refine o_pick rfl (v := .bool _) rfl rfl ?_ | refine o_pick rfl (by conv => lhs; whnf) rfl ?_
    first | refine o_assign (v := .bool _) rfl rfl ?_ | refine o_assign (by conv => lhs; whnf) rfl ?_
    refine WL_nil ?_
    refine W_ret ?_
    refine ret_1 rfl (by conv => lhs; whnf) ?_
    refine ⟨congrArg Value.bool ?_, S8.fin⟩
    unfold CondD.formed
    first
      | (simp [h8, h13, h19, h25]; done)
      | (simp [h8, h13, h19]; done)
      | (simp [h8, h13]; done)
      | (simp [h8]; done)

theorem small20_fn (c : CondD) (cells : List CellD) (M : List Nat) (w0 : World) (cs : List Value) (vc : Value) (hR : RdCond M w0 c cs) (hC : RdCs M w0 vc cells) :
    Does Tryd.prog 24 #[vc, .agg cs.toArray] w0 fun v w' => v = .bool (c.small cells) ∧ Below w0.heap.size w0 w' := by
  obtain ⟨Ac, nc, cc, rfl⟩ := hC.form
  obtain ⟨hnc, hcc, hcm, hcbig, hcs⟩ := hC.at
  obtain ⟨ch, cg, rfl, hh, hg⟩ := hR
  obtain ⟨A, n, q, rfl, o1, o2, o3, hn, hq, hm, hbig, hks⟩ := hh.open_
  obtain ⟨A', n', q', rfl, o1', o2', o3', hn', hq', hm', hbig', hks'⟩ := hg.open_
  have S := St.refl w0
  simp only [List.cons_append, List.nil_append]
  refine Does_enter Tryd.func24 rfl Tryd.ntmps24 rfl ?_
  refine W_seq ?_
  refine W_region ?_
  refine o_boxa S (by conv => lhs; whnf) rfl ?_
  intro g3 w3 S3 X3 G3
  first | refine o_assign (v := .bool _) rfl rfl ?_ | refine o_assign (by conv => lhs; whnf) rfl ?_
  refine WL_nil ?_
  refine W_seq ?_
  refine W_region ?_
  first | refine o_move (v := .slice _ _ _) rfl rfl ?_ | refine o_move (by conv => lhs; whnf) rfl ?_
  refine o_len slz_22.slT rfl rfl ?_
  refine o_leq rfl rfl rfl (fun h7 => ?_) (fun h7 => ?_)
  · first | refine o_move (v := .bool _) rfl rfl ?_ | refine o_move (by conv => lhs; whnf) rfl ?_
    refine WL_on rfl rfl rfl ?_
    refine o_fieldAddr fa_27_6 rfl rfl ?_
    refine WL_on rfl rfl rfl ?_
    first | refine o_loadN many_25 rfl (S3.cells 0 rfl) rfl rfl ?_ | refine o_loadN many_25 rfl (cs := [_, _, _, _]) (S3.cellsAt 0 6 4 rfl) rfl rfl ?_ | refine o_loadN many_25 rfl (cs := [_, _, _, _]) (S3.cellsAt 0 10 4 rfl) rfl rfl ?_
    refine WL_on rfl rfl rfl ?_
    refine o_callb S3 has_13 rfl rfl (small_fn c.hyp M _ _ _ (RdE.keep (S3.keep0 M) _ _ hh) (by omega) (by omega)) (fun h11 w11 S11 X11 => ?_) (fun h11 w11 S11 X11 => ?_)
    · first | refine o_pick rfl (v := .bool _) rfl rfl ?_ | refine o_pick rfl (by conv => lhs; whnf) rfl ?_
      first | refine o_move (v := .bool _) rfl rfl ?_ | refine o_move (by conv => lhs; whnf) rfl ?_
      refine WL_on rfl rfl rfl ?_
      refine o_fieldAddr fa_27_7 rfl rfl ?_
      refine WL_on rfl rfl rfl ?_
      first | refine o_loadN many_25 rfl (S11.cells 0 rfl) rfl rfl ?_ | refine o_loadN many_25 rfl (cs := [_, _, _, _]) (S11.cellsAt 0 6 4 rfl) rfl rfl ?_ | refine o_loadN many_25 rfl (cs := [_, _, _, _]) (S11.cellsAt 0 10 4 rfl) rfl rfl ?_
      refine WL_on rfl rfl rfl ?_
      refine o_callb S11 has_13 rfl rfl (small_fn c.goal M _ _ _ (RdE.keep (S11.keep0 M) _ _ hg) (by omega) (by omega)) (fun h16 w16 S16 X16 => ?_) (fun h16 w16 S16 X16 => ?_)
      · first | refine o_pick rfl (v := .bool _) rfl rfl ?_ | refine o_pick rfl (by conv => lhs; whnf) rfl ?_
        first | refine o_assign (v := .bool _) rfl rfl ?_ | refine o_assign (by conv => lhs; whnf) rfl ?_
        refine WL_nil ?_
        refine W_ret ?_
        refine ret_1 rfl (by conv => lhs; whnf) ?_
        refine ⟨congrArg Value.bool ?_, S16.fin⟩
        unfold CondD.small
        first
          | (rw [decide_eq_true (show cells.length ≤ 40 by omega), decide_eq_true (show c.hyp.cnt ≤ 60 by simp at h11; omega), decide_eq_true (show c.goal.cnt ≤ 60 by simp at h16; omega)]; rfl)
          | (rw [decide_eq_true (show cells.length ≤ 40 by omega), decide_eq_true (show c.hyp.cnt ≤ 60 by simp at h11; omega), decide_eq_false (show ¬ c.goal.cnt ≤ 60 by simp at h16; omega)]; rfl)
          | (rw [decide_eq_true (show cells.length ≤ 40 by omega), decide_eq_false (show ¬ c.hyp.cnt ≤ 60 by simp at h11; omega)]; rfl)
          | (rw [decide_eq_false (show ¬ cells.length ≤ 40 by omega)]; rfl)
      · first | refine o_pick rfl (v := .bool _) rfl rfl ?_ | refine o_pick rfl (by conv => lhs; whnf) rfl ?_
        first | refine o_assign (v := .bool _) rfl rfl ?_ | refine o_assign (by conv => lhs; whnf) rfl ?_
        refine WL_nil ?_
        refine W_ret ?_
        refine ret_1 rfl (by conv => lhs; whnf) ?_
        refine ⟨congrArg Value.bool ?_, S16.fin⟩
        unfold CondD.small
        first
          | (rw [decide_eq_true (show cells.length ≤ 40 by omega), decide_eq_true (show c.hyp.cnt ≤ 60 by simp at h11; omega), decide_eq_true (show c.goal.cnt ≤ 60 by simp at h16; omega)]; rfl)
          | (rw [decide_eq_true (show cells.length ≤ 40 by omega), decide_eq_true (show c.hyp.cnt ≤ 60 by simp at h11; omega), decide_eq_false (show ¬ c.goal.cnt ≤ 60 by simp at h16; omega)]; rfl)
          | (rw [decide_eq_true (show cells.length ≤ 40 by omega), decide_eq_false (show ¬ c.hyp.cnt ≤ 60 by simp at h11; omega)]; rfl)
          | (rw [decide_eq_false (show ¬ cells.length ≤ 40 by omega)]; rfl)
    · first | refine o_pick rfl (v := .bool _) rfl rfl ?_ | refine o_pick rfl (by conv => lhs; whnf) rfl ?_
      first | refine o_move (v := .bool _) rfl rfl ?_ | refine o_move (by conv => lhs; whnf) rfl ?_
      refine WL_off rfl rfl rfl rfl ?_
      refine WL_off rfl rfl rfl rfl ?_
      refine WL_off rfl rfl rfl rfl ?_
      first | refine o_pick rfl (v := .bool _) rfl rfl ?_ | refine o_pick rfl (by conv => lhs; whnf) rfl ?_
      first | refine o_assign (v := .bool _) rfl rfl ?_ | refine o_assign (by conv => lhs; whnf) rfl ?_
      refine WL_nil ?_
      refine W_ret ?_
      refine ret_1 rfl (by conv => lhs; whnf) ?_
      refine ⟨congrArg Value.bool ?_, S11.fin⟩
      unfold CondD.small
      first
        | (rw [decide_eq_true (show cells.length ≤ 40 by omega), decide_eq_true (show c.hyp.cnt ≤ 60 by simp at h11; omega), decide_eq_true (show c.goal.cnt ≤ 60 by simp at h16; omega)]; rfl)
        | (rw [decide_eq_true (show cells.length ≤ 40 by omega), decide_eq_true (show c.hyp.cnt ≤ 60 by simp at h11; omega), decide_eq_false (show ¬ c.goal.cnt ≤ 60 by simp at h16; omega)]; rfl)
        | (rw [decide_eq_true (show cells.length ≤ 40 by omega), decide_eq_false (show ¬ c.hyp.cnt ≤ 60 by simp at h11; omega)]; rfl)
        | (rw [decide_eq_false (show ¬ cells.length ≤ 40 by omega)]; rfl)
  · first | refine o_move (v := .bool _) rfl rfl ?_ | refine o_move (by conv => lhs; whnf) rfl ?_
    refine WL_off rfl rfl rfl rfl ?_
    refine WL_off rfl rfl rfl rfl ?_
    refine WL_off rfl rfl rfl rfl ?_
    first | refine o_pick rfl (v := .bool _) rfl rfl ?_ | refine o_pick rfl (by conv => lhs; whnf) rfl ?_
    first | refine o_move (v := .bool _) rfl rfl ?_ | refine o_move (by conv => lhs; whnf) rfl ?_
    refine WL_off rfl rfl rfl rfl ?_
    refine WL_off rfl rfl rfl rfl ?_
    refine WL_off rfl rfl rfl rfl ?_
    first | refine o_pick rfl (v := .bool _) rfl rfl ?_ | refine o_pick rfl (by conv => lhs; whnf) rfl ?_
    first | refine o_assign (v := .bool _) rfl rfl ?_ | refine o_assign (by conv => lhs; whnf) rfl ?_
    refine WL_nil ?_
    refine W_ret ?_
    refine ret_1 rfl (by conv => lhs; whnf) ?_
    refine ⟨congrArg Value.bool ?_, S3.fin⟩
    unfold CondD.small
    first
      | (rw [decide_eq_true (show cells.length ≤ 40 by omega), decide_eq_true (show c.hyp.cnt ≤ 60 by simp at h11; omega), decide_eq_true (show c.goal.cnt ≤ 60 by simp at h16; omega)]; rfl)
      | (rw [decide_eq_true (show cells.length ≤ 40 by omega), decide_eq_true (show c.hyp.cnt ≤ 60 by simp at h11; omega), decide_eq_false (show ¬ c.goal.cnt ≤ 60 by simp at h16; omega)]; rfl)
      | (rw [decide_eq_true (show cells.length ≤ 40 by omega), decide_eq_false (show ¬ c.hyp.cnt ≤ 60 by simp at h11; omega)]; rfl)
      | (rw [decide_eq_false (show ¬ cells.length ≤ 40 by omega)]; rfl)

/-- 'Quick' returns; when it says yes, the condition is small. -/
theorem quick_fn (c : CondD) (cells : List CellD) (M : List Nat) (w0 : World) (cs : List Value) (vc : Value) (hR : RdCond M w0 c cs) (hC : RdCs M w0 vc cells) (hM : ∀ g ∈ M, g < w0.heap.size) :
    ∃ b : Bool, (b = true → c.small cells = true) ∧ Does Tryd.prog 8 #[vc, .agg cs.toArray] w0 fun v w' => v = .bool b ∧ Below w0.heap.size w0 w' := by
  obtain ⟨Ac, nc, cc, rfl⟩ := hC.form
  have hR' := hR
  obtain ⟨ch, cg, rfl, hh, hg⟩ := hR'
  obtain ⟨A, n, q, rfl, o1, o2, o3, hn, hq, hm, hbig, hks⟩ := hh.open_
  obtain ⟨A', n', q', rfl, o1', o2', o3', hn', hq', hm', hbig', hks'⟩ := hg.open_
  have S := St.refl w0
  simp only [List.cons_append, List.nil_append] at hR ⊢
  refine ⟨c.small cells && (!c.formed cells || (decide (bitsL cells (c.sup 3) + bitsL cells (c.sup 2) ≤ 10) || decide (14 < bitsL cells (c.sup 3) + bitsL cells (c.sup 2)))), fun h => by simp at h; exact h.1, ?_⟩
  refine Does_enter Tryd.func8 rfl Tryd.ntmps8 rfl ?_
  refine W_seq ?_
  refine W_region ?_
  refine o_boxa S (by conv => lhs; whnf) rfl ?_
  intro g3 w3 S3 X3 G3
  first | refine o_assign (v := .bool _) rfl rfl ?_ | refine o_assign (by conv => lhs; whnf) rfl ?_
  refine WL_nil ?_
  refine W_seq ?_
  refine W_seq ?_
  refine W_region ?_
  first | refine o_move (v := .slice _ _ _) rfl rfl ?_ | refine o_move (by conv => lhs; whnf) rfl ?_
  first | refine o_loadN many_27 rfl (S3.cells 0 rfl) rfl rfl ?_
  refine o_callb S3 has_24 rfl rfl (small20_fn c cells M _ _ _ (hR.keep (S3.keep0 M)) (hC.keep (S3.keep0 M))) (fun h7 w7 S7 X7 => ?_) (fun h7 w7 S7 X7 => ?_)
  · refine o_not rfl rfl ?_
    refine WL_nil ?_
    refine W_else rfl ?_
    refine W_skip ?_
    refine W_seq ?_
    refine W_region ?_
    first | refine o_move (v := .slice _ _ _) rfl rfl ?_ | refine o_move (by conv => lhs; whnf) rfl ?_
    first | refine o_loadN many_27 rfl (S7.cells 0 rfl) rfl rfl ?_
    refine o_callb S7 has_14 rfl rfl (formed20_fn c cells M _ _ _ (hR.keep (S7.keep0 M)) (hC.keep (S7.keep0 M))) (fun h11 w11 S11 X11 => ?_) (fun h11 w11 S11 X11 => ?_)
    · refine o_not rfl rfl ?_
      first | refine o_move (v := .bool _) rfl rfl ?_ | refine o_move (by conv => lhs; whnf) rfl ?_
      refine WL_on rfl rfl rfl ?_
      first | refine o_move (v := .slice _ _ _) rfl rfl ?_ | refine o_move (by conv => lhs; whnf) rfl ?_
      refine WL_on rfl rfl rfl ?_
      first | refine o_loadN many_27 rfl (S11.cells 0 rfl) rfl rfl ?_
      refine WL_on rfl rfl rfl ?_
      refine o_callr S11 has_25 rfl rfl (bits20_fn c cells M _ _ _ (hR.keep (S11.keep0 M)) (hC.keep (S11.keep0 M)) (fun g hg => by have := hM g hg; have := S11.size; omega) h11) ?_
      intro w16 S16 X16
      refine WL_on rfl rfl rfl ?_
      refine o_leq rfl rfl rfl (fun h17 => ?_) (fun h17 => ?_)
      · first | refine o_pick rfl (v := .bool _) rfl rfl ?_ | refine o_pick rfl (by conv => lhs; whnf) rfl ?_
        first | refine o_move (v := .bool _) rfl rfl ?_ | refine o_move (by conv => lhs; whnf) rfl ?_
        refine WL_off rfl rfl rfl rfl ?_
        refine WL_off rfl rfl rfl rfl ?_
        refine WL_off rfl rfl rfl rfl ?_
        refine WL_off rfl rfl rfl rfl ?_
        first | refine o_pick rfl (v := .bool _) rfl rfl ?_ | refine o_pick rfl (by conv => lhs; whnf) rfl ?_
        first | refine o_assign (v := .bool _) rfl rfl ?_ | refine o_assign (by conv => lhs; whnf) rfl ?_
        refine WL_nil ?_
        refine W_ret ?_
        refine ret_1 rfl (by conv => lhs; whnf) ?_
        refine ⟨congrArg Value.bool ?_, S16.fin⟩
        first
          | (simp [h7]; done)
          | (simp [h7, h11]; done)
          | (rw [h7, h11, decide_eq_true (show _ ≤ (10 : Int) by omega)]; rfl)
          | (rw [h7, h11, decide_eq_false (show ¬ _ ≤ (10 : Int) by omega), decide_eq_false (show ¬ (14 : Int) < _ by omega)]; rfl)
          | (rw [h7, h11, decide_eq_false (show ¬ _ ≤ (10 : Int) by omega), decide_eq_true (show (14 : Int) < _ by omega)]; rfl)
      · first | refine o_pick rfl (v := .bool _) rfl rfl ?_ | refine o_pick rfl (by conv => lhs; whnf) rfl ?_
        first | refine o_move (v := .bool _) rfl rfl ?_ | refine o_move (by conv => lhs; whnf) rfl ?_
        refine WL_on rfl rfl rfl ?_
        first | refine o_move (v := .slice _ _ _) rfl rfl ?_ | refine o_move (by conv => lhs; whnf) rfl ?_
        refine WL_on rfl rfl rfl ?_
        first | refine o_loadN many_27 rfl (S16.cells 0 rfl) rfl rfl ?_
        refine WL_on rfl rfl rfl ?_
        refine o_callr S16 has_25 rfl rfl (bits20_fn c cells M _ _ _ (hR.keep (S16.keep0 M)) (hC.keep (S16.keep0 M)) (fun g hg => by have := hM g hg; have := S16.size; omega) h11) ?_
        intro w22 S22 X22
        refine WL_on rfl rfl rfl ?_
        refine o_gtr rfl rfl rfl (fun h23 => ?_) (fun h23 => ?_)
        · first | refine o_pick rfl (v := .bool _) rfl rfl ?_ | refine o_pick rfl (by conv => lhs; whnf) rfl ?_
          first | refine o_assign (v := .bool _) rfl rfl ?_ | refine o_assign (by conv => lhs; whnf) rfl ?_
          refine WL_nil ?_
          refine W_ret ?_
          refine ret_1 rfl (by conv => lhs; whnf) ?_
          refine ⟨congrArg Value.bool ?_, S22.fin⟩
          first
            | (simp [h7]; done)
            | (simp [h7, h11]; done)
            | (rw [h7, h11, decide_eq_true (show _ ≤ (10 : Int) by omega)]; rfl)
            | (rw [h7, h11, decide_eq_false (show ¬ _ ≤ (10 : Int) by omega), decide_eq_false (show ¬ (14 : Int) < _ by omega)]; rfl)
            | (rw [h7, h11, decide_eq_false (show ¬ _ ≤ (10 : Int) by omega), decide_eq_true (show (14 : Int) < _ by omega)]; rfl)
        · first | refine o_pick rfl (v := .bool _) rfl rfl ?_ | refine o_pick rfl (by conv => lhs; whnf) rfl ?_
          first | refine o_assign (v := .bool _) rfl rfl ?_ | refine o_assign (by conv => lhs; whnf) rfl ?_
          refine WL_nil ?_
          refine W_ret ?_
          refine ret_1 rfl (by conv => lhs; whnf) ?_
          refine ⟨congrArg Value.bool ?_, S22.fin⟩
          first
            | (simp [h7]; done)
            | (simp [h7, h11]; done)
            | (rw [h7, h11, decide_eq_true (show _ ≤ (10 : Int) by omega)]; rfl)
            | (rw [h7, h11, decide_eq_false (show ¬ _ ≤ (10 : Int) by omega), decide_eq_false (show ¬ (14 : Int) < _ by omega)]; rfl)
            | (rw [h7, h11, decide_eq_false (show ¬ _ ≤ (10 : Int) by omega), decide_eq_true (show (14 : Int) < _ by omega)]; rfl)
    · refine o_not rfl rfl ?_
      first | refine o_move (v := .bool _) rfl rfl ?_ | refine o_move (by conv => lhs; whnf) rfl ?_
      refine WL_off rfl rfl rfl rfl ?_
      refine WL_off rfl rfl rfl rfl ?_
      refine WL_off rfl rfl rfl rfl ?_
      refine WL_off rfl rfl rfl rfl ?_
      first | refine o_pick rfl (v := .bool _) rfl rfl ?_ | refine o_pick rfl (by conv => lhs; whnf) rfl ?_
      first | refine o_move (v := .bool _) rfl rfl ?_ | refine o_move (by conv => lhs; whnf) rfl ?_
      refine WL_off rfl rfl rfl rfl ?_
      refine WL_off rfl rfl rfl rfl ?_
      refine WL_off rfl rfl rfl rfl ?_
      refine WL_off rfl rfl rfl rfl ?_
      first | refine o_pick rfl (v := .bool _) rfl rfl ?_ | refine o_pick rfl (by conv => lhs; whnf) rfl ?_
      first | refine o_assign (v := .bool _) rfl rfl ?_ | refine o_assign (by conv => lhs; whnf) rfl ?_
      refine WL_nil ?_
      refine W_ret ?_
      refine ret_1 rfl (by conv => lhs; whnf) ?_
      refine ⟨congrArg Value.bool ?_, S11.fin⟩
      first
        | (simp [h7]; done)
        | (simp [h7, h11]; done)
        | (rw [h7, h11, decide_eq_true (show _ ≤ (10 : Int) by omega)]; rfl)
        | (rw [h7, h11, decide_eq_false (show ¬ _ ≤ (10 : Int) by omega), decide_eq_false (show ¬ (14 : Int) < _ by omega)]; rfl)
        | (rw [h7, h11, decide_eq_false (show ¬ _ ≤ (10 : Int) by omega), decide_eq_true (show (14 : Int) < _ by omega)]; rfl)
  · refine o_not rfl rfl ?_
    refine WL_nil ?_
    refine W_then rfl ?_
    refine W_seq ?_
    refine W_region ?_
    first | refine o_assign (v := .bool _) rfl rfl ?_ | refine o_assign (by conv => lhs; whnf) rfl ?_
    refine WL_nil ?_
    refine W_ret ?_
    refine ret_1 rfl (by conv => lhs; whnf) ?_
    refine ⟨congrArg Value.bool ?_, S7.fin⟩
    first
      | (simp [h7]; done)
      | (simp [h7, h11]; done)
      | (rw [h7, h11, decide_eq_true (show _ ≤ (10 : Int) by omega)]; rfl)
      | (rw [h7, h11, decide_eq_false (show ¬ _ ≤ (10 : Int) by omega), decide_eq_false (show ¬ (14 : Int) < _ by omega)]; rfl)
      | (rw [h7, h11, decide_eq_false (show ¬ _ ≤ (10 : Int) by omega), decide_eq_true (show (14 : Int) < _ by omega)]; rfl)
end Go.Proofs.YtinhchacppkmgaaDoor
