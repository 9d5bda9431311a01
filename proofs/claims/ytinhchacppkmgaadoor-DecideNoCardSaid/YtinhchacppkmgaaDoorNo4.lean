/-
  Contracts of package expr: copies (same, rebuild, clone), condition, isConst, constant, formed.
-/
import Derived.Test.YtinhchacppkmgaaDoorFwRow
namespace Go.Fw
open Go.RowKit

theorem setsAt_append : ∀ (vs a r : List Value), vs.length ≤ r.length → setsAt (a ++ r) a.length vs = a ++ vs ++ r.drop vs.length := by
  intro vs
  induction vs with
  | nil => intro a r _; simp [setsAt]
  | cons v vs ih =>
    intro a r h
    cases r with
    | nil => simp at h
    | cons x r =>
      have h1 : (a ++ x :: r).set a.length v = (a ++ [v]) ++ r := by simp
      have := ih (a ++ [v]) r (by simpa using h)
      simp only [setsAt, h1]
      rw [show a.length + 1 = (a ++ [v]).length by simp, this]; simp

section
variable {P : Program} {r : Option Nat} {N : Nat} {D : List Deferred} {e : Env} {w w0 : World} {ops : Array Oper} {rest : List Oper} {K : List Deferred → Env → World → Prop} {L : List Ent} {M : List Nat}
variable {d : Nat} {t : TypeId} {p : String} {af : Array Edge} {x y : Operand}

/-- 'make([]T, n)', T of four cells. -/
theorem o_make4 {ty el bytes n : Nat} {z : Value} {kl kc : IntKind} (S : St M w0 w L) (hS : SlZ P ty el 4 z bytes) (hx : ev e x = .int kl (n : Int)) (hy : ev e y = .int kc (n : Int)) (hb : bytes * n ≤ 140737488355328) (hc : n ≤ 140737488355328) (hd : Nat.ble (d + 1) N = true)
    (h : ∀ g w1 cs, cs.length = n * 4 → St M w0 w1 ((some g, el, cs) :: L) → Keep [] w w1 → w.heap.size ≤ g → WL P r N ops rest K D (upd e d (.slice (some ⟨g, 0, none⟩) n n)) w1) :
    WL P r N ops (⟨some d, .makeSlice ty x y, t, p, af, none⟩ :: rest) K D e w := by
  obtain ⟨i, hi, hz, hsz, hby⟩ := hS.parts
  have hbb : (i.bytes : Int) * (n : Int) ≤ 281474976710656 := by
    have : ((bytes * n : Nat) : Int) ≤ 281474976710656 := by omega
    rw [hby]; rwa [Int.natCast_mul] at this
  have hr := run_make (P := P) w ty el i z hS.und hi hz kl kc n n (by omega) (by omega) hbb (by omega)
  simp only [Int.toNat_natCast] at hr
  have hm : madeCells z.cells (n * i.size) = (madeCells z.cells (n * i.size)).toList.toArray := by simp
  rw [hm] at hr
  refine WL_val (v := .slice (some ⟨w.heap.size, 0, none⟩) n n) rfl rfl hd (by simp) ?_ (h _ _ (madeCells z.cells (n * i.size)).toList (by rw [Array.length_toList, size_madeCells, hsz]) (S.alloc el _) (keep_alloc _ _ _) (Nat.le_refl _))
  simp only [execOp, hx, hy, Sem.run_bind, hr, Result.andThen_ok, Sem.run_pure]
end

/-- A node whose kids lie in a row. -/
theorem rdE_row {M : List Nat} {w : World} {op wd n : Int} {ks : List E} {g : Nat} {css : List (List Value)} {rest : List Value} (h1 : i64 op) (h2 : i64 wd) (h3 : i64 n) (hg : g ∉ M) (hc : Cells w g 0 (css.flatten ++ rest)) (hl : css.length = ks.length) (h4 : ∀ x ∈ css, x.length = 4)
    (hk : ∀ (i : Nat) (h : i < ks.length), ∃ c, css[i]? = some c ∧ RdE M w ks[i] c) (hb : ks.length ≤ 1000) : RdE M w ⟨op, wd, n, ks⟩ [.int .i64 op, .int .i64 wd, .int .i64 n, .slice (some ⟨g, 0, none⟩) ks.length ks.length] := by
  rw [RdE]
  refine ⟨_, _, _, rfl, h1, h2, h3, rfl, Nat.le_refl _, by unfold maxLen; omega, by show ks.length ≤ _; omega, fun _ => ⟨g, 0, rfl, hg, fun i hi => ?_⟩⟩
  obtain ⟨c, q1, q2⟩ := hk i hi
  refine ⟨c, fun j v hj => ?_, q2⟩
  have hf := flat4 css i c h4 q1 j v hj
  have hlt : i * 4 + j < css.flatten.length := (List.getElem?_eq_some_iff.1 hf).1
  have := hc (i * 4 + j) v (by rw [List.getElem?_append_left hlt]; exact hf)
  rw [← Nat.add_assoc] at this; exact this
end Go.Fw
namespace Go.Proofs.YtinhchacppkmgaaDoor
open Go.Fw Go.RowKit

theorem constant_fn (n wd : Int) (hn : i64 n) (hw : i64 wd) (M : List Nat) (w0 : World) :
    Does Tryd.prog 54 #[.int .i64 n, .int .i64 wd] w0 fun v w' => (∃ cs : List Value, v = .agg cs.toArray ∧ RdE M w' ⟨1, wd, n, []⟩ cs) ∧ Below w0.heap.size w0 w' := by
  have S := St.refl w0
  refine Does_enter Tryd.func54 rfl Tryd.ntmps54 rfl ?_
  refine W_seq ?_
  refine W_region ?_
  refine o_alloc S zv_25 rfl rfl ?_
  intro g4 w4 S4 X4 G4
  refine WL_nil ?_
  refine W_seq ?_
  refine W_region ?_
  first | refine o_move (v := .int .i64 _) rfl rfl ?_ | refine o_move (by conv => lhs; whnf) rfl ?_
  first | refine o_move (v := .int .i64 _) rfl rfl ?_ | refine o_move (by conv => lhs; whnf) rfl ?_
  refine o_build bld_25 (vs := [(0, .int .i64 _), (1, .int .i64 _), (2, .int .i64 _)]) (cs := [_, _, _, _]) rfl rfl rfl rfl ?_
  first | refine o_storeN (kk := 0) (vs := [_, _, _, _]) S4 sz_25 rfl rfl rfl rfl rfl rfl rfl ?_
  intro w1_3 S1_3 X1_3
  dsimp only [setsAt, List.set] at S1_3
  refine WL_nil ?_
  refine W_ret ?_
  exact ret_cell1 rfl many_25 rfl (S1_3.cells 0 rfl) rfl ⟨⟨_, rfl, rdE_leaf (by unfold i64; omega) hw hn⟩, S1_3.fin⟩

theorem isConst_fn (e : E) (n : Int) (M : List Nat) (w0 : World) (cs : List Value) (hR : RdE M w0 e cs) :
    Does Tryd.prog 53 #[.agg cs.toArray, .int .i64 n] w0 fun v w' => v = .bool (decide (e.op = 1 ∧ e.n = n)) ∧ Below w0.heap.size w0 w' := by
  obtain ⟨A, k, c, rfl, -⟩ := hR.open_
  have S := St.refl w0
  refine Does_enter Tryd.func53 rfl Tryd.ntmps53 rfl ?_
  refine W_seq ?_
  refine W_region ?_
  refine o_boxa S (by conv => lhs; whnf) rfl ?_
  intro g2 w2 S2 X2 G2
  first | refine o_assign (v := .bool _) rfl rfl ?_ | refine o_assign (by conv => lhs; whnf) rfl ?_
  refine WL_nil ?_
  refine W_seq ?_
  refine W_region ?_
  refine o_fieldAddr fa_25_0 rfl rfl ?_
  refine o_load one_3 rfl (by first | exact S2.cell 0 rfl rfl) rfl ?_
  refine o_eql rfl rfl rfl (fun h7 => ?_) (fun h7 => ?_)
  · first | refine o_move (v := .bool _) rfl rfl ?_ | refine o_move (by conv => lhs; whnf) rfl ?_
    refine WL_on rfl rfl rfl ?_
    refine o_fieldAddr fa_25_2 rfl rfl ?_
    refine WL_on rfl rfl rfl ?_
    refine o_load one_3 rfl (by first | exact S2.cell 0 rfl rfl) rfl ?_
    refine WL_on rfl rfl rfl ?_
    first | refine o_move (v := .int .i64 _) rfl rfl ?_ | refine o_move (by conv => lhs; whnf) rfl ?_
    refine WL_on rfl rfl rfl ?_
    refine o_eql rfl rfl rfl (fun h12 => ?_) (fun h12 => ?_)
    · first | refine o_pick rfl (v := .bool _) rfl rfl ?_ | refine o_pick rfl (by conv => lhs; whnf) rfl ?_
      first | refine o_assign (v := .bool _) rfl rfl ?_ | refine o_assign (by conv => lhs; whnf) rfl ?_
      refine WL_nil ?_
      refine W_ret ?_
      refine ret_1 rfl (by conv => lhs; whnf) ?_
      refine ⟨congrArg Value.bool ?_, S2.fin⟩
      first
        | exact (decide_eq_true ⟨h7, h12⟩).symm
        | exact (decide_eq_false (fun h => h12 h.2)).symm
        | exact (decide_eq_false (fun h => h7 h.1)).symm
    · first | refine o_pick rfl (v := .bool _) rfl rfl ?_ | refine o_pick rfl (by conv => lhs; whnf) rfl ?_
      first | refine o_assign (v := .bool _) rfl rfl ?_ | refine o_assign (by conv => lhs; whnf) rfl ?_
      refine WL_nil ?_
      refine W_ret ?_
      refine ret_1 rfl (by conv => lhs; whnf) ?_
      refine ⟨congrArg Value.bool ?_, S2.fin⟩
      first
        | exact (decide_eq_true ⟨h7, h12⟩).symm
        | exact (decide_eq_false (fun h => h12 h.2)).symm
        | exact (decide_eq_false (fun h => h7 h.1)).symm
  · first | refine o_move (v := .bool _) rfl rfl ?_ | refine o_move (by conv => lhs; whnf) rfl ?_
    refine WL_off rfl rfl rfl rfl ?_
    refine WL_off rfl rfl rfl rfl ?_
    refine WL_off rfl rfl rfl rfl ?_
    refine WL_off rfl rfl rfl rfl ?_
    first | refine o_pick rfl (v := .bool _) rfl rfl ?_ | refine o_pick rfl (by conv => lhs; whnf) rfl ?_
    first | refine o_assign (v := .bool _) rfl rfl ?_ | refine o_assign (by conv => lhs; whnf) rfl ?_
    refine WL_nil ?_
    refine W_ret ?_
    refine ret_1 rfl (by conv => lhs; whnf) ?_
    refine ⟨congrArg Value.bool ?_, S2.fin⟩
    first
      | exact (decide_eq_true ⟨h7, h12⟩).symm
      | exact (decide_eq_false (fun h => h12 h.2)).symm
      | exact (decide_eq_false (fun h => h7 h.1)).symm

theorem condition_fn (e : E) (M : List Nat) (w0 : World) (cs : List Value) (hR : RdE M w0 e cs) (hK : Masks M w0) :
    Does Tryd.prog 52 #[.agg cs.toArray] w0 fun v w' => v = .bool (decide (e.w = 1) && e.wf) ∧ Below w0.heap.size w0 w' := by
  obtain ⟨A, k, c, rfl, -⟩ := hR.open_
  have S := St.refl w0
  refine Does_enter Tryd.func52 rfl Tryd.ntmps52 rfl ?_
  refine W_seq ?_
  refine W_region ?_
  refine o_boxa S (by conv => lhs; whnf) rfl ?_
  intro g1 w1 S1 X1 G1
  first | refine o_assign (v := .bool _) rfl rfl ?_ | refine o_assign (by conv => lhs; whnf) rfl ?_
  refine WL_nil ?_
  refine W_seq ?_
  refine W_region ?_
  refine o_fieldAddr fa_25_1 rfl rfl ?_
  refine o_load one_3 rfl (by first | exact S1.cell 0 rfl rfl) rfl ?_
  refine o_eql rfl rfl rfl (fun h5 => ?_) (fun h5 => ?_)
  · first | refine o_move (v := .bool _) rfl rfl ?_ | refine o_move (by conv => lhs; whnf) rfl ?_
    refine WL_on rfl rfl rfl ?_
    first | refine o_loadN many_25 rfl (S1.cells 0 rfl) rfl rfl ?_
    refine WL_on rfl rfl rfl ?_
    refine o_callb S1 has_30 rfl rfl (wellFormed_fn e M _ _ (RdE.keep (S1.keep0 M) _ _ hR) (hK.keep (S1.keep0 M))) (fun h8 w8 S8 X8 => ?_) (fun h8 w8 S8 X8 => ?_)
    · first | refine o_pick rfl (v := .bool _) rfl rfl ?_ | refine o_pick rfl (by conv => lhs; whnf) rfl ?_
      first | refine o_assign (v := .bool _) rfl rfl ?_ | refine o_assign (by conv => lhs; whnf) rfl ?_
      refine WL_nil ?_
      refine W_ret ?_
      refine ret_1 rfl (by conv => lhs; whnf) ?_
      refine ⟨congrArg Value.bool ?_, S8.fin⟩
      first
        | (simp [h5, h8]; done)
        | (simp [h5]; done)
    · first | refine o_pick rfl (v := .bool _) rfl rfl ?_ | refine o_pick rfl (by conv => lhs; whnf) rfl ?_
      first | refine o_assign (v := .bool _) rfl rfl ?_ | refine o_assign (by conv => lhs; whnf) rfl ?_
      refine WL_nil ?_
      refine W_ret ?_
      refine ret_1 rfl (by conv => lhs; whnf) ?_
      refine ⟨congrArg Value.bool ?_, S8.fin⟩
      first
        | (simp [h5, h8]; done)
        | (simp [h5]; done)
  · first | refine o_move (v := .bool _) rfl rfl ?_ | refine o_move (by conv => lhs; whnf) rfl ?_
    refine WL_off rfl rfl rfl rfl ?_
    refine WL_off rfl rfl rfl rfl ?_
    first | refine o_pick rfl (v := .bool _) rfl rfl ?_ | refine o_pick rfl (by conv => lhs; whnf) rfl ?_
    first | refine o_assign (v := .bool _) rfl rfl ?_ | refine o_assign (by conv => lhs; whnf) rfl ?_
    refine WL_nil ?_
    refine W_ret ?_
    refine ret_1 rfl (by conv => lhs; whnf) ?_
    refine ⟨congrArg Value.bool ?_, S1.fin⟩
    first
      | (simp [h5, h8]; done)
      | (simp [h5]; done)

theorem formedE_fn (e : E) (M : List Nat) (w0 : World) (cs : List Value) (hR : RdE M w0 e cs) (hK : Masks M w0) :
    Does Tryd.prog 56 #[.agg cs.toArray] w0 fun v w' => (∃ cs : List Value, v = .agg cs.toArray ∧ RdE M w' (if e.wf = true then e else ⟨0, 0, 0, []⟩) cs) ∧ Below w0.heap.size w0 w' := by
  obtain ⟨A, k, c, rfl, -⟩ := hR.open_
  have S := St.refl w0
  refine Does_enter Tryd.func56 rfl Tryd.ntmps56 rfl ?_
  refine W_seq ?_
  refine W_region ?_
  refine o_boxa S (by conv => lhs; whnf) rfl ?_
  intro g1 w1 S1 X1 G1
  refine o_alloc S1 zv_25 rfl rfl ?_
  intro g2 w2 S2 X2 G2
  refine WL_nil ?_
  refine W_seq ?_
  refine W_seq ?_
  refine W_region ?_
  first | refine o_loadN many_25 rfl (S2.cells 0 rfl) rfl rfl ?_ | refine o_loadN many_25 rfl (S2.cells 1 rfl) rfl rfl ?_
  refine o_callb S2 has_30 rfl rfl (wellFormed_fn e M _ _ (RdE.keep (S2.keep0 M) _ _ hR) (hK.keep (S2.keep0 M))) (fun h4 w4 S4 X4 => ?_) (fun h4 w4 S4 X4 => ?_)
  · refine o_not rfl rfl ?_
    refine WL_nil ?_
    refine W_else rfl ?_
    refine W_skip ?_
    refine W_seq ?_
    refine W_region ?_
    first | refine o_loadN many_25 rfl (S4.cells 0 rfl) rfl rfl ?_ | refine o_loadN many_25 rfl (S4.cells 1 rfl) rfl rfl ?_
    first | refine o_storeN (kk := 0) (vs := [_, _, _, _]) S4 sz_25 rfl rfl rfl rfl rfl rfl rfl ?_ | refine o_storeN (kk := 1) (vs := [_, _, _, _]) S4 sz_25 rfl rfl rfl rfl rfl rfl rfl ?_
    intro w3_1 S3_1 X3_1
    dsimp only [setsAt, List.set] at S3_1
    refine WL_nil ?_
    refine W_ret ?_
    first
      | exact ret_cell1 rfl many_25 rfl (S3_1.cells 0 rfl) rfl ⟨⟨_, rfl, by rw [if_pos h4]; exact RdE.keep (S3_1.keep0 M) _ _ hR⟩, S3_1.fin⟩
      | exact ret_cell1 rfl many_25 rfl (S3_1.cells 0 rfl) rfl ⟨⟨_, rfl, by rw [if_neg (by simp [h4])]; exact rdE_leaf (by decide) (by decide) (by decide)⟩, S3_1.fin⟩
  · refine o_not rfl rfl ?_
    refine WL_nil ?_
    refine W_then rfl ?_
    refine W_seq ?_
    refine W_region ?_
    refine o_build bld_25 (vs := []) (cs := [_, _, _, _]) rfl rfl rfl rfl ?_
    first | refine o_storeN (kk := 0) (vs := [_, _, _, _]) S4 sz_25 rfl rfl rfl rfl rfl rfl rfl ?_ | refine o_storeN (kk := 1) (vs := [_, _, _, _]) S4 sz_25 rfl rfl rfl rfl rfl rfl rfl ?_
    intro w2_1 S2_1 X2_1
    dsimp only [setsAt, List.set] at S2_1
    refine WL_nil ?_
    refine W_ret ?_
    first
      | exact ret_cell1 rfl many_25 rfl (S2_1.cells 0 rfl) rfl ⟨⟨_, rfl, by rw [if_pos h4]; exact RdE.keep (S2_1.keep0 M) _ _ hR⟩, S2_1.fin⟩
      | exact ret_cell1 rfl many_25 rfl (S2_1.cells 0 rfl) rfl ⟨⟨_, rfl, by rw [if_neg (by simp [h4])]; exact rdE_leaf (by decide) (by decide) (by decide)⟩, S2_1.fin⟩

theorem same_fn (e : E) (M : List Nat) (w0 : World) (b o : Nat) (hR : RdP M w0 e b o) (hk : e.kids.length = 0) :
    Does Tryd.prog 71 #[.pointer (some ⟨b, o, none⟩)] w0 fun v w' => (∃ cs : List Value, v = .agg cs.toArray ∧ ∀ M', RdE M' w' e cs) ∧ Below w0.heap.size w0 w' := by
  obtain ⟨hbM, o1, o2, o3, c0, c1, c2, -⟩ := hR.open_
  have S := St.refl w0
  have he : e = ⟨e.op, e.w, e.n, []⟩ := by
    obtain ⟨a, b, c, ks⟩ := e
    simp at hk; rw [hk]
  refine Does_enter Tryd.func71 rfl Tryd.ntmps71 rfl ?_
  refine W_seq ?_
  refine W_region ?_
  refine o_alloc S zv_25 rfl rfl ?_
  intro g2 w2 S2 X2 G2
  refine WL_nil ?_
  refine W_seq ?_
  refine W_draw follows_mixed [0, 1, 2, 3, 4, 5, 6, 7, 8, 9, 10, 11, 12] [] [13] (by kernel_rfl) rfl (Cl _ _ _ _) (Cl.start S2) ?_
  first | refine q_move (v := .pointer _) rfl rfl ?_ | refine q_move (by conv => lhs; whnf) rfl ?_
  refine q_nilCheck rfl rfl ?_
  refine q_fieldAddr fa_25_0 rfl rfl ?_
  refine q_load one_3 rfl (fun w1 hw => by first | exact hw.1.cell 0 rfl rfl | exact hw.1.old c0 | exact hw.1.old c1 | exact hw.1.old c2) rfl ?_
  first | refine q_move (v := .pointer _) rfl rfl ?_ | refine q_move (by conv => lhs; whnf) rfl ?_
  refine q_nilCheck rfl rfl ?_
  refine q_fieldAddr fa_25_1 rfl rfl ?_
  refine q_load one_3 rfl (fun w1 hw => by first | exact hw.1.cell 0 rfl rfl | exact hw.1.old c0 | exact hw.1.old c1 | exact hw.1.old c2) rfl ?_
  first | refine q_move (v := .pointer _) rfl rfl ?_ | refine q_move (by conv => lhs; whnf) rfl ?_
  refine q_nilCheck rfl rfl ?_
  refine q_fieldAddr fa_25_2 rfl rfl ?_
  refine q_load one_3 rfl (fun w1 hw => by first | exact hw.1.cell 0 rfl rfl | exact hw.1.old c0 | exact hw.1.old c1 | exact hw.1.old c2) rfl ?_
  refine q_build bld_25 (vs := [(0, .int .i64 _), (1, .int .i64 _), (2, .int .i64 _)]) (cs := [_, _, _, _]) rfl rfl rfl rfl ?_
  refine QL_nil ?_
  refine BK_of ?_
  refine BKL_nil ?_
  rintro wR1 ⟨SR1, XR1⟩
  first | refine o_storeN (kk := 0) (vs := [_, _, _, _]) SR1 sz_25 rfl rfl rfl rfl rfl rfl rfl ?_
  intro w1_13 S1_13 X1_13
  dsimp only [setsAt, List.set] at S1_13
  refine WL_nil ?_
  refine W_ret ?_
  exact ret_cell1 rfl many_25 rfl (S1_13.cells 0 rfl) rfl ⟨⟨_, rfl, fun M' => by rw [he]; exact rdE_leaf o1 o2 o3⟩, S1_13.fin⟩

theorem rebuild_fn : ∀ (e : E) (M : List Nat) (w0 : World) (b o : Nat) (lim : Int), RdP M w0 e b o → e.good lim = true → (∀ g ∈ M, g < w0.heap.size) →
    Does Tryd.prog 70 #[.pointer (some ⟨b, o, none⟩), .func (.func 71) #[] #[]] w0 fun v w' => (∃ cs : List Value, v = .agg cs.toArray ∧ RdE M w' e cs) ∧ Below w0.heap.size w0 w' := by
  intro e
  induction e using E.induct with
  | _ e ih =>
  intro M w0 b o lim hR hg hM
  obtain ⟨hbM, o1, o2, o3, c0, c1, c2, A, n, c, c3, hn, hc, hm, hbig, hks, hRE⟩ := hR.open_
  obtain ⟨hsh, hkg⟩ := good_shape hg
  have har := (Shape_ar hsh).2.2.1
  have har2 := arityL_spec e.op
  have h3 : e.kids.length ≤ 3 := by omega
  subst hn
  have S := St.refl w0
  refine Does_enter Tryd.func70 rfl Tryd.ntmps70 rfl ?_
  refine W_seq ?_
  refine W_region ?_
  refine o_alloc S zv_25 rfl rfl ?_
  intro g4 w4 S4 X4 G4
  refine WL_nil ?_
  refine W_seq ?_
  refine W_seq ?_
  refine W_region ?_
  first | refine o_move (v := .pointer _) rfl rfl ?_ | refine o_move (by conv => lhs; whnf) rfl ?_
  refine o_nilCheck rfl rfl ?_
  refine o_fieldAddr fa_25_3 rfl rfl ?_
  refine o_load one_23 rfl (by first | exact S4.cell 0 rfl rfl | exact S4.old c0 | exact S4.old c1 | exact S4.old c2 | exact S4.old c3) rfl ?_
  refine o_len slz_23.slT rfl rfl ?_
  refine o_eql rfl rfl rfl (fun h12 => ?_) (fun h12 => ?_)
  · refine WL_nil ?_
    refine W_then rfl ?_
    refine W_seq ?_
    refine W_region ?_
    first | refine o_move (v := .func _ _ _) rfl rfl ?_ | refine o_move (by conv => lhs; whnf) rfl ?_
    first | refine o_move (v := .pointer _) rfl rfl ?_ | refine o_move (by conv => lhs; whnf) rfl ?_
    refine o_callvn S4 has_71 rfl rfl rfl (same_fn e M _ b o (hR.keep (S4.keep0 M)) (by omega)) ?_
    rintro v15 w15 ⟨c15, rfl, r15⟩ S15 X15
    obtain ⟨A15, n15, q15, rfl, -⟩ := (r15 []).open_
    first | refine o_storeN (kk := 0) (vs := [_, _, _, _]) S15 sz_25 rfl rfl rfl rfl rfl rfl rfl ?_
    intro w2_3 S2_3 X2_3
    dsimp only [setsAt, List.set] at S2_3
    refine WL_nil ?_
    refine W_ret ?_
    first
      | exact ret_cell1 rfl many_25 rfl (S2_3.cells 0 rfl) rfl ⟨⟨_, rfl, RdE.more (fun g hg => .inl (by simp [hg])) _ _ (RdE.keep (X2_3.mono (by simp)) _ _ (r15 (g4 :: M)))⟩, S2_3.fin⟩
      | (refine ret_cell1 rfl many_25 rfl (S2_3.cells 1 rfl) rfl ⟨⟨_, rfl, ?_⟩, S2_3.fin⟩
         have he : (⟨e.op, e.w, e.n, e.kids⟩ : E) = e := by cases e; rfl
         suffices hq : RdE M w2_3 ⟨e.op, e.w, e.n, e.kids⟩ [.int .i64 e.op, .int .i64 e.w, .int .i64 e.n, .slice (some ⟨g21, 0, none⟩) e.kids.length e.kids.length] by rw [he] at hq; exact hq
         refine rdE_row (css := css) (rest := rest) o1 o2 o3 (fun hm => ?_) (S2_3.cells 0 rfl) (by omega) h4 (fun i hi => ?_) (by omega)
         · have h1 := hM _ hm
           have h2 := S2_3.new 0 rfl
           simp at h2; omega
         · obtain ⟨q, q1, q2⟩ := hcs i hi (by omega)
           exact ⟨q, q1, RdE.more (fun g hg => .inl (by simp [hg])) _ _ (RdE.keep (X9_14.mono (by simp)) _ _ (RdE.keep XR9.of_nil _ _ q2))⟩)
  · refine WL_nil ?_
    refine W_else rfl ?_
    refine W_skip ?_
    refine W_seq ?_
    refine W_region ?_
    first | refine o_move (v := .pointer _) rfl rfl ?_ | refine o_move (by conv => lhs; whnf) rfl ?_
    refine o_nilCheck rfl rfl ?_
    refine o_fieldAddr fa_25_3 rfl rfl ?_
    refine o_load one_23 rfl (by first | exact S4.cell 0 rfl rfl | exact S4.old c0 | exact S4.old c1 | exact S4.old c2 | exact S4.old c3) rfl ?_
    refine o_len slz_23.slT rfl rfl ?_
    refine o_make4 (n := e.kids.length) S4 slz_23 rfl rfl (by omega) (by omega) rfl ?_
    intro g21 w21 cs21 hcs21 S21 X21 G21
    first | refine o_assign (v := .slice _ _ _) rfl rfl ?_ | refine o_assign (by conv => lhs; whnf) rfl ?_
    refine WL_nil ?_
    refine W_seq ?_
    refine W_seq ?_
    refine W_region ?_
    first | refine o_move (v := .slice _ _ _) rfl rfl ?_ | refine o_move (by conv => lhs; whnf) rfl ?_
    refine o_len slz_23.slT rfl rfl ?_
    first | refine o_move (v := .int .i64 _) rfl rfl ?_ | refine o_move (by conv => lhs; whnf) rfl ?_
    refine WL_nil ?_
    refine W_block ?_
    refine W_loop (fun μ D ε w => D = [] ∧ ∃ k : Nat, ∃ css : List (List Value), ∃ rest : List Value, (k + μ = e.kids.length) ∧ (css.length = k) ∧ (∀ x ∈ css, x.length = 4) ∧ (rest.length = μ * 4) ∧ (∀ (i : Nat) (h : i < e.kids.length), i < k → ∃ c, css[i]? = some c ∧ RdE (g21 :: g4 :: M) w e.kids[i] c) ∧ St [] w0 w [(some g21, 25, css.flatten ++ rest), (some g4, 25, [.int .i64 0, .int .i64 0, .int .i64 0, .slice none 0 0])] ∧ ε 0 = .pointer (some ⟨b, o, none⟩) ∧ ε 1 = .func (.func 71) #[] #[] ∧ ε 4 = .pointer (some ⟨g4, 0, none⟩) ∧ ε 5 = .slice (some ⟨g21, 0, none⟩) e.kids.length e.kids.length ∧ ε 23 = .int .i64 e.kids.length ∧ ε 24 = .int .i64 k) (μ := e.kids.length) ⟨rfl, 0, [], cs21, by omega, rfl, by simp, by omega, fun i h h0 => absurd h0 (by omega), S21, rfl, rfl, rfl, rfl, rfl, rfl⟩ ?_
    rintro μ D ε w ⟨rfl, k, css, rest, hk, hl, h4, hrl, hcs, S, e0, e1, e4, e5, e23, e24⟩
    refine W_known 0 e0 ?_
    refine W_known 1 e1 ?_
    refine W_known 4 e4 ?_
    refine W_known 5 e5 ?_
    refine W_known 23 e23 ?_
    refine W_known 24 e24 ?_
    clear e0 e1 e4 e5 e23 e24
    have hM2 : ∀ g ∈ g21 :: g4 :: M, g ∈ M ∨ w0.heap.size ≤ g := by
      intro g hg; simp at hg
      rcases hg with rfl | rfl | hg
      · right; simpa using S.new 0 rfl
      · right; simpa using S.new 1 rfl
      · exact .inl hg
    have hM3 : ∀ g ∈ g21 :: g4 :: M, g < w.heap.size := by
      intro g hg; simp at hg
      rcases hg with rfl | rfl | hg
      · exact S.lt 0 rfl
      · exact S.lt 1 rfl
      · have := hM g hg; have := S.size; omega
    refine W_seq ?_
    refine W_region ?_
    refine o_lss rfl rfl rfl (fun h25 => ?_) (fun h25 => ?_)
    · refine WL_nil ?_
      refine W_seq ?_
      refine W_then rfl ?_
      refine W_skip ?_
      refine W_seq ?_
      refine W_block ?_
      refine W_seq ?_
      refine W_region ?_
      first | refine o_move (v := .int .i64 _) rfl rfl ?_ | refine o_move (by conv => lhs; whnf) rfl ?_
      first | refine o_assign (v := .int .i64 _) rfl rfl ?_ | refine o_assign (by conv => lhs; whnf) rfl ?_
      refine WL_nil ?_
      refine W_region ?_
      first | refine o_move (v := .slice _ _ _) rfl rfl ?_ | refine o_move (by conv => lhs; whnf) rfl ?_
      first | refine o_move (v := .int .i64 _) rfl rfl ?_ | refine o_move (by conv => lhs; whnf) rfl ?_
      first | refine o_move (v := .pointer _) rfl rfl ?_ | refine o_move (by conv => lhs; whnf) rfl ?_
      refine o_nilCheck rfl rfl ?_
      refine o_fieldAddr fa_25_3 rfl rfl ?_
      refine o_load one_23 rfl (by first | exact S.cell 0 rfl rfl | exact S.cell 1 rfl rfl | exact S.old c0 | exact S.old c1 | exact S.old c2 | exact S.old c3) rfl ?_
      first | refine o_move (v := .int .i64 _) rfl rfl ?_ | refine o_move (by conv => lhs; whnf) rfl ?_
      have hlt : k < e.kids.length := by omega
      obtain ⟨bk, ok, hAk, hbkM, hkk⟩ := hks (by omega)
      refine o_indexAddr slz_23.slT rfl (by first | rfl | assumption) rfl (by omega) (by omega) rfl ?_
      first | refine o_move (v := .func _ _ _) rfl rfl ?_ | refine o_move (by conv => lhs; whnf) rfl ?_
      refine o_calln S has_70 rfl rfl (ih e.kids[k] (List.getElem_mem hlt) (g21 :: g4 :: M) _ bk (ok + k * 4) (lim - 1) (((RdP.kid hbkM hkk k hlt).more hM2).keep (S.keep0 _)) (hkg _ (List.getElem_mem hlt)) hM3) ?_
      rintro v36 w36 ⟨c36, rfl, r36⟩ S36 X36
      have hc36 := r36.length
      obtain ⟨A36, n36, q36, hc36e, -⟩ := r36.open_
      refine o_indexAddr slz_23.slT rfl (by first | rfl | assumption) rfl (by omega) (by omega) rfl ?_
      refine o_storeN (kk := 0) (vs := c36) S36 sz_25 rfl rfl (by simp) hc36 (by rw [hc36e]; rfl) rfl (by rw [Nat.ble_eq, List.length_append, flat4_len css h4, hl, hrl]; simp; omega) ?_
      intro w7_11 S7 X7_11
      have hfl : css.flatten.length = k * 4 := by rw [flat4_len css h4, hl]
      have hsa : setsAt (css.flatten ++ rest) (0 + (k : Int).toNat * 4) c36 = (css ++ [c36]).flatten ++ rest.drop 4 := by
        rw [show (0 + (k : Int).toNat * 4) = css.flatten.length by simp [hfl], setsAt_append c36 css.flatten rest (by omega), hc36]; simp
      have S7_11 : St [] w0 w7_11 [(some g21, 25, (css ++ [c36]).flatten ++ rest.drop 4), (some g4, 25, [.int .i64 0, .int .i64 0, .int .i64 0, .slice none 0 0])] := by rw [← hsa]; exact S7
      refine WL_nil ?_
      refine W_region ?_
      refine o_add rfl rfl (by unfold i64; omega) rfl ?_
      first | refine o_move (v := .int .i64 _) rfl rfl ?_ | refine o_move (by conv => lhs; whnf) rfl ?_
      refine WL_nil ?_
      refine ⟨μ - 1, by omega, rfl, k + 1, css ++ [c36], rest.drop 4, by omega, by simp [hl], fun x hx => ?_, by rw [List.length_drop]; omega, fun i hi hik => ?_, ?_, rfl, rfl, rfl, rfl, rfl, rfl⟩
      · rcases List.mem_append.1 hx with hx | hx
        · exact h4 x hx
        · simp at hx; subst hx; exact hc36
      · by_cases hik' : i < k
        · obtain ⟨q, q1, q2⟩ := hcs i hi hik'
          exact ⟨q, by rw [List.getElem?_append_left (by omega)]; exact q1, RdE.keep (X7_11.mono (by simp)) _ _ (RdE.keep X36.of_nil _ _ q2)⟩
        · obtain rfl : i = k := by omega
          exact ⟨c36, by rw [List.getElem?_append_right (by omega), hl]; simp, RdE.keep (X7_11.mono (by simp)) _ _ r36⟩
      · exact S7_11
    · refine WL_nil ?_
      refine W_seq ?_
      refine W_else rfl ?_
      refine W_exit ?_
      refine bcons_here ?_
      refine W_seq ?_
      refine W_draw follows_mixed [0, 1, 2, 3, 4, 5, 6, 7, 8, 9, 10, 11, 12, 13] [] [14] (by kernel_rfl) rfl (Cl _ _ _ _) (Cl.start S) ?_
      first | refine q_move (v := .pointer _) rfl rfl ?_ | refine q_move (by conv => lhs; whnf) rfl ?_
      refine q_nilCheck rfl rfl ?_
      refine q_fieldAddr fa_25_0 rfl rfl ?_
      refine q_load one_3 rfl (fun w1 hw => by first | exact hw.1.cell 0 rfl rfl | exact hw.1.cell 1 rfl rfl | exact hw.1.old c0 | exact hw.1.old c1 | exact hw.1.old c2 | exact hw.1.old c3) rfl ?_
      first | refine q_move (v := .pointer _) rfl rfl ?_ | refine q_move (by conv => lhs; whnf) rfl ?_
      refine q_nilCheck rfl rfl ?_
      refine q_fieldAddr fa_25_1 rfl rfl ?_
      refine q_load one_3 rfl (fun w1 hw => by first | exact hw.1.cell 0 rfl rfl | exact hw.1.cell 1 rfl rfl | exact hw.1.old c0 | exact hw.1.old c1 | exact hw.1.old c2 | exact hw.1.old c3) rfl ?_
      first | refine q_move (v := .pointer _) rfl rfl ?_ | refine q_move (by conv => lhs; whnf) rfl ?_
      refine q_nilCheck rfl rfl ?_
      refine q_fieldAddr fa_25_2 rfl rfl ?_
      refine q_load one_3 rfl (fun w1 hw => by first | exact hw.1.cell 0 rfl rfl | exact hw.1.cell 1 rfl rfl | exact hw.1.old c0 | exact hw.1.old c1 | exact hw.1.old c2 | exact hw.1.old c3) rfl ?_
      first | refine q_move (v := .slice _ _ _) rfl rfl ?_ | refine q_move (by conv => lhs; whnf) rfl ?_
      refine q_build bld_25 (vs := [(0, .int .i64 _), (1, .int .i64 _), (2, .int .i64 _), (3, .slice _ _ _)]) (cs := [_, _, _, _]) rfl rfl rfl rfl ?_
      refine QL_nil ?_
      refine BK_of ?_
      refine BKL_nil ?_
      rintro wR9 ⟨SR9, XR9⟩
      first | refine o_storeN (kk := 0) (vs := [_, _, _, _]) SR9 sz_25 rfl rfl rfl rfl rfl rfl rfl ?_ | refine o_storeN (kk := 1) (vs := [_, _, _, _]) SR9 sz_25 rfl rfl rfl rfl rfl rfl rfl ?_
      intro w9_14 S9_14 X9_14
      dsimp only [setsAt, List.set] at S9_14
      refine WL_nil ?_
      refine W_ret ?_
      first
        | exact ret_cell1 rfl many_25 rfl (S9_14.cells 0 rfl) rfl ⟨⟨_, rfl, RdE.more (fun g hg => .inl (by simp [hg])) _ _ (RdE.keep (X2_3.mono (by simp)) _ _ (r15 (g4 :: M)))⟩, S9_14.fin⟩
        | (refine ret_cell1 rfl many_25 rfl (S9_14.cells 1 rfl) rfl ⟨⟨_, rfl, ?_⟩, S9_14.fin⟩
           have he : (⟨e.op, e.w, e.n, e.kids⟩ : E) = e := by cases e; rfl
           suffices hq : RdE M w9_14 ⟨e.op, e.w, e.n, e.kids⟩ [.int .i64 e.op, .int .i64 e.w, .int .i64 e.n, .slice (some ⟨g21, 0, none⟩) e.kids.length e.kids.length] by rw [he] at hq; exact hq
           refine rdE_row (css := css) (rest := rest) o1 o2 o3 (fun hm => ?_) (S9_14.cells 0 rfl) (by omega) h4 (fun i hi => ?_) (by omega)
           · have h1 := hM _ hm
             have h2 := S9_14.new 0 rfl
             simp at h2; omega
           · obtain ⟨q, q1, q2⟩ := hcs i hi (by omega)
             exact ⟨q, q1, RdE.more (fun g hg => .inl (by simp [hg])) _ _ (RdE.keep (X9_14.mono (by simp)) _ _ (RdE.keep XR9.of_nil _ _ q2))⟩)

theorem clone_fn (e : E) (M : List Nat) (w0 : World) (cs : List Value) (lim : Int) (hR : RdE M w0 e cs) (hg : e.good lim = true) (hM : ∀ g ∈ M, g < w0.heap.size) :
    Does Tryd.prog 55 #[.agg cs.toArray] w0 fun v w' => (∃ cs : List Value, v = .agg cs.toArray ∧ RdE M w' e cs) ∧ Below w0.heap.size w0 w' := by
  obtain ⟨A, k, c, rfl, -⟩ := hR.open_
  have S := St.refl w0
  refine Does_enter Tryd.func55 rfl Tryd.ntmps55 rfl ?_
  refine W_seq ?_
  refine W_region ?_
  refine o_boxa S (by conv => lhs; whnf) rfl ?_
  intro g1 w1 S1 X1 G1
  refine o_alloc S1 zv_25 rfl rfl ?_
  intro g2 w2 S2 X2 G2
  refine WL_nil ?_
  refine W_seq ?_
  refine W_region ?_
  have hM2 : ∀ g ∈ g2 :: M, g ∈ M ∨ w0.heap.size ≤ g := by
    intro g hg; rcases List.mem_cons.1 hg with rfl | hg
    · right; simpa using S2.new 0 rfl
    · exact .inl hg
  have hP : RdP (g2 :: M) w2 e g1 0 := ⟨fun hm => by
    rcases List.mem_cons.1 hm with hm | hm
    · exact absurd (ent_get S2.apart (i := 1) (j := 0) rfl rfl rfl (congrArg some hm.symm)) (by decide)
    · have h1 := hM _ hm
      have h2 := S2.new 1 rfl
      simp at h2; omega, _, S2.cells 1 rfl, RdE.keep (S2.keep0 _) _ _ (RdE.more hM2 _ _ hR)⟩
  refine o_calln S2 has_70 rfl rfl (rebuild_fn e (g2 :: M) _ g1 0 lim hP hg (fun g hg => by rcases List.mem_cons.1 hg with rfl | hg; exact S2.lt 0 rfl; have := hM g hg; have := S2.size; omega)) ?_
  rintro v3 w3 ⟨c3, rfl, r3⟩ S3 X3
  obtain ⟨A3, n3, q3, rfl, -⟩ := r3.open_
  first | refine o_storeN (kk := 0) (vs := [_, _, _, _]) S3 sz_25 rfl rfl rfl rfl rfl rfl rfl ?_ | refine o_storeN (kk := 1) (vs := [_, _, _, _]) S3 sz_25 rfl rfl rfl rfl rfl rfl rfl ?_
  intro w1_1 S1_1 X1_1
  dsimp only [setsAt, List.set] at S1_1
  replace r3 := RdE.keep (X1_1.mono (by simp)) _ _ r3
  refine WL_nil ?_
  refine W_ret ?_
  exact ret_cell1 rfl many_25 rfl (S1_1.cells 0 rfl) rfl ⟨⟨_, rfl, RdE.more (fun g hg => .inl (by simp [hg])) _ _ r3⟩, S1_1.nil.fin⟩
end Go.Proofs.YtinhchacppkmgaaDoor
