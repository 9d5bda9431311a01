/-
  Contracts of package relyguardref06: Is, fold (a conjunction of expressions that are no constants), And, Neg.
-/
import Derived.Test.YtinhchacppkmgaaDoorLa5p
namespace Go.Fw
open Go.RowKit

/-- A slice of expressions. -/
def RdL (M : List Nat) (w : World) (v : Value) (l : List E) : Prop := RdE M w ⟨0, 0, 0, l⟩ [.int .i64 0, .int .i64 0, .int .i64 0, v]
theorem RdL.open_ {M : List Nat} {w : World} {v : Value} {l : List E} (h : RdL M w v l) : ∃ A n c, v = .slice A n c ∧ n = l.length ∧ n ≤ c ∧ c ≤ maxLen ∧ n ≤ 140737488355328 ∧
    (0 < n → ∃ b o, A = some ⟨b, o, none⟩ ∧ b ∉ M ∧ ∀ (i : Nat) (h : i < l.length), ∃ cs', Cells w b (o + i * 4) cs' ∧ RdE M w l[i] cs') := by
  obtain ⟨A, n, c, h1, -, -, -, h2, h3, h4, h5, h6⟩ := RdE.open_ h
  cases h1
  exact ⟨A, n, c, rfl, h2, h3, h4, h5, h6⟩
theorem RdL.at {M : List Nat} {w : World} {A : Option Addr} {n c : Nat} {l : List E} (h : RdL M w (.slice A n c) l) : n = l.length ∧ n ≤ c ∧ c ≤ maxLen ∧ n ≤ 140737488355328 ∧
    (0 < n → ∃ b o, A = some ⟨b, o, none⟩ ∧ b ∉ M ∧ ∀ (i : Nat) (h : i < l.length), ∃ cs', Cells w b (o + i * 4) cs' ∧ RdE M w l[i] cs') := by
  obtain ⟨A, n, c, h1, h2⟩ := h.open_
  cases h1; exact h2
theorem RdL.mk {M : List Nat} {w : World} {A : Option Addr} {n c : Nat} {l : List E} (h2 : n = l.length) (h3 : n ≤ c) (h4 : c ≤ maxLen) (h5 : n ≤ 140737488355328)
    (h6 : 0 < n → ∃ b o, A = some ⟨b, o, none⟩ ∧ b ∉ M ∧ ∀ (i : Nat) (h : i < l.length), ∃ cs', Cells w b (o + i * 4) cs' ∧ RdE M w l[i] cs') : RdL M w (.slice A n c) l := by
  unfold RdL; rw [RdE]
  exact ⟨A, n, c, rfl, by unfold i64; simp, by unfold i64; simp, by unfold i64; simp, h2, h3, h4, h5, h6⟩
theorem RdL.keep {M : List Nat} {w w' : World} {v : Value} {l : List E} (h : RdL M w v l) (hk : Keep M w w') : RdL M w' v l := RdE.keep hk _ _ h
theorem RdL.more {M M' : List Nat} {w : World} {v : Value} {l : List E} (h : RdL M w v l) (hM : ∀ g ∈ M', g ∈ M ∨ w.heap.size ≤ g) : RdL M' w v l := RdE.more hM _ _ h

/-- A conjunction, joined from the left. -/
def andAll : List E → E
  | [] => ⟨1, 1, 1, []⟩
  | e :: es => es.foldl andE e
theorem andAll_succ (l : List E) (k : Nat) (hk : k < l.length) : andAll (l.take (k + 1)) = if k = 0 then l[k] else andE (andAll (l.take k)) l[k] := by
  cases l with
  | nil => simp at hk
  | cons e es =>
    cases k with
    | zero => simp [andAll]
    | succ k =>
      have hk' : k < es.length := by simpa using hk
      simp only [List.take_succ_cons, andAll, List.getElem_cons_succ]
      rw [if_neg (by omega), List.take_add_one, List.getElem?_eq_getElem hk', Option.toList_some, List.foldl_append]
      rfl
theorem cntsAppend (a b : List E) : E.cnts (a ++ b) = E.cnts a + E.cnts b := by
  induction a with
  | nil => simp [E.cnts]
  | cons x xs ih => simp only [List.cons_append, E.cnts, ih]; omega
theorem cntsTake (l : List E) (k : Nat) (hk : k < l.length) : E.cnts (l.take (k + 1)) = E.cnts (l.take k) + l[k].cnt ∧ E.cnts (l.take (k + 1)) ≤ E.cnts l := by
  have h1 : E.cnts (l.take (k + 1)) = E.cnts (l.take k) + l[k].cnt := by
    rw [List.take_add_one, List.getElem?_eq_getElem hk, Option.toList_some, cntsAppend]; simp [E.cnts]
  have h2 := cntsAppend (l.take (k + 1)) (l.drop (k + 1))
  rw [List.take_append_drop] at h2
  exact ⟨h1, by omega⟩
end Go.Fw
namespace Go.Proofs.YtinhchacppkmgaaDoor
open Go.Fw Go.RowKit

theorem is_fn (e : E) (n wd : Int) (M : List Nat) (w0 : World) (cs : List Value) (hR : RdE M w0 e cs) (ho : e.op ≠ 1) :
    Does Tryd.prog 72 #[.agg cs.toArray, .int .i64 n, .int .i64 wd] w0 fun v w' => v = .bool false ∧ Below w0.heap.size w0 w' := by
  obtain ⟨A, k, c, rfl, -⟩ := hR.open_
  have S := St.refl w0
  refine Does_enter Tryd.func72 rfl Tryd.ntmps72 rfl ?_
  refine W_seq ?_
  refine W_region ?_
  refine o_boxa S (by conv => lhs; whnf) rfl ?_
  intro g3 w3 S3 X3 G3
  first | refine o_assign (v := .bool _) rfl rfl ?_ | refine o_assign (by conv => lhs; whnf) rfl ?_
  refine WL_nil ?_
  refine W_seq ?_
  refine W_region ?_
  refine o_fieldAddr fa_25_0 rfl rfl ?_
  refine o_load one_3 rfl (by first | exact S3.cell 0 rfl rfl) rfl ?_
  refine o_eql rfl rfl rfl (fun h9 => ?_) (fun h9 => ?_)
  · exfalso; omega
  · first | refine o_move (v := .bool _) rfl rfl ?_ | refine o_move (by conv => lhs; whnf) rfl ?_
    refine WL_off rfl rfl rfl rfl ?_
    refine WL_off rfl rfl rfl rfl ?_
    refine WL_off rfl rfl rfl rfl ?_
    refine WL_off rfl rfl rfl rfl ?_
    first | refine o_pick rfl (v := .bool _) rfl rfl ?_ | refine o_pick rfl (by conv => lhs; whnf) rfl ?_
    first | refine o_move (v := .bool _) rfl rfl ?_ | refine o_move (by conv => lhs; whnf) rfl ?_
    refine WL_off rfl rfl rfl rfl ?_
    refine WL_off rfl rfl rfl rfl ?_
    refine WL_off rfl rfl rfl rfl ?_
    refine WL_off rfl rfl rfl rfl ?_
    first | refine o_pick rfl (v := .bool _) rfl rfl ?_ | refine o_pick rfl (by conv => lhs; whnf) rfl ?_
    first | refine o_assign (v := .bool _) rfl rfl ?_ | refine o_assign (by conv => lhs; whnf) rfl ?_
    refine WL_nil ?_
    refine W_ret ?_
    refine ret_1 rfl (by conv => lhs; whnf) ?_
    exact ⟨rfl, S3.fin⟩

theorem formedT_fn (e : E) (M : List Nat) (w0 : World) (cs : List Value) (hR : RdE M w0 e cs) (hw : e.wf = true) :
    Does Tryd.prog 48 #[.agg cs.toArray] w0 fun v w' => v = .bool true ∧ Below w0.heap.size w0 w' := by
  have h := formed_fn e M w0 cs hR
  rwa [hw] at h
theorem sizeT_fn (e : E) (M : List Nat) (w0 : World) (cs : List Value) (hR : RdE M w0 e cs) (hc : e.cnt ≤ 600) :
    Does Tryd.prog 32 #[.agg cs.toArray, .int .i64 601] w0 fun v w' => v = .int .i64 (e.cnt : Int) ∧ Below w0.heap.size w0 w' := by
  have h := size_fn e M w0 cs 601 hR (by unfold i64; omega)
  have he : e.size 601 = (e.cnt : Int) := by rw [E.size_eq e 601 (by omega)]; omega
  rwa [he] at h

theorem fold06_fn (l : List E) (M : List Nat) (w0 : World) (vl : Value) (hL : RdL M w0 vl l) (hM : ∀ g ∈ M, g < w0.heap.size) (hel : ∀ e ∈ l, e.wf = true ∧ e.w = 1 ∧ e.op ≠ 1) (hsz : E.cnts l + l.length ≤ 600) (hfin : (andAll l).wf = true) :
    Does Tryd.prog 59 #[vl, .int .i64 5, .int .i64 1] w0 fun v w' => (∃ cs : List Value, v = .agg cs.toArray ∧ RdE M w' (andAll l) cs) ∧ Below w0.heap.size w0 w' := by
  obtain ⟨A, n, c, rfl, hn, hc, hm, hbig, hks⟩ := hL.open_
  have S := St.refl w0
  refine Does_enter Tryd.func59 rfl Tryd.ntmps59 rfl ?_
  refine W_seq ?_
  refine W_region ?_
  refine o_alloc S zv_25 rfl rfl ?_
  intro g6 w6 S6 X6 G6
  refine WL_nil ?_
  refine W_seq ?_
  refine W_region ?_
  first | refine o_assign (v := .bool _) rfl rfl ?_ | refine o_assign (by conv => lhs; whnf) rfl ?_
  refine WL_nil ?_
  refine W_seq ?_
  refine W_seq ?_
  refine W_region ?_
  first | refine o_assign (v := .int .i64 _) rfl rfl ?_ | refine o_assign (by conv => lhs; whnf) rfl ?_
  refine WL_nil ?_
  refine W_block ?_
  refine W_loop (fun μ D ε w => D = [] ∧ ∃ k : Nat, (k + μ = l.length) ∧ St [] w0 w [(some g6, 25, [.int .i64 0, .int .i64 0, .int .i64 0, .slice none 0 0])] ∧ ε 0 = .slice A n c ∧ ε 1 = .int .i64 5 ∧ ε 2 = .int .i64 1 ∧ ε 6 = .pointer (some ⟨g6, 0, none⟩) ∧ ε 7 = .bool false ∧ ε 8 = .int .i64 k) (μ := l.length) ⟨rfl, 0, by omega, S6, rfl, rfl, rfl, rfl, rfl, rfl⟩ ?_
  rintro μ D ε w ⟨rfl, k, hk, S, e0, e1, e2, e6, e7, e8⟩
  refine W_known 0 e0 ?_
  refine W_known 1 e1 ?_
  refine W_known 2 e2 ?_
  refine W_known 6 e6 ?_
  refine W_known 7 e7 ?_
  refine W_known 8 e8 ?_
  clear e0 e1 e2 e6 e7 e8
  refine W_seq ?_
  refine W_seq ?_
  refine W_region ?_
  first | refine o_move (v := .int .i64 _) rfl rfl ?_ | refine o_move (by conv => lhs; whnf) rfl ?_
  first | refine o_move (v := .slice _ _ _) rfl rfl ?_ | refine o_move (by conv => lhs; whnf) rfl ?_
  refine o_len slz_23.slT rfl rfl ?_
  refine o_lss rfl rfl rfl (fun h16 => ?_) (fun h16 => ?_)
  · refine WL_nil ?_
    refine W_then rfl ?_
    refine W_skip ?_
    refine W_seq ?_
    refine W_block ?_
    refine W_seq ?_
    refine W_seq ?_
    refine W_region ?_
    first | refine o_move (v := .slice _ _ _) rfl rfl ?_ | refine o_move (by conv => lhs; whnf) rfl ?_
    first | refine o_move (v := .int .i64 _) rfl rfl ?_ | refine o_move (by conv => lhs; whnf) rfl ?_
    have hlt : k < l.length := by omega
    obtain ⟨b, o, hA, hbM, hkk⟩ := hks (by omega)
    obtain ⟨ck, hck, hrk⟩ := hkk k hlt
    obtain ⟨Ak, nk, qk, rfl, -⟩ := hrk.open_
    have hcw := hck 1 _ rfl
    obtain ⟨e1, e2, e3⟩ := hel l[k] (List.getElem_mem hlt)
    refine o_indexAddr slz_23.slT rfl (by first | rfl | assumption) rfl (by omega) (by omega) rfl ?_
    refine o_fieldAddr fa_25_1 rfl rfl ?_
    refine o_load one_3 rfl (by first | exact S.cell 0 rfl rfl | exact S.old hcw) rfl ?_
    refine o_neq rfl rfl rfl (fun h24 => ?_) (fun h24 => ?_)
    · exfalso; exact h24 e2
    · first | refine o_move (v := .bool _) rfl rfl ?_ | refine o_move (by conv => lhs; whnf) rfl ?_
      refine WL_on rfl rfl rfl ?_
      first | refine o_move (v := .slice _ _ _) rfl rfl ?_ | refine o_move (by conv => lhs; whnf) rfl ?_
      refine WL_on rfl rfl rfl ?_
      first | refine o_move (v := .int .i64 _) rfl rfl ?_ | refine o_move (by conv => lhs; whnf) rfl ?_
      refine WL_on rfl rfl rfl ?_
      refine o_indexAddr slz_23.slT rfl (by first | rfl | assumption) rfl (by omega) (by omega) rfl ?_
      refine WL_on rfl rfl rfl ?_
      first | refine o_loadN many_25 rfl (S.cells 0 rfl) rfl rfl ?_ | refine o_loadN many_25 rfl (hck.keep (S.keep0 M) hbM) (by first | rfl | assumption) rfl ?_ | refine o_loadN many_25 rfl (hck'.keep (S.keep0 (g6 :: g9 :: M)) hbM') (by first | rfl | assumption) rfl ?_
      refine WL_on rfl rfl rfl ?_
      refine o_callr S has_48 rfl rfl (formedT_fn l[k] M _ _ (RdE.keep (S.keep0 M) _ _ hrk) e1) ?_
      intro w30 S30 X30
      refine WL_on rfl rfl rfl ?_
      refine o_not rfl rfl ?_
      first | refine o_pick rfl (v := .bool _) rfl rfl ?_ | refine o_pick rfl (by conv => lhs; whnf) rfl ?_
      refine WL_nil ?_
      refine W_else rfl ?_
      refine W_skip ?_
      refine W_region ?_
      first | refine o_move (v := .bool _) rfl rfl ?_ | refine o_move (by conv => lhs; whnf) rfl ?_
      first | refine o_move (v := .bool _) rfl rfl ?_ | refine o_move (by conv => lhs; whnf) rfl ?_
      refine WL_on rfl rfl rfl ?_
      first | refine o_move (v := .slice _ _ _) rfl rfl ?_ | refine o_move (by conv => lhs; whnf) rfl ?_
      refine WL_on rfl rfl rfl ?_
      first | refine o_move (v := .int .i64 _) rfl rfl ?_ | refine o_move (by conv => lhs; whnf) rfl ?_
      refine WL_on rfl rfl rfl ?_
      refine o_indexAddr slz_23.slT rfl (by first | rfl | assumption) rfl (by omega) (by omega) rfl ?_
      refine WL_on rfl rfl rfl ?_
      first | refine o_loadN many_25 rfl (S30.cells 0 rfl) rfl rfl ?_ | refine o_loadN many_25 rfl (hck.keep (S30.keep0 M) hbM) (by first | rfl | assumption) rfl ?_ | refine o_loadN many_25 rfl (hck'.keep (S30.keep0 (g6 :: g9 :: M)) hbM') (by first | rfl | assumption) rfl ?_
      refine WL_on rfl rfl rfl ?_
      first | refine o_move (v := .int .i64 _) rfl rfl ?_ | refine o_move (by conv => lhs; whnf) rfl ?_
      refine WL_on rfl rfl rfl ?_
      refine o_sub rfl rfl (by unfold i64; omega) rfl ?_
      refine WL_on rfl rfl rfl ?_
      refine o_callr S30 has_72 rfl rfl (is_fn l[k] _ _ M _ _ (RdE.keep (S30.keep0 M) _ _ hrk) e3) ?_
      intro w42 S42 X42
      first | refine o_pick rfl (v := .bool _) rfl rfl ?_ | refine o_pick rfl (by conv => lhs; whnf) rfl ?_
      first | refine o_assign (v := .bool _) rfl rfl ?_ | refine o_assign (by conv => lhs; whnf) rfl ?_
      refine WL_nil ?_
      refine W_region ?_
      first | refine o_move (v := .int .i64 _) rfl rfl ?_ | refine o_move (by conv => lhs; whnf) rfl ?_
      refine o_add rfl rfl (by unfold i64; omega) rfl ?_
      first | refine o_assign (v := .int .i64 _) rfl rfl ?_ | refine o_assign (by conv => lhs; whnf) rfl ?_
      refine WL_nil ?_
      exact ⟨μ - 1, by omega, rfl, k + 1, by omega, S42, rfl, rfl, rfl, rfl, rfl, rfl⟩
  · refine WL_nil ?_
    refine W_else rfl ?_
    refine W_exit ?_
    refine bcons_here ?_
    refine W_seq ?_
    refine W_seq ?_
    refine W_region ?_
    first | refine o_move (v := .bool _) rfl rfl ?_ | refine o_move (by conv => lhs; whnf) rfl ?_
    refine WL_nil ?_
    refine W_else rfl ?_
    refine W_skip ?_
    refine W_seq ?_
    refine W_region ?_
    first | refine o_move (v := .int .i64 _) rfl rfl ?_ | refine o_move (by conv => lhs; whnf) rfl ?_
    refine o_calln S has_16 rfl rfl (const_fn 1 1 (by decide) (by decide) [] _) ?_
    rintro v49 w49 ⟨c49, rfl, r49⟩ S49 X49
    obtain ⟨A49, n49, q49, rfl, -⟩ := r49.open_
    refine o_alloc S49 zv_25 rfl rfl ?_
    intro g9 w9 S9 X9 G9
    first | refine o_storeN (kk := 0) (vs := [_, _, _, _]) S9 sz_25 rfl rfl rfl rfl rfl rfl rfl ?_ | refine o_storeN (kk := 1) (vs := [_, _, _, _]) S9 sz_25 rfl rfl rfl rfl rfl rfl rfl ?_
    intro w10_3 S10_3 X10_3
    dsimp only [setsAt, List.set] at S10_3
    refine WL_nil ?_
    refine W_seq ?_
    refine W_region ?_
    first | refine o_assign (v := .bool _) rfl rfl ?_ | refine o_assign (by conv => lhs; whnf) rfl ?_
    refine WL_nil ?_
    refine W_seq ?_
    have hMM : ∀ g ∈ g6 :: g9 :: M, g ∈ M ∨ w0.heap.size ≤ g := by
      intro g hg; simp at hg
      rcases hg with rfl | rfl | hg
      · right; simpa using S10_3.new 1 rfl
      · right; simpa using S10_3.new 0 rfl
      · exact .inl hg
    have hL' := hL.more hMM
    obtain ⟨-, -, -, -, hks'⟩ := hL'.at
    have hM2 : ∀ g ∈ g6 :: g9 :: M, g < w10_3.heap.size := by
      intro g hg; simp at hg
      rcases hg with rfl | rfl | hg
      · exact S10_3.lt 1 rfl
      · exact S10_3.lt 0 rfl
      · have := hM g hg; have := S10_3.size; omega
    obtain ⟨wq, hwq⟩ : ∃ wq, wq = w10_3 := ⟨_, rfl⟩
    refine W_region ?_
    first | refine o_assign (v := .int .i64 _) rfl rfl ?_ | refine o_assign (by conv => lhs; whnf) rfl ?_
    refine WL_nil ?_
    refine W_seq ?_
    refine W_seq ?_
    refine W_region ?_
    first | refine o_assign (v := .int .i64 _) rfl rfl ?_ | refine o_assign (by conv => lhs; whnf) rfl ?_
    refine WL_nil ?_
    refine W_block ?_
    refine W_loop (fun μ D ε w => D = [] ∧ ∃ k : Nat, ∃ co : List Value, ∃ out : E, (k + μ = l.length) ∧ (out = andAll (l.take k)) ∧ (RdE (g6 :: g9 :: M) w out co) ∧ St [] w0 w [(some g9, 25, co), (some g6, 25, [.int .i64 0, .int .i64 0, .int .i64 0, .slice none 0 0])] ∧ ε 0 = .slice A n c ∧ ε 1 = .int .i64 5 ∧ ε 2 = .int .i64 1 ∧ ε 6 = .pointer (some ⟨g6, 0, none⟩) ∧ ε 9 = .pointer (some ⟨g9, 0, none⟩) ∧ ε 10 = .bool (decide (k = 0)) ∧ ε 11 = .int .i64 ((E.cnts (l.take k) + (k - 1) : Nat) : Int) ∧ ε 12 = .int .i64 k) (μ := l.length) ⟨rfl, 0, _, ⟨1, 1, 1, []⟩, by omega, rfl, rdE_any r49, S10_3, rfl, rfl, rfl, rfl, rfl, rfl, rfl, rfl⟩ ?_
    rintro μ D ε w ⟨rfl, k, co, out, hk, hout, ro, S, e0, e1, e2, e6, e9, e10, e11, e12⟩
    refine W_known 0 e0 ?_
    refine W_known 1 e1 ?_
    refine W_known 2 e2 ?_
    refine W_known 6 e6 ?_
    refine W_known 9 e9 ?_
    refine W_known 10 e10 ?_
    refine W_known 11 e11 ?_
    refine W_known 12 e12 ?_
    clear e0 e1 e2 e6 e9 e10 e11 e12
    obtain ⟨Ao, no, qo, rfl, -⟩ := ro.open_
    have hle0 : E.cnts (l.take k) ≤ E.cnts l := by
      have h2 := cntsAppend (l.take k) (l.drop k)
      rw [List.take_append_drop] at h2; omega
    refine W_seq ?_
    refine W_seq ?_
    refine W_region ?_
    first | refine o_move (v := .int .i64 _) rfl rfl ?_ | refine o_move (by conv => lhs; whnf) rfl ?_
    first | refine o_move (v := .slice _ _ _) rfl rfl ?_ | refine o_move (by conv => lhs; whnf) rfl ?_
    refine o_len slz_23.slT rfl rfl ?_
    refine o_lss rfl rfl rfl (fun h53 => ?_) (fun h53 => ?_)
    · first | refine o_move (v := .bool _) rfl rfl ?_ | refine o_move (by conv => lhs; whnf) rfl ?_
      refine WL_on rfl rfl rfl ?_
      first | refine o_move (v := .int .i64 _) rfl rfl ?_ | refine o_move (by conv => lhs; whnf) rfl ?_
      refine WL_on rfl rfl rfl ?_
      refine o_leq rfl rfl rfl (fun h56 => ?_) (fun h56 => ?_)
      · first | refine o_pick rfl (v := .bool _) rfl rfl ?_ | refine o_pick rfl (by conv => lhs; whnf) rfl ?_
        refine WL_nil ?_
        refine W_then rfl ?_
        refine W_skip ?_
        refine W_seq ?_
        refine W_block ?_
        refine W_seq ?_
        refine W_seq ?_
        refine W_region ?_
        first | refine o_move (v := .slice _ _ _) rfl rfl ?_ | refine o_move (by conv => lhs; whnf) rfl ?_
        first | refine o_move (v := .int .i64 _) rfl rfl ?_ | refine o_move (by conv => lhs; whnf) rfl ?_
        have hlt : k < l.length := by omega
        obtain ⟨b, o, hA, hbM', hkk⟩ := hks' (by omega)
        obtain ⟨ck, hck', hrk'⟩ := hkk k hlt
        obtain ⟨Ak, nk, qk, rfl, -⟩ := hrk'.open_
        obtain ⟨e1, e2, e3⟩ := hel l[k] (List.getElem_mem hlt)
        have hcn : l[k].cnt ≤ 600 := by obtain ⟨c1, c2⟩ := cntsTake l k hlt; omega
        refine o_indexAddr slz_23.slT rfl (by first | rfl | assumption) rfl (by omega) (by omega) rfl ?_
        first | refine o_loadN many_25 rfl (S.cells 0 rfl) rfl rfl ?_ | refine o_loadN many_25 rfl (S.cells 1 rfl) rfl rfl ?_ | refine o_loadN many_25 rfl (hck.keep (S.keep0 M) hbM) (by first | rfl | assumption) rfl ?_ | refine o_loadN many_25 rfl (hck'.keep (S.keep0 (g6 :: g9 :: M)) hbM') (by first | rfl | assumption) rfl ?_
        first | refine o_move (v := .int .i64 _) rfl rfl ?_ | refine o_move (by conv => lhs; whnf) rfl ?_
        refine o_callr S has_72 rfl rfl (is_fn l[k] _ _ (g6 :: g9 :: M) _ _ (RdE.keep (S.keep0 _) _ _ hrk') e3) ?_
        intro w65 S65 X65
        replace ro := RdE.keep (X65.of_nil) _ _ ro
        refine WL_nil ?_
        refine W_else rfl ?_
        refine W_skip ?_
        refine W_seq ?_
        refine W_region ?_
        first | refine o_move (v := .int .i64 _) rfl rfl ?_ | refine o_move (by conv => lhs; whnf) rfl ?_
        first | refine o_move (v := .slice _ _ _) rfl rfl ?_ | refine o_move (by conv => lhs; whnf) rfl ?_
        first | refine o_move (v := .int .i64 _) rfl rfl ?_ | refine o_move (by conv => lhs; whnf) rfl ?_
        refine o_indexAddr slz_23.slT rfl (by first | rfl | assumption) rfl (by omega) (by omega) rfl ?_
        first | refine o_loadN many_25 rfl (S65.cells 0 rfl) rfl rfl ?_ | refine o_loadN many_25 rfl (S65.cells 1 rfl) rfl rfl ?_ | refine o_loadN many_25 rfl (hck.keep (S65.keep0 M) hbM) (by first | rfl | assumption) rfl ?_ | refine o_loadN many_25 rfl (hck'.keep (S65.keep0 (g6 :: g9 :: M)) hbM') (by first | rfl | assumption) rfl ?_
        refine o_callr S65 has_32 rfl rfl (sizeT_fn l[k] (g6 :: g9 :: M) _ _ (RdE.keep (S65.keep0 _) _ _ hrk') hcn) ?_
        intro w71 S71 X71
        replace ro := RdE.keep (X71.of_nil) _ _ ro
        refine o_add rfl rfl (by unfold i64; omega) rfl ?_
        first | refine o_assign (v := .int .i64 _) rfl rfl ?_ | refine o_assign (by conv => lhs; whnf) rfl ?_
        refine WL_nil ?_
        refine W_seq ?_
        refine W_region ?_
        cases hb73 : decide (k = 0)
        · first | refine o_move (v := .bool _) rfl rfl ?_ | refine o_move (by conv => lhs; whnf) rfl ?_
          refine WL_nil ?_
          refine W_else rfl ?_
          refine W_seq ?_
          refine W_draw follows_mixed [0, 1, 2, 3, 4, 5] [] [6, 7] (by kernel_rfl) rfl (Cl _ _ _ _) (Cl.start S71) ?_
          first | refine q_move (v := .int .i64 _) rfl rfl ?_ | refine q_move (by conv => lhs; whnf) rfl ?_
          first | refine q_loadN many_25 rfl (fun w1 hw => hw.1.cells 0 rfl) rfl rfl ?_ | refine q_loadN many_25 rfl (fun w1 hw => hw.1.cells 1 rfl) rfl rfl ?_ | refine q_loadN many_25 rfl (fun w1 hw => hck.keep (hw.1.keep0 M) hbM) (by first | rfl | assumption) rfl ?_ | refine q_loadN many_25 rfl (fun w1 hw => hck'.keep (hw.1.keep0 (g6 :: g9 :: M)) hbM') (by first | rfl | assumption) rfl ?_
          first | refine q_move (v := .slice _ _ _) rfl rfl ?_ | refine q_move (by conv => lhs; whnf) rfl ?_
          first | refine q_move (v := .int .i64 _) rfl rfl ?_ | refine q_move (by conv => lhs; whnf) rfl ?_
          refine q_indexAddr slz_23.slT rfl (by first | rfl | assumption) rfl (by omega) (by omega) rfl ?_
          first | refine q_loadN many_25 rfl (fun w1 hw => hw.1.cells 0 rfl) rfl rfl ?_ | refine q_loadN many_25 rfl (fun w1 hw => hw.1.cells 1 rfl) rfl rfl ?_ | refine q_loadN many_25 rfl (fun w1 hw => hck.keep (hw.1.keep0 M) hbM) (by first | rfl | assumption) rfl ?_ | refine q_loadN many_25 rfl (fun w1 hw => hck'.keep (hw.1.keep0 (g6 :: g9 :: M)) hbM') (by first | rfl | assumption) rfl ?_
          refine QL_nil ?_
          refine BK_of ?_
          refine BKL_nil ?_
          rintro wR21 ⟨SR21, XR21⟩
          replace ro := RdE.keep (XR21.of_nil) _ _ ro
          refine o_calln SR21 has_12 rfl rfl (two_fn 5 1 (by decide) (by decide) out l[k] _ _ (g6 :: g9 :: M) _ (fun g hg => by simp at hg; rcases hg with rfl | rfl | hg; exact SR21.lt 1 rfl; exact SR21.lt 0 rfl; have := hM g hg; have := SR21.size; omega) ro (RdE.keep (SR21.keep0 _) _ _ hrk')) ?_
          rintro v84 w84 ⟨c84, rfl, r84⟩ S84 X84
          replace ro := RdE.keep (X84.of_nil) _ _ ro
          obtain ⟨A84, n84, q84, rfl, -⟩ := r84.open_
          first | refine o_storeN (kk := 0) (vs := [_, _, _, _]) S84 sz_25 rfl rfl rfl rfl rfl rfl rfl ?_ | refine o_storeN (kk := 1) (vs := [_, _, _, _]) S84 sz_25 rfl rfl rfl rfl rfl rfl rfl ?_
          intro w21_7 S21_7 X21_7
          dsimp only [setsAt, List.set] at S21_7
          replace ro := RdE.keep (X21_7.mono (by simp)) _ _ ro
          replace r84 := RdE.keep (X21_7.mono (by simp)) _ _ r84
          refine WL_nil ?_
          refine W_region ?_
          first | refine o_move (v := .int .i64 _) rfl rfl ?_ | refine o_move (by conv => lhs; whnf) rfl ?_
          refine o_add rfl rfl (by unfold i64; omega) rfl ?_
          first | refine o_assign (v := .int .i64 _) rfl rfl ?_ | refine o_assign (by conv => lhs; whnf) rfl ?_
          refine WL_nil ?_
          refine W_region ?_
          first | refine o_move (v := .int .i64 _) rfl rfl ?_ | refine o_move (by conv => lhs; whnf) rfl ?_
          refine o_add rfl rfl (by unfold i64; omega) rfl ?_
          first | refine o_assign (v := .int .i64 _) rfl rfl ?_ | refine o_assign (by conv => lhs; whnf) rfl ?_
          refine WL_nil ?_
          have hs := andAll_succ l k hlt
          have ct := cntsTake l k hlt
          first
            | (have hk0 : k = 0 := of_decide_eq_true hb73
               rw [if_pos hk0] at hs
               exact ⟨μ - 1, by omega, rfl, k + 1, _, l[k], by omega, hs.symm, RdE.keep (S21_7.keep0 _) _ _ hrk', S21_7, rfl, rfl, rfl, rfl, rfl, congrArg Value.bool (by simp), congrArg (Value.int .i64) (by omega), rfl⟩)
            | (have hk0 : ¬ k = 0 := of_decide_eq_false hb73
               rw [if_neg hk0] at hs
               exact ⟨μ - 1, by omega, rfl, k + 1, _, andE out l[k], by omega, by rw [hs, hout], r84, S21_7, rfl, rfl, rfl, rfl, rfl, congrArg Value.bool (by simp), congrArg (Value.int .i64) (by omega), rfl⟩)
        · first | refine o_move (v := .bool _) rfl rfl ?_ | refine o_move (by conv => lhs; whnf) rfl ?_
          refine WL_nil ?_
          refine W_then rfl ?_
          refine W_seq ?_
          refine W_region ?_
          first | refine o_move (v := .slice _ _ _) rfl rfl ?_ | refine o_move (by conv => lhs; whnf) rfl ?_
          first | refine o_move (v := .int .i64 _) rfl rfl ?_ | refine o_move (by conv => lhs; whnf) rfl ?_
          refine o_indexAddr slz_23.slT rfl (by first | rfl | assumption) rfl (by omega) (by omega) rfl ?_
          first | refine o_loadN many_25 rfl (S71.cells 0 rfl) rfl rfl ?_ | refine o_loadN many_25 rfl (S71.cells 1 rfl) rfl rfl ?_ | refine o_loadN many_25 rfl (hck.keep (S71.keep0 M) hbM) (by first | rfl | assumption) rfl ?_ | refine o_loadN many_25 rfl (hck'.keep (S71.keep0 (g6 :: g9 :: M)) hbM') (by first | rfl | assumption) rfl ?_
          first | refine o_storeN (kk := 0) (vs := [_, _, _, _]) S71 sz_25 rfl rfl rfl rfl rfl rfl rfl ?_ | refine o_storeN (kk := 1) (vs := [_, _, _, _]) S71 sz_25 rfl rfl rfl rfl rfl rfl rfl ?_
          intro w19_4 S19_4 X19_4
          dsimp only [setsAt, List.set] at S19_4
          replace ro := RdE.keep (X19_4.mono (by simp)) _ _ ro
          refine WL_nil ?_
          refine W_region ?_
          first | refine o_assign (v := .bool _) rfl rfl ?_ | refine o_assign (by conv => lhs; whnf) rfl ?_
          refine WL_nil ?_
          refine W_region ?_
          first | refine o_move (v := .int .i64 _) rfl rfl ?_ | refine o_move (by conv => lhs; whnf) rfl ?_
          refine o_add rfl rfl (by unfold i64; omega) rfl ?_
          first | refine o_assign (v := .int .i64 _) rfl rfl ?_ | refine o_assign (by conv => lhs; whnf) rfl ?_
          refine WL_nil ?_
          have hs := andAll_succ l k hlt
          have ct := cntsTake l k hlt
          first
            | (have hk0 : k = 0 := of_decide_eq_true hb73
               rw [if_pos hk0] at hs
               exact ⟨μ - 1, by omega, rfl, k + 1, _, l[k], by omega, hs.symm, RdE.keep (S19_4.keep0 _) _ _ hrk', S19_4, rfl, rfl, rfl, rfl, rfl, congrArg Value.bool (by simp), congrArg (Value.int .i64) (by omega), rfl⟩)
            | (have hk0 : ¬ k = 0 := of_decide_eq_false hb73
               rw [if_neg hk0] at hs
               exact ⟨μ - 1, by omega, rfl, k + 1, _, andE out l[k], by omega, by rw [hs, hout], r84, S19_4, rfl, rfl, rfl, rfl, rfl, congrArg Value.bool (by simp), congrArg (Value.int .i64) (by omega), rfl⟩)
      · exfalso; omega
    · first | refine o_move (v := .bool _) rfl rfl ?_ | refine o_move (by conv => lhs; whnf) rfl ?_
      refine WL_off rfl rfl rfl rfl ?_
      refine WL_off rfl rfl rfl rfl ?_
      first | refine o_pick rfl (v := .bool _) rfl rfl ?_ | refine o_pick rfl (by conv => lhs; whnf) rfl ?_
      refine WL_nil ?_
      refine W_else rfl ?_
      refine W_exit ?_
      refine bcons_here ?_
      refine W_seq ?_
      refine W_seq ?_
      have htk : l.take k = l := List.take_of_length_le (by omega)
      rw [htk] at hout
      refine W_region ?_
      first | refine o_move (v := .int .i64 _) rfl rfl ?_ | refine o_move (by conv => lhs; whnf) rfl ?_
      refine o_gtr rfl rfl rfl (fun h88 => ?_) (fun h88 => ?_)
      · exfalso; omega
      · first | refine o_move (v := .bool _) rfl rfl ?_ | refine o_move (by conv => lhs; whnf) rfl ?_
        refine WL_on rfl rfl rfl ?_
        first | refine o_loadN many_25 rfl (S.cells 0 rfl) rfl rfl ?_ | refine o_loadN many_25 rfl (S.cells 1 rfl) rfl rfl ?_ | refine o_loadN many_25 rfl (hck.keep (S.keep0 M) hbM) (by first | rfl | assumption) rfl ?_ | refine o_loadN many_25 rfl (hck'.keep (S.keep0 (g6 :: g9 :: M)) hbM') (by first | rfl | assumption) rfl ?_
        refine WL_on rfl rfl rfl ?_
        refine o_callr S has_48 rfl rfl (formedT_fn out (g6 :: g9 :: M) _ _ ro (by rw [hout]; exact hfin)) ?_
        intro w91 S91 X91
        replace ro := RdE.keep (X91.of_nil) _ _ ro
        refine WL_on rfl rfl rfl ?_
        refine o_not rfl rfl ?_
        first | refine o_pick rfl (v := .bool _) rfl rfl ?_ | refine o_pick rfl (by conv => lhs; whnf) rfl ?_
        refine WL_nil ?_
        refine W_else rfl ?_
        refine W_skip ?_
        refine W_seq ?_
        refine W_region ?_
        first | refine o_loadN many_25 rfl (S91.cells 0 rfl) rfl rfl ?_ | refine o_loadN many_25 rfl (S91.cells 1 rfl) rfl rfl ?_ | refine o_loadN many_25 rfl (hck.keep (S91.keep0 M) hbM) (by first | rfl | assumption) rfl ?_ | refine o_loadN many_25 rfl (hck'.keep (S91.keep0 (g6 :: g9 :: M)) hbM') (by first | rfl | assumption) rfl ?_
        first | refine o_storeN (kk := 0) (vs := [_, _, _, _]) S91 sz_25 rfl rfl rfl rfl rfl rfl rfl ?_ | refine o_storeN (kk := 1) (vs := [_, _, _, _]) S91 sz_25 rfl rfl rfl rfl rfl rfl rfl ?_
        intro w25_1 S25_1 X25_1
        dsimp only [setsAt, List.set] at S25_1
        replace ro := RdE.keep (X25_1.mono (by simp)) _ _ ro
        refine WL_nil ?_
        refine W_ret ?_
        refine ret_cell1 rfl many_25 rfl (S25_1.cells 1 rfl) rfl ⟨⟨_, rfl, ?_⟩, S25_1.nil.fin⟩
        rw [← hout]; exact RdE.more (fun g hg => .inl (by simp [hg])) _ _ ro
end Go.Proofs.YtinhchacppkmgaaDoor
