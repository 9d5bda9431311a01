/-
  Contracts of packages relyguardref06 and relyguardref20: supports, bits.
-/
import Derived.Test.YtinhchacppkmgaaDoorR06b
namespace Go.Fw
open Go.RowKit
/-- A condition. -/
structure CondD where
  id : ByteArray
  kind : Int
  module_ : Int
  thread : Int
  item : Int
  other : Int
  hyp : E
  goal : E

def RdCond (M : List Nat) (w : World) (c : CondD) (cs : List Value) : Prop :=
  ∃ ch cg, cs = [.string c.id, .int .i64 c.kind, .int .i64 c.module_, .int .i64 c.thread, .int .i64 c.item, .int .i64 c.other] ++ ch ++ cg ∧ RdE M w c.hyp ch ∧ RdE M w c.goal cg

theorem RdCond.keep {M : List Nat} {w w' : World} {c : CondD} {cs : List Value} (h : RdCond M w c cs) (hk : Keep M w w') : RdCond M w' c cs := by
  obtain ⟨ch, cg, h1, h2, h3⟩ := h
  exact ⟨ch, cg, h1, RdE.keep hk _ _ h2, RdE.keep hk _ _ h3⟩
theorem RdCond.more {M M' : List Nat} {w : World} {c : CondD} {cs : List Value} (h : RdCond M w c cs) (hM : ∀ g ∈ M', g ∈ M ∨ w.heap.size ≤ g) : RdCond M' w c cs := by
  obtain ⟨ch, cg, h1, h2, h3⟩ := h
  exact ⟨ch, cg, h1, RdE.more hM _ _ h2, RdE.more hM _ _ h3⟩

def setAll (l : List Int) (bs : List Bool) : List Bool := l.foldl (fun bs i => bs.set i.toNat true) bs
theorem setAll_len (l : List Int) : ∀ bs : List Bool, (setAll l bs).length = bs.length := by
  induction l with
  | nil => intro bs; rfl
  | cons x xs ih => intro bs; simp only [setAll, List.foldl_cons] at *; rw [ih]; simp
/-- The union of two lists of numbers below 32, in order. -/
def mergeL (a b : List Int) : List Int := markedL (setAll b (setAll a (List.replicate 32 false)))

/-- The supports of a condition. -/
def CondD.sup (op : Int) (c : CondD) : List Int := mergeL (c.hyp.sup op) (c.goal.sup op)
end Go.Fw
namespace Go.Proofs.YtinhchacppkmgaaDoor
open Go.Fw Go.RowKit

theorem rdB_own {w0 w : World} {L : List Ent} {k g : Nat} {M M' : List Nat} {bs : List Bool} {el : Nat} (S : St M' w0 w L) (hk : L[k]? = some (some g, el, bs.map Value.bool)) (hM : g ∉ M) (hn : bs.length = 32) : RdB M w (.slice (some ⟨g, 0, none⟩) 32 32) bs :=
  S.rd1 hk hM (by omega) (by omega) fun i x hi => ⟨.bool x, by simp [hi], rfl⟩

theorem sup_lt (bs : List Bool) (x : Int) (h : x ∈ markedL bs) : 0 ≤ x ∧ x < bs.length := by
  obtain ⟨i, rfl, hi, _⟩ := (markedTo_mem _ _ _).1 h
  omega

theorem support06_fn (e : E) (M : List Nat) (w0 : World) (cs : List Value) (hR : RdE M w0 e cs) (hM : ∀ g ∈ M, g < w0.heap.size) :
    Does Tryd.prog 50 #[.agg cs.toArray] w0 fun v w' => (∃ a b, v = .tuple #[a, b] ∧ RdI M w' a (e.sup 3) ∧ RdI M w' b (e.sup 2)) ∧ Below w0.heap.size w0 w' := by
  obtain ⟨A, n, c, rfl, o1, o2, o3, hn, hc, hm, hbig, hks⟩ := hR.open_
  have S := St.refl w0
  refine Does_enter Tryd.func50 rfl Tryd.ntmps50 rfl ?_
  refine W_seq ?_
  refine W_region ?_
  refine o_boxa S (by conv => lhs; whnf) rfl ?_
  intro g1 w1 S1 X1 G1
  first | refine o_assign (v := .slice _ _ _) rfl rfl ?_ | refine o_assign (by conv => lhs; whnf) rfl ?_
  first | refine o_assign (v := .slice _ _ _) rfl rfl ?_ | refine o_assign (by conv => lhs; whnf) rfl ?_
  refine WL_nil ?_
  refine W_seq ?_
  refine W_seq ?_
  refine W_region ?_
  first | refine o_loadN many_25 rfl (S1.cells 0 rfl) rfl rfl ?_
  refine o_callb S1 has_48 rfl rfl (formed_fn _ M _ _ (RdE.keep (S1.keep0 M) _ _ hR)) (fun h7 w7 S7 X7 => ?_) (fun h7 w7 S7 X7 => ?_)
  · refine o_not rfl rfl ?_
    refine WL_nil ?_
    refine W_else rfl ?_
    refine W_skip ?_
    refine W_seq ?_
    refine W_region ?_
    refine o_make (n := 32) (c := 32) S7 slz_83 rfl rfl (by omega) (by omega) (by omega) rfl rfl ?_
    intro g9 w9 S9 X9 G9
    first | refine o_assign (v := .slice _ _ _) rfl rfl ?_ | refine o_assign (by conv => lhs; whnf) rfl ?_
    refine WL_nil ?_
    refine W_seq ?_
    refine W_region ?_
    refine o_make (n := 32) (c := 32) S9 slz_83 rfl rfl (by omega) (by omega) (by omega) rfl rfl ?_
    intro g10 w10 S10 X10 G10
    first | refine o_assign (v := .slice _ _ _) rfl rfl ?_ | refine o_assign (by conv => lhs; whnf) rfl ?_
    refine WL_nil ?_
    refine W_seq ?_
    refine W_region ?_
    first | refine o_loadN many_25 rfl (S10.cells 0 rfl) rfl rfl ?_ | refine o_loadN many_25 rfl (S10.cells 1 rfl) rfl rfl ?_ | refine o_loadN many_25 rfl (S10.cells 2 rfl) rfl rfl ?_
    first | refine o_move (v := .slice _ _ _) rfl rfl ?_ | refine o_move (by conv => lhs; whnf) rfl ?_
    first | refine o_move (v := .slice _ _ _) rfl rfl ?_ | refine o_move (by conv => lhs; whnf) rfl ?_
    have hgood : e.good 40 = true := by unfold E.wf at h7; simp only [Bool.and_eq_true] at h7; exact h7.2
    have hne : g9 ≠ g10 := by have := S9.lt 0 rfl; omega
    have hM' : ∀ g ∈ [g9, g10] ++ M, g ∈ M ∨ w0.heap.size ≤ g := fun g hg => by
      simp at hg; rcases hg with rfl | rfl | hg
      · right; have := S9.new 0 rfl; simp at this; exact this
      · right; have := S10.new 0 rfl; simp at this; exact this
      · exact .inl hg
    refine o_call has_68 rfl rfl (marks_fn e ([g9, g10] ++ M) _ _ g9 g10 (List.replicate 32 false) (List.replicate 32 false) 40 (RdE.keep (S10.keep0 _) _ _ (RdE.more hM' _ _ hR)) hgood (by simp) (by simp) hne (by simp) (by simp) (by simpa using S10.blk 1 rfl) (by simpa using S10.blk 0 rfl)) ?_
    rintro v14 w14 ⟨B14, hB1, hB2⟩
    have S14 := S10.changed2 1 0 rfl rfl B14 hB1 hB2
    refine WL_nil ?_
    refine W_seq ?_
    refine W_region ?_
    first | refine o_move (v := .slice _ _ _) rfl rfl ?_ | refine o_move (by conv => lhs; whnf) rfl ?_
    refine o_calln S14 has_69 rfl rfl (marked_fn M _ _ (e.mark 3 (List.replicate 32 false)) (rdB_own (k := 1) S14 rfl (fun h => by have := hM g9 h; have := S9.new 0 rfl; simp at this; omega) (by rw [E.mark_len]; simp)) (fun g hg => by have := hM g hg; have := S14.size; omega) (by rw [E.mark_len]; simp)) ?_
    rintro v16 w16 r16 S16 X16
    first | refine o_move (v := .slice _ _ _) rfl rfl ?_ | refine o_move (by conv => lhs; whnf) rfl ?_
    refine o_calln S16 has_69 rfl rfl (marked_fn M _ _ (e.mark 2 (List.replicate 32 false)) (rdB_own (k := 0) S16 rfl (fun h => by have := hM g10 h; have := S10.new 0 rfl; simp at this; omega) (by rw [E.mark_len]; simp)) (fun g hg => by have := hM g hg; have := S16.size; omega) (by rw [E.mark_len]; simp)) ?_
    rintro v18 w18 r18 S18 X18
    replace r16 := r16.keep (X18.of_nil)
    first | refine o_assign (v := .slice _ _ _) rfl rfl ?_ | refine o_assign (by conv => lhs; whnf) rfl ?_
    first | refine o_assign (v := .slice _ _ _) rfl rfl ?_ | refine o_assign (by conv => lhs; whnf) rfl ?_
    refine WL_nil ?_
    refine W_ret ?_
    refine ret_2 rfl (by conv => lhs; whnf) (by conv => lhs; whnf) ?_
    refine ⟨?_, S18.fin⟩
    unfold E.sup
    first
      | exact ⟨_, _, rfl, by simpa [h7] using r16, by simpa [h7] using r18⟩
      | exact ⟨_, _, rfl, by simp only [h7]; exact ⟨_, _, _, rfl, rfl, by omega, by unfold maxLen; omega, by omega, fun h => absurd h (by omega)⟩, by simp only [h7]; exact ⟨_, _, _, rfl, rfl, by omega, by unfold maxLen; omega, by omega, fun h => absurd h (by omega)⟩⟩
  · refine o_not rfl rfl ?_
    refine WL_nil ?_
    refine W_then rfl ?_
    refine W_seq ?_
    refine W_region ?_
    first | refine o_assign (v := .slice _ _ _) rfl rfl ?_ | refine o_assign (by conv => lhs; whnf) rfl ?_
    first | refine o_assign (v := .slice _ _ _) rfl rfl ?_ | refine o_assign (by conv => lhs; whnf) rfl ?_
    refine WL_nil ?_
    refine W_ret ?_
    refine ret_2 rfl (by conv => lhs; whnf) (by conv => lhs; whnf) ?_
    refine ⟨?_, S7.fin⟩
    unfold E.sup
    first
      | exact ⟨_, _, rfl, by simpa [h7] using r16, by simpa [h7] using r18⟩
      | exact ⟨_, _, rfl, by simp only [h7]; exact ⟨_, _, _, rfl, rfl, by omega, by unfold maxLen; omega, by omega, fun h => absurd h (by omega)⟩, by simp only [h7]; exact ⟨_, _, _, rfl, rfl, by omega, by unfold maxLen; omega, by omega, fun h => absurd h (by omega)⟩⟩

theorem merge_fn (M : List Nat) (w0 : World) (va vb : Value) (a b : List Int) (ha : RdI M w0 va a) (hb : RdI M w0 vb b) (hM : ∀ g ∈ M, g < w0.heap.size) (ha' : ∀ x ∈ a, 0 ≤ x ∧ x < 32) (hb' : ∀ x ∈ b, 0 ≤ x ∧ x < 32) :
    Does Tryd.prog 51 #[va, vb] w0 fun v w' => RdI M w' v (mergeL a b) ∧ Below w0.heap.size w0 w' := by
  obtain ⟨Aa, na, ca, rfl⟩ := ha.form
  obtain ⟨hna, hca, hma, hbiga, hela⟩ := ha.at
  obtain ⟨Ab, nb, cb, rfl⟩ := hb.form
  obtain ⟨hnb, hcb, hmb, hbigb, helb⟩ := hb.at
  have S := St.refl w0
  refine Does_enter Tryd.func51 rfl Tryd.ntmps51 rfl ?_
  refine W_seq ?_
  refine W_region ?_
  first | refine o_assign (v := .slice _ _ _) rfl rfl ?_ | refine o_assign (by conv => lhs; whnf) rfl ?_
  refine WL_nil ?_
  refine W_seq ?_
  refine W_region ?_
  refine o_make (n := 32) (c := 32) S slz_83 rfl rfl (by omega) (by omega) (by omega) rfl rfl ?_
  intro g8 w8 S8 X8 G8
  first | refine o_assign (v := .slice _ _ _) rfl rfl ?_ | refine o_assign (by conv => lhs; whnf) rfl ?_
  refine WL_nil ?_
  refine W_seq ?_
  refine W_seq ?_
  refine W_region ?_
  first | refine o_assign (v := .int .i64 _) rfl rfl ?_ | refine o_assign (by conv => lhs; whnf) rfl ?_
  refine WL_nil ?_
  refine W_block ?_
  refine W_loop (fun μ D ε w => D = [] ∧ ∃ k : Nat, ∃ bs : List Bool, (k + μ = a.length) ∧ (setAll (a.drop k) bs = setAll a (List.replicate 32 false)) ∧ (bs.length = 32) ∧ St [] w0 w [(some g8, 4, bs.map Value.bool)] ∧ ε 0 = .slice Aa na ca ∧ ε 1 = .slice Ab nb cb ∧ ε 5 = .slice (some ⟨g8, 0, none⟩) 32 32 ∧ ε 6 = .int .i64 k) (μ := a.length) ⟨rfl, 0, List.replicate 32 false, by omega, rfl, by simp, by simpa using S8, rfl, rfl, rfl, rfl⟩ ?_
  rintro μ D ε w ⟨rfl, k, bs, hk, hbs, hl, S, e0, e1, e5, e6⟩
  refine W_known 0 e0 ?_
  refine W_known 1 e1 ?_
  refine W_known 5 e5 ?_
  refine W_known 6 e6 ?_
  clear e0 e1 e5 e6
  refine W_seq ?_
  refine W_seq ?_
  refine W_region ?_
  first | refine o_move (v := .int .i64 _) rfl rfl ?_ | refine o_move (by conv => lhs; whnf) rfl ?_
  first | refine o_move (v := .slice _ _ _) rfl rfl ?_ | refine o_move (by conv => lhs; whnf) rfl ?_
  refine o_len slz_28.slT rfl rfl ?_
  refine o_lss rfl rfl rfl (fun h12 => ?_) (fun h12 => ?_)
  · refine WL_nil ?_
    refine W_then rfl ?_
    refine W_skip ?_
    refine W_seq ?_
    refine W_block ?_
    refine W_region ?_
    have hlt : k < a.length := by omega
    obtain ⟨ba, oa, hA, hbM, hee⟩ := hela (by omega)
    obtain ⟨ck, hck1, hck2, hck3⟩ := hee k a[k] (List.getElem?_eq_getElem hlt)
    have hcell : w0.cell? ⟨ba, oa + k * 1, none⟩ = some (.int .i64 a[k]) := hck2 0 _ (by rw [hck3.1]; rfl)
    have hrng := ha' a[k] (List.getElem_mem hlt)
    first | refine o_move (v := .slice _ _ _) rfl rfl ?_ | refine o_move (by conv => lhs; whnf) rfl ?_
    first | refine o_move (v := .slice _ _ _) rfl rfl ?_ | refine o_move (by conv => lhs; whnf) rfl ?_
    first | refine o_move (v := .int .i64 _) rfl rfl ?_ | refine o_move (by conv => lhs; whnf) rfl ?_
    refine o_indexAddr slz_28.slT rfl (by first | rfl | assumption) rfl (by omega) (by omega) rfl ?_
    refine o_load one_3 rfl (by first | exact S.cell 0 rfl rfl | exact S.old hcell) rfl ?_
    refine o_indexAddr slz_83.slT rfl (by first | rfl | assumption) rfl (by omega) (by omega) rfl ?_
    first | refine o_store (kk := 0) S sz_4 rfl (by conv => lhs; whnf) rfl rfl (by first | exact Nat.le_of_ble_eq_true rfl | (simp; omega)) ?_
    intro w5_6 S5_6 X5_6
    refine WL_nil ?_
    refine W_region ?_
    first | refine o_move (v := .int .i64 _) rfl rfl ?_ | refine o_move (by conv => lhs; whnf) rfl ?_
    refine o_add rfl rfl (by unfold i64; omega) rfl ?_
    first | refine o_assign (v := .int .i64 _) rfl rfl ?_ | refine o_assign (by conv => lhs; whnf) rfl ?_
    refine WL_nil ?_
    refine ⟨μ - 1, by omega, rfl, k + 1, bs.set (a[k]).toNat true, by omega, ?_, by simp [hl], by simpa [List.map_set] using S5_6, rfl, rfl, rfl, rfl⟩
    rw [← hbs, List.drop_eq_getElem_cons hlt]; rfl
  · refine WL_nil ?_
    refine W_else rfl ?_
    refine W_exit ?_
    refine bcons_here ?_
    refine W_seq ?_
    refine W_seq ?_
    refine W_region ?_
    first | refine o_assign (v := .int .i64 _) rfl rfl ?_ | refine o_assign (by conv => lhs; whnf) rfl ?_
    refine WL_nil ?_
    refine W_block ?_
    refine W_loop (fun μ D ε w => D = [] ∧ ∃ k : Nat, ∃ cs : List Bool, (k + μ = b.length) ∧ (setAll (b.drop k) cs = setAll b (setAll a (List.replicate 32 false))) ∧ (cs.length = 32) ∧ St [] w0 w [(some g8, 4, cs.map Value.bool)] ∧ ε 1 = .slice Ab nb cb ∧ ε 5 = .slice (some ⟨g8, 0, none⟩) 32 32 ∧ ε 7 = .int .i64 k) (μ := b.length) ⟨rfl, 0, bs, by omega, by rw [List.drop_eq_nil_of_le (show a.length ≤ k by omega)] at hbs; rw [← hbs]; rfl, hl, S, rfl, rfl, rfl⟩ ?_
    rintro μ D ε w ⟨rfl, k, cs, hk, hcs, hl, S, e1, e5, e7⟩
    refine W_known 1 e1 ?_
    refine W_known 5 e5 ?_
    refine W_known 7 e7 ?_
    clear e1 e5 e7
    refine W_seq ?_
    refine W_seq ?_
    refine W_region ?_
    first | refine o_move (v := .int .i64 _) rfl rfl ?_ | refine o_move (by conv => lhs; whnf) rfl ?_
    first | refine o_move (v := .slice _ _ _) rfl rfl ?_ | refine o_move (by conv => lhs; whnf) rfl ?_
    refine o_len slz_28.slT rfl rfl ?_
    refine o_lss rfl rfl rfl (fun h24 => ?_) (fun h24 => ?_)
    · refine WL_nil ?_
      refine W_then rfl ?_
      refine W_skip ?_
      refine W_seq ?_
      refine W_block ?_
      refine W_region ?_
      have hlt : k < b.length := by omega
      obtain ⟨bb, ob, hB, hbM, hee⟩ := helb (by omega)
      obtain ⟨ck, hck1, hck2, hck3⟩ := hee k b[k] (List.getElem?_eq_getElem hlt)
      have hcell : w0.cell? ⟨bb, ob + k * 1, none⟩ = some (.int .i64 b[k]) := hck2 0 _ (by rw [hck3.1]; rfl)
      have hrng := hb' b[k] (List.getElem_mem hlt)
      first | refine o_move (v := .slice _ _ _) rfl rfl ?_ | refine o_move (by conv => lhs; whnf) rfl ?_
      first | refine o_move (v := .slice _ _ _) rfl rfl ?_ | refine o_move (by conv => lhs; whnf) rfl ?_
      first | refine o_move (v := .int .i64 _) rfl rfl ?_ | refine o_move (by conv => lhs; whnf) rfl ?_
      refine o_indexAddr slz_28.slT rfl (by first | rfl | assumption) rfl (by omega) (by omega) rfl ?_
      refine o_load one_3 rfl (by first | exact S.cell 0 rfl rfl | exact S.old hcell) rfl ?_
      refine o_indexAddr slz_83.slT rfl (by first | rfl | assumption) rfl (by omega) (by omega) rfl ?_
      first | refine o_store (kk := 0) S sz_4 rfl (by conv => lhs; whnf) rfl rfl (by first | exact Nat.le_of_ble_eq_true rfl | (simp; omega)) ?_
      intro w9_6 S9_6 X9_6
      refine WL_nil ?_
      refine W_region ?_
      first | refine o_move (v := .int .i64 _) rfl rfl ?_ | refine o_move (by conv => lhs; whnf) rfl ?_
      refine o_add rfl rfl (by unfold i64; omega) rfl ?_
      first | refine o_assign (v := .int .i64 _) rfl rfl ?_ | refine o_assign (by conv => lhs; whnf) rfl ?_
      refine WL_nil ?_
      refine ⟨μ - 1, by omega, rfl, k + 1, cs.set (b[k]).toNat true, by omega, ?_, by simp [hl], by simpa [List.map_set] using S9_6, rfl, rfl, rfl⟩
      rw [← hcs, List.drop_eq_getElem_cons hlt]; rfl
    · refine WL_nil ?_
      refine W_else rfl ?_
      refine W_exit ?_
      refine bcons_here ?_
      refine W_seq ?_
      refine W_region ?_
      first | refine o_move (v := .slice _ _ _) rfl rfl ?_ | refine o_move (by conv => lhs; whnf) rfl ?_
      refine o_calln S has_69 rfl rfl (marked_fn M _ _ cs (rdB_own (k := 0) S rfl (fun h => by have := hM g8 h; have := S8.new 0 rfl; simp at this; omega) hl) (fun g hg => by have := hM g hg; have := S.size; omega) (by omega)) ?_
      rintro v34 w34 r34 S34 X34
      first | refine o_assign (v := .slice _ _ _) rfl rfl ?_ | refine o_assign (by conv => lhs; whnf) rfl ?_
      refine WL_nil ?_
      refine W_ret ?_
      refine ret_1 rfl (by conv => lhs; whnf) ?_
      refine ⟨?_, S34.fin⟩
      rw [List.drop_eq_nil_of_le (show b.length ≤ k by omega)] at hcs
      have hcs' : cs = setAll b (setAll a (List.replicate 32 false)) := hcs
      unfold mergeL
      rw [← hcs']; exact r34

theorem sup_bound (e : E) (op : Int) : ∀ x ∈ e.sup op, 0 ≤ x ∧ x < 32 := by
  intro x hx
  unfold E.sup at hx
  split at hx
  · have := sup_lt _ _ hx; rw [E.mark_len] at this; simpa using this
  · cases hx

theorem csup_bound (c : CondD) (op : Int) : ∀ x ∈ c.sup op, 0 ≤ x ∧ x < 32 := by
  intro x hx
  have := sup_lt _ _ hx
  rw [setAll_len, setAll_len] at this
  simpa using this

theorem support20_fn (c : CondD) (M : List Nat) (w0 : World) (cs : List Value) (hR : RdCond M w0 c cs) (hM : ∀ g ∈ M, g < w0.heap.size) :
    Does Tryd.prog 34 #[.agg cs.toArray] w0 fun v w' => (∃ a b, v = .tuple #[a, b] ∧ RdI M w' a (c.sup 3) ∧ RdI M w' b (c.sup 2)) ∧ Below w0.heap.size w0 w' := by
  obtain ⟨ch, cg, rfl, hh, hg⟩ := hR
  obtain ⟨A, n, q, rfl, o1, o2, o3, hn, hq, hm, hbig, hks⟩ := hh.open_
  obtain ⟨A', n', q', rfl, o1', o2', o3', hn', hq', hm', hbig', hks'⟩ := hg.open_
  have S := St.refl w0
  simp only [List.cons_append, List.nil_append]
  refine Does_enter Tryd.func34 rfl Tryd.ntmps34 rfl ?_
  refine W_seq ?_
  refine W_region ?_
  refine o_boxa S (by conv => lhs; whnf) rfl ?_
  intro g1 w1 S1 X1 G1
  first | refine o_assign (v := .slice _ _ _) rfl rfl ?_ | refine o_assign (by conv => lhs; whnf) rfl ?_
  first | refine o_assign (v := .slice _ _ _) rfl rfl ?_ | refine o_assign (by conv => lhs; whnf) rfl ?_
  refine WL_nil ?_
  refine W_seq ?_
  refine W_region ?_
  refine o_fieldAddr fa_27_6 rfl rfl ?_
  first | refine o_loadN many_25 rfl (S1.cells 0 rfl) rfl rfl ?_ | refine o_loadN many_25 rfl (cs := [_, _, _, _]) (S1.cellsAt 0 6 4 rfl) rfl rfl ?_ | refine o_loadN many_25 rfl (cs := [_, _, _, _]) (S1.cellsAt 0 10 4 rfl) rfl rfl ?_
  refine o_calln S1 has_50 rfl rfl (support06_fn c.hyp M _ _ (RdE.keep (S1.keep0 M) _ _ hh) (fun g hg => by have := hM g hg; have := S1.size; omega)) ?_
  rintro v11 w11 ⟨a1, b1, rfl, ra1, rb1⟩ S11 X11
  first | refine o_move (v := .tuple _) rfl rfl ?_ | refine o_move (by conv => lhs; whnf) rfl ?_
  refine o_extract rfl rfl rfl ?_
  refine o_extract rfl rfl rfl ?_
  first | refine o_assign (v := .slice _ _ _) rfl rfl ?_ | refine o_assign (by conv => lhs; whnf) rfl ?_
  first | refine o_assign (v := .slice _ _ _) rfl rfl ?_ | refine o_assign (by conv => lhs; whnf) rfl ?_
  refine WL_nil ?_
  refine W_seq ?_
  refine W_region ?_
  refine o_fieldAddr fa_27_7 rfl rfl ?_
  first | refine o_loadN many_25 rfl (S11.cells 0 rfl) rfl rfl ?_ | refine o_loadN many_25 rfl (cs := [_, _, _, _]) (S11.cellsAt 0 6 4 rfl) rfl rfl ?_ | refine o_loadN many_25 rfl (cs := [_, _, _, _]) (S11.cellsAt 0 10 4 rfl) rfl rfl ?_
  refine o_calln S11 has_50 rfl rfl (support06_fn c.goal M _ _ (RdE.keep (S11.keep0 M) _ _ hg) (fun g hg => by have := hM g hg; have := S11.size; omega)) ?_
  rintro v17 w17 ⟨a2, b2, rfl, ra2, rb2⟩ S17 X17
  replace ra1 := ra1.keep (X17.of_nil)
  replace rb1 := rb1.keep (X17.of_nil)
  first | refine o_move (v := .tuple _) rfl rfl ?_ | refine o_move (by conv => lhs; whnf) rfl ?_
  refine o_extract rfl rfl rfl ?_
  refine o_extract rfl rfl rfl ?_
  first | refine o_assign (v := .slice _ _ _) rfl rfl ?_ | refine o_assign (by conv => lhs; whnf) rfl ?_
  first | refine o_assign (v := .slice _ _ _) rfl rfl ?_ | refine o_assign (by conv => lhs; whnf) rfl ?_
  refine WL_nil ?_
  refine W_seq ?_
  refine W_region ?_
  first | refine o_move (v := .slice _ _ _) rfl rfl ?_ | refine o_move (by conv => lhs; whnf) rfl ?_
  first | refine o_move (v := .slice _ _ _) rfl rfl ?_ | refine o_move (by conv => lhs; whnf) rfl ?_
  refine o_calln S17 has_51 rfl rfl (merge_fn M _ _ _ _ _ ra1 ra2 (fun g hg => by have := hM g hg; have := S17.size; omega) (sup_bound _ _) (sup_bound _ _)) ?_
  rintro v22 w22 r22 S22 X22
  replace ra1 := ra1.keep (X22.of_nil)
  replace rb1 := rb1.keep (X22.of_nil)
  replace ra2 := ra2.keep (X22.of_nil)
  replace rb2 := rb2.keep (X22.of_nil)
  first | refine o_move (v := .slice _ _ _) rfl rfl ?_ | refine o_move (by conv => lhs; whnf) rfl ?_
  first | refine o_move (v := .slice _ _ _) rfl rfl ?_ | refine o_move (by conv => lhs; whnf) rfl ?_
  refine o_calln S22 has_51 rfl rfl (merge_fn M _ _ _ _ _ rb1 rb2 (fun g hg => by have := hM g hg; have := S22.size; omega) (sup_bound _ _) (sup_bound _ _)) ?_
  rintro v25 w25 r25 S25 X25
  replace ra1 := ra1.keep (X25.of_nil)
  replace rb1 := rb1.keep (X25.of_nil)
  replace ra2 := ra2.keep (X25.of_nil)
  replace rb2 := rb2.keep (X25.of_nil)
  replace r22 := r22.keep (X25.of_nil)
  first | refine o_assign (v := .slice _ _ _) rfl rfl ?_ | refine o_assign (by conv => lhs; whnf) rfl ?_
  first | refine o_assign (v := .slice _ _ _) rfl rfl ?_ | refine o_assign (by conv => lhs; whnf) rfl ?_
  refine WL_nil ?_
  refine W_ret ?_
  refine ret_2 rfl (by conv => lhs; whnf) (by conv => lhs; whnf) ?_
  exact ⟨⟨_, _, rfl, r22, r25⟩, S25.fin⟩
end Go.Proofs.YtinhchacppkmgaaDoor
