/-
  Contracts of package expr: connect, And (a list of conditions none of which is the constant 0).
-/
import Derived.Test.YtinhchacppkmgaaDoorNo5
namespace Go.Fw
open Go.RowKit

theorem RdL.cells {M : List Nat} {w : World} {A : Option Addr} {n c : Nat} {l : List E} (h : RdL M w (.slice A n c) l) : ∃ cl : List (List Value), cl.length = l.length ∧ (0 < n → ∃ b o, A = some ⟨b, o, none⟩ ∧ b ∉ M ∧ ∀ (i : Nat) (h : i < l.length) (h' : i < cl.length), Cells w b (o + i * 4) cl[i] ∧ RdE M w l[i] cl[i]) := by
  obtain ⟨h1, h2, h3, h4, h5⟩ := h.at
  by_cases h0 : 0 < n
  · obtain ⟨b, o, hA, hb, hk⟩ := h5 h0
    let f : Fin l.length → List Value := fun i => Classical.choose (hk i.1 i.2)
    have hf : ∀ i : Fin l.length, Cells w b (o + i.1 * 4) (f i) ∧ RdE M w l[i.1] (f i) := fun i => Classical.choose_spec (hk i.1 i.2)
    refine ⟨List.ofFn f, by simp, fun _ => ⟨b, o, hA, hb, fun i hi hi' => ?_⟩⟩
    have := hf ⟨i, hi⟩
    simpa using this
  · exact ⟨List.replicate l.length [], by simp, fun h => absurd h h0⟩

/-- The expressions that are no constants, with their cells. -/
def keptP (l : List E) (cl : List (List Value)) (k : Nat) : List (E × List Value) := ((l.zip cl).take k).filter fun p => decide (p.1.op ≠ 1)
theorem keptP_succ (l : List E) (cl : List (List Value)) (k : Nat) (h : k < l.length) (h' : k < cl.length) : keptP l cl (k + 1) = keptP l cl k ++ (if l[k].op = 1 then [] else [(l[k], cl[k])]) := by
  unfold keptP
  have hz : (l.zip cl)[k]? = some (l[k], cl[k]) := by rw [List.getElem?_zip_eq_some]; exact ⟨List.getElem?_eq_getElem h, List.getElem?_eq_getElem h'⟩
  rw [List.take_add_one, hz, Option.toList_some, List.filter_append]
  by_cases ho : l[k].op = 1
  · simp [ho]
  · simp [ho]
theorem keptP_fst (l : List E) (cl : List (List Value)) (h : cl.length = l.length) : (keptP l cl l.length).map (·.1) = l.filter fun e => decide (e.op ≠ 1) := by
  unfold keptP
  rw [List.take_of_length_le (by simp [h])]
  induction l generalizing cl with
  | nil => simp
  | cons e es ih =>
    cases cl with
    | nil => simp at h
    | cons c cs =>
      have := ih cs (by simpa using h)
      by_cases ho : e.op = 1
      · simp [ho] at this ⊢; exact this
      · simp [ho] at this ⊢; exact this

theorem RowE.of {M : List Nat} {w : World} {G : Option Nat} {cs : List Value} {v : Value} {ps : List (E × List Value)} (h : RowV G 4 ps.length cs v (ps.map (·.2)).flatten) (hr : ∀ p ∈ ps, RdE (G.toList ++ M) w p.1 p.2) : RowE M w G cs v (ps.map (·.1)) := by
  refine ⟨ps.map (·.2), by simp, fun x hx => ?_, by simpa using h, fun i hi => ?_⟩
  · obtain ⟨p, hp, rfl⟩ := List.mem_map.1 hx; exact (hr p hp).length
  · have hi' : i < ps.length := by simpa using hi
    exact ⟨ps[i].2, by simp [hi'], by simpa using hr _ (List.getElem_mem hi')⟩

theorem RowE.at {M M' : List Nat} {w0 w : World} {L : List Ent} {k el g n cap : Nat} {cs : List Value} {l : List E} (h : RowE M w (some g) cs (.slice (some ⟨g, 0, none⟩) n cap) l) (S : St M' w0 w L) (hk : L[k]? = some (some g, el, cs)) (i : Nat) (hi : i < l.length) :
    ∃ c, Cells w g (0 + i * 4) c ∧ RdE (g :: M) w l[i] c ∧ i * 4 + 4 ≤ cs.length := by
  obtain ⟨css, h1, h2, ⟨h3, hr⟩, h4⟩ := h
  rcases hr with ⟨hh, _⟩ | ⟨g', cap', hg', hv, q1, q2, q3, q4⟩
  · cases hh
  · obtain ⟨c, h5, h6⟩ := h4 i hi
    refine ⟨c, fun j u hj => ?_, by simpa using h6, ?_⟩
    · have hf := flat4 css i c h2 h5 j u hj
      have hc4 : c.length = 4 := h6.length
      have hj4 : j < c.length := (List.getElem?_eq_some_iff.1 hj).1
      rw [← q4, List.getElem?_take, if_pos (by omega)] at hf
      have := S.cell k hk hf
      simpa using this
    · rw [q3]; omega

theorem RowE.set {M : List Nat} {w : World} {g n cap : Nat} {cs c' : List Value} {l : List E} (h : RowE M w (some g) cs (.slice (some ⟨g, 0, none⟩) n cap) l) (i : Nat) (hi : i < l.length) (hc : RdE (g :: M) w l[i] c') : RowE M w (some g) (setsAt cs (0 + i * 4) c') (.slice (some ⟨g, 0, none⟩) n cap) l := by
  obtain ⟨css, h1, h2, ⟨h3, hr⟩, h4⟩ := h
  rcases hr with ⟨hh, _⟩ | ⟨g', cap', hg', hv, q1, q2, q3, q4⟩
  · cases hh
  · cases hg'
    cases hv
    have hi' : i < css.length := by omega
    have hc4 : c'.length = 4 := hc.length
    have hci := h2 css[i] (List.getElem_mem hi')
    have hsp : css.flatten = (css.take i).flatten ++ (css[i] ++ (css.drop (i + 1)).flatten) := by
      rw [← List.flatten_cons, ← List.flatten_append, ← List.drop_eq_getElem_cons hi', List.take_append_drop]
    have hset : css.set i c' = css.take i ++ c' :: css.drop (i + 1) := List.set_eq_take_append_cons_drop .. |>.trans (by rw [if_pos hi'])
    have hti : (css.take i).flatten.length = 0 + i * 4 := by rw [flat4_len _ (fun x hx => h2 x (List.mem_of_mem_take hx)), List.length_take]; omega
    have hcs : cs = (css.take i).flatten ++ ((css[i] ++ (css.drop (i + 1)).flatten) ++ cs.drop (l.length * 4)) := by
      rw [← List.append_assoc, ← hsp, ← q4, List.take_append_drop]
    have hsa : setsAt cs (0 + i * 4) c' = (css.set i c').flatten ++ cs.drop (l.length * 4) := by
      have hlr : c'.length ≤ ((css[i] ++ (css.drop (i + 1)).flatten) ++ cs.drop (l.length * 4)).length := by simp only [List.length_append]; omega
      have := setsAt_append c' (css.take i).flatten ((css[i] ++ (css.drop (i + 1)).flatten) ++ cs.drop (l.length * 4)) hlr
      rw [← hcs, hti] at this
      rw [this, hset, List.flatten_append, List.flatten_cons, List.append_assoc, List.append_assoc, List.drop_append_of_le_length (by omega), hc4, List.drop_of_length_le (by omega)]
      simp
    have h2' : ∀ x ∈ css.set i c', x.length = 4 := fun x hx => by
      rcases List.mem_or_eq_of_mem_set hx with hx | hx
      · exact h2 x hx
      · rw [hx]; exact hc4
    have hfl := flat4_len _ h2'
    refine ⟨css.set i c', by simp [h1], h2', ⟨by rw [hfl]; simp [h1], .inr ⟨g, cap, rfl, rfl, q1, q2, ?_, ?_⟩⟩, fun j hj => ?_⟩
    · have : cs.length = cap * 4 := q3
      rw [hsa, List.length_append, hfl, List.length_drop]; simp only [List.length_set]; omega
    · rw [hsa]; exact List.take_left' (by rw [hfl]; simp [h1])
    · by_cases hji : j = i
      · subst hji; exact ⟨c', by rw [List.getElem?_set_self hi'], by simpa using hc⟩
      · obtain ⟨q, p1, p2⟩ := h4 j hj
        exact ⟨q, by rw [List.getElem?_set_ne (fun e => hji e.symm)]; exact p1, p2⟩

theorem RowV.form {G : Option Nat} {size n : Nat} {cs xs : List Value} {v : Value} (h : RowV G size n cs v xs) : ∃ A c, v = .slice A n c := by
  rcases h.2 with ⟨_, rfl, rfl⟩ | ⟨g, cap, _, rfl, _⟩
  · exact ⟨_, _, rfl⟩
  · exact ⟨_, _, rfl⟩
theorem RowE.keepG {M : List Nat} {w w' : World} {G : Option Nat} {cs : List Value} {v : Value} {l : List E} (h : RowE M w G cs v l) (hk : Keep G.toList w w') : RowE M w' G cs v l := by
  obtain ⟨css, h1, h2, h3, h4⟩ := h
  refine ⟨css, h1, h2, h3, fun i hi => ?_⟩
  obtain ⟨c, h5, h6⟩ := h4 i hi
  exact ⟨c, h5, RdE.keep (hk.mono (fun g hg => List.mem_append_left _ hg)) _ _ h6⟩
end Go.Fw
namespace Go.Proofs.YtinhchacppkmgaaDoor
open Go.Fw Go.RowKit

theorem conditionT_fn (e : E) (M : List Nat) (w0 : World) (cs : List Value) (hR : RdE M w0 e cs) (hK : Masks M w0) (h1 : e.w = 1) (h2 : e.wf = true) :
    Does Tryd.prog 52 #[.agg cs.toArray] w0 fun v w' => v = .bool true ∧ Below w0.heap.size w0 w' := by
  have h := condition_fn e M w0 cs hR hK
  rw [h1, h2] at h; exact h
theorem isConstF_fn (e : E) (n : Int) (M : List Nat) (w0 : World) (cs : List Value) (hR : RdE M w0 e cs) (hn : ¬ (e.op = 1 ∧ e.n = n)) :
    Does Tryd.prog 53 #[.agg cs.toArray, .int .i64 n] w0 fun v w' => v = .bool false ∧ Below w0.heap.size w0 w' := by
  have h := isConst_fn e n M w0 cs hR
  rwa [decide_eq_false hn] at h

/-- What And returns. -/
def andF (l : List E) : E := if (andAll (l.filter fun e => decide (e.op ≠ 1))).wf = true then andAll (l.filter fun e => decide (e.op ≠ 1)) else ⟨0, 0, 0, []⟩

set_option maxHeartbeats 1000000 in
theorem connect_fn (l : List E) (M : List Nat) (w0 : World) (vl : Value) (hL : RdL M w0 vl l) (hM : ∀ g ∈ M, g < w0.heap.size) (hK : Masks M w0) (hel : ∀ e ∈ l, e.wf = true ∧ e.w = 1 ∧ (e.op = 1 → e.n = 1)) (hl : l.length ≤ 40) (hne : 0 < (l.filter fun e => decide (e.op ≠ 1)).length) :
    Does Tryd.prog 36 #[vl, .int .i64 5, .int .i64 1] w0 fun v w' => (∃ cs : List Value, v = .agg cs.toArray ∧ RdE M w' (andF l) cs) ∧ Below w0.heap.size w0 w' := by
  obtain ⟨A, n, c, rfl, hn, hc, hm, hbig, -⟩ := hL.open_
  obtain ⟨cl, hcl, hks⟩ := hL.cells
  have S := (St.refl w0).nilEnt 25
  have hps : ∀ k, ∀ p ∈ keptP l cl k, ∃ i, ∃ (h : i < l.length) (h' : i < cl.length), p = (l[i], cl[i]) := by
    intro k p hp
    unfold keptP at hp
    obtain ⟨i, hi, rfl⟩ := List.getElem_of_mem (List.mem_of_mem_take (List.mem_filter.1 hp).1)
    simp at hi
    exact ⟨i, by omega, by omega, by simp⟩
  have hpl : ∀ k, k ≤ l.length → (keptP l cl k).length ≤ k := by
    intro k hk; unfold keptP
    exact Nat.le_trans (List.length_filter_le _ _) (by rw [List.length_take]; omega)
  have hfst := keptP_fst l cl hcl
  refine Does_enter Tryd.func36 rfl Tryd.ntmps36 rfl ?_
  refine W_seq ?_
  refine W_region ?_
  refine o_box1 S (v := .int .i64 _) rfl rfl rfl ?_
  intro g4 w4 S4 X4 G4
  refine o_alloc S4 zv_25 rfl rfl ?_
  intro g6 w6 S6 X6 G6
  refine WL_nil ?_
  refine W_seq ?_
  refine W_region ?_
  first | refine o_assign (v := .slice _ _ _) rfl rfl ?_ | refine o_assign (by conv => lhs; whnf) rfl ?_
  refine WL_nil ?_
  refine W_seq ?_
  refine W_region ?_
  first | refine o_assign (v := .bool _) rfl rfl ?_ | refine o_assign (by conv => lhs; whnf) rfl ?_
  refine WL_nil ?_
  refine W_seq ?_
  refine W_seq ?_
  refine W_region ?_
  first | refine o_move (v := .slice _ _ _) rfl rfl ?_ | refine o_move (by conv => lhs; whnf) rfl ?_
  refine o_len slz_23.slT rfl rfl ?_
  first | refine o_move (v := .int .i64 _) rfl rfl ?_ | refine o_move (by conv => lhs; whnf) rfl ?_
  refine WL_nil ?_
  refine W_block ?_
  refine W_loop (fun μ D ε w => D = [] ∧ ∃ k : Nat, ∃ G : Option Nat, ∃ cs : List Value, ∃ v : Value, (k + μ = l.length) ∧ (RowV G 4 (keptP l cl k).length cs v ((keptP l cl k).map (·.2)).flatten) ∧ St [] w0 w [(some g6, 25, [.int .i64 0, .int .i64 0, .int .i64 0, .slice none 0 0]), (some g4, 3, [.int .i64 5]), (G, 25, cs)] ∧ ε 2 = .int .i64 1 ∧ ε 4 = .pointer (some ⟨g4, 0, none⟩) ∧ ε 6 = .pointer (some ⟨g6, 0, none⟩) ∧ ε 7 = v ∧ ε 8 = .bool false ∧ ε 12 = .slice A n c ∧ ε 13 = .int .i64 n ∧ ε 14 = .int .i64 k) (μ := l.length) ⟨rfl, 0, none, [], _, by omega, RowV.nil 4, S6, rfl, rfl, rfl, rfl, rfl, rfl, rfl, rfl⟩ ?_
  rintro μ D ε w ⟨rfl, k, G, cs, v, hk, hrow, S, e2, e4, e6, e7, e8, e12, e13, e14⟩
  refine W_known 2 e2 ?_
  refine W_known 4 e4 ?_
  refine W_known 6 e6 ?_
  refine W_known 7 e7 ?_
  refine W_known 8 e8 ?_
  refine W_known 12 e12 ?_
  refine W_known 13 e13 ?_
  refine W_known 14 e14 ?_
  clear e2 e4 e6 e7 e8 e12 e13 e14
  obtain ⟨Av, cv, rfl⟩ := hrow.form
  refine W_seq ?_
  refine W_region ?_
  refine o_lss rfl rfl rfl (fun h15 => ?_) (fun h15 => ?_)
  · refine WL_nil ?_
    refine W_seq ?_
    refine W_then rfl ?_
    refine W_skip ?_
    refine W_seq ?_
    refine W_block ?_
    refine W_seq ?_
    refine W_region ?_
    have hlt : k < l.length := by omega
    obtain ⟨b, o, hA, hbM, hkk⟩ := hks (by omega)
    obtain ⟨hck, hrk⟩ := hkk k hlt (by omega)
    obtain ⟨ck, hcke⟩ : ∃ ck, cl[k] = ck := ⟨_, rfl⟩
    rw [hcke] at hck hrk
    obtain ⟨Ak, nk, qk, rfl, -⟩ := hrk.open_
    obtain ⟨e1, e2, e3⟩ := hel l[k] (List.getElem_mem hlt)
    have h10i : l[k].op = 1 → l[k].n = 1 := e3
    have hkl := hpl k (by omega)
    refine o_indexAddr slz_23.slT rfl (by first | rfl | assumption) rfl (by omega) (by omega) rfl ?_
    first | refine o_loadN many_25 rfl (S.cells 0 rfl) rfl rfl ?_ | refine o_loadN many_25 rfl (S.cells 1 rfl) rfl rfl ?_ | refine o_loadN many_25 rfl (S.cells 2 rfl) rfl rfl ?_ | refine o_loadN many_25 rfl (hck.keep (S.keep0 M) hbM) (by first | rfl | assumption) rfl ?_ | refine o_loadN many_25 rfl (hrowc) (by first | rfl | assumption) rfl ?_
    refine o_alloc S zv_25 rfl rfl ?_
    intro g10 w10 S10 X10 G10
    first | refine o_storeN (kk := 0) (vs := [_, _, _, _]) S10 sz_25 rfl rfl rfl rfl rfl rfl rfl ?_ | refine o_storeN (kk := 1) (vs := [_, _, _, _]) S10 sz_25 rfl rfl rfl rfl rfl rfl rfl ?_ | refine o_storeN (kk := 2) (vs := [_, _, _, _]) S10 sz_25 rfl rfl rfl rfl rfl rfl rfl ?_ | refine o_storeN (kk := 3) (vs := [_, _, _, _]) S10 sz_25 rfl rfl rfl rfl rfl rfl rfl ?_
    intro w5_3 S5_3 X5_3
    dsimp only [setsAt, List.set] at S5_3
    refine WL_nil ?_
    refine W_block ?_
    refine W_seq ?_
    refine W_region ?_
    first | refine o_loadN many_25 rfl (S5_3.cells 0 rfl) rfl rfl ?_ | refine o_loadN many_25 rfl (S5_3.cells 1 rfl) rfl rfl ?_ | refine o_loadN many_25 rfl (S5_3.cells 2 rfl) rfl rfl ?_ | refine o_loadN many_25 rfl (S5_3.cells 3 rfl) rfl rfl ?_ | refine o_loadN many_25 rfl (hck.keep (S5_3.keep0 M) hbM) (by first | rfl | assumption) rfl ?_ | refine o_loadN many_25 rfl (hrowc) (by first | rfl | assumption) rfl ?_
    refine o_callr S5_3 has_52 rfl rfl (conditionT_fn l[k] M _ _ (RdE.keep (S5_3.keep0 M) _ _ hrk) (hK.keep (S5_3.keep0 M)) e2 e1) ?_
    intro w20 S20 X20
    refine o_not rfl rfl ?_
    first | refine o_assign (v := .bool _) rfl rfl ?_ | refine o_assign (by conv => lhs; whnf) rfl ?_
    refine WL_nil ?_
    refine W_else rfl ?_
    refine W_seq ?_
    refine W_region ?_
    first | refine o_loadN many_25 rfl (S20.cells 0 rfl) rfl rfl ?_ | refine o_loadN many_25 rfl (S20.cells 1 rfl) rfl rfl ?_ | refine o_loadN many_25 rfl (S20.cells 2 rfl) rfl rfl ?_ | refine o_loadN many_25 rfl (S20.cells 3 rfl) rfl rfl ?_ | refine o_loadN many_25 rfl (hck.keep (S20.keep0 M) hbM) (by first | rfl | assumption) rfl ?_ | refine o_loadN many_25 rfl (hrowc) (by first | rfl | assumption) rfl ?_
    first | refine o_move (v := .int .i64 _) rfl rfl ?_ | refine o_move (by conv => lhs; whnf) rfl ?_
    refine o_sub rfl rfl (by unfold i64; omega) rfl ?_
    refine o_callr S20 has_53 rfl rfl (isConstF_fn l[k] 0 M _ _ (RdE.keep (S20.keep0 M) _ _ hrk) (fun h => by have := e3 h.1; omega)) ?_
    intro w27 S27 X27
    first | refine o_assign (v := .bool _) rfl rfl ?_ | refine o_assign (by conv => lhs; whnf) rfl ?_
    refine WL_nil ?_
    refine W_else rfl ?_
    refine W_seq ?_
    refine W_region ?_
    first | refine o_loadN many_25 rfl (S27.cells 0 rfl) rfl rfl ?_ | refine o_loadN many_25 rfl (S27.cells 1 rfl) rfl rfl ?_ | refine o_loadN many_25 rfl (S27.cells 2 rfl) rfl rfl ?_ | refine o_loadN many_25 rfl (S27.cells 3 rfl) rfl rfl ?_ | refine o_loadN many_25 rfl (hck.keep (S27.keep0 M) hbM) (by first | rfl | assumption) rfl ?_ | refine o_loadN many_25 rfl (hrowc) (by first | rfl | assumption) rfl ?_
    first | refine o_move (v := .int .i64 _) rfl rfl ?_ | refine o_move (by conv => lhs; whnf) rfl ?_
    refine o_callb S27 has_53 rfl rfl (isConst_fn l[k] 1 M _ _ (RdE.keep (S27.keep0 M) _ _ hrk)) (fun h31 w31 S31 X31 => ?_) (fun h31 w31 S31 X31 => ?_)
    · refine o_not rfl rfl ?_
      first | refine o_move (v := .bool _) rfl rfl ?_ | refine o_move (by conv => lhs; whnf) rfl ?_
      refine WL_off rfl rfl rfl rfl ?_
      refine WL_off rfl rfl rfl rfl ?_
      refine WL_off rfl rfl rfl rfl ?_
      first | refine o_pick rfl (v := .bool _) rfl rfl ?_ | refine o_pick rfl (by conv => lhs; whnf) rfl ?_
      first | refine o_assign (v := .bool _) rfl rfl ?_ | refine o_assign (by conv => lhs; whnf) rfl ?_
      refine WL_nil ?_
      refine W_else rfl ?_
      refine W_skip ?_
      refine W_region ?_
      refine o_add rfl rfl (by unfold i64; omega) rfl ?_
      first | refine o_move (v := .int .i64 _) rfl rfl ?_ | refine o_move (by conv => lhs; whnf) rfl ?_
      refine WL_nil ?_
      have hsk := keptP_succ l cl k hlt (by omega)
      first
        | (rw [if_neg (fun h => of_decide_eq_false h31 ⟨h, h10i h⟩)] at hsk
           refine ⟨μ - 1, by omega, rfl, k + 1, G41, cs41, v41, by omega, ?_, S31, rfl, rfl, rfl, rfl, rfl, rfl, rfl, rfl⟩
           rw [hsk]; simpa [hcke] using hrow41)
        | (rw [if_pos (of_decide_eq_true h31).1] at hsk
           refine ⟨μ - 1, by omega, rfl, k + 1, G, cs, .slice Av (keptP l cl k).length cv, by omega, ?_, S31.tail, rfl, rfl, rfl, rfl, rfl, rfl, rfl, rfl⟩
           rw [hsk]; simpa using hrow)
    · refine o_not rfl rfl ?_
      first | refine o_move (v := .bool _) rfl rfl ?_ | refine o_move (by conv => lhs; whnf) rfl ?_
      refine WL_on rfl rfl rfl ?_
      first | refine o_move (v := .slice _ _ _) rfl rfl ?_ | refine o_move (by conv => lhs; whnf) rfl ?_
      refine WL_on rfl rfl rfl ?_
      refine o_len slz_23.slT rfl rfl ?_
      refine WL_on rfl rfl rfl ?_
      refine o_leq rfl rfl rfl (fun h36 => ?_) (fun h36 => ?_)
      · first | refine o_pick rfl (v := .bool _) rfl rfl ?_ | refine o_pick rfl (by conv => lhs; whnf) rfl ?_
        first | refine o_assign (v := .bool _) rfl rfl ?_ | refine o_assign (by conv => lhs; whnf) rfl ?_
        refine WL_nil ?_
        refine W_then rfl ?_
        refine W_region ?_
        first | refine o_move (v := .slice _ _ _) rfl rfl ?_ | refine o_move (by conv => lhs; whnf) rfl ?_
        first | refine o_loadN many_25 rfl (S31.cells 0 rfl) rfl rfl ?_ | refine o_loadN many_25 rfl (S31.cells 1 rfl) rfl rfl ?_ | refine o_loadN many_25 rfl (S31.cells 2 rfl) rfl rfl ?_ | refine o_loadN many_25 rfl (S31.cells 3 rfl) rfl rfl ?_ | refine o_loadN many_25 rfl (hck.keep (S31.keep0 M) hbM) (by first | rfl | assumption) rfl ?_ | refine o_loadN many_25 rfl (hrowc) (by first | rfl | assumption) rfl ?_
        refine o_buildSlice S31 slz_23 (vs := [.agg _]) (cs := [_, _, _, _]) (by rfl) rfl rfl rfl rfl rfl rfl ?_
        intro g40 w40 S40 X40 G40
        refine o_append (k := 4) S40 slz_23 rfl hrow rfl rfl (S40.cells 0 rfl) rfl (by simp [Value.oneCell']) (by omega) (by omega) rfl ?_
        intro v41 G41 cs41 w41 S41' hrow41 X41
        have S41 := S41'.tail.tail
        first | refine o_assign (v := .slice _ _ _) rfl rfl ?_ | refine o_assign (by conv => lhs; whnf) rfl ?_
        refine WL_nil ?_
        refine W_region ?_
        refine o_add rfl rfl (by unfold i64; omega) rfl ?_
        first | refine o_move (v := .int .i64 _) rfl rfl ?_ | refine o_move (by conv => lhs; whnf) rfl ?_
        refine WL_nil ?_
        have hsk := keptP_succ l cl k hlt (by omega)
        first
          | (rw [if_neg (fun h => of_decide_eq_false h31 ⟨h, h10i h⟩)] at hsk
             refine ⟨μ - 1, by omega, rfl, k + 1, G41, cs41, v41, by omega, ?_, S41, rfl, rfl, rfl, rfl, rfl, rfl, rfl, rfl⟩
             rw [hsk]; simpa [hcke] using hrow41)
          | (rw [if_pos (of_decide_eq_true h31).1] at hsk
             refine ⟨μ - 1, by omega, rfl, k + 1, G, cs, .slice Av (keptP l cl k).length cv, by omega, ?_, S41.tail, rfl, rfl, rfl, rfl, rfl, rfl, rfl, rfl⟩
             rw [hsk]; simpa using hrow)
      · exfalso; omega
  · refine WL_nil ?_
    refine W_seq ?_
    refine W_else rfl ?_
    refine W_exit ?_
    refine bcons_here ?_
    refine W_seq ?_
    refine W_block ?_
    refine W_seq ?_
    obtain rfl : k = l.length := by omega
    obtain ⟨KP, hKP⟩ : ∃ KP, keptP l cl l.length = KP := ⟨_, rfl⟩
    have hps := hps l.length
    have hkl := hpl l.length (Nat.le_refl _)
    rw [hKP] at hrow hfst hps hkl ⊢
    have hK0 : 0 < KP.length := by rw [← hfst, List.length_map] at hne; exact hne
    obtain ⟨g, cap, rfl, hv, v1, v2, v3, v4⟩ : ∃ g cap, G = some g ∧ (Value.slice Av KP.length cv) = .slice (some ⟨g, 0, none⟩) KP.length cap ∧ KP.length ≤ cap ∧ cap ≤ maxLen ∧ cs.length = cap * 4 ∧ cs.take (KP.length * 4) = (KP.map (·.2)).flatten := by
      rcases hrow.2 with ⟨_, _, h0⟩ | ⟨g, cap, h1, h2, h3⟩
      · omega
      · exact ⟨g, cap, h1, h2, h3⟩
    cases hv
    have hgn : w0.heap.size ≤ g := by simpa using S.new 2 rfl
    have hmg : ∀ x ∈ (some g).toList ++ (g6 :: M), x ∈ M ∨ w0.heap.size ≤ x := by
      intro x hx; simp at hx
      rcases hx with rfl | rfl | hx
      · exact .inr hgn
      · right; simpa using S.new 0 rfl
      · exact .inl hx
    have hrowE : RowE (g6 :: M) w (some g) cs (.slice (some ⟨g, 0, none⟩) KP.length cv) (KP.map (·.1)) := RowE.of hrow (fun p hp => by
      obtain ⟨i, hi, hi', rfl⟩ := hps p hp
      obtain ⟨b, o, hA, hbM, hkk⟩ := hks (by omega)
      exact RdE.keep (S.keep0 _) _ _ (RdE.more hmg _ _ (hkk i hi hi').2))
    have hgood : ∀ e ∈ KP.map (·.1), e.good 40 = true := fun e he => by
      obtain ⟨p, hp, rfl⟩ := List.mem_map.1 he
      obtain ⟨i, hi, hi', rfl⟩ := hps p hp
      exact wf_good (hel _ (List.getElem_mem hi)).1
    refine W_region ?_
    first | refine o_move (v := .bool _) rfl rfl ?_ | refine o_move (by conv => lhs; whnf) rfl ?_
    first | refine o_assign (v := .bool _) rfl rfl ?_ | refine o_assign (by conv => lhs; whnf) rfl ?_
    refine WL_nil ?_
    refine W_else rfl ?_
    refine W_seq ?_
    refine W_region ?_
    first | refine o_move (v := .slice _ _ _) rfl rfl ?_ | refine o_move (by conv => lhs; whnf) rfl ?_
    refine o_len slz_23.slT rfl rfl ?_
    refine o_eql rfl rfl rfl (fun h51 => ?_) (fun h51 => ?_)
    · exfalso; omega
    · first | refine o_assign (v := .bool _) rfl rfl ?_ | refine o_assign (by conv => lhs; whnf) rfl ?_
      refine WL_nil ?_
      refine W_else rfl ?_
      refine W_seq ?_
      refine W_region ?_
      first | refine o_move (v := .slice _ _ _) rfl rfl ?_ | refine o_move (by conv => lhs; whnf) rfl ?_
      refine o_len slz_23.slT rfl rfl ?_
      refine o_gtr rfl rfl rfl (fun h57 => ?_) (fun h57 => ?_)
      · exfalso; omega
      · first | refine o_assign (v := .bool _) rfl rfl ?_ | refine o_assign (by conv => lhs; whnf) rfl ?_
        refine WL_nil ?_
        refine W_else rfl ?_
        refine W_skip ?_
        refine W_seq ?_
        refine W_seq ?_
        refine W_region ?_
        first | refine o_move (v := .slice _ _ _) rfl rfl ?_ | refine o_move (by conv => lhs; whnf) rfl ?_
        refine o_len slz_23.slT rfl rfl ?_
        first | refine o_move (v := .int .i64 _) rfl rfl ?_ | refine o_move (by conv => lhs; whnf) rfl ?_
        refine WL_nil ?_
        refine W_block ?_
        refine W_loop (fun μ D ε w => D = [] ∧ ∃ j : Nat, ∃ cs2 : List Value, (j + μ = KP.length) ∧ (RowE (g6 :: M) w (some g) cs2 (.slice (some ⟨g, 0, none⟩) KP.length cv) (KP.map (·.1))) ∧ St [] w0 w [(some g6, 25, [.int .i64 0, .int .i64 0, .int .i64 0, .slice none 0 0]), (some g4, 3, [.int .i64 5]), (some g, 25, cs2)] ∧ ε 4 = .pointer (some ⟨g4, 0, none⟩) ∧ ε 6 = .pointer (some ⟨g6, 0, none⟩) ∧ ε 7 = .slice (some ⟨g, 0, none⟩) KP.length cv ∧ ε 60 = .int .i64 KP.length ∧ ε 61 = .int .i64 j) (μ := KP.length) ⟨rfl, 0, cs, by omega, hrowE, S, rfl, rfl, rfl, rfl, rfl⟩ ?_
        rintro μ D ε w ⟨rfl, j, cs2, hj, hrowE, S, e4, e6, e7, e60, e61⟩
        refine W_known 4 e4 ?_
        refine W_known 6 e6 ?_
        refine W_known 7 e7 ?_
        refine W_known 60 e60 ?_
        refine W_known 61 e61 ?_
        clear e4 e6 e7 e60 e61
        have hM4 : ∀ x ∈ g :: g6 :: M, x < w.heap.size := by
          intro x hx; simp at hx
          rcases hx with rfl | rfl | hx
          · exact S.lt 2 rfl
          · exact S.lt 0 rfl
          · have := hM x hx; have := S.size; omega
        refine W_seq ?_
        refine W_region ?_
        refine o_lss rfl rfl rfl (fun h62 => ?_) (fun h62 => ?_)
        · refine WL_nil ?_
          refine W_seq ?_
          refine W_then rfl ?_
          refine W_skip ?_
          refine W_seq ?_
          refine W_block ?_
          refine W_seq ?_
          refine W_region ?_
          first | refine o_move (v := .int .i64 _) rfl rfl ?_ | refine o_move (by conv => lhs; whnf) rfl ?_
          first | refine o_assign (v := .int .i64 _) rfl rfl ?_ | refine o_assign (by conv => lhs; whnf) rfl ?_
          refine WL_nil ?_
          refine W_region ?_
          first | refine o_move (v := .slice _ _ _) rfl rfl ?_ | refine o_move (by conv => lhs; whnf) rfl ?_
          first | refine o_move (v := .int .i64 _) rfl rfl ?_ | refine o_move (by conv => lhs; whnf) rfl ?_
          first | refine o_move (v := .slice _ _ _) rfl rfl ?_ | refine o_move (by conv => lhs; whnf) rfl ?_
          first | refine o_move (v := .int .i64 _) rfl rfl ?_ | refine o_move (by conv => lhs; whnf) rfl ?_
          have hjl : j < (KP.map (·.1)).length := by rw [List.length_map]; omega
          obtain ⟨cj, hrowc, hrj, hlj⟩ := hrowE.at (k := 2) S rfl j hjl
          obtain ⟨Aj, nj, qj, rfl, -⟩ := hrj.open_
          refine o_indexAddr slz_23.slT rfl (by first | rfl | assumption) rfl (by omega) (by omega) rfl ?_
          first | refine o_loadN many_25 rfl (S.cells 0 rfl) rfl rfl ?_ | refine o_loadN many_25 rfl (S.cells 1 rfl) rfl rfl ?_ | refine o_loadN many_25 rfl (S.cells 2 rfl) rfl rfl ?_ | refine o_loadN many_25 rfl (hck.keep (S.keep0 M) hbM) (by first | rfl | assumption) rfl ?_ | refine o_loadN many_25 rfl (hrowc) (by first | rfl | assumption) rfl ?_
          refine o_calln S has_55 rfl rfl (clone_fn _ (g :: g6 :: M) _ _ 40 hrj (hgood _ (List.getElem_mem hjl)) hM4) ?_
          rintro v70 w70 ⟨c70, rfl, r70⟩ S70 X70
          have hc70 := r70.length
          obtain ⟨A70, n70, q70, hc70e, -⟩ := r70.open_
          refine o_indexAddr slz_23.slT rfl (by first | rfl | assumption) rfl (by omega) (by omega) rfl ?_
          refine o_storeN (kk := 2) (vs := c70) S70 sz_25 rfl rfl (by simp) hc70 (by rw [hc70e]; rfl) rfl (by rw [Nat.ble_eq]; simp; omega) ?_
          intro w22_8 S22_8 X22_8
          have hrowE2 := ((hrowE.keep X70).set j hjl r70).keepG X22_8
          refine WL_nil ?_
          refine W_region ?_
          refine o_add rfl rfl (by unfold i64; omega) rfl ?_
          first | refine o_move (v := .int .i64 _) rfl rfl ?_ | refine o_move (by conv => lhs; whnf) rfl ?_
          refine WL_nil ?_
          exact ⟨μ - 1, by omega, rfl, j + 1, _, by omega, hrowE2, S22_8, rfl, rfl, rfl, rfl, rfl⟩
        · refine WL_nil ?_
          refine W_seq ?_
          refine W_else rfl ?_
          refine W_exit ?_
          refine bcons_here ?_
          refine W_seq ?_
          have hM6 : ∀ x ∈ g6 :: M, x < w.heap.size := fun x hx => hM4 x (List.mem_cons_of_mem _ hx)
          have hL24 : RdL (g6 :: M) w (.slice (some ⟨g, 0, none⟩) KP.length cv) (KP.map (·.1)) := hrowE.rdL (k := 2) S rfl (fun x hx hm => by
            cases hx
            rcases List.mem_cons.1 hm with hm | hm
            · exact absurd (ent_get S.apart (i := 2) (j := 0) rfl rfl rfl (congrArg some hm.symm)) (by decide)
            · have h1 := hM _ hm; omega) (by rw [List.length_map]; omega)
          have hK6 := hK.more (M' := g6 :: M) (fun x hx => hmg x (List.mem_append_right _ hx))
          refine W_region ?_
          first | refine o_move (v := .slice _ _ _) rfl rfl ?_ | refine o_move (by conv => lhs; whnf) rfl ?_
          refine o_makeFunc rfl rfl ?_
          refine o_calln S has_57 rfl rfl (foldE_fn (KP.map (·.1)) (by rw [List.length_map]; omega) (by rw [List.length_map]; omega) (g6 :: M) _ (.slice (some ⟨g, 0, none⟩) KP.length cv) g4 hL24 hM6 (S.cell 1 rfl rfl)) ?_
          rintro v75 w75 ⟨c75, rfl, r75⟩ S75 X75
          refine o_calln S75 has_56 rfl rfl (formedE_fn _ (g6 :: M) _ _ r75 (hK6.keep (S75.keep0 _))) ?_
          rintro v76 w76 ⟨c76, rfl, r76⟩ S76 X76
          obtain ⟨A76, n76, q76, rfl, -⟩ := r76.open_
          first | refine o_storeN (kk := 0) (vs := [_, _, _, _]) S76 sz_25 rfl rfl rfl rfl rfl rfl rfl ?_ | refine o_storeN (kk := 1) (vs := [_, _, _, _]) S76 sz_25 rfl rfl rfl rfl rfl rfl rfl ?_ | refine o_storeN (kk := 2) (vs := [_, _, _, _]) S76 sz_25 rfl rfl rfl rfl rfl rfl rfl ?_
          intro w24_4 S24_4 X24_4
          dsimp only [setsAt, List.set] at S24_4
          replace r76 := RdE.keep (X24_4.mono (by simp)) _ _ r76
          refine WL_nil ?_
          refine W_ret ?_
          refine ret_cell1 rfl many_25 rfl (S24_4.cells 0 rfl) rfl ⟨⟨_, rfl, ?_⟩, S24_4.nil.fin⟩
          unfold andF; rw [← hfst]; exact RdE.more (fun x hx => .inl (by simp [hx])) _ _ r76

theorem andX_fn (l : List E) (M : List Nat) (w0 : World) (vl : Value) (hL : RdL M w0 vl l) (hM : ∀ g ∈ M, g < w0.heap.size) (hK : Masks M w0) (hel : ∀ e ∈ l, e.wf = true ∧ e.w = 1 ∧ (e.op = 1 → e.n = 1)) (hl : l.length ≤ 40) (hne : 0 < (l.filter fun e => decide (e.op ≠ 1)).length) :
    Does Tryd.prog 18 #[vl] w0 fun v w' => (∃ cs : List Value, v = .agg cs.toArray ∧ RdE M w' (andF l) cs) ∧ Below w0.heap.size w0 w' := by
  obtain ⟨A, n, c, rfl, -⟩ := hL.open_
  have S := St.refl w0
  refine Does_enter Tryd.func18 rfl Tryd.ntmps18 rfl ?_
  refine W_seq ?_
  refine W_region ?_
  refine o_alloc S zv_25 rfl rfl ?_
  intro g2 w2 S2 X2 G2
  refine WL_nil ?_
  refine W_seq ?_
  refine W_region ?_
  first | refine o_move (v := .slice _ _ _) rfl rfl ?_ | refine o_move (by conv => lhs; whnf) rfl ?_
  have hM' : ∀ g ∈ g2 :: M, g ∈ M ∨ w0.heap.size ≤ g := by
    intro g hg; rcases List.mem_cons.1 hg with rfl | hg
    · exact .inr G2
    · exact .inl hg
  refine o_calln S2 has_36 rfl rfl (connect_fn l (g2 :: M) _ _ ((hL.more hM').keep (S2.keep0 _)) (fun g hg => by rcases List.mem_cons.1 hg with rfl | hg; exact S2.lt 0 rfl; have := hM g hg; have := S2.size; omega) ((hK.more hM').keep (S2.keep0 _)) hel hl hne) ?_
  rintro v4 w4 ⟨c4, rfl, r4⟩ S4 X4
  obtain ⟨A4, n4, q4, rfl, -⟩ := r4.open_
  first | refine o_storeN (kk := 0) (vs := [_, _, _, _]) S4 sz_25 rfl rfl rfl rfl rfl rfl rfl ?_
  intro w1_2 S1_2 X1_2
  dsimp only [setsAt, List.set] at S1_2
  replace r4 := RdE.keep (X1_2.mono (by simp)) _ _ r4
  refine WL_nil ?_
  refine W_ret ?_
  exact ret_cell1 rfl many_25 rfl (S1_2.cells 0 rfl) rfl ⟨⟨_, rfl, RdE.more (fun g hg => .inl (by simp [hg])) _ _ r4⟩, S1_2.nil.fin⟩
end Go.Proofs.YtinhchacppkmgaaDoor
