/-
  Contracts: decide.union.
-/
import Derived.Test.YtinhchacppkmgaaDoorUn2
namespace Go.Proofs.YtinhchacppkmgaaDoor
open Go.Fw Go.RowKit Go.Sort

theorem RdI_row {w0 w : World} {L : List Ent} {k g el n cap : Nat} {M M' : List Nat} {l : List Int} {cs : List Value} (S : St M' w0 w L) (hk : L[k]? = some (some g, el, cs)) (hM : g ∉ M) (hc : cs.take l.length = l.map (Value.int .i64)) (hn : n = l.length) (hnc : n ≤ cap) (hcm : cap ≤ maxLen) (hb : n ≤ 1000000) (hl : ∀ x ∈ l, i64 x) :
    RdI M w (.slice (some ⟨g, 0, none⟩) n cap) l := by
  refine ⟨_, n, cap, rfl, hn, hnc, hcm, by omega, fun _ => ⟨g, 0, rfl, hM, fun i x hx => ⟨[.int .i64 x], rfl, fun j v hj => ?_, rfl, hl x (List.mem_of_getElem? hx)⟩⟩⟩
  have hi : i < l.length := (List.getElem?_eq_some_iff.1 hx).1
  cases j with
  | succ j => simp at hj
  | zero =>
    simp at hj; subst hj
    refine S.cell k hk ?_
    have h1 : (cs.take l.length)[i]? = some (.int .i64 x) := by rw [hc, List.getElem?_map, hx]; rfl
    rw [List.getElem?_take, if_pos hi] at h1
    simpa using h1

/-- What union returns. -/
def unionL (a b : List Int) : List Int := Lib.compact (sortL (a ++ b))

theorem unionL_nil {a b : List Int} (h : a ++ b = []) : unionL a b = [] := by
  unfold unionL; rw [h]; simp [sortL, Lib.compact, Lib.compactUpTo]
theorem unionL_take (a b : List Int) (rest : List Value) : (((Lib.compact (sortL (a ++ b)) ++ List.replicate ((a ++ b).length - (Lib.compact (sortL (a ++ b))).length) 0).map (Value.int .i64)) ++ rest).take (unionL a b).length = (unionL a b).map (Value.int .i64) := by
  rw [List.map_append, List.append_assoc]
  exact List.take_left' (by simp [unionL])

theorem union_fn (M : List Nat) (w0 : World) (va vb : Value) (a b : List Int) (ha : RdI M w0 va a) (hb : RdI M w0 vb b) (hla : a.length ≤ 1000) (hlb : b.length ≤ 1000) (hM : ∀ g ∈ M, g < w0.heap.size)
    (hi : ∀ x ∈ unionL a b, i64 x) :
    Does Tryd.prog 42 #[va, vb] w0 fun v w' => RdI M w' v (unionL a b) ∧ Below w0.heap.size w0 w' := by
  obtain ⟨Aa, na, ca, rfl⟩ := ha.form
  obtain ⟨Ab, nb, cb, rfl⟩ := hb.form
  have S := St.refl w0
  have hsl : (sortL (a ++ b)).length = (a ++ b).length := by simp [sortL]
  have hcl := Lib.compact_length_le (sortL (a ++ b))
  have hle : (a ++ b).length ≤ 2000 := by simp; omega
  refine Does_enter Tryd.func42 rfl Tryd.ntmps42 rfl ?_
  refine W_seq ?_
  refine W_region ?_
  first | refine o_assign (v := .slice _ _ _) rfl rfl ?_ | refine o_assign (by conv => lhs; whnf) rfl ?_
  refine WL_nil ?_
  refine W_seq ?_
  refine W_region ?_
  first | refine o_move (v := .slice _ _ _) rfl rfl ?_ | refine o_move (by conv => lhs; whnf) rfl ?_
  first | refine o_move (v := .slice _ _ _) rfl rfl ?_ | refine o_move (by conv => lhs; whnf) rfl ?_
  refine o_buildSlice S slz_54 (vs := [.slice _ _ _, .slice _ _ _]) (cs := [_, _]) (by rfl) rfl rfl rfl rfl rfl rfl ?_
  intro g8 w8 S8 X8 G8
  refine o_calln S8 has_62 rfl rfl (concat_fn M _ g8 [a, b] (by simp; omega) (by simp) (fun k hk => ?_)) ?_
  · rcases (show k = 0 ∨ k = 1 by simp at hk; omega) with rfl | rfl
    · exact ⟨_, _, _, S8.cell 0 rfl rfl, ha.keep (S8.keep0 M)⟩
    · exact ⟨_, _, _, S8.cell 0 rfl rfl, hb.keep (S8.keep0 M)⟩
  rintro v9 w9 r9 S9' X9
  obtain ⟨G9, cs9, hrow9, S9⟩ := r9.open_ S9' S8
  have hfl : [a, b].flatten = a ++ b := by simp
  rw [hfl] at hrow9
  rcases hrow9 with ⟨hl9, ⟨rfl, rfl, hnil⟩ | ⟨g9, cap9, rfl, rfl, q1, q2, q3, q4⟩⟩
  · first | refine o_assign (v := .slice _ _ _) rfl rfl ?_ | refine o_assign (by conv => lhs; whnf) rfl ?_
    refine WL_nil ?_
    refine W_seq ?_
    refine W_region ?_
    first | refine o_move (v := .slice _ _ _) rfl rfl ?_ | refine o_move (by conv => lhs; whnf) rfl ?_
    first
      | (refine o_call has_63 rfl rfl (sort_fn _ g9 _ cap9 cs9 (a ++ b) (S9.blk 0 rfl) (by simpa using q4) (by omega) (by omega)) ?_)
      | (refine o_call has_63 rfl rfl (sort0_fn _ none 0 g8 _ _ (S9.blk 1 rfl)) ?_)
    rintro v11 w11 ⟨B11, hb11⟩
    first
      | have S11 := S9.changed1 0 rfl B11 hb11
      | have S11 := S9.changed1 1 rfl B11 hb11
    refine WL_nil ?_
    refine W_seq ?_
    refine W_region ?_
    first | refine o_move (v := .slice _ _ _) rfl rfl ?_ | refine o_move (by conv => lhs; whnf) rfl ?_
    first
      | (have hcf := compact_fn _ g9 _ cap9 _ (sortL (a ++ b)) (S11.blk 0 rfl) (List.take_left' (by simp)) (by rw [List.length_append, List.length_map]; omega) (by omega) (by omega)
         rw [hsl] at hcf
         refine o_call has_64 rfl rfl hcf ?_)
      | (refine o_call has_64 rfl rfl (compact0_fn _ none 0 g8 _ _ (S11.blk 1 rfl)) ?_)
    rintro v13 w13 ⟨rfl, B13, hb13⟩
    first
      | have S13 := S11.changed1 0 rfl B13 hb13
      | have S13 := S11.changed1 1 rfl B13 hb13
    first | refine o_assign (v := .slice _ _ _) rfl rfl ?_ | refine o_assign (by conv => lhs; whnf) rfl ?_
    refine WL_nil ?_
    refine W_ret ?_
    refine ret_1 rfl (by conv => lhs; whnf) ?_
    first
      | (have hab : a ++ b = [] := List.length_eq_zero_iff.1 hnil
         have hu : unionL a b = [] := unionL_nil hab
         rw [hu]; exact ⟨rdI_nil, S13.nil.fin⟩)
      | (refine ⟨RdI_row (k := 0) S13 rfl (fun hm => ?_) (unionL_take a b _) rfl (by omega) q2 (by omega) hi, S13.nil.fin⟩
         have := hM g9 hm; have h2 := S9.new 0 rfl; simp at h2; omega)
  · first | refine o_assign (v := .slice _ _ _) rfl rfl ?_ | refine o_assign (by conv => lhs; whnf) rfl ?_
    refine WL_nil ?_
    refine W_seq ?_
    refine W_region ?_
    first | refine o_move (v := .slice _ _ _) rfl rfl ?_ | refine o_move (by conv => lhs; whnf) rfl ?_
    first
      | (refine o_call has_63 rfl rfl (sort_fn _ g9 _ cap9 cs9 (a ++ b) (S9.blk 0 rfl) (by simpa using q4) (by omega) (by omega)) ?_)
      | (refine o_call has_63 rfl rfl (sort0_fn _ none 0 g8 _ _ (S9.blk 1 rfl)) ?_)
    rintro v11 w11 ⟨B11, hb11⟩
    first
      | have S11 := S9.changed1 0 rfl B11 hb11
      | have S11 := S9.changed1 1 rfl B11 hb11
    refine WL_nil ?_
    refine W_seq ?_
    refine W_region ?_
    first | refine o_move (v := .slice _ _ _) rfl rfl ?_ | refine o_move (by conv => lhs; whnf) rfl ?_
    first
      | (have hcf := compact_fn _ g9 _ cap9 _ (sortL (a ++ b)) (S11.blk 0 rfl) (List.take_left' (by simp)) (by rw [List.length_append, List.length_map]; omega) (by omega) (by omega)
         rw [hsl] at hcf
         refine o_call has_64 rfl rfl hcf ?_)
      | (refine o_call has_64 rfl rfl (compact0_fn _ none 0 g8 _ _ (S11.blk 1 rfl)) ?_)
    rintro v13 w13 ⟨rfl, B13, hb13⟩
    first
      | have S13 := S11.changed1 0 rfl B13 hb13
      | have S13 := S11.changed1 1 rfl B13 hb13
    first | refine o_assign (v := .slice _ _ _) rfl rfl ?_ | refine o_assign (by conv => lhs; whnf) rfl ?_
    refine WL_nil ?_
    refine W_ret ?_
    refine ret_1 rfl (by conv => lhs; whnf) ?_
    first
      | (have hab : a ++ b = [] := List.length_eq_zero_iff.1 hnil
         have hu : unionL a b = [] := unionL_nil hab
         rw [hu]; exact ⟨rdI_nil, S13.nil.fin⟩)
      | (refine ⟨RdI_row (k := 0) S13 rfl (fun hm => ?_) (unionL_take a b _) rfl (by omega) q2 (by omega) hi, S13.nil.fin⟩
         have := hM g9 hm; have h2 := S9.new 0 rfl; simp at h2; omega)
end Go.Proofs.YtinhchacppkmgaaDoor
