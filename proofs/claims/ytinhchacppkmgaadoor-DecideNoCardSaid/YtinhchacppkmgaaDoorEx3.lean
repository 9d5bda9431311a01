/-
  Contracts of package expr: values.
-/
import Derived.Test.YtinhchacppkmgaaDoorEx2
namespace Go.Fw
open Go.RowKit

def applyV (op a b c : Int) : Int :=
  if op = 4 then bxor (-1) a else if op = 5 then band a b else if op = 6 then bor a b else if op = 7 then bxor a b else if op = 9 then wr (a + wr (0 - b)) else if op = 8 then wr (a + b) else
  if op = 10 then wr (a * b) else if op = 11 then (if a = b then 1 else 0) else if op = 13 then (if a = b then 1 else if a < b then 1 else 0) else if op = 12 then (if a < b then 1 else 0) else
  if op = 14 then (if a = 1 then b else c) else 0

mutual
/-- The value of a well-formed expression. -/
def E.val (old now : List Int) : E → Int
  | ⟨op, w, n, ks⟩ => if op = 1 then n else if op = 2 then band (now.getD n.toNat 0) (pow2 w.toNat - 1) else if op = 3 then band (old.getD n.toNat 0) (pow2 w.toNat - 1) else
      band (applyV op ((E.vals old now ks).getD 0 0) ((E.vals old now ks).getD 1 0) ((E.vals old now ks).getD 2 0)) (pow2 w.toNat - 1)
def E.vals (old now : List Int) : List E → List Int
  | [] => []
  | k :: ks => E.val old now k :: E.vals old now ks
end
theorem E.vals_map (old now : List Int) (ks : List E) : E.vals old now ks = ks.map (E.val old now) := by
  induction ks with
  | nil => simp [E.vals]
  | cons k ks ih => simp [E.vals, ih]
theorem E.val_def (old now : List Int) (e : E) : e.val old now = if e.op = 1 then e.n else if e.op = 2 then band (now.getD e.n.toNat 0) (pow2 e.w.toNat - 1) else if e.op = 3 then band (old.getD e.n.toNat 0) (pow2 e.w.toNat - 1) else
      band (applyV e.op ((e.kids.map (E.val old now)).getD 0 0) ((e.kids.map (E.val old now)).getD 1 0) ((e.kids.map (E.val old now)).getD 2 0)) (pow2 e.w.toNat - 1) := by
  cases e; simp only [E.val, E.vals_map]

/-- What Eval returns. -/
def E.evl (old now : List Int) (e : E) : Int := if e.wf then e.val old now else 0

/-- The three values at step k. -/
def arr3 (vs : List Int) (k : Nat) : List Value := [.int .i64 ((vs.take k).getD 0 0), .int .i64 ((vs.take k).getD 1 0), .int .i64 ((vs.take k).getD 2 0)]
@[simp] theorem arr3_len (vs : List Int) (k : Nat) : (arr3 vs k).length = 3 := rfl
theorem arr3_set (vs : List Int) (k : Nat) (h3 : vs.length ≤ 3) (h : k < vs.length) : (arr3 vs k).set k (.int .i64 (vs.getD k 0)) = arr3 vs (k + 1) := by
  unfold arr3
  match vs, h3 with
  | [], _ => simp at h
  | [a], _ => obtain rfl : k = 0 := by simp at h; omega
              simp
  | [a, b], _ => rcases (show k = 0 ∨ k = 1 by simp at h; omega) with rfl | rfl <;> simp
  | [a, b, c], _ => rcases (show k = 0 ∨ k = 1 ∨ k = 2 by simp at h; omega) with rfl | rfl | rfl <;> simp
  | a :: b :: c :: d :: l, h => simp at h
end Go.Fw
namespace Go.Proofs.YtinhchacppkmgaaDoor
open Go.Fw Go.RowKit

theorem element_fn (M : List Nat) (w0 : World) (v : Value) (l : List Int) (i : Int) (hR : RdI M w0 v l) (h0 : 0 ≤ i) :
    Does Tryd.prog 46 #[v, .int .i64 i] w0 fun v w' => v = .int .i64 (l.getD i.toNat 0) ∧ Below w0.heap.size w0 w' := by
  obtain ⟨A, n, c, rfl⟩ := hR.form
  obtain ⟨hn, hc, hm, hbig, hel⟩ := hR.at
  have S := St.refl w0
  refine Does_enter Tryd.func46 rfl Tryd.ntmps46 rfl ?_
  refine W_seq ?_
  refine W_region ?_
  first | refine o_assign (v := .int .i64 _) rfl rfl ?_ | refine o_assign (by conv => lhs; whnf) rfl ?_
  refine WL_nil ?_
  refine W_seq ?_
  refine W_seq ?_
  refine W_region ?_
  first | refine o_move (v := .int .i64 _) rfl rfl ?_ | refine o_move (by conv => lhs; whnf) rfl ?_
  first | refine o_move (v := .slice _ _ _) rfl rfl ?_ | refine o_move (by conv => lhs; whnf) rfl ?_
  refine o_len slz_28.slT rfl rfl ?_
  refine o_lss rfl rfl rfl (fun h8 => ?_) (fun h8 => ?_)
  · refine WL_nil ?_
    refine W_then rfl ?_
    refine W_seq ?_
    refine W_region ?_
    first | refine o_move (v := .slice _ _ _) rfl rfl ?_ | refine o_move (by conv => lhs; whnf) rfl ?_
    first | refine o_move (v := .int .i64 _) rfl rfl ?_ | refine o_move (by conv => lhs; whnf) rfl ?_
    obtain ⟨b, o, hA, hbM, hee⟩ := hel (by omega)
    have hlt : i.toNat < l.length := by omega
    obtain ⟨ck, hck1, hck2, hck3⟩ := hee i.toNat l[i.toNat] (List.getElem?_eq_getElem hlt)
    have hcb : w0.cell? ⟨b, o + i.toNat * 1, none⟩ = some (.int .i64 l[i.toNat]) := hck2 0 _ (by rw [hck3.1]; rfl)
    refine o_indexAddr slz_28.slT rfl (by first | rfl | assumption) rfl (by omega) (by omega) rfl ?_
    refine o_load one_3 rfl (by first | exact S.old hcb) rfl ?_
    first | refine o_assign (v := .int .i64 _) rfl rfl ?_ | refine o_assign (by conv => lhs; whnf) rfl ?_
    refine WL_nil ?_
    refine W_ret ?_
    refine ret_1 rfl (by conv => lhs; whnf) ?_
    first
      | (refine ⟨?_, S.fin⟩; simp [hlt]; done)
      | (refine ⟨?_, S.fin⟩; simp [show l.length ≤ i.toNat by omega]; done)
  · refine WL_nil ?_
    refine W_else rfl ?_
    refine W_skip ?_
    refine W_seq ?_
    refine W_region ?_
    first | refine o_assign (v := .int .i64 _) rfl rfl ?_ | refine o_assign (by conv => lhs; whnf) rfl ?_
    refine WL_nil ?_
    refine W_ret ?_
    refine ret_1 rfl (by conv => lhs; whnf) ?_
    first
      | (refine ⟨?_, S.fin⟩; simp [hlt]; done)
      | (refine ⟨?_, S.fin⟩; simp [show l.length ≤ i.toNat by omega]; done)

theorem truth_fn (z : Bool) (w0 : World) : Does Tryd.prog 66 #[.bool z] w0 fun v w' => v = .int .i64 (if z = true then 1 else 0) ∧ Below w0.heap.size w0 w' := by
  have S := St.refl w0
  cases z
  · refine Does_enter Tryd.func66 rfl Tryd.ntmps66 rfl ?_
    refine W_seq ?_
    refine W_region ?_
    first | refine o_assign (v := .int .i64 _) rfl rfl ?_ | refine o_assign (by conv => lhs; whnf) rfl ?_
    refine WL_nil ?_
    refine W_seq ?_
    refine W_seq ?_
    refine W_region ?_
    first | refine o_move (v := .bool _) rfl rfl ?_ | refine o_move (by conv => lhs; whnf) rfl ?_
    refine WL_nil ?_
    refine W_else rfl ?_
    refine W_skip ?_
    refine W_seq ?_
    refine W_region ?_
    first | refine o_assign (v := .int .i64 _) rfl rfl ?_ | refine o_assign (by conv => lhs; whnf) rfl ?_
    refine WL_nil ?_
    refine W_ret ?_
    refine ret_1 rfl (by conv => lhs; whnf) ?_
    exact ⟨by simp, S.fin⟩
  · refine Does_enter Tryd.func66 rfl Tryd.ntmps66 rfl ?_
    refine W_seq ?_
    refine W_region ?_
    first | refine o_assign (v := .int .i64 _) rfl rfl ?_ | refine o_assign (by conv => lhs; whnf) rfl ?_
    refine WL_nil ?_
    refine W_seq ?_
    refine W_seq ?_
    refine W_region ?_
    first | refine o_move (v := .bool _) rfl rfl ?_ | refine o_move (by conv => lhs; whnf) rfl ?_
    refine WL_nil ?_
    refine W_then rfl ?_
    refine W_seq ?_
    refine W_region ?_
    first | refine o_assign (v := .int .i64 _) rfl rfl ?_ | refine o_assign (by conv => lhs; whnf) rfl ?_
    refine WL_nil ?_
    refine W_ret ?_
    refine ret_1 rfl (by conv => lhs; whnf) ?_
    exact ⟨by simp, S.fin⟩

theorem apply_fn (op a b c : Int) (w0 : World) : Does Tryd.prog 47 #[.int .i64 op, .agg #[.int .i64 a, .int .i64 b, .int .i64 c]] w0 fun v w' => v = .int .i64 (applyV op a b c) ∧ Below w0.heap.size w0 w' := by
  have S := St.refl w0
  refine Does_enter Tryd.func47 rfl Tryd.ntmps47 rfl ?_
  refine W_seq ?_
  refine W_region ?_
  refine o_boxa S (by conv => lhs; whnf) rfl ?_
  intro g3 w3 S3 X3 G3
  first | refine o_assign (v := .int .i64 _) rfl rfl ?_ | refine o_assign (by conv => lhs; whnf) rfl ?_
  refine WL_nil ?_
  refine W_seq ?_
  refine W_draw follows_mixed [0, 1, 2, 3, 4, 5] [] [] (by kernel_rfl) rfl (Cl _ _ _ _) (Cl.start S3) ?_
  refine q_indexArr art_72 rfl rfl (by omega) (by omega) rfl ?_
  refine q_load one_3 rfl (fun w1 hw => by first | exact hw.1.cell 0 rfl rfl) rfl ?_
  refine q_indexArr art_72 rfl rfl (by omega) (by omega) rfl ?_
  refine q_load one_3 rfl (fun w1 hw => by first | exact hw.1.cell 0 rfl rfl) rfl ?_
  first | refine q_assign (v := .int .i64 _) rfl rfl ?_ | refine q_assign (by conv => lhs; whnf) rfl ?_
  first | refine q_assign (v := .int .i64 _) rfl rfl ?_ | refine q_assign (by conv => lhs; whnf) rfl ?_
  refine QL_nil ?_
  refine BK_of ?_
  refine BKL_nil ?_
  rintro wR1 ⟨SR1, XR1⟩
  refine WL_nil ?_
  refine W_seq ?_
  refine W_seq ?_
  refine W_region ?_
  first | refine o_move (v := .int .i64 _) rfl rfl ?_ | refine o_move (by conv => lhs; whnf) rfl ?_
  refine WL_nil ?_
  refine W_block ?_
  refine W_seq ?_
  refine W_block ?_
  refine W_seq ?_
  refine W_block ?_
  refine W_seq ?_
  refine W_block ?_
  refine W_seq ?_
  refine W_block ?_
  refine W_seq ?_
  refine W_block ?_
  refine W_seq ?_
  refine W_block ?_
  refine W_seq ?_
  refine W_block ?_
  refine W_seq ?_
  refine W_block ?_
  refine W_seq ?_
  refine W_block ?_
  refine W_seq ?_
  refine W_block ?_
  refine W_seq ?_
  refine W_block ?_
  refine W_seq ?_
  refine W_seq ?_
  refine W_seq ?_
  refine W_region ?_
  refine o_eql rfl rfl rfl (fun h13 => ?_) (fun h13 => ?_)
  · first | refine o_assign (v := .bool _) rfl rfl ?_ | refine o_assign (by conv => lhs; whnf) rfl ?_
    refine WL_nil ?_
    refine W_then rfl ?_
    refine W_exit ?_
    refine bcons_here ?_
    refine W_seq ?_
    refine W_seq ?_
    refine W_region ?_
    first | refine o_move (v := .int .i64 _) rfl rfl ?_ | refine o_move (by conv => lhs; whnf) rfl ?_
    refine o_unxor rfl rfl ?_
    first | refine o_assign (v := .int .i64 _) rfl rfl ?_ | refine o_assign (by conv => lhs; whnf) rfl ?_
    refine WL_nil ?_
    refine W_ret ?_
    refine ret_1 rfl (by conv => lhs; whnf) ?_
    refine ⟨congrArg (Value.int .i64) ?_, SR1.fin⟩
    unfold applyV
    first
      | rw [if_pos h13]
      | rw [if_neg h13, if_pos h15]
      | rw [if_neg h13, if_neg h15, if_pos h17]
      | rw [if_neg h13, if_neg h15, if_neg h17, if_pos h19]
      | rw [if_neg h13, if_neg h15, if_neg h17, if_neg h19, if_pos h21]
      | rw [if_neg h13, if_neg h15, if_neg h17, if_neg h19, if_neg h21, if_pos h23]
      | rw [if_neg h13, if_neg h15, if_neg h17, if_neg h19, if_neg h21, if_neg h23, if_pos h25]
      | (rw [if_neg h13, if_neg h15, if_neg h17, if_neg h19, if_neg h21, if_neg h23, if_neg h25, if_pos h27]; simp [h55]; done)
      | (rw [if_neg h13, if_neg h15, if_neg h17, if_neg h19, if_neg h21, if_neg h23, if_neg h25, if_neg h27, if_pos h29]; first | (simp [h59]; done) | (simp [h59, h62]; done) | (simp [h59, show ¬ a < b by omega]; done))
      | (rw [if_neg h13, if_neg h15, if_neg h17, if_neg h19, if_neg h21, if_neg h23, if_neg h25, if_neg h27, if_neg h29, if_pos h31]; first | (simp [h62]; done) | (simp [show ¬ a < b by omega]; done))
      | (rw [if_neg h13, if_neg h15, if_neg h17, if_neg h19, if_neg h21, if_neg h23, if_neg h25, if_neg h27, if_neg h29, if_neg h31, if_pos h33]; simp [h65]; done)
      | rw [if_neg h13, if_neg h15, if_neg h17, if_neg h19, if_neg h21, if_neg h23, if_neg h25, if_neg h27, if_neg h29, if_neg h31, if_neg h33]
  · first | refine o_assign (v := .bool _) rfl rfl ?_ | refine o_assign (by conv => lhs; whnf) rfl ?_
    refine WL_nil ?_
    refine W_else rfl ?_
    refine W_skip ?_
    refine W_seq ?_
    refine W_seq ?_
    refine W_region ?_
    refine o_eql rfl rfl rfl (fun h15 => ?_) (fun h15 => ?_)
    · first | refine o_assign (v := .bool _) rfl rfl ?_ | refine o_assign (by conv => lhs; whnf) rfl ?_
      refine WL_nil ?_
      refine W_then rfl ?_
      refine W_exit ?_
      refine bcons_far rfl ?_
      refine bcons_here ?_
      refine W_seq ?_
      refine W_seq ?_
      refine W_region ?_
      first | refine o_move (v := .int .i64 _) rfl rfl ?_ | refine o_move (by conv => lhs; whnf) rfl ?_
      first | refine o_move (v := .int .i64 _) rfl rfl ?_ | refine o_move (by conv => lhs; whnf) rfl ?_
      refine o_and rfl rfl rfl ?_
      first | refine o_assign (v := .int .i64 _) rfl rfl ?_ | refine o_assign (by conv => lhs; whnf) rfl ?_
      refine WL_nil ?_
      refine W_ret ?_
      refine ret_1 rfl (by conv => lhs; whnf) ?_
      refine ⟨congrArg (Value.int .i64) ?_, SR1.fin⟩
      unfold applyV
      first
        | rw [if_pos h13]
        | rw [if_neg h13, if_pos h15]
        | rw [if_neg h13, if_neg h15, if_pos h17]
        | rw [if_neg h13, if_neg h15, if_neg h17, if_pos h19]
        | rw [if_neg h13, if_neg h15, if_neg h17, if_neg h19, if_pos h21]
        | rw [if_neg h13, if_neg h15, if_neg h17, if_neg h19, if_neg h21, if_pos h23]
        | rw [if_neg h13, if_neg h15, if_neg h17, if_neg h19, if_neg h21, if_neg h23, if_pos h25]
        | (rw [if_neg h13, if_neg h15, if_neg h17, if_neg h19, if_neg h21, if_neg h23, if_neg h25, if_pos h27]; simp [h55]; done)
        | (rw [if_neg h13, if_neg h15, if_neg h17, if_neg h19, if_neg h21, if_neg h23, if_neg h25, if_neg h27, if_pos h29]; first | (simp [h59]; done) | (simp [h59, h62]; done) | (simp [h59, show ¬ a < b by omega]; done))
        | (rw [if_neg h13, if_neg h15, if_neg h17, if_neg h19, if_neg h21, if_neg h23, if_neg h25, if_neg h27, if_neg h29, if_pos h31]; first | (simp [h62]; done) | (simp [show ¬ a < b by omega]; done))
        | (rw [if_neg h13, if_neg h15, if_neg h17, if_neg h19, if_neg h21, if_neg h23, if_neg h25, if_neg h27, if_neg h29, if_neg h31, if_pos h33]; simp [h65]; done)
        | rw [if_neg h13, if_neg h15, if_neg h17, if_neg h19, if_neg h21, if_neg h23, if_neg h25, if_neg h27, if_neg h29, if_neg h31, if_neg h33]
    · first | refine o_assign (v := .bool _) rfl rfl ?_ | refine o_assign (by conv => lhs; whnf) rfl ?_
      refine WL_nil ?_
      refine W_else rfl ?_
      refine W_skip ?_
      refine W_seq ?_
      refine W_seq ?_
      refine W_region ?_
      refine o_eql rfl rfl rfl (fun h17 => ?_) (fun h17 => ?_)
      · first | refine o_assign (v := .bool _) rfl rfl ?_ | refine o_assign (by conv => lhs; whnf) rfl ?_
        refine WL_nil ?_
        refine W_then rfl ?_
        refine W_exit ?_
        refine bcons_far rfl ?_
        refine bcons_far rfl ?_
        refine bcons_here ?_
        refine W_seq ?_
        refine W_seq ?_
        refine W_region ?_
        first | refine o_move (v := .int .i64 _) rfl rfl ?_ | refine o_move (by conv => lhs; whnf) rfl ?_
        first | refine o_move (v := .int .i64 _) rfl rfl ?_ | refine o_move (by conv => lhs; whnf) rfl ?_
        refine o_or rfl rfl rfl ?_
        first | refine o_assign (v := .int .i64 _) rfl rfl ?_ | refine o_assign (by conv => lhs; whnf) rfl ?_
        refine WL_nil ?_
        refine W_ret ?_
        refine ret_1 rfl (by conv => lhs; whnf) ?_
        refine ⟨congrArg (Value.int .i64) ?_, SR1.fin⟩
        unfold applyV
        first
          | rw [if_pos h13]
          | rw [if_neg h13, if_pos h15]
          | rw [if_neg h13, if_neg h15, if_pos h17]
          | rw [if_neg h13, if_neg h15, if_neg h17, if_pos h19]
          | rw [if_neg h13, if_neg h15, if_neg h17, if_neg h19, if_pos h21]
          | rw [if_neg h13, if_neg h15, if_neg h17, if_neg h19, if_neg h21, if_pos h23]
          | rw [if_neg h13, if_neg h15, if_neg h17, if_neg h19, if_neg h21, if_neg h23, if_pos h25]
          | (rw [if_neg h13, if_neg h15, if_neg h17, if_neg h19, if_neg h21, if_neg h23, if_neg h25, if_pos h27]; simp [h55]; done)
          | (rw [if_neg h13, if_neg h15, if_neg h17, if_neg h19, if_neg h21, if_neg h23, if_neg h25, if_neg h27, if_pos h29]; first | (simp [h59]; done) | (simp [h59, h62]; done) | (simp [h59, show ¬ a < b by omega]; done))
          | (rw [if_neg h13, if_neg h15, if_neg h17, if_neg h19, if_neg h21, if_neg h23, if_neg h25, if_neg h27, if_neg h29, if_pos h31]; first | (simp [h62]; done) | (simp [show ¬ a < b by omega]; done))
          | (rw [if_neg h13, if_neg h15, if_neg h17, if_neg h19, if_neg h21, if_neg h23, if_neg h25, if_neg h27, if_neg h29, if_neg h31, if_pos h33]; simp [h65]; done)
          | rw [if_neg h13, if_neg h15, if_neg h17, if_neg h19, if_neg h21, if_neg h23, if_neg h25, if_neg h27, if_neg h29, if_neg h31, if_neg h33]
      · first | refine o_assign (v := .bool _) rfl rfl ?_ | refine o_assign (by conv => lhs; whnf) rfl ?_
        refine WL_nil ?_
        refine W_else rfl ?_
        refine W_skip ?_
        refine W_seq ?_
        refine W_seq ?_
        refine W_region ?_
        refine o_eql rfl rfl rfl (fun h19 => ?_) (fun h19 => ?_)
        · first | refine o_assign (v := .bool _) rfl rfl ?_ | refine o_assign (by conv => lhs; whnf) rfl ?_
          refine WL_nil ?_
          refine W_then rfl ?_
          refine W_exit ?_
          refine bcons_far rfl ?_
          refine bcons_far rfl ?_
          refine bcons_far rfl ?_
          refine bcons_here ?_
          refine W_seq ?_
          refine W_seq ?_
          refine W_region ?_
          first | refine o_move (v := .int .i64 _) rfl rfl ?_ | refine o_move (by conv => lhs; whnf) rfl ?_
          first | refine o_move (v := .int .i64 _) rfl rfl ?_ | refine o_move (by conv => lhs; whnf) rfl ?_
          refine o_xor rfl rfl rfl ?_
          first | refine o_assign (v := .int .i64 _) rfl rfl ?_ | refine o_assign (by conv => lhs; whnf) rfl ?_
          refine WL_nil ?_
          refine W_ret ?_
          refine ret_1 rfl (by conv => lhs; whnf) ?_
          refine ⟨congrArg (Value.int .i64) ?_, SR1.fin⟩
          unfold applyV
          first
            | rw [if_pos h13]
            | rw [if_neg h13, if_pos h15]
            | rw [if_neg h13, if_neg h15, if_pos h17]
            | rw [if_neg h13, if_neg h15, if_neg h17, if_pos h19]
            | rw [if_neg h13, if_neg h15, if_neg h17, if_neg h19, if_pos h21]
            | rw [if_neg h13, if_neg h15, if_neg h17, if_neg h19, if_neg h21, if_pos h23]
            | rw [if_neg h13, if_neg h15, if_neg h17, if_neg h19, if_neg h21, if_neg h23, if_pos h25]
            | (rw [if_neg h13, if_neg h15, if_neg h17, if_neg h19, if_neg h21, if_neg h23, if_neg h25, if_pos h27]; simp [h55]; done)
            | (rw [if_neg h13, if_neg h15, if_neg h17, if_neg h19, if_neg h21, if_neg h23, if_neg h25, if_neg h27, if_pos h29]; first | (simp [h59]; done) | (simp [h59, h62]; done) | (simp [h59, show ¬ a < b by omega]; done))
            | (rw [if_neg h13, if_neg h15, if_neg h17, if_neg h19, if_neg h21, if_neg h23, if_neg h25, if_neg h27, if_neg h29, if_pos h31]; first | (simp [h62]; done) | (simp [show ¬ a < b by omega]; done))
            | (rw [if_neg h13, if_neg h15, if_neg h17, if_neg h19, if_neg h21, if_neg h23, if_neg h25, if_neg h27, if_neg h29, if_neg h31, if_pos h33]; simp [h65]; done)
            | rw [if_neg h13, if_neg h15, if_neg h17, if_neg h19, if_neg h21, if_neg h23, if_neg h25, if_neg h27, if_neg h29, if_neg h31, if_neg h33]
        · first | refine o_assign (v := .bool _) rfl rfl ?_ | refine o_assign (by conv => lhs; whnf) rfl ?_
          refine WL_nil ?_
          refine W_else rfl ?_
          refine W_skip ?_
          refine W_seq ?_
          refine W_seq ?_
          refine W_region ?_
          refine o_eql rfl rfl rfl (fun h21 => ?_) (fun h21 => ?_)
          · first | refine o_assign (v := .bool _) rfl rfl ?_ | refine o_assign (by conv => lhs; whnf) rfl ?_
            refine WL_nil ?_
            refine W_then rfl ?_
            refine W_exit ?_
            refine bcons_far rfl ?_
            refine bcons_far rfl ?_
            refine bcons_far rfl ?_
            refine bcons_far rfl ?_
            refine bcons_here ?_
            refine W_region ?_
            first | refine o_move (v := .int .i64 _) rfl rfl ?_ | refine o_move (by conv => lhs; whnf) rfl ?_
            refine o_negW rfl rfl ?_
            first | refine o_assign (v := .int .i64 _) rfl rfl ?_ | refine o_assign (by conv => lhs; whnf) rfl ?_
            refine WL_nil ?_
            refine W_seq ?_
            refine W_seq ?_
            refine W_region ?_
            first | refine o_move (v := .int .i64 _) rfl rfl ?_ | refine o_move (by conv => lhs; whnf) rfl ?_
            first | refine o_move (v := .int .i64 _) rfl rfl ?_ | refine o_move (by conv => lhs; whnf) rfl ?_
            refine o_addW rfl rfl rfl ?_
            first | refine o_assign (v := .int .i64 _) rfl rfl ?_ | refine o_assign (by conv => lhs; whnf) rfl ?_
            refine WL_nil ?_
            refine W_ret ?_
            refine ret_1 rfl (by conv => lhs; whnf) ?_
            refine ⟨congrArg (Value.int .i64) ?_, SR1.fin⟩
            unfold applyV
            first
              | rw [if_pos h13]
              | rw [if_neg h13, if_pos h15]
              | rw [if_neg h13, if_neg h15, if_pos h17]
              | rw [if_neg h13, if_neg h15, if_neg h17, if_pos h19]
              | rw [if_neg h13, if_neg h15, if_neg h17, if_neg h19, if_pos h21]
              | rw [if_neg h13, if_neg h15, if_neg h17, if_neg h19, if_neg h21, if_pos h23]
              | rw [if_neg h13, if_neg h15, if_neg h17, if_neg h19, if_neg h21, if_neg h23, if_pos h25]
              | (rw [if_neg h13, if_neg h15, if_neg h17, if_neg h19, if_neg h21, if_neg h23, if_neg h25, if_pos h27]; simp [h55]; done)
              | (rw [if_neg h13, if_neg h15, if_neg h17, if_neg h19, if_neg h21, if_neg h23, if_neg h25, if_neg h27, if_pos h29]; first | (simp [h59]; done) | (simp [h59, h62]; done) | (simp [h59, show ¬ a < b by omega]; done))
              | (rw [if_neg h13, if_neg h15, if_neg h17, if_neg h19, if_neg h21, if_neg h23, if_neg h25, if_neg h27, if_neg h29, if_pos h31]; first | (simp [h62]; done) | (simp [show ¬ a < b by omega]; done))
              | (rw [if_neg h13, if_neg h15, if_neg h17, if_neg h19, if_neg h21, if_neg h23, if_neg h25, if_neg h27, if_neg h29, if_neg h31, if_pos h33]; simp [h65]; done)
              | rw [if_neg h13, if_neg h15, if_neg h17, if_neg h19, if_neg h21, if_neg h23, if_neg h25, if_neg h27, if_neg h29, if_neg h31, if_neg h33]
          · first | refine o_assign (v := .bool _) rfl rfl ?_ | refine o_assign (by conv => lhs; whnf) rfl ?_
            refine WL_nil ?_
            refine W_else rfl ?_
            refine W_skip ?_
            refine W_seq ?_
            refine W_seq ?_
            refine W_region ?_
            refine o_eql rfl rfl rfl (fun h23 => ?_) (fun h23 => ?_)
            · first | refine o_assign (v := .bool _) rfl rfl ?_ | refine o_assign (by conv => lhs; whnf) rfl ?_
              refine WL_nil ?_
              refine W_then rfl ?_
              refine W_exit ?_
              refine bcons_far rfl ?_
              refine bcons_far rfl ?_
              refine bcons_far rfl ?_
              refine bcons_far rfl ?_
              refine bcons_far rfl ?_
              refine bcons_here ?_
              refine W_seq ?_
              refine W_seq ?_
              refine W_region ?_
              first | refine o_move (v := .int .i64 _) rfl rfl ?_ | refine o_move (by conv => lhs; whnf) rfl ?_
              first | refine o_move (v := .int .i64 _) rfl rfl ?_ | refine o_move (by conv => lhs; whnf) rfl ?_
              refine o_addW rfl rfl rfl ?_
              first | refine o_assign (v := .int .i64 _) rfl rfl ?_ | refine o_assign (by conv => lhs; whnf) rfl ?_
              refine WL_nil ?_
              refine W_ret ?_
              refine ret_1 rfl (by conv => lhs; whnf) ?_
              refine ⟨congrArg (Value.int .i64) ?_, SR1.fin⟩
              unfold applyV
              first
                | rw [if_pos h13]
                | rw [if_neg h13, if_pos h15]
                | rw [if_neg h13, if_neg h15, if_pos h17]
                | rw [if_neg h13, if_neg h15, if_neg h17, if_pos h19]
                | rw [if_neg h13, if_neg h15, if_neg h17, if_neg h19, if_pos h21]
                | rw [if_neg h13, if_neg h15, if_neg h17, if_neg h19, if_neg h21, if_pos h23]
                | rw [if_neg h13, if_neg h15, if_neg h17, if_neg h19, if_neg h21, if_neg h23, if_pos h25]
                | (rw [if_neg h13, if_neg h15, if_neg h17, if_neg h19, if_neg h21, if_neg h23, if_neg h25, if_pos h27]; simp [h55]; done)
                | (rw [if_neg h13, if_neg h15, if_neg h17, if_neg h19, if_neg h21, if_neg h23, if_neg h25, if_neg h27, if_pos h29]; first | (simp [h59]; done) | (simp [h59, h62]; done) | (simp [h59, show ¬ a < b by omega]; done))
                | (rw [if_neg h13, if_neg h15, if_neg h17, if_neg h19, if_neg h21, if_neg h23, if_neg h25, if_neg h27, if_neg h29, if_pos h31]; first | (simp [h62]; done) | (simp [show ¬ a < b by omega]; done))
                | (rw [if_neg h13, if_neg h15, if_neg h17, if_neg h19, if_neg h21, if_neg h23, if_neg h25, if_neg h27, if_neg h29, if_neg h31, if_pos h33]; simp [h65]; done)
                | rw [if_neg h13, if_neg h15, if_neg h17, if_neg h19, if_neg h21, if_neg h23, if_neg h25, if_neg h27, if_neg h29, if_neg h31, if_neg h33]
            · first | refine o_assign (v := .bool _) rfl rfl ?_ | refine o_assign (by conv => lhs; whnf) rfl ?_
              refine WL_nil ?_
              refine W_else rfl ?_
              refine W_skip ?_
              refine W_seq ?_
              refine W_seq ?_
              refine W_region ?_
              refine o_eql rfl rfl rfl (fun h25 => ?_) (fun h25 => ?_)
              · first | refine o_assign (v := .bool _) rfl rfl ?_ | refine o_assign (by conv => lhs; whnf) rfl ?_
                refine WL_nil ?_
                refine W_then rfl ?_
                refine W_exit ?_
                refine bcons_far rfl ?_
                refine bcons_far rfl ?_
                refine bcons_far rfl ?_
                refine bcons_far rfl ?_
                refine bcons_far rfl ?_
                refine bcons_far rfl ?_
                refine bcons_here ?_
                refine W_seq ?_
                refine W_seq ?_
                refine W_region ?_
                first | refine o_move (v := .int .i64 _) rfl rfl ?_ | refine o_move (by conv => lhs; whnf) rfl ?_
                first | refine o_move (v := .int .i64 _) rfl rfl ?_ | refine o_move (by conv => lhs; whnf) rfl ?_
                refine o_mulW rfl rfl rfl ?_
                first | refine o_assign (v := .int .i64 _) rfl rfl ?_ | refine o_assign (by conv => lhs; whnf) rfl ?_
                refine WL_nil ?_
                refine W_ret ?_
                refine ret_1 rfl (by conv => lhs; whnf) ?_
                refine ⟨congrArg (Value.int .i64) ?_, SR1.fin⟩
                unfold applyV
                first
                  | rw [if_pos h13]
                  | rw [if_neg h13, if_pos h15]
                  | rw [if_neg h13, if_neg h15, if_pos h17]
                  | rw [if_neg h13, if_neg h15, if_neg h17, if_pos h19]
                  | rw [if_neg h13, if_neg h15, if_neg h17, if_neg h19, if_pos h21]
                  | rw [if_neg h13, if_neg h15, if_neg h17, if_neg h19, if_neg h21, if_pos h23]
                  | rw [if_neg h13, if_neg h15, if_neg h17, if_neg h19, if_neg h21, if_neg h23, if_pos h25]
                  | (rw [if_neg h13, if_neg h15, if_neg h17, if_neg h19, if_neg h21, if_neg h23, if_neg h25, if_pos h27]; simp [h55]; done)
                  | (rw [if_neg h13, if_neg h15, if_neg h17, if_neg h19, if_neg h21, if_neg h23, if_neg h25, if_neg h27, if_pos h29]; first | (simp [h59]; done) | (simp [h59, h62]; done) | (simp [h59, show ¬ a < b by omega]; done))
                  | (rw [if_neg h13, if_neg h15, if_neg h17, if_neg h19, if_neg h21, if_neg h23, if_neg h25, if_neg h27, if_neg h29, if_pos h31]; first | (simp [h62]; done) | (simp [show ¬ a < b by omega]; done))
                  | (rw [if_neg h13, if_neg h15, if_neg h17, if_neg h19, if_neg h21, if_neg h23, if_neg h25, if_neg h27, if_neg h29, if_neg h31, if_pos h33]; simp [h65]; done)
                  | rw [if_neg h13, if_neg h15, if_neg h17, if_neg h19, if_neg h21, if_neg h23, if_neg h25, if_neg h27, if_neg h29, if_neg h31, if_neg h33]
              · first | refine o_assign (v := .bool _) rfl rfl ?_ | refine o_assign (by conv => lhs; whnf) rfl ?_
                refine WL_nil ?_
                refine W_else rfl ?_
                refine W_skip ?_
                refine W_seq ?_
                refine W_seq ?_
                refine W_region ?_
                refine o_eql rfl rfl rfl (fun h27 => ?_) (fun h27 => ?_)
                · first | refine o_assign (v := .bool _) rfl rfl ?_ | refine o_assign (by conv => lhs; whnf) rfl ?_
                  refine WL_nil ?_
                  refine W_then rfl ?_
                  refine W_exit ?_
                  refine bcons_far rfl ?_
                  refine bcons_far rfl ?_
                  refine bcons_far rfl ?_
                  refine bcons_far rfl ?_
                  refine bcons_far rfl ?_
                  refine bcons_far rfl ?_
                  refine bcons_far rfl ?_
                  refine bcons_here ?_
                  refine W_seq ?_
                  refine W_seq ?_
                  refine W_region ?_
                  first | refine o_move (v := .int .i64 _) rfl rfl ?_ | refine o_move (by conv => lhs; whnf) rfl ?_
                  first | refine o_move (v := .int .i64 _) rfl rfl ?_ | refine o_move (by conv => lhs; whnf) rfl ?_
                  refine o_eql rfl rfl rfl (fun h55 => ?_) (fun h55 => ?_)
                  · refine o_callr SR1 has_66 rfl rfl (truth_fn _ _) ?_
                    intro w56 S56 X56
                    first | refine o_assign (v := .int .i64 _) rfl rfl ?_ | refine o_assign (by conv => lhs; whnf) rfl ?_
                    refine WL_nil ?_
                    refine W_ret ?_
                    refine ret_1 rfl (by conv => lhs; whnf) ?_
                    refine ⟨congrArg (Value.int .i64) ?_, S56.fin⟩
                    unfold applyV
                    first
                      | rw [if_pos h13]
                      | rw [if_neg h13, if_pos h15]
                      | rw [if_neg h13, if_neg h15, if_pos h17]
                      | rw [if_neg h13, if_neg h15, if_neg h17, if_pos h19]
                      | rw [if_neg h13, if_neg h15, if_neg h17, if_neg h19, if_pos h21]
                      | rw [if_neg h13, if_neg h15, if_neg h17, if_neg h19, if_neg h21, if_pos h23]
                      | rw [if_neg h13, if_neg h15, if_neg h17, if_neg h19, if_neg h21, if_neg h23, if_pos h25]
                      | (rw [if_neg h13, if_neg h15, if_neg h17, if_neg h19, if_neg h21, if_neg h23, if_neg h25, if_pos h27]; simp [h55]; done)
                      | (rw [if_neg h13, if_neg h15, if_neg h17, if_neg h19, if_neg h21, if_neg h23, if_neg h25, if_neg h27, if_pos h29]; first | (simp [h59]; done) | (simp [h59, h62]; done) | (simp [h59, show ¬ a < b by omega]; done))
                      | (rw [if_neg h13, if_neg h15, if_neg h17, if_neg h19, if_neg h21, if_neg h23, if_neg h25, if_neg h27, if_neg h29, if_pos h31]; first | (simp [h62]; done) | (simp [show ¬ a < b by omega]; done))
                      | (rw [if_neg h13, if_neg h15, if_neg h17, if_neg h19, if_neg h21, if_neg h23, if_neg h25, if_neg h27, if_neg h29, if_neg h31, if_pos h33]; simp [h65]; done)
                      | rw [if_neg h13, if_neg h15, if_neg h17, if_neg h19, if_neg h21, if_neg h23, if_neg h25, if_neg h27, if_neg h29, if_neg h31, if_neg h33]
                  · refine o_callr SR1 has_66 rfl rfl (truth_fn _ _) ?_
                    intro w56 S56 X56
                    first | refine o_assign (v := .int .i64 _) rfl rfl ?_ | refine o_assign (by conv => lhs; whnf) rfl ?_
                    refine WL_nil ?_
                    refine W_ret ?_
                    refine ret_1 rfl (by conv => lhs; whnf) ?_
                    refine ⟨congrArg (Value.int .i64) ?_, S56.fin⟩
                    unfold applyV
                    first
                      | rw [if_pos h13]
                      | rw [if_neg h13, if_pos h15]
                      | rw [if_neg h13, if_neg h15, if_pos h17]
                      | rw [if_neg h13, if_neg h15, if_neg h17, if_pos h19]
                      | rw [if_neg h13, if_neg h15, if_neg h17, if_neg h19, if_pos h21]
                      | rw [if_neg h13, if_neg h15, if_neg h17, if_neg h19, if_neg h21, if_pos h23]
                      | rw [if_neg h13, if_neg h15, if_neg h17, if_neg h19, if_neg h21, if_neg h23, if_pos h25]
                      | (rw [if_neg h13, if_neg h15, if_neg h17, if_neg h19, if_neg h21, if_neg h23, if_neg h25, if_pos h27]; simp [h55]; done)
                      | (rw [if_neg h13, if_neg h15, if_neg h17, if_neg h19, if_neg h21, if_neg h23, if_neg h25, if_neg h27, if_pos h29]; first | (simp [h59]; done) | (simp [h59, h62]; done) | (simp [h59, show ¬ a < b by omega]; done))
                      | (rw [if_neg h13, if_neg h15, if_neg h17, if_neg h19, if_neg h21, if_neg h23, if_neg h25, if_neg h27, if_neg h29, if_pos h31]; first | (simp [h62]; done) | (simp [show ¬ a < b by omega]; done))
                      | (rw [if_neg h13, if_neg h15, if_neg h17, if_neg h19, if_neg h21, if_neg h23, if_neg h25, if_neg h27, if_neg h29, if_neg h31, if_pos h33]; simp [h65]; done)
                      | rw [if_neg h13, if_neg h15, if_neg h17, if_neg h19, if_neg h21, if_neg h23, if_neg h25, if_neg h27, if_neg h29, if_neg h31, if_neg h33]
                · first | refine o_assign (v := .bool _) rfl rfl ?_ | refine o_assign (by conv => lhs; whnf) rfl ?_
                  refine WL_nil ?_
                  refine W_else rfl ?_
                  refine W_skip ?_
                  refine W_seq ?_
                  refine W_seq ?_
                  refine W_region ?_
                  refine o_eql rfl rfl rfl (fun h29 => ?_) (fun h29 => ?_)
                  · first | refine o_assign (v := .bool _) rfl rfl ?_ | refine o_assign (by conv => lhs; whnf) rfl ?_
                    refine WL_nil ?_
                    refine W_then rfl ?_
                    refine W_exit ?_
                    refine bcons_far rfl ?_
                    refine bcons_far rfl ?_
                    refine bcons_far rfl ?_
                    refine bcons_far rfl ?_
                    refine bcons_far rfl ?_
                    refine bcons_far rfl ?_
                    refine bcons_far rfl ?_
                    refine bcons_far rfl ?_
                    refine bcons_here ?_
                    refine W_seq ?_
                    refine W_region ?_
                    first | refine o_move (v := .int .i64 _) rfl rfl ?_ | refine o_move (by conv => lhs; whnf) rfl ?_
                    first | refine o_move (v := .int .i64 _) rfl rfl ?_ | refine o_move (by conv => lhs; whnf) rfl ?_
                    refine o_eql rfl rfl rfl (fun h59 => ?_) (fun h59 => ?_)
                    · refine WL_nil ?_
                      refine W_then rfl ?_
                      refine W_seq ?_
                      refine W_region ?_
                      first | refine o_assign (v := .int .i64 _) rfl rfl ?_ | refine o_assign (by conv => lhs; whnf) rfl ?_
                      refine WL_nil ?_
                      refine W_ret ?_
                      refine ret_1 rfl (by conv => lhs; whnf) ?_
                      refine ⟨congrArg (Value.int .i64) ?_, SR1.fin⟩
                      unfold applyV
                      first
                        | rw [if_pos h13]
                        | rw [if_neg h13, if_pos h15]
                        | rw [if_neg h13, if_neg h15, if_pos h17]
                        | rw [if_neg h13, if_neg h15, if_neg h17, if_pos h19]
                        | rw [if_neg h13, if_neg h15, if_neg h17, if_neg h19, if_pos h21]
                        | rw [if_neg h13, if_neg h15, if_neg h17, if_neg h19, if_neg h21, if_pos h23]
                        | rw [if_neg h13, if_neg h15, if_neg h17, if_neg h19, if_neg h21, if_neg h23, if_pos h25]
                        | (rw [if_neg h13, if_neg h15, if_neg h17, if_neg h19, if_neg h21, if_neg h23, if_neg h25, if_pos h27]; simp [h55]; done)
                        | (rw [if_neg h13, if_neg h15, if_neg h17, if_neg h19, if_neg h21, if_neg h23, if_neg h25, if_neg h27, if_pos h29]; first | (simp [h59]; done) | (simp [h59, h62]; done) | (simp [h59, show ¬ a < b by omega]; done))
                        | (rw [if_neg h13, if_neg h15, if_neg h17, if_neg h19, if_neg h21, if_neg h23, if_neg h25, if_neg h27, if_neg h29, if_pos h31]; first | (simp [h62]; done) | (simp [show ¬ a < b by omega]; done))
                        | (rw [if_neg h13, if_neg h15, if_neg h17, if_neg h19, if_neg h21, if_neg h23, if_neg h25, if_neg h27, if_neg h29, if_neg h31, if_pos h33]; simp [h65]; done)
                        | rw [if_neg h13, if_neg h15, if_neg h17, if_neg h19, if_neg h21, if_neg h23, if_neg h25, if_neg h27, if_neg h29, if_neg h31, if_neg h33]
                    · refine WL_nil ?_
                      refine W_else rfl ?_
                      refine W_skip ?_
                      refine W_seq ?_
                      refine W_seq ?_
                      refine W_region ?_
                      first | refine o_move (v := .int .i64 _) rfl rfl ?_ | refine o_move (by conv => lhs; whnf) rfl ?_
                      first | refine o_move (v := .int .i64 _) rfl rfl ?_ | refine o_move (by conv => lhs; whnf) rfl ?_
                      refine o_lss rfl rfl rfl (fun h62 => ?_) (fun h62 => ?_)
                      · refine o_callr SR1 has_66 rfl rfl (truth_fn _ _) ?_
                        intro w63 S63 X63
                        first | refine o_assign (v := .int .i64 _) rfl rfl ?_ | refine o_assign (by conv => lhs; whnf) rfl ?_
                        refine WL_nil ?_
                        refine W_ret ?_
                        refine ret_1 rfl (by conv => lhs; whnf) ?_
                        refine ⟨congrArg (Value.int .i64) ?_, S63.fin⟩
                        unfold applyV
                        first
                          | rw [if_pos h13]
                          | rw [if_neg h13, if_pos h15]
                          | rw [if_neg h13, if_neg h15, if_pos h17]
                          | rw [if_neg h13, if_neg h15, if_neg h17, if_pos h19]
                          | rw [if_neg h13, if_neg h15, if_neg h17, if_neg h19, if_pos h21]
                          | rw [if_neg h13, if_neg h15, if_neg h17, if_neg h19, if_neg h21, if_pos h23]
                          | rw [if_neg h13, if_neg h15, if_neg h17, if_neg h19, if_neg h21, if_neg h23, if_pos h25]
                          | (rw [if_neg h13, if_neg h15, if_neg h17, if_neg h19, if_neg h21, if_neg h23, if_neg h25, if_pos h27]; simp [h55]; done)
                          | (rw [if_neg h13, if_neg h15, if_neg h17, if_neg h19, if_neg h21, if_neg h23, if_neg h25, if_neg h27, if_pos h29]; first | (simp [h59]; done) | (simp [h59, h62]; done) | (simp [h59, show ¬ a < b by omega]; done))
                          | (rw [if_neg h13, if_neg h15, if_neg h17, if_neg h19, if_neg h21, if_neg h23, if_neg h25, if_neg h27, if_neg h29, if_pos h31]; first | (simp [h62]; done) | (simp [show ¬ a < b by omega]; done))
                          | (rw [if_neg h13, if_neg h15, if_neg h17, if_neg h19, if_neg h21, if_neg h23, if_neg h25, if_neg h27, if_neg h29, if_neg h31, if_pos h33]; simp [h65]; done)
                          | rw [if_neg h13, if_neg h15, if_neg h17, if_neg h19, if_neg h21, if_neg h23, if_neg h25, if_neg h27, if_neg h29, if_neg h31, if_neg h33]
                      · refine o_callr SR1 has_66 rfl rfl (truth_fn _ _) ?_
                        intro w63 S63 X63
                        first | refine o_assign (v := .int .i64 _) rfl rfl ?_ | refine o_assign (by conv => lhs; whnf) rfl ?_
                        refine WL_nil ?_
                        refine W_ret ?_
                        refine ret_1 rfl (by conv => lhs; whnf) ?_
                        refine ⟨congrArg (Value.int .i64) ?_, S63.fin⟩
                        unfold applyV
                        first
                          | rw [if_pos h13]
                          | rw [if_neg h13, if_pos h15]
                          | rw [if_neg h13, if_neg h15, if_pos h17]
                          | rw [if_neg h13, if_neg h15, if_neg h17, if_pos h19]
                          | rw [if_neg h13, if_neg h15, if_neg h17, if_neg h19, if_pos h21]
                          | rw [if_neg h13, if_neg h15, if_neg h17, if_neg h19, if_neg h21, if_pos h23]
                          | rw [if_neg h13, if_neg h15, if_neg h17, if_neg h19, if_neg h21, if_neg h23, if_pos h25]
                          | (rw [if_neg h13, if_neg h15, if_neg h17, if_neg h19, if_neg h21, if_neg h23, if_neg h25, if_pos h27]; simp [h55]; done)
                          | (rw [if_neg h13, if_neg h15, if_neg h17, if_neg h19, if_neg h21, if_neg h23, if_neg h25, if_neg h27, if_pos h29]; first | (simp [h59]; done) | (simp [h59, h62]; done) | (simp [h59, show ¬ a < b by omega]; done))
                          | (rw [if_neg h13, if_neg h15, if_neg h17, if_neg h19, if_neg h21, if_neg h23, if_neg h25, if_neg h27, if_neg h29, if_pos h31]; first | (simp [h62]; done) | (simp [show ¬ a < b by omega]; done))
                          | (rw [if_neg h13, if_neg h15, if_neg h17, if_neg h19, if_neg h21, if_neg h23, if_neg h25, if_neg h27, if_neg h29, if_neg h31, if_pos h33]; simp [h65]; done)
                          | rw [if_neg h13, if_neg h15, if_neg h17, if_neg h19, if_neg h21, if_neg h23, if_neg h25, if_neg h27, if_neg h29, if_neg h31, if_neg h33]
                  · first | refine o_assign (v := .bool _) rfl rfl ?_ | refine o_assign (by conv => lhs; whnf) rfl ?_
                    refine WL_nil ?_
                    refine W_else rfl ?_
                    refine W_skip ?_
                    refine W_seq ?_
                    refine W_seq ?_
                    refine W_region ?_
                    refine o_eql rfl rfl rfl (fun h31 => ?_) (fun h31 => ?_)
                    · first | refine o_assign (v := .bool _) rfl rfl ?_ | refine o_assign (by conv => lhs; whnf) rfl ?_
                      refine WL_nil ?_
                      refine W_then rfl ?_
                      refine W_exit ?_
                      refine bcons_far rfl ?_
                      refine bcons_far rfl ?_
                      refine bcons_far rfl ?_
                      refine bcons_far rfl ?_
                      refine bcons_far rfl ?_
                      refine bcons_far rfl ?_
                      refine bcons_far rfl ?_
                      refine bcons_far rfl ?_
                      refine bcons_far rfl ?_
                      refine bcons_here ?_
                      refine W_seq ?_
                      refine W_seq ?_
                      refine W_region ?_
                      first | refine o_move (v := .int .i64 _) rfl rfl ?_ | refine o_move (by conv => lhs; whnf) rfl ?_
                      first | refine o_move (v := .int .i64 _) rfl rfl ?_ | refine o_move (by conv => lhs; whnf) rfl ?_
                      refine o_lss rfl rfl rfl (fun h62 => ?_) (fun h62 => ?_)
                      · refine o_callr SR1 has_66 rfl rfl (truth_fn _ _) ?_
                        intro w63 S63 X63
                        first | refine o_assign (v := .int .i64 _) rfl rfl ?_ | refine o_assign (by conv => lhs; whnf) rfl ?_
                        refine WL_nil ?_
                        refine W_ret ?_
                        refine ret_1 rfl (by conv => lhs; whnf) ?_
                        refine ⟨congrArg (Value.int .i64) ?_, S63.fin⟩
                        unfold applyV
                        first
                          | rw [if_pos h13]
                          | rw [if_neg h13, if_pos h15]
                          | rw [if_neg h13, if_neg h15, if_pos h17]
                          | rw [if_neg h13, if_neg h15, if_neg h17, if_pos h19]
                          | rw [if_neg h13, if_neg h15, if_neg h17, if_neg h19, if_pos h21]
                          | rw [if_neg h13, if_neg h15, if_neg h17, if_neg h19, if_neg h21, if_pos h23]
                          | rw [if_neg h13, if_neg h15, if_neg h17, if_neg h19, if_neg h21, if_neg h23, if_pos h25]
                          | (rw [if_neg h13, if_neg h15, if_neg h17, if_neg h19, if_neg h21, if_neg h23, if_neg h25, if_pos h27]; simp [h55]; done)
                          | (rw [if_neg h13, if_neg h15, if_neg h17, if_neg h19, if_neg h21, if_neg h23, if_neg h25, if_neg h27, if_pos h29]; first | (simp [h59]; done) | (simp [h59, h62]; done) | (simp [h59, show ¬ a < b by omega]; done))
                          | (rw [if_neg h13, if_neg h15, if_neg h17, if_neg h19, if_neg h21, if_neg h23, if_neg h25, if_neg h27, if_neg h29, if_pos h31]; first | (simp [h62]; done) | (simp [show ¬ a < b by omega]; done))
                          | (rw [if_neg h13, if_neg h15, if_neg h17, if_neg h19, if_neg h21, if_neg h23, if_neg h25, if_neg h27, if_neg h29, if_neg h31, if_pos h33]; simp [h65]; done)
                          | rw [if_neg h13, if_neg h15, if_neg h17, if_neg h19, if_neg h21, if_neg h23, if_neg h25, if_neg h27, if_neg h29, if_neg h31, if_neg h33]
                      · refine o_callr SR1 has_66 rfl rfl (truth_fn _ _) ?_
                        intro w63 S63 X63
                        first | refine o_assign (v := .int .i64 _) rfl rfl ?_ | refine o_assign (by conv => lhs; whnf) rfl ?_
                        refine WL_nil ?_
                        refine W_ret ?_
                        refine ret_1 rfl (by conv => lhs; whnf) ?_
                        refine ⟨congrArg (Value.int .i64) ?_, S63.fin⟩
                        unfold applyV
                        first
                          | rw [if_pos h13]
                          | rw [if_neg h13, if_pos h15]
                          | rw [if_neg h13, if_neg h15, if_pos h17]
                          | rw [if_neg h13, if_neg h15, if_neg h17, if_pos h19]
                          | rw [if_neg h13, if_neg h15, if_neg h17, if_neg h19, if_pos h21]
                          | rw [if_neg h13, if_neg h15, if_neg h17, if_neg h19, if_neg h21, if_pos h23]
                          | rw [if_neg h13, if_neg h15, if_neg h17, if_neg h19, if_neg h21, if_neg h23, if_pos h25]
                          | (rw [if_neg h13, if_neg h15, if_neg h17, if_neg h19, if_neg h21, if_neg h23, if_neg h25, if_pos h27]; simp [h55]; done)
                          | (rw [if_neg h13, if_neg h15, if_neg h17, if_neg h19, if_neg h21, if_neg h23, if_neg h25, if_neg h27, if_pos h29]; first | (simp [h59]; done) | (simp [h59, h62]; done) | (simp [h59, show ¬ a < b by omega]; done))
                          | (rw [if_neg h13, if_neg h15, if_neg h17, if_neg h19, if_neg h21, if_neg h23, if_neg h25, if_neg h27, if_neg h29, if_pos h31]; first | (simp [h62]; done) | (simp [show ¬ a < b by omega]; done))
                          | (rw [if_neg h13, if_neg h15, if_neg h17, if_neg h19, if_neg h21, if_neg h23, if_neg h25, if_neg h27, if_neg h29, if_neg h31, if_pos h33]; simp [h65]; done)
                          | rw [if_neg h13, if_neg h15, if_neg h17, if_neg h19, if_neg h21, if_neg h23, if_neg h25, if_neg h27, if_neg h29, if_neg h31, if_neg h33]
                    · first | refine o_assign (v := .bool _) rfl rfl ?_ | refine o_assign (by conv => lhs; whnf) rfl ?_
                      refine WL_nil ?_
                      refine W_else rfl ?_
                      refine W_skip ?_
                      refine W_seq ?_
                      refine W_region ?_
                      refine o_eql rfl rfl rfl (fun h33 => ?_) (fun h33 => ?_)
                      · first | refine o_assign (v := .bool _) rfl rfl ?_ | refine o_assign (by conv => lhs; whnf) rfl ?_
                        refine WL_nil ?_
                        refine W_then rfl ?_
                        refine W_exit ?_
                        refine bcons_far rfl ?_
                        refine bcons_far rfl ?_
                        refine bcons_far rfl ?_
                        refine bcons_far rfl ?_
                        refine bcons_far rfl ?_
                        refine bcons_far rfl ?_
                        refine bcons_far rfl ?_
                        refine bcons_far rfl ?_
                        refine bcons_far rfl ?_
                        refine bcons_far rfl ?_
                        refine bcons_here ?_
                        refine W_seq ?_
                        refine W_seq ?_
                        refine W_seq ?_
                        refine W_region ?_
                        first | refine o_move (v := .int .i64 _) rfl rfl ?_ | refine o_move (by conv => lhs; whnf) rfl ?_
                        refine o_eql rfl rfl rfl (fun h65 => ?_) (fun h65 => ?_)
                        · refine WL_nil ?_
                          refine W_then rfl ?_
                          refine W_seq ?_
                          refine W_region ?_
                          first | refine o_move (v := .int .i64 _) rfl rfl ?_ | refine o_move (by conv => lhs; whnf) rfl ?_
                          first | refine o_assign (v := .int .i64 _) rfl rfl ?_ | refine o_assign (by conv => lhs; whnf) rfl ?_
                          refine WL_nil ?_
                          refine W_ret ?_
                          refine ret_1 rfl (by conv => lhs; whnf) ?_
                          refine ⟨congrArg (Value.int .i64) ?_, SR1.fin⟩
                          unfold applyV
                          first
                            | rw [if_pos h13]
                            | rw [if_neg h13, if_pos h15]
                            | rw [if_neg h13, if_neg h15, if_pos h17]
                            | rw [if_neg h13, if_neg h15, if_neg h17, if_pos h19]
                            | rw [if_neg h13, if_neg h15, if_neg h17, if_neg h19, if_pos h21]
                            | rw [if_neg h13, if_neg h15, if_neg h17, if_neg h19, if_neg h21, if_pos h23]
                            | rw [if_neg h13, if_neg h15, if_neg h17, if_neg h19, if_neg h21, if_neg h23, if_pos h25]
                            | (rw [if_neg h13, if_neg h15, if_neg h17, if_neg h19, if_neg h21, if_neg h23, if_neg h25, if_pos h27]; simp [h55]; done)
                            | (rw [if_neg h13, if_neg h15, if_neg h17, if_neg h19, if_neg h21, if_neg h23, if_neg h25, if_neg h27, if_pos h29]; first | (simp [h59]; done) | (simp [h59, h62]; done) | (simp [h59, show ¬ a < b by omega]; done))
                            | (rw [if_neg h13, if_neg h15, if_neg h17, if_neg h19, if_neg h21, if_neg h23, if_neg h25, if_neg h27, if_neg h29, if_pos h31]; first | (simp [h62]; done) | (simp [show ¬ a < b by omega]; done))
                            | (rw [if_neg h13, if_neg h15, if_neg h17, if_neg h19, if_neg h21, if_neg h23, if_neg h25, if_neg h27, if_neg h29, if_neg h31, if_pos h33]; simp [h65]; done)
                            | rw [if_neg h13, if_neg h15, if_neg h17, if_neg h19, if_neg h21, if_neg h23, if_neg h25, if_neg h27, if_neg h29, if_neg h31, if_neg h33]
                        · refine WL_nil ?_
                          refine W_else rfl ?_
                          refine W_skip ?_
                          refine W_seq ?_
                          refine W_region ?_
                          refine o_indexArr art_72 rfl rfl (by omega) (by omega) rfl ?_
                          refine o_load one_3 rfl (by first | exact SR1.cell 0 rfl rfl) rfl ?_
                          first | refine o_assign (v := .int .i64 _) rfl rfl ?_ | refine o_assign (by conv => lhs; whnf) rfl ?_
                          refine WL_nil ?_
                          refine W_ret ?_
                          refine ret_1 rfl (by conv => lhs; whnf) ?_
                          refine ⟨congrArg (Value.int .i64) ?_, SR1.fin⟩
                          unfold applyV
                          first
                            | rw [if_pos h13]
                            | rw [if_neg h13, if_pos h15]
                            | rw [if_neg h13, if_neg h15, if_pos h17]
                            | rw [if_neg h13, if_neg h15, if_neg h17, if_pos h19]
                            | rw [if_neg h13, if_neg h15, if_neg h17, if_neg h19, if_pos h21]
                            | rw [if_neg h13, if_neg h15, if_neg h17, if_neg h19, if_neg h21, if_pos h23]
                            | rw [if_neg h13, if_neg h15, if_neg h17, if_neg h19, if_neg h21, if_neg h23, if_pos h25]
                            | (rw [if_neg h13, if_neg h15, if_neg h17, if_neg h19, if_neg h21, if_neg h23, if_neg h25, if_pos h27]; simp [h55]; done)
                            | (rw [if_neg h13, if_neg h15, if_neg h17, if_neg h19, if_neg h21, if_neg h23, if_neg h25, if_neg h27, if_pos h29]; first | (simp [h59]; done) | (simp [h59, h62]; done) | (simp [h59, show ¬ a < b by omega]; done))
                            | (rw [if_neg h13, if_neg h15, if_neg h17, if_neg h19, if_neg h21, if_neg h23, if_neg h25, if_neg h27, if_neg h29, if_pos h31]; first | (simp [h62]; done) | (simp [show ¬ a < b by omega]; done))
                            | (rw [if_neg h13, if_neg h15, if_neg h17, if_neg h19, if_neg h21, if_neg h23, if_neg h25, if_neg h27, if_neg h29, if_neg h31, if_pos h33]; simp [h65]; done)
                            | rw [if_neg h13, if_neg h15, if_neg h17, if_neg h19, if_neg h21, if_neg h23, if_neg h25, if_neg h27, if_neg h29, if_neg h31, if_neg h33]
                      · first | refine o_assign (v := .bool _) rfl rfl ?_ | refine o_assign (by conv => lhs; whnf) rfl ?_
                        refine WL_nil ?_
                        refine W_else rfl ?_
                        refine W_skip ?_
                        refine W_exit ?_
                        refine bcons_far rfl ?_
                        refine bcons_far rfl ?_
                        refine bcons_far rfl ?_
                        refine bcons_far rfl ?_
                        refine bcons_far rfl ?_
                        refine bcons_far rfl ?_
                        refine bcons_far rfl ?_
                        refine bcons_far rfl ?_
                        refine bcons_far rfl ?_
                        refine bcons_far rfl ?_
                        refine bcons_far rfl ?_
                        refine bcons_here ?_
                        refine W_seq ?_
                        refine W_region ?_
                        first | refine o_assign (v := .int .i64 _) rfl rfl ?_ | refine o_assign (by conv => lhs; whnf) rfl ?_
                        refine WL_nil ?_
                        refine W_ret ?_
                        refine ret_1 rfl (by conv => lhs; whnf) ?_
                        refine ⟨congrArg (Value.int .i64) ?_, SR1.fin⟩
                        unfold applyV
                        first
                          | rw [if_pos h13]
                          | rw [if_neg h13, if_pos h15]
                          | rw [if_neg h13, if_neg h15, if_pos h17]
                          | rw [if_neg h13, if_neg h15, if_neg h17, if_pos h19]
                          | rw [if_neg h13, if_neg h15, if_neg h17, if_neg h19, if_pos h21]
                          | rw [if_neg h13, if_neg h15, if_neg h17, if_neg h19, if_neg h21, if_pos h23]
                          | rw [if_neg h13, if_neg h15, if_neg h17, if_neg h19, if_neg h21, if_neg h23, if_pos h25]
                          | (rw [if_neg h13, if_neg h15, if_neg h17, if_neg h19, if_neg h21, if_neg h23, if_neg h25, if_pos h27]; simp [h55]; done)
                          | (rw [if_neg h13, if_neg h15, if_neg h17, if_neg h19, if_neg h21, if_neg h23, if_neg h25, if_neg h27, if_pos h29]; first | (simp [h59]; done) | (simp [h59, h62]; done) | (simp [h59, show ¬ a < b by omega]; done))
                          | (rw [if_neg h13, if_neg h15, if_neg h17, if_neg h19, if_neg h21, if_neg h23, if_neg h25, if_neg h27, if_neg h29, if_pos h31]; first | (simp [h62]; done) | (simp [show ¬ a < b by omega]; done))
                          | (rw [if_neg h13, if_neg h15, if_neg h17, if_neg h19, if_neg h21, if_neg h23, if_neg h25, if_neg h27, if_neg h29, if_neg h31, if_pos h33]; simp [h65]; done)
                          | rw [if_neg h13, if_neg h15, if_neg h17, if_neg h19, if_neg h21, if_neg h23, if_neg h25, if_neg h27, if_neg h29, if_neg h31, if_neg h33]

theorem value_fn : ∀ (e : E) (M : List Nat) (w0 : World) (b o : Nat) (vo vn : Value) (old now : List Int) (lim : Int), RdP M w0 e b o → Masks M w0 → RdI M w0 vo old → RdI M w0 vn now → e.good lim = true →
    Does Tryd.prog 31 #[.pointer (some ⟨b, o, none⟩), vo, vn] w0 fun v w' => v = .int .i64 (e.val old now) ∧ Below w0.heap.size w0 w' := by
  intro e
  induction e using E.induct with
  | _ e ih =>
  intro M w0 b o vo vn old now lim hR hK hO hN hg
  obtain ⟨hbM, o1, o2, o3, c0, c1, c2, A, n, c, c3, hn, hc, hm, hbig, hks, hRE⟩ := hR.open_
  obtain ⟨Ao, no, co, rfl⟩ := hO.form
  obtain ⟨An, nn, cn, rfl⟩ := hN.form
  rw [E.good_def] at hg
  simp only [Bool.and_eq_true] at hg
  have hsh : e.Shape := of_decide_eq_true hg.1.2
  have hkg : ∀ k ∈ e.kids, k.good (lim - 1) = true := (E.goods_iff _ _).1 hg.2
  clear hg
  have hov : (e.op = 3 ∨ e.op = 2) → 0 ≤ e.n ∧ e.n < 32 := fun h => by
    have := (Shape_2 (by omega)).1 hsh; omega
  have har := Shape_ar hsh
  have har2 := arityL_spec e.op
  have S := St.refl w0
  have hval := E.val_def old now e
  refine Does_enter Tryd.func31 rfl Tryd.ntmps31 rfl ?_
  refine W_seq ?_
  refine W_region ?_
  first | refine o_assign (v := .int .i64 _) rfl rfl ?_ | refine o_assign (by conv => lhs; whnf) rfl ?_
  refine WL_nil ?_
  refine W_seq ?_
  refine W_seq ?_
  refine W_region ?_
  first | refine o_move (v := .pointer _) rfl rfl ?_ | refine o_move (by conv => lhs; whnf) rfl ?_
  refine o_nilCheck rfl rfl ?_
  refine o_fieldAddr fa_25_0 rfl rfl ?_
  refine o_load one_3 rfl (by first | exact S.old c0 | exact S.old c1 | exact S.old c2 | exact S.old c3 | exact S.old (hK.at (by omega) (by omega))) rfl ?_
  refine WL_nil ?_
  refine W_block ?_
  refine W_seq ?_
  refine W_region ?_
  refine o_eql rfl rfl rfl (fun h14 => ?_) (fun h14 => ?_)
  · first | refine o_assign (v := .bool _) rfl rfl ?_ | refine o_assign (by conv => lhs; whnf) rfl ?_
    refine WL_nil ?_
    refine W_then rfl ?_
    refine W_seq ?_
    refine W_region ?_
    first | refine o_move (v := .pointer _) rfl rfl ?_ | refine o_move (by conv => lhs; whnf) rfl ?_
    refine o_nilCheck rfl rfl ?_
    refine o_fieldAddr fa_25_2 rfl rfl ?_
    refine o_load one_3 rfl (by first | exact S.old c0 | exact S.old c1 | exact S.old c2 | exact S.old c3 | exact S.old (hK.at (by omega) (by omega))) rfl ?_
    first | refine o_assign (v := .int .i64 _) rfl rfl ?_ | refine o_assign (by conv => lhs; whnf) rfl ?_
    refine WL_nil ?_
    refine W_ret ?_
    refine ret_1 rfl (by conv => lhs; whnf) ?_
    refine ⟨congrArg (Value.int .i64) ?_, S.fin⟩
    rw [hval]
    first
      | rw [if_pos h14]
      | rw [if_neg h14, if_pos h20]
      | rw [if_neg h14, if_neg h20, if_pos h35]
      | (obtain rfl : k = e.kids.length := by omega
         rw [if_neg h14, if_neg h20, if_neg h35]
         have h3 : (e.kids.map (E.val old now)).take e.kids.length = e.kids.map (E.val old now) := List.take_of_length_le (by simp)
         rw [h3])
  · first | refine o_assign (v := .bool _) rfl rfl ?_ | refine o_assign (by conv => lhs; whnf) rfl ?_
    refine WL_nil ?_
    refine W_else rfl ?_
    refine W_seq ?_
    refine W_region ?_
    refine o_eql rfl rfl rfl (fun h20 => ?_) (fun h20 => ?_)
    · first | refine o_assign (v := .bool _) rfl rfl ?_ | refine o_assign (by conv => lhs; whnf) rfl ?_
      refine WL_nil ?_
      refine W_then rfl ?_
      refine W_seq ?_
      refine W_draw follows_mixed [0, 1, 2, 3, 4, 5, 6, 7, 8, 9, 10, 11, 12, 13] [] [] (by kernel_rfl) rfl (Cl _ _ _ _) (Cl.start S) ?_
      first | refine q_move (v := .slice _ _ _) rfl rfl ?_ | refine q_move (by conv => lhs; whnf) rfl ?_
      first | refine q_move (v := .pointer _) rfl rfl ?_ | refine q_move (by conv => lhs; whnf) rfl ?_
      refine q_nilCheck rfl rfl ?_
      refine q_fieldAddr fa_25_2 rfl rfl ?_
      refine q_load one_3 rfl (fun w1 hw => by first | exact hw.1.old c0 | exact hw.1.old c1 | exact hw.1.old c2 | exact hw.1.old c3 | exact hw.1.old (hK.at (by omega) (by omega))) rfl ?_
      refine q_callr has_46 rfl rfl (fun w1 S1 X1 => element_fn M _ _ _ _ (RdS.keep (by assumption) (S1.keep0 M)) (by omega)) ?_
      first | refine q_move (v := .pointer _) rfl rfl ?_ | refine q_move (by conv => lhs; whnf) rfl ?_
      refine q_nilCheck rfl rfl ?_
      refine q_fieldAddr fa_25_1 rfl rfl ?_
      refine q_load one_3 rfl (fun w1 hw => by first | exact hw.1.old c0 | exact hw.1.old c1 | exact hw.1.old c2 | exact hw.1.old c3 | exact hw.1.old (hK.at (by omega) (by omega))) rfl ?_
      refine q_indexArr art_71 rfl rfl (by omega) (by omega) rfl ?_
      refine q_load one_3 rfl (fun w1 hw => by first | exact hw.1.old c0 | exact hw.1.old c1 | exact hw.1.old c2 | exact hw.1.old c3 | exact hw.1.old (hK.at (by omega) (by omega))) rfl ?_
      refine q_and rfl rfl rfl ?_
      first | refine q_assign (v := .int .i64 _) rfl rfl ?_ | refine q_assign (by conv => lhs; whnf) rfl ?_
      refine QL_nil ?_
      refine BK_of ?_
      refine BKL_nil ?_
      rintro wR5 ⟨SR5, XR5⟩
      refine WL_nil ?_
      refine W_ret ?_
      refine ret_1 rfl (by conv => lhs; whnf) ?_
      refine ⟨congrArg (Value.int .i64) ?_, SR5.fin⟩
      rw [hval]
      first
        | rw [if_pos h14]
        | rw [if_neg h14, if_pos h20]
        | rw [if_neg h14, if_neg h20, if_pos h35]
        | (obtain rfl : k = e.kids.length := by omega
           rw [if_neg h14, if_neg h20, if_neg h35]
           have h3 : (e.kids.map (E.val old now)).take e.kids.length = e.kids.map (E.val old now) := List.take_of_length_le (by simp)
           rw [h3])
    · first | refine o_assign (v := .bool _) rfl rfl ?_ | refine o_assign (by conv => lhs; whnf) rfl ?_
      refine WL_nil ?_
      refine W_else rfl ?_
      refine W_seq ?_
      refine W_region ?_
      refine o_eql rfl rfl rfl (fun h35 => ?_) (fun h35 => ?_)
      · first | refine o_assign (v := .bool _) rfl rfl ?_ | refine o_assign (by conv => lhs; whnf) rfl ?_
        refine WL_nil ?_
        refine W_then rfl ?_
        refine W_seq ?_
        refine W_draw follows_mixed [0, 1, 2, 3, 4, 5, 6, 7, 8, 9, 10, 11, 12, 13] [] [] (by kernel_rfl) rfl (Cl _ _ _ _) (Cl.start S) ?_
        first | refine q_move (v := .slice _ _ _) rfl rfl ?_ | refine q_move (by conv => lhs; whnf) rfl ?_
        first | refine q_move (v := .pointer _) rfl rfl ?_ | refine q_move (by conv => lhs; whnf) rfl ?_
        refine q_nilCheck rfl rfl ?_
        refine q_fieldAddr fa_25_2 rfl rfl ?_
        refine q_load one_3 rfl (fun w1 hw => by first | exact hw.1.old c0 | exact hw.1.old c1 | exact hw.1.old c2 | exact hw.1.old c3 | exact hw.1.old (hK.at (by omega) (by omega))) rfl ?_
        refine q_callr has_46 rfl rfl (fun w1 S1 X1 => element_fn M _ _ _ _ (RdS.keep (by assumption) (S1.keep0 M)) (by omega)) ?_
        first | refine q_move (v := .pointer _) rfl rfl ?_ | refine q_move (by conv => lhs; whnf) rfl ?_
        refine q_nilCheck rfl rfl ?_
        refine q_fieldAddr fa_25_1 rfl rfl ?_
        refine q_load one_3 rfl (fun w1 hw => by first | exact hw.1.old c0 | exact hw.1.old c1 | exact hw.1.old c2 | exact hw.1.old c3 | exact hw.1.old (hK.at (by omega) (by omega))) rfl ?_
        refine q_indexArr art_71 rfl rfl (by omega) (by omega) rfl ?_
        refine q_load one_3 rfl (fun w1 hw => by first | exact hw.1.old c0 | exact hw.1.old c1 | exact hw.1.old c2 | exact hw.1.old c3 | exact hw.1.old (hK.at (by omega) (by omega))) rfl ?_
        refine q_and rfl rfl rfl ?_
        first | refine q_assign (v := .int .i64 _) rfl rfl ?_ | refine q_assign (by conv => lhs; whnf) rfl ?_
        refine QL_nil ?_
        refine BK_of ?_
        refine BKL_nil ?_
        rintro wR7 ⟨SR7, XR7⟩
        refine WL_nil ?_
        refine W_ret ?_
        refine ret_1 rfl (by conv => lhs; whnf) ?_
        refine ⟨congrArg (Value.int .i64) ?_, SR7.fin⟩
        rw [hval]
        first
          | rw [if_pos h14]
          | rw [if_neg h14, if_pos h20]
          | rw [if_neg h14, if_neg h20, if_pos h35]
          | (obtain rfl : k = e.kids.length := by omega
             rw [if_neg h14, if_neg h20, if_neg h35]
             have h3 : (e.kids.map (E.val old now)).take e.kids.length = e.kids.map (E.val old now) := List.take_of_length_le (by simp)
             rw [h3])
      · first | refine o_assign (v := .bool _) rfl rfl ?_ | refine o_assign (by conv => lhs; whnf) rfl ?_
        refine WL_nil ?_
        refine W_else rfl ?_
        refine W_skip ?_
        refine W_seq ?_
        refine W_region ?_
        refine o_alloc S zv_72 rfl rfl ?_
        intro g7 w7 S7 X7 G7
        refine WL_nil ?_
        refine W_seq ?_
        refine W_seq ?_
        refine W_region ?_
        first | refine o_move (v := .pointer _) rfl rfl ?_ | refine o_move (by conv => lhs; whnf) rfl ?_
        refine o_nilCheck rfl rfl ?_
        refine o_fieldAddr fa_25_3 rfl rfl ?_
        refine o_load one_23 rfl (by first | exact S7.cell 0 rfl rfl | exact S7.old c0 | exact S7.old c1 | exact S7.old c2 | exact S7.old c3 | exact S7.old (hK.at (by omega) (by omega))) rfl ?_
        refine o_len slz_23.slT rfl rfl ?_
        first | refine o_move (v := .int .i64 _) rfl rfl ?_ | refine o_move (by conv => lhs; whnf) rfl ?_
        refine WL_nil ?_
        refine W_block ?_
        refine W_loop (fun μ D ε w => D = [] ∧ ∃ k : Nat, (k + μ = e.kids.length) ∧ St [] w0 w [(some g7, 72, arr3 (e.kids.map (E.val old now)) k)] ∧ ε 0 = .pointer (some ⟨b, o, none⟩) ∧ ε 1 = .slice Ao no co ∧ ε 2 = .slice An nn cn ∧ ε 7 = .pointer (some ⟨g7, 0, none⟩) ∧ ε 53 = .int .i64 n ∧ ε 54 = .int .i64 k) (μ := e.kids.length) ⟨rfl, 0, by omega, by exact S7, rfl, rfl, rfl, rfl, rfl, rfl⟩ ?_
        rintro μ D ε w ⟨rfl, k, hk, S, e0, e1, e2, e7, e53, e54⟩
        refine W_known 0 e0 ?_
        refine W_known 1 e1 ?_
        refine W_known 2 e2 ?_
        refine W_known 7 e7 ?_
        refine W_known 53 e53 ?_
        refine W_known 54 e54 ?_
        clear e0 e1 e2 e7 e53 e54
        refine W_seq ?_
        refine W_region ?_
        refine o_lss rfl rfl rfl (fun h55 => ?_) (fun h55 => ?_)
        · refine WL_nil ?_
          refine W_seq ?_
          refine W_then rfl ?_
          refine W_skip ?_
          refine W_seq ?_
          refine W_block ?_
          refine W_seq ?_
          refine W_region ?_
          first | refine o_move (v := .int .i64 _) rfl rfl ?_ | refine o_move (by conv => lhs; whnf) rfl ?_
          first | refine o_assign (v := .int .i64 _) rfl rfl ?_ | refine o_assign (by conv => lhs; whnf) rfl ?_
          refine WL_nil ?_
          refine W_region ?_
          first | refine o_move (v := .int .i64 _) rfl rfl ?_ | refine o_move (by conv => lhs; whnf) rfl ?_
          first | refine o_move (v := .pointer _) rfl rfl ?_ | refine o_move (by conv => lhs; whnf) rfl ?_
          refine o_nilCheck rfl rfl ?_
          refine o_fieldAddr fa_25_3 rfl rfl ?_
          refine o_load one_23 rfl (by first | exact S.cell 0 rfl rfl | exact S.old c0 | exact S.old c1 | exact S.old c2 | exact S.old c3 | exact S.old (hK.at (by omega) (by omega))) rfl ?_
          first | refine o_move (v := .int .i64 _) rfl rfl ?_ | refine o_move (by conv => lhs; whnf) rfl ?_
          have hlt : k < e.kids.length := by omega
          obtain ⟨bk, ok, hA, hbkM, hkk⟩ := hks (by omega)
          refine o_indexAddr slz_23.slT rfl (by first | rfl | assumption) rfl (by omega) (by omega) rfl ?_
          first | refine o_move (v := .slice _ _ _) rfl rfl ?_ | refine o_move (by conv => lhs; whnf) rfl ?_
          first | refine o_move (v := .slice _ _ _) rfl rfl ?_ | refine o_move (by conv => lhs; whnf) rfl ?_
          refine o_callr S has_31 rfl rfl (ih _ (List.getElem_mem hlt) M _ bk (ok + k * 4) _ _ old now _ ((RdP.kid hbkM hkk k hlt).keep (S.keep0 M)) (hK.keep (S.keep0 M)) (hO.keep (S.keep0 M)) (hN.keep (S.keep0 M)) (hkg _ (List.getElem_mem hlt))) ?_
          intro w66 S66 X66
          refine o_indexArr art_72 rfl rfl (by omega) (by omega) rfl ?_
          first | refine o_store (kk := 0) S66 sz_3 rfl (by conv => lhs; whnf) rfl rfl (by first | exact Nat.le_of_ble_eq_true rfl | (simp; omega)) ?_
          intro w12_11 S12_11 X12_11
          refine WL_nil ?_
          refine W_region ?_
          refine o_add rfl rfl (by unfold i64; omega) rfl ?_
          first | refine o_move (v := .int .i64 _) rfl rfl ?_ | refine o_move (by conv => lhs; whnf) rfl ?_
          refine WL_nil ?_
          refine ⟨μ - 1, by omega, rfl, k + 1, by omega, ?_, rfl, rfl, rfl, rfl, rfl, rfl⟩
          have h3 : (e.kids.map (E.val old now)).length ≤ 3 := by rw [List.length_map]; omega
          have hx := arr3_set (e.kids.map (E.val old now)) k h3 (by simpa using hlt)
          rw [← hx]
          simpa [hlt] using S12_11
        · refine WL_nil ?_
          refine W_seq ?_
          refine W_else rfl ?_
          refine W_exit ?_
          refine bcons_here ?_
          refine W_seq ?_
          refine W_draw follows_mixed [0, 1, 2, 3, 4, 5, 6, 7, 8, 9, 10, 11, 12, 13] [] [] (by kernel_rfl) rfl (Cl _ _ _ _) (Cl.start S) ?_
          first | refine q_move (v := .pointer _) rfl rfl ?_ | refine q_move (by conv => lhs; whnf) rfl ?_
          refine q_nilCheck rfl rfl ?_
          refine q_fieldAddr fa_25_0 rfl rfl ?_
          refine q_load one_3 rfl (fun w1 hw => by first | exact hw.1.cell 0 rfl rfl | exact hw.1.old c0 | exact hw.1.old c1 | exact hw.1.old c2 | exact hw.1.old c3 | exact hw.1.old (hK.at (by omega) (by omega))) rfl ?_
          first | refine q_loadN many_72 rfl (fun w1 hw => hw.1.cells 0 rfl) rfl rfl ?_
          refine q_callr has_47 rfl rfl (fun w1 S1 X1 => apply_fn _ _ _ _ _) ?_
          first | refine q_move (v := .pointer _) rfl rfl ?_ | refine q_move (by conv => lhs; whnf) rfl ?_
          refine q_nilCheck rfl rfl ?_
          refine q_fieldAddr fa_25_1 rfl rfl ?_
          refine q_load one_3 rfl (fun w1 hw => by first | exact hw.1.cell 0 rfl rfl | exact hw.1.old c0 | exact hw.1.old c1 | exact hw.1.old c2 | exact hw.1.old c3 | exact hw.1.old (hK.at (by omega) (by omega))) rfl ?_
          refine q_indexArr art_71 rfl rfl (by omega) (by omega) rfl ?_
          refine q_load one_3 rfl (fun w1 hw => by first | exact hw.1.cell 0 rfl rfl | exact hw.1.old c0 | exact hw.1.old c1 | exact hw.1.old c2 | exact hw.1.old c3 | exact hw.1.old (hK.at (by omega) (by omega))) rfl ?_
          refine q_and rfl rfl rfl ?_
          first | refine q_assign (v := .int .i64 _) rfl rfl ?_ | refine q_assign (by conv => lhs; whnf) rfl ?_
          refine QL_nil ?_
          refine BK_of ?_
          refine BKL_nil ?_
          rintro wR14 ⟨SR14, XR14⟩
          refine WL_nil ?_
          refine W_ret ?_
          refine ret_1 rfl (by conv => lhs; whnf) ?_
          refine ⟨congrArg (Value.int .i64) ?_, SR14.fin⟩
          rw [hval]
          first
            | rw [if_pos h14]
            | rw [if_neg h14, if_pos h20]
            | rw [if_neg h14, if_neg h20, if_pos h35]
            | (obtain rfl : k = e.kids.length := by omega
               rw [if_neg h14, if_neg h20, if_neg h35]
               have h3 : (e.kids.map (E.val old now)).take e.kids.length = e.kids.map (E.val old now) := List.take_of_length_le (by simp)
               rw [h3])

theorem eval_fn (e : E) (M : List Nat) (w0 : World) (cs : List Value) (vo vn : Value) (old now : List Int) (hR : RdE M w0 e cs) (hK : Masks M w0) (hO : RdI M w0 vo old) (hN : RdI M w0 vn now) :
    Does Tryd.prog 10 #[.agg cs.toArray, vo, vn] w0 fun v w' => v = .int .i64 (e.evl old now) ∧ Below w0.heap.size w0 w' := by
  obtain ⟨A, n, c, rfl, o1, o2, o3, hn, hc, hm, hbig, hks⟩ := hR.open_
  obtain ⟨Ao, no, co, rfl⟩ := hO.form
  obtain ⟨An, nn, cn, rfl⟩ := hN.form
  have S := St.refl w0
  refine Does_enter Tryd.func10 rfl Tryd.ntmps10 rfl ?_
  refine W_seq ?_
  refine W_region ?_
  refine o_boxa S (by conv => lhs; whnf) rfl ?_
  intro g3 w3 S3 X3 G3
  first | refine o_assign (v := .int .i64 _) rfl rfl ?_ | refine o_assign (by conv => lhs; whnf) rfl ?_
  refine WL_nil ?_
  refine W_seq ?_
  refine W_seq ?_
  refine W_region ?_
  first | refine o_loadN many_25 rfl (S3.cells 0 rfl) rfl rfl ?_
  refine o_callb S3 has_30 rfl rfl (wellFormed_fn e M _ _ (RdE.keep (S3.keep0 M) _ _ hR) (hK.keep (S3.keep0 M))) (fun h8 w8 S8 X8 => ?_) (fun h8 w8 S8 X8 => ?_)
  · refine o_not rfl rfl ?_
    refine WL_nil ?_
    refine W_else rfl ?_
    refine W_skip ?_
    refine W_seq ?_
    refine W_region ?_
    first | refine o_move (v := .slice _ _ _) rfl rfl ?_ | refine o_move (by conv => lhs; whnf) rfl ?_
    first | refine o_move (v := .slice _ _ _) rfl rfl ?_ | refine o_move (by conv => lhs; whnf) rfl ?_
    refine o_callr S8 has_31 rfl rfl (value_fn e [] _ g3 0 _ _ old now 40 ⟨by simp, _, S8.cells 0 rfl, RdE.less (by simp) _ _ (RdE.keep (S8.keep0 M) _ _ hR)⟩ ((hK.keep (S8.keep0 M)).more (by simp)) ((hO.keep (S8.keep0 M)).less (by simp)) ((hN.keep (S8.keep0 M)).less (by simp)) (by unfold E.wf at h8; simp only [Bool.and_eq_true] at h8; exact h8.2)) ?_
    intro w12 S12 X12
    first | refine o_assign (v := .int .i64 _) rfl rfl ?_ | refine o_assign (by conv => lhs; whnf) rfl ?_
    refine WL_nil ?_
    refine W_ret ?_
    refine ret_1 rfl (by conv => lhs; whnf) ?_
    refine ⟨congrArg (Value.int .i64) ?_, S12.fin⟩
    unfold E.evl
    simp [h8]
  · refine o_not rfl rfl ?_
    refine WL_nil ?_
    refine W_then rfl ?_
    refine W_seq ?_
    refine W_region ?_
    first | refine o_assign (v := .int .i64 _) rfl rfl ?_ | refine o_assign (by conv => lhs; whnf) rfl ?_
    refine WL_nil ?_
    refine W_ret ?_
    refine ret_1 rfl (by conv => lhs; whnf) ?_
    refine ⟨congrArg (Value.int .i64) ?_, S8.fin⟩
    unfold E.evl
    simp [h8]
end Go.Proofs.YtinhchacppkmgaaDoor
