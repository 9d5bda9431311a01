/-
  Contracts of packages relyguardref06 and relyguardref20: validity, supports.
-/
import Derived.Test.YtinhchacppkmgaaDoorR06
namespace Go.Fw
open Go.RowKit

def RBool (cs : List Value) (x : Bool) : Prop := cs = [.bool x]
abbrev RdB (M : List Nat) (w : World) (v : Value) (l : List Bool) : Prop := RdS M w 1 RBool v l

/-- The indices below k of the elements that are true. -/
def markedTo (bs : List Bool) (k : Nat) : List Int := ((List.range k).filter fun i => bs.getD i false).map fun (i : Nat) => (i : Int)
def markedL (bs : List Bool) : List Int := markedTo bs bs.length
theorem markedTo_succ (bs : List Bool) (k : Nat) : markedTo bs (k + 1) = markedTo bs k ++ (if bs.getD k false = true then [(k : Int)] else []) := by
  unfold markedTo
  rw [List.range_succ, List.filter_append, List.map_append]
  congr 1
  rw [List.filter_cons]
  split <;> rfl
theorem markedTo_len (bs : List Bool) (k : Nat) : (markedTo bs k).length ≤ k := by
  unfold markedTo
  rw [List.length_map]
  exact Nat.le_trans (List.length_filter_le _ _) (by simp)
theorem markedTo_mem (bs : List Bool) (k : Nat) (x : Int) : x ∈ markedTo bs k ↔ ∃ i : Nat, x = i ∧ i < k ∧ bs.getD i false = true := by
  unfold markedTo
  simp only [List.mem_map, List.mem_filter, List.mem_range]
  constructor
  · rintro ⟨i, ⟨h1, h2⟩, rfl⟩; exact ⟨i, rfl, h1, h2⟩
  · rintro ⟨i, rfl, h1, h2⟩; exact ⟨i, ⟨h1, h2⟩, rfl⟩

mutual
/-- The cells that occur under 'op', marked. -/
def E.mark (op : Int) : E → List Bool → List Bool
  | ⟨o, _, n, ks⟩, bs => E.markAll op ks (if o = op then bs.set n.toNat true else bs)
def E.markAll (op : Int) : List E → List Bool → List Bool
  | [], bs => bs
  | k :: ks, bs => E.markAll op ks (E.mark op k bs)
end
theorem E.mark_def (op : Int) (e : E) (bs : List Bool) : e.mark op bs = E.markAll op e.kids (if e.op = op then bs.set e.n.toNat true else bs) := by cases e; simp only [E.mark]

theorem E.mark_len (op : Int) : ∀ (e : E) (bs : List Bool), (e.mark op bs).length = bs.length := by
  intro e
  induction e using E.induct with
  | _ e ih =>
    intro bs
    have key : ∀ (ks : List E), (∀ k ∈ ks, ∀ bs : List Bool, (k.mark op bs).length = bs.length) → ∀ bs : List Bool, (E.markAll op ks bs).length = bs.length := by
      intro ks
      induction ks with
      | nil => intro _ bs; simp only [E.markAll]
      | cons k ks ih2 => intro h bs; simp only [E.markAll]; rw [ih2 (fun k' hk' => h k' (by simp [hk'])), h k (by simp)]
    rw [E.mark_def, key _ ih]
    split <;> simp

/-- The old and the new support of an expression. -/
def E.sup (op : Int) (e : E) : List Int := if e.wf then markedL (e.mark op (List.replicate 32 false)) else []
end Go.Fw
namespace Go.Proofs.YtinhchacppkmgaaDoor
open Go.Fw Go.RowKit

theorem valid_fn (e : E) (M : List Nat) (w0 : World) (cs : List Value) (vc : Value) (cells : List CellD) (pair : Bool) (hR : RdE M w0 e cs) (hC : RdCs M w0 vc cells) :
    Does Tryd.prog 33 #[.agg cs.toArray, vc, .bool pair] w0 fun v w' => v = .bool (e.valid cells pair) ∧ Below w0.heap.size w0 w' := by
  obtain ⟨A, n, c, rfl, o1, o2, o3, hn, hc, hm, hbig, hks⟩ := hR.open_
  obtain ⟨Ac, nc, cc, rfl⟩ := hC.form
  have S := St.refl w0
  refine Does_enter Tryd.func33 rfl Tryd.ntmps33 rfl ?_
  refine W_seq ?_
  refine W_region ?_
  refine o_boxa S (by conv => lhs; whnf) rfl ?_
  intro g3 w3 S3 X3 G3
  first | refine o_assign (v := .bool _) rfl rfl ?_ | refine o_assign (by conv => lhs; whnf) rfl ?_
  refine WL_nil ?_
  refine W_seq ?_
  refine W_region ?_
  first | refine o_loadN many_25 rfl (S3.cells 0 rfl) rfl rfl ?_
  refine o_callb S3 has_48 rfl rfl (formed_fn _ M _ _ (RdE.keep (S3.keep0 M) _ _ hR)) (fun h8 w8 S8 X8 => ?_) (fun h8 w8 S8 X8 => ?_)
  · first | refine o_move (v := .bool _) rfl rfl ?_ | refine o_move (by conv => lhs; whnf) rfl ?_
    refine WL_on rfl rfl rfl ?_
    first | refine o_loadN many_25 rfl (S8.cells 0 rfl) rfl rfl ?_
    refine WL_on rfl rfl rfl ?_
    first | refine o_move (v := .slice _ _ _) rfl rfl ?_ | refine o_move (by conv => lhs; whnf) rfl ?_
    refine WL_on rfl rfl rfl ?_
    first | refine o_move (v := .bool _) rfl rfl ?_ | refine o_move (by conv => lhs; whnf) rfl ?_
    refine WL_on rfl rfl rfl ?_
    refine o_callb S8 has_49 rfl rfl (over_fn _ M _ _ _ cells pair 40 (RdE.keep (S8.keep0 M) _ _ hR) (hC.keep (S8.keep0 M)) (by unfold E.wf at h8; simp only [Bool.and_eq_true] at h8; exact h8.2)) (fun h13 w13 S13 X13 => ?_) (fun h13 w13 S13 X13 => ?_)
    · first | refine o_pick rfl (v := .bool _) rfl rfl ?_ | refine o_pick rfl (by conv => lhs; whnf) rfl ?_
      first | refine o_assign (v := .bool _) rfl rfl ?_ | refine o_assign (by conv => lhs; whnf) rfl ?_
      refine WL_nil ?_
      refine W_ret ?_
      refine ret_1 rfl (by conv => lhs; whnf) ?_
      refine ⟨congrArg Value.bool ?_, S13.fin⟩
      unfold E.valid
      first
        | (simp [h8, h13]; done)
        | (simp [h8]; done)
    · first | refine o_pick rfl (v := .bool _) rfl rfl ?_ | refine o_pick rfl (by conv => lhs; whnf) rfl ?_
      first | refine o_assign (v := .bool _) rfl rfl ?_ | refine o_assign (by conv => lhs; whnf) rfl ?_
      refine WL_nil ?_
      refine W_ret ?_
      refine ret_1 rfl (by conv => lhs; whnf) ?_
      refine ⟨congrArg Value.bool ?_, S13.fin⟩
      unfold E.valid
      first
        | (simp [h8, h13]; done)
        | (simp [h8]; done)
  · first | refine o_move (v := .bool _) rfl rfl ?_ | refine o_move (by conv => lhs; whnf) rfl ?_
    refine WL_off rfl rfl rfl rfl ?_
    refine WL_off rfl rfl rfl rfl ?_
    refine WL_off rfl rfl rfl rfl ?_
    refine WL_off rfl rfl rfl rfl ?_
    first | refine o_pick rfl (v := .bool _) rfl rfl ?_ | refine o_pick rfl (by conv => lhs; whnf) rfl ?_
    first | refine o_assign (v := .bool _) rfl rfl ?_ | refine o_assign (by conv => lhs; whnf) rfl ?_
    refine WL_nil ?_
    refine W_ret ?_
    refine ret_1 rfl (by conv => lhs; whnf) ?_
    refine ⟨congrArg Value.bool ?_, S8.fin⟩
    unfold E.valid
    first
      | (simp [h8, h13]; done)
      | (simp [h8]; done)

theorem marked_fn (M : List Nat) (w0 : World) (v : Value) (bs : List Bool) (hR : RdB M w0 v bs) (hM : ∀ g ∈ M, g < w0.heap.size) (hlen : bs.length ≤ 1000) :
    Does Tryd.prog 69 #[v] w0 fun v' w' => RdI M w' v' (markedL bs) ∧ Below w0.heap.size w0 w' := by
  obtain ⟨Ab, nb, cb, rfl⟩ := hR.form
  obtain ⟨hn, hc, hm, hbig, hel⟩ := hR.at
  have S := (St.refl w0).nilEnt 3
  refine Does_enter Tryd.func69 rfl Tryd.ntmps69 rfl ?_
  refine W_seq ?_
  refine W_region ?_
  first | refine o_assign (v := .slice _ _ _) rfl rfl ?_ | refine o_assign (by conv => lhs; whnf) rfl ?_
  refine WL_nil ?_
  refine W_seq ?_
  refine W_region ?_
  first | refine o_assign (v := .slice _ _ _) rfl rfl ?_ | refine o_assign (by conv => lhs; whnf) rfl ?_
  refine WL_nil ?_
  refine W_seq ?_
  refine W_seq ?_
  refine W_region ?_
  first | refine o_assign (v := .int .i64 _) rfl rfl ?_ | refine o_assign (by conv => lhs; whnf) rfl ?_
  refine WL_nil ?_
  refine W_block ?_
  refine W_loop (fun μ D ε w => D = [] ∧ ∃ k : Nat, ∃ G : Option Nat, ∃ cs : List Value, ∃ v : Value, (k + μ = bs.length) ∧ (RowV G 1 (markedTo bs k).length cs v ((markedTo bs k).map (Value.int .i64))) ∧ St [] w0 w [(G, 3, cs)] ∧ ε 0 = .slice Ab nb cb ∧ ε 3 = v ∧ ε 4 = .int .i64 k) (μ := bs.length) ⟨rfl, 0, none, [], _, by omega, RowV.nil 1, S, rfl, rfl, rfl⟩ ?_
  rintro μ D ε w ⟨rfl, k, G, cs, v, hk, hrow, S, e0, e3, e4⟩
  refine W_known 0 e0 ?_
  refine W_known 3 e3 ?_
  refine W_known 4 e4 ?_
  clear e0 e3 e4
  refine W_seq ?_
  refine W_seq ?_
  refine W_region ?_
  first | refine o_move (v := .int .i64 _) rfl rfl ?_ | refine o_move (by conv => lhs; whnf) rfl ?_
  first | refine o_move (v := .slice _ _ _) rfl rfl ?_ | refine o_move (by conv => lhs; whnf) rfl ?_
  refine o_len slz_83.slT rfl rfl ?_
  refine o_lss rfl rfl rfl (fun h8 => ?_) (fun h8 => ?_)
  · refine WL_nil ?_
    refine W_then rfl ?_
    refine W_skip ?_
    refine W_seq ?_
    refine W_block ?_
    refine W_seq ?_
    refine W_region ?_
    have hlt : k < bs.length := by omega
    obtain ⟨b, o, hA, hbM, hee⟩ := hel (by omega)
    obtain ⟨ck, hck1, hck2, hck3⟩ := hee k bs[k] (List.getElem?_eq_getElem hlt)
    have hcb : w0.cell? ⟨b, o + k * 1, none⟩ = some (.bool bs[k]) := hck2 0 _ (by rw [hck3]; rfl)
    have hgd : bs.getD k false = bs[k] := by simp [hlt]
    have hml := markedTo_len bs k
    first | refine o_move (v := .slice _ _ _) rfl rfl ?_ | refine o_move (by conv => lhs; whnf) rfl ?_
    first | refine o_move (v := .int .i64 _) rfl rfl ?_ | refine o_move (by conv => lhs; whnf) rfl ?_
    refine o_indexAddr slz_83.slT rfl (by first | rfl | assumption) rfl (by omega) (by omega) rfl ?_
    cases hb14 : bs[k]
    · refine o_load one_4 rfl (by first | exact S.cell 0 rfl rfl | exact S.old (hcb.trans (by rw [hb14]))) rfl ?_
      refine WL_nil ?_
      refine W_else rfl ?_
      refine W_skip ?_
      refine W_region ?_
      first | refine o_move (v := .int .i64 _) rfl rfl ?_ | refine o_move (by conv => lhs; whnf) rfl ?_
      refine o_add rfl rfl (by unfold i64; omega) rfl ?_
      first | refine o_assign (v := .int .i64 _) rfl rfl ?_ | refine o_assign (by conv => lhs; whnf) rfl ?_
      refine WL_nil ?_
      first
        | (refine ⟨μ - 1, by omega, rfl, k + 1, G18, cs18, v18, by omega, ?_, S18, rfl, rfl, rfl⟩
           rw [markedTo_succ, hgd, hb14]; simpa using hrow18)
        | (refine ⟨μ - 1, by omega, rfl, k + 1, G, cs, v, by omega, ?_, S, rfl, rfl, rfl⟩
           rw [markedTo_succ, hgd, hb14]; simpa using hrow)
    · refine o_load one_4 rfl (by first | exact S.cell 0 rfl rfl | exact S.old (hcb.trans (by rw [hb14]))) rfl ?_
      refine WL_nil ?_
      refine W_then rfl ?_
      refine W_region ?_
      first | refine o_move (v := .slice _ _ _) rfl rfl ?_ | refine o_move (by conv => lhs; whnf) rfl ?_
      first | refine o_move (v := .int .i64 _) rfl rfl ?_ | refine o_move (by conv => lhs; whnf) rfl ?_
      refine o_buildSlice S slz_28 (vs := [.int .i64 _]) (cs := [_]) (by rfl) rfl rfl rfl rfl rfl rfl ?_
      intro g17 w17 S17 X17 G17
      refine o_append (k := 1) S17 slz_28 rfl hrow rfl rfl (S17.cells 0 rfl) rfl (by simp [Value.oneCell']) (by omega) (by omega) rfl ?_
      intro v18 G18 cs18 w18 S18' hrow18 X18
      have S18 := S18'.tail
      first | refine o_assign (v := .slice _ _ _) rfl rfl ?_ | refine o_assign (by conv => lhs; whnf) rfl ?_
      refine WL_nil ?_
      refine W_region ?_
      first | refine o_move (v := .int .i64 _) rfl rfl ?_ | refine o_move (by conv => lhs; whnf) rfl ?_
      refine o_add rfl rfl (by unfold i64; omega) rfl ?_
      first | refine o_assign (v := .int .i64 _) rfl rfl ?_ | refine o_assign (by conv => lhs; whnf) rfl ?_
      refine WL_nil ?_
      first
        | (refine ⟨μ - 1, by omega, rfl, k + 1, G18, cs18, v18, by omega, ?_, S18, rfl, rfl, rfl⟩
           rw [markedTo_succ, hgd, hb14]; simpa using hrow18)
        | (refine ⟨μ - 1, by omega, rfl, k + 1, G, cs, v, by omega, ?_, S, rfl, rfl, rfl⟩
           rw [markedTo_succ, hgd, hb14]; simpa using hrow)
  · refine WL_nil ?_
    refine W_else rfl ?_
    refine W_exit ?_
    refine bcons_here ?_
    refine W_seq ?_
    refine W_region ?_
    first | refine o_move (v := .slice _ _ _) rfl rfl ?_ | refine o_move (by conv => lhs; whnf) rfl ?_
    first | refine o_assign (v := .slice _ _ _) rfl rfl ?_ | refine o_assign (by conv => lhs; whnf) rfl ?_
    refine WL_nil ?_
    refine W_ret ?_
    refine ret_1 rfl (by conv => lhs; whnf) ?_
    obtain rfl : k = bs.length := by omega
    refine ⟨hrow.rdI (k := 0) S rfl hM (fun x hx => ?_) ?_, S.nil.fin⟩
    · obtain ⟨i, rfl, hi, _⟩ := (markedTo_mem _ _ _).1 hx; unfold i64; omega
    · have := markedTo_len bs bs.length; omega

theorem marks_fn : ∀ (e : E) (M : List Nat) (w0 : World) (cs : List Value) (g1 g2 : Nat) (bs1 bs2 : List Bool) (lim : Int), RdE M w0 e cs → e.good lim = true → g1 ∈ M → g2 ∈ M → g1 ≠ g2 → bs1.length = 32 → bs2.length = 32 →
    hasBlk w0 (g1, 4, bs1.map Value.bool) → hasBlk w0 (g2, 4, bs2.map Value.bool) →
    Does Tryd.prog 68 #[.agg cs.toArray, .slice (some ⟨g1, 0, none⟩) 32 32, .slice (some ⟨g2, 0, none⟩) 32 32] w0 fun _ w' =>
      BelowB [g1, g2] w0 w' ∧ hasBlk w' (g1, 4, (e.mark 3 bs1).map Value.bool) ∧ hasBlk w' (g2, 4, (e.mark 2 bs2).map Value.bool) := by
  intro e
  induction e using E.induct with
  | _ e ih =>
  intro M w0 cs g1 g2 bs1 bs2 lim hR hg hM1 hM2 hne hl1 hl2 hb1 hb2
  obtain ⟨A, n, c, rfl, o1, o2, o3, hn, hc, hm, hbig, hks⟩ := hR.open_
  have S := St.borrow2 hb1 hb2 hne
  rw [E.good_def] at hg
  simp only [Bool.and_eq_true] at hg
  have hsh : e.Shape := of_decide_eq_true hg.1.2
  have hkg : ∀ k ∈ e.kids, k.good (lim - 1) = true := (E.goods_iff _ _).1 hg.2
  clear hg
  have hov : (e.op = 3 ∨ e.op = 2) → 0 ≤ e.n ∧ e.n < 32 := fun h => by
    have := (Shape_2 (by omega)).1 hsh; omega
  rw [E.mark_def, E.mark_def]
  have hsub : ∀ g ∈ [g1, g2], g ∈ M := fun g hg => by simp at hg; rcases hg with rfl | rfl <;> assumption
  refine Does_enter Tryd.func68 rfl Tryd.ntmps68 rfl ?_
  refine W_seq ?_
  refine W_region ?_
  refine o_boxa S (by conv => lhs; whnf) rfl ?_
  intro g3 w3 S3 X3 G3
  refine WL_nil ?_
  refine W_seq ?_
  refine W_seq ?_
  refine W_region ?_
  refine o_fieldAddr fa_25_0 rfl rfl ?_
  refine o_load one_3 rfl (by first | exact S3.cell 0 rfl rfl | exact S3.cell 1 rfl rfl | exact S3.cell 2 rfl rfl) rfl ?_
  refine o_eql rfl rfl rfl (fun h9 => ?_) (fun h9 => ?_)
  · refine WL_nil ?_
    refine W_then rfl ?_
    refine W_region ?_
    first | refine o_move (v := .slice _ _ _) rfl rfl ?_ | refine o_move (by conv => lhs; whnf) rfl ?_
    refine o_fieldAddr fa_25_2 rfl rfl ?_
    refine o_load one_3 rfl (by first | exact S3.cell 0 rfl rfl | exact S3.cell 1 rfl rfl | exact S3.cell 2 rfl rfl) rfl ?_
    refine o_indexAddr slz_83.slT rfl (by first | rfl | assumption) rfl (by omega) (by omega) rfl ?_
    first | refine o_store (kk := 0) S3 sz_4 rfl (by conv => lhs; whnf) rfl rfl (by first | exact Nat.le_of_ble_eq_true rfl | (simp; omega)) ?_ | refine o_store (kk := 1) S3 sz_4 rfl (by conv => lhs; whnf) rfl rfl (by first | exact Nat.le_of_ble_eq_true rfl | (simp; omega)) ?_ | refine o_store (kk := 2) S3 sz_4 rfl (by conv => lhs; whnf) rfl rfl (by first | exact Nat.le_of_ble_eq_true rfl | (simp; omega)) ?_
    intro w2_4 S2_4 X2_4
    refine WL_nil ?_
    refine W_cut (fun D ε w => D = [] ∧ St [g1, g2] w0 w [(some g3, 25, [.int .i64 e.op, .int .i64 e.w, .int .i64 e.n, .slice A n c]), (some g1, 4, (if e.op = 3 then bs1.set e.n.toNat true else bs1).map Value.bool), (some g2, 4, (if e.op = 2 then bs2.set e.n.toNat true else bs2).map Value.bool)] ∧ ε 1 = .slice (some ⟨g1, 0, none⟩) 32 32 ∧ ε 2 = .slice (some ⟨g2, 0, none⟩) 32 32 ∧ ε 3 = .pointer (some ⟨g3, 0, none⟩)) ?_ ?_
    · refine W_seq ?_
      refine W_region ?_
      refine o_fieldAddr fa_25_0 rfl rfl ?_
      refine o_load one_3 rfl (by first | exact S2_4.cell 0 rfl rfl | exact S2_4.cell 1 rfl rfl | exact S2_4.cell 2 rfl rfl) rfl ?_
      refine o_eql rfl rfl rfl (fun h16 => ?_) (fun h16 => ?_)
      · refine WL_nil ?_
        refine W_then rfl ?_
        refine W_region ?_
        first | refine o_move (v := .slice _ _ _) rfl rfl ?_ | refine o_move (by conv => lhs; whnf) rfl ?_
        refine o_fieldAddr fa_25_2 rfl rfl ?_
        refine o_load one_3 rfl (by first | exact S2_4.cell 0 rfl rfl | exact S2_4.cell 1 rfl rfl | exact S2_4.cell 2 rfl rfl) rfl ?_
        refine o_indexAddr slz_83.slT rfl (by first | rfl | assumption) rfl (by omega) (by omega) rfl ?_
        first | refine o_store (kk := 0) S2_4 sz_4 rfl (by conv => lhs; whnf) rfl rfl (by first | exact Nat.le_of_ble_eq_true rfl | (simp; omega)) ?_ | refine o_store (kk := 1) S2_4 sz_4 rfl (by conv => lhs; whnf) rfl rfl (by first | exact Nat.le_of_ble_eq_true rfl | (simp; omega)) ?_ | refine o_store (kk := 2) S2_4 sz_4 rfl (by conv => lhs; whnf) rfl rfl (by first | exact Nat.le_of_ble_eq_true rfl | (simp; omega)) ?_
        intro w4_4 S4_4 X4_4
        refine WL_nil ?_
        first
          | (exfalso; omega)
          | exact ⟨rfl, by simpa [h9, h16, List.map_set] using S4_4, rfl, rfl, rfl⟩
      · refine WL_nil ?_
        refine W_else rfl ?_
        refine W_skip ?_
        first
          | (exfalso; omega)
          | exact ⟨rfl, by simpa [h9, h16, List.map_set] using S2_4, rfl, rfl, rfl⟩
    · rintro D ε w ⟨rfl, S, e1, e2, e3⟩
      refine W_known 1 e1 ?_
      refine W_known 2 e2 ?_
      refine W_known 3 e3 ?_
      clear e1 e2 e3
      have hl1' : (if e.op = 3 then bs1.set e.n.toNat true else bs1).length = 32 := by split <;> simp [hl1]
      have hl2' : (if e.op = 2 then bs2.set e.n.toNat true else bs2).length = 32 := by split <;> simp [hl2]
      generalize (if e.op = 3 then bs1.set e.n.toNat true else bs1) = a1 at *
      generalize (if e.op = 2 then bs2.set e.n.toNat true else bs2) = a2 at *
      refine W_seq ?_
      refine W_region ?_
      first | refine o_assign (v := .int .i64 _) rfl rfl ?_ | refine o_assign (by conv => lhs; whnf) rfl ?_
      refine WL_nil ?_
      refine W_block ?_
      refine W_loop (fun μ D ε w => D = [] ∧ ∃ k : Nat, ∃ m1 : List Bool, ∃ m2 : List Bool, (k + μ = e.kids.length) ∧ (E.markAll 3 (e.kids.drop k) m1 = E.markAll 3 e.kids a1) ∧ (E.markAll 2 (e.kids.drop k) m2 = E.markAll 2 e.kids a2) ∧ (m1.length = 32) ∧ (m2.length = 32) ∧ St [g1, g2] w0 w [(some g3, 25, [.int .i64 e.op, .int .i64 e.w, .int .i64 e.n, .slice A n c]), (some g1, 4, m1.map Value.bool), (some g2, 4, m2.map Value.bool)] ∧ ε 1 = .slice (some ⟨g1, 0, none⟩) 32 32 ∧ ε 2 = .slice (some ⟨g2, 0, none⟩) 32 32 ∧ ε 3 = .pointer (some ⟨g3, 0, none⟩) ∧ ε 6 = .int .i64 k) (μ := e.kids.length) ⟨rfl, 0, a1, a2, by omega, rfl, rfl, hl1', hl2', S, rfl, rfl, rfl, rfl⟩ ?_
      rintro μ D ε w ⟨rfl, k, m1, m2, hk, h1, h2, l1, l2, S, e1, e2, e3, e6⟩
      refine W_known 1 e1 ?_
      refine W_known 2 e2 ?_
      refine W_known 3 e3 ?_
      refine W_known 6 e6 ?_
      clear e1 e2 e3 e6
      refine W_seq ?_
      refine W_seq ?_
      refine W_region ?_
      first | refine o_move (v := .int .i64 _) rfl rfl ?_ | refine o_move (by conv => lhs; whnf) rfl ?_
      refine o_fieldAddr fa_25_3 rfl rfl ?_
      refine o_load one_23 rfl (by first | exact S.cell 0 rfl rfl | exact S.cell 1 rfl rfl | exact S.cell 2 rfl rfl) rfl ?_
      refine o_len slz_23.slT rfl rfl ?_
      refine o_lss rfl rfl rfl (fun h25 => ?_) (fun h25 => ?_)
      · refine WL_nil ?_
        refine W_then rfl ?_
        refine W_skip ?_
        refine W_seq ?_
        refine W_block ?_
        refine W_region ?_
        have hlt : k < e.kids.length := by omega
        obtain ⟨b, o, hA, hbM, hkk⟩ := hks (by omega)
        obtain ⟨ck, hck, hrk⟩ := hkk k hlt
        have hlen : ck.length = 4 := hrk.length
        have hdr : e.kids.drop k = e.kids[k] :: e.kids.drop (k + 1) := List.drop_eq_getElem_cons hlt
        rw [hdr] at h1 h2
        simp only [E.markAll] at h1 h2
        refine o_fieldAddr fa_25_3 rfl rfl ?_
        refine o_load one_23 rfl (by first | exact S.cell 0 rfl rfl | exact S.cell 1 rfl rfl | exact S.cell 2 rfl rfl) rfl ?_
        first | refine o_move (v := .int .i64 _) rfl rfl ?_ | refine o_move (by conv => lhs; whnf) rfl ?_
        refine o_indexAddr slz_23.slT rfl (by first | rfl | assumption) rfl (by omega) (by omega) rfl ?_
        first | refine o_loadN many_25 rfl (S.cells 0 rfl) rfl rfl ?_ | refine o_loadN many_25 rfl (S.cells 1 rfl) rfl rfl ?_ | refine o_loadN many_25 rfl (S.cells 2 rfl) rfl rfl ?_ | refine o_loadN many_25 rfl (hck.keep (S.keepM.mono hsub) hbM) (by first | rfl | assumption) rfl ?_
        first | refine o_move (v := .slice _ _ _) rfl rfl ?_ | refine o_move (by conv => lhs; whnf) rfl ?_
        first | refine o_move (v := .slice _ _ _) rfl rfl ?_ | refine o_move (by conv => lhs; whnf) rfl ?_
        refine o_call has_68 rfl rfl (ih _ (List.getElem_mem hlt) M _ ck g1 g2 m1 m2 _ (RdE.keep (S.keepM.mono hsub) _ _ hrk) (hkg _ (List.getElem_mem hlt)) hM1 hM2 hne l1 l2 (S.blk 1 rfl) (S.blk 2 rfl)) ?_
        rintro v35 w35 ⟨B35, hB1, hB2⟩
        have S35 := S.changed2 1 2 rfl rfl B35 hB1 hB2
        refine WL_nil ?_
        refine W_region ?_
        first | refine o_move (v := .int .i64 _) rfl rfl ?_ | refine o_move (by conv => lhs; whnf) rfl ?_
        refine o_add rfl rfl (by unfold i64; omega) rfl ?_
        first | refine o_assign (v := .int .i64 _) rfl rfl ?_ | refine o_assign (by conv => lhs; whnf) rfl ?_
        refine WL_nil ?_
        exact ⟨μ - 1, by omega, rfl, k + 1, _, _, by omega, h1, h2, by rw [E.mark_len]; exact l1, by rw [E.mark_len]; exact l2, S35, rfl, rfl, rfl, rfl⟩
      · refine WL_nil ?_
        refine W_else rfl ?_
        refine W_exit ?_
        refine bcons_here ?_
        refine ret_none rfl ?_
        obtain rfl : k = e.kids.length := by omega
        rw [List.drop_length] at h1 h2
        simp only [E.markAll] at h1 h2
        rw [← h1, ← h2]
        exact ⟨S.below, S.blk 1 rfl, S.blk 2 rfl⟩
  · refine WL_nil ?_
    refine W_else rfl ?_
    refine W_skip ?_
    refine W_cut (fun D ε w => D = [] ∧ St [g1, g2] w0 w [(some g3, 25, [.int .i64 e.op, .int .i64 e.w, .int .i64 e.n, .slice A n c]), (some g1, 4, (if e.op = 3 then bs1.set e.n.toNat true else bs1).map Value.bool), (some g2, 4, (if e.op = 2 then bs2.set e.n.toNat true else bs2).map Value.bool)] ∧ ε 1 = .slice (some ⟨g1, 0, none⟩) 32 32 ∧ ε 2 = .slice (some ⟨g2, 0, none⟩) 32 32 ∧ ε 3 = .pointer (some ⟨g3, 0, none⟩)) ?_ ?_
    · refine W_seq ?_
      refine W_region ?_
      refine o_fieldAddr fa_25_0 rfl rfl ?_
      refine o_load one_3 rfl (by first | exact S3.cell 0 rfl rfl | exact S3.cell 1 rfl rfl | exact S3.cell 2 rfl rfl) rfl ?_
      refine o_eql rfl rfl rfl (fun h16 => ?_) (fun h16 => ?_)
      · refine WL_nil ?_
        refine W_then rfl ?_
        refine W_region ?_
        first | refine o_move (v := .slice _ _ _) rfl rfl ?_ | refine o_move (by conv => lhs; whnf) rfl ?_
        refine o_fieldAddr fa_25_2 rfl rfl ?_
        refine o_load one_3 rfl (by first | exact S3.cell 0 rfl rfl | exact S3.cell 1 rfl rfl | exact S3.cell 2 rfl rfl) rfl ?_
        refine o_indexAddr slz_83.slT rfl (by first | rfl | assumption) rfl (by omega) (by omega) rfl ?_
        first | refine o_store (kk := 0) S3 sz_4 rfl (by conv => lhs; whnf) rfl rfl (by first | exact Nat.le_of_ble_eq_true rfl | (simp; omega)) ?_ | refine o_store (kk := 1) S3 sz_4 rfl (by conv => lhs; whnf) rfl rfl (by first | exact Nat.le_of_ble_eq_true rfl | (simp; omega)) ?_ | refine o_store (kk := 2) S3 sz_4 rfl (by conv => lhs; whnf) rfl rfl (by first | exact Nat.le_of_ble_eq_true rfl | (simp; omega)) ?_
        intro w4_4 S4_4 X4_4
        refine WL_nil ?_
        first
          | (exfalso; omega)
          | exact ⟨rfl, by simpa [h9, h16, List.map_set] using S4_4, rfl, rfl, rfl⟩
      · refine WL_nil ?_
        refine W_else rfl ?_
        refine W_skip ?_
        first
          | (exfalso; omega)
          | exact ⟨rfl, by simpa [h9, h16, List.map_set] using S3, rfl, rfl, rfl⟩
    · rintro D ε w ⟨rfl, S, e1, e2, e3⟩
      refine W_known 1 e1 ?_
      refine W_known 2 e2 ?_
      refine W_known 3 e3 ?_
      clear e1 e2 e3
      have hl1' : (if e.op = 3 then bs1.set e.n.toNat true else bs1).length = 32 := by split <;> simp [hl1]
      have hl2' : (if e.op = 2 then bs2.set e.n.toNat true else bs2).length = 32 := by split <;> simp [hl2]
      generalize (if e.op = 3 then bs1.set e.n.toNat true else bs1) = a1 at *
      generalize (if e.op = 2 then bs2.set e.n.toNat true else bs2) = a2 at *
      refine W_seq ?_
      refine W_region ?_
      first | refine o_assign (v := .int .i64 _) rfl rfl ?_ | refine o_assign (by conv => lhs; whnf) rfl ?_
      refine WL_nil ?_
      refine W_block ?_
      refine W_loop (fun μ D ε w => D = [] ∧ ∃ k : Nat, ∃ m1 : List Bool, ∃ m2 : List Bool, (k + μ = e.kids.length) ∧ (E.markAll 3 (e.kids.drop k) m1 = E.markAll 3 e.kids a1) ∧ (E.markAll 2 (e.kids.drop k) m2 = E.markAll 2 e.kids a2) ∧ (m1.length = 32) ∧ (m2.length = 32) ∧ St [g1, g2] w0 w [(some g3, 25, [.int .i64 e.op, .int .i64 e.w, .int .i64 e.n, .slice A n c]), (some g1, 4, m1.map Value.bool), (some g2, 4, m2.map Value.bool)] ∧ ε 1 = .slice (some ⟨g1, 0, none⟩) 32 32 ∧ ε 2 = .slice (some ⟨g2, 0, none⟩) 32 32 ∧ ε 3 = .pointer (some ⟨g3, 0, none⟩) ∧ ε 6 = .int .i64 k) (μ := e.kids.length) ⟨rfl, 0, a1, a2, by omega, rfl, rfl, hl1', hl2', S, rfl, rfl, rfl, rfl⟩ ?_
      rintro μ D ε w ⟨rfl, k, m1, m2, hk, h1, h2, l1, l2, S, e1, e2, e3, e6⟩
      refine W_known 1 e1 ?_
      refine W_known 2 e2 ?_
      refine W_known 3 e3 ?_
      refine W_known 6 e6 ?_
      clear e1 e2 e3 e6
      refine W_seq ?_
      refine W_seq ?_
      refine W_region ?_
      first | refine o_move (v := .int .i64 _) rfl rfl ?_ | refine o_move (by conv => lhs; whnf) rfl ?_
      refine o_fieldAddr fa_25_3 rfl rfl ?_
      refine o_load one_23 rfl (by first | exact S.cell 0 rfl rfl | exact S.cell 1 rfl rfl | exact S.cell 2 rfl rfl) rfl ?_
      refine o_len slz_23.slT rfl rfl ?_
      refine o_lss rfl rfl rfl (fun h25 => ?_) (fun h25 => ?_)
      · refine WL_nil ?_
        refine W_then rfl ?_
        refine W_skip ?_
        refine W_seq ?_
        refine W_block ?_
        refine W_region ?_
        have hlt : k < e.kids.length := by omega
        obtain ⟨b, o, hA, hbM, hkk⟩ := hks (by omega)
        obtain ⟨ck, hck, hrk⟩ := hkk k hlt
        have hlen : ck.length = 4 := hrk.length
        have hdr : e.kids.drop k = e.kids[k] :: e.kids.drop (k + 1) := List.drop_eq_getElem_cons hlt
        rw [hdr] at h1 h2
        simp only [E.markAll] at h1 h2
        refine o_fieldAddr fa_25_3 rfl rfl ?_
        refine o_load one_23 rfl (by first | exact S.cell 0 rfl rfl | exact S.cell 1 rfl rfl | exact S.cell 2 rfl rfl) rfl ?_
        first | refine o_move (v := .int .i64 _) rfl rfl ?_ | refine o_move (by conv => lhs; whnf) rfl ?_
        refine o_indexAddr slz_23.slT rfl (by first | rfl | assumption) rfl (by omega) (by omega) rfl ?_
        first | refine o_loadN many_25 rfl (S.cells 0 rfl) rfl rfl ?_ | refine o_loadN many_25 rfl (S.cells 1 rfl) rfl rfl ?_ | refine o_loadN many_25 rfl (S.cells 2 rfl) rfl rfl ?_ | refine o_loadN many_25 rfl (hck.keep (S.keepM.mono hsub) hbM) (by first | rfl | assumption) rfl ?_
        first | refine o_move (v := .slice _ _ _) rfl rfl ?_ | refine o_move (by conv => lhs; whnf) rfl ?_
        first | refine o_move (v := .slice _ _ _) rfl rfl ?_ | refine o_move (by conv => lhs; whnf) rfl ?_
        refine o_call has_68 rfl rfl (ih _ (List.getElem_mem hlt) M _ ck g1 g2 m1 m2 _ (RdE.keep (S.keepM.mono hsub) _ _ hrk) (hkg _ (List.getElem_mem hlt)) hM1 hM2 hne l1 l2 (S.blk 1 rfl) (S.blk 2 rfl)) ?_
        rintro v35 w35 ⟨B35, hB1, hB2⟩
        have S35 := S.changed2 1 2 rfl rfl B35 hB1 hB2
        refine WL_nil ?_
        refine W_region ?_
        first | refine o_move (v := .int .i64 _) rfl rfl ?_ | refine o_move (by conv => lhs; whnf) rfl ?_
        refine o_add rfl rfl (by unfold i64; omega) rfl ?_
        first | refine o_assign (v := .int .i64 _) rfl rfl ?_ | refine o_assign (by conv => lhs; whnf) rfl ?_
        refine WL_nil ?_
        exact ⟨μ - 1, by omega, rfl, k + 1, _, _, by omega, h1, h2, by rw [E.mark_len]; exact l1, by rw [E.mark_len]; exact l2, S35, rfl, rfl, rfl, rfl⟩
      · refine WL_nil ?_
        refine W_else rfl ?_
        refine W_exit ?_
        refine bcons_here ?_
        refine ret_none rfl ?_
        obtain rfl : k = e.kids.length := by omega
        rw [List.drop_length] at h1 h2
        simp only [E.markAll] at h1 h2
        rw [← h1, ← h2]
        exact ⟨S.below, S.blk 1 rfl, S.blk 2 rfl⟩
end Go.Proofs.YtinhchacppkmgaaDoor
