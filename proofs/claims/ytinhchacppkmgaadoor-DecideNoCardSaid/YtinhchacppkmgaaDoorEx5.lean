/-
  Contracts of package expr: supports.
-/
import Derived.Test.YtinhchacppkmgaaDoorEx4
namespace Go.Proofs.YtinhchacppkmgaaDoor
open Go.Fw Go.RowKit

theorem rdI_nil {M : List Nat} {w : World} : RdI M w (.slice none 0 0) [] := ⟨none, 0, 0, rfl, rfl, Nat.le_refl _, by unfold maxLen; omega, by omega, fun h => absurd h (by omega)⟩

/-- What Support's visit knows. -/
def SInv (g1 g2 : Nat) (s : List Bool × List Bool) (w : World) : Prop :=
  s.1.length = 32 ∧ s.2.length = 32 ∧ hasBlk w (g1, 76, s.1.map Value.bool) ∧ hasBlk w (g2, 76, s.2.map Value.bool)

def supStep (e : E) (s : List Bool × List Bool) : List Bool × List Bool := (if e.op = 3 then s.1.set e.n.toNat true else s.1, if e.op = 2 then s.2.set e.n.toNat true else s.2)

theorem support1_fn (g1 g2 : Nat) (hne : g1 ≠ g2) (e : E) (s : List Bool × List Bool) (w0 : World) (b o : Nat) (hsh : e.Shape) (hR : RdP [g1, g2] w0 e b o) (hI : SInv g1 g2 s w0) :
    Does Tryd.prog 60 #[.pointer (some ⟨b, o, none⟩), .pointer (some ⟨g1, 0, none⟩), .pointer (some ⟨g2, 0, none⟩)] w0 fun _ w' => SInv g1 g2 (supStep e s) w' ∧ BelowB [g1, g2] w0 w' := by
  obtain ⟨l1, l2, hb1, hb2⟩ := hI
  obtain ⟨a1, a2⟩ := s
  dsimp only at l1 l2 hb1 hb2
  obtain ⟨hbM, o1, o2, o3, c0, c1, c2, A, n, c, c3, hn, hc, hm, hbig, hks, hRE⟩ := hR.open_
  have hov : (e.op = 3 ∨ e.op = 2) → 0 ≤ e.n ∧ e.n < 32 := fun h => by
    have := (Shape_2 (by omega)).1 hsh; omega
  have S := St.borrow2 hb1 hb2 hne
  refine Does_enter Tryd.func60 rfl Tryd.ntmps60 rfl ?_
  refine W_seq ?_
  refine W_region ?_
  first | refine o_move (v := .pointer _) rfl rfl ?_ | refine o_move (by conv => lhs; whnf) rfl ?_
  refine o_nilCheck rfl rfl ?_
  refine o_fieldAddr fa_25_0 rfl rfl ?_
  refine o_load one_3 rfl (by first | exact S.cell 0 rfl rfl | exact S.cell 1 rfl rfl | exact S.oldM hbM c0 | exact S.oldM hbM c2) rfl ?_
  refine WL_nil ?_
  refine W_block ?_
  refine W_seq ?_
  refine W_region ?_
  refine o_eql rfl rfl rfl (fun h9 => ?_) (fun h9 => ?_)
  · first | refine o_assign (v := .bool _) rfl rfl ?_ | refine o_assign (by conv => lhs; whnf) rfl ?_
    refine WL_nil ?_
    refine W_then rfl ?_
    refine W_region ?_
    first | refine o_move (v := .pointer _) rfl rfl ?_ | refine o_move (by conv => lhs; whnf) rfl ?_
    refine o_nilCheck rfl rfl ?_
    refine o_fieldAddr fa_25_2 rfl rfl ?_
    refine o_load one_3 rfl (by first | exact S.cell 0 rfl rfl | exact S.cell 1 rfl rfl | exact S.oldM hbM c0 | exact S.oldM hbM c2) rfl ?_
    refine o_indexArr art_76 rfl rfl (by omega) (by omega) rfl ?_
    first | refine o_store (kk := 0) S sz_4 rfl (by conv => lhs; whnf) rfl rfl (by first | exact Nat.le_of_ble_eq_true rfl | (simp; omega)) ?_ | refine o_store (kk := 1) S sz_4 rfl (by conv => lhs; whnf) rfl rfl (by first | exact Nat.le_of_ble_eq_true rfl | (simp; omega)) ?_
    intro w2_5 S2_5 X2_5
    refine WL_nil ?_
    refine ret_none rfl ?_
    refine ⟨?_, S2_5.below⟩
    unfold SInv supStep
    refine ⟨by dsimp only; split <;> simp [l1], by dsimp only; split <;> simp [l2], ?_, ?_⟩
    · have hh := S2_5.blk 0 rfl
      first | (simpa [h9, List.map_set] using hh; done) | (simpa [h9, h16, List.map_set] using hh; done)
    · have hh := S2_5.blk 1 rfl
      first | (simpa [h9, List.map_set] using hh; done) | (simpa [h9, h16, List.map_set] using hh; done)
  · first | refine o_assign (v := .bool _) rfl rfl ?_ | refine o_assign (by conv => lhs; whnf) rfl ?_
    refine WL_nil ?_
    refine W_else rfl ?_
    refine W_seq ?_
    refine W_region ?_
    refine o_eql rfl rfl rfl (fun h16 => ?_) (fun h16 => ?_)
    · first | refine o_assign (v := .bool _) rfl rfl ?_ | refine o_assign (by conv => lhs; whnf) rfl ?_
      refine WL_nil ?_
      refine W_then rfl ?_
      refine W_region ?_
      first | refine o_move (v := .pointer _) rfl rfl ?_ | refine o_move (by conv => lhs; whnf) rfl ?_
      refine o_nilCheck rfl rfl ?_
      refine o_fieldAddr fa_25_2 rfl rfl ?_
      refine o_load one_3 rfl (by first | exact S.cell 0 rfl rfl | exact S.cell 1 rfl rfl | exact S.oldM hbM c0 | exact S.oldM hbM c2) rfl ?_
      refine o_indexArr art_76 rfl rfl (by omega) (by omega) rfl ?_
      first | refine o_store (kk := 0) S sz_4 rfl (by conv => lhs; whnf) rfl rfl (by first | exact Nat.le_of_ble_eq_true rfl | (simp; omega)) ?_ | refine o_store (kk := 1) S sz_4 rfl (by conv => lhs; whnf) rfl rfl (by first | exact Nat.le_of_ble_eq_true rfl | (simp; omega)) ?_
      intro w4_5 S4_5 X4_5
      refine WL_nil ?_
      refine ret_none rfl ?_
      refine ⟨?_, S4_5.below⟩
      unfold SInv supStep
      refine ⟨by dsimp only; split <;> simp [l1], by dsimp only; split <;> simp [l2], ?_, ?_⟩
      · have hh := S4_5.blk 0 rfl
        first | (simpa [h9, List.map_set] using hh; done) | (simpa [h9, h16, List.map_set] using hh; done)
      · have hh := S4_5.blk 1 rfl
        first | (simpa [h9, List.map_set] using hh; done) | (simpa [h9, h16, List.map_set] using hh; done)
    · first | refine o_assign (v := .bool _) rfl rfl ?_ | refine o_assign (by conv => lhs; whnf) rfl ?_
      refine WL_nil ?_
      refine W_else rfl ?_
      refine W_skip ?_
      refine ret_none rfl ?_
      refine ⟨?_, S.below⟩
      unfold SInv supStep
      refine ⟨by dsimp only; split <;> simp [l1], by dsimp only; split <;> simp [l2], ?_, ?_⟩
      · have hh := S.blk 0 rfl
        first | (simpa [h9, List.map_set] using hh; done) | (simpa [h9, h16, List.map_set] using hh; done)
      · have hh := S.blk 1 rfl
        first | (simpa [h9, List.map_set] using hh; done) | (simpa [h9, h16, List.map_set] using hh; done)

theorem members_fn (M : List Nat) (w0 : World) (bs : List Bool) (hlen : bs.length = 32) (hM : ∀ g ∈ M, g < w0.heap.size) :
    Does Tryd.prog 61 #[.agg (bs.map Value.bool).toArray] w0 fun v' w' => RdI M w' v' (markedL bs) ∧ Below w0.heap.size w0 w' := by
  have S := (St.refl w0).nilEnt 3
  have hlm : (bs.map Value.bool).length = 32 := by simpa using hlen
  refine Does_enter Tryd.func61 rfl Tryd.ntmps61 rfl ?_
  refine W_seq ?_
  refine W_region ?_
  refine o_boxa S (by conv => lhs; whnf) rfl ?_
  intro g1 w1 S1 X1 G1
  first | refine o_assign (v := .slice _ _ _) rfl rfl ?_ | refine o_assign (by conv => lhs; whnf) rfl ?_
  refine WL_nil ?_
  refine W_seq ?_
  refine W_region ?_
  first | refine o_assign (v := .slice _ _ _) rfl rfl ?_ | refine o_assign (by conv => lhs; whnf) rfl ?_
  refine WL_nil ?_
  refine W_seq ?_
  refine W_seq ?_
  refine W_region ?_
  first | refine o_loadN many_76 rfl (S1.cells 0 rfl) rfl rfl ?_ | refine o_loadN many_76 rfl (S1.cells 1 rfl) rfl rfl ?_ | refine o_loadN many_76 rfl (S1.cells 0 rfl) (by first | rfl | assumption) rfl ?_
  first | refine o_move (v := .int .i64 _) rfl rfl ?_ | refine o_move (by conv => lhs; whnf) rfl ?_
  refine WL_nil ?_
  refine W_block ?_
  refine W_loop (fun μ D ε w => D = [] ∧ ∃ k : Nat, ∃ G : Option Nat, ∃ cs : List Value, ∃ v : Value, (k + μ = 32) ∧ (RowV G 1 (markedTo bs k).length cs v ((markedTo bs k).map (Value.int .i64))) ∧ St [] w0 w [(G, 3, cs)] ∧ ε 3 = v ∧ ε 6 = .agg (bs.map Value.bool).toArray ∧ ε 7 = .int .i64 k) (μ := 32) ⟨rfl, 0, none, [], _, by omega, RowV.nil 1, S1.tail, rfl, rfl, rfl⟩ ?_
  rintro μ D ε w ⟨rfl, k, G, cs, v, hk, hrow, S, e3, e6, e7⟩
  refine W_known 3 e3 ?_
  refine W_known 6 e6 ?_
  refine W_known 7 e7 ?_
  clear e3 e6 e7
  refine W_seq ?_
  refine W_region ?_
  refine o_lss rfl rfl rfl (fun h8 => ?_) (fun h8 => ?_)
  · refine WL_nil ?_
    refine W_seq ?_
    refine W_then rfl ?_
    refine W_skip ?_
    refine W_seq ?_
    refine W_block ?_
    refine W_seq ?_
    refine W_region ?_
    first | refine o_move (v := .int .i64 _) rfl rfl ?_ | refine o_move (by conv => lhs; whnf) rfl ?_
    have hlt : k < bs.length := by omega
    have hel : ((bs.map Value.bool).toArray)[((k : Nat) : Int).toNat]? = some (.bool bs[k]) := by simp [hlt]
    have hgd : bs.getD k false = bs[k] := by simp [hlt]
    have hml := markedTo_len bs k
    cases hb10 : bs[k]
    · have hlt : k < bs.length := by omega
      have hel : ((bs.map Value.bool).toArray)[((k : Nat) : Int).toNat]? = some (.bool bs[k]) := by simp [hlt]
      have hgd : bs.getD k false = bs[k] := by simp [hlt]
      have hml := markedTo_len bs k
      refine o_index art_76 rfl rfl (by omega) (by omega) (hel.trans (by rw [hb10])) rfl ?_
      first | refine o_assign (v := .int .i64 _) rfl rfl ?_ | refine o_assign (by conv => lhs; whnf) rfl ?_
      first | refine o_assign (v := .bool _) rfl rfl ?_ | refine o_assign (by conv => lhs; whnf) rfl ?_
      refine WL_nil ?_
      refine W_seq ?_
      refine W_region ?_
      first | refine o_move (v := .bool _) rfl rfl ?_ | refine o_move (by conv => lhs; whnf) rfl ?_
      refine WL_nil ?_
      refine W_else rfl ?_
      refine W_skip ?_
      refine W_region ?_
      refine o_add rfl rfl (by unfold i64; omega) rfl ?_
      first | refine o_move (v := .int .i64 _) rfl rfl ?_ | refine o_move (by conv => lhs; whnf) rfl ?_
      refine WL_nil ?_
      first
        | (refine ⟨μ - 1, by omega, rfl, k + 1, G15, cs15, v15, by omega, ?_, S15, rfl, rfl, rfl⟩
           rw [markedTo_succ, hgd, hb10]; simpa using hrow15)
        | (refine ⟨μ - 1, by omega, rfl, k + 1, G, cs, v, by omega, ?_, S, rfl, rfl, rfl⟩
           rw [markedTo_succ, hgd, hb10]; simpa using hrow)
    · have hlt : k < bs.length := by omega
      have hel : ((bs.map Value.bool).toArray)[((k : Nat) : Int).toNat]? = some (.bool bs[k]) := by simp [hlt]
      have hgd : bs.getD k false = bs[k] := by simp [hlt]
      have hml := markedTo_len bs k
      refine o_index art_76 rfl rfl (by omega) (by omega) (hel.trans (by rw [hb10])) rfl ?_
      first | refine o_assign (v := .int .i64 _) rfl rfl ?_ | refine o_assign (by conv => lhs; whnf) rfl ?_
      first | refine o_assign (v := .bool _) rfl rfl ?_ | refine o_assign (by conv => lhs; whnf) rfl ?_
      refine WL_nil ?_
      refine W_seq ?_
      refine W_region ?_
      first | refine o_move (v := .bool _) rfl rfl ?_ | refine o_move (by conv => lhs; whnf) rfl ?_
      refine WL_nil ?_
      refine W_then rfl ?_
      refine W_region ?_
      first | refine o_move (v := .slice _ _ _) rfl rfl ?_ | refine o_move (by conv => lhs; whnf) rfl ?_
      first | refine o_move (v := .int .i64 _) rfl rfl ?_ | refine o_move (by conv => lhs; whnf) rfl ?_
      refine o_buildSlice S slz_28 (vs := [.int .i64 _]) (cs := [_]) (by rfl) rfl rfl rfl rfl rfl rfl ?_
      intro g14 w14 S14 X14 G14
      refine o_append (k := 1) S14 slz_28 rfl hrow rfl rfl (S14.cells 0 rfl) rfl (by simp [Value.oneCell']) (by omega) (by omega) rfl ?_
      intro v15 G15 cs15 w15 S15' hrow15 X15
      have S15 := S15'.tail
      first | refine o_assign (v := .slice _ _ _) rfl rfl ?_ | refine o_assign (by conv => lhs; whnf) rfl ?_
      refine WL_nil ?_
      refine W_region ?_
      refine o_add rfl rfl (by unfold i64; omega) rfl ?_
      first | refine o_move (v := .int .i64 _) rfl rfl ?_ | refine o_move (by conv => lhs; whnf) rfl ?_
      refine WL_nil ?_
      first
        | (refine ⟨μ - 1, by omega, rfl, k + 1, G15, cs15, v15, by omega, ?_, S15, rfl, rfl, rfl⟩
           rw [markedTo_succ, hgd, hb10]; simpa using hrow15)
        | (refine ⟨μ - 1, by omega, rfl, k + 1, G, cs, v, by omega, ?_, S, rfl, rfl, rfl⟩
           rw [markedTo_succ, hgd, hb10]; simpa using hrow)
  · refine WL_nil ?_
    refine W_seq ?_
    refine W_else rfl ?_
    refine W_exit ?_
    refine bcons_here ?_
    refine W_seq ?_
    refine W_region ?_
    first | refine o_move (v := .slice _ _ _) rfl rfl ?_ | refine o_move (by conv => lhs; whnf) rfl ?_
    first | refine o_assign (v := .slice _ _ _) rfl rfl ?_ | refine o_assign (by conv => lhs; whnf) rfl ?_
    refine WL_nil ?_
    refine W_ret ?_
    refine ret_1 rfl (by conv => lhs; whnf) ?_
    obtain rfl : k = 32 := by omega
    have hmm : markedTo bs 32 = markedL bs := by unfold markedL; rw [hlen]
    rw [hmm] at hrow
    refine ⟨hrow.rdI (k := 0) S rfl hM (fun x hx => ?_) ?_, S.nil.fin⟩
    · obtain ⟨i, rfl, hi, _⟩ := (markedTo_mem _ _ _).1 hx; unfold i64; omega
    · have := markedTo_len bs bs.length; unfold markedL; omega

theorem lf_sup : ∀ (e : E) (a1 a2 : List Bool) (lim : Int), e.good lim = true → e.lf supStep (a1, a2) = (e.mark 3 a1, e.mark 2 a2) := by
  intro e
  induction e using E.induct with
  | _ e ih =>
    intro a1 a2 lim hg
    rw [E.good_def] at hg
    simp only [Bool.and_eq_true] at hg
    have hsh : e.Shape := of_decide_eq_true hg.1.2
    have hkg : ∀ k ∈ e.kids, k.good (lim - 1) = true := (E.goods_iff _ _).1 hg.2
    have har := Shape_ar hsh
    have har2 := arityL_spec e.op
    have key : ∀ (ks : List E), (∀ k ∈ ks, ∀ (a1 a2 : List Bool) (lim : Int), k.good lim = true → k.lf supStep (a1, a2) = (k.mark 3 a1, k.mark 2 a2)) → (∀ k ∈ ks, k.good (lim - 1) = true) →
        ∀ a1 a2 : List Bool, E.lfs supStep ks (a1, a2) = (E.markAll 3 ks a1, E.markAll 2 ks a2) := by
      intro ks
      induction ks with
      | nil => intro _ _ a1 a2; simp [E.lfs, E.markAll]
      | cons k ks ih2 =>
        intro h1 h2 a1 a2
        simp only [E.lfs, E.markAll]
        rw [h1 k (by simp) _ _ (lim - 1) (h2 k (by simp)), ih2 (fun k' hk' => h1 k' (by simp [hk'])) (fun k' hk' => h2 k' (by simp [hk']))]
    rw [E.lf_def, E.mark_def, E.mark_def]
    by_cases h0 : e.kids.length = 0
    · rw [if_pos h0]; exact key e.kids ih hkg _ _
    · rw [if_neg h0, if_neg (by omega), if_neg (by omega)]; exact key e.kids ih hkg _ _

theorem support_e_fn (e : E) (M : List Nat) (w0 : World) (cs : List Value) (hR : RdE M w0 e cs) (hK : Masks M w0) (hM : ∀ g ∈ M, g < w0.heap.size) :
    Does Tryd.prog 41 #[.agg cs.toArray] w0 fun v w' => (∃ a b, v = .tuple #[a, b] ∧ RdI M w' a (e.sup 3) ∧ RdI M w' b (e.sup 2)) ∧ Below w0.heap.size w0 w' := by
  obtain ⟨A, n, c, rfl, o1, o2, o3, hn, hc, hm, hbig, hks⟩ := hR.open_
  have S := St.refl w0
  refine Does_enter Tryd.func41 rfl Tryd.ntmps41 rfl ?_
  refine W_seq ?_
  refine W_region ?_
  refine o_boxa S (by conv => lhs; whnf) rfl ?_
  intro g1 w1 S1 X1 G1
  first | refine o_assign (v := .slice _ _ _) rfl rfl ?_ | refine o_assign (by conv => lhs; whnf) rfl ?_
  first | refine o_assign (v := .slice _ _ _) rfl rfl ?_ | refine o_assign (by conv => lhs; whnf) rfl ?_
  refine WL_nil ?_
  refine W_seq ?_
  refine W_seq ?_
  refine W_region ?_
  first | refine o_loadN many_25 rfl (S1.cells 0 rfl) rfl rfl ?_ | refine o_loadN many_25 rfl (S1.cells 1 rfl) (by first | rfl | assumption) rfl ?_ | refine o_loadN many_25 rfl (S1.cells 0 rfl) (by first | rfl | assumption) rfl ?_
  refine o_callb S1 has_30 rfl rfl (wellFormed_fn e M _ _ (RdE.keep (S1.keep0 M) _ _ hR) (hK.keep (S1.keep0 M))) (fun h7 w7 S7 X7 => ?_) (fun h7 w7 S7 X7 => ?_)
  · refine o_not rfl rfl ?_
    refine WL_nil ?_
    refine W_else rfl ?_
    refine W_skip ?_
    refine W_seq ?_
    refine W_region ?_
    refine o_alloc S7 zv_76 rfl rfl ?_
    intro g4 w4 S4 X4 G4
    refine o_alloc S4 zv_76 rfl rfl ?_
    intro g5 w5 S5 X5 G5
    refine WL_nil ?_
    refine W_seq ?_
    refine W_region ?_
    refine o_makeFunc rfl rfl ?_
    have hM' : ∀ g ∈ [g4, g5] , g ∈ M ∨ w0.heap.size ≤ g := fun g hg => by
      simp at hg; rcases hg with rfl | rfl
      · right; have := S5.new 1 rfl; simp at this; exact this
      · right; have := S5.new 0 rfl; simp at this; exact this
    have hgood : e.good 40 = true := by unfold E.wf at h7; simp only [Bool.and_eq_true] at h7; exact h7.2
    have hne := (S5.ne 0 1 rfl rfl (by omega)).symm
    refine o_call has_39 rfl rfl (leaves_fn [g4, g5] (SInv g4 g5) supStep _ _ has_60 (fun e s w b o h1 _ h3 h4 => support1_fn g4 g5 hne e s w b o h1 h3 h4) e _ g1 0 (List.replicate 32 false, List.replicate 32 false) 40
      ⟨by simpa using ⟨(S5.ne 1 2 rfl rfl (by omega)).symm, (S5.ne 0 2 rfl rfl (by omega)).symm⟩, _, S5.cells 2 rfl, RdE.keep (S5.keep0 _) _ _ (RdE.more hM' _ _ hR)⟩
      ⟨rfl, rfl, S5.blk 1 rfl, S5.blk 0 rfl⟩ hgood) ?_
    rintro v10 w10 ⟨⟨-, -, I1, I2⟩, B10⟩
    rw [lf_sup e _ _ 40 hgood] at I1 I2
    dsimp only at I1 I2
    have S10 := S5.changed2 1 0 rfl rfl B10 I1 I2
    dsimp only [List.set] at S10
    have q1 : (e.mark 3 (List.replicate 32 false)).length = 32 := by rw [E.mark_len]; simp
    have q2 : (e.mark 2 (List.replicate 32 false)).length = 32 := by rw [E.mark_len]; simp
    have q1' : ((e.mark 3 (List.replicate 32 false)).map Value.bool).length = 32 := by simpa using q1
    have q2' : ((e.mark 2 (List.replicate 32 false)).map Value.bool).length = 32 := by simpa using q2
    refine WL_nil ?_
    refine W_seq ?_
    refine W_draw follows_mixed [0, 2] [1] [3, 4, 5] (by kernel_rfl) rfl (Cl _ _ _ _) (Cl.start S10) ?_
    first | refine q_loadN many_76 rfl (fun w1 hw => hw.1.cells 0 rfl) rfl rfl ?_ | refine q_loadN many_76 rfl (fun w1 hw => hw.1.cells 1 rfl) rfl rfl ?_ | refine q_loadN many_76 rfl (fun w1 hw => hw.1.cells 2 rfl) rfl rfl ?_ | refine q_loadN many_76 rfl (fun w1 hw => hw.1.cells 1 rfl) (by first | rfl | assumption) rfl ?_ | refine q_loadN many_76 rfl (fun w1 hw => hw.1.cells 0 rfl) (by first | rfl | assumption) rfl ?_
    first | refine q_loadN many_76 rfl (fun w1 hw => hw.1.cells 0 rfl) rfl rfl ?_ | refine q_loadN many_76 rfl (fun w1 hw => hw.1.cells 1 rfl) rfl rfl ?_ | refine q_loadN many_76 rfl (fun w1 hw => hw.1.cells 2 rfl) rfl rfl ?_ | refine q_loadN many_76 rfl (fun w1 hw => hw.1.cells 1 rfl) (by first | rfl | assumption) rfl ?_ | refine q_loadN many_76 rfl (fun w1 hw => hw.1.cells 0 rfl) (by first | rfl | assumption) rfl ?_
    refine QL_nil ?_
    refine BK_of ?_
    refine BKL_call (fun v w => RdI M w v (markedL (e.mark 3 (List.replicate 32 false)))) rfl rfl has_61 rfl (fun v w w' h hk => h.keep hk.of_nil) (fun w1 S1 X1 => members_fn M _ _ q1 (fun g hg => Nat.lt_of_lt_of_le (hM g hg) S1.size)) ?_
    refine BKL_nil ?_
    rintro wR5 ⟨SR5, XR5⟩
    rintro v12 r12
    dsimp only [upds]
    refine o_calln SR5 has_61 rfl rfl (members_fn M _ _ q2 (fun g hg => Nat.lt_of_lt_of_le (hM g hg) SR5.size)) ?_
    rintro v14 w14 r14 S14 X14
    replace r12 := r12.keep (X14.of_nil)
    first | refine o_assign (v := .slice _ _ _) rfl rfl ?_ | refine o_assign (by conv => lhs; whnf) rfl ?_
    first | refine o_assign (v := .slice _ _ _) rfl rfl ?_ | refine o_assign (by conv => lhs; whnf) rfl ?_
    refine WL_nil ?_
    refine W_ret ?_
    refine ret_2 rfl (by conv => lhs; whnf) (by conv => lhs; whnf) ?_
    refine ⟨⟨_, _, rfl, ?_⟩, S14.fin⟩
    unfold E.sup
    first
      | (rw [if_pos h7, if_pos h7]; exact ⟨r12, r14⟩)
      | (rw [if_neg (by simp [h7]), if_neg (by simp [h7])]; exact ⟨rdI_nil, rdI_nil⟩)
  · refine o_not rfl rfl ?_
    refine WL_nil ?_
    refine W_then rfl ?_
    refine W_seq ?_
    refine W_region ?_
    first | refine o_assign (v := .slice _ _ _) rfl rfl ?_ | refine o_assign (by conv => lhs; whnf) rfl ?_
    first | refine o_assign (v := .slice _ _ _) rfl rfl ?_ | refine o_assign (by conv => lhs; whnf) rfl ?_
    refine WL_nil ?_
    refine W_ret ?_
    refine ret_2 rfl (by conv => lhs; whnf) (by conv => lhs; whnf) ?_
    refine ⟨⟨_, _, rfl, ?_⟩, S7.fin⟩
    unfold E.sup
    first
      | (rw [if_pos h7, if_pos h7]; exact ⟨r12, r14⟩)
      | (rw [if_neg (by simp [h7]), if_neg (by simp [h7])]; exact ⟨rdI_nil, rdI_nil⟩)
end Go.Proofs.YtinhchacppkmgaaDoor
