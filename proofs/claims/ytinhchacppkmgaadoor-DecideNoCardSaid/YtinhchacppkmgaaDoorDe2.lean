/-
  Contracts of package decide: the iterator over the pairs of states.
-/
import Derived.Test.YtinhchacppkmgaaDoorDe1
import Derived.Test.YtinhchacppkmgaaDoorFwAny
namespace Go.Proofs.YtinhchacppkmgaaDoor
open Go.Fw Go.RowKit

/-- What a list of cells of a condition's support is. -/
def SupL (cells : List CellD) (l : List Int) : Prop := l.length ≤ 32 ∧ ∀ x ∈ l, 0 ≤ x ∧ x < cells.length ∧ 1 ≤ wAt cells x ∧ wAt cells x ≤ 8

set_option maxHeartbeats 1000000 in
theorem pairs1_fn (M : List Nat) (w0 : World) (l g1 g2 g3 g4 : Nat) (vc vo vn : Value) (cells : List CellD) (old now : List Int) (bits : Nat) (J : World → Prop) (p : Nat → Bool) (Q : Nat → Nat → Nat → World → Prop)
    (m1 : g1 ∉ M) (m2 : g2 ∉ M) (m3 : g3 ∉ M) (m4 : g4 ∉ M)
    (c1 : w0.cell? ⟨g1, 0, none⟩ = some vc) (c2 : w0.cell? ⟨g2, 0, none⟩ = some (.int .i64 (bits : Int))) (c3 : w0.cell? ⟨g3, 0, none⟩ = some vo) (c4 : w0.cell? ⟨g4, 0, none⟩ = some vn)
    (hC : RdCs M w0 vc cells) (hO : RdI M w0 vo old) (hN : RdI M w0 vn now) (hM : ∀ g ∈ M, g < w0.heap.size) (hb : bits ≤ 14) (hcl : cells.length ≤ 1000) (so : SupL cells old) (sn : SupL cells now)
    (hJ : J w0) (hJk : ∀ w w', J w → (∀ b, b < w0.heap.size → w'.heap[b]? = w.heap[b]?) → w.heap.size ≤ w'.heap.size → J w')
    (hY : ∀ (n gb ga : Nat) (w : World), n < 2 ^ bits → w0.heap.size ≤ gb → w0.heap.size ≤ ga → J w →
      St M w0 w [(some gb, 3, (pairAt cells old now n).1.map (Value.int .i64)), (some ga, 3, (pairAt cells old now n).2.map (Value.int .i64))] →
      Yld Tryd.prog l #[.slice (some ⟨gb, 0, none⟩) cells.length cells.length, .slice (some ⟨ga, 0, none⟩) cells.length cells.length] w fun v w' =>
        BelowB M w w' ∧ ((v = .bool true ∧ p n = false ∧ J w') ∨ (v = .bool false ∧ p n = true ∧ Q n gb ga w'))) :
    Does Tryd.prog 43 #[.func (.yield l) #[] #[], .pointer (some ⟨g1, 0, none⟩), .pointer (some ⟨g2, 0, none⟩), .pointer (some ⟨g3, 0, none⟩), .pointer (some ⟨g4, 0, none⟩)] w0 fun _ w' =>
      BelowB M w0 w' ∧ ((J w' ∧ ∀ n, n < 2 ^ bits → p n = false) ∨
        ∃ n gb ga, n < 2 ^ bits ∧ p n = true ∧ (∀ m, m < n → p m = false) ∧ w0.heap.size ≤ gb ∧ w0.heap.size ≤ ga ∧
          hasBlk w' (gb, 3, (pairAt cells old now n).1.map (Value.int .i64)) ∧ hasBlk w' (ga, 3, (pairAt cells old now n).2.map (Value.int .i64)) ∧ Q n gb ga w') := by
  obtain ⟨Ac, nc, cc, rfl⟩ := hC.form
  obtain ⟨hnc, hcc, hcm, hcbig, hcs⟩ := hC.at
  obtain ⟨Ao, no, co, rfl⟩ := hO.form
  obtain ⟨hno, hco, hcmo, hbigo, hos⟩ := hO.at
  obtain ⟨An, nn, cn, rfl⟩ := hN.form
  obtain ⟨hnn, hcn, hcmn, hbign, hns⟩ := hN.at
  subst hnc
  have hp14 : (2 : Nat) ^ bits ≤ 2 ^ 14 := Nat.pow_le_pow_right (by omega) hb
  have S : St M w0 w0 [] := ⟨BelowB.refl _ _, by simp, by simp⟩
  obtain ⟨so1, so2⟩ := so
  obtain ⟨sn1, sn2⟩ := sn
  refine Does_enter Tryd.func43 rfl Tryd.ntmps43 rfl ?_
  refine W_seq ?_
  refine W_any follows_mixed (by kernel_rfl) (fun f ε w => ε 0 = .func (.yield l) #[] #[] ∧ ε 1 = .pointer (some ⟨g1, 0, none⟩) ∧ ε 2 = .pointer (some ⟨g2, 0, none⟩) ∧ ε 3 = .pointer (some ⟨g3, 0, none⟩) ∧ ε 4 = .pointer (some ⟨g4, 0, none⟩) ∧ St M w0 w [] ∧ Keep [] w0 w ∧ (f 0 = true → ε 14 = .slice Ac cells.length cc) ∧ (f 1 = true → ε 15 = .int .i64 cells.length) ∧ (f 3 = true → ε 17 = .slice Ac cells.length cc) ∧ (f 4 = true → ε 18 = .int .i64 cells.length) ∧ ∃ gb ga, (f 2 = true → ε 16 = .slice (some ⟨gb, 0, none⟩) cells.length cells.length ∧ hasBlk w (gb, 3, (zeroS cells).map (Value.int .i64)) ∧ w0.heap.size ≤ gb) ∧ (f 5 = true → ε 19 = .slice (some ⟨ga, 0, none⟩) cells.length cells.length ∧ hasBlk w (ga, 3, (zeroS cells).map (Value.int .i64)) ∧ w0.heap.size ≤ ga) ∧ (f 2 = true → f 5 = true → gb ≠ ga) ∧ (f 6 = true → f 2 = true ∧ ε 6 = .slice (some ⟨gb, 0, none⟩) cells.length cells.length) ∧ (f 7 = true → f 5 = true ∧ ε 7 = .slice (some ⟨ga, 0, none⟩) cells.length cells.length)) ?_ ?_ ?_
  · exact ⟨rfl, rfl, rfl, rfl, rfl, S.drew, keep_drew _ _, by simp, by simp, by simp, by simp, 0, 0, by simp, by simp, by simp, by simp, by simp⟩
  · rintro f ε w i o ⟨e0, e1, e2, e3, e4, S, X, h0, h1, h3, h4, gb, ga, h2, h5, hne, h6, h7⟩ ho hfi hpr
    have hi : i < 8 := (List.getElem?_eq_some_iff.1 ho).1
    have hrep : ∀ k : Nat, (zeroS cells).map (Value.int .i64) = List.replicate cells.length (Value.int .i64 0) := fun _ => by simp [zeroS]
    refine WL_known 1 e1 ?_
    rcases (show i = 0 ∨ i = 1 ∨ i = 2 ∨ i = 3 ∨ i = 4 ∨ i = 5 ∨ i = 6 ∨ i = 7 by omega) with rfl | rfl | rfl | rfl | rfl | rfl | rfl | rfl
    · cases ho
      refine o_load one_22 rfl (S.oldM m1 c1) rfl ?_
      refine WL_nil ⟨rfl, e0, rfl, e2, e3, e4, S, X, fun _ => rfl, fun hh => h1 (by simpa using hh), fun hh => h3 (by simpa using hh), fun hh => h4 (by simpa using hh), gb, ga, fun hh => h2 (by simpa using hh), fun hh => h5 (by simpa using hh), fun hh hh' => hne (by simpa using hh) (by simpa using hh'), fun hh => ⟨by simp [(h6 (by simpa using hh)).1], (h6 (by simpa using hh)).2⟩, fun hh => ⟨by simp [(h7 (by simpa using hh)).1], (h7 (by simpa using hh)).2⟩⟩
    · cases ho
      refine WL_known 14 (h0 (hpr 0 (by decide))) ?_
      refine o_len slz_22.slT rfl rfl ?_
      refine WL_nil ⟨rfl, e0, rfl, e2, e3, e4, S, X, fun _ => rfl, fun _ => rfl, fun hh => h3 (by simpa using hh), fun hh => h4 (by simpa using hh), gb, ga, fun hh => h2 (by simpa using hh), fun hh => h5 (by simpa using hh), fun hh hh' => hne (by simpa using hh) (by simpa using hh'), fun hh => ⟨by simp [(h6 (by simpa using hh)).1], (h6 (by simpa using hh)).2⟩, fun hh => ⟨by simp [(h7 (by simpa using hh)).1], (h7 (by simpa using hh)).2⟩⟩
    · cases ho
      refine WL_known 15 (h1 (hpr 1 (by decide))) ?_
      refine o_make (n := cells.length) (c := cells.length) S slz_28 rfl rfl (by omega) (by omega) (by omega) rfl rfl ?_
      intro g w1 S1 X1 G1
      refine WL_nil ⟨rfl, e0, rfl, e2, e3, e4, S1.nil, X.trans X1, fun hh => h0 (by simpa using hh), fun _ => rfl, fun hh => h3 (by simpa using hh), fun hh => h4 (by simpa using hh), g, ga, fun _ => ⟨rfl, by rw [hrep 0]; exact S1.blk 0 rfl, Nat.le_trans X.size G1⟩, fun hh => ?_, fun _ hh => ?_, fun hh => ?_, fun hh => ⟨by simp [(h7 (by simpa using hh)).1], (h7 (by simpa using hh)).2⟩⟩
      · obtain ⟨q1, q2, q3⟩ := h5 (by simpa using hh); exact ⟨q1, keep_hasBlk X1 q2, q3⟩
      · obtain ⟨q1, q2, q3⟩ := h5 (by simpa using hh); have := q2.lt; simp at this; omega
      · have := (h6 (by simpa using hh)).1; rw [hfi] at this; cases this
    · cases ho
      refine o_load one_22 rfl (S.oldM m1 c1) rfl ?_
      refine WL_nil ⟨rfl, e0, rfl, e2, e3, e4, S, X, fun hh => h0 (by simpa using hh), fun hh => h1 (by simpa using hh), fun _ => rfl, fun hh => h4 (by simpa using hh), gb, ga, fun hh => h2 (by simpa using hh), fun hh => h5 (by simpa using hh), fun hh hh' => hne (by simpa using hh) (by simpa using hh'), fun hh => ⟨by simp [(h6 (by simpa using hh)).1], (h6 (by simpa using hh)).2⟩, fun hh => ⟨by simp [(h7 (by simpa using hh)).1], (h7 (by simpa using hh)).2⟩⟩
    · cases ho
      refine WL_known 17 (h3 (hpr 3 (by decide))) ?_
      refine o_len slz_22.slT rfl rfl ?_
      refine WL_nil ⟨rfl, e0, rfl, e2, e3, e4, S, X, fun hh => h0 (by simpa using hh), fun hh => h1 (by simpa using hh), fun _ => rfl, fun _ => rfl, gb, ga, fun hh => h2 (by simpa using hh), fun hh => h5 (by simpa using hh), fun hh hh' => hne (by simpa using hh) (by simpa using hh'), fun hh => ⟨by simp [(h6 (by simpa using hh)).1], (h6 (by simpa using hh)).2⟩, fun hh => ⟨by simp [(h7 (by simpa using hh)).1], (h7 (by simpa using hh)).2⟩⟩
    · cases ho
      refine WL_known 18 (h4 (hpr 4 (by decide))) ?_
      refine o_make (n := cells.length) (c := cells.length) S slz_28 rfl rfl (by omega) (by omega) (by omega) rfl rfl ?_
      intro g w1 S1 X1 G1
      refine WL_nil ⟨rfl, e0, rfl, e2, e3, e4, S1.nil, X.trans X1, fun hh => h0 (by simpa using hh), fun hh => h1 (by simpa using hh), fun hh => h3 (by simpa using hh), fun _ => rfl, gb, g, fun hh => ?_, fun _ => ⟨rfl, by rw [hrep 0]; exact S1.blk 0 rfl, Nat.le_trans X.size G1⟩, fun hh _ => ?_, fun hh => ⟨by simp [(h6 (by simpa using hh)).1], (h6 (by simpa using hh)).2⟩, fun hh => ?_⟩
      · obtain ⟨q1, q2, q3⟩ := h2 (by simpa using hh); exact ⟨q1, keep_hasBlk X1 q2, q3⟩
      · obtain ⟨q1, q2, q3⟩ := h2 (by simpa using hh); have := q2.lt; simp at this; omega
      · have := (h7 (by simpa using hh)).1; rw [hfi] at this; cases this
    · cases ho
      refine WL_known 16 (h2 (hpr 2 (by decide))).1 ?_
      refine o_assign rfl rfl ?_
      refine WL_nil ⟨rfl, e0, rfl, e2, e3, e4, S, X, fun hh => h0 (by simpa using hh), fun hh => h1 (by simpa using hh), fun hh => h3 (by simpa using hh), fun hh => h4 (by simpa using hh), gb, ga, fun hh => ⟨rfl, (h2 (by simpa using hh)).2⟩, fun hh => h5 (by simpa using hh), fun hh hh' => hne (by simpa using hh) (by simpa using hh'), fun _ => ⟨by simp [hpr 2 (by decide)], rfl⟩, fun hh => ⟨by simp [(h7 (by simpa using hh)).1], (h7 (by simpa using hh)).2⟩⟩
    · cases ho
      refine WL_known 19 (h5 (hpr 5 (by decide))).1 ?_
      refine o_assign rfl rfl ?_
      refine WL_nil ⟨rfl, e0, rfl, e2, e3, e4, S, X, fun hh => h0 (by simpa using hh), fun hh => h1 (by simpa using hh), fun hh => h3 (by simpa using hh), fun hh => h4 (by simpa using hh), gb, ga, fun hh => h2 (by simpa using hh), fun hh => ⟨rfl, (h5 (by simpa using hh)).2⟩, fun hh hh' => hne (by simpa using hh) (by simpa using hh'), fun hh => ⟨by simp [(h6 (by simpa using hh)).1], (h6 (by simpa using hh)).2⟩, fun _ => ⟨by simp [hpr 5 (by decide)], rfl⟩⟩
  rintro f ε w9 ⟨e0, e1, e2, e3, e4, S, X9, -, -, -, -, g16, g19, h2, h5, hne, h6, h7⟩ hall
  obtain ⟨-, hb16, G16⟩ := h2 (hall 2 (by decide))
  obtain ⟨-, hb19, G19⟩ := h5 (hall 5 (by decide))
  have hne := hne (hall 2 (by decide)) (hall 5 (by decide))
  have S0 := (S.push hb19 (.inl G19) (by simp)).push hb16 (.inl G16) (by simpa using fun e : g19 = g16 => hne e.symm)
  have h6 := (h6 (hall 6 (by decide))).2
  have h7 := (h7 (hall 7 (by decide))).2
  clear hall h2 h5 S
  refine W_known 0 e0 ?_
  refine W_known 1 e1 ?_
  refine W_known 2 e2 ?_
  refine W_known 3 e3 ?_
  refine W_known 4 e4 ?_
  refine W_known 6 h6 ?_
  refine W_known 7 h7 ?_
  refine W_seq ?_
  refine W_region ?_
  refine o_load one_3 rfl (by first | exact S0.cell 0 rfl rfl | exact S0.cell 1 rfl rfl | exact S0.oldM m1 c1 | exact S0.oldM m2 c2 | exact S0.oldM m3 c3 | exact S0.oldM m4 c4 | exact S0.oldM hbM hce | exact S0.oldM hbcM hcw) rfl ?_
  refine o_shl1 (n := bits) rfl (by first | rfl | assumption) (by omega) rfl ?_
  first | refine o_move (v := .int .i64 _) rfl rfl ?_ | refine o_move (by conv => lhs; whnf) rfl ?_
  refine WL_nil ?_
  refine W_block ?_
  refine W_loop (fun μ D ε w => D = [] ∧ ∃ n : Nat, ∃ sb : List Int, ∃ sa : List Int, (n + μ = 2 ^ bits) ∧ (∀ m, m < n → p m = false) ∧ (ZOut cells old sb) ∧ (ZOut cells now sa) ∧ (J w) ∧ St M w0 w [(some g16, 3, sb.map (Value.int .i64)), (some g19, 3, sa.map (Value.int .i64))] ∧ ε 0 = .func (.yield l) #[] #[] ∧ ε 1 = .pointer (some ⟨g1, 0, none⟩) ∧ ε 3 = .pointer (some ⟨g3, 0, none⟩) ∧ ε 4 = .pointer (some ⟨g4, 0, none⟩) ∧ ε 6 = .slice (some ⟨g16, 0, none⟩) cells.length cells.length ∧ ε 7 = .slice (some ⟨g19, 0, none⟩) cells.length cells.length ∧ ε 21 = .int .i64 ((2 ^ bits : Nat) : Int) ∧ ε 22 = .int .i64 n) (μ := 2 ^ bits) ⟨rfl, 0, zeroS cells, zeroS cells, by omega, fun m h => absurd h (by omega), ZOut.zero _ _, ZOut.zero _ _, hJk _ _ hJ (fun b hb => X9.same b hb (by simp)) X9.size, S0, rfl, rfl, rfl, rfl, rfl, rfl, rfl, rfl⟩ ?_
  rintro μ D ε w ⟨rfl, n, sb, sa, hn, hp, zb, za, hJ, S, e0, e1, e3, e4, e6, e7, e21, e22⟩
  refine W_known 0 e0 ?_
  refine W_known 1 e1 ?_
  refine W_known 3 e3 ?_
  refine W_known 4 e4 ?_
  refine W_known 6 e6 ?_
  refine W_known 7 e7 ?_
  refine W_known 21 e21 ?_
  refine W_known 22 e22 ?_
  clear e0 e1 e3 e4 e6 e7 e21 e22
  refine W_seq ?_
  refine W_region ?_
  refine o_lss rfl rfl rfl (fun h23 => ?_) (fun h23 => ?_)
  · refine WL_nil ?_
    refine W_seq ?_
    refine W_then rfl ?_
    refine W_skip ?_
    refine W_seq ?_
    refine W_block ?_
    refine W_seq ?_
    refine W_region ?_
    first | refine o_move (v := .int .i64 _) rfl rfl ?_ | refine o_move (by conv => lhs; whnf) rfl ?_
    first | refine o_assign (v := .int .i64 _) rfl rfl ?_ | refine o_assign (by conv => lhs; whnf) rfl ?_
    refine WL_nil ?_
    refine W_seq ?_
    refine W_region ?_
    first | refine o_move (v := .int .i64 _) rfl rfl ?_ | refine o_move (by conv => lhs; whnf) rfl ?_
    first | refine o_assign (v := .int .i64 _) rfl rfl ?_ | refine o_assign (by conv => lhs; whnf) rfl ?_
    refine WL_nil ?_
    refine W_seq ?_
    refine W_seq ?_
    refine W_region ?_
    refine o_load one_28 rfl (by first | exact S.cell 0 rfl rfl | exact S.cell 1 rfl rfl | exact S.oldM m1 c1 | exact S.oldM m2 c2 | exact S.oldM m3 c3 | exact S.oldM m4 c4 | exact S.oldM hbM hce | exact S.oldM hbcM hcw) rfl ?_
    refine o_len slz_28.slT rfl rfl ?_
    first | refine o_move (v := .int .i64 _) rfl rfl ?_ | refine o_move (by conv => lhs; whnf) rfl ?_
    refine WL_nil ?_
    refine W_block ?_
    refine W_loop (fun μ D ε w => D = [] ∧ ∃ k : Nat, ∃ r : Int, ∃ sk : List Int, (k + μ = old.length) ∧ (0 ≤ r) ∧ (layS cells (old.drop k) r sk = layS cells old n (zeroS cells)) ∧ (sk.length = cells.length) ∧ (J w) ∧ St M w0 w [(some g16, 3, sk.map (Value.int .i64)), (some g19, 3, sa.map (Value.int .i64))] ∧ ε 0 = .func (.yield l) #[] #[] ∧ ε 1 = .pointer (some ⟨g1, 0, none⟩) ∧ ε 3 = .pointer (some ⟨g3, 0, none⟩) ∧ ε 4 = .pointer (some ⟨g4, 0, none⟩) ∧ ε 6 = .slice (some ⟨g16, 0, none⟩) cells.length cells.length ∧ ε 7 = .slice (some ⟨g19, 0, none⟩) cells.length cells.length ∧ ε 9 = .int .i64 r ∧ ε 21 = .int .i64 ((2 ^ bits : Nat) : Int) ∧ ε 22 = .int .i64 n ∧ ε 26 = .slice Ao no co ∧ ε 27 = .int .i64 no ∧ ε 28 = .int .i64 k) (μ := old.length) ⟨rfl, 0, n, sb, by omega, by omega, by simpa using zb.lay n, zb.1, hJ, S, rfl, rfl, rfl, rfl, rfl, rfl, rfl, rfl, rfl, rfl, rfl, rfl⟩ ?_
    rintro μ D ε w ⟨rfl, k, r, sk, hk, hr, hs, hsl, hJ2, S, e0, e1, e3, e4, e6, e7, e9, e21, e22, e26, e27, e28⟩
    refine W_known 0 e0 ?_
    refine W_known 1 e1 ?_
    refine W_known 3 e3 ?_
    refine W_known 4 e4 ?_
    refine W_known 6 e6 ?_
    refine W_known 7 e7 ?_
    refine W_known 9 e9 ?_
    refine W_known 21 e21 ?_
    refine W_known 22 e22 ?_
    refine W_known 26 e26 ?_
    refine W_known 27 e27 ?_
    refine W_known 28 e28 ?_
    clear e0 e1 e3 e4 e6 e7 e9 e21 e22 e26 e27 e28
    refine W_seq ?_
    refine W_region ?_
    refine o_lss rfl rfl rfl (fun h29 => ?_) (fun h29 => ?_)
    · refine WL_nil ?_
      refine W_seq ?_
      refine W_then rfl ?_
      refine W_skip ?_
      refine W_seq ?_
      refine W_block ?_
      refine W_seq ?_
      refine W_region ?_
      have hlt : k < old.length := by omega
      obtain ⟨bo, oo, hAo, hbM, hee⟩ := hos (by omega)
      obtain ⟨ck, hck1, hck2, hck3⟩ := hee k old[k] (List.getElem?_eq_getElem hlt)
      have hce : w0.cell? ⟨bo, oo + k * 1, none⟩ = some (.int .i64 old[k]) := hck2 0 _ (by rw [hck3.1]; rfl)
      have hx := so2 old[k] (List.getElem_mem hlt)
      obtain ⟨bc, oc, hAc, hbcM, hcee⟩ := hcs (by omega)
      have hcw := cell_w hcee (x := old[k]) (by omega) (by omega)
      obtain ⟨wn, hwn⟩ := Int.eq_ofNat_of_zero_le (show 0 ≤ wAt cells old[k] by omega)
      rw [hwn] at hcw
      have hp2 : (2 : Nat) ^ wn ≤ 2 ^ 8 := Nat.pow_le_pow_right (by omega) (by omega)
      have hp3 : 0 < (2 : Nat) ^ wn := Nat.pow_pos (by omega)
      refine o_indexAddr slz_28.slT rfl (by first | rfl | assumption) rfl (by omega) (by omega) rfl ?_
      refine o_load one_3 rfl (by first | exact S.cell 0 rfl rfl | exact S.cell 1 rfl rfl | exact S.oldM m1 c1 | exact S.oldM m2 c2 | exact S.oldM m3 c3 | exact S.oldM m4 c4 | exact S.oldM hbM hce | exact S.oldM hbcM hcw) rfl ?_
      first | refine o_assign (v := .int .i64 _) rfl rfl ?_ | refine o_assign (by conv => lhs; whnf) rfl ?_
      refine WL_nil ?_
      refine W_seq ?_
      refine W_region ?_
      first | refine o_move (v := .slice _ _ _) rfl rfl ?_ | refine o_move (by conv => lhs; whnf) rfl ?_
      first | refine o_move (v := .int .i64 _) rfl rfl ?_ | refine o_move (by conv => lhs; whnf) rfl ?_
      first | refine o_move (v := .int .i64 _) rfl rfl ?_ | refine o_move (by conv => lhs; whnf) rfl ?_
      refine o_load one_22 rfl (by first | exact S.cell 0 rfl rfl | exact S.cell 1 rfl rfl | exact S.oldM m1 c1 | exact S.oldM m2 c2 | exact S.oldM m3 c3 | exact S.oldM m4 c4 | exact S.oldM hbM hce | exact S.oldM hbcM hcw) rfl ?_
      first | refine o_move (v := .int .i64 _) rfl rfl ?_ | refine o_move (by conv => lhs; whnf) rfl ?_
      refine o_indexAddr slz_22.slT rfl (by first | rfl | assumption) rfl (by omega) (by omega) rfl ?_
      refine o_fieldAddr fa_48_1 rfl rfl ?_
      refine o_load one_3 rfl (by first | exact S.cell 0 rfl rfl | exact S.cell 1 rfl rfl | exact S.oldM m1 c1 | exact S.oldM m2 c2 | exact S.oldM m3 c3 | exact S.oldM m4 c4 | exact S.oldM hbM hce | exact S.oldM hbcM hcw) rfl ?_
      refine o_shl1 (n := wn) rfl (by first | rfl | assumption) (by omega) rfl ?_
      refine o_sub rfl rfl (by unfold i64; omega) rfl ?_
      refine o_and rfl rfl rfl ?_
      refine o_indexAddr slz_28.slT rfl (by first | rfl | assumption) rfl (by omega) (by omega) rfl ?_
      first | refine o_store (kk := 0) S sz_3 rfl (by conv => lhs; whnf) rfl rfl (by first | exact Nat.le_of_ble_eq_true rfl | (simp; omega)) ?_ | refine o_store (kk := 1) S sz_3 rfl (by conv => lhs; whnf) rfl rfl (by first | exact Nat.le_of_ble_eq_true rfl | (simp; omega)) ?_
      intro w8_12 S8_12 X8_12
      refine WL_nil ?_
      refine W_region ?_
      first | refine o_move (v := .int .i64 _) rfl rfl ?_ | refine o_move (by conv => lhs; whnf) rfl ?_
      refine o_load one_22 rfl (by first | exact S8_12.cell 0 rfl rfl | exact S8_12.cell 1 rfl rfl | exact S8_12.oldM m1 c1 | exact S8_12.oldM m2 c2 | exact S8_12.oldM m3 c3 | exact S8_12.oldM m4 c4 | exact S8_12.oldM hbM hce | exact S8_12.oldM hbcM hcw) rfl ?_
      first | refine o_move (v := .int .i64 _) rfl rfl ?_ | refine o_move (by conv => lhs; whnf) rfl ?_
      refine o_indexAddr slz_22.slT rfl (by first | rfl | assumption) rfl (by omega) (by omega) rfl ?_
      refine o_fieldAddr fa_48_1 rfl rfl ?_
      refine o_load one_3 rfl (by first | exact S8_12.cell 0 rfl rfl | exact S8_12.cell 1 rfl rfl | exact S8_12.oldM m1 c1 | exact S8_12.oldM m2 c2 | exact S8_12.oldM m3 c3 | exact S8_12.oldM m4 c4 | exact S8_12.oldM hbM hce | exact S8_12.oldM hbcM hcw) rfl ?_
      refine o_shr (n := wn) rfl (by first | rfl | assumption) (by omega) rfl ?_
      first | refine o_assign (v := .int .i64 _) rfl rfl ?_ | refine o_assign (by conv => lhs; whnf) rfl ?_
      refine WL_nil ?_
      refine W_region ?_
      refine o_add rfl rfl (by unfold i64; omega) rfl ?_
      first | refine o_move (v := .int .i64 _) rfl rfl ?_ | refine o_move (by conv => lhs; whnf) rfl ?_
      refine WL_nil ?_
      have hlay : layS cells (old.drop (k + 1)) (r / ((2 ^ wn : Nat) : Int)) (sk.set old[k].toNat (band r (((2 ^ wn : Nat) : Int) - 1))) = layS cells old n (zeroS cells) := by
        rw [← hs, List.drop_eq_getElem_cons hlt, layS, hwn, Int.toNat_natCast, ← pow2_eq, band_mask _ _ (by omega)]
      refine ⟨μ - 1, by omega, rfl, k + 1, _, _, by omega, Int.ediv_nonneg hr (by omega), hlay, by simpa using hsl, hJk _ _ hJ2 (fun b hb => X8_12.same b (by have := S.size; omega) (by simp; omega)) X8_12.size, ?_, rfl, rfl, rfl, rfl, rfl, rfl, rfl, rfl, rfl, rfl, rfl, rfl⟩
      simpa [List.map_set] using S8_12
    · refine WL_nil ?_
      refine W_seq ?_
      refine W_else rfl ?_
      refine W_exit ?_
      refine bcons_here ?_
      refine W_seq ?_
      refine W_seq ?_
      have hend : (sk, r) = layS cells old n (zeroS cells) := by rw [← hs, List.drop_eq_nil_of_le (by omega)]; rfl
      have he1 : sk = (layS cells old n (zeroS cells)).1 := by rw [← hend]
      have he2 : r = (layS cells old n (zeroS cells)).2 := by rw [← hend]
      refine W_region ?_
      refine o_load one_28 rfl (by first | exact S.cell 0 rfl rfl | exact S.cell 1 rfl rfl | exact S.oldM m1 c1 | exact S.oldM m2 c2 | exact S.oldM m3 c3 | exact S.oldM m4 c4 | exact S.oldM hbM hce | exact S.oldM hbcM hcw) rfl ?_
      refine o_len slz_28.slT rfl rfl ?_
      first | refine o_move (v := .int .i64 _) rfl rfl ?_ | refine o_move (by conv => lhs; whnf) rfl ?_
      refine WL_nil ?_
      refine W_block ?_
      refine W_loop (fun μ D ε w => D = [] ∧ ∃ j : Nat, ∃ q : Int, ∃ sj : List Int, (j + μ = now.length) ∧ (0 ≤ q) ∧ (layS cells (now.drop j) q sj = layS cells now (layS cells old n (zeroS cells)).2 (zeroS cells)) ∧ (sj.length = cells.length) ∧ (J w) ∧ St M w0 w [(some g16, 3, (layS cells old n (zeroS cells)).1.map (Value.int .i64)), (some g19, 3, sj.map (Value.int .i64))] ∧ ε 0 = .func (.yield l) #[] #[] ∧ ε 1 = .pointer (some ⟨g1, 0, none⟩) ∧ ε 3 = .pointer (some ⟨g3, 0, none⟩) ∧ ε 4 = .pointer (some ⟨g4, 0, none⟩) ∧ ε 6 = .slice (some ⟨g16, 0, none⟩) cells.length cells.length ∧ ε 7 = .slice (some ⟨g19, 0, none⟩) cells.length cells.length ∧ ε 9 = .int .i64 q ∧ ε 21 = .int .i64 ((2 ^ bits : Nat) : Int) ∧ ε 22 = .int .i64 n ∧ ε 52 = .slice An nn cn ∧ ε 53 = .int .i64 nn ∧ ε 54 = .int .i64 j) (μ := now.length) ⟨rfl, 0, r, sa, by omega, hr, by rw [List.drop_zero, za.lay, he2], za.1, hJ2, by rw [← he1]; exact S, rfl, rfl, rfl, rfl, rfl, rfl, rfl, rfl, rfl, rfl, rfl, rfl⟩ ?_
      rintro μ D ε w ⟨rfl, j, q, sj, hj, hq, hs2, hsl2, hJ3, S, e0, e1, e3, e4, e6, e7, e9, e21, e22, e52, e53, e54⟩
      refine W_known 0 e0 ?_
      refine W_known 1 e1 ?_
      refine W_known 3 e3 ?_
      refine W_known 4 e4 ?_
      refine W_known 6 e6 ?_
      refine W_known 7 e7 ?_
      refine W_known 9 e9 ?_
      refine W_known 21 e21 ?_
      refine W_known 22 e22 ?_
      refine W_known 52 e52 ?_
      refine W_known 53 e53 ?_
      refine W_known 54 e54 ?_
      clear e0 e1 e3 e4 e6 e7 e9 e21 e22 e52 e53 e54
      refine W_seq ?_
      refine W_region ?_
      refine o_lss rfl rfl rfl (fun h55 => ?_) (fun h55 => ?_)
      · refine WL_nil ?_
        refine W_seq ?_
        refine W_then rfl ?_
        refine W_skip ?_
        refine W_seq ?_
        refine W_block ?_
        refine W_seq ?_
        refine W_region ?_
        have hlt : j < now.length := by omega
        obtain ⟨bo, oo, hAo, hbM, hee⟩ := hns (by omega)
        obtain ⟨ck, hck1, hck2, hck3⟩ := hee j now[j] (List.getElem?_eq_getElem hlt)
        have hce : w0.cell? ⟨bo, oo + j * 1, none⟩ = some (.int .i64 now[j]) := hck2 0 _ (by rw [hck3.1]; rfl)
        have hx := sn2 now[j] (List.getElem_mem hlt)
        obtain ⟨bc, oc, hAc, hbcM, hcee⟩ := hcs (by omega)
        have hcw := cell_w hcee (x := now[j]) (by omega) (by omega)
        obtain ⟨wn, hwn⟩ := Int.eq_ofNat_of_zero_le (show 0 ≤ wAt cells now[j] by omega)
        rw [hwn] at hcw
        have hp2 : (2 : Nat) ^ wn ≤ 2 ^ 8 := Nat.pow_le_pow_right (by omega) (by omega)
        have hp3 : 0 < (2 : Nat) ^ wn := Nat.pow_pos (by omega)
        refine o_indexAddr slz_28.slT rfl (by first | rfl | assumption) rfl (by omega) (by omega) rfl ?_
        refine o_load one_3 rfl (by first | exact S.cell 0 rfl rfl | exact S.cell 1 rfl rfl | exact S.oldM m1 c1 | exact S.oldM m2 c2 | exact S.oldM m3 c3 | exact S.oldM m4 c4 | exact S.oldM hbM hce | exact S.oldM hbcM hcw) rfl ?_
        first | refine o_assign (v := .int .i64 _) rfl rfl ?_ | refine o_assign (by conv => lhs; whnf) rfl ?_
        refine WL_nil ?_
        refine W_seq ?_
        refine W_region ?_
        first | refine o_move (v := .slice _ _ _) rfl rfl ?_ | refine o_move (by conv => lhs; whnf) rfl ?_
        first | refine o_move (v := .int .i64 _) rfl rfl ?_ | refine o_move (by conv => lhs; whnf) rfl ?_
        first | refine o_move (v := .int .i64 _) rfl rfl ?_ | refine o_move (by conv => lhs; whnf) rfl ?_
        refine o_load one_22 rfl (by first | exact S.cell 0 rfl rfl | exact S.cell 1 rfl rfl | exact S.oldM m1 c1 | exact S.oldM m2 c2 | exact S.oldM m3 c3 | exact S.oldM m4 c4 | exact S.oldM hbM hce | exact S.oldM hbcM hcw) rfl ?_
        first | refine o_move (v := .int .i64 _) rfl rfl ?_ | refine o_move (by conv => lhs; whnf) rfl ?_
        refine o_indexAddr slz_22.slT rfl (by first | rfl | assumption) rfl (by omega) (by omega) rfl ?_
        refine o_fieldAddr fa_48_1 rfl rfl ?_
        refine o_load one_3 rfl (by first | exact S.cell 0 rfl rfl | exact S.cell 1 rfl rfl | exact S.oldM m1 c1 | exact S.oldM m2 c2 | exact S.oldM m3 c3 | exact S.oldM m4 c4 | exact S.oldM hbM hce | exact S.oldM hbcM hcw) rfl ?_
        refine o_shl1 (n := wn) rfl (by first | rfl | assumption) (by omega) rfl ?_
        refine o_sub rfl rfl (by unfold i64; omega) rfl ?_
        refine o_and rfl rfl rfl ?_
        refine o_indexAddr slz_28.slT rfl (by first | rfl | assumption) rfl (by omega) (by omega) rfl ?_
        first | refine o_store (kk := 0) S sz_3 rfl (by conv => lhs; whnf) rfl rfl (by first | exact Nat.le_of_ble_eq_true rfl | (simp; omega)) ?_ | refine o_store (kk := 1) S sz_3 rfl (by conv => lhs; whnf) rfl rfl (by first | exact Nat.le_of_ble_eq_true rfl | (simp; omega)) ?_
        intro w14_12 S14_12 X14_12
        refine WL_nil ?_
        refine W_region ?_
        first | refine o_move (v := .int .i64 _) rfl rfl ?_ | refine o_move (by conv => lhs; whnf) rfl ?_
        refine o_load one_22 rfl (by first | exact S14_12.cell 0 rfl rfl | exact S14_12.cell 1 rfl rfl | exact S14_12.oldM m1 c1 | exact S14_12.oldM m2 c2 | exact S14_12.oldM m3 c3 | exact S14_12.oldM m4 c4 | exact S14_12.oldM hbM hce | exact S14_12.oldM hbcM hcw) rfl ?_
        first | refine o_move (v := .int .i64 _) rfl rfl ?_ | refine o_move (by conv => lhs; whnf) rfl ?_
        refine o_indexAddr slz_22.slT rfl (by first | rfl | assumption) rfl (by omega) (by omega) rfl ?_
        refine o_fieldAddr fa_48_1 rfl rfl ?_
        refine o_load one_3 rfl (by first | exact S14_12.cell 0 rfl rfl | exact S14_12.cell 1 rfl rfl | exact S14_12.oldM m1 c1 | exact S14_12.oldM m2 c2 | exact S14_12.oldM m3 c3 | exact S14_12.oldM m4 c4 | exact S14_12.oldM hbM hce | exact S14_12.oldM hbcM hcw) rfl ?_
        refine o_shr (n := wn) rfl (by first | rfl | assumption) (by omega) rfl ?_
        first | refine o_assign (v := .int .i64 _) rfl rfl ?_ | refine o_assign (by conv => lhs; whnf) rfl ?_
        refine WL_nil ?_
        refine W_region ?_
        refine o_add rfl rfl (by unfold i64; omega) rfl ?_
        first | refine o_move (v := .int .i64 _) rfl rfl ?_ | refine o_move (by conv => lhs; whnf) rfl ?_
        refine WL_nil ?_
        have hlay : layS cells (now.drop (j + 1)) (q / ((2 ^ wn : Nat) : Int)) (sj.set now[j].toNat (band q (((2 ^ wn : Nat) : Int) - 1))) = layS cells now (layS cells old n (zeroS cells)).2 (zeroS cells) := by
          rw [← hs2, List.drop_eq_getElem_cons hlt, layS, hwn, Int.toNat_natCast, ← pow2_eq, band_mask _ _ (by omega)]
        refine ⟨μ - 1, by omega, rfl, j + 1, _, _, by omega, Int.ediv_nonneg hq (by omega), hlay, by simpa using hsl2, hJk _ _ hJ3 (fun b hb => X14_12.same b (by have := S.size; omega) (by simp; omega)) X14_12.size, ?_, rfl, rfl, rfl, rfl, rfl, rfl, rfl, rfl, rfl, rfl, rfl, rfl⟩
        simpa [List.map_set] using S14_12
      · refine WL_nil ?_
        refine W_seq ?_
        refine W_else rfl ?_
        refine W_exit ?_
        refine bcons_here ?_
        refine W_seq ?_
        refine W_region ?_
        first | refine o_move (v := .func _ _ _) rfl rfl ?_ | refine o_move (by conv => lhs; whnf) rfl ?_
        first | refine o_move (v := .slice _ _ _) rfl rfl ?_ | refine o_move (by conv => lhs; whnf) rfl ?_
        first | refine o_move (v := .slice _ _ _) rfl rfl ?_ | refine o_move (by conv => lhs; whnf) rfl ?_
        have hend2 : (sj, q) = layS cells now (layS cells old n (zeroS cells)).2 (zeroS cells) := by rw [← hs2, List.drop_eq_nil_of_le (by omega)]; rfl
        have he3 : sj = (layS cells now (layS cells old n (zeroS cells)).2 (zeroS cells)).1 := by rw [← hend2]
        have S80 := S
        rw [he3] at S80
        refine o_yield rfl rfl rfl (hY n g16 g19 _ (by omega) G16 G19 hJ3 S80) ?_
        rintro v81 w81 ⟨B81, r81⟩
        have S81 := S80.laterB B81 (fun b hb g hg => by
          intro hm
          have := hM g hm
          simp only [List.mem_cons, List.not_mem_nil, or_false] at hb
          rcases hb with rfl | rfl <;> cases hg <;> omega)
        rcases r81 with ⟨rfl, hpn, hJ81⟩ | ⟨rfl, hpn, hQ81⟩
        · refine o_not rfl rfl ?_
          refine WL_nil ?_
          refine W_else rfl ?_
          refine W_skip ?_
          refine W_region ?_
          refine o_add rfl rfl (by unfold i64; omega) rfl ?_
          first | refine o_move (v := .int .i64 _) rfl rfl ?_ | refine o_move (by conv => lhs; whnf) rfl ?_
          refine WL_nil ?_
          exact ⟨2 ^ bits - (n + 1), by omega, rfl, n + 1, _, _, by omega, fun m hm => (by by_cases hmn : m = n; (subst hmn; exact hpn); exact hp m (by omega)), ZOut.next _, ZOut.next _, hJ81, S81, rfl, rfl, rfl, rfl, rfl, rfl, rfl, rfl⟩
        · refine o_not rfl rfl ?_
          refine WL_nil ?_
          refine W_then rfl ?_
          refine W_ret ?_
          refine ret_none rfl ?_
          first
            | exact ⟨S81.below, .inl ⟨hJ, fun m hm => hp m (by omega)⟩⟩
            | exact ⟨S81.below, .inr ⟨n, g16, g19, by omega, hpn, hp, G16, G19, S81.blk 0 rfl, S81.blk 1 rfl, hQ81⟩⟩
  · refine WL_nil ?_
    refine W_seq ?_
    refine W_else rfl ?_
    refine W_exit ?_
    refine bcons_here ?_
    refine ret_none rfl ?_
    first
      | exact ⟨S.below, .inl ⟨hJ, fun m hm => hp m (by omega)⟩⟩
      | exact ⟨S.below, .inr ⟨n, g16, g19, by omega, hpn, hp, G16, G19, S81.blk 0 rfl, S81.blk 1 rfl, hQ81⟩⟩
end Go.Proofs.YtinhchacppkmgaaDoor
