/-
  The law DecideConnectives: what the call returns.
-/
import Derived.Test.YtinhchacppkmgaaDoorLa3
namespace Go.Fw
open Go.RowKit

def andE (a b : E) : E := ⟨5, 1, 0, [a, b]⟩
def orE (a b : E) : E := ⟨6, 1, 0, [a, b]⟩

theorem and_val (a b : E) (old now : List Int) (ha : a.val old now = 0 ∨ a.val old now = 1) (hb : b.val old now = 0 ∨ b.val old now = 1) : (andE a b).val old now = 1 ↔ a.val old now = 1 ∧ b.val old now = 1 := by
  have h : (andE a b).val old now = band (band (a.val old now) (b.val old now)) 1 := by rw [E.val_def]; rfl
  rw [h]
  rcases ha with ha | ha <;> rcases hb with hb | hb <;> rw [ha, hb] <;> decide
theorem or_val (a b : E) (old now : List Int) (ha : a.val old now = 0 ∨ a.val old now = 1) (hb : b.val old now = 0 ∨ b.val old now = 1) : (orE a b).val old now = 1 ↔ a.val old now = 1 ∨ b.val old now = 1 := by
  have h : (orE a b).val old now = band (bor (a.val old now) (b.val old now)) 1 := by rw [E.val_def]; rfl
  rw [h]
  rcases ha with ha | ha <;> rcases hb with hb | hb <;> rw [ha, hb] <;> decide

theorem and_law {cells : List CellD} {a b c : E} (h1 : (mkC c a).done cells) (h2 : (mkC c b).done cells) (h3 : (mkC c (andE a b)).done cells) : (mkC c (andE a b)).yes cells ↔ (mkC c a).yes cells ∧ (mkC c b).yes cells := by
  have va := (formed_parts h1.1).2.1
  have vb := (formed_parts h2.1).2.1
  have vn := (formed_parts h3.1).2.1
  have wa := (formed_parts h1.1).2.2.2
  have wb := (formed_parts h2.1).2.2.2
  have wn := (formed_parts h3.1).2.2.2
  rw [yes_iff h1, yes_iff h2, yes_iff h3]
  have key : ∀ old now : List Int, ((mkC c (andE a b)).fals (old, now) = false ↔ (mkC c a).fals (old, now) = false ∧ (mkC c b).fals (old, now) = false) := by
    intro old now
    have ba := evl_bit va wa old now
    have bb := evl_bit vb wb old now
    have bn := evl_bit vn wn old now
    have ea := evl_wf va old now
    have eb := evl_wf vb old now
    have en := evl_wf vn old now
    have hv := and_val a b old now (by rw [← show a.evl old now = a.val old now from ea]; exact ba) (by rw [← show b.evl old now = b.val old now from eb]; exact bb)
    simp only [mkC] at *
    rw [← ea, ← eb, ← en] at hv
    simp only [CondD.fals, Bool.and_eq_false_iff, decide_eq_false_iff_not]
    omega
  constructor
  · intro h; exact ⟨fun o n => ((key o n).1 (h o n)).1, fun o n => ((key o n).1 (h o n)).2⟩
  · rintro ⟨p, q⟩ o n; exact (key o n).2 ⟨p o n, q o n⟩

theorem or_law {cells : List CellD} {a b c : E} (h1 : (mkC a c).done cells) (h2 : (mkC b c).done cells) (h3 : (mkC (orE a b) c).done cells) : (mkC (orE a b) c).yes cells ↔ (mkC a c).yes cells ∧ (mkC b c).yes cells := by
  have va := (formed_parts h1.1).1
  have vb := (formed_parts h2.1).1
  have vn := (formed_parts h3.1).1
  have wa := (formed_parts h1.1).2.2.1
  have wb := (formed_parts h2.1).2.2.1
  have wn := (formed_parts h3.1).2.2.1
  rw [yes_iff h1, yes_iff h2, yes_iff h3]
  have key : ∀ old now : List Int, ((mkC (orE a b) c).fals (old, now) = false ↔ (mkC a c).fals (old, now) = false ∧ (mkC b c).fals (old, now) = false) := by
    intro old now
    have ba := evl_bit va wa old now
    have bb := evl_bit vb wb old now
    have bn := evl_bit vn wn old now
    have ea := evl_wf va old now
    have eb := evl_wf vb old now
    have en := evl_wf vn old now
    have hv := or_val a b old now (by rw [← show a.evl old now = a.val old now from ea]; exact ba) (by rw [← show b.evl old now = b.val old now from eb]; exact bb)
    simp only [mkC] at *
    rw [← ea, ← eb, ← en] at hv
    simp only [CondD.fals, Bool.and_eq_false_iff, decide_eq_false_iff_not]
    omega
  constructor
  · intro h; exact ⟨fun o n => ((key o n).1 (h o n)).1, fun o n => ((key o n).1 (h o n)).2⟩
  · rintro ⟨p, q⟩ o n; exact (key o n).2 ⟨p o n, q o n⟩
end Go.Fw
namespace Go.Proofs.YtinhchacppkmgaaDoor
open Go.Fw Go.RowKit

/-- Three bits of verdicts. -/
theorem bits_eq {p q r : Prop} {x y z : Bool} (hx : x = true ↔ p) (hy : y = true ↔ q) (hz : z = true ↔ r) (h : r ↔ p ∧ q) : z = (x && y) := by
  cases x <;> cases y <;> cases z <;> simp_all

theorem l14 {l : List Value} (h : l.length = 14) : ∃ a0 a1 a2 a3 a4 a5 a6 a7 a8 a9 a10 a11 a12 a13, l = [a0, a1, a2, a3, a4, a5, a6, a7, a8, a9, a10, a11, a12, a13] := by
  match l, h with
  | [a0, a1, a2, a3, a4, a5, a6, a7, a8, a9, a10, a11, a12, a13], _ => exact ⟨a0, a1, a2, a3, a4, a5, a6, a7, a8, a9, a10, a11, a12, a13, rfl⟩

theorem decideConnectives_fn (a b c : E) (cells : List CellD) (w0 : World) (ca cb cd : List Value) (vc : Value) (ha : RdE [] w0 a ca) (hb : RdE [] w0 b cb) (hc : RdE [] w0 c cd) (hC : RdCs [] w0 vc cells) (hK : Masks [] w0) :
    Does Tryd.prog 4 #[vc, .agg ca.toArray, .agg cb.toArray, .agg cd.toArray] w0 fun v w' => v = .bool true ∧ Below w0.heap.size w0 w' := by
  obtain ⟨Ac, nc, cc, rfl⟩ := hC.form
  obtain ⟨A1, n1, q1, rfl, -⟩ := ha.open_
  obtain ⟨A2, n2, q2, rfl, -⟩ := hb.open_
  obtain ⟨A3, n3, q3, rfl, -⟩ := hc.open_
  have S := St.refl w0
  have ea : ∀ {w1 : World}, Keep [] w0 w1 → RdE [] w1 a _ := fun hk => RdE.keep hk _ _ ha
  have eb : ∀ {w1 : World}, Keep [] w0 w1 → RdE [] w1 b _ := fun hk => RdE.keep hk _ _ hb
  have ec : ∀ {w1 : World}, Keep [] w0 w1 → RdE [] w1 c _ := fun hk => RdE.keep hk _ _ hc
  refine Does_enter Tryd.func4 rfl Tryd.ntmps4 rfl ?_
  refine W_seq ?_
  refine W_region ?_
  refine o_boxa S (by conv => lhs; whnf) rfl ?_
  intro g5 w5 S5 X5 G5
  refine o_boxa S5 (by conv => lhs; whnf) rfl ?_
  intro g6 w6 S6 X6 G6
  refine o_boxa S6 (by conv => lhs; whnf) rfl ?_
  intro g7 w7 S7 X7 G7
  first | refine o_assign (v := .bool _) rfl rfl ?_ | refine o_assign (by conv => lhs; whnf) rfl ?_
  refine WL_nil ?_
  refine W_seq ?_
  refine W_region ?_
  refine o_callr S7 has_7 rfl rfl (head_fn _ (hK.keep (S7.keep0 []))) ?_
  intro w17 S17 X17
  first | refine o_assign (v := .bool _) rfl rfl ?_ | refine o_assign (by conv => lhs; whnf) rfl ?_
  refine WL_nil ?_
  refine W_seq ?_
  have em : ∀ {w1 : World} (M : List Nat), Keep [] w0 w1 → (∀ g ∈ M, w0.heap.size ≤ g) → RdE M w1 a _ ∧ RdE M w1 b _ ∧ RdE M w1 c _ := fun M hk hM =>
    ⟨RdE.keep hk.of_nil _ _ (RdE.more (fun g hg => .inr (hM g hg)) _ _ ha), RdE.keep hk.of_nil _ _ (RdE.more (fun g hg => .inr (hM g hg)) _ _ hb), RdE.keep hk.of_nil _ _ (RdE.more (fun g hg => .inr (hM g hg)) _ _ hc)⟩
  have s17 := S17.size
  refine W_any follows_mixed (by kernel_rfl) (fun f ε w => ε 0 = .slice Ac nc cc ∧ ε 5 = .pointer (some ⟨g5, 0, none⟩) ∧ ε 6 = .pointer (some ⟨g6, 0, none⟩) ∧ ε 7 = .pointer (some ⟨g7, 0, none⟩) ∧ ε 9 = .bool true ∧ St [] w0 w [(some g7, 25, [.int .i64 c.op, .int .i64 c.w, .int .i64 c.n, .slice A3 n3 q3]), (some g6, 25, [.int .i64 b.op, .int .i64 b.w, .int .i64 b.n, .slice A2 n2 q2]), (some g5, 25, [.int .i64 a.op, .int .i64 a.w, .int .i64 a.n, .slice A1 n1 q1])] ∧ w17.heap.size ≤ w.heap.size ∧
      (f 0 = true → ε 18 = .agg #[.int .i64 a.op, .int .i64 a.w, .int .i64 a.n, .slice A1 n1 q1]) ∧ (f 1 = true → ε 19 = .agg #[.int .i64 b.op, .int .i64 b.w, .int .i64 b.n, .slice A2 n2 q2]) ∧ (f 3 = true → ε 21 = .agg #[.int .i64 c.op, .int .i64 c.w, .int .i64 c.n, .slice A3 n3 q3]) ∧ (f 6 = true → ∀ j, j < 6 → f j = true) ∧
      ∃ M : List Nat, (f 5 = false → M = []) ∧ (f 5 = true → ∃ g cs, M = [g] ∧ ε 10 = .pointer (some ⟨g, 0, none⟩) ∧ hasBlk w (g, 27, cs) ∧ cs.length = 14 ∧ (f 6 = true → RdCond [g] w (mkC (andE a b) c) cs)) ∧
        (∀ g ∈ M, w17.heap.size ≤ g ∧ g < w.heap.size) ∧ (f 2 = true → ∃ cs : List Value, ε 20 = .agg cs.toArray ∧ RdE M w (andE a b) cs) ∧ (f 4 = true → ∃ cs : List Value, ε 22 = .agg cs.toArray ∧ RdCond M w (mkC (andE a b) c) cs)) ?_ ?_ ?_
  · exact ⟨rfl, rfl, rfl, rfl, rfl, S17.drew, Nat.le_refl _, by simp, by simp, by simp, by simp, [], by simp, by simp, by simp, by simp, by simp⟩
  · rintro f ε w i o ⟨e0, e5, e6, e7, e9, S, Z, h0, h1, h3, h6, M, hM0, hM1, hMb, h2, h4⟩ ho hfi hpr
    have hi : i < 7 := (List.getElem?_eq_some_iff.1 ho).1
    have hMw : ∀ g ∈ M, w0.heap.size ≤ g := fun g hg => by have := hMb g hg; omega
    have n6 : f 6 = false := by
      cases hq : f 6 with
      | false => rfl
      | true =>
        by_cases h' : i = 6
        · subst h'; rw [hfi] at hq; exact hq.symm
        · have := h6 hq i (by omega); rw [hfi] at this; exact this.symm
    rcases (show i = 0 ∨ i = 1 ∨ i = 2 ∨ i = 3 ∨ i = 4 ∨ i = 5 ∨ i = 6 by omega) with rfl | rfl | rfl | rfl | rfl | rfl | rfl
    · cases ho
      refine WL_known 5 e5 (o_loadN many_25 rfl (S.cells 2 rfl) rfl rfl ?_)
      exact WL_nil ⟨rfl, e0, rfl, e6, e7, e9, S, Z, fun _ => rfl, fun hh => h1 (by simpa using hh), fun hh => h3 (by simpa using hh), fun q => absurd q (by simp [n6]), M, fun hh => hM0 (by simpa using hh), fun hh => (by obtain ⟨g, cs, k1, k2, k3, k4, -⟩ := hM1 (by simpa using hh); exact ⟨g, cs, k1, k2, k3, k4, fun q => absurd q (by simp [n6])⟩), hMb, fun hh => h2 (by simpa using hh), fun hh => h4 (by simpa using hh)⟩
    · cases ho
      refine WL_known 6 e6 (o_loadN many_25 rfl (S.cells 1 rfl) rfl rfl ?_)
      exact WL_nil ⟨rfl, e0, e5, rfl, e7, e9, S, Z, fun hh => h0 (by simpa using hh), fun _ => rfl, fun hh => h3 (by simpa using hh), fun q => absurd q (by simp [n6]), M, fun hh => hM0 (by simpa using hh), fun hh => (by obtain ⟨g, cs, k1, k2, k3, k4, -⟩ := hM1 (by simpa using hh); exact ⟨g, cs, k1, k2, k3, k4, fun q => absurd q (by simp [n6])⟩), hMb, fun hh => h2 (by simpa using hh), fun hh => h4 (by simpa using hh)⟩
    · cases ho
      refine WL_known 18 (h0 (hpr 0 (by decide))) (WL_known 19 (h1 (hpr 1 (by decide))) ?_)
      obtain ⟨r1, r2, -⟩ := em M (S.keep0 []) hMw
      refine o_calln S has_12 rfl rfl (two_fn 5 1 (by decide) (by decide) a b _ _ M _ (fun g hg => (hMb g hg).2) r1 r2) ?_
      rintro v w1 ⟨cs, rfl, r⟩ S1 X1
      have s1 := X1.size
      refine WL_nil ⟨rfl, e0, e5, e6, e7, e9, S1, by omega, fun hh => rfl, fun hh => rfl, fun hh => h3 (by simpa using hh), fun q => absurd q (by simp [n6]), M, fun hh => hM0 (by simpa using hh), fun hh => (by obtain ⟨g, cs, k1, k2, k3, k4, -⟩ := hM1 (by simpa using hh); exact ⟨g, cs, k1, k2, keep_hasBlk X1 k3, k4, fun q => absurd q (by simp [n6])⟩), fun g hg => ⟨(hMb g hg).1, by have := (hMb g hg).2; omega⟩, fun _ => ⟨cs, rfl, r⟩, fun hh => ?_⟩
      obtain ⟨cs4, k1, k2⟩ := h4 (by simpa using hh); exact ⟨cs4, k1, k2.keep X1.of_nil⟩
    · cases ho
      refine WL_known 7 e7 (o_loadN many_25 rfl (S.cells 0 rfl) rfl rfl ?_)
      exact WL_nil ⟨rfl, e0, e5, e6, rfl, e9, S, Z, fun hh => h0 (by simpa using hh), fun hh => h1 (by simpa using hh), fun _ => rfl, fun q => absurd q (by simp [n6]), M, fun hh => hM0 (by simpa using hh), fun hh => (by obtain ⟨g, cs, k1, k2, k3, k4, -⟩ := hM1 (by simpa using hh); exact ⟨g, cs, k1, k2, k3, k4, fun q => absurd q (by simp [n6])⟩), hMb, fun hh => h2 (by simpa using hh), fun hh => h4 (by simpa using hh)⟩
    · cases ho
      obtain ⟨cs, k20, r20⟩ := h2 (hpr 2 (by decide))
      refine WL_known 20 k20 (WL_known 21 (h3 (hpr 3 (by decide))) ?_)
      obtain ⟨-, -, r3⟩ := em M (S.keep0 []) hMw
      refine o_calln S has_11 rfl rfl (cond_fn (andE a b) c _ _ M _ r20 r3) ?_
      rintro v w1 ⟨cs4, rfl, r⟩ S1 X1
      have s1 := X1.size
      exact WL_nil ⟨rfl, e0, e5, e6, e7, e9, S1, by omega, fun hh => h0 (by simpa using hh), fun hh => h1 (by simpa using hh), fun hh => rfl, fun q => absurd q (by simp [n6]), M, fun hh => hM0 (by simpa using hh), fun hh => (by obtain ⟨g, cs, k1, k2, k3, k4, -⟩ := hM1 (by simpa using hh); exact ⟨g, cs, k1, k2, keep_hasBlk X1 k3, k4, fun q => absurd q (by simp [n6])⟩), fun g hg => ⟨(hMb g hg).1, by have := (hMb g hg).2; omega⟩, fun _ => ⟨cs, rfl, RdE.keep X1.of_nil _ _ r20⟩, fun hh => ⟨cs4, rfl, r⟩⟩
    · cases ho
      obtain rfl := hM0 hfi
      refine o_alloc S zv_27 rfl rfl ?_
      intro g w1 S1 X1 G1
      have s1 := X1.size
      have hm : ∀ x ∈ [g], x ∈ ([] : List Nat) ∨ w.heap.size ≤ x := fun x hx => (by simp at hx; subst hx; exact .inr G1)
      have l1 := S1.lt 0 rfl
      refine WL_nil ⟨rfl, e0, e5, e6, e7, e9, S1.tail, by omega, fun hh => h0 (by simpa using hh), fun hh => h1 (by simpa using hh), fun hh => h3 (by simpa using hh), fun q => absurd q (by simp [n6]), [g], fun hh => absurd hh (by simp), fun _ => ⟨g, _, rfl, rfl, S1.blk 0 rfl, rfl, fun q => absurd q (by simp [n6])⟩, fun x hx => (by simp at hx; subst hx; exact ⟨by omega, l1⟩), fun hh => ?_, fun hh => ?_⟩
      · obtain ⟨cs, k1, k2⟩ := h2 (by simpa using hh); exact ⟨cs, k1, RdE.keep X1.of_nil _ _ (RdE.more hm _ _ k2)⟩
      · obtain ⟨cs, k1, k2⟩ := h4 (by simpa using hh); exact ⟨cs, k1, (k2.more hm).keep X1.of_nil⟩
    · cases ho
      obtain ⟨g, cs0, rfl, k10, kb, kl, -⟩ := hM1 (hpr 5 (by decide))
      obtain ⟨cs, k22, r22⟩ := h4 (hpr 4 (by decide))
      have hall : ∀ j, j < 6 → f j = true := fun j hj => hpr j (by rcases (show j = 0 ∨ j = 1 ∨ j = 2 ∨ j = 3 ∨ j = 4 ∨ j = 5 by omega) with rfl | rfl | rfl | rfl | rfl | rfl <;> decide)
      have hne : ∀ x ∈ ([(some g7, 25, [.int .i64 c.op, .int .i64 c.w, .int .i64 c.n, .slice A3 n3 q3]), (some g6, 25, [.int .i64 b.op, .int .i64 b.w, .int .i64 b.n, .slice A2 n2 q2]), (some g5, 25, [.int .i64 a.op, .int .i64 a.w, .int .i64 a.n, .slice A1 n1 q1])] : List Ent), x.1 ≠ some g := by
        have hg := (hMb g (by simp)).1
        have y7 := S17.lt 0 rfl
        have y6 := S17.lt 1 rfl
        have y5 := S17.lt 2 rfl
        intro x hx; simp at hx; rcases hx with rfl | rfl | rfl <;> (simp; omega)
      have S1 := S.push kb (.inl (hMw g (by simp))) hne
      obtain ⟨ch, cg, rfl, rh, rg⟩ := id r22
      obtain ⟨Ah, nh, qh, rfl, -⟩ := rh.open_
      obtain ⟨Ag, ng, qg, rfl, -⟩ := rg.open_
      obtain ⟨z0, z1, z2, z3, z4, z5, z6, z7, z8, z9, z10, z11, z12, z13, rfl⟩ := l14 kl
      refine WL_known 10 k10 (WL_known 22 k22 ?_)
      refine o_storeN (kk := 0) (vs := [_, _, _, _, _, _, _, _, _, _, _, _, _, _]) S1 sz_27 rfl rfl rfl rfl rfl rfl rfl ?_
      intro w1 S2 X2
      dsimp only [setsAt, List.set] at S2
      have s2 := X2.size
      have lg := S2.lt 0 rfl
      have r22' := r22.keep X2
      exact WL_nil ⟨rfl, e0, e5, e6, e7, e9, S2.tail, by omega, fun _ => h0 (hall 0 (by omega)), fun _ => h1 (hall 1 (by omega)), fun _ => h3 (hall 3 (by omega)), fun _ j hj => (by simp [hall j hj]), [g], fun q => absurd q (by simp [hall 5 (by omega)]), fun _ => ⟨g, _, rfl, rfl, S2.blk 0 rfl, rfl, fun _ => r22'⟩, fun x hx => (by simp at hx; subst hx; exact ⟨(hMb x (by simp)).1, lg⟩), fun _ => (by obtain ⟨cs, k1, k2⟩ := h2 (hall 2 (by omega)); exact ⟨cs, k1, RdE.keep X2 _ _ k2⟩), fun _ => ⟨_, rfl, r22'⟩⟩
  rintro f ε wD ⟨e0, e5, e6, e7, e9, S, Z, -, -, -, -, M, -, hM1, hMb, -, -⟩ hall
  obtain ⟨g10, cs10, rfl, k10, kb, kl, r10⟩ := hM1 (hall 5 (by decide))
  have r10 := (r10 (hall 6 (by decide))).more (M' := []) (by simp)
  have hne : ∀ x ∈ ([(some g7, 25, [.int .i64 c.op, .int .i64 c.w, .int .i64 c.n, .slice A3 n3 q3]), (some g6, 25, [.int .i64 b.op, .int .i64 b.w, .int .i64 b.n, .slice A2 n2 q2]), (some g5, 25, [.int .i64 a.op, .int .i64 a.w, .int .i64 a.n, .slice A1 n1 q1])] : List Ent), x.1 ≠ some g10 := by
    have hg := (hMb g10 (by simp)).1
    have y7 := S17.lt 0 rfl
    have y6 := S17.lt 1 rfl
    have y5 := S17.lt 2 rfl
    intro x hx; simp at hx; rcases hx with rfl | rfl | rfl <;> (simp; omega)
  have SD := S.push kb (.inl (by have := (hMb g10 (by simp)).1; omega)) hne
  obtain ⟨z0, z1, z2, z3, z4, z5, z6, z7, z8, z9, z10, z11, z12, z13, rfl⟩ := l14 kl
  clear hall S hM1 hMb em
  refine W_known 0 e0 ?_
  refine W_known 5 e5 ?_
  refine W_known 6 e6 ?_
  refine W_known 7 e7 ?_
  refine W_known 9 e9 ?_
  refine W_known 10 k10 ?_
  refine W_seq ?_
  refine W_seq ?_
  refine W_region ?_
  first | refine o_loadN many_25 rfl (SD.cells 0 rfl) rfl rfl ?_ | refine o_loadN many_25 rfl (SD.cells 1 rfl) rfl rfl ?_ | refine o_loadN many_25 rfl (SD.cells 2 rfl) rfl rfl ?_ | refine o_loadN many_25 rfl (SD.cells 3 rfl) rfl rfl ?_
  refine o_callb SD has_13 rfl rfl (small_fn a [] _ _ _ (ea (SD.keep0 [])) (by omega) (by omega)) (fun h24 w24 S24 X24 => ?_) (fun h24 w24 S24 X24 => ?_)
  · replace r10 := r10.keep (X24.of_nil)
    refine o_not rfl rfl ?_
    first | refine o_move (v := .bool _) rfl rfl ?_ | refine o_move (by conv => lhs; whnf) rfl ?_
    refine WL_on rfl rfl rfl ?_
    first | refine o_loadN many_25 rfl (S24.cells 0 rfl) rfl rfl ?_ | refine o_loadN many_25 rfl (S24.cells 1 rfl) rfl rfl ?_ | refine o_loadN many_25 rfl (S24.cells 2 rfl) rfl rfl ?_ | refine o_loadN many_25 rfl (S24.cells 3 rfl) rfl rfl ?_
    refine WL_on rfl rfl rfl ?_
    refine o_callb S24 has_13 rfl rfl (small_fn b [] _ _ _ (eb (S24.keep0 [])) (by omega) (by omega)) (fun h28 w28 S28 X28 => ?_) (fun h28 w28 S28 X28 => ?_)
    · replace r10 := r10.keep (X28.of_nil)
      refine WL_on rfl rfl rfl ?_
      refine o_not rfl rfl ?_
      first | refine o_pick rfl (v := .bool _) rfl rfl ?_ | refine o_pick rfl (by conv => lhs; whnf) rfl ?_
      first | refine o_move (v := .bool _) rfl rfl ?_ | refine o_move (by conv => lhs; whnf) rfl ?_
      refine WL_on rfl rfl rfl ?_
      first | refine o_move (v := .slice _ _ _) rfl rfl ?_ | refine o_move (by conv => lhs; whnf) rfl ?_
      refine WL_on rfl rfl rfl ?_
      first | refine o_loadN many_27 rfl (S28.cells 0 rfl) rfl rfl ?_ | refine o_loadN many_27 rfl (S28.cells 1 rfl) rfl rfl ?_ | refine o_loadN many_27 rfl (S28.cells 2 rfl) rfl rfl ?_ | refine o_loadN many_27 rfl (S28.cells 3 rfl) rfl rfl ?_
      refine WL_on rfl rfl rfl ?_
      obtain ⟨b34, hb34, hq34⟩ := quick_fn (mkC (andE a b) c) cells [] w28 _ _ r10 (hC.keep (S28.keep0 [])) (by simp)
      refine o_callb S28 has_8 rfl rfl (hq34) (fun h34 w34 S34 X34 => ?_) (fun h34 w34 S34 X34 => ?_)
      · replace r10 := r10.keep (X34.of_nil)
        refine WL_on rfl rfl rfl ?_
        refine o_not rfl rfl ?_
        first | refine o_pick rfl (v := .bool _) rfl rfl ?_ | refine o_pick rfl (by conv => lhs; whnf) rfl ?_
        first | refine o_move (v := .bool _) rfl rfl ?_ | refine o_move (by conv => lhs; whnf) rfl ?_
        refine WL_on rfl rfl rfl ?_
        first | refine o_move (v := .slice _ _ _) rfl rfl ?_ | refine o_move (by conv => lhs; whnf) rfl ?_
        refine WL_on rfl rfl rfl ?_
        first | refine o_loadN many_27 rfl (S34.cells 0 rfl) rfl rfl ?_ | refine o_loadN many_27 rfl (S34.cells 1 rfl) rfl rfl ?_ | refine o_loadN many_27 rfl (S34.cells 2 rfl) rfl rfl ?_ | refine o_loadN many_27 rfl (S34.cells 3 rfl) rfl rfl ?_
        refine WL_on rfl rfl rfl ?_
        refine o_callb S34 has_14 rfl rfl (formed20_fn (mkC (andE a b) c) cells [] _ _ _ r10 (hC.keep (S34.keep0 []))) (fun h40 w40 S40 X40 => ?_) (fun h40 w40 S40 X40 => ?_)
        · replace r10 := r10.keep (X40.of_nil)
          refine WL_on rfl rfl rfl ?_
          refine o_not rfl rfl ?_
          first | refine o_pick rfl (v := .bool _) rfl rfl ?_ | refine o_pick rfl (by conv => lhs; whnf) rfl ?_
          first | refine o_move (v := .bool _) rfl rfl ?_ | refine o_move (by conv => lhs; whnf) rfl ?_
          refine WL_on rfl rfl rfl ?_
          refine o_fieldAddr fa_25_1 rfl rfl ?_
          refine WL_on rfl rfl rfl ?_
          refine o_load one_3 rfl (by first | exact S40.cell 0 rfl rfl | exact S40.cell 1 rfl rfl | exact S40.cell 2 rfl rfl | exact S40.cell 3 rfl rfl) rfl ?_
          refine WL_on rfl rfl rfl ?_
          refine o_neq rfl rfl rfl (fun h46 => ?_) (fun h46 => ?_)
          · first | refine o_pick rfl (v := .bool _) rfl rfl ?_ | refine o_pick rfl (by conv => lhs; whnf) rfl ?_
            first | refine o_move (v := .bool _) rfl rfl ?_ | refine o_move (by conv => lhs; whnf) rfl ?_
            refine WL_off rfl rfl rfl rfl ?_
            refine WL_off rfl rfl rfl rfl ?_
            refine WL_off rfl rfl rfl rfl ?_
            first | refine o_pick rfl (v := .bool _) rfl rfl ?_ | refine o_pick rfl (by conv => lhs; whnf) rfl ?_
            refine WL_nil ?_
            refine W_then rfl ?_
            refine W_seq ?_
            refine W_region ?_
            first | refine o_move (v := .bool _) rfl rfl ?_ | refine o_move (by conv => lhs; whnf) rfl ?_
            first | refine o_assign (v := .bool _) rfl rfl ?_ | refine o_assign (by conv => lhs; whnf) rfl ?_
            refine WL_nil ?_
            refine W_ret ?_
            refine ret_1 rfl (by conv => lhs; whnf) ?_
            first
              | exact ⟨rfl, S40.fin⟩
              | (exfalso; have hh := bits_eq hy58 hy65 hy74 (and_law (hd58.1 hb77) (hd65.1 hb79) (hd74.1 hb82)); rw [hb85, hb86, hb88] at hh; cases hh; done)
              | (exfalso; have hh := bits_eq hy58 hy65 hy74 (and_law (hd58.1 hb77) (hd65.1 hb79) (hd74.1 hb82)); rw [hb85, hb86] at hh; cases hh; done)
              | (exfalso; have hh := bits_eq hy96 hy103 hy112 (or_law (hd96.1 hb117) (hd103.1 hb120) (hd112.1 hb124)); rw [hb128, hb129, hb131] at hh; cases hh; done)
              | (exfalso; have hh := bits_eq hy96 hy103 hy112 (or_law (hd96.1 hb117) (hd103.1 hb120) (hd112.1 hb124)); rw [hb128, hb129] at hh; cases hh; done)
          · first | refine o_pick rfl (v := .bool _) rfl rfl ?_ | refine o_pick rfl (by conv => lhs; whnf) rfl ?_
            first | refine o_move (v := .bool _) rfl rfl ?_ | refine o_move (by conv => lhs; whnf) rfl ?_
            refine WL_on rfl rfl rfl ?_
            refine o_fieldAddr fa_25_1 rfl rfl ?_
            refine WL_on rfl rfl rfl ?_
            refine o_load one_3 rfl (by first | exact S40.cell 0 rfl rfl | exact S40.cell 1 rfl rfl | exact S40.cell 2 rfl rfl | exact S40.cell 3 rfl rfl) rfl ?_
            refine WL_on rfl rfl rfl ?_
            refine o_neq rfl rfl rfl (fun h51 => ?_) (fun h51 => ?_)
            · first | refine o_pick rfl (v := .bool _) rfl rfl ?_ | refine o_pick rfl (by conv => lhs; whnf) rfl ?_
              refine WL_nil ?_
              refine W_then rfl ?_
              refine W_seq ?_
              refine W_region ?_
              first | refine o_move (v := .bool _) rfl rfl ?_ | refine o_move (by conv => lhs; whnf) rfl ?_
              first | refine o_assign (v := .bool _) rfl rfl ?_ | refine o_assign (by conv => lhs; whnf) rfl ?_
              refine WL_nil ?_
              refine W_ret ?_
              refine ret_1 rfl (by conv => lhs; whnf) ?_
              first
                | exact ⟨rfl, S40.fin⟩
                | (exfalso; have hh := bits_eq hy58 hy65 hy74 (and_law (hd58.1 hb77) (hd65.1 hb79) (hd74.1 hb82)); rw [hb85, hb86, hb88] at hh; cases hh; done)
                | (exfalso; have hh := bits_eq hy58 hy65 hy74 (and_law (hd58.1 hb77) (hd65.1 hb79) (hd74.1 hb82)); rw [hb85, hb86] at hh; cases hh; done)
                | (exfalso; have hh := bits_eq hy96 hy103 hy112 (or_law (hd96.1 hb117) (hd103.1 hb120) (hd112.1 hb124)); rw [hb128, hb129, hb131] at hh; cases hh; done)
                | (exfalso; have hh := bits_eq hy96 hy103 hy112 (or_law (hd96.1 hb117) (hd103.1 hb120) (hd112.1 hb124)); rw [hb128, hb129] at hh; cases hh; done)
            · first | refine o_pick rfl (v := .bool _) rfl rfl ?_ | refine o_pick rfl (by conv => lhs; whnf) rfl ?_
              refine WL_nil ?_
              refine W_else rfl ?_
              refine W_skip ?_
              refine W_seq ?_
              have hcl : cells.length ≤ 1000 := small_len (hb34 h34)
              refine W_region ?_
              first | refine o_move (v := .slice _ _ _) rfl rfl ?_ | refine o_move (by conv => lhs; whnf) rfl ?_
              first | refine o_loadN many_25 rfl (S40.cells 0 rfl) rfl rfl ?_ | refine o_loadN many_25 rfl (S40.cells 1 rfl) rfl rfl ?_ | refine o_loadN many_25 rfl (S40.cells 2 rfl) rfl rfl ?_ | refine o_loadN many_25 rfl (S40.cells 3 rfl) rfl rfl ?_
              first | refine o_loadN many_25 rfl (S40.cells 0 rfl) rfl rfl ?_ | refine o_loadN many_25 rfl (S40.cells 1 rfl) rfl rfl ?_ | refine o_loadN many_25 rfl (S40.cells 2 rfl) rfl rfl ?_ | refine o_loadN many_25 rfl (S40.cells 3 rfl) rfl rfl ?_
              refine o_calln S40 has_15 rfl rfl (holds_fn c a _ _ cells _ [] _ (ec (S40.keep0 [])) (ea (S40.keep0 [])) (hC.keep (S40.keep0 [])) (hK.keep (S40.keep0 [])) (by simp) hcl) ?_
              rintro v58 w58 ⟨y58, d58, rfl, hy58, hd58⟩ S58 X58
              replace r10 := r10.keep (X58.of_nil)
              first | refine o_move (v := .tuple _) rfl rfl ?_ | refine o_move (by conv => lhs; whnf) rfl ?_
              refine o_extract rfl rfl rfl ?_
              refine o_extract rfl rfl rfl ?_
              first | refine o_assign (v := .bool _) rfl rfl ?_ | refine o_assign (by conv => lhs; whnf) rfl ?_
              first | refine o_assign (v := .bool _) rfl rfl ?_ | refine o_assign (by conv => lhs; whnf) rfl ?_
              refine WL_nil ?_
              refine W_seq ?_
              refine W_region ?_
              first | refine o_move (v := .slice _ _ _) rfl rfl ?_ | refine o_move (by conv => lhs; whnf) rfl ?_
              first | refine o_loadN many_25 rfl (S58.cells 0 rfl) rfl rfl ?_ | refine o_loadN many_25 rfl (S58.cells 1 rfl) rfl rfl ?_ | refine o_loadN many_25 rfl (S58.cells 2 rfl) rfl rfl ?_ | refine o_loadN many_25 rfl (S58.cells 3 rfl) rfl rfl ?_
              first | refine o_loadN many_25 rfl (S58.cells 0 rfl) rfl rfl ?_ | refine o_loadN many_25 rfl (S58.cells 1 rfl) rfl rfl ?_ | refine o_loadN many_25 rfl (S58.cells 2 rfl) rfl rfl ?_ | refine o_loadN many_25 rfl (S58.cells 3 rfl) rfl rfl ?_
              refine o_calln S58 has_15 rfl rfl (holds_fn c b _ _ cells _ [] _ (ec (S58.keep0 [])) (eb (S58.keep0 [])) (hC.keep (S58.keep0 [])) (hK.keep (S58.keep0 [])) (by simp) hcl) ?_
              rintro v65 w65 ⟨y65, d65, rfl, hy65, hd65⟩ S65 X65
              replace r10 := r10.keep (X65.of_nil)
              first | refine o_move (v := .tuple _) rfl rfl ?_ | refine o_move (by conv => lhs; whnf) rfl ?_
              refine o_extract rfl rfl rfl ?_
              refine o_extract rfl rfl rfl ?_
              first | refine o_assign (v := .bool _) rfl rfl ?_ | refine o_assign (by conv => lhs; whnf) rfl ?_
              first | refine o_assign (v := .bool _) rfl rfl ?_ | refine o_assign (by conv => lhs; whnf) rfl ?_
              refine WL_nil ?_
              refine W_seq ?_
              refine W_mix follows_mixed (fun i => [0, 1, 2, 3, 6, 7, 8, 9, 10].contains i) [0, 1, 2, 3, 4, 5, 6, 7, 8, 9, 10] (by kernel_rfl) (by kernel_rfl) (Cl _ _ _ _) (Cl.start S65) ?_
              rintro wR7 ⟨SR7, XR7⟩
              replace r10 := r10.keep (XR7.of_nil)
              refine WM_q ⟨SR7, XR7⟩ rfl rfl rfl ?_
              first | refine q_move (v := .slice _ _ _) rfl rfl ?_ | refine q_move (by conv => lhs; whnf) rfl ?_
              refine QL_nil ?_
              refine WM_q ⟨SR7, XR7⟩ rfl rfl rfl ?_
              first | refine q_loadN many_25 rfl (fun w1 hw => hw.1.cells 0 rfl) rfl rfl ?_ | refine q_loadN many_25 rfl (fun w1 hw => hw.1.cells 1 rfl) rfl rfl ?_ | refine q_loadN many_25 rfl (fun w1 hw => hw.1.cells 2 rfl) rfl rfl ?_ | refine q_loadN many_25 rfl (fun w1 hw => hw.1.cells 3 rfl) rfl rfl ?_
              refine QL_nil ?_
              refine WM_q ⟨SR7, XR7⟩ rfl rfl rfl ?_
              first | refine q_loadN many_25 rfl (fun w1 hw => hw.1.cells 0 rfl) rfl rfl ?_ | refine q_loadN many_25 rfl (fun w1 hw => hw.1.cells 1 rfl) rfl rfl ?_ | refine q_loadN many_25 rfl (fun w1 hw => hw.1.cells 2 rfl) rfl rfl ?_ | refine q_loadN many_25 rfl (fun w1 hw => hw.1.cells 3 rfl) rfl rfl ?_
              refine QL_nil ?_
              refine WM_q ⟨SR7, XR7⟩ rfl rfl rfl ?_
              first | refine q_loadN many_25 rfl (fun w1 hw => hw.1.cells 0 rfl) rfl rfl ?_ | refine q_loadN many_25 rfl (fun w1 hw => hw.1.cells 1 rfl) rfl rfl ?_ | refine q_loadN many_25 rfl (fun w1 hw => hw.1.cells 2 rfl) rfl rfl ?_ | refine q_loadN many_25 rfl (fun w1 hw => hw.1.cells 3 rfl) rfl rfl ?_
              refine QL_nil ?_
              refine WM_o ⟨SR7, XR7⟩ rfl rfl rfl rfl ?_
              refine o_calln SR7 has_12 rfl rfl (two_fn 5 1 (by decide) (by decide) a b _ _ [] _ (by simp) (ea (SR7.keep0 [])) (eb (SR7.keep0 []))) ?_
              rintro v73 w73 ⟨c73, rfl, r73⟩ S73 X73
              have XCw73 := XR7.trans X73
              replace r10 := r10.keep (X73.of_nil)
              refine WL_nil ⟨rfl, ?_⟩
              refine WM_o ⟨S73, XCw73⟩ rfl rfl rfl rfl ?_
              refine o_calln S73 has_15 rfl rfl (holds_fn c (andE a b) _ _ cells _ [] _ (ec (S73.keep0 [])) r73 (hC.keep (S73.keep0 [])) (hK.keep (S73.keep0 [])) (by simp) hcl) ?_
              rintro v74 w74 ⟨y74, d74, rfl, hy74, hd74⟩ S74 X74
              have XCw74 := XCw73.trans X74
              replace r10 := r10.keep (X74.of_nil)
              refine WL_nil ⟨rfl, ?_⟩
              refine WM_q ⟨S74, XCw74⟩ rfl rfl rfl ?_
              first | refine q_move (v := .tuple _) rfl rfl ?_ | refine q_move (by conv => lhs; whnf) rfl ?_
              refine QL_nil ?_
              refine WM_q ⟨S74, XCw74⟩ rfl rfl rfl ?_
              refine q_extract rfl rfl rfl ?_
              refine QL_nil ?_
              refine WM_q ⟨S74, XCw74⟩ rfl rfl rfl ?_
              refine q_extract rfl rfl rfl ?_
              refine QL_nil ?_
              refine WM_q ⟨S74, XCw74⟩ rfl rfl rfl ?_
              first | refine q_assign (v := .bool _) rfl rfl ?_ | refine q_assign (by conv => lhs; whnf) rfl ?_
              refine QL_nil ?_
              refine WM_q ⟨S74, XCw74⟩ rfl rfl rfl ?_
              first | refine q_assign (v := .bool _) rfl rfl ?_ | refine q_assign (by conv => lhs; whnf) rfl ?_
              refine QL_nil ?_
              refine WM_nil ⟨S74, XCw74⟩ ?_
              refine W_cut (fun D ε w => D = [] ∧ St [] w0 w [(some g10, 27, [z0, z1, z2, z3, z4, z5, z6, z7, z8, z9, z10, z11, z12, z13]), (some g7, 25, [.int .i64 c.op, .int .i64 c.w, .int .i64 c.n, .slice A3 n3 q3]), (some g6, 25, [.int .i64 b.op, .int .i64 b.w, .int .i64 b.n, .slice A2 n2 q2]), (some g5, 25, [.int .i64 a.op, .int .i64 a.w, .int .i64 a.n, .slice A1 n1 q1])] ∧ ε 0 = .slice Ac nc cc ∧ ε 5 = .pointer (some ⟨g5, 0, none⟩) ∧ ε 6 = .pointer (some ⟨g6, 0, none⟩) ∧ ε 7 = .pointer (some ⟨g7, 0, none⟩) ∧ ε 9 = .bool true) ?_ ?_
              · refine W_seq ?_
                refine W_region ?_
                cases hb77 : d58
                · first | refine o_move (v := .bool _) rfl rfl ?_ | refine o_move (by conv => lhs; whnf) rfl ?_
                  first | refine o_move (v := .bool _) rfl rfl ?_ | refine o_move (by conv => lhs; whnf) rfl ?_
                  refine WL_off rfl rfl rfl rfl ?_
                  first | refine o_pick rfl (v := .bool _) rfl rfl ?_ | refine o_pick rfl (by conv => lhs; whnf) rfl ?_
                  first | refine o_move (v := .bool _) rfl rfl ?_ | refine o_move (by conv => lhs; whnf) rfl ?_
                  refine WL_off rfl rfl rfl rfl ?_
                  first | refine o_pick rfl (v := .bool _) rfl rfl ?_ | refine o_pick rfl (by conv => lhs; whnf) rfl ?_
                  first | refine o_move (v := .bool _) rfl rfl ?_ | refine o_move (by conv => lhs; whnf) rfl ?_
                  refine WL_off rfl rfl rfl rfl ?_
                  refine WL_off rfl rfl rfl rfl ?_
                  refine WL_off rfl rfl rfl rfl ?_
                  refine WL_off rfl rfl rfl rfl ?_
                  refine WL_off rfl rfl rfl rfl ?_
                  refine WL_off rfl rfl rfl rfl ?_
                  first | refine o_pick rfl (v := .bool _) rfl rfl ?_ | refine o_pick rfl (by conv => lhs; whnf) rfl ?_
                  refine WL_nil ?_
                  refine W_else rfl ?_
                  refine W_skip ?_
                  exact ⟨rfl, S74, rfl, rfl, rfl, rfl, rfl⟩
                · first | refine o_move (v := .bool _) rfl rfl ?_ | refine o_move (by conv => lhs; whnf) rfl ?_
                  first | refine o_move (v := .bool _) rfl rfl ?_ | refine o_move (by conv => lhs; whnf) rfl ?_
                  refine WL_on rfl rfl rfl ?_
                  cases hb79 : d65
                  · first | refine o_move (v := .bool _) rfl rfl ?_ | refine o_move (by conv => lhs; whnf) rfl ?_
                    first | refine o_pick rfl (v := .bool _) rfl rfl ?_ | refine o_pick rfl (by conv => lhs; whnf) rfl ?_
                    first | refine o_move (v := .bool _) rfl rfl ?_ | refine o_move (by conv => lhs; whnf) rfl ?_
                    refine WL_off rfl rfl rfl rfl ?_
                    first | refine o_pick rfl (v := .bool _) rfl rfl ?_ | refine o_pick rfl (by conv => lhs; whnf) rfl ?_
                    first | refine o_move (v := .bool _) rfl rfl ?_ | refine o_move (by conv => lhs; whnf) rfl ?_
                    refine WL_off rfl rfl rfl rfl ?_
                    refine WL_off rfl rfl rfl rfl ?_
                    refine WL_off rfl rfl rfl rfl ?_
                    refine WL_off rfl rfl rfl rfl ?_
                    refine WL_off rfl rfl rfl rfl ?_
                    refine WL_off rfl rfl rfl rfl ?_
                    first | refine o_pick rfl (v := .bool _) rfl rfl ?_ | refine o_pick rfl (by conv => lhs; whnf) rfl ?_
                    refine WL_nil ?_
                    refine W_else rfl ?_
                    refine W_skip ?_
                    exact ⟨rfl, S74, rfl, rfl, rfl, rfl, rfl⟩
                  · first | refine o_move (v := .bool _) rfl rfl ?_ | refine o_move (by conv => lhs; whnf) rfl ?_
                    first | refine o_pick rfl (v := .bool _) rfl rfl ?_ | refine o_pick rfl (by conv => lhs; whnf) rfl ?_
                    first | refine o_move (v := .bool _) rfl rfl ?_ | refine o_move (by conv => lhs; whnf) rfl ?_
                    refine WL_on rfl rfl rfl ?_
                    cases hb82 : d74
                    · first | refine o_move (v := .bool _) rfl rfl ?_ | refine o_move (by conv => lhs; whnf) rfl ?_
                      first | refine o_pick rfl (v := .bool _) rfl rfl ?_ | refine o_pick rfl (by conv => lhs; whnf) rfl ?_
                      first | refine o_move (v := .bool _) rfl rfl ?_ | refine o_move (by conv => lhs; whnf) rfl ?_
                      refine WL_off rfl rfl rfl rfl ?_
                      refine WL_off rfl rfl rfl rfl ?_
                      refine WL_off rfl rfl rfl rfl ?_
                      refine WL_off rfl rfl rfl rfl ?_
                      refine WL_off rfl rfl rfl rfl ?_
                      refine WL_off rfl rfl rfl rfl ?_
                      first | refine o_pick rfl (v := .bool _) rfl rfl ?_ | refine o_pick rfl (by conv => lhs; whnf) rfl ?_
                      refine WL_nil ?_
                      refine W_else rfl ?_
                      refine W_skip ?_
                      exact ⟨rfl, S74, rfl, rfl, rfl, rfl, rfl⟩
                    · first | refine o_move (v := .bool _) rfl rfl ?_ | refine o_move (by conv => lhs; whnf) rfl ?_
                      first | refine o_pick rfl (v := .bool _) rfl rfl ?_ | refine o_pick rfl (by conv => lhs; whnf) rfl ?_
                      first | refine o_move (v := .bool _) rfl rfl ?_ | refine o_move (by conv => lhs; whnf) rfl ?_
                      refine WL_on rfl rfl rfl ?_
                      cases hb85 : y74
                      · first | refine o_move (v := .bool _) rfl rfl ?_ | refine o_move (by conv => lhs; whnf) rfl ?_
                        refine WL_on rfl rfl rfl ?_
                        cases hb86 : y58
                        · first | refine o_move (v := .bool _) rfl rfl ?_ | refine o_move (by conv => lhs; whnf) rfl ?_
                          refine WL_on rfl rfl rfl ?_
                          first | refine o_move (v := .bool _) rfl rfl ?_ | refine o_move (by conv => lhs; whnf) rfl ?_
                          refine WL_off rfl rfl rfl rfl ?_
                          refine WL_on rfl rfl rfl ?_
                          first | refine o_pick rfl (v := .bool _) rfl rfl ?_ | refine o_pick rfl (by conv => lhs; whnf) rfl ?_
                          refine WL_on rfl rfl rfl ?_
                          refine o_neqb Tryd.underlying4 rfl rfl rfl ?_
                          first | refine o_pick rfl (v := .bool _) rfl rfl ?_ | refine o_pick rfl (by conv => lhs; whnf) rfl ?_
                          refine WL_nil ?_
                          refine W_else rfl ?_
                          refine W_skip ?_
                          exact ⟨rfl, S74, rfl, rfl, rfl, rfl, rfl⟩
                        · first | refine o_move (v := .bool _) rfl rfl ?_ | refine o_move (by conv => lhs; whnf) rfl ?_
                          refine WL_on rfl rfl rfl ?_
                          first | refine o_move (v := .bool _) rfl rfl ?_ | refine o_move (by conv => lhs; whnf) rfl ?_
                          refine WL_on rfl rfl rfl ?_
                          cases hb88 : y65
                          · first | refine o_move (v := .bool _) rfl rfl ?_ | refine o_move (by conv => lhs; whnf) rfl ?_
                            refine WL_on rfl rfl rfl ?_
                            first | refine o_pick rfl (v := .bool _) rfl rfl ?_ | refine o_pick rfl (by conv => lhs; whnf) rfl ?_
                            refine WL_on rfl rfl rfl ?_
                            refine o_neqb Tryd.underlying4 rfl rfl rfl ?_
                            first | refine o_pick rfl (v := .bool _) rfl rfl ?_ | refine o_pick rfl (by conv => lhs; whnf) rfl ?_
                            refine WL_nil ?_
                            refine W_else rfl ?_
                            refine W_skip ?_
                            exact ⟨rfl, S74, rfl, rfl, rfl, rfl, rfl⟩
                          · first | refine o_move (v := .bool _) rfl rfl ?_ | refine o_move (by conv => lhs; whnf) rfl ?_
                            refine WL_on rfl rfl rfl ?_
                            first | refine o_pick rfl (v := .bool _) rfl rfl ?_ | refine o_pick rfl (by conv => lhs; whnf) rfl ?_
                            refine WL_on rfl rfl rfl ?_
                            refine o_neqb Tryd.underlying4 rfl rfl rfl ?_
                            first | refine o_pick rfl (v := .bool _) rfl rfl ?_ | refine o_pick rfl (by conv => lhs; whnf) rfl ?_
                            refine WL_nil ?_
                            refine W_then rfl ?_
                            refine W_seq ?_
                            refine W_region ?_
                            first | refine o_assign (v := .bool _) rfl rfl ?_ | refine o_assign (by conv => lhs; whnf) rfl ?_
                            refine WL_nil ?_
                            refine W_ret ?_
                            refine ret_1 rfl (by conv => lhs; whnf) ?_
                            first
                              | exact ⟨rfl, S74.fin⟩
                              | (exfalso; have hh := bits_eq hy58 hy65 hy74 (and_law (hd58.1 hb77) (hd65.1 hb79) (hd74.1 hb82)); rw [hb85, hb86, hb88] at hh; cases hh; done)
                              | (exfalso; have hh := bits_eq hy58 hy65 hy74 (and_law (hd58.1 hb77) (hd65.1 hb79) (hd74.1 hb82)); rw [hb85, hb86] at hh; cases hh; done)
                              | (exfalso; have hh := bits_eq hy96 hy103 hy112 (or_law (hd96.1 hb117) (hd103.1 hb120) (hd112.1 hb124)); rw [hb128, hb129, hb131] at hh; cases hh; done)
                              | (exfalso; have hh := bits_eq hy96 hy103 hy112 (or_law (hd96.1 hb117) (hd103.1 hb120) (hd112.1 hb124)); rw [hb128, hb129] at hh; cases hh; done)
                      · first | refine o_move (v := .bool _) rfl rfl ?_ | refine o_move (by conv => lhs; whnf) rfl ?_
                        refine WL_on rfl rfl rfl ?_
                        cases hb86 : y58
                        · first | refine o_move (v := .bool _) rfl rfl ?_ | refine o_move (by conv => lhs; whnf) rfl ?_
                          refine WL_on rfl rfl rfl ?_
                          first | refine o_move (v := .bool _) rfl rfl ?_ | refine o_move (by conv => lhs; whnf) rfl ?_
                          refine WL_off rfl rfl rfl rfl ?_
                          refine WL_on rfl rfl rfl ?_
                          first | refine o_pick rfl (v := .bool _) rfl rfl ?_ | refine o_pick rfl (by conv => lhs; whnf) rfl ?_
                          refine WL_on rfl rfl rfl ?_
                          refine o_neqb Tryd.underlying4 rfl rfl rfl ?_
                          first | refine o_pick rfl (v := .bool _) rfl rfl ?_ | refine o_pick rfl (by conv => lhs; whnf) rfl ?_
                          refine WL_nil ?_
                          refine W_then rfl ?_
                          refine W_seq ?_
                          refine W_region ?_
                          first | refine o_assign (v := .bool _) rfl rfl ?_ | refine o_assign (by conv => lhs; whnf) rfl ?_
                          refine WL_nil ?_
                          refine W_ret ?_
                          refine ret_1 rfl (by conv => lhs; whnf) ?_
                          first
                            | exact ⟨rfl, S74.fin⟩
                            | (exfalso; have hh := bits_eq hy58 hy65 hy74 (and_law (hd58.1 hb77) (hd65.1 hb79) (hd74.1 hb82)); rw [hb85, hb86, hb88] at hh; cases hh; done)
                            | (exfalso; have hh := bits_eq hy58 hy65 hy74 (and_law (hd58.1 hb77) (hd65.1 hb79) (hd74.1 hb82)); rw [hb85, hb86] at hh; cases hh; done)
                            | (exfalso; have hh := bits_eq hy96 hy103 hy112 (or_law (hd96.1 hb117) (hd103.1 hb120) (hd112.1 hb124)); rw [hb128, hb129, hb131] at hh; cases hh; done)
                            | (exfalso; have hh := bits_eq hy96 hy103 hy112 (or_law (hd96.1 hb117) (hd103.1 hb120) (hd112.1 hb124)); rw [hb128, hb129] at hh; cases hh; done)
                        · first | refine o_move (v := .bool _) rfl rfl ?_ | refine o_move (by conv => lhs; whnf) rfl ?_
                          refine WL_on rfl rfl rfl ?_
                          first | refine o_move (v := .bool _) rfl rfl ?_ | refine o_move (by conv => lhs; whnf) rfl ?_
                          refine WL_on rfl rfl rfl ?_
                          cases hb88 : y65
                          · first | refine o_move (v := .bool _) rfl rfl ?_ | refine o_move (by conv => lhs; whnf) rfl ?_
                            refine WL_on rfl rfl rfl ?_
                            first | refine o_pick rfl (v := .bool _) rfl rfl ?_ | refine o_pick rfl (by conv => lhs; whnf) rfl ?_
                            refine WL_on rfl rfl rfl ?_
                            refine o_neqb Tryd.underlying4 rfl rfl rfl ?_
                            first | refine o_pick rfl (v := .bool _) rfl rfl ?_ | refine o_pick rfl (by conv => lhs; whnf) rfl ?_
                            refine WL_nil ?_
                            refine W_then rfl ?_
                            refine W_seq ?_
                            refine W_region ?_
                            first | refine o_assign (v := .bool _) rfl rfl ?_ | refine o_assign (by conv => lhs; whnf) rfl ?_
                            refine WL_nil ?_
                            refine W_ret ?_
                            refine ret_1 rfl (by conv => lhs; whnf) ?_
                            first
                              | exact ⟨rfl, S74.fin⟩
                              | (exfalso; have hh := bits_eq hy58 hy65 hy74 (and_law (hd58.1 hb77) (hd65.1 hb79) (hd74.1 hb82)); rw [hb85, hb86, hb88] at hh; cases hh; done)
                              | (exfalso; have hh := bits_eq hy58 hy65 hy74 (and_law (hd58.1 hb77) (hd65.1 hb79) (hd74.1 hb82)); rw [hb85, hb86] at hh; cases hh; done)
                              | (exfalso; have hh := bits_eq hy96 hy103 hy112 (or_law (hd96.1 hb117) (hd103.1 hb120) (hd112.1 hb124)); rw [hb128, hb129, hb131] at hh; cases hh; done)
                              | (exfalso; have hh := bits_eq hy96 hy103 hy112 (or_law (hd96.1 hb117) (hd103.1 hb120) (hd112.1 hb124)); rw [hb128, hb129] at hh; cases hh; done)
                          · first | refine o_move (v := .bool _) rfl rfl ?_ | refine o_move (by conv => lhs; whnf) rfl ?_
                            refine WL_on rfl rfl rfl ?_
                            first | refine o_pick rfl (v := .bool _) rfl rfl ?_ | refine o_pick rfl (by conv => lhs; whnf) rfl ?_
                            refine WL_on rfl rfl rfl ?_
                            refine o_neqb Tryd.underlying4 rfl rfl rfl ?_
                            first | refine o_pick rfl (v := .bool _) rfl rfl ?_ | refine o_pick rfl (by conv => lhs; whnf) rfl ?_
                            refine WL_nil ?_
                            refine W_else rfl ?_
                            refine W_skip ?_
                            exact ⟨rfl, S74, rfl, rfl, rfl, rfl, rfl⟩
              · rintro D ε w ⟨rfl, S, e0, e5, e6, e7, e9⟩
                refine W_known 0 e0 ?_
                refine W_known 5 e5 ?_
                refine W_known 6 e6 ?_
                refine W_known 7 e7 ?_
                refine W_known 9 e9 ?_
                clear e0 e5 e6 e7 e9
                refine W_seq ?_
                refine W_region ?_
                first | refine o_move (v := .slice _ _ _) rfl rfl ?_ | refine o_move (by conv => lhs; whnf) rfl ?_
                first | refine o_loadN many_25 rfl (S.cells 0 rfl) rfl rfl ?_ | refine o_loadN many_25 rfl (S.cells 1 rfl) rfl rfl ?_ | refine o_loadN many_25 rfl (S.cells 2 rfl) rfl rfl ?_ | refine o_loadN many_25 rfl (S.cells 3 rfl) rfl rfl ?_
                first | refine o_loadN many_25 rfl (S.cells 0 rfl) rfl rfl ?_ | refine o_loadN many_25 rfl (S.cells 1 rfl) rfl rfl ?_ | refine o_loadN many_25 rfl (S.cells 2 rfl) rfl rfl ?_ | refine o_loadN many_25 rfl (S.cells 3 rfl) rfl rfl ?_
                refine o_calln S has_15 rfl rfl (holds_fn a c _ _ cells _ [] _ (ea (S.keep0 [])) (ec (S.keep0 [])) (hC.keep (S.keep0 [])) (hK.keep (S.keep0 [])) (by simp) hcl) ?_
                rintro v96 w96 ⟨y96, d96, rfl, hy96, hd96⟩ S96 X96
                first | refine o_move (v := .tuple _) rfl rfl ?_ | refine o_move (by conv => lhs; whnf) rfl ?_
                refine o_extract rfl rfl rfl ?_
                refine o_extract rfl rfl rfl ?_
                first | refine o_assign (v := .bool _) rfl rfl ?_ | refine o_assign (by conv => lhs; whnf) rfl ?_
                first | refine o_assign (v := .bool _) rfl rfl ?_ | refine o_assign (by conv => lhs; whnf) rfl ?_
                refine WL_nil ?_
                refine W_seq ?_
                refine W_region ?_
                first | refine o_move (v := .slice _ _ _) rfl rfl ?_ | refine o_move (by conv => lhs; whnf) rfl ?_
                first | refine o_loadN many_25 rfl (S96.cells 0 rfl) rfl rfl ?_ | refine o_loadN many_25 rfl (S96.cells 1 rfl) rfl rfl ?_ | refine o_loadN many_25 rfl (S96.cells 2 rfl) rfl rfl ?_ | refine o_loadN many_25 rfl (S96.cells 3 rfl) rfl rfl ?_
                first | refine o_loadN many_25 rfl (S96.cells 0 rfl) rfl rfl ?_ | refine o_loadN many_25 rfl (S96.cells 1 rfl) rfl rfl ?_ | refine o_loadN many_25 rfl (S96.cells 2 rfl) rfl rfl ?_ | refine o_loadN many_25 rfl (S96.cells 3 rfl) rfl rfl ?_
                refine o_calln S96 has_15 rfl rfl (holds_fn b c _ _ cells _ [] _ (eb (S96.keep0 [])) (ec (S96.keep0 [])) (hC.keep (S96.keep0 [])) (hK.keep (S96.keep0 [])) (by simp) hcl) ?_
                rintro v103 w103 ⟨y103, d103, rfl, hy103, hd103⟩ S103 X103
                first | refine o_move (v := .tuple _) rfl rfl ?_ | refine o_move (by conv => lhs; whnf) rfl ?_
                refine o_extract rfl rfl rfl ?_
                refine o_extract rfl rfl rfl ?_
                first | refine o_assign (v := .bool _) rfl rfl ?_ | refine o_assign (by conv => lhs; whnf) rfl ?_
                first | refine o_assign (v := .bool _) rfl rfl ?_ | refine o_assign (by conv => lhs; whnf) rfl ?_
                refine WL_nil ?_
                refine W_seq ?_
                refine W_mix follows_mixed (fun i => [0, 1, 2, 4, 6, 7, 8, 9, 10].contains i) [0, 1, 2, 3, 4, 5, 6, 7, 8, 9, 10] (by kernel_rfl) (by kernel_rfl) (Cl _ _ _ _) (Cl.start S103) ?_
                rintro wR12 ⟨SR12, XR12⟩
                refine WM_q ⟨SR12, XR12⟩ rfl rfl rfl ?_
                first | refine q_move (v := .slice _ _ _) rfl rfl ?_ | refine q_move (by conv => lhs; whnf) rfl ?_
                refine QL_nil ?_
                refine WM_q ⟨SR12, XR12⟩ rfl rfl rfl ?_
                first | refine q_loadN many_25 rfl (fun w1 hw => hw.1.cells 0 rfl) rfl rfl ?_ | refine q_loadN many_25 rfl (fun w1 hw => hw.1.cells 1 rfl) rfl rfl ?_ | refine q_loadN many_25 rfl (fun w1 hw => hw.1.cells 2 rfl) rfl rfl ?_ | refine q_loadN many_25 rfl (fun w1 hw => hw.1.cells 3 rfl) rfl rfl ?_
                refine QL_nil ?_
                refine WM_q ⟨SR12, XR12⟩ rfl rfl rfl ?_
                first | refine q_loadN many_25 rfl (fun w1 hw => hw.1.cells 0 rfl) rfl rfl ?_ | refine q_loadN many_25 rfl (fun w1 hw => hw.1.cells 1 rfl) rfl rfl ?_ | refine q_loadN many_25 rfl (fun w1 hw => hw.1.cells 2 rfl) rfl rfl ?_ | refine q_loadN many_25 rfl (fun w1 hw => hw.1.cells 3 rfl) rfl rfl ?_
                refine QL_nil ?_
                refine WM_o ⟨SR12, XR12⟩ rfl rfl rfl rfl ?_
                refine o_calln SR12 has_12 rfl rfl (two_fn 6 1 (by decide) (by decide) a b _ _ [] _ (by simp) (ea (SR12.keep0 [])) (eb (SR12.keep0 []))) ?_
                rintro v110 w110 ⟨c110, rfl, r110⟩ S110 X110
                have XCw110 := XR12.trans X110
                refine WL_nil ⟨rfl, ?_⟩
                refine WM_q ⟨S110, XCw110⟩ rfl rfl rfl ?_
                first | refine q_loadN many_25 rfl (fun w1 hw => hw.1.cells 0 rfl) rfl rfl ?_ | refine q_loadN many_25 rfl (fun w1 hw => hw.1.cells 1 rfl) rfl rfl ?_ | refine q_loadN many_25 rfl (fun w1 hw => hw.1.cells 2 rfl) rfl rfl ?_ | refine q_loadN many_25 rfl (fun w1 hw => hw.1.cells 3 rfl) rfl rfl ?_
                refine QL_nil ?_
                refine WM_o ⟨S110, XCw110⟩ rfl rfl rfl rfl ?_
                refine o_calln S110 has_15 rfl rfl (holds_fn (orE a b) c _ _ cells _ [] _ r110 (ec (S110.keep0 [])) (hC.keep (S110.keep0 [])) (hK.keep (S110.keep0 [])) (by simp) hcl) ?_
                rintro v112 w112 ⟨y112, d112, rfl, hy112, hd112⟩ S112 X112
                have XCw112 := XCw110.trans X112
                refine WL_nil ⟨rfl, ?_⟩
                refine WM_q ⟨S112, XCw112⟩ rfl rfl rfl ?_
                first | refine q_move (v := .tuple _) rfl rfl ?_ | refine q_move (by conv => lhs; whnf) rfl ?_
                refine QL_nil ?_
                refine WM_q ⟨S112, XCw112⟩ rfl rfl rfl ?_
                refine q_extract rfl rfl rfl ?_
                refine QL_nil ?_
                refine WM_q ⟨S112, XCw112⟩ rfl rfl rfl ?_
                refine q_extract rfl rfl rfl ?_
                refine QL_nil ?_
                refine WM_q ⟨S112, XCw112⟩ rfl rfl rfl ?_
                first | refine q_assign (v := .bool _) rfl rfl ?_ | refine q_assign (by conv => lhs; whnf) rfl ?_
                refine QL_nil ?_
                refine WM_q ⟨S112, XCw112⟩ rfl rfl rfl ?_
                first | refine q_assign (v := .bool _) rfl rfl ?_ | refine q_assign (by conv => lhs; whnf) rfl ?_
                refine QL_nil ?_
                refine WM_nil ⟨S112, XCw112⟩ ?_
                refine W_seq ?_
                refine W_region ?_
                first | refine o_move (v := .bool _) rfl rfl ?_ | refine o_move (by conv => lhs; whnf) rfl ?_
                first | refine o_move (v := .bool _) rfl rfl ?_ | refine o_move (by conv => lhs; whnf) rfl ?_
                refine WL_on rfl rfl rfl ?_
                cases hb117 : d96
                · first | refine o_move (v := .bool _) rfl rfl ?_ | refine o_move (by conv => lhs; whnf) rfl ?_
                  refine WL_on rfl rfl rfl ?_
                  refine o_not rfl rfl ?_
                  refine WL_on rfl rfl rfl ?_
                  first | refine o_move (v := .bool _) rfl rfl ?_ | refine o_move (by conv => lhs; whnf) rfl ?_
                  refine WL_off rfl rfl rfl rfl ?_
                  refine WL_off rfl rfl rfl rfl ?_
                  refine WL_on rfl rfl rfl ?_
                  first | refine o_pick rfl (v := .bool _) rfl rfl ?_ | refine o_pick rfl (by conv => lhs; whnf) rfl ?_
                  refine WL_on rfl rfl rfl ?_
                  first | refine o_move (v := .bool _) rfl rfl ?_ | refine o_move (by conv => lhs; whnf) rfl ?_
                  refine WL_off rfl rfl rfl rfl ?_
                  refine WL_off rfl rfl rfl rfl ?_
                  refine WL_on rfl rfl rfl ?_
                  first | refine o_pick rfl (v := .bool _) rfl rfl ?_ | refine o_pick rfl (by conv => lhs; whnf) rfl ?_
                  refine WL_on rfl rfl rfl ?_
                  first | refine o_move (v := .bool _) rfl rfl ?_ | refine o_move (by conv => lhs; whnf) rfl ?_
                  refine WL_off rfl rfl rfl rfl ?_
                  refine WL_off rfl rfl rfl rfl ?_
                  refine WL_off rfl rfl rfl rfl ?_
                  refine WL_off rfl rfl rfl rfl ?_
                  refine WL_off rfl rfl rfl rfl ?_
                  refine WL_off rfl rfl rfl rfl ?_
                  refine WL_on rfl rfl rfl ?_
                  first | refine o_pick rfl (v := .bool _) rfl rfl ?_ | refine o_pick rfl (by conv => lhs; whnf) rfl ?_
                  first | refine o_pick rfl (v := .bool _) rfl rfl ?_ | refine o_pick rfl (by conv => lhs; whnf) rfl ?_
                  first | refine o_assign (v := .bool _) rfl rfl ?_ | refine o_assign (by conv => lhs; whnf) rfl ?_
                  refine WL_nil ?_
                  refine W_ret ?_
                  refine ret_1 rfl (by conv => lhs; whnf) ?_
                  first
                    | exact ⟨rfl, S112.fin⟩
                    | (exfalso; have hh := bits_eq hy58 hy65 hy74 (and_law (hd58.1 hb77) (hd65.1 hb79) (hd74.1 hb82)); rw [hb85, hb86, hb88] at hh; cases hh; done)
                    | (exfalso; have hh := bits_eq hy58 hy65 hy74 (and_law (hd58.1 hb77) (hd65.1 hb79) (hd74.1 hb82)); rw [hb85, hb86] at hh; cases hh; done)
                    | (exfalso; have hh := bits_eq hy96 hy103 hy112 (or_law (hd96.1 hb117) (hd103.1 hb120) (hd112.1 hb124)); rw [hb128, hb129, hb131] at hh; cases hh; done)
                    | (exfalso; have hh := bits_eq hy96 hy103 hy112 (or_law (hd96.1 hb117) (hd103.1 hb120) (hd112.1 hb124)); rw [hb128, hb129] at hh; cases hh; done)
                · first | refine o_move (v := .bool _) rfl rfl ?_ | refine o_move (by conv => lhs; whnf) rfl ?_
                  refine WL_on rfl rfl rfl ?_
                  refine o_not rfl rfl ?_
                  refine WL_on rfl rfl rfl ?_
                  first | refine o_move (v := .bool _) rfl rfl ?_ | refine o_move (by conv => lhs; whnf) rfl ?_
                  refine WL_on rfl rfl rfl ?_
                  cases hb120 : d103
                  · first | refine o_move (v := .bool _) rfl rfl ?_ | refine o_move (by conv => lhs; whnf) rfl ?_
                    refine WL_on rfl rfl rfl ?_
                    refine o_not rfl rfl ?_
                    refine WL_on rfl rfl rfl ?_
                    first | refine o_pick rfl (v := .bool _) rfl rfl ?_ | refine o_pick rfl (by conv => lhs; whnf) rfl ?_
                    refine WL_on rfl rfl rfl ?_
                    first | refine o_move (v := .bool _) rfl rfl ?_ | refine o_move (by conv => lhs; whnf) rfl ?_
                    refine WL_off rfl rfl rfl rfl ?_
                    refine WL_off rfl rfl rfl rfl ?_
                    refine WL_on rfl rfl rfl ?_
                    first | refine o_pick rfl (v := .bool _) rfl rfl ?_ | refine o_pick rfl (by conv => lhs; whnf) rfl ?_
                    refine WL_on rfl rfl rfl ?_
                    first | refine o_move (v := .bool _) rfl rfl ?_ | refine o_move (by conv => lhs; whnf) rfl ?_
                    refine WL_off rfl rfl rfl rfl ?_
                    refine WL_off rfl rfl rfl rfl ?_
                    refine WL_off rfl rfl rfl rfl ?_
                    refine WL_off rfl rfl rfl rfl ?_
                    refine WL_off rfl rfl rfl rfl ?_
                    refine WL_off rfl rfl rfl rfl ?_
                    refine WL_on rfl rfl rfl ?_
                    first | refine o_pick rfl (v := .bool _) rfl rfl ?_ | refine o_pick rfl (by conv => lhs; whnf) rfl ?_
                    first | refine o_pick rfl (v := .bool _) rfl rfl ?_ | refine o_pick rfl (by conv => lhs; whnf) rfl ?_
                    first | refine o_assign (v := .bool _) rfl rfl ?_ | refine o_assign (by conv => lhs; whnf) rfl ?_
                    refine WL_nil ?_
                    refine W_ret ?_
                    refine ret_1 rfl (by conv => lhs; whnf) ?_
                    first
                      | exact ⟨rfl, S112.fin⟩
                      | (exfalso; have hh := bits_eq hy58 hy65 hy74 (and_law (hd58.1 hb77) (hd65.1 hb79) (hd74.1 hb82)); rw [hb85, hb86, hb88] at hh; cases hh; done)
                      | (exfalso; have hh := bits_eq hy58 hy65 hy74 (and_law (hd58.1 hb77) (hd65.1 hb79) (hd74.1 hb82)); rw [hb85, hb86] at hh; cases hh; done)
                      | (exfalso; have hh := bits_eq hy96 hy103 hy112 (or_law (hd96.1 hb117) (hd103.1 hb120) (hd112.1 hb124)); rw [hb128, hb129, hb131] at hh; cases hh; done)
                      | (exfalso; have hh := bits_eq hy96 hy103 hy112 (or_law (hd96.1 hb117) (hd103.1 hb120) (hd112.1 hb124)); rw [hb128, hb129] at hh; cases hh; done)
                  · first | refine o_move (v := .bool _) rfl rfl ?_ | refine o_move (by conv => lhs; whnf) rfl ?_
                    refine WL_on rfl rfl rfl ?_
                    refine o_not rfl rfl ?_
                    refine WL_on rfl rfl rfl ?_
                    first | refine o_pick rfl (v := .bool _) rfl rfl ?_ | refine o_pick rfl (by conv => lhs; whnf) rfl ?_
                    refine WL_on rfl rfl rfl ?_
                    first | refine o_move (v := .bool _) rfl rfl ?_ | refine o_move (by conv => lhs; whnf) rfl ?_
                    refine WL_on rfl rfl rfl ?_
                    cases hb124 : d112
                    · first | refine o_move (v := .bool _) rfl rfl ?_ | refine o_move (by conv => lhs; whnf) rfl ?_
                      refine WL_on rfl rfl rfl ?_
                      refine o_not rfl rfl ?_
                      refine WL_on rfl rfl rfl ?_
                      first | refine o_pick rfl (v := .bool _) rfl rfl ?_ | refine o_pick rfl (by conv => lhs; whnf) rfl ?_
                      refine WL_on rfl rfl rfl ?_
                      first | refine o_move (v := .bool _) rfl rfl ?_ | refine o_move (by conv => lhs; whnf) rfl ?_
                      refine WL_off rfl rfl rfl rfl ?_
                      refine WL_off rfl rfl rfl rfl ?_
                      refine WL_off rfl rfl rfl rfl ?_
                      refine WL_off rfl rfl rfl rfl ?_
                      refine WL_off rfl rfl rfl rfl ?_
                      refine WL_off rfl rfl rfl rfl ?_
                      refine WL_on rfl rfl rfl ?_
                      first | refine o_pick rfl (v := .bool _) rfl rfl ?_ | refine o_pick rfl (by conv => lhs; whnf) rfl ?_
                      first | refine o_pick rfl (v := .bool _) rfl rfl ?_ | refine o_pick rfl (by conv => lhs; whnf) rfl ?_
                      first | refine o_assign (v := .bool _) rfl rfl ?_ | refine o_assign (by conv => lhs; whnf) rfl ?_
                      refine WL_nil ?_
                      refine W_ret ?_
                      refine ret_1 rfl (by conv => lhs; whnf) ?_
                      first
                        | exact ⟨rfl, S112.fin⟩
                        | (exfalso; have hh := bits_eq hy58 hy65 hy74 (and_law (hd58.1 hb77) (hd65.1 hb79) (hd74.1 hb82)); rw [hb85, hb86, hb88] at hh; cases hh; done)
                        | (exfalso; have hh := bits_eq hy58 hy65 hy74 (and_law (hd58.1 hb77) (hd65.1 hb79) (hd74.1 hb82)); rw [hb85, hb86] at hh; cases hh; done)
                        | (exfalso; have hh := bits_eq hy96 hy103 hy112 (or_law (hd96.1 hb117) (hd103.1 hb120) (hd112.1 hb124)); rw [hb128, hb129, hb131] at hh; cases hh; done)
                        | (exfalso; have hh := bits_eq hy96 hy103 hy112 (or_law (hd96.1 hb117) (hd103.1 hb120) (hd112.1 hb124)); rw [hb128, hb129] at hh; cases hh; done)
                    · first | refine o_move (v := .bool _) rfl rfl ?_ | refine o_move (by conv => lhs; whnf) rfl ?_
                      refine WL_on rfl rfl rfl ?_
                      refine o_not rfl rfl ?_
                      refine WL_on rfl rfl rfl ?_
                      first | refine o_pick rfl (v := .bool _) rfl rfl ?_ | refine o_pick rfl (by conv => lhs; whnf) rfl ?_
                      refine WL_on rfl rfl rfl ?_
                      first | refine o_move (v := .bool _) rfl rfl ?_ | refine o_move (by conv => lhs; whnf) rfl ?_
                      refine WL_on rfl rfl rfl ?_
                      cases hb128 : y112
                      · first | refine o_move (v := .bool _) rfl rfl ?_ | refine o_move (by conv => lhs; whnf) rfl ?_
                        refine WL_on rfl rfl rfl ?_
                        cases hb129 : y96
                        · first | refine o_move (v := .bool _) rfl rfl ?_ | refine o_move (by conv => lhs; whnf) rfl ?_
                          refine WL_on rfl rfl rfl ?_
                          first | refine o_move (v := .bool _) rfl rfl ?_ | refine o_move (by conv => lhs; whnf) rfl ?_
                          refine WL_off rfl rfl rfl rfl ?_
                          refine WL_on rfl rfl rfl ?_
                          first | refine o_pick rfl (v := .bool _) rfl rfl ?_ | refine o_pick rfl (by conv => lhs; whnf) rfl ?_
                          refine WL_on rfl rfl rfl ?_
                          refine o_eqlb Tryd.underlying4 rfl rfl rfl ?_
                          refine WL_on rfl rfl rfl ?_
                          first | refine o_pick rfl (v := .bool _) rfl rfl ?_ | refine o_pick rfl (by conv => lhs; whnf) rfl ?_
                          first | refine o_pick rfl (v := .bool _) rfl rfl ?_ | refine o_pick rfl (by conv => lhs; whnf) rfl ?_
                          first | refine o_assign (v := .bool _) rfl rfl ?_ | refine o_assign (by conv => lhs; whnf) rfl ?_
                          refine WL_nil ?_
                          refine W_ret ?_
                          refine ret_1 rfl (by conv => lhs; whnf) ?_
                          first
                            | exact ⟨rfl, S112.fin⟩
                            | (exfalso; have hh := bits_eq hy58 hy65 hy74 (and_law (hd58.1 hb77) (hd65.1 hb79) (hd74.1 hb82)); rw [hb85, hb86, hb88] at hh; cases hh; done)
                            | (exfalso; have hh := bits_eq hy58 hy65 hy74 (and_law (hd58.1 hb77) (hd65.1 hb79) (hd74.1 hb82)); rw [hb85, hb86] at hh; cases hh; done)
                            | (exfalso; have hh := bits_eq hy96 hy103 hy112 (or_law (hd96.1 hb117) (hd103.1 hb120) (hd112.1 hb124)); rw [hb128, hb129, hb131] at hh; cases hh; done)
                            | (exfalso; have hh := bits_eq hy96 hy103 hy112 (or_law (hd96.1 hb117) (hd103.1 hb120) (hd112.1 hb124)); rw [hb128, hb129] at hh; cases hh; done)
                        · first | refine o_move (v := .bool _) rfl rfl ?_ | refine o_move (by conv => lhs; whnf) rfl ?_
                          refine WL_on rfl rfl rfl ?_
                          first | refine o_move (v := .bool _) rfl rfl ?_ | refine o_move (by conv => lhs; whnf) rfl ?_
                          refine WL_on rfl rfl rfl ?_
                          cases hb131 : y103
                          · first | refine o_move (v := .bool _) rfl rfl ?_ | refine o_move (by conv => lhs; whnf) rfl ?_
                            refine WL_on rfl rfl rfl ?_
                            first | refine o_pick rfl (v := .bool _) rfl rfl ?_ | refine o_pick rfl (by conv => lhs; whnf) rfl ?_
                            refine WL_on rfl rfl rfl ?_
                            refine o_eqlb Tryd.underlying4 rfl rfl rfl ?_
                            refine WL_on rfl rfl rfl ?_
                            first | refine o_pick rfl (v := .bool _) rfl rfl ?_ | refine o_pick rfl (by conv => lhs; whnf) rfl ?_
                            first | refine o_pick rfl (v := .bool _) rfl rfl ?_ | refine o_pick rfl (by conv => lhs; whnf) rfl ?_
                            first | refine o_assign (v := .bool _) rfl rfl ?_ | refine o_assign (by conv => lhs; whnf) rfl ?_
                            refine WL_nil ?_
                            refine W_ret ?_
                            refine ret_1 rfl (by conv => lhs; whnf) ?_
                            first
                              | exact ⟨rfl, S112.fin⟩
                              | (exfalso; have hh := bits_eq hy58 hy65 hy74 (and_law (hd58.1 hb77) (hd65.1 hb79) (hd74.1 hb82)); rw [hb85, hb86, hb88] at hh; cases hh; done)
                              | (exfalso; have hh := bits_eq hy58 hy65 hy74 (and_law (hd58.1 hb77) (hd65.1 hb79) (hd74.1 hb82)); rw [hb85, hb86] at hh; cases hh; done)
                              | (exfalso; have hh := bits_eq hy96 hy103 hy112 (or_law (hd96.1 hb117) (hd103.1 hb120) (hd112.1 hb124)); rw [hb128, hb129, hb131] at hh; cases hh; done)
                              | (exfalso; have hh := bits_eq hy96 hy103 hy112 (or_law (hd96.1 hb117) (hd103.1 hb120) (hd112.1 hb124)); rw [hb128, hb129] at hh; cases hh; done)
                          · first | refine o_move (v := .bool _) rfl rfl ?_ | refine o_move (by conv => lhs; whnf) rfl ?_
                            refine WL_on rfl rfl rfl ?_
                            first | refine o_pick rfl (v := .bool _) rfl rfl ?_ | refine o_pick rfl (by conv => lhs; whnf) rfl ?_
                            refine WL_on rfl rfl rfl ?_
                            refine o_eqlb Tryd.underlying4 rfl rfl rfl ?_
                            refine WL_on rfl rfl rfl ?_
                            first | refine o_pick rfl (v := .bool _) rfl rfl ?_ | refine o_pick rfl (by conv => lhs; whnf) rfl ?_
                            first | refine o_pick rfl (v := .bool _) rfl rfl ?_ | refine o_pick rfl (by conv => lhs; whnf) rfl ?_
                            first | refine o_assign (v := .bool _) rfl rfl ?_ | refine o_assign (by conv => lhs; whnf) rfl ?_
                            refine WL_nil ?_
                            refine W_ret ?_
                            refine ret_1 rfl (by conv => lhs; whnf) ?_
                            first
                              | exact ⟨rfl, S112.fin⟩
                              | (exfalso; have hh := bits_eq hy58 hy65 hy74 (and_law (hd58.1 hb77) (hd65.1 hb79) (hd74.1 hb82)); rw [hb85, hb86, hb88] at hh; cases hh; done)
                              | (exfalso; have hh := bits_eq hy58 hy65 hy74 (and_law (hd58.1 hb77) (hd65.1 hb79) (hd74.1 hb82)); rw [hb85, hb86] at hh; cases hh; done)
                              | (exfalso; have hh := bits_eq hy96 hy103 hy112 (or_law (hd96.1 hb117) (hd103.1 hb120) (hd112.1 hb124)); rw [hb128, hb129, hb131] at hh; cases hh; done)
                              | (exfalso; have hh := bits_eq hy96 hy103 hy112 (or_law (hd96.1 hb117) (hd103.1 hb120) (hd112.1 hb124)); rw [hb128, hb129] at hh; cases hh; done)
                      · first | refine o_move (v := .bool _) rfl rfl ?_ | refine o_move (by conv => lhs; whnf) rfl ?_
                        refine WL_on rfl rfl rfl ?_
                        cases hb129 : y96
                        · first | refine o_move (v := .bool _) rfl rfl ?_ | refine o_move (by conv => lhs; whnf) rfl ?_
                          refine WL_on rfl rfl rfl ?_
                          first | refine o_move (v := .bool _) rfl rfl ?_ | refine o_move (by conv => lhs; whnf) rfl ?_
                          refine WL_off rfl rfl rfl rfl ?_
                          refine WL_on rfl rfl rfl ?_
                          first | refine o_pick rfl (v := .bool _) rfl rfl ?_ | refine o_pick rfl (by conv => lhs; whnf) rfl ?_
                          refine WL_on rfl rfl rfl ?_
                          refine o_eqlb Tryd.underlying4 rfl rfl rfl ?_
                          refine WL_on rfl rfl rfl ?_
                          first | refine o_pick rfl (v := .bool _) rfl rfl ?_ | refine o_pick rfl (by conv => lhs; whnf) rfl ?_
                          first | refine o_pick rfl (v := .bool _) rfl rfl ?_ | refine o_pick rfl (by conv => lhs; whnf) rfl ?_
                          first | refine o_assign (v := .bool _) rfl rfl ?_ | refine o_assign (by conv => lhs; whnf) rfl ?_
                          refine WL_nil ?_
                          refine W_ret ?_
                          refine ret_1 rfl (by conv => lhs; whnf) ?_
                          first
                            | exact ⟨rfl, S112.fin⟩
                            | (exfalso; have hh := bits_eq hy58 hy65 hy74 (and_law (hd58.1 hb77) (hd65.1 hb79) (hd74.1 hb82)); rw [hb85, hb86, hb88] at hh; cases hh; done)
                            | (exfalso; have hh := bits_eq hy58 hy65 hy74 (and_law (hd58.1 hb77) (hd65.1 hb79) (hd74.1 hb82)); rw [hb85, hb86] at hh; cases hh; done)
                            | (exfalso; have hh := bits_eq hy96 hy103 hy112 (or_law (hd96.1 hb117) (hd103.1 hb120) (hd112.1 hb124)); rw [hb128, hb129, hb131] at hh; cases hh; done)
                            | (exfalso; have hh := bits_eq hy96 hy103 hy112 (or_law (hd96.1 hb117) (hd103.1 hb120) (hd112.1 hb124)); rw [hb128, hb129] at hh; cases hh; done)
                        · first | refine o_move (v := .bool _) rfl rfl ?_ | refine o_move (by conv => lhs; whnf) rfl ?_
                          refine WL_on rfl rfl rfl ?_
                          first | refine o_move (v := .bool _) rfl rfl ?_ | refine o_move (by conv => lhs; whnf) rfl ?_
                          refine WL_on rfl rfl rfl ?_
                          cases hb131 : y103
                          · first | refine o_move (v := .bool _) rfl rfl ?_ | refine o_move (by conv => lhs; whnf) rfl ?_
                            refine WL_on rfl rfl rfl ?_
                            first | refine o_pick rfl (v := .bool _) rfl rfl ?_ | refine o_pick rfl (by conv => lhs; whnf) rfl ?_
                            refine WL_on rfl rfl rfl ?_
                            refine o_eqlb Tryd.underlying4 rfl rfl rfl ?_
                            refine WL_on rfl rfl rfl ?_
                            first | refine o_pick rfl (v := .bool _) rfl rfl ?_ | refine o_pick rfl (by conv => lhs; whnf) rfl ?_
                            first | refine o_pick rfl (v := .bool _) rfl rfl ?_ | refine o_pick rfl (by conv => lhs; whnf) rfl ?_
                            first | refine o_assign (v := .bool _) rfl rfl ?_ | refine o_assign (by conv => lhs; whnf) rfl ?_
                            refine WL_nil ?_
                            refine W_ret ?_
                            refine ret_1 rfl (by conv => lhs; whnf) ?_
                            first
                              | exact ⟨rfl, S112.fin⟩
                              | (exfalso; have hh := bits_eq hy58 hy65 hy74 (and_law (hd58.1 hb77) (hd65.1 hb79) (hd74.1 hb82)); rw [hb85, hb86, hb88] at hh; cases hh; done)
                              | (exfalso; have hh := bits_eq hy58 hy65 hy74 (and_law (hd58.1 hb77) (hd65.1 hb79) (hd74.1 hb82)); rw [hb85, hb86] at hh; cases hh; done)
                              | (exfalso; have hh := bits_eq hy96 hy103 hy112 (or_law (hd96.1 hb117) (hd103.1 hb120) (hd112.1 hb124)); rw [hb128, hb129, hb131] at hh; cases hh; done)
                              | (exfalso; have hh := bits_eq hy96 hy103 hy112 (or_law (hd96.1 hb117) (hd103.1 hb120) (hd112.1 hb124)); rw [hb128, hb129] at hh; cases hh; done)
                          · first | refine o_move (v := .bool _) rfl rfl ?_ | refine o_move (by conv => lhs; whnf) rfl ?_
                            refine WL_on rfl rfl rfl ?_
                            first | refine o_pick rfl (v := .bool _) rfl rfl ?_ | refine o_pick rfl (by conv => lhs; whnf) rfl ?_
                            refine WL_on rfl rfl rfl ?_
                            refine o_eqlb Tryd.underlying4 rfl rfl rfl ?_
                            refine WL_on rfl rfl rfl ?_
                            first | refine o_pick rfl (v := .bool _) rfl rfl ?_ | refine o_pick rfl (by conv => lhs; whnf) rfl ?_
                            first | refine o_pick rfl (v := .bool _) rfl rfl ?_ | refine o_pick rfl (by conv => lhs; whnf) rfl ?_
                            first | refine o_assign (v := .bool _) rfl rfl ?_ | refine o_assign (by conv => lhs; whnf) rfl ?_
                            refine WL_nil ?_
                            refine W_ret ?_
                            refine ret_1 rfl (by conv => lhs; whnf) ?_
                            first
                              | exact ⟨rfl, S112.fin⟩
                              | (exfalso; have hh := bits_eq hy58 hy65 hy74 (and_law (hd58.1 hb77) (hd65.1 hb79) (hd74.1 hb82)); rw [hb85, hb86, hb88] at hh; cases hh; done)
                              | (exfalso; have hh := bits_eq hy58 hy65 hy74 (and_law (hd58.1 hb77) (hd65.1 hb79) (hd74.1 hb82)); rw [hb85, hb86] at hh; cases hh; done)
                              | (exfalso; have hh := bits_eq hy96 hy103 hy112 (or_law (hd96.1 hb117) (hd103.1 hb120) (hd112.1 hb124)); rw [hb128, hb129, hb131] at hh; cases hh; done)
                              | (exfalso; have hh := bits_eq hy96 hy103 hy112 (or_law (hd96.1 hb117) (hd103.1 hb120) (hd112.1 hb124)); rw [hb128, hb129] at hh; cases hh; done)
        · replace r10 := r10.keep (X40.of_nil)
          refine WL_on rfl rfl rfl ?_
          refine o_not rfl rfl ?_
          first | refine o_pick rfl (v := .bool _) rfl rfl ?_ | refine o_pick rfl (by conv => lhs; whnf) rfl ?_
          first | refine o_move (v := .bool _) rfl rfl ?_ | refine o_move (by conv => lhs; whnf) rfl ?_
          refine WL_off rfl rfl rfl rfl ?_
          refine WL_off rfl rfl rfl rfl ?_
          refine WL_off rfl rfl rfl rfl ?_
          first | refine o_pick rfl (v := .bool _) rfl rfl ?_ | refine o_pick rfl (by conv => lhs; whnf) rfl ?_
          first | refine o_move (v := .bool _) rfl rfl ?_ | refine o_move (by conv => lhs; whnf) rfl ?_
          refine WL_off rfl rfl rfl rfl ?_
          refine WL_off rfl rfl rfl rfl ?_
          refine WL_off rfl rfl rfl rfl ?_
          first | refine o_pick rfl (v := .bool _) rfl rfl ?_ | refine o_pick rfl (by conv => lhs; whnf) rfl ?_
          refine WL_nil ?_
          refine W_then rfl ?_
          refine W_seq ?_
          refine W_region ?_
          first | refine o_move (v := .bool _) rfl rfl ?_ | refine o_move (by conv => lhs; whnf) rfl ?_
          first | refine o_assign (v := .bool _) rfl rfl ?_ | refine o_assign (by conv => lhs; whnf) rfl ?_
          refine WL_nil ?_
          refine W_ret ?_
          refine ret_1 rfl (by conv => lhs; whnf) ?_
          first
            | exact ⟨rfl, S40.fin⟩
            | (exfalso; have hh := bits_eq hy58 hy65 hy74 (and_law (hd58.1 hb77) (hd65.1 hb79) (hd74.1 hb82)); rw [hb85, hb86, hb88] at hh; cases hh; done)
            | (exfalso; have hh := bits_eq hy58 hy65 hy74 (and_law (hd58.1 hb77) (hd65.1 hb79) (hd74.1 hb82)); rw [hb85, hb86] at hh; cases hh; done)
            | (exfalso; have hh := bits_eq hy96 hy103 hy112 (or_law (hd96.1 hb117) (hd103.1 hb120) (hd112.1 hb124)); rw [hb128, hb129, hb131] at hh; cases hh; done)
            | (exfalso; have hh := bits_eq hy96 hy103 hy112 (or_law (hd96.1 hb117) (hd103.1 hb120) (hd112.1 hb124)); rw [hb128, hb129] at hh; cases hh; done)
      · replace r10 := r10.keep (X34.of_nil)
        refine WL_on rfl rfl rfl ?_
        refine o_not rfl rfl ?_
        first | refine o_pick rfl (v := .bool _) rfl rfl ?_ | refine o_pick rfl (by conv => lhs; whnf) rfl ?_
        first | refine o_move (v := .bool _) rfl rfl ?_ | refine o_move (by conv => lhs; whnf) rfl ?_
        refine WL_off rfl rfl rfl rfl ?_
        refine WL_off rfl rfl rfl rfl ?_
        refine WL_off rfl rfl rfl rfl ?_
        refine WL_off rfl rfl rfl rfl ?_
        first | refine o_pick rfl (v := .bool _) rfl rfl ?_ | refine o_pick rfl (by conv => lhs; whnf) rfl ?_
        first | refine o_move (v := .bool _) rfl rfl ?_ | refine o_move (by conv => lhs; whnf) rfl ?_
        refine WL_off rfl rfl rfl rfl ?_
        refine WL_off rfl rfl rfl rfl ?_
        refine WL_off rfl rfl rfl rfl ?_
        first | refine o_pick rfl (v := .bool _) rfl rfl ?_ | refine o_pick rfl (by conv => lhs; whnf) rfl ?_
        first | refine o_move (v := .bool _) rfl rfl ?_ | refine o_move (by conv => lhs; whnf) rfl ?_
        refine WL_off rfl rfl rfl rfl ?_
        refine WL_off rfl rfl rfl rfl ?_
        refine WL_off rfl rfl rfl rfl ?_
        first | refine o_pick rfl (v := .bool _) rfl rfl ?_ | refine o_pick rfl (by conv => lhs; whnf) rfl ?_
        refine WL_nil ?_
        refine W_then rfl ?_
        refine W_seq ?_
        refine W_region ?_
        first | refine o_move (v := .bool _) rfl rfl ?_ | refine o_move (by conv => lhs; whnf) rfl ?_
        first | refine o_assign (v := .bool _) rfl rfl ?_ | refine o_assign (by conv => lhs; whnf) rfl ?_
        refine WL_nil ?_
        refine W_ret ?_
        refine ret_1 rfl (by conv => lhs; whnf) ?_
        first
          | exact ⟨rfl, S34.fin⟩
          | (exfalso; have hh := bits_eq hy58 hy65 hy74 (and_law (hd58.1 hb77) (hd65.1 hb79) (hd74.1 hb82)); rw [hb85, hb86, hb88] at hh; cases hh; done)
          | (exfalso; have hh := bits_eq hy58 hy65 hy74 (and_law (hd58.1 hb77) (hd65.1 hb79) (hd74.1 hb82)); rw [hb85, hb86] at hh; cases hh; done)
          | (exfalso; have hh := bits_eq hy96 hy103 hy112 (or_law (hd96.1 hb117) (hd103.1 hb120) (hd112.1 hb124)); rw [hb128, hb129, hb131] at hh; cases hh; done)
          | (exfalso; have hh := bits_eq hy96 hy103 hy112 (or_law (hd96.1 hb117) (hd103.1 hb120) (hd112.1 hb124)); rw [hb128, hb129] at hh; cases hh; done)
    · replace r10 := r10.keep (X28.of_nil)
      refine WL_on rfl rfl rfl ?_
      refine o_not rfl rfl ?_
      first | refine o_pick rfl (v := .bool _) rfl rfl ?_ | refine o_pick rfl (by conv => lhs; whnf) rfl ?_
      first | refine o_move (v := .bool _) rfl rfl ?_ | refine o_move (by conv => lhs; whnf) rfl ?_
      refine WL_off rfl rfl rfl rfl ?_
      refine WL_off rfl rfl rfl rfl ?_
      refine WL_off rfl rfl rfl rfl ?_
      refine WL_off rfl rfl rfl rfl ?_
      first | refine o_pick rfl (v := .bool _) rfl rfl ?_ | refine o_pick rfl (by conv => lhs; whnf) rfl ?_
      first | refine o_move (v := .bool _) rfl rfl ?_ | refine o_move (by conv => lhs; whnf) rfl ?_
      refine WL_off rfl rfl rfl rfl ?_
      refine WL_off rfl rfl rfl rfl ?_
      refine WL_off rfl rfl rfl rfl ?_
      refine WL_off rfl rfl rfl rfl ?_
      first | refine o_pick rfl (v := .bool _) rfl rfl ?_ | refine o_pick rfl (by conv => lhs; whnf) rfl ?_
      first | refine o_move (v := .bool _) rfl rfl ?_ | refine o_move (by conv => lhs; whnf) rfl ?_
      refine WL_off rfl rfl rfl rfl ?_
      refine WL_off rfl rfl rfl rfl ?_
      refine WL_off rfl rfl rfl rfl ?_
      first | refine o_pick rfl (v := .bool _) rfl rfl ?_ | refine o_pick rfl (by conv => lhs; whnf) rfl ?_
      first | refine o_move (v := .bool _) rfl rfl ?_ | refine o_move (by conv => lhs; whnf) rfl ?_
      refine WL_off rfl rfl rfl rfl ?_
      refine WL_off rfl rfl rfl rfl ?_
      refine WL_off rfl rfl rfl rfl ?_
      first | refine o_pick rfl (v := .bool _) rfl rfl ?_ | refine o_pick rfl (by conv => lhs; whnf) rfl ?_
      refine WL_nil ?_
      refine W_then rfl ?_
      refine W_seq ?_
      refine W_region ?_
      first | refine o_move (v := .bool _) rfl rfl ?_ | refine o_move (by conv => lhs; whnf) rfl ?_
      first | refine o_assign (v := .bool _) rfl rfl ?_ | refine o_assign (by conv => lhs; whnf) rfl ?_
      refine WL_nil ?_
      refine W_ret ?_
      refine ret_1 rfl (by conv => lhs; whnf) ?_
      first
        | exact ⟨rfl, S28.fin⟩
        | (exfalso; have hh := bits_eq hy58 hy65 hy74 (and_law (hd58.1 hb77) (hd65.1 hb79) (hd74.1 hb82)); rw [hb85, hb86, hb88] at hh; cases hh; done)
        | (exfalso; have hh := bits_eq hy58 hy65 hy74 (and_law (hd58.1 hb77) (hd65.1 hb79) (hd74.1 hb82)); rw [hb85, hb86] at hh; cases hh; done)
        | (exfalso; have hh := bits_eq hy96 hy103 hy112 (or_law (hd96.1 hb117) (hd103.1 hb120) (hd112.1 hb124)); rw [hb128, hb129, hb131] at hh; cases hh; done)
        | (exfalso; have hh := bits_eq hy96 hy103 hy112 (or_law (hd96.1 hb117) (hd103.1 hb120) (hd112.1 hb124)); rw [hb128, hb129] at hh; cases hh; done)
  · replace r10 := r10.keep (X24.of_nil)
    refine o_not rfl rfl ?_
    first | refine o_move (v := .bool _) rfl rfl ?_ | refine o_move (by conv => lhs; whnf) rfl ?_
    refine WL_off rfl rfl rfl rfl ?_
    refine WL_off rfl rfl rfl rfl ?_
    refine WL_off rfl rfl rfl rfl ?_
    first | refine o_pick rfl (v := .bool _) rfl rfl ?_ | refine o_pick rfl (by conv => lhs; whnf) rfl ?_
    first | refine o_move (v := .bool _) rfl rfl ?_ | refine o_move (by conv => lhs; whnf) rfl ?_
    refine WL_off rfl rfl rfl rfl ?_
    refine WL_off rfl rfl rfl rfl ?_
    refine WL_off rfl rfl rfl rfl ?_
    refine WL_off rfl rfl rfl rfl ?_
    first | refine o_pick rfl (v := .bool _) rfl rfl ?_ | refine o_pick rfl (by conv => lhs; whnf) rfl ?_
    first | refine o_move (v := .bool _) rfl rfl ?_ | refine o_move (by conv => lhs; whnf) rfl ?_
    refine WL_off rfl rfl rfl rfl ?_
    refine WL_off rfl rfl rfl rfl ?_
    refine WL_off rfl rfl rfl rfl ?_
    refine WL_off rfl rfl rfl rfl ?_
    first | refine o_pick rfl (v := .bool _) rfl rfl ?_ | refine o_pick rfl (by conv => lhs; whnf) rfl ?_
    first | refine o_move (v := .bool _) rfl rfl ?_ | refine o_move (by conv => lhs; whnf) rfl ?_
    refine WL_off rfl rfl rfl rfl ?_
    refine WL_off rfl rfl rfl rfl ?_
    refine WL_off rfl rfl rfl rfl ?_
    first | refine o_pick rfl (v := .bool _) rfl rfl ?_ | refine o_pick rfl (by conv => lhs; whnf) rfl ?_
    first | refine o_move (v := .bool _) rfl rfl ?_ | refine o_move (by conv => lhs; whnf) rfl ?_
    refine WL_off rfl rfl rfl rfl ?_
    refine WL_off rfl rfl rfl rfl ?_
    refine WL_off rfl rfl rfl rfl ?_
    first | refine o_pick rfl (v := .bool _) rfl rfl ?_ | refine o_pick rfl (by conv => lhs; whnf) rfl ?_
    refine WL_nil ?_
    refine W_then rfl ?_
    refine W_seq ?_
    refine W_region ?_
    first | refine o_move (v := .bool _) rfl rfl ?_ | refine o_move (by conv => lhs; whnf) rfl ?_
    first | refine o_assign (v := .bool _) rfl rfl ?_ | refine o_assign (by conv => lhs; whnf) rfl ?_
    refine WL_nil ?_
    refine W_ret ?_
    refine ret_1 rfl (by conv => lhs; whnf) ?_
    first
      | exact ⟨rfl, S24.fin⟩
      | (exfalso; have hh := bits_eq hy58 hy65 hy74 (and_law (hd58.1 hb77) (hd65.1 hb79) (hd74.1 hb82)); rw [hb85, hb86, hb88] at hh; cases hh; done)
      | (exfalso; have hh := bits_eq hy58 hy65 hy74 (and_law (hd58.1 hb77) (hd65.1 hb79) (hd74.1 hb82)); rw [hb85, hb86] at hh; cases hh; done)
      | (exfalso; have hh := bits_eq hy96 hy103 hy112 (or_law (hd96.1 hb117) (hd103.1 hb120) (hd112.1 hb124)); rw [hb128, hb129, hb131] at hh; cases hh; done)
      | (exfalso; have hh := bits_eq hy96 hy103 hy112 (or_law (hd96.1 hb117) (hd103.1 hb120) (hd112.1 hb124)); rw [hb128, hb129] at hh; cases hh; done)
end Go.Proofs.YtinhchacppkmgaaDoor
