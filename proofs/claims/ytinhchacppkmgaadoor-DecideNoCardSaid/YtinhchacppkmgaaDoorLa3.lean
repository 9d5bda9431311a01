/-
  Plain laws: a value depends on the cells of the support alone; every pair of states has a number; what Yes says.
-/
import Derived.Test.YtinhchacppkmgaaDoorLa2
namespace Go.Fw
open Go.RowKit

/-- Two states agree at the cells that occur in an expression under 'op'. -/
def Agree (cells : List CellD) (op : Int) (e : E) (s t : List Int) : Prop := ∀ x : Int, e.occ op x = true → s.getD x.toNat 0 % pow2 (wAt cells x).toNat = t.getD x.toNat 0 % pow2 (wAt cells x).toNat

theorem val_congr {cells : List CellD} {old now old' now' : List Int} : ∀ (e : E) (lim : Int), e.good lim = true → e.over cells true = true → Agree cells 3 e old old' → Agree cells 2 e now now' → e.val old now = e.val old' now' := by
  intro e
  induction e using E.induct with
  | _ e ih =>
    intro lim hg ho h3 h2
    obtain ⟨hsh, hkg⟩ := good_shape hg
    rw [E.over_def] at ho
    simp only [Bool.and_eq_true, decide_eq_true_eq] at ho
    have hk : e.kids.map (E.val old now) = e.kids.map (E.val old' now') := by
      apply List.map_congr_left
      intro k hk
      refine ih k hk (lim - 1) (hkg k hk) ((E.overs_iff _ _ _).1 ho.2 k hk) (fun x hx => h3 x ?_) (fun x hx => h2 x ?_)
      · rw [E.occ_def, (E.occs_iff _ _ _).2 ⟨k, hk, hx⟩]; simp
      · rw [E.occ_def, (E.occs_iff _ _ _).2 ⟨k, hk, hx⟩]; simp
    rw [E.val_def, E.val_def, hk]
    have hw8 : e.w.toNat ≤ 62 := by have := Shape_ar hsh; omega
    by_cases o2 : e.op = 2
    · have hwA := (ho.1.2 (by omega)).2
      have := h2 e.n (by rw [E.occ_def]; simp [o2])
      rw [hwA] at this
      have n1 : ¬ e.op = 1 := by omega
      rw [if_neg n1, if_neg n1, if_pos o2, if_pos o2, band_mask _ _ hw8, band_mask _ _ hw8, this]
    · by_cases o3 : e.op = 3
      · have hwA := (ho.1.2 (by omega)).2
        have := h3 e.n (by rw [E.occ_def]; simp [o3])
        rw [hwA] at this
        have n1 : ¬ e.op = 1 := by omega
        rw [if_neg n1, if_neg n1, if_neg o2, if_neg o2, if_pos o3, if_pos o3, band_mask _ _ hw8, band_mask _ _ hw8, this]
      · rw [if_neg o2, if_neg o3, if_neg o2, if_neg o3]

/-- The value of an expression of width 1 is 0 or 1. -/
theorem val_bit {e : E} {lim : Int} (h : e.good lim = true) (hw : e.w = 1) (old now : List Int) : e.val old now = 0 ∨ e.val old now = 1 := by
  obtain ⟨hsh, _⟩ := good_shape h
  have p1 : pow2 e.w.toNat = 2 := by rw [hw]; decide
  rw [E.val_def]
  by_cases o1 : e.op = 1
  · rw [if_pos o1]; have := (Shape_1 o1).1 hsh; rw [p1] at this; omega
  · rw [if_neg o1]
    have hb : ∀ a, band a (pow2 e.w.toNat - 1) = a % 2 := fun a => by rw [band_mask _ _ (by rw [hw]; decide), p1]
    split
    · rw [hb]; omega
    · split
      · rw [hb]; omega
      · rw [hb]; omega

/-- The number of a state over a list of cells. -/
def encS (cells : List CellD) (f : Int → Int) : List Int → Int → Int
  | [], r => r
  | c :: cs, r => f c % pow2 (wAt cells c).toNat + pow2 (wAt cells c).toNat * encS cells f cs r

theorem pow2_add (a b : Nat) : pow2 (a + b) = pow2 a * pow2 b := by
  rw [pow2_eq, pow2_eq, pow2_eq, Nat.pow_add, Int.natCast_mul]

theorem encS_bound (cells : List CellD) (f : Int → Int) : ∀ (l : List Int) (r : Int) (k : Nat), (∀ x ∈ l, 1 ≤ wAt cells x) → 0 ≤ r → r < pow2 k → 0 ≤ encS cells f l r ∧ encS cells f l r < pow2 ((bitsL cells l).toNat + k) := by
  intro l
  induction l with
  | nil => intro r k _ h0 h1; simpa [encS, bitsL] using ⟨h0, h1⟩
  | cons c cs ih =>
    intro r k hl h0 h1
    obtain ⟨i0, i1⟩ := ih r k (fun x hx => hl x (by simp [hx])) h0 h1
    have hw := hl c (by simp)
    have hb : 0 ≤ bitsL cells cs := by
      clear ih i0 i1
      have hl' : ∀ x ∈ cs, 1 ≤ wAt cells x := fun x hx => hl x (by simp [hx])
      clear hl
      induction cs with
      | nil => simp [bitsL]
      | cons y ys ih2 => simp only [bitsL]; have := hl' y (by simp); have := ih2 (fun x hx => hl' x (by simp [hx])); omega
    have e1 : (bitsL cells (c :: cs)).toNat + k = (wAt cells c).toNat + ((bitsL cells cs).toNat + k) := by simp only [bitsL]; omega
    rw [e1, pow2_add]
    have hp := pow2_pos (wAt cells c).toNat
    have m0 := Int.emod_nonneg (f c) (show pow2 (wAt cells c).toNat ≠ 0 by omega)
    have m1 := Int.emod_lt_of_pos (f c) hp
    simp only [encS]
    generalize pow2 (wAt cells c).toNat = p at *
    generalize pow2 ((bitsL cells cs).toNat + k) = q at *
    generalize encS cells f cs r = x at *
    generalize f c % p = y at *
    have h2 : p * x ≤ p * (q - 1) := Int.mul_le_mul_of_nonneg_left (by omega) (by omega)
    have h3 : 0 ≤ p * x := Int.mul_nonneg (by omega) i0
    rw [Int.mul_sub] at h2
    omega

theorem layS_enc (cells : List CellD) (f : Int → Int) : ∀ (l : List Int) (r : Int) (s : List Int), l.Pairwise (· < ·) → (∀ x ∈ l, 0 ≤ x ∧ x < s.length) → 0 ≤ r →
    (layS cells l (encS cells f l r) s).2 = r ∧ ∀ x ∈ l, (layS cells l (encS cells f l r) s).1.getD x.toNat 0 = f x % pow2 (wAt cells x).toNat := by
  intro l
  induction l with
  | nil => intro r s _ _ _; simp [layS, encS]
  | cons c cs ih =>
    intro r s hp hl h0
    obtain ⟨hc, hps⟩ := List.pairwise_cons.1 hp
    have hpos := pow2_pos (wAt cells c).toNat
    have m0 := Int.emod_nonneg (f c) (show pow2 (wAt cells c).toNat ≠ 0 by omega)
    have m1 := Int.emod_lt_of_pos (f c) hpos
    simp only [layS, encS]
    have d1 : (f c % pow2 (wAt cells c).toNat + pow2 (wAt cells c).toNat * encS cells f cs r) / pow2 (wAt cells c).toNat = encS cells f cs r := by
      rw [Int.add_mul_ediv_left _ _ (by omega), Int.ediv_eq_zero_of_lt m0 m1]; omega
    have d2 : (f c % pow2 (wAt cells c).toNat + pow2 (wAt cells c).toNat * encS cells f cs r) % pow2 (wAt cells c).toNat = f c % pow2 (wAt cells c).toNat := by
      rw [Int.add_mul_emod_self_left, Int.emod_emod_of_dvd _ (Int.dvd_refl _)]
    rw [d1, d2]
    obtain ⟨i1, i2⟩ := ih r (s.set c.toNat (f c % pow2 (wAt cells c).toNat)) hps (fun x hx => by have := hl x (by simp [hx]); simpa using this) h0
    refine ⟨i1, fun x hx => ?_⟩
    rcases List.mem_cons.1 hx with rfl | hx
    · have hx0 := hl x (by simp)
      rw [List.getD_eq_getElem?_getD, layS_out cells cs _ _ _ (fun c' hc' => by have := hc c' hc'; have := hl c' (by simp [hc']); omega)]
      rw [List.getElem?_set_self (by omega)]; rfl
    · exact i2 x hx

theorem csup_sorted (c : CondD) (op : Int) : (c.sup op).Pairwise (· < ·) := by
  unfold CondD.sup mergeL markedL; exact Go.Proofs.YtinhchacppkmgaaDoor.markedTo_sorted _ _

/-- Every pair of states has a number. -/
theorem pair_number {cells : List CellD} {c : CondD} (hf : c.formed cells = true) (old now : List Int) : ∃ n : Nat, n < 2 ^ (c.bits cells).toNat ∧
    (∀ x ∈ c.sup 3, (pairAt cells (c.sup 3) (c.sup 2) n).1.getD x.toNat 0 = old.getD x.toNat 0 % pow2 (wAt cells x).toNat) ∧
    (∀ x ∈ c.sup 2, (pairAt cells (c.sup 3) (c.sup 2) n).2.getD x.toNat 0 = now.getD x.toNat 0 % pow2 (wAt cells x).toNat) := by
  have h3 : ∀ x ∈ c.sup 3, 1 ≤ wAt cells x ∧ 0 ≤ x ∧ x < cells.length ∧ wAt cells x ≤ 8 := fun x hx => by have := csup_cell hf (.inr rfl) hx; omega
  have h2 : ∀ x ∈ c.sup 2, 1 ≤ wAt cells x ∧ 0 ≤ x ∧ x < cells.length ∧ wAt cells x ≤ 8 := fun x hx => by have := csup_cell hf (.inl rfl) hx; omega
  have hz : (zeroS cells).length = cells.length := by simp [zeroS]
  obtain ⟨b0, b1⟩ := encS_bound cells (fun x => now.getD x.toNat 0) (c.sup 2) 0 0 (fun x hx => (h2 x hx).1) (by omega) (by decide)
  obtain ⟨a0, a1⟩ := encS_bound cells (fun x => old.getD x.toNat 0) (c.sup 3) _ _ (fun x hx => (h3 x hx).1) b0 b1
  obtain ⟨l1, l2⟩ := layS_enc cells (fun x => old.getD x.toNat 0) (c.sup 3) (encS cells (fun x => now.getD x.toNat 0) (c.sup 2) 0) (zeroS cells) (csup_sorted c 3) (fun x hx => by have := h3 x hx; omega) b0
  obtain ⟨k1, k2⟩ := layS_enc cells (fun x => now.getD x.toNat 0) (c.sup 2) 0 (zeroS cells) (csup_sorted c 2) (fun x hx => by have := h2 x hx; omega) (by omega)
  obtain ⟨n, hn⟩ := Int.eq_ofNat_of_zero_le a0
  have hn' : encS cells (fun x => old.getD x.toNat 0) (c.sup 3) (encS cells (fun x => now.getD x.toNat 0) (c.sup 2) 0) = (n : Int) := hn
  have e3 := bitsL_bound cells (c.sup 3) (fun x hx => by have := h3 x hx; omega)
  have e2 := bitsL_bound cells (c.sup 2) (fun x hx => by have := h2 x hx; omega)
  refine ⟨n, ?_, fun x hx => ?_, fun x hx => ?_⟩
  · have e4 : (c.bits cells).toNat = (bitsL cells (c.sup 3)).toNat + ((bitsL cells (c.sup 2)).toNat + 0) := by unfold CondD.bits; omega
    rw [hn', pow2_eq] at a1
    rw [e4]; omega
  · unfold pairAt; rw [← hn']; exact l2 x hx
  · unfold pairAt; rw [← hn']; simp only [l1]; exact k2 x hx

theorem evl_wf {cells : List CellD} {e : E} (h : e.valid cells true = true) (old now : List Int) : e.evl old now = e.val old now := by
  unfold E.evl; rw [(valid_parts h).1]; rfl

/-- Of a formed condition: what falsifies it is falsified by the pair of its number. -/
theorem fals_number {cells : List CellD} {c : CondD} (hf : c.formed cells = true) (old now : List Int) : ∃ n : Nat, n < 2 ^ (c.bits cells).toNat ∧ c.hit cells n = c.fals (old, now) ∧
    c.hyp.evl (pairAt cells (c.sup 3) (c.sup 2) n).1 (pairAt cells (c.sup 3) (c.sup 2) n).2 = c.hyp.evl old now := by
  obtain ⟨n, hn, h3, h2⟩ := pair_number hf old now
  obtain ⟨v1, v2, w1, w2⟩ := formed_parts hf
  obtain ⟨-, g1, o1⟩ := valid_parts v1
  obtain ⟨-, g2, o2⟩ := valid_parts v2
  have hm : ∀ (op x : Int) (s t : List Int), (s.getD x.toNat 0 = t.getD x.toNat 0 % pow2 (wAt cells x).toNat) → s.getD x.toNat 0 % pow2 (wAt cells x).toNat = t.getD x.toNat 0 % pow2 (wAt cells x).toNat := fun op x s t h => by
    rw [h, Int.emod_emod_of_dvd _ (Int.dvd_refl _)]
  have e1 : c.hyp.evl (pairAt cells (c.sup 3) (c.sup 2) n).1 (pairAt cells (c.sup 3) (c.sup 2) n).2 = c.hyp.evl old now := by
    rw [evl_wf v1, evl_wf v1]
    exact val_congr c.hyp 40 g1 o1 (fun x hx => hm 3 x _ _ (h3 x ((mem_csup hf (.inr rfl) x).2 (.inl hx)))) (fun x hx => hm 2 x _ _ (h2 x ((mem_csup hf (.inl rfl) x).2 (.inl hx))))
  have e2 : c.goal.evl (pairAt cells (c.sup 3) (c.sup 2) n).1 (pairAt cells (c.sup 3) (c.sup 2) n).2 = c.goal.evl old now := by
    rw [evl_wf v2, evl_wf v2]
    exact val_congr c.goal 40 g2 o2 (fun x hx => hm 3 x _ _ (h3 x ((mem_csup hf (.inr rfl) x).2 (.inr hx)))) (fun x hx => hm 2 x _ _ (h2 x ((mem_csup hf (.inl rfl) x).2 (.inr hx))))
  refine ⟨n, hn, ?_, e1⟩
  unfold CondD.hit CondD.fals
  rw [e1, e2]

/-- WHAT YES SAYS. -/
theorem yes_iff {cells : List CellD} {c : CondD} (hd : c.done cells) : c.yes cells ↔ ∀ old now : List Int, c.fals (old, now) = false := by
  constructor
  · rintro ⟨hf, _, hh⟩ old now
    obtain ⟨n, hn, h1, -⟩ := fals_number hf old now
    rw [← h1]; exact hh n hn
  · intro h
    exact ⟨hd.1, hd.2, fun n _ => h _ _⟩

theorem yes_done {cells : List CellD} {c : CondD} (h : c.yes cells) : c.done cells := ⟨h.1, h.2.1⟩

theorem fals_iff (c : CondD) (p : List Int × List Int) : c.fals p = true ↔ c.hyp.evl p.1 p.2 = 1 ∧ c.goal.evl p.1 p.2 = 0 := by
  unfold CondD.fals; simp

theorem evl_bit {cells : List CellD} {e : E} (h : e.valid cells true = true) (hw : e.w = 1) (old now : List Int) : e.evl old now = 0 ∨ e.evl old now = 1 := by
  rw [evl_wf h]; exact val_bit (valid_parts h).2.1 hw old now

/-- The law DecideYes. -/
theorem yes_law {cells : List CellD} {c : CondD} (h : c.yes cells) (old now : List Int) : c.hyp.evl old now = 0 ∨ c.goal.evl old now = 1 := by
  have h0 := (yes_iff (yes_done h)).1 h old now
  obtain ⟨v1, v2, w1, w2⟩ := formed_parts h.1
  have b1 := evl_bit v1 w1 old now
  have b2 := evl_bit v2 w2 old now
  have h1 : ¬ (c.hyp.evl old now = 1 ∧ c.goal.evl old now = 0) := fun hh => by rw [(fals_iff c (old, now)).2 hh] at h0; cases h0
  omega

/-- The law DecideCut. -/
theorem cut_law {cells : List CellD} {a b c : E} (h1 : (mkC a b).yes cells) (h2 : (mkC b c).yes cells) (h3 : (mkC a c).done cells) : (mkC a c).yes cells := by
  refine (yes_iff h3).2 fun old now => ?_
  cases hf : (mkC a c).fals (old, now) with
  | false => rfl
  | true =>
    have := (fals_iff _ _).1 hf
    have q1 := yes_law h1 old now
    have q2 := yes_law h2 old now
    simp only [mkC] at *
    omega
theorem self_law {cells : List CellD} {a : E} (h : (mkC a a).done cells) : (mkC a a).yes cells := by
  refine (yes_iff h).2 fun old now => ?_
  cases hf : (mkC a a).fals (old, now) with
  | false => rfl
  | true => have := (fals_iff _ _).1 hf; simp only [mkC] at this; omega
theorem zero_law {cells : List CellD} {a : E} (h : (mkC ⟨1, 1, 0, []⟩ a).done cells) : (mkC ⟨1, 1, 0, []⟩ a).yes cells := by
  refine (yes_iff h).2 fun old now => ?_
  cases hf : (mkC ⟨1, 1, 0, []⟩ a).fals (old, now) with
  | false => rfl
  | true =>
    have := (fals_iff _ _).1 hf
    have hv : (⟨1, 1, 0, []⟩ : E).val old now = 0 := by rw [E.val_def]; rfl
    have hw := (formed_parts h.1).1
    have := evl_wf hw old now
    simp only [mkC] at *
    omega
end Go.Fw
namespace Go.Proofs.YtinhchacppkmgaaDoor
open Go.Fw Go.RowKit

theorem small_len {cells : List CellD} {c : CondD} (h : c.small cells = true) : cells.length ≤ 1000 := by
  unfold CondD.small at h; simp only [Bool.and_eq_true, decide_eq_true_eq] at h; omega
end Go.Proofs.YtinhchacppkmgaaDoor
