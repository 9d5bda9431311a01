/-
  Plain: the pairs of states and their numbers.
-/
import Derived.Test.YtinhchacppkmgaaDoorDe0
import Derived.Test.YtinhchacppkmgaaDoorFwRange
namespace Go.Fw
open Go.RowKit

theorem pow2_eq (n : Nat) : pow2 n = ((2 ^ n : Nat) : Int) := by
  induction n with
  | zero => rfl
  | succ n ih => simp only [pow2, ih, Nat.pow_succ]; omega

theorem wrap_small (a : Int) (h0 : 0 ≤ a) (h1 : a < 9223372036854775808) : IntKind.i64.wrap a = a := by
  unfold IntKind.wrap
  have hm : a % (2 ^ IntKind.i64.bits : Int) = a := Int.emod_eq_of_lt h0 (by simp [IntKind.bits]; omega)
  simp only [hm]
  rw [if_neg]
  simp [IntKind.bits, IntKind.signed]; omega

theorem band_mask (a : Int) (n : Nat) (hn : n ≤ 62) : band a (pow2 n - 1) = a % pow2 n := by
  have h2 : (2 : Nat) ^ n ≤ 2 ^ 62 := Nat.pow_le_pow_right (by omega) hn
  have hpos : 0 < (2 : Nat) ^ n := Nat.pow_pos (by omega)
  rw [pow2_eq]
  have e1 : (((2 ^ n : Nat) : Int) - 1) = ((2 ^ n - 1 : Nat) : Int) := by omega
  have key : (BitVec.ofInt 64 a &&& BitVec.ofInt 64 (((2 ^ n : Nat) : Int) - 1)).toNat = (a % ((2 ^ n : Nat) : Int)).toNat := by
    rw [BitVec.toNat_and, e1, BitVec.ofInt_natCast, BitVec.toNat_ofNat, BitVec.toNat_ofInt]
    rw [Nat.mod_eq_of_lt (show 2 ^ n - 1 < 2 ^ 64 by omega), Nat.and_two_pow_sub_one_eq_mod]
    have hd : ((2 ^ n : Nat) : Int) ∣ ((2 ^ 64 : Nat) : Int) := Int.natCast_dvd_natCast.2 (Nat.pow_dvd_pow 2 (by omega))
    have h64 : 0 ≤ a % ((2 ^ 64 : Nat) : Int) := Int.emod_nonneg _ (by decide)
    have hn0 : 0 ≤ a % ((2 ^ n : Nat) : Int) := Int.emod_nonneg _ (by omega)
    have : (((a % ((2 ^ 64 : Nat) : Int)).toNat % 2 ^ n : Nat) : Int) = ((a % ((2 ^ n : Nat) : Int)).toNat : Int) := by
      rw [Int.natCast_emod, Int.toNat_of_nonneg h64, Int.toNat_of_nonneg hn0, Int.emod_emod_of_dvd _ hd]
    omega
  have hb : band a (((2 ^ n : Nat) : Int) - 1) = IntKind.i64.wrap ((BitVec.ofInt 64 a &&& BitVec.ofInt 64 (((2 ^ n : Nat) : Int) - 1)).toNat : Int) := rfl
  rw [hb, key]
  have hn0 : 0 ≤ a % ((2 ^ n : Nat) : Int) := Int.emod_nonneg _ (by omega)
  have hn1 : a % ((2 ^ n : Nat) : Int) < ((2 ^ n : Nat) : Int) := Int.emod_lt_of_pos _ (by omega)
  rw [Int.toNat_of_nonneg hn0]
  exact wrap_small _ hn0 (by omega)

/-- A number is laid over the cells of a list: the state, and what is left of the number. -/
def layS (cells : List CellD) : List Int → Int → List Int → List Int × Int
  | [], r, s => (s, r)
  | c :: cs, r, s => layS cells cs (r / pow2 (wAt cells c).toNat) (s.set c.toNat (r % pow2 (wAt cells c).toNat))

theorem layS_len (cells : List CellD) (l : List Int) : ∀ r s, (layS cells l r s).1.length = s.length := by
  induction l with
  | nil => intro r s; rfl
  | cons c cs ih => intro r s; simp [layS, ih]

theorem layS_rest (cells : List CellD) (l : List Int) : ∀ r s s', (layS cells l r s).2 = (layS cells l r s').2 := by
  induction l with
  | nil => intro r s s'; rfl
  | cons c cs ih => intro r s s'; simp only [layS]; exact ih _ _ _

theorem layS_rest_nonneg (cells : List CellD) (l : List Int) : ∀ r s, 0 ≤ r → 0 ≤ (layS cells l r s).2 := by
  induction l with
  | nil => intro r s h; exact h
  | cons c cs ih => intro r s h; simp only [layS]; exact ih _ _ (Int.ediv_nonneg h (Int.le_of_lt (pow2_pos _)))

/-- What lies outside the list stays; what lay in it does not matter. -/
theorem layS_agree (cells : List CellD) (l : List Int) : ∀ r s s', s.length = s'.length → (∀ i, (∀ c ∈ l, c.toNat ≠ i) → s[i]? = s'[i]?) → layS cells l r s = layS cells l r s' := by
  induction l with
  | nil => intro r s s' _ h; rw [List.ext_getElem? (fun i => h i (by simp))]
  | cons c cs ih =>
    intro r s s' hl h
    simp only [layS]
    refine ih _ _ _ (by simpa using hl) fun i hi => ?_
    rw [List.getElem?_set, List.getElem?_set, hl]
    by_cases hc : c.toNat = i
    · simp [hc]
    · rw [if_neg hc, if_neg hc]
      exact h i (fun c' hc' => by
        rcases List.mem_cons.1 hc' with rfl | hc'
        · exact hc
        · exact hi c' hc')

theorem layS_out (cells : List CellD) (l : List Int) : ∀ r s i, (∀ c ∈ l, c.toNat ≠ i) → (layS cells l r s).1[i]? = s[i]? := by
  induction l with
  | nil => intro r s i _; rfl
  | cons c cs ih =>
    intro r s i hi
    simp only [layS]
    rw [ih _ _ _ (fun c' hc' => hi c' (by simp [hc']))]
    rw [List.getElem?_set_ne (hi c (by simp))]

def zeroS (cells : List CellD) : List Int := List.replicate cells.length 0

/-- The pair of number n. -/
def pairAt (cells : List CellD) (old now : List Int) (n : Int) : List Int × List Int :=
  ((layS cells old n (zeroS cells)).1, (layS cells now (layS cells old n (zeroS cells)).2 (zeroS cells)).1)

/-- A state that is 0 outside a list. -/
def ZOut (cells : List CellD) (l s : List Int) : Prop := s.length = cells.length ∧ ∀ i, (∀ c ∈ l, c.toNat ≠ i) → s[i]? = (zeroS cells)[i]?
theorem ZOut.zero (cells : List CellD) (l : List Int) : ZOut cells l (zeroS cells) := ⟨by simp [zeroS], fun _ _ => rfl⟩
theorem ZOut.lay {cells : List CellD} {l s : List Int} (h : ZOut cells l s) (r : Int) : layS cells l r s = layS cells l r (zeroS cells) :=
  layS_agree cells l r s _ (by rw [h.1]; simp [zeroS]) h.2
theorem ZOut.next {cells : List CellD} {l : List Int} (r : Int) : ZOut cells l (layS cells l r (zeroS cells)).1 :=
  ⟨by rw [layS_len]; simp [zeroS], fun i hi => layS_out cells l r _ i hi⟩

theorem St.laterB {w0 w w' : World} {L : List Ent} {M : List Nat} (S : St M w0 w L) (hb : BelowB M w w') (hL : ∀ b ∈ L, ∀ g, b.1 = some g → g ∉ M) : St M w0 w' L :=
  S.keeps (S.below.trans hb) fun b hm g hg => hb.block g (S.own b hm g hg).2.lt (hL b hm g hg)

theorem i64_small {x : Int} (h0 : 0 ≤ x) (h1 : x ≤ 1000000) : i64 x := by unfold i64; omega

theorem layS_i64 (cells : List CellD) (l : List Int) (hl : ∀ x ∈ l, wAt cells x ≤ 8) : ∀ r s, (∀ x ∈ s, 0 ≤ x ∧ x ≤ 256) → ∀ x ∈ (layS cells l r s).1, 0 ≤ x ∧ x ≤ 256 := by
  induction l with
  | nil => intro r s hs; exact hs
  | cons c cs ih =>
    intro r s hs
    simp only [layS]
    refine ih (fun x hx => hl x (by simp [hx])) _ _ fun x hx => ?_
    rcases List.mem_or_eq_of_mem_set hx with h | h
    · exact hs x h
    · subst h
      have h8 := hl c (by simp)
      have hp := pow2_pos (wAt cells c).toNat
      have hle : pow2 (wAt cells c).toNat ≤ pow2 8 := pow2_le _ _ (by omega)
      have h256 : pow2 8 = 256 := by decide
      have := Int.emod_nonneg r (show pow2 (wAt cells c).toNat ≠ 0 by omega)
      have := Int.emod_lt_of_pos r hp
      omega
theorem zeroS_i64 (cells : List CellD) : ∀ x ∈ zeroS cells, 0 ≤ x ∧ x ≤ 256 := fun x hx => by
  have := (List.mem_replicate.1 hx).2; omega
end Go.Fw
