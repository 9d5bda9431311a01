/-
  Part 2 of 9 of the proof of ExploreModels: what it leans on. No conditions.
-/
import Derived.Test.YtepiknjglmmciaaGreatDoorZExploreModels1
import Derived.Maps.Keyed
import Derived.Carry
set_option maxRecDepth 100000
set_option maxHeartbeats 4000000
namespace Go.Proofs.YtepiknjglmmciaaGreatDoor
end Go.Proofs.YtepiknjglmmciaaGreatDoor
namespace Go.Fw
open Go.Proofs.YtepiknjglmmciaaGreatDoor Go.Proofs Go.RowKit Go.Maps (Keyed)
structure E where
 op : Int
 w : Int
 n : Int
 kids : List E
theorem E.induct {C : E → Prop} (h : ∀ e, (∀ k ∈ e.kids, C k) → C e) : ∀ e, C e := by
 have key : ∀ (n : Nat) (e : E), SizeOf.sizeOf e ≤ n → C e := by
  intro n
  induction n with
  | zero => intro e he; cases e; simp at he
  | succ n ih =>
    intro e he
    refine h e fun k hk => ih k ?_
    have h1 := List.sizeOf_lt_of_mem hk
    cases e
    simp at he h1
    omega
 exact fun e => key _ e (Nat.le_refl _)
def RdE (M : List Nat) (w : World) (e : E) (cs : List Value) : Prop :=
 ∃ A n c, cs = [.int .i64 e.op, .int .i64 e.w, .int .i64 e.n, .slice A n c] ∧ i64 e.op ∧ i64 e.w ∧ i64 e.n ∧ n = e.kids.length ∧ n ≤ c ∧ c ≤ maxLen ∧ n ≤ 140737488355328 ∧
  (0 < n → ∃ b o, A = some ⟨b, o, none⟩ ∧ b ∉ M ∧ ∀ (i : Nat) (h : i < e.kids.length), ∃ cs', k1a w b (o + i * 4) cs' ∧ RdE M w e.kids[i] cs')
termination_by SizeOf.sizeOf e
decreasing_by
 have h1 := List.sizeOf_lt_of_mem (List.getElem_mem h)
 cases e
 simp at h1 ⊢
 omega
theorem RdE.length {M : List Nat} {w : World} {e : E} {cs : List Value} (h : RdE M w e cs) : cs.length = 4 := by
 rw [RdE] at h
 obtain ⟨_, _, _, rfl, _⟩ := h
 rfl
theorem RdE.keep {M : List Nat} {w w' : World} (hk : w0a M w w') : ∀ (e : E) (cs : List Value), RdE M w e cs → RdE M w' e cs := by
 intro e
 induction e using E.induct with
 | _ e ih =>
   intro cs h
   rw [RdE] at h ⊢
   obtain ⟨A, n, c, h1, h2, h3, h4, h5, h6, h7, h8, h9⟩ := h
   refine ⟨A, n, c, h1, h2, h3, h4, h5, h6, h7, h8, fun hn => ?_⟩
   obtain ⟨b, o, hA, hb, hks⟩ := h9 hn
   refine ⟨b, o, hA, hb, fun i hi => ?_⟩
   obtain ⟨cs', hc, hr⟩ := hks i hi
   exact ⟨cs', hc.keep hk hb, ih _ (List.getElem_mem hi) cs' hr⟩
theorem RdE.less {M M' : List Nat} {w : World} (hM : ∀ g ∈ M', g ∈ M) : ∀ (e : E) (cs : List Value), RdE M w e cs → RdE M' w e cs := by
 intro e
 induction e using E.induct with
 | _ e ih =>
   intro cs h
   rw [RdE] at h ⊢
   obtain ⟨A, n, c, h1, h2, h3, h4, h5, h6, h7, h8, h9⟩ := h
   refine ⟨A, n, c, h1, h2, h3, h4, h5, h6, h7, h8, fun hn => ?_⟩
   obtain ⟨b, o, hA, hb, hks⟩ := h9 hn
   refine ⟨b, o, hA, fun hh => hb (hM b hh), fun i hi => ?_⟩
   obtain ⟨cs', hc, hr⟩ := hks i hi
   exact ⟨cs', hc, ih _ (List.getElem_mem hi) cs' hr⟩
theorem RdE.more {M M' : List Nat} {w : World} (hM : ∀ g ∈ M', g ∈ M ∨ w.heap.size ≤ g) : ∀ (e : E) (cs : List Value), RdE M w e cs → RdE M' w e cs := by
 intro e
 induction e using E.induct with
 | _ e ih =>
   intro cs h
   rw [RdE] at h ⊢
   obtain ⟨A, n, c, h1, h2, h3, h4, h5, h6, h7, h8, h9⟩ := h
   refine ⟨A, n, c, h1, h2, h3, h4, h5, h6, h7, h8, fun hn => ?_⟩
   obtain ⟨b, o, hA, hb, hks⟩ := h9 hn
   refine ⟨b, o, hA, fun hh => ?_, fun i hi => ?_⟩
   ·rcases hM b hh with h | h
    ·exact hb h
    ·obtain ⟨cs', hc, hr⟩ := hks 0 (by omega)
     have hl := hr.length
     have := World.block_lt_of_cell? w _ (hc 0 cs'[0] (List.getElem?_eq_getElem (by omega)))
     simp at this; omega
   ·obtain ⟨cs', hc, hr⟩ := hks i hi
    exact ⟨cs', hc, ih _ (List.getElem_mem hi) cs' hr⟩
theorem RdE.open_ {M : List Nat} {w : World} {e : E} {cs : List Value} (h : RdE M w e cs) :
 ∃ A n c, cs = [.int .i64 e.op, .int .i64 e.w, .int .i64 e.n, .slice A n c] ∧ i64 e.op ∧ i64 e.w ∧ i64 e.n ∧ n = e.kids.length ∧ n ≤ c ∧ c ≤ maxLen ∧ n ≤ 140737488355328 ∧
 (0 < n → ∃ b o, A = some ⟨b, o, none⟩ ∧ b ∉ M ∧ ∀ (i : Nat) (h : i < e.kids.length), ∃ cs', k1a w b (o + i * 4) cs' ∧ RdE M w e.kids[i] cs') := by
 rw [RdE] at h; exact h
mutual
def E.cnt : E → Nat
 | ⟨_, _, _, ks⟩ => E.cnts ks + 1
def E.cnts : List E → Nat
 | [] => 0
 | k :: ks => E.cnt k + E.cnts ks
end
mutual
def E.size : E → Int → Int
 | ⟨_, _, _, ks⟩, lim => if lim ≤ 0 then 0 else E.sizes ks lim 1
def E.sizes : List E → Int → Int → Int
 | [], _, n => n
 | k :: ks, lim, n => if n < lim then E.sizes ks lim (n + E.size k (lim - n)) else n
end
theorem E.size_def (e : E) (lim : Int) : e.size lim = if lim ≤ 0 then 0 else E.sizes e.kids lim 1 := by cases e; simp only [E.size]
theorem E.cnt_def (e : E) : e.cnt = E.cnts e.kids + 1 := by cases e; simp only [E.cnt]
theorem E.cnt_pos (e : E) : 1 ≤ e.cnt := by cases e; simp [E.cnt]
theorem E.size_eq : ∀ (e : E) (lim : Int), 0 ≤ lim → e.size lim = min (e.cnt : Int) lim := by
 intro e
 induction e using E.induct with
 | _ e ih =>
   obtain ⟨_, _, n, ks⟩ := e
   intro lim hl
   have key : ∀ (ks : List E), (∀ k ∈ ks, ∀ lim : Int, 0 ≤ lim → k.size lim = min (k.cnt : Int) lim) → ∀ (lim n : Int), 0 ≤ n → n ≤ lim → E.sizes ks lim n = min (n + (E.cnts ks : Int)) lim := by
    intro ks
    induction ks with
    | nil => intro _ lim n h0 h1; simp only [E.sizes, E.cnts]; omega
    | cons k ks ih2 =>
      intro hk lim n h0 h1
      have hkk := hk k (by simp) (lim - n) (by omega)
      have hpos := E.cnt_pos k
      simp only [E.sizes, E.cnts]
      by_cases hlt : n < lim
      ·rw [if_pos hlt, hkk, ih2 (fun k' hk' => hk k' (by simp [hk'])) lim _ (by omega) (by omega)]
       omega
      ·rw [if_neg hlt]
       omega
   simp only [E.size, E.cnt]
   by_cases h0 : lim ≤ 0
   ·rw [if_pos h0]; omega
   ·rw [if_neg h0, key ks (fun k hk => ih k hk) lim 1 (by omega) (by omega)]
    omega
theorem E.sizes_stop (ks : List E) (k : Nat) (lim nn : Int) (h : ks.length ≤ k ∨ lim ≤ nn) : E.sizes (ks.drop k) lim nn = nn := by
 rcases h with h | h
 ·rw [List.drop_eq_nil_of_le h]; simp only [E.sizes]
 ·cases hd : ks.drop k with
  | nil => simp only [E.sizes]
  | cons x xs => simp only [E.sizes]; rw [if_neg (by omega)]
theorem E.size_le (e : E) (lim : Int) (h : 0 ≤ lim) : 0 ≤ e.size lim ∧ e.size lim ≤ lim := by
 rw [E.size_eq e lim h]; omega
def N4a : Nat → Int
 | 0 => 1
 | n + 1 => N4a n * 2
theorem Y0b (n : Nat) : 0 < N4a n := by
 induction n with
 | zero => decide
 | succ n ih => simp only [N4a]; omega
theorem z5c (n m : Nat) (h : n ≤ m) : N4a n ≤ N4a m := by
 induction m with
 | zero => simp at h; subst h; exact Int.le_refl _
 | succ m ih =>
   by_cases e : n = m + 1
   ·subst e; exact Int.le_refl _
   ·have := ih (by omega); have := Y0b m; simp only [N4a]; omega
def N6a (op : Int) : Int := if 1 ≤ op ∧ op ≤ 3 then 0 else if op = 4 then 1 else if 5 ≤ op ∧ op ≤ 13 then 2 else if op = 14 then 3 else -1
theorem D2a (op : Int) : (1 ≤ op ∧ op ≤ 3 ∧ N6a op = 0) ∨ (op = 4 ∧ N6a op = 1) ∨ (5 ≤ op ∧ op ≤ 13 ∧ N6a op = 2) ∨ (op = 14 ∧ N6a op = 3) ∨ ((op < 1 ∨ 14 < op) ∧ N6a op = -1) := by
 unfold N6a
 by_cases h1 : 1 ≤ op ∧ op ≤ 3
 ·rw [if_pos h1]; omega
 ·rw [if_neg h1]
  by_cases h2 : op = 4
  ·rw [if_pos h2]; omega
  ·rw [if_neg h2]
   by_cases h3 : 5 ≤ op ∧ op ≤ 13
   ·rw [if_pos h3]; omega
   ·rw [if_neg h3]
    by_cases h4 : op = 14
    ·rw [if_pos h4]; omega
    ·rw [if_neg h4]; omega
def E.kw (e : E) (i : Nat) : Int := ((e.kids[i]?).map E.w).getD 0
def E.Shape (e : E) : Prop :=
 1 ≤ e.w ∧ e.w ≤ 8 ∧ ((e.op = 1 ∧ e.kids.length = 0 ∧ 0 ≤ e.n ∧ e.n < N4a e.w.toNat) ∨ ((e.op = 2 ∨ e.op = 3) ∧ e.kids.length = 0 ∧ 0 ≤ e.n ∧ e.n < 32) ∨
  (e.op = 4 ∧ e.kids.length = 1 ∧ e.n = 0 ∧ e.kw 0 = e.w) ∨ (5 ≤ e.op ∧ e.op ≤ 10 ∧ e.kids.length = 2 ∧ e.n = 0 ∧ e.kw 0 = e.w ∧ e.kw 1 = e.w) ∨
  (11 ≤ e.op ∧ e.op ≤ 13 ∧ e.kids.length = 2 ∧ e.n = 0 ∧ e.w = 1 ∧ e.kw 0 = e.kw 1) ∨ (e.op = 14 ∧ e.kids.length = 3 ∧ e.n = 0 ∧ e.kw 0 = 1 ∧ e.kw 1 = e.w ∧ e.kw 2 = e.w))
instance (e : E) : Decidable e.Shape := by unfold E.Shape; infer_instance
def E.shapeB (e : E) : Bool := decide e.Shape
theorem S7a {e : E} (h : e.Shape) : Value.bool true = .bool e.shapeB := by unfold E.shapeB; rw [decide_eq_true h]
theorem M5a {e : E} (h : ¬ e.Shape) : Value.bool false = .bool e.shapeB := by unfold E.shapeB; rw [decide_eq_false h]
theorem p4b {e : E} (h : e.op = 1) : e.Shape ↔ (1 ≤ e.w ∧ e.w ≤ 8 ∧ e.kids.length = 0 ∧ 0 ≤ e.n ∧ e.n < N4a e.w.toNat) := by
 unfold E.Shape
 constructor
 ·rintro ⟨h1, h2, h3⟩
  rcases h3 with h3 | h3 | h3 | h3 | h3 | h3 <;> first | exact ⟨h1, h2, h3.2⟩ | (exfalso; omega)
 ·rintro ⟨h1, h2, h3⟩; exact ⟨h1, h2, .inl ⟨h, h3⟩⟩
theorem W4a {e : E} (h : e.op = 2 ∨ e.op = 3) : e.Shape ↔ (1 ≤ e.w ∧ e.w ≤ 8 ∧ e.kids.length = 0 ∧ 0 ≤ e.n ∧ e.n < 32) := by
 unfold E.Shape
 constructor
 ·rintro ⟨h1, h2, h3⟩
  rcases h3 with h3 | h3 | h3 | h3 | h3 | h3 <;> first | exact ⟨h1, h2, h3.2⟩ | (exfalso; omega)
 ·rintro ⟨h1, h2, h3⟩; exact ⟨h1, h2, .inr (.inl ⟨h, h3⟩)⟩
theorem F8b {e : E} (h : e.op = 4) : e.Shape ↔ (1 ≤ e.w ∧ e.w ≤ 8 ∧ e.kids.length = 1 ∧ e.n = 0 ∧ e.kw 0 = e.w) := by
 unfold E.Shape
 constructor
 ·rintro ⟨h1, h2, h3⟩
  rcases h3 with h3 | h3 | h3 | h3 | h3 | h3 <;> first | exact ⟨h1, h2, h3.2⟩ | (exfalso; omega)
 ·rintro ⟨h1, h2, h3⟩; exact ⟨h1, h2, .inr (.inr (.inl ⟨h, h3⟩))⟩
theorem p8b {e : E} (h : 5 ≤ e.op ∧ e.op ≤ 10) : e.Shape ↔ (1 ≤ e.w ∧ e.w ≤ 8 ∧ e.kids.length = 2 ∧ e.n = 0 ∧ e.kw 0 = e.w ∧ e.kw 1 = e.w) := by
 unfold E.Shape
 constructor
 ·rintro ⟨h1, h2, h3⟩
  rcases h3 with h3 | h3 | h3 | h3 | h3 | h3 <;> first | exact ⟨h1, h2, h3.2.2⟩ | (exfalso; omega)
 ·rintro ⟨h1, h2, h3⟩; exact ⟨h1, h2, .inr (.inr (.inr (.inl ⟨h.1, h.2, h3⟩)))⟩
theorem P5b {e : E} (h : 11 ≤ e.op ∧ e.op ≤ 13) : e.Shape ↔ (e.kids.length = 2 ∧ e.n = 0 ∧ e.w = 1 ∧ e.kw 0 = e.kw 1) := by
 unfold E.Shape
 constructor
 ·rintro ⟨_, _, h3⟩
  rcases h3 with h3 | h3 | h3 | h3 | h3 | h3 <;> first | exact h3.2.2 | (exfalso; omega)
 ·intro h3; exact ⟨by omega, by omega, .inr (.inr (.inr (.inr (.inl ⟨h.1, h.2, h3⟩))))⟩
theorem b6b {e : E} (h : e.op = 14) : e.Shape ↔ (1 ≤ e.w ∧ e.w ≤ 8 ∧ e.kids.length = 3 ∧ e.n = 0 ∧ e.kw 0 = 1 ∧ e.kw 1 = e.w ∧ e.kw 2 = e.w) := by
 unfold E.Shape
 constructor
 ·rintro ⟨h1, h2, h3⟩
  rcases h3 with h3 | h3 | h3 | h3 | h3 | h3 <;> first | exact ⟨h1, h2, h3.2⟩ | (exfalso; omega)
 ·rintro ⟨h1, h2, h3⟩; exact ⟨h1, h2, .inr (.inr (.inr (.inr (.inr ⟨h, h3⟩))))⟩
theorem Q6a {e : E} (h : e.Shape) : 1 ≤ e.w ∧ e.w ≤ 8 ∧ N6a e.op = e.kids.length ∧ 1 ≤ e.op ∧ e.op ≤ 14 := by
 have ha := D2a e.op
 obtain ⟨h1, h2, h3⟩ := h
 refine ⟨h1, h2, ?_⟩
 rcases h3 with ⟨h4, h5, _⟩ | ⟨h4, h5, _⟩ | ⟨h4, h5, _⟩ | ⟨h4, h4', h5, _⟩ | ⟨h4, h4', h5, _⟩ | ⟨h4, h5, _⟩ <;> omega
theorem SN {e : E} (h : ¬ (1 ≤ e.w ∧ e.w ≤ 8 ∧ N6a e.op = e.kids.length ∧ 1 ≤ e.op ∧ e.op ≤ 14)) : Value.bool false = .bool e.shapeB := M5a (fun x => h (Q6a x))
theorem ST1 {e : E} (h : e.op = 1) (g : 1 ≤ e.w ∧ e.w ≤ 8 ∧ e.kids.length = 0 ∧ 0 ≤ e.n ∧ e.n < N4a e.w.toNat) : Value.bool true = .bool e.shapeB := S7a ((p4b h).2 g)
theorem SF1 {e : E} (h : e.op = 1) (g : ¬ (1 ≤ e.w ∧ e.w ≤ 8 ∧ e.kids.length = 0 ∧ 0 ≤ e.n ∧ e.n < N4a e.w.toNat)) : Value.bool false = .bool e.shapeB := M5a (fun x => g ((p4b h).1 x))
theorem ST2 {e : E} (h : e.op = 2 ∨ e.op = 3) (g : 1 ≤ e.w ∧ e.w ≤ 8 ∧ e.kids.length = 0 ∧ 0 ≤ e.n ∧ e.n < 32) : Value.bool true = .bool e.shapeB := S7a ((W4a h).2 g)
theorem SF2 {e : E} (h : e.op = 2 ∨ e.op = 3) (g : ¬ (1 ≤ e.w ∧ e.w ≤ 8 ∧ e.kids.length = 0 ∧ 0 ≤ e.n ∧ e.n < 32)) : Value.bool false = .bool e.shapeB := M5a (fun x => g ((W4a h).1 x))
theorem ST4 {e : E} (h : e.op = 4) (g : 1 ≤ e.w ∧ e.w ≤ 8 ∧ e.kids.length = 1 ∧ e.n = 0 ∧ e.kw 0 = e.w) : Value.bool true = .bool e.shapeB := S7a ((F8b h).2 g)
theorem SF4 {e : E} (h : e.op = 4) (g : ¬ (1 ≤ e.w ∧ e.w ≤ 8 ∧ e.kids.length = 1 ∧ e.n = 0 ∧ e.kw 0 = e.w)) : Value.bool false = .bool e.shapeB := M5a (fun x => g ((F8b h).1 x))
theorem ST5 {e : E} (h : 5 ≤ e.op ∧ e.op ≤ 10) (g : 1 ≤ e.w ∧ e.w ≤ 8 ∧ e.kids.length = 2 ∧ e.n = 0 ∧ e.kw 0 = e.w ∧ e.kw 1 = e.w) : Value.bool true = .bool e.shapeB := S7a ((p8b h).2 g)
theorem SF5 {e : E} (h : 5 ≤ e.op ∧ e.op ≤ 10) (g : ¬ (1 ≤ e.w ∧ e.w ≤ 8 ∧ e.kids.length = 2 ∧ e.n = 0 ∧ e.kw 0 = e.w ∧ e.kw 1 = e.w)) : Value.bool false = .bool e.shapeB := M5a (fun x => g ((p8b h).1 x))
theorem H6c {e : E} (h : 11 ≤ e.op ∧ e.op ≤ 13) (g : e.kids.length = 2 ∧ e.n = 0 ∧ e.w = 1 ∧ e.kw 0 = e.kw 1) : Value.bool true = .bool e.shapeB := S7a ((P5b h).2 g)
theorem k2b {e : E} (h : 11 ≤ e.op ∧ e.op ≤ 13) (g : ¬ (e.kids.length = 2 ∧ e.n = 0 ∧ e.w = 1 ∧ e.kw 0 = e.kw 1)) : Value.bool false = .bool e.shapeB := M5a (fun x => g ((P5b h).1 x))
theorem Z9c {e : E} (h : e.op = 14) (g : 1 ≤ e.w ∧ e.w ≤ 8 ∧ e.kids.length = 3 ∧ e.n = 0 ∧ e.kw 0 = 1 ∧ e.kw 1 = e.w ∧ e.kw 2 = e.w) : Value.bool true = .bool e.shapeB := S7a ((b6b h).2 g)
theorem B8c {e : E} (h : e.op = 14) (g : ¬ (1 ≤ e.w ∧ e.w ≤ 8 ∧ e.kids.length = 3 ∧ e.n = 0 ∧ e.kw 0 = 1 ∧ e.kw 1 = e.w ∧ e.kw 2 = e.w)) : Value.bool false = .bool e.shapeB := M5a (fun x => g ((b6b h).1 x))
theorem z1a {M : List Nat} {w : World} {e : E} {b o : Nat} (hkk : ∀ (i : Nat) (h : i < e.kids.length), ∃ cs', k1a w b (o + i * 4) cs' ∧ RdE M w e.kids[i] cs') (i : Nat) (hi : i < e.kids.length) :
 w.cell? ⟨b, o + i * 4 + 1, none⟩ = some (.int .i64 (e.kw i)) := by
 obtain ⟨cs', hc, hr⟩ := hkk i hi
 obtain ⟨_, _, _, rfl, _⟩ := hr.open_
 have := hc 1 _ rfl
 rw [this]
 simp [E.kw, hi]
mutual
def E.good : E → Int → Bool
 | ⟨op, w, n, ks⟩, lim => decide (1 ≤ lim) && E.shapeB ⟨op, w, n, ks⟩ && E.goods ks (lim - 1)
def E.goods : List E → Int → Bool
 | [], _ => true
 | k :: ks, lim => E.good k lim && E.goods ks lim
end
theorem E.good_def (e : E) (lim : Int) : e.good lim = (decide (1 ≤ lim) && e.shapeB && E.goods e.kids (lim - 1)) := by cases e; simp only [E.good]
theorem E.goods_iff (ks : List E) (lim : Int) : E.goods ks lim = true ↔ ∀ k ∈ ks, k.good lim = true := by
 induction ks with
 | nil => simp [E.goods]
 | cons k ks ih => simp [E.goods, ih]
def E.wf (e : E) : Bool := decide (e.cnt ≤ 600) && e.good 40
structure d2a where
 name : ByteArray
 w : Int
 init : Int
 thread : Int
 ghost : Bool
 module_ : Int
def Z2a (cs : List Value) (c : d2a) : Prop := cs = [.string c.name, .int .i64 c.w, .int .i64 c.init, .int .i64 c.thread, .bool c.ghost, .int .i64 c.module_] ∧ i64 c.w ∧ i64 c.init ∧ i64 c.thread ∧ i64 c.module_
abbrev W4c (M : List Nat) (w : World) (v : Value) (l : List d2a) : Prop := RdS M w 6 Z2a v l
def wAt (cells : List d2a) (n : Int) : Int := if 0 ≤ n then ((cells[n.toNat]?).map d2a.w).getD (-1) else -1
def E.OverN (e : E) (cells : List d2a) (pair : Bool) : Prop :=
 (e.op = 3 → pair = true) ∧ ((e.op = 3 ∨ e.op = 2) → e.n < cells.length ∧ wAt cells e.n = e.w)
instance (e : E) (cells : List d2a) (pair : Bool) : Decidable (e.OverN cells pair) := by unfold E.OverN; infer_instance
mutual
def E.over (cells : List d2a) (pair : Bool) : E → Bool
 | ⟨op, w, n, ks⟩ => decide (E.OverN ⟨op, w, n, ks⟩ cells pair) && E.overs cells pair ks
def E.overs (cells : List d2a) (pair : Bool) : List E → Bool
 | [] => true
 | k :: ks => E.over cells pair k && E.overs cells pair ks
end
theorem E.over_def (cells : List d2a) (pair : Bool) (e : E) : e.over cells pair = (decide (e.OverN cells pair) && E.overs cells pair e.kids) := by cases e; simp only [E.over]
theorem E.overs_iff (cells : List d2a) (pair : Bool) (ks : List E) : E.overs cells pair ks = true ↔ ∀ k ∈ ks, k.over cells pair = true := by
 induction ks with
 | nil => simp [E.overs]
 | cons k ks ih => simp [E.overs, ih]
def E.valid (cells : List d2a) (pair : Bool) (e : E) : Bool := e.wf && e.over cells pair
section
variable {α : Type}
theorem RdS.keepW {M : List Nat} {w w' : World} {size : Nat} {R R' : List Value → α → Prop} {v : Value} {l : List α} (h : RdS M w size R v l) (hk : w0a M w w') (hR : ∀ cs x, R cs x → R' cs x) : RdS M w' size R' v l := (h.keep hk).mono hR
theorem RdS.lessW {M M' : List Nat} {w : World} {size : Nat} {R R' : List Value → α → Prop} {v : Value} {l : List α} (h : RdS M w size R v l) (hM : ∀ g ∈ M', g ∈ M) (hR : ∀ cs x, R cs x → R' cs x) : RdS M' w size R' v l := (h.less hM).mono hR
theorem RdS.moreW {M M' : List Nat} {w : World} {size : Nat} {R R' : List Value → α → Prop} {v : Value} {l : List α} (h : RdS M w size R v l) (hs : 0 < size) (hM : ∀ g ∈ M', g ∈ M ∨ w.heap.size ≤ g) (hR : ∀ cs x, R cs x → R' cs x) : RdS M' w size R' v l := (h.more hs hM).mono hR
end
structure F1a where
 cell : Int
 to : E
structure t1a where
 kind : Int
 frm : Int
 to : Int
 guard : E
 set : List F1a
 release : Bool
 target : Int
 module_ : Int
structure Z4b where
 head : Int
 body : List Int
 variant : E
structure Q0a where
 name : ByteArray
 points : Int
 asserts : List E
 modules : List Int
 steps : List t1a
 loops : List Z4b
 asleep : Bool
structure Z3a where
 name : ByteArray
 owner : ByteArray
 rely : E
 guar : E
 frame : List Int
structure c4b where
 cell : Int
 inv : E
 module_ : Int
structure f0a where
 cells : List d2a
 modules : List Z3a
 locks : List c4b
 threads : List Q0a
abbrev w7c (M : List Nat) (w : World) (v : Value) (l : List E) : Prop := RdS M w 4 (fun cs e => RdE M w e cs) v l
def R0a (M : List Nat) (w : World) (cs : List Value) (a : F1a) : Prop := ∃ ce, cs = .int .i64 a.cell :: ce ∧ i64 a.cell ∧ RdE M w a.to ce
abbrev a4c (M : List Nat) (w : World) (v : Value) (l : List F1a) : Prop := RdS M w 5 (R0a M w) v l
def m2a (M : List Nat) (w : World) (cs : List Value) (s : t1a) : Prop := ∃ g0 g1 g2 g3 vs, cs = [.int .i64 s.kind, .int .i64 s.frm, .int .i64 s.to, g0, g1, g2, g3, vs, .bool s.release, .int .i64 s.target, .int .i64 s.module_] ∧
 i64 s.kind ∧ i64 s.frm ∧ i64 s.to ∧ i64 s.target ∧ i64 s.module_ ∧ RdE M w s.guard [g0, g1, g2, g3] ∧ a4c M w vs s.set
abbrev I8c (M : List Nat) (w : World) (v : Value) (l : List t1a) : Prop := RdS M w 11 (m2a M w) v l
def n5a (M : List Nat) (w : World) (cs : List Value) (l : Z4b) : Prop := ∃ vb g0 g1 g2 g3, cs = [.int .i64 l.head, vb, g0, g1, g2, g3] ∧ i64 l.head ∧ RdI M w vb l.body ∧ RdE M w l.variant [g0, g1, g2, g3]
abbrev y9c (M : List Nat) (w : World) (v : Value) (l : List Z4b) : Prop := RdS M w 6 (n5a M w) v l
def N0a (M : List Nat) (w : World) (cs : List Value) (t : Q0a) : Prop := ∃ va vm vs vl, cs = [.string t.name, .int .i64 t.points, va, vm, vs, vl, .bool t.asleep] ∧ i64 t.points ∧
 w7c M w va t.asserts ∧ RdI M w vm t.modules ∧ I8c M w vs t.steps ∧ y9c M w vl t.loops
abbrev Y8c (M : List Nat) (w : World) (v : Value) (l : List Q0a) : Prop := RdS M w 7 (N0a M w) v l
def v1a (M : List Nat) (w : World) (cs : List Value) (c : Z3a) : Prop := ∃ g0 g1 g2 g3 k0 k1 k2 k3 vf, cs = [.string c.name, .string c.owner, g0, g1, g2, g3, k0, k1, k2, k3, vf] ∧
 RdE M w c.rely [g0, g1, g2, g3] ∧ RdE M w c.guar [k0, k1, k2, k3] ∧ RdI M w vf c.frame
abbrev E9c (M : List Nat) (w : World) (v : Value) (l : List Z3a) : Prop := RdS M w 11 (v1a M w) v l
def G4a (M : List Nat) (w : World) (cs : List Value) (l : c4b) : Prop := ∃ g0 g1 g2 g3, cs = [.int .i64 l.cell, g0, g1, g2, g3, .int .i64 l.module_] ∧ i64 l.cell ∧ i64 l.module_ ∧ RdE M w l.inv [g0, g1, g2, g3]
abbrev S8c (M : List Nat) (w : World) (v : Value) (l : List c4b) : Prop := RdS M w 6 (G4a M w) v l
def j1a (M : List Nat) (w : World) (p : f0a) (cs : List Value) : Prop := ∃ vc vm vl vt, cs = [vc, vm, vl, vt] ∧ W4c M w vc p.cells ∧ E9c M w vm p.modules ∧ S8c M w vl p.locks ∧ Y8c M w vt p.threads
section
variable {M M' : List Nat} {w w' : World}
theorem R0a.keep (hk : w0a M w w') : ∀ cs a, R0a M w cs a → R0a M w' cs a := fun _ _ ⟨ce, h1, h2, h3⟩ => ⟨ce, h1, h2, RdE.keep hk _ _ h3⟩
theorem m2a.keep (hk : w0a M w w') : ∀ cs s, m2a M w cs s → m2a M w' cs s := fun _ _ ⟨g0, g1, g2, g3, vs, h1, h2, h3, h4, h5, h6, h7, h8⟩ => ⟨g0, g1, g2, g3, vs, h1, h2, h3, h4, h5, h6, RdE.keep hk _ _ h7, RdS.keepW h8 hk (R0a.keep hk)⟩
theorem n5a.keep (hk : w0a M w w') : ∀ cs s, n5a M w cs s → n5a M w' cs s := fun _ _ ⟨vb, g0, g1, g2, g3, h1, h2, h3, h4⟩ => ⟨vb, g0, g1, g2, g3, h1, h2, h3.keep hk, RdE.keep hk _ _ h4⟩
theorem N0a.keep (hk : w0a M w w') : ∀ cs s, N0a M w cs s → N0a M w' cs s := fun _ _ ⟨va, vm, vs, vl, h1, h2, h3, h4, h5, h6⟩ => ⟨va, vm, vs, vl, h1, h2, RdS.keepW h3 hk (fun _ _ => RdE.keep hk _ _), h4.keep hk, RdS.keepW h5 hk (m2a.keep hk), RdS.keepW h6 hk (n5a.keep hk)⟩
theorem v1a.keep (hk : w0a M w w') : ∀ cs s, v1a M w cs s → v1a M w' cs s := fun _ _ ⟨g0, g1, g2, g3, k0, k1, k2, k3, vf, h1, h2, h3, h4⟩ => ⟨g0, g1, g2, g3, k0, k1, k2, k3, vf, h1, RdE.keep hk _ _ h2, RdE.keep hk _ _ h3, h4.keep hk⟩
theorem G4a.keep (hk : w0a M w w') : ∀ cs s, G4a M w cs s → G4a M w' cs s := fun _ _ ⟨g0, g1, g2, g3, h1, h2, h3, h4⟩ => ⟨g0, g1, g2, g3, h1, h2, h3, RdE.keep hk _ _ h4⟩
theorem j1a.keep (hk : w0a M w w') {p : f0a} {cs : List Value} : j1a M w p cs → j1a M w' p cs := fun ⟨vc, vm, vl, vt, h1, h2, h3, h4, h5⟩ => ⟨vc, vm, vl, vt, h1, h2.keep hk, RdS.keepW h3 hk (v1a.keep hk), RdS.keepW h4 hk (G4a.keep hk), RdS.keepW h5 hk (N0a.keep hk)⟩
theorem R0a.less (hk : ∀ g ∈ M', g ∈ M) : ∀ cs a, R0a M w cs a → R0a M' w cs a := fun _ _ ⟨ce, h1, h2, h3⟩ => ⟨ce, h1, h2, RdE.less hk _ _ h3⟩
theorem m2a.less (hk : ∀ g ∈ M', g ∈ M) : ∀ cs s, m2a M w cs s → m2a M' w cs s := fun _ _ ⟨g0, g1, g2, g3, vs, h1, h2, h3, h4, h5, h6, h7, h8⟩ => ⟨g0, g1, g2, g3, vs, h1, h2, h3, h4, h5, h6, RdE.less hk _ _ h7, RdS.lessW h8 hk (R0a.less hk)⟩
theorem n5a.less (hk : ∀ g ∈ M', g ∈ M) : ∀ cs s, n5a M w cs s → n5a M' w cs s := fun _ _ ⟨vb, g0, g1, g2, g3, h1, h2, h3, h4⟩ => ⟨vb, g0, g1, g2, g3, h1, h2, h3.less hk, RdE.less hk _ _ h4⟩
theorem N0a.less (hk : ∀ g ∈ M', g ∈ M) : ∀ cs s, N0a M w cs s → N0a M' w cs s := fun _ _ ⟨va, vm, vs, vl, h1, h2, h3, h4, h5, h6⟩ => ⟨va, vm, vs, vl, h1, h2, RdS.lessW h3 hk (fun _ _ => RdE.less hk _ _), h4.less hk, RdS.lessW h5 hk (m2a.less hk), RdS.lessW h6 hk (n5a.less hk)⟩
theorem v1a.less (hk : ∀ g ∈ M', g ∈ M) : ∀ cs s, v1a M w cs s → v1a M' w cs s := fun _ _ ⟨g0, g1, g2, g3, k0, k1, k2, k3, vf, h1, h2, h3, h4⟩ => ⟨g0, g1, g2, g3, k0, k1, k2, k3, vf, h1, RdE.less hk _ _ h2, RdE.less hk _ _ h3, h4.less hk⟩
theorem G4a.less (hk : ∀ g ∈ M', g ∈ M) : ∀ cs s, G4a M w cs s → G4a M' w cs s := fun _ _ ⟨g0, g1, g2, g3, h1, h2, h3, h4⟩ => ⟨g0, g1, g2, g3, h1, h2, h3, RdE.less hk _ _ h4⟩
theorem j1a.less (hk : ∀ g ∈ M', g ∈ M) {p : f0a} {cs : List Value} : j1a M w p cs → j1a M' w p cs := fun ⟨vc, vm, vl, vt, h1, h2, h3, h4, h5⟩ => ⟨vc, vm, vl, vt, h1, h2.less hk, RdS.lessW h3 hk (v1a.less hk), RdS.lessW h4 hk (G4a.less hk), RdS.lessW h5 hk (N0a.less hk)⟩
theorem R0a.more (hk : ∀ g ∈ M', g ∈ M ∨ w.heap.size ≤ g) : ∀ cs a, R0a M w cs a → R0a M' w cs a := fun _ _ ⟨ce, h1, h2, h3⟩ => ⟨ce, h1, h2, RdE.more hk _ _ h3⟩
theorem m2a.more (hk : ∀ g ∈ M', g ∈ M ∨ w.heap.size ≤ g) : ∀ cs s, m2a M w cs s → m2a M' w cs s := fun _ _ ⟨g0, g1, g2, g3, vs, h1, h2, h3, h4, h5, h6, h7, h8⟩ => ⟨g0, g1, g2, g3, vs, h1, h2, h3, h4, h5, h6, RdE.more hk _ _ h7, RdS.moreW h8 (by omega) hk (R0a.more hk)⟩
theorem n5a.more (hk : ∀ g ∈ M', g ∈ M ∨ w.heap.size ≤ g) : ∀ cs s, n5a M w cs s → n5a M' w cs s := fun _ _ ⟨vb, g0, g1, g2, g3, h1, h2, h3, h4⟩ => ⟨vb, g0, g1, g2, g3, h1, h2, h3.more (by omega) hk, RdE.more hk _ _ h4⟩
theorem N0a.more (hk : ∀ g ∈ M', g ∈ M ∨ w.heap.size ≤ g) : ∀ cs s, N0a M w cs s → N0a M' w cs s := fun _ _ ⟨va, vm, vs, vl, h1, h2, h3, h4, h5, h6⟩ => ⟨va, vm, vs, vl, h1, h2, RdS.moreW h3 (by omega) hk (fun _ _ => RdE.more hk _ _), h4.more (by omega) hk, RdS.moreW h5 (by omega) hk (m2a.more hk), RdS.moreW h6 (by omega) hk (n5a.more hk)⟩
theorem v1a.more (hk : ∀ g ∈ M', g ∈ M ∨ w.heap.size ≤ g) : ∀ cs s, v1a M w cs s → v1a M' w cs s := fun _ _ ⟨g0, g1, g2, g3, k0, k1, k2, k3, vf, h1, h2, h3, h4⟩ => ⟨g0, g1, g2, g3, k0, k1, k2, k3, vf, h1, RdE.more hk _ _ h2, RdE.more hk _ _ h3, h4.more (by omega) hk⟩
theorem G4a.more (hk : ∀ g ∈ M', g ∈ M ∨ w.heap.size ≤ g) : ∀ cs s, G4a M w cs s → G4a M' w cs s := fun _ _ ⟨g0, g1, g2, g3, h1, h2, h3, h4⟩ => ⟨g0, g1, g2, g3, h1, h2, h3, RdE.more hk _ _ h4⟩
theorem j1a.more (hk : ∀ g ∈ M', g ∈ M ∨ w.heap.size ≤ g) {p : f0a} {cs : List Value} : j1a M w p cs → j1a M' w p cs := fun ⟨vc, vm, vl, vt, h1, h2, h3, h4, h5⟩ => ⟨vc, vm, vl, vt, h1, h2.more (by omega) hk, RdS.moreW h3 (by omega) hk (v1a.more hk), RdS.moreW h4 (by omega) hk (G4a.more hk), RdS.moreW h5 (by omega) hk (N0a.more hk)⟩
end
structure G0a where
 cells : List Int
 values : List Int
  deriving DecidableEq
structure q0a where
 mem : List Int
 at_ : List Int
 buf : List (List G0a)
  deriving DecidableEq
structure A0a where
 thread : Int
 step : Int
 cell : Int
  deriving DecidableEq
def V0a (M : List Nat) (w : World) (cs : List Value) (e : G0a) : Prop := ∃ vc vv, cs = [vc, vv] ∧ RdI M w vc e.cells ∧ RdI M w vv e.values
abbrev S6c (M : List Nat) (w : World) (v : Value) (l : List G0a) : Prop := RdS M w 2 (V0a M w) v l
def s5a (M : List Nat) (w : World) (cs : List Value) (l : List G0a) : Prop := ∃ v, cs = [v] ∧ S6c M w v l
abbrev G8c (M : List Nat) (w : World) (v : Value) (l : List (List G0a)) : Prop := RdS M w 1 (s5a M w) v l
def t0a (M : List Nat) (w : World) (c : q0a) (cs : List Value) : Prop := ∃ vm va vb, cs = [vm, va, vb] ∧ RdI M w vm c.mem ∧ RdI M w va c.at_ ∧ G8c M w vb c.buf
def R1a (cs : List Value) (c : A0a) : Prop := cs = [.int .i64 c.thread, .int .i64 c.step, .int .i64 c.cell] ∧ i64 c.thread ∧ i64 c.step ∧ i64 c.cell
abbrev g2c (M : List Nat) (w : World) (v : Value) (l : List A0a) : Prop := RdS M w 3 R1a v l
section
variable {M M' : List Nat} {w w' : World}
theorem V0a.keep (hk : w0a M w w') : ∀ cs a, V0a M w cs a → V0a M w' cs a := fun _ _ ⟨vc, vv, h1, h2, h3⟩ => ⟨vc, vv, h1, h2.keep hk, h3.keep hk⟩
theorem s5a.keep (hk : w0a M w w') : ∀ cs a, s5a M w cs a → s5a M w' cs a := fun _ _ ⟨v, h1, h2⟩ => ⟨v, h1, RdS.keepW h2 hk (V0a.keep hk)⟩
theorem t0a.keep (hk : w0a M w w') {c : q0a} {cs : List Value} : t0a M w c cs → t0a M w' c cs := fun ⟨vm, va, vb, h1, h2, h3, h4⟩ => ⟨vm, va, vb, h1, h2.keep hk, h3.keep hk, RdS.keepW h4 hk (s5a.keep hk)⟩
theorem V0a.less (hk : ∀ g ∈ M', g ∈ M) : ∀ cs a, V0a M w cs a → V0a M' w cs a := fun _ _ ⟨vc, vv, h1, h2, h3⟩ => ⟨vc, vv, h1, h2.less hk, h3.less hk⟩
theorem s5a.less (hk : ∀ g ∈ M', g ∈ M) : ∀ cs a, s5a M w cs a → s5a M' w cs a := fun _ _ ⟨v, h1, h2⟩ => ⟨v, h1, RdS.lessW h2 hk (V0a.less hk)⟩
theorem t0a.less (hk : ∀ g ∈ M', g ∈ M) {c : q0a} {cs : List Value} : t0a M w c cs → t0a M' w c cs := fun ⟨vm, va, vb, h1, h2, h3, h4⟩ => ⟨vm, va, vb, h1, h2.less hk, h3.less hk, RdS.lessW h4 hk (s5a.less hk)⟩
theorem V0a.more (hk : ∀ g ∈ M', g ∈ M ∨ w.heap.size ≤ g) : ∀ cs a, V0a M w cs a → V0a M' w cs a := fun _ _ ⟨vc, vv, h1, h2, h3⟩ => ⟨vc, vv, h1, h2.more (by omega) hk, h3.more (by omega) hk⟩
theorem s5a.more (hk : ∀ g ∈ M', g ∈ M ∨ w.heap.size ≤ g) : ∀ cs a, s5a M w cs a → s5a M' w cs a := fun _ _ ⟨v, h1, h2⟩ => ⟨v, h1, RdS.moreW h2 (by omega) hk (V0a.more hk)⟩
theorem t0a.more (hk : ∀ g ∈ M', g ∈ M ∨ w.heap.size ≤ g) {c : q0a} {cs : List Value} : t0a M w c cs → t0a M' w c cs := fun ⟨vm, va, vb, h1, h2, h3, h4⟩ => ⟨vm, va, vb, h1, h2.more (by omega) hk, h3.more (by omega) hk, RdS.moreW h4 (by omega) hk (s5a.more hk)⟩
end
theorem I0c (n : Nat) (hn : n ≤ 20) (w : World) : M0a Tryz.prog 70 #[.int .i64 n] w fun v w' => v = .int .i64 (N4a n) ∧ Below w.heap.size w w' := by
 have S := St.refl w
 obtain ⟨w0, hw0⟩ : ∃ w0, w0 = w := ⟨_, rfl⟩
 rw [← hw0] at S ⊢
 clear hw0
 refine a0a Tryz.func70 rfl Tryz.ntmps70 rfl ?_
 refine wC0 rfl ⟨⟩ (wL (fun μ D ε w => D = [] ∧ ∃ k : Nat, (k + μ = n) ∧ St [] w0 w [] ∧ ε 0 = .int .i64 n ∧ ε 4 = .int .i64 k ∧ ε 3 = .int .i64 (N4a k)) (μ := n) ⟨rfl, 0, by omega, S, rfl, rfl, rfl⟩ ?_)
 rintro μ D ε w ⟨rfl, k, _, S, e0, e4, e3⟩
 refine o0a 0 e0 (o0a 4 e4 (o0a 3 e3 ?_))
 clear e0 e4 e3
 have hb : N4a (k+1) ≤ N4a 21 := z5c _ _ (by omega)
 have hb' : N4a 21 = 2097152 := by decide
 have hp := Y0b k
 simp only [N4a] at hb
 refine wB0 rfl ⟨⟩ (fun h7 => ?_) fun h7 => ?_
 ·exact lP0 rfl ⟨by omega,by omega,⟨⟩⟩ ⟨μ - 1, by omega, rfl, k + 1, by omega, S, rfl, rfl, rfl⟩
 refine lR0 rfl ⟨⟩ (r0a rfl (by conv => lhs; whnf) ?_)
 obtain rfl : k = n := by omega
 exact ⟨rfl, S.fin⟩
theorem p6b (n : Int) (w : World) (h0 : 0 ≤ n) (hn : n ≤ 20) : M0a Tryz.prog 70 #[.int .i64 n] w fun v w' => v = .int .i64 (N4a n.toNat) ∧ Below w.heap.size w w' := by
 have h := I0c n.toNat (by omega) w
 rwa [Int.toNat_of_nonneg h0] at h
theorem d5b : ∀ (e : E) (M : List Nat) (w0 : World) (cs : List Value) (lim : Int), RdE M w0 e cs → i64 lim →
 M0a Tryz.prog 39 #[.agg cs.toArray, .int .i64 lim] w0 fun v w' => v = .int .i64 (e.size lim) ∧ Below w0.heap.size w0 w' := by
 intro e
 induction e using E.induct with
 | _ e ih =>
 intro M w0 cs lim hR hl
 obtain ⟨A, n, c, rfl, _, _, _, _, _, _, _, hks⟩ := hR.open_
 have S := St.refl w0
 unfold i64 at hl
 refine a0a Tryz.func39 rfl Tryz.ntmps39 rfl ?_
 refine wO0 rfl ⟨⟩ (j0a S (by conv => lhs; whnf) rfl ?_)
 intro g2 w2 S2 X2 G2
 refine lB0 rfl ⟨⟩ (fun h8 => ?_) fun h8 => ?_
 ·refine lR0 rfl ⟨⟩ (r0a rfl (by conv => lhs; whnf) ?_)
  exact ⟨by rw [E.size_def, if_pos h8], S2.fin⟩
 refine lC0 rfl ⟨⟩ ?_
 refine wL (fun μ D ε w => D = [] ∧ ∃ k : Nat, ∃ nn : Int, (k + μ = e.kids.length) ∧ (e.size lim = E.sizes (e.kids.drop k) lim nn) ∧ (1 ≤ nn) ∧ (nn ≤ lim) ∧ St [] w0 w [(some g2, 53, [.int .i64 e.op, .int .i64 e.w, .int .i64 e.n, .slice A n c])] ∧ ε 1 = .int .i64 lim ∧ ε 2 = .pointer (some ⟨g2, 0, none⟩) ∧ ε 5 = .int .i64 nn ∧ ε 6 = .int .i64 k) (μ := e.kids.length) ⟨rfl, 0, 1, by omega, by rw [E.size_def, if_neg (by omega)]; rfl, by omega, by omega, S2, rfl, rfl, rfl, rfl⟩ ?_
 rintro μ D ε w ⟨rfl, k, nn, _, hs, _, _, S, e1, e2, e5, e6⟩
 refine o0a 1 e1 (o0a 2 e2 (o0a 5 e5 (o0a 6 e6 ?_)))
 clear e1 e2 e5 e6
 refine wB S.k [.o 0] rfl ⟨rfl,⟨⟩⟩ (fun h13 => ?_) fun h13 => ?_
 ·refine lB0 rfl ⟨⟩ (fun h17 => ?_) fun h17 => ?_
  ·have hlt : k < e.kids.length := by omega
   obtain ⟨_, o, _, hbM, hkk⟩ := hks (by omega)
   obtain ⟨ck, hck, hrk⟩ := hkk k hlt
   have hlen : ck.length = 4 := hrk.length
   have hb := E.size_le e.kids[k] (lim - nn) (by omega)
   have hdr : e.kids.drop k = e.kids[k] :: e.kids.drop (k + 1) := List.drop_eq_getElem_cons hlt
   rw [hdr] at hs
   simp only [E.sizes, h17, if_true] at hs
   refine lO S.k [.o 0] rfl ⟨rfl,⟨⟩⟩ (x0a a1a.slT rfl (by assumption) rfl (by omega) (by omega) rfl ?_)
   refine w1a x1a rfl (hck.keep (S.keep0 M) hbM) (by assumption) rfl ?_
   refine lO0 rfl ⟨by omega,⟨⟩⟩ ?_
   refine g0a S Z5b rfl rfl (ih _ (List.getElem_mem hlt) M _ ck _ (RdE.keep (S.keep0 M) _ _ hrk) (by unfold i64; omega)) ?_
   intro w30 S30 X30
   exact lP0 rfl ⟨by omega,by omega,⟨⟩⟩ ⟨μ - 1, by omega, rfl, k + 1, _, by omega, hs, by omega, by omega, S30, rfl, rfl, rfl, rfl⟩
  refine lR0 rfl ⟨⟩ (r0a rfl (by conv => lhs; whnf) ?_)
  exact ⟨by rw [hs, E.sizes_stop _ _ _ _ (by omega)], S.fin⟩
 refine lR0 rfl ⟨⟩ (r0a rfl (by conv => lhs; whnf) ?_)
 exact ⟨by rw [hs, E.sizes_stop _ _ _ _ (by omega)], S.fin⟩
theorem L2c (op : Int) (w0 : World) : M0a Tryz.prog 148 #[.int .i64 op] w0 fun v w' => v = .int .i64 (N6a op) ∧ Below w0.heap.size w0 w' := by
 have S := St.refl w0
 have ha := D2a op
 refine a0a Tryz.func148 rfl Tryz.ntmps148 rfl ?_
 refine wB0 rfl ⟨⟩ (fun h4 => ?_) fun h4 => ?_
 ·refine lB0 rfl ⟨⟩ (fun h7 => ?_) fun h7 => ?_
  ·exact lT rfl ⟨⟩ rfl ⟨congrArg (Value.int .i64) (by omega), S.fin⟩
  refine lB0 rfl ⟨⟩ (fun h10 => ?_) fun h10 => ?_
  ·exact lT rfl ⟨⟩ rfl ⟨congrArg (Value.int .i64) (by omega), S.fin⟩
  refine lB0 rfl ⟨⟩ (fun h12 => ?_) fun h12 => ?_
  ·refine lB0 rfl ⟨⟩ (fun h15 => ?_) fun h15 => ?_
   ·exact lT rfl ⟨⟩ rfl ⟨congrArg (Value.int .i64) (by omega), S.fin⟩
   refine lB0 rfl ⟨⟩ (fun h18 => ?_) fun h18 => ?_
   ·exact lT rfl ⟨⟩ rfl ⟨congrArg (Value.int .i64) (by omega), S.fin⟩
   exact lT rfl ⟨⟩ rfl ⟨congrArg (Value.int .i64) (by omega), S.fin⟩
  refine lB0 rfl ⟨⟩ (fun h18 => ?_) fun h18 => ?_
  ·exact lT rfl ⟨⟩ rfl ⟨congrArg (Value.int .i64) (by omega), S.fin⟩
  exact lT rfl ⟨⟩ rfl ⟨congrArg (Value.int .i64) (by omega), S.fin⟩
 refine lB0 rfl ⟨⟩ (fun h10 => ?_) fun h10 => ?_
 ·exact lT rfl ⟨⟩ rfl ⟨congrArg (Value.int .i64) (by omega), S.fin⟩
 refine lB0 rfl ⟨⟩ (fun h12 => ?_) fun h12 => ?_
 ·refine lB0 rfl ⟨⟩ (fun h15 => ?_) fun h15 => ?_
  ·exact lT rfl ⟨⟩ rfl ⟨congrArg (Value.int .i64) (by omega), S.fin⟩
  refine lB0 rfl ⟨⟩ (fun h18 => ?_) fun h18 => ?_
  ·exact lT rfl ⟨⟩ rfl ⟨congrArg (Value.int .i64) (by omega), S.fin⟩
  exact lT rfl ⟨⟩ rfl ⟨congrArg (Value.int .i64) (by omega), S.fin⟩
 refine lB0 rfl ⟨⟩ (fun h18 => ?_) fun h18 => ?_
 ·exact lT rfl ⟨⟩ rfl ⟨congrArg (Value.int .i64) (by omega), S.fin⟩
 exact lT rfl ⟨⟩ rfl ⟨congrArg (Value.int .i64) (by omega), S.fin⟩
theorem a6c (e : E) (M : List Nat) (w0 : World) (cs : List Value) (hR : RdE M w0 e cs) :
 M0a Tryz.prog 113 #[.agg cs.toArray] w0 fun v w' => v = .bool e.shapeB ∧ Below w0.heap.size w0 w' := by
 obtain ⟨_, _, _, rfl, _, _, _, _, _, _, _, hks⟩ := hR.open_
 have S := St.refl w0
 have ha := D2a e.op
 refine a0a Tryz.func113 rfl Tryz.ntmps113 rfl ?_
 refine wO0 rfl ⟨⟩ (j0a S (by conv => lhs; whnf) rfl ?_)
 intro g1 w1 S1 X1 G1
 refine lC0 rfl ⟨⟩ (D0a b0a [0, 1, 2, 3, 4, 5, 6, 7, 8, 9, 10, 11, 12, 13, 14, 15, 16] [] [] (by kernel_rfl) rfl (Cl _ _ _ _) (Cl.start S1) ?_)
 refine qO S1.q [.o 0] rfl ⟨rfl,⟨⟩⟩ (H2a A6c rfl rfl (fun w1 S1 X1 => L2c _ _) ?_)
 refine qB S1.q [.o 0] rfl ⟨rfl,⟨⟩⟩ (fun h9 => ?_) fun h9 => ?_
 ·refine qD rfl ⟨⟩ ?_
  rintro wR1 ⟨SR1, XR1⟩
  refine lR0 rfl ⟨⟩ (r0a rfl (by conv => lhs; whnf) ?_)
  exact ⟨by exact SN (by omega), SR1.fin⟩
 refine qB S1.q [.o 0] rfl ⟨rfl,⟨⟩⟩ (fun h13 => ?_) fun h13 => ?_
 ·refine qD rfl ⟨⟩ ?_
  rintro wR1 ⟨SR1, XR1⟩
  refine lR0 rfl ⟨⟩ (r0a rfl (by conv => lhs; whnf) ?_)
  exact ⟨by exact SN (by omega), SR1.fin⟩
 refine qB S1.q [.o 0] rfl ⟨rfl,⟨⟩⟩ (fun h18 => ?_) fun h18 => ?_
 ·refine qD rfl ⟨⟩ ?_
  rintro wR1 ⟨SR1, XR1⟩
  refine lR0 rfl ⟨⟩ (r0a rfl (by conv => lhs; whnf) ?_)
  exact ⟨by exact SN (by omega), SR1.fin⟩
 refine qD rfl ⟨⟩ ?_
 rintro wR1 ⟨SR1, XR1⟩
 refine lB SR1.k [.o 0] rfl ⟨rfl,⟨⟩⟩ (fun h23 => ?_) fun h23 => ?_
 ·refine lC0 rfl ⟨⟩ (D0a b0a [0, 1, 2, 3, 4, 5, 6, 7, 8, 9, 10, 11] [] [] (by kernel_rfl) rfl (Cl _ _ _ _) (Cl.start SR1) ?_)
  refine qB SR1.q [.o 0] rfl ⟨rfl,⟨⟩⟩ (fun h26 => ?_) fun h26 => ?_
  ·refine qO SR1.q [.o 0,.o 0] rfl ⟨rfl,rfl,⟨⟩⟩ (H2a o3c rfl rfl (fun w1 S1 X1 => p6b _ _ (by omega) (by omega)) ?_)
   refine qB0 rfl ⟨⟩ (fun h33 => ?_) fun h33 => ?_
   ·refine qD rfl ⟨⟩ ?_
    rintro wR5 ⟨SR5, XR5⟩
    refine lR0 rfl ⟨⟩ (r0a rfl (by conv => lhs; whnf) ?_)
    exact ⟨by exact ST1 (by omega) (by omega), SR5.fin⟩
   refine qD rfl ⟨⟩ ?_
   rintro wR5 ⟨SR5, XR5⟩
   refine lR0 rfl ⟨⟩ (r0a rfl (by conv => lhs; whnf) ?_)
   exact ⟨by exact SF1 (by omega) (by omega), SR5.fin⟩
  refine qD rfl ⟨⟩ ?_
  rintro wR5 ⟨SR5, XR5⟩
  refine lR0 rfl ⟨⟩ (r0a rfl (by conv => lhs; whnf) ?_)
  exact ⟨by exact SF1 (by omega) (by omega), SR5.fin⟩
 refine lB0 rfl ⟨⟩ (fun h36 => ?_) fun h36 => ?_
 ·refine lB SR1.k [.o 0] rfl ⟨rfl,⟨⟩⟩ (fun h40 => ?_) fun h40 => ?_
  ·refine lB SR1.k [.o 0] rfl ⟨rfl,⟨⟩⟩ (fun h44 => ?_) fun h44 => ?_
   ·refine lR0 rfl ⟨⟩ (r0a rfl (by conv => lhs; whnf) ?_)
    exact ⟨by exact ST2 (by omega) (by omega), SR1.fin⟩
   refine lR0 rfl ⟨⟩ (r0a rfl (by conv => lhs; whnf) ?_)
   exact ⟨by exact SF2 (by omega) (by omega), SR1.fin⟩
  refine lR0 rfl ⟨⟩ (r0a rfl (by conv => lhs; whnf) ?_)
  exact ⟨by exact SF2 (by omega) (by omega), SR1.fin⟩
 refine lB0 rfl ⟨⟩ (fun h37 => ?_) fun h37 => ?_
 ·refine lB SR1.k [.o 0] rfl ⟨rfl,⟨⟩⟩ (fun h40 => ?_) fun h40 => ?_
  ·refine lB SR1.k [.o 0] rfl ⟨rfl,⟨⟩⟩ (fun h44 => ?_) fun h44 => ?_
   ·refine lR0 rfl ⟨⟩ (r0a rfl (by conv => lhs; whnf) ?_)
    exact ⟨by exact ST2 (by omega) (by omega), SR1.fin⟩
   refine lR0 rfl ⟨⟩ (r0a rfl (by conv => lhs; whnf) ?_)
   exact ⟨by exact SF2 (by omega) (by omega), SR1.fin⟩
  refine lR0 rfl ⟨⟩ (r0a rfl (by conv => lhs; whnf) ?_)
  exact ⟨by exact SF2 (by omega) (by omega), SR1.fin⟩
 refine lB0 rfl ⟨⟩ (fun h47 => ?_) fun h47 => ?_
 ·refine lC0 rfl ⟨⟩ (D0a b0a [0, 1, 2, 3, 4, 5, 6, 7, 8, 9, 10, 11, 12, 13] [] [] (by kernel_rfl) rfl (Cl _ _ _ _) (Cl.start SR1) ?_)
  refine qB SR1.q [.o 0] rfl ⟨rfl,⟨⟩⟩ (fun h50 => ?_) fun h50 => ?_
  ·refine qO SR1.q [.o 0] rfl ⟨rfl,⟨⟩⟩ ?_
   obtain ⟨b, o, hA, hbM, hkk⟩ := hks (by omega)
   have hk0 := z1a hkk 0 (by omega)
   refine m0a a1a.slT rfl (by assumption) rfl (by omega) (by omega) rfl ?_
   refine qO0 rfl ⟨⟩ (h0a C0a rfl (fun w1 hw => by exact hw.1.old hk0) rfl ?_)
   refine qB SR1.q [.o 0] rfl ⟨rfl,⟨⟩⟩ (fun h59 => ?_) fun h59 => ?_
   ·refine qD rfl ⟨⟩ ?_
    rintro wR10 ⟨SR10, XR10⟩
    refine lR0 rfl ⟨⟩ (r0a rfl (by conv => lhs; whnf) ?_)
    exact ⟨by exact ST4 (by omega) (by omega), SR10.fin⟩
   refine qD rfl ⟨⟩ ?_
   rintro wR10 ⟨SR10, XR10⟩
   refine lR0 rfl ⟨⟩ (r0a rfl (by conv => lhs; whnf) ?_)
   exact ⟨by exact SF4 (by omega) (by omega), SR10.fin⟩
  refine qD rfl ⟨⟩ ?_
  rintro wR10 ⟨SR10, XR10⟩
  refine lR0 rfl ⟨⟩ (r0a rfl (by conv => lhs; whnf) ?_)
  exact ⟨by exact SF4 (by omega) (by omega), SR10.fin⟩
 refine lB0 rfl ⟨⟩ (fun h62 => ?_) fun h62 => ?_
 ·refine lC0 rfl ⟨⟩ (D0a b0a [0, 1, 2, 3, 4, 5, 6, 7, 8, 9, 10, 11, 12, 13, 14, 15, 16, 17, 18, 19, 20, 21] [] [] (by kernel_rfl) rfl (Cl _ _ _ _) (Cl.start SR1) ?_)
  refine qB SR1.q [.o 0] rfl ⟨rfl,⟨⟩⟩ (fun h67 => ?_) fun h67 => ?_
  ·refine qB SR1.q [.o 0] rfl ⟨rfl,⟨⟩⟩ (fun h71 => ?_) fun h71 => ?_
   ·refine qO SR1.q [.o 0] rfl ⟨rfl,⟨⟩⟩ ?_
    obtain ⟨b, o, hA, hbM, hkk⟩ := hks (by omega)
    have hk0 := z1a hkk 0 (by omega)
    have hk1 := z1a hkk 1 (by omega)
    refine m0a a1a.slT rfl (by assumption) rfl (by omega) (by omega) rfl ?_
    refine qO0 rfl ⟨⟩ (h0a C0a rfl (fun w1 hw => by exact hw.1.old hk0) rfl ?_)
    refine qO SR1.q [.o 0] rfl ⟨rfl,⟨⟩⟩ (m0a a1a.slT rfl (by assumption) rfl (by omega) (by omega) rfl ?_)
    refine qO0 rfl ⟨⟩ (h0a C0a rfl (fun w1 hw => by exact hw.1.old hk1) rfl ?_)
    refine qB0 rfl ⟨⟩ (fun h84 => ?_) fun h84 => ?_
    ·refine qD rfl ⟨⟩ ?_
     rintro wR14 ⟨SR14, XR14⟩
     refine lR0 rfl ⟨⟩ (r0a rfl (by conv => lhs; whnf) ?_)
     exact ⟨by exact H6c (by omega) (by omega), SR14.fin⟩
    refine qD rfl ⟨⟩ ?_
    rintro wR14 ⟨SR14, XR14⟩
    refine lR0 rfl ⟨⟩ (r0a rfl (by conv => lhs; whnf) ?_)
    exact ⟨by exact k2b (by omega) (by omega), SR14.fin⟩
   refine qD rfl ⟨⟩ ?_
   rintro wR14 ⟨SR14, XR14⟩
   refine lR0 rfl ⟨⟩ (r0a rfl (by conv => lhs; whnf) ?_)
   exact ⟨by exact k2b (by omega) (by omega), SR14.fin⟩
  refine qD rfl ⟨⟩ ?_
  rintro wR14 ⟨SR14, XR14⟩
  refine lR0 rfl ⟨⟩ (r0a rfl (by conv => lhs; whnf) ?_)
  exact ⟨by exact k2b (by omega) (by omega), SR14.fin⟩
 refine lB0 rfl ⟨⟩ (fun h63 => ?_) fun h63 => ?_
 ·refine lC0 rfl ⟨⟩ (D0a b0a [0, 1, 2, 3, 4, 5, 6, 7, 8, 9, 10, 11, 12, 13, 14, 15, 16, 17, 18, 19, 20, 21] [] [] (by kernel_rfl) rfl (Cl _ _ _ _) (Cl.start SR1) ?_)
  refine qB SR1.q [.o 0] rfl ⟨rfl,⟨⟩⟩ (fun h67 => ?_) fun h67 => ?_
  ·refine qB SR1.q [.o 0] rfl ⟨rfl,⟨⟩⟩ (fun h71 => ?_) fun h71 => ?_
   ·refine qO SR1.q [.o 0] rfl ⟨rfl,⟨⟩⟩ ?_
    obtain ⟨b, o, hA, hbM, hkk⟩ := hks (by omega)
    have hk0 := z1a hkk 0 (by omega)
    have hk1 := z1a hkk 1 (by omega)
    refine m0a a1a.slT rfl (by assumption) rfl (by omega) (by omega) rfl ?_
    refine qO0 rfl ⟨⟩ (h0a C0a rfl (fun w1 hw => by exact hw.1.old hk0) rfl ?_)
    refine qO SR1.q [.o 0] rfl ⟨rfl,⟨⟩⟩ (m0a a1a.slT rfl (by assumption) rfl (by omega) (by omega) rfl ?_)
    refine qO0 rfl ⟨⟩ (h0a C0a rfl (fun w1 hw => by exact hw.1.old hk1) rfl ?_)
    refine qB0 rfl ⟨⟩ (fun h84 => ?_) fun h84 => ?_
    ·refine qD rfl ⟨⟩ ?_
     rintro wR14 ⟨SR14, XR14⟩
     refine lR0 rfl ⟨⟩ (r0a rfl (by conv => lhs; whnf) ?_)
     exact ⟨by exact H6c (by omega) (by omega), SR14.fin⟩
    refine qD rfl ⟨⟩ ?_
    rintro wR14 ⟨SR14, XR14⟩
    refine lR0 rfl ⟨⟩ (r0a rfl (by conv => lhs; whnf) ?_)
    exact ⟨by exact k2b (by omega) (by omega), SR14.fin⟩
   refine qD rfl ⟨⟩ ?_
   rintro wR14 ⟨SR14, XR14⟩
   refine lR0 rfl ⟨⟩ (r0a rfl (by conv => lhs; whnf) ?_)
   exact ⟨by exact k2b (by omega) (by omega), SR14.fin⟩
  refine qD rfl ⟨⟩ ?_
  rintro wR14 ⟨SR14, XR14⟩
  refine lR0 rfl ⟨⟩ (r0a rfl (by conv => lhs; whnf) ?_)
  exact ⟨by exact k2b (by omega) (by omega), SR14.fin⟩
 refine lB0 rfl ⟨⟩ (fun h64 => ?_) fun h64 => ?_
 ·refine lC0 rfl ⟨⟩ (D0a b0a [0, 1, 2, 3, 4, 5, 6, 7, 8, 9, 10, 11, 12, 13, 14, 15, 16, 17, 18, 19, 20, 21] [] [] (by kernel_rfl) rfl (Cl _ _ _ _) (Cl.start SR1) ?_)
  refine qB SR1.q [.o 0] rfl ⟨rfl,⟨⟩⟩ (fun h67 => ?_) fun h67 => ?_
  ·refine qB SR1.q [.o 0] rfl ⟨rfl,⟨⟩⟩ (fun h71 => ?_) fun h71 => ?_
   ·refine qO SR1.q [.o 0] rfl ⟨rfl,⟨⟩⟩ ?_
    obtain ⟨b, o, hA, hbM, hkk⟩ := hks (by omega)
    have hk0 := z1a hkk 0 (by omega)
    have hk1 := z1a hkk 1 (by omega)
    refine m0a a1a.slT rfl (by assumption) rfl (by omega) (by omega) rfl ?_
    refine qO0 rfl ⟨⟩ (h0a C0a rfl (fun w1 hw => by exact hw.1.old hk0) rfl ?_)
    refine qO SR1.q [.o 0] rfl ⟨rfl,⟨⟩⟩ (m0a a1a.slT rfl (by assumption) rfl (by omega) (by omega) rfl ?_)
    refine qO0 rfl ⟨⟩ (h0a C0a rfl (fun w1 hw => by exact hw.1.old hk1) rfl ?_)
    refine qB0 rfl ⟨⟩ (fun h84 => ?_) fun h84 => ?_
    ·refine qD rfl ⟨⟩ ?_
     rintro wR14 ⟨SR14, XR14⟩
     refine lR0 rfl ⟨⟩ (r0a rfl (by conv => lhs; whnf) ?_)
     exact ⟨by exact H6c (by omega) (by omega), SR14.fin⟩
    refine qD rfl ⟨⟩ ?_
    rintro wR14 ⟨SR14, XR14⟩
    refine lR0 rfl ⟨⟩ (r0a rfl (by conv => lhs; whnf) ?_)
    exact ⟨by exact k2b (by omega) (by omega), SR14.fin⟩
   refine qD rfl ⟨⟩ ?_
   rintro wR14 ⟨SR14, XR14⟩
   refine lR0 rfl ⟨⟩ (r0a rfl (by conv => lhs; whnf) ?_)
   exact ⟨by exact k2b (by omega) (by omega), SR14.fin⟩
  refine qD rfl ⟨⟩ ?_
  rintro wR14 ⟨SR14, XR14⟩
  refine lR0 rfl ⟨⟩ (r0a rfl (by conv => lhs; whnf) ?_)
  exact ⟨by exact k2b (by omega) (by omega), SR14.fin⟩
 refine lB0 rfl ⟨⟩ (fun h87 => ?_) fun h87 => ?_
 ·refine lC0 rfl ⟨⟩ (D0a b0a [0, 1, 2, 3, 4, 5, 6, 7, 8, 9, 10, 11, 12, 13, 14, 15, 16, 17, 18, 19, 20, 21, 22, 23, 24, 25, 26, 27, 28, 29, 30, 31] [] [] (by kernel_rfl) rfl (Cl _ _ _ _) (Cl.start SR1) ?_)
  refine qB SR1.q [.o 0] rfl ⟨rfl,⟨⟩⟩ (fun h90 => ?_) fun h90 => ?_
  ·refine qO SR1.q [.o 0] rfl ⟨rfl,⟨⟩⟩ ?_
   obtain ⟨b, o, hA, hbM, hkk⟩ := hks (by omega)
   have hk0 := z1a hkk 0 (by omega)
   have hk1 := z1a hkk 1 (by omega)
   have hk2 := z1a hkk 2 (by omega)
   refine m0a a1a.slT rfl (by assumption) rfl (by omega) (by omega) rfl ?_
   refine qO0 rfl ⟨⟩ (h0a C0a rfl (fun w1 hw => by exact hw.1.old hk0) rfl ?_)
   refine qB0 rfl ⟨⟩ (fun h97 => ?_) fun h97 => ?_
   ·refine qO SR1.q [.o 0] rfl ⟨rfl,⟨⟩⟩ (m0a a1a.slT rfl (by assumption) rfl (by omega) (by omega) rfl ?_)
    refine qO0 rfl ⟨⟩ (h0a C0a rfl (fun w1 hw => by exact hw.1.old hk1) rfl ?_)
    refine qB SR1.q [.o 0] rfl ⟨rfl,⟨⟩⟩ (fun h107 => ?_) fun h107 => ?_
    ·refine qO SR1.q [.o 0] rfl ⟨rfl,⟨⟩⟩ (m0a a1a.slT rfl (by assumption) rfl (by omega) (by omega) rfl ?_)
     refine qO0 rfl ⟨⟩ (h0a C0a rfl (fun w1 hw => by exact hw.1.old hk2) rfl ?_)
     refine qB SR1.q [.o 0] rfl ⟨rfl,⟨⟩⟩ (fun h117 => ?_) fun h117 => ?_
     ·refine qD rfl ⟨⟩ ?_
      rintro wR16 ⟨SR16, XR16⟩
      refine lR0 rfl ⟨⟩ (r0a rfl (by conv => lhs; whnf) ?_)
      exact ⟨by exact Z9c (by omega) (by omega), SR16.fin⟩
     refine qD rfl ⟨⟩ ?_
     rintro wR16 ⟨SR16, XR16⟩
     refine lR0 rfl ⟨⟩ (r0a rfl (by conv => lhs; whnf) ?_)
     exact ⟨by exact B8c (by omega) (by omega), SR16.fin⟩
    refine qD rfl ⟨⟩ ?_
    rintro wR16 ⟨SR16, XR16⟩
    refine lR0 rfl ⟨⟩ (r0a rfl (by conv => lhs; whnf) ?_)
    exact ⟨by exact B8c (by omega) (by omega), SR16.fin⟩
   refine qD rfl ⟨⟩ ?_
   rintro wR16 ⟨SR16, XR16⟩
   refine lR0 rfl ⟨⟩ (r0a rfl (by conv => lhs; whnf) ?_)
   exact ⟨by exact B8c (by omega) (by omega), SR16.fin⟩
  refine qD rfl ⟨⟩ ?_
  rintro wR16 ⟨SR16, XR16⟩
  refine lR0 rfl ⟨⟩ (r0a rfl (by conv => lhs; whnf) ?_)
  exact ⟨by exact B8c (by omega) (by omega), SR16.fin⟩
 refine lC0 rfl ⟨⟩ (D0a b0a [0, 1, 2, 3, 4, 5, 6, 7, 8, 9, 10, 11, 12, 13, 14, 15, 16, 17, 18, 19, 20, 21, 22, 23] [] [] (by kernel_rfl) rfl (Cl _ _ _ _) (Cl.start SR1) ?_)
 refine qB SR1.q [.o 0] rfl ⟨rfl,⟨⟩⟩ (fun h121 => ?_) fun h121 => ?_
 ·refine qO SR1.q [.o 0] rfl ⟨rfl,⟨⟩⟩ ?_
  obtain ⟨b, o, hA, hbM, hkk⟩ := hks (by omega)
  have hk0 := z1a hkk 0 (by omega)
  have hk1 := z1a hkk 1 (by omega)
  refine m0a a1a.slT rfl (by assumption) rfl (by omega) (by omega) rfl ?_
  refine qO0 rfl ⟨⟩ (h0a C0a rfl (fun w1 hw => by exact hw.1.old hk0) rfl ?_)
  refine qB SR1.q [.o 0] rfl ⟨rfl,⟨⟩⟩ (fun h130 => ?_) fun h130 => ?_
  ·refine qO SR1.q [.o 0] rfl ⟨rfl,⟨⟩⟩ (m0a a1a.slT rfl (by assumption) rfl (by omega) (by omega) rfl ?_)
   refine qO0 rfl ⟨⟩ (h0a C0a rfl (fun w1 hw => by exact hw.1.old hk1) rfl ?_)
   refine qB SR1.q [.o 0] rfl ⟨rfl,⟨⟩⟩ (fun h140 => ?_) fun h140 => ?_
   ·refine qD rfl ⟨⟩ ?_
    rintro wR17 ⟨SR17, XR17⟩
    refine lR0 rfl ⟨⟩ (r0a rfl (by conv => lhs; whnf) ?_)
    exact ⟨by exact ST5 (by omega) (by omega), SR17.fin⟩
   refine qD rfl ⟨⟩ ?_
   rintro wR17 ⟨SR17, XR17⟩
   refine lR0 rfl ⟨⟩ (r0a rfl (by conv => lhs; whnf) ?_)
   exact ⟨by exact SF5 (by omega) (by omega), SR17.fin⟩
  refine qD rfl ⟨⟩ ?_
  rintro wR17 ⟨SR17, XR17⟩
  refine lR0 rfl ⟨⟩ (r0a rfl (by conv => lhs; whnf) ?_)
  exact ⟨by exact SF5 (by omega) (by omega), SR17.fin⟩
 refine qD rfl ⟨⟩ ?_
 rintro wR17 ⟨SR17, XR17⟩
 refine lR0 rfl ⟨⟩ (r0a rfl (by conv => lhs; whnf) ?_)
 exact ⟨by exact SF5 (by omega) (by omega), SR17.fin⟩
theorem d4c : ∀ (e : E) (M : List Nat) (w0 : World) (cs : List Value) (lim : Int), RdE M w0 e cs → -1000 ≤ lim → lim ≤ 1000 →
 M0a Tryz.prog 86 #[.agg cs.toArray, .int .i64 lim] w0 fun v w' => v = .bool (e.good lim) ∧ Below w0.heap.size w0 w' := by
 intro e
 induction e using E.induct with
 | _ e ih =>
 intro M w0 cs lim hR hl1 hl2
 obtain ⟨A, n, c, rfl, _, _, _, _, _, _, _, hks⟩ := hR.open_
 have S := St.refl w0
 have hdef := E.good_def e lim
 have hfalse : ∀ k ∈ e.kids, k.good (lim - 1) = false → E.goods e.kids (lim - 1) = false := fun k hk hf => by
  cases hg : E.goods e.kids (lim - 1) with
  | false => rfl
  | true => rw [(E.goods_iff _ _).1 hg k hk] at hf; cases hf
 refine a0a Tryz.func86 rfl Tryz.ntmps86 rfl ?_
 refine wO0 rfl ⟨⟩ (j0a S (by conv => lhs; whnf) rfl ?_)
 intro g2 w2 S2 X2 G2
 refine lB0 rfl ⟨⟩ (fun h7 => ?_) fun h7 => ?_
 ·refine lT rfl ⟨⟩ rfl ⟨congrArg Value.bool ?_, S2.fin⟩
  rw [hdef]
  simp [show ¬ 1 ≤ lim by omega]; done
 refine lO S2.k [.w 0] rfl ⟨⟨rfl,by rfl⟩,⟨⟩⟩ (y0a S2 L3c rfl rfl (a6c _ M _ _ (RdE.keep (S2.keep0 M) _ _ hR)) (fun h10 w10 S10 X10 => ?_) (fun h10 w10 S10 X10 => ?_))
 ·refine lC0 rfl ⟨⟩ (wL (fun μ D ε w => D = [] ∧ ∃ k : Nat, (k + μ = e.kids.length) ∧ (∀ (j : Nat) (h : j < e.kids.length), j < k → e.kids[j].good (lim - 1) = true) ∧ St [] w0 w [(some g2, 53, [.int .i64 e.op, .int .i64 e.w, .int .i64 e.n, .slice A n c])] ∧ ε 1 = .int .i64 lim ∧ ε 2 = .pointer (some ⟨g2, 0, none⟩) ∧ ε 5 = .int .i64 k) (μ := e.kids.length) ⟨rfl, 0, by omega, fun j _ h => absurd h (by omega), S10, rfl, rfl, rfl⟩ ?_)
  rintro μ D ε w ⟨rfl, k, hk, hs, S, e1, e2, e5⟩
  refine o0a 1 e1 (o0a 2 e2 (o0a 5 e5 ?_))
  clear e1 e2 e5
  refine wB S.k [.o 0] rfl ⟨rfl,⟨⟩⟩ (fun h17 => ?_) fun h17 => ?_
  ·have hlt : k < e.kids.length := by omega
   obtain ⟨_, o, _, hbM, hkk⟩ := hks (by omega)
   obtain ⟨ck, hck, hrk⟩ := hkk k hlt
   have hlen : ck.length = 4 := hrk.length
   refine lO S.k [.o 0] rfl ⟨rfl,⟨⟩⟩ (x0a a1a.slT rfl (by assumption) rfl (by omega) (by omega) rfl ?_)
   refine w1a x1a rfl (hck.keep (S.keep0 M) hbM) (by assumption) rfl ?_
   refine lO0 rfl ⟨by omega,⟨⟩⟩ (y0a S D3c rfl rfl (ih _ (List.getElem_mem hlt) M _ ck _ (RdE.keep (S.keep0 M) _ _ hrk) (by omega) (by omega)) (fun h27 w27 S27 X27 => ?_) (fun h27 w27 S27 X27 => ?_))
   ·refine lP0 rfl ⟨by omega,⟨⟩⟩ ⟨μ - 1, by omega, rfl, k + 1, by omega, fun j hj h => ?_, S27, rfl, rfl, rfl⟩
    by_cases hjk : j = k
    ·subst hjk; exact h27
    ·exact hs j hj (by omega)
   refine lT rfl ⟨⟩ rfl ⟨congrArg Value.bool ?_, S27.fin⟩
   rw [hdef]
   simp [hfalse _ (List.getElem_mem hlt) h27]; done
  refine lT rfl ⟨⟩ rfl ⟨congrArg Value.bool ?_, S.fin⟩
  rw [hdef]
  rw [(E.goods_iff _ _).2 (fun x hx => by obtain ⟨j, hj, rfl⟩ := List.getElem_of_mem hx; exact hs j hj (by omega))]; simp [h10, show 1 ≤ lim by omega]
 refine lT rfl ⟨⟩ rfl ⟨congrArg Value.bool ?_, S10.fin⟩
 rw [hdef]
 simp [h10]; done
theorem W8a (e : E) (M : List Nat) (w0 : World) (cs : List Value) (hR : RdE M w0 e cs) :
 M0a Tryz.prog 62 #[.agg cs.toArray] w0 fun v w' => v = .bool e.wf ∧ Below w0.heap.size w0 w' := by
 obtain ⟨_, _, _, rfl, _, _, _, _, _, _, _, _⟩ := hR.open_
 have S := St.refl w0
 have hsz := E.size_eq e 601 (by omega)
 refine a0a Tryz.func62 rfl Tryz.ntmps62 rfl ?_
 refine wO0 rfl ⟨⟩ (j0a S (by conv => lhs; whnf) rfl ?_)
 intro g1 w1 S1 X1 G1
 refine lO S1.k [.w 0] rfl ⟨⟨rfl,by rfl⟩,⟨⟩⟩ ?_
 refine g0a S1 Z5b rfl rfl (d5b _ M _ _ _ (RdE.keep (S1.keep0 M) _ _ hR) (by unfold i64; omega)) ?_
 intro w4 S4 X4
 refine lB0 rfl ⟨⟩ (fun h5 => ?_) fun h5 => ?_
 ·refine lO S4.k [.w 0] rfl ⟨⟨rfl,by rfl⟩,⟨⟩⟩ (y0a S4 D3c rfl rfl (d4c _ M _ _ _ (RdE.keep (S4.keep0 M) _ _ hR) (by omega) (by omega)) (fun h8 w8 S8 X8 => ?_) (fun h8 w8 S8 X8 => ?_))
  ·refine lT rfl ⟨⟩ rfl ⟨congrArg Value.bool ?_, S8.fin⟩
   unfold E.wf
   simp [h8, show e.cnt ≤ 600 by omega]; done
  refine lT rfl ⟨⟩ rfl ⟨congrArg Value.bool ?_, S8.fin⟩
  unfold E.wf
  simp [h8, show e.cnt ≤ 600 by omega]; done
 refine lT rfl ⟨⟩ rfl ⟨congrArg Value.bool ?_, S4.fin⟩
 unfold E.wf
 simp [show ¬ e.cnt ≤ 600 by omega]; done
theorem R1c (e : E) (M : List Nat) (w0 : World) (cs : List Value) (lim : Int) (hR : RdE M w0 e cs) (h0 : 0 ≤ lim) (h1 : lim ≤ 1000000) :
 M0a Tryz.prog 14 #[.agg cs.toArray, .int .i64 lim] w0 fun v w' => v = .bool (decide ((e.cnt : Int) ≤ lim)) ∧ Below w0.heap.size w0 w' := by
 obtain ⟨_, _, _, rfl, _, _, _, _, _, _, _, _⟩ := hR.open_
 have S := St.refl w0
 have hsz := E.size_eq e (lim + 1) (by omega)
 refine a0a Tryz.func14 rfl Tryz.ntmps14 rfl ?_
 refine wO0 rfl ⟨⟩ (j0a S (by conv => lhs; whnf) rfl ?_)
 intro g2 w2 S2 X2 G2
 refine lO S2.k [.w 0] rfl ⟨by omega,⟨rfl,by rfl⟩,⟨⟩⟩ ?_
 refine g0a S2 Z5b rfl rfl (d5b _ M _ _ _ (RdE.keep (S2.keep0 M) _ _ hR) (by unfold i64; omega)) ?_
 intro w8 S8 X8
 refine lB0 rfl ⟨⟩ (fun h10 => ?_) fun h10 => ?_
 ·refine lT rfl ⟨⟩ rfl ⟨congrArg Value.bool ?_, S8.fin⟩
  exact (decide_eq_true (by omega)).symm
 refine lT rfl ⟨⟩ rfl ⟨congrArg Value.bool ?_, S8.fin⟩
 exact (decide_eq_false (by omega)).symm
theorem E5c : ∀ (e : E) (M : List Nat) (w0 : World) (cs : List Value) (vc : Value) (cells : List d2a) (pair : Bool) (lim : Int), RdE M w0 e cs → W4c M w0 vc cells → e.good lim = true →
 M0a Tryz.prog 102 #[.agg cs.toArray, vc, .bool pair] w0 fun v w' => v = .bool (e.over cells pair) ∧ Below w0.heap.size w0 w' := by
 intro e
 induction e using E.induct with
 | _ e ih =>
 intro M w0 cs vc cells pair lim hR hC hg
 obtain ⟨A, n, c, rfl, _, _, _, _, _, hm, _, hks⟩ := hR.open_
 obtain ⟨Ac, nc, cc, rfl, _, _, _, _, hcs⟩ := id hC
 have S := St.refl w0
 have hdef := E.over_def cells pair e
 have hfalse : ∀ k ∈ e.kids, k.over cells pair = false → E.overs cells pair e.kids = false := fun k hk hf => by
  cases hg : E.overs cells pair e.kids with
  | false => rfl
  | true => rw [(E.overs_iff _ _ _).1 hg k hk] at hf; cases hf
 rw [E.good_def] at hg
 simp only [Bool.and_eq_true] at hg
 have hsh : e.Shape := of_decide_eq_true hg.1.2
 have hkg : ∀ k ∈ e.kids, k.good (lim - 1) = true := (E.goods_iff _ _).1 hg.2
 clear hg
 have har := D2a e.op
 have hov : (e.op = 3 ∨ e.op = 2) → 0 ≤ e.n ∧ e.n < 32 := fun h => by
  have := (W4a (by omega)).1 hsh; omega
 cases pair
 ·refine a0a Tryz.func102 rfl Tryz.ntmps102 rfl ?_
  refine wO0 rfl ⟨⟩ (j0a S (by conv => lhs; whnf) rfl ?_)
  intro g3 w3 S3 X3 G3
  refine lCn 3 S3.k [] rfl ⟨⟩ (wY (fun D ε w => D = [] ∧ (e.OverN cells false) ∧ St [] w0 w [(some g3, 53, [.int .i64 e.op, .int .i64 e.w, .int .i64 e.n, .slice A n c])] ∧ Sl ε [(1, .slice Ac nc cc), (2, .bool false), (3, .pointer (some ⟨g3, 0, none⟩))]) ?_ ?_)
  ·refine wB S3.k [.o 0] rfl ⟨rfl,⟨⟩⟩ (fun h10 => ?_) fun h10 => ?_
   ·refine lT rfl ⟨⟩ rfl ⟨congrArg Value.bool ?_, S3.fin⟩
    rw [hdef]
    rw [decide_eq_false (by unfold E.OverN; simp; omega)]; rfl
   refine lC0 rfl ⟨⟩ (D0a b0a [0, 1, 2, 3, 4, 5, 6, 7, 8, 9, 10, 11, 12, 13, 14, 15, 16, 17, 18, 19, 20, 21, 22, 23, 24, 25] [] [] (by kernel_rfl) rfl (Cl _ _ _ _) (Cl.start S3) ?_)
   refine qB S3.q [.o 0] rfl ⟨rfl,⟨⟩⟩ (fun h17 => ?_) fun h17 => ?_
   ·refine qOn 8 S3.q [.o 0] rfl ⟨rfl,⟨⟩⟩ (G7a rfl rfl ?_)
    refine e1a (by conv => lhs; whnf) rfl ?_
    refine qB0 rfl ⟨⟩ (fun h28 => ?_) fun h28 => ?_
    ·refine qD rfl ⟨⟩ ?_
     rintro wR3 ⟨SR3, XR3⟩
     refine lT rfl ⟨⟩ rfl ⟨congrArg Value.bool ?_, SR3.fin⟩
     rw [hdef]
     rw [decide_eq_false (by unfold E.OverN; omega)]; rfl
    refine qOn 1 S3.q [] rfl ⟨⟩ (G7a rfl rfl ?_)
    refine e1a (by conv => lhs; whnf) rfl ?_
    refine qO S3.q [.o 0] rfl ⟨rfl,⟨⟩⟩ ?_
    obtain ⟨bc, oc, hAc, hbc, hce⟩ := hcs (by omega)
    obtain ⟨m, hm⟩ := Int.eq_ofNat_of_zero_le (show 0 ≤ e.n by omega)
    have hml : m < cells.length := by omega
    obtain ⟨cl, hcl, hcw', hrc⟩ := hce m cells[m] (List.getElem?_eq_getElem hml)
    have hcw : w0.cell? ⟨bc, oc + e.n.toNat * 6 + 1, none⟩ = some (.int .i64 (wAt cells e.n)) := by
     rw [hm]; have := hcw' 1 (.int .i64 cells[m].w) (by rw [hrc.1]; rfl)
     simpa [wAt, hml] using this
    refine m0a p5a.slT rfl (by assumption) rfl (by omega) (by omega) rfl ?_
    refine qO0 rfl ⟨⟩ (h0a C0a rfl (fun w1 hw => by exact hw.1.old hcw) rfl ?_)
    refine qB S3.q [.o 0] rfl ⟨rfl,⟨⟩⟩ (fun h38 => ?_) fun h38 => ?_
    ·refine qD rfl ⟨⟩ ?_
     rintro wR3 ⟨SR3, XR3⟩
     refine lT rfl ⟨⟩ rfl ⟨congrArg Value.bool ?_, SR3.fin⟩
     rw [hdef]
     rw [decide_eq_false (by unfold E.OverN; omega)]; rfl
    refine qD rfl ⟨⟩ ?_
    rintro wR3 ⟨SR3, XR3⟩
    refine lP0 rfl ⟨⟩ ?_
    refine ⟨rfl, ((by unfold E.OverN; (simp; omega))), SR3, rfl⟩
   refine qB S3.q [.o 0] rfl ⟨rfl,⟨⟩⟩ (fun h21 => ?_) fun h21 => ?_
   ·refine qOn 4 S3.q [.o 0] rfl ⟨rfl,⟨⟩⟩ (G7a rfl rfl ?_)
    refine e1a (by conv => lhs; whnf) rfl ?_
    refine qB0 rfl ⟨⟩ (fun h28 => ?_) fun h28 => ?_
    ·refine qD rfl ⟨⟩ ?_
     rintro wR3 ⟨SR3, XR3⟩
     refine lT rfl ⟨⟩ rfl ⟨congrArg Value.bool ?_, SR3.fin⟩
     rw [hdef]
     rw [decide_eq_false (by unfold E.OverN; omega)]; rfl
    refine qOn 1 S3.q [] rfl ⟨⟩ (G7a rfl rfl ?_)
    refine e1a (by conv => lhs; whnf) rfl ?_
    refine qO S3.q [.o 0] rfl ⟨rfl,⟨⟩⟩ ?_
    obtain ⟨bc, oc, hAc, hbc, hce⟩ := hcs (by omega)
    obtain ⟨m, hm⟩ := Int.eq_ofNat_of_zero_le (show 0 ≤ e.n by omega)
    have hml : m < cells.length := by omega
    obtain ⟨cl, hcl, hcw', hrc⟩ := hce m cells[m] (List.getElem?_eq_getElem hml)
    have hcw : w0.cell? ⟨bc, oc + e.n.toNat * 6 + 1, none⟩ = some (.int .i64 (wAt cells e.n)) := by
     rw [hm]; have := hcw' 1 (.int .i64 cells[m].w) (by rw [hrc.1]; rfl)
     simpa [wAt, hml] using this
    refine m0a p5a.slT rfl (by assumption) rfl (by omega) (by omega) rfl ?_
    refine qO0 rfl ⟨⟩ (h0a C0a rfl (fun w1 hw => by exact hw.1.old hcw) rfl ?_)
    refine qB S3.q [.o 0] rfl ⟨rfl,⟨⟩⟩ (fun h38 => ?_) fun h38 => ?_
    ·refine qD rfl ⟨⟩ ?_
     rintro wR3 ⟨SR3, XR3⟩
     refine lT rfl ⟨⟩ rfl ⟨congrArg Value.bool ?_, SR3.fin⟩
     rw [hdef]
     rw [decide_eq_false (by unfold E.OverN; omega)]; rfl
    refine qD rfl ⟨⟩ ?_
    rintro wR3 ⟨SR3, XR3⟩
    refine lP0 rfl ⟨⟩ ?_
    refine ⟨rfl, ((by unfold E.OverN; (simp; omega))), SR3, rfl⟩
   refine qD rfl ⟨⟩ ?_
   rintro wR3 ⟨SR3, XR3⟩
   refine lP0 rfl ⟨⟩ ?_
   refine ⟨rfl, ((by unfold E.OverN; (simp; omega))), SR3, rfl⟩
  rintro D ε w ⟨rfl, hO, S, eZ⟩
  refine wK eZ (wC0 rfl ⟨⟩ ?_)
  refine wL (fun μ D ε w => D = [] ∧ ∃ k : Nat, (k + μ = e.kids.length) ∧ (∀ (j : Nat) (h : j < e.kids.length), j < k → e.kids[j].over cells false = true) ∧ St [] w0 w [(some g3, 53, [.int .i64 e.op, .int .i64 e.w, .int .i64 e.n, .slice A n c])] ∧ ε 1 = .slice Ac nc cc ∧ ε 2 = .bool false ∧ ε 3 = .pointer (some ⟨g3, 0, none⟩) ∧ ε 7 = .int .i64 k) (μ := e.kids.length) ⟨rfl, 0, by omega, fun j _ h => absurd h (by omega), S, rfl, rfl, rfl, rfl⟩ ?_
  rintro μ D ε w ⟨rfl, k, hk, hs, S, e1, e2, e3, e7⟩
  refine o0a 1 e1 (o0a 2 e2 (o0a 3 e3 (o0a 7 e7 ?_)))
  clear e1 e2 e3 e7
  refine wB S.k [.o 0] rfl ⟨rfl,⟨⟩⟩ (fun h45 => ?_) fun h45 => ?_
  ·have hlt : k < e.kids.length := by omega
   obtain ⟨b, o, hA, hbM, hkk⟩ := hks (by omega)
   obtain ⟨ck, hck, hrk⟩ := hkk k hlt
   have hlen : ck.length = 4 := hrk.length
   refine lO S.k [.o 0] rfl ⟨rfl,⟨⟩⟩ (x0a a1a.slT rfl (by assumption) rfl (by omega) (by omega) rfl ?_)
   refine w1a x1a rfl (hck.keep (S.keep0 M) hbM) (by assumption) rfl ?_
   refine lO0 rfl ⟨⟩ (y0a S Y4b rfl rfl (ih _ (List.getElem_mem hlt) M _ ck _ cells false _ (RdE.keep (S.keep0 M) _ _ hrk) (hC.keep (S.keep0 M)) (hkg _ (List.getElem_mem hlt))) (fun h55 w55 S55 X55 => ?_) (fun h55 w55 S55 X55 => ?_))
   ·refine lP0 rfl ⟨by omega,⟨⟩⟩ ⟨μ - 1, by omega, rfl, k + 1, by omega, fun j hj h => ?_, S55, rfl, rfl, rfl, rfl⟩
    by_cases hjk : j = k
    ·subst hjk; exact h55
    ·exact hs j hj (by omega)
   refine lT rfl ⟨⟩ rfl ⟨congrArg Value.bool ?_, S55.fin⟩
   rw [hdef]
   rw [hfalse _ (List.getElem_mem hlt) h55]; simp; done
  refine lT rfl ⟨⟩ rfl ⟨congrArg Value.bool ?_, S.fin⟩
  rw [hdef]
  rw [(E.overs_iff _ _ _).2 (fun x hx => by obtain ⟨j, hj, rfl⟩ := List.getElem_of_mem hx; exact hs j hj (by omega)), decide_eq_true hO]; rfl
 ·refine a0a Tryz.func102 rfl Tryz.ntmps102 rfl ?_
  refine wO0 rfl ⟨⟩ (j0a S (by conv => lhs; whnf) rfl ?_)
  intro g3 w3 S3 X3 G3
  refine lCn 3 S3.k [] rfl ⟨⟩ (wY (fun D ε w => D = [] ∧ (e.OverN cells true) ∧ St [] w0 w [(some g3, 53, [.int .i64 e.op, .int .i64 e.w, .int .i64 e.n, .slice A n c])] ∧ Sl ε [(1, .slice Ac nc cc), (2, .bool true), (3, .pointer (some ⟨g3, 0, none⟩))]) ?_ ?_)
  ·refine wB S3.k [.o 0] rfl ⟨rfl,⟨⟩⟩ (fun h10 => ?_) fun h10 => ?_
   ·refine lC0 rfl ⟨⟩ (D0a b0a [0, 1, 2, 3, 4, 5, 6, 7, 8, 9, 10, 11, 12, 13, 14, 15, 16, 17, 18, 19, 20, 21, 22, 23, 24, 25] [] [] (by kernel_rfl) rfl (Cl _ _ _ _) (Cl.start S3) ?_)
    refine qB S3.q [.o 0] rfl ⟨rfl,⟨⟩⟩ (fun h17 => ?_) fun h17 => ?_
    ·refine qOn 8 S3.q [.o 0] rfl ⟨rfl,⟨⟩⟩ (G7a rfl rfl ?_)
     refine e1a (by conv => lhs; whnf) rfl ?_
     refine qB0 rfl ⟨⟩ (fun h28 => ?_) fun h28 => ?_
     ·refine qD rfl ⟨⟩ ?_
      rintro wR3 ⟨SR3, XR3⟩
      refine lT rfl ⟨⟩ rfl ⟨congrArg Value.bool ?_, SR3.fin⟩
      rw [hdef]
      rw [decide_eq_false (by unfold E.OverN; omega)]; rfl
     refine qOn 1 S3.q [] rfl ⟨⟩ (G7a rfl rfl ?_)
     refine e1a (by conv => lhs; whnf) rfl ?_
     refine qO S3.q [.o 0] rfl ⟨rfl,⟨⟩⟩ ?_
     obtain ⟨bc, oc, hAc, hbc, hce⟩ := hcs (by omega)
     obtain ⟨m, hm⟩ := Int.eq_ofNat_of_zero_le (show 0 ≤ e.n by omega)
     have hml : m < cells.length := by omega
     obtain ⟨cl, hcl, hcw', hrc⟩ := hce m cells[m] (List.getElem?_eq_getElem hml)
     have hcw : w0.cell? ⟨bc, oc + e.n.toNat * 6 + 1, none⟩ = some (.int .i64 (wAt cells e.n)) := by
      rw [hm]; have := hcw' 1 (.int .i64 cells[m].w) (by rw [hrc.1]; rfl)
      simpa [wAt, hml] using this
     refine m0a p5a.slT rfl (by assumption) rfl (by omega) (by omega) rfl ?_
     refine qO0 rfl ⟨⟩ (h0a C0a rfl (fun w1 hw => by exact hw.1.old hcw) rfl ?_)
     refine qB S3.q [.o 0] rfl ⟨rfl,⟨⟩⟩ (fun h38 => ?_) fun h38 => ?_
     ·refine qD rfl ⟨⟩ ?_
      rintro wR3 ⟨SR3, XR3⟩
      refine lT rfl ⟨⟩ rfl ⟨congrArg Value.bool ?_, SR3.fin⟩
      rw [hdef]
      rw [decide_eq_false (by unfold E.OverN; omega)]; rfl
     refine qD rfl ⟨⟩ ?_
     rintro wR3 ⟨SR3, XR3⟩
     refine lP0 rfl ⟨⟩ ?_
     refine ⟨rfl, ((by unfold E.OverN; (simp; omega))), SR3, rfl⟩
    refine qB S3.q [.o 0] rfl ⟨rfl,⟨⟩⟩ (fun h21 => ?_) fun h21 => ?_
    ·refine qOn 4 S3.q [.o 0] rfl ⟨rfl,⟨⟩⟩ (G7a rfl rfl ?_)
     refine e1a (by conv => lhs; whnf) rfl ?_
     refine qB0 rfl ⟨⟩ (fun h28 => ?_) fun h28 => ?_
     ·refine qD rfl ⟨⟩ ?_
      rintro wR3 ⟨SR3, XR3⟩
      refine lT rfl ⟨⟩ rfl ⟨congrArg Value.bool ?_, SR3.fin⟩
      rw [hdef]
      rw [decide_eq_false (by unfold E.OverN; omega)]; rfl
     refine qOn 1 S3.q [] rfl ⟨⟩ (G7a rfl rfl ?_)
     refine e1a (by conv => lhs; whnf) rfl ?_
     refine qO S3.q [.o 0] rfl ⟨rfl,⟨⟩⟩ ?_
     obtain ⟨bc, oc, hAc, hbc, hce⟩ := hcs (by omega)
     obtain ⟨m, hm⟩ := Int.eq_ofNat_of_zero_le (show 0 ≤ e.n by omega)
     have hml : m < cells.length := by omega
     obtain ⟨cl, hcl, hcw', hrc⟩ := hce m cells[m] (List.getElem?_eq_getElem hml)
     have hcw : w0.cell? ⟨bc, oc + e.n.toNat * 6 + 1, none⟩ = some (.int .i64 (wAt cells e.n)) := by
      rw [hm]; have := hcw' 1 (.int .i64 cells[m].w) (by rw [hrc.1]; rfl)
      simpa [wAt, hml] using this
     refine m0a p5a.slT rfl (by assumption) rfl (by omega) (by omega) rfl ?_
     refine qO0 rfl ⟨⟩ (h0a C0a rfl (fun w1 hw => by exact hw.1.old hcw) rfl ?_)
     refine qB S3.q [.o 0] rfl ⟨rfl,⟨⟩⟩ (fun h38 => ?_) fun h38 => ?_
     ·refine qD rfl ⟨⟩ ?_
      rintro wR3 ⟨SR3, XR3⟩
      refine lT rfl ⟨⟩ rfl ⟨congrArg Value.bool ?_, SR3.fin⟩
      rw [hdef]
      rw [decide_eq_false (by unfold E.OverN; omega)]; rfl
     refine qD rfl ⟨⟩ ?_
     rintro wR3 ⟨SR3, XR3⟩
     refine lP0 rfl ⟨⟩ ?_
     refine ⟨rfl, ((by unfold E.OverN; (simp; omega))), SR3, rfl⟩
    refine qD rfl ⟨⟩ ?_
    rintro wR3 ⟨SR3, XR3⟩
    refine lP0 rfl ⟨⟩ ?_
    refine ⟨rfl, ((by unfold E.OverN; (simp; omega))), SR3, rfl⟩
   refine lC0 rfl ⟨⟩ (D0a b0a [0, 1, 2, 3, 4, 5, 6, 7, 8, 9, 10, 11, 12, 13, 14, 15, 16, 17, 18, 19, 20, 21, 22, 23, 24, 25] [] [] (by kernel_rfl) rfl (Cl _ _ _ _) (Cl.start S3) ?_)
   refine qB S3.q [.o 0] rfl ⟨rfl,⟨⟩⟩ (fun h17 => ?_) fun h17 => ?_
   ·refine qOn 8 S3.q [.o 0] rfl ⟨rfl,⟨⟩⟩ (G7a rfl rfl ?_)
    refine e1a (by conv => lhs; whnf) rfl ?_
    refine qB0 rfl ⟨⟩ (fun h28 => ?_) fun h28 => ?_
    ·refine qD rfl ⟨⟩ ?_
     rintro wR3 ⟨SR3, XR3⟩
     refine lT rfl ⟨⟩ rfl ⟨congrArg Value.bool ?_, SR3.fin⟩
     rw [hdef]
     rw [decide_eq_false (by unfold E.OverN; omega)]; rfl
    refine qOn 1 S3.q [] rfl ⟨⟩ (G7a rfl rfl ?_)
    refine e1a (by conv => lhs; whnf) rfl ?_
    refine qO S3.q [.o 0] rfl ⟨rfl,⟨⟩⟩ ?_
    obtain ⟨bc, oc, hAc, hbc, hce⟩ := hcs (by omega)
    obtain ⟨m, hm⟩ := Int.eq_ofNat_of_zero_le (show 0 ≤ e.n by omega)
    have hml : m < cells.length := by omega
    obtain ⟨cl, hcl, hcw', hrc⟩ := hce m cells[m] (List.getElem?_eq_getElem hml)
    have hcw : w0.cell? ⟨bc, oc + e.n.toNat * 6 + 1, none⟩ = some (.int .i64 (wAt cells e.n)) := by
     rw [hm]; have := hcw' 1 (.int .i64 cells[m].w) (by rw [hrc.1]; rfl)
     simpa [wAt, hml] using this
    refine m0a p5a.slT rfl (by assumption) rfl (by omega) (by omega) rfl ?_
    refine qO0 rfl ⟨⟩ (h0a C0a rfl (fun w1 hw => by exact hw.1.old hcw) rfl ?_)
    refine qB S3.q [.o 0] rfl ⟨rfl,⟨⟩⟩ (fun h38 => ?_) fun h38 => ?_
    ·refine qD rfl ⟨⟩ ?_
     rintro wR3 ⟨SR3, XR3⟩
     refine lT rfl ⟨⟩ rfl ⟨congrArg Value.bool ?_, SR3.fin⟩
     rw [hdef]
     rw [decide_eq_false (by unfold E.OverN; omega)]; rfl
    refine qD rfl ⟨⟩ ?_
    rintro wR3 ⟨SR3, XR3⟩
    refine lP0 rfl ⟨⟩ ?_
    refine ⟨rfl, ((by unfold E.OverN; (simp; omega))), SR3, rfl⟩
   refine qB S3.q [.o 0] rfl ⟨rfl,⟨⟩⟩ (fun h21 => ?_) fun h21 => ?_
   ·refine qOn 4 S3.q [.o 0] rfl ⟨rfl,⟨⟩⟩ (G7a rfl rfl ?_)
    refine e1a (by conv => lhs; whnf) rfl ?_
    refine qB0 rfl ⟨⟩ (fun h28 => ?_) fun h28 => ?_
    ·refine qD rfl ⟨⟩ ?_
     rintro wR3 ⟨SR3, XR3⟩
     refine lT rfl ⟨⟩ rfl ⟨congrArg Value.bool ?_, SR3.fin⟩
     rw [hdef]
     rw [decide_eq_false (by unfold E.OverN; omega)]; rfl
    refine qOn 1 S3.q [] rfl ⟨⟩ (G7a rfl rfl ?_)
    refine e1a (by conv => lhs; whnf) rfl ?_
    refine qO S3.q [.o 0] rfl ⟨rfl,⟨⟩⟩ ?_
    obtain ⟨bc, oc, hAc, hbc, hce⟩ := hcs (by omega)
    obtain ⟨m, hm⟩ := Int.eq_ofNat_of_zero_le (show 0 ≤ e.n by omega)
    have hml : m < cells.length := by omega
    obtain ⟨cl, hcl, hcw', hrc⟩ := hce m cells[m] (List.getElem?_eq_getElem hml)
    have hcw : w0.cell? ⟨bc, oc + e.n.toNat * 6 + 1, none⟩ = some (.int .i64 (wAt cells e.n)) := by
     rw [hm]; have := hcw' 1 (.int .i64 cells[m].w) (by rw [hrc.1]; rfl)
     simpa [wAt, hml] using this
    refine m0a p5a.slT rfl (by assumption) rfl (by omega) (by omega) rfl ?_
    refine qO0 rfl ⟨⟩ (h0a C0a rfl (fun w1 hw => by exact hw.1.old hcw) rfl ?_)
    refine qB S3.q [.o 0] rfl ⟨rfl,⟨⟩⟩ (fun h38 => ?_) fun h38 => ?_
    ·refine qD rfl ⟨⟩ ?_
     rintro wR3 ⟨SR3, XR3⟩
     refine lT rfl ⟨⟩ rfl ⟨congrArg Value.bool ?_, SR3.fin⟩
     rw [hdef]
     rw [decide_eq_false (by unfold E.OverN; omega)]; rfl
    refine qD rfl ⟨⟩ ?_
    rintro wR3 ⟨SR3, XR3⟩
    refine lP0 rfl ⟨⟩ ?_
    refine ⟨rfl, ((by unfold E.OverN; (simp; omega))), SR3, rfl⟩
   refine qD rfl ⟨⟩ ?_
   rintro wR3 ⟨SR3, XR3⟩
   refine lP0 rfl ⟨⟩ ?_
   refine ⟨rfl, ((by unfold E.OverN; (simp; omega))), SR3, rfl⟩
  rintro D ε w ⟨rfl, hO, S, eZ⟩
  refine wK eZ (wC0 rfl ⟨⟩ ?_)
  refine wL (fun μ D ε w => D = [] ∧ ∃ k : Nat, (k + μ = e.kids.length) ∧ (∀ (j : Nat) (h : j < e.kids.length), j < k → e.kids[j].over cells true = true) ∧ St [] w0 w [(some g3, 53, [.int .i64 e.op, .int .i64 e.w, .int .i64 e.n, .slice A n c])] ∧ ε 1 = .slice Ac nc cc ∧ ε 2 = .bool true ∧ ε 3 = .pointer (some ⟨g3, 0, none⟩) ∧ ε 7 = .int .i64 k) (μ := e.kids.length) ⟨rfl, 0, by omega, fun j _ h => absurd h (by omega), S, rfl, rfl, rfl, rfl⟩ ?_
  rintro μ D ε w ⟨rfl, k, hk, hs, S, e1, e2, e3, e7⟩
  refine o0a 1 e1 (o0a 2 e2 (o0a 3 e3 (o0a 7 e7 ?_)))
  clear e1 e2 e3 e7
  refine wB S.k [.o 0] rfl ⟨rfl,⟨⟩⟩ (fun h45 => ?_) fun h45 => ?_
  ·have hlt : k < e.kids.length := by omega
   obtain ⟨b, o, hA, hbM, hkk⟩ := hks (by omega)
   obtain ⟨ck, hck, hrk⟩ := hkk k hlt
   have hlen : ck.length = 4 := hrk.length
   refine lO S.k [.o 0] rfl ⟨rfl,⟨⟩⟩ (x0a a1a.slT rfl (by assumption) rfl (by omega) (by omega) rfl ?_)
   refine w1a x1a rfl (hck.keep (S.keep0 M) hbM) (by assumption) rfl ?_
   refine lO0 rfl ⟨⟩ (y0a S Y4b rfl rfl (ih _ (List.getElem_mem hlt) M _ ck _ cells true _ (RdE.keep (S.keep0 M) _ _ hrk) (hC.keep (S.keep0 M)) (hkg _ (List.getElem_mem hlt))) (fun h55 w55 S55 X55 => ?_) (fun h55 w55 S55 X55 => ?_))
   ·refine lP0 rfl ⟨by omega,⟨⟩⟩ ⟨μ - 1, by omega, rfl, k + 1, by omega, fun j hj h => ?_, S55, rfl, rfl, rfl, rfl⟩
    by_cases hjk : j = k
    ·subst hjk; exact h55
    ·exact hs j hj (by omega)
   refine lT rfl ⟨⟩ rfl ⟨congrArg Value.bool ?_, S55.fin⟩
   rw [hdef]
   rw [hfalse _ (List.getElem_mem hlt) h55]; simp; done
  refine lT rfl ⟨⟩ rfl ⟨congrArg Value.bool ?_, S.fin⟩
  rw [hdef]
  rw [(E.overs_iff _ _ _).2 (fun x hx => by obtain ⟨j, hj, rfl⟩ := List.getElem_of_mem hx; exact hs j hj (by omega)), decide_eq_true hO]; rfl
def J9c (cs : List Value) (x : Bool) : Prop := cs = [.bool x]
abbrev RdB (M : List Nat) (w : World) (v : Value) (l : List Bool) : Prop := RdS M w 1 J9c v l
def L2a (bs : List Bool) (k : Nat) : List Int := ((List.range k).filter fun i => bs.getD i false).map fun (i : Nat) => (i : Int)
def i5a (bs : List Bool) : List Int := L2a bs bs.length
theorem R3a (bs : List Bool) (k : Nat) : L2a bs (k + 1) = L2a bs k ++ (if bs.getD k false = true then [(k : Int)] else []) := by
 unfold L2a
 rw [List.range_succ, List.filter_append, List.map_append]
 congr 1
 rw [List.filter_cons]
 split <;> rfl
theorem A2a (bs : List Bool) (k : Nat) : (L2a bs k).length ≤ k := by
 unfold L2a
 rw [List.length_map]
 exact Nat.le_trans (List.length_filter_le _ _) (by simp)
theorem J5a (bs : List Bool) (k : Nat) (x : Int) : x ∈ L2a bs k ↔ ∃ i : Nat, x = i ∧ i < k ∧ bs.getD i false = true := by
 unfold L2a
 simp only [List.mem_map, List.mem_filter, List.mem_range]
 constructor
 ·rintro ⟨i, ⟨h1, h2⟩, rfl⟩; exact ⟨i, rfl, h1, h2⟩
 ·rintro ⟨i, rfl, h1, h2⟩; exact ⟨i, ⟨h1, h2⟩, rfl⟩
mutual
def E.mark (op : Int) : E → List Bool → List Bool
 | ⟨o, _, n, ks⟩, bs => E.markAll op ks (if o = op then bs.set n.toNat true else bs)
def E.markAll (op : Int) : List E → List Bool → List Bool
 | [], bs => bs
 | k :: ks, bs => E.markAll op ks (E.mark op k bs)
end
theorem E.mark_def (op : Int) (e : E) (bs : List Bool) : e.mark op bs = E.markAll op e.kids (if e.op = op then bs.set e.n.toNat true else bs) := by cases e; simp only [E.mark]
theorem E.mark_len (op : Int) : ∀ (e : E) (bs : List Bool), (e.mark op bs).length = bs.length := by
 intro e
 induction e using E.induct with
 | _ e ih =>
   intro bs
   have key : ∀ (ks : List E), (∀ k ∈ ks, ∀ bs : List Bool, (k.mark op bs).length = bs.length) → ∀ bs : List Bool, (E.markAll op ks bs).length = bs.length := by
    intro ks
    induction ks with
    | nil => intro _ bs; simp only [E.markAll]
    | cons k ks ih2 => intro h bs; simp only [E.markAll]; rw [ih2 (fun k' hk' => h k' (by simp [hk'])), h k (by simp)]
   rw [E.mark_def, key _ ih]
   split <;> simp
def E.sup (op : Int) (e : E) : List Int := if e.wf then i5a (e.mark op (List.replicate 32 false)) else []
theorem O8a (e : E) (M : List Nat) (w0 : World) (cs : List Value) (vc : Value) (cells : List d2a) (pair : Bool) (hR : RdE M w0 e cs) (hC : W4c M w0 vc cells) :
 M0a Tryz.prog 76 #[.agg cs.toArray, vc, .bool pair] w0 fun v w' => v = .bool (e.valid cells pair) ∧ Below w0.heap.size w0 w' := by
 obtain ⟨_, _, _, rfl, _, _, _, _, _, _, _, _⟩ := hR.open_
 obtain ⟨_, _, _, rfl⟩ := hC.form
 have S := St.refl w0
 refine a0a Tryz.func76 rfl Tryz.ntmps76 rfl ?_
 refine wO0 rfl ⟨⟩ (j0a S (by conv => lhs; whnf) rfl ?_)
 intro g3 w3 S3 X3 G3
 refine lO S3.k [.w 0] rfl ⟨⟨rfl,by rfl⟩,⟨⟩⟩ (y0a S3 H5b rfl rfl (W8a _ M _ _ (RdE.keep (S3.keep0 M) _ _ hR)) (fun h8 w8 S8 X8 => ?_) (fun h8 w8 S8 X8 => ?_))
 ·refine lO S8.k [.w 0] rfl ⟨⟨rfl,by rfl⟩,⟨⟩⟩ ?_
  refine y0a S8 Y4b rfl rfl (E5c _ M _ _ _ cells pair 40 (RdE.keep (S8.keep0 M) _ _ hR) (hC.keep (S8.keep0 M)) (by unfold E.wf at h8; simp only [Bool.and_eq_true] at h8; exact h8.2)) (fun h13 w13 S13 X13 => ?_) (fun h13 w13 S13 X13 => ?_)
  ·refine lT rfl ⟨⟩ rfl ⟨congrArg Value.bool ?_, S13.fin⟩
   unfold E.valid
   simp [h8, h13]; done
  refine lT rfl ⟨⟩ rfl ⟨congrArg Value.bool ?_, S13.fin⟩
  unfold E.valid
  simp [h8, h13]; done
 refine lT rfl ⟨⟩ rfl ⟨congrArg Value.bool ?_, S8.fin⟩
 unfold E.valid
 simp [h8]; done
theorem s3b (M : List Nat) (w0 : World) (v : Value) (bs : List Bool) (hR : RdB M w0 v bs) (hM : ∀ g ∈ M, g < w0.heap.size) (hlen : bs.length ≤ 1000) :
 M0a Tryz.prog 136 #[v] w0 fun v' w' => RdI M w' v' (i5a bs) ∧ Below w0.heap.size w0 w' := by
 obtain ⟨Ab, nb, cb, rfl⟩ := hR.form
 obtain ⟨_, _, _, _, hel⟩ := hR.at
 have S := (St.refl w0).nilEnt 3
 refine a0a Tryz.func136 rfl Tryz.ntmps136 rfl ?_
 refine wC0 rfl ⟨⟩ (wL (fun μ D ε w => D = [] ∧ ∃ k : Nat, ∃ G : Option Nat, ∃ cs : List Value, ∃ v : Value, (k + μ = bs.length) ∧ (C3a G 1 (L2a bs k).length cs v ((L2a bs k).map (Value.int .i64))) ∧ St [] w0 w [(G, 3, cs)] ∧ ε 0 = .slice Ab nb cb ∧ ε 3 = v ∧ ε 4 = .int .i64 k) (μ := bs.length) ⟨rfl, 0, none, [], _, by omega, C3a.nil 1, S, rfl, rfl, rfl⟩ ?_)
 rintro μ D ε w ⟨rfl, k, G, cs, v, _, hrow, S, e0, e3, e4⟩
 refine o0a 0 e0 (o0a 3 e3 (o0a 4 e4 ?_))
 clear e0 e3 e4
 refine wB0 rfl ⟨⟩ (fun h8 => ?_) fun h8 => ?_
 ·have hlt : k < bs.length := by omega
  obtain ⟨b, o, _, _, hee⟩ := hel (by omega)
  obtain ⟨_, _, hck2, hck3⟩ := hee k bs[k] (List.getElem?_eq_getElem hlt)
  have hcb : w0.cell? ⟨b, o + k * 1, none⟩ = some (.bool bs[k]) := hck2 0 _ (by rw [hck3]; rfl)
  have hgd : bs.getD k false = bs[k] := by simp [hlt]
  have hml := A2a bs k
  refine lO0 rfl ⟨⟩ (x0a w6a.slT rfl (by assumption) rfl (by omega) (by omega) rfl ?_)
  cases hb14 : bs[k]
  ·refine s0a B2a rfl (by exact (S.old (hcb.trans (by rw [hb14]))).trans (congrArg (fun b => some (Value.bool b)) hb14)) rfl ?_
   refine lP0 rfl ⟨by omega,⟨⟩⟩ ⟨μ - 1, by omega, rfl, k + 1, G, cs, v, by omega, ?_, S, rfl, rfl, rfl⟩
   rw [R3a, hgd, hb14]; simpa using hrow
  refine s0a B2a rfl (by exact (S.old (hcb.trans (by rw [hb14]))).trans (congrArg (fun b => some (Value.bool b)) hb14)) rfl ?_
  refine lOn 4 S.k [] rfl ⟨⟩ (m1a (by conv => lhs; whnf) rfl ?_)
  refine lO0 rfl ⟨⟩ (E0a S Y0a (vs := [.int .i64 _]) (cs := [_]) (by rfl) rfl rfl rfl rfl rfl rfl ?_)
  intro g17 w17 S17 X17 G17
  refine o1b (k := 1) S17 Y0a rfl hrow rfl rfl (S17.cells 0 rfl) rfl (by simp [Value.oneCell']) (by omega) (by omega) rfl ?_
  intro v18 G18 cs18 w18 S18' hrow18 X18
  have S18 := S18'.tail
  refine T0a (by conv => lhs; whnf) rfl ?_
  refine lP0 rfl ⟨by omega,⟨⟩⟩ ⟨μ - 1, by omega, rfl, k + 1, G18, cs18, v18, by omega, ?_, S18, rfl, rfl, rfl⟩
  rw [R3a, hgd, hb14]; simpa using hrow18
 refine lOn 7 S.k [] rfl ⟨⟩ (m1a (by conv => lhs; whnf) rfl ?_)
 refine T0a (by conv => lhs; whnf) rfl ?_
 refine lR0 rfl ⟨⟩ (r0a rfl (by conv => lhs; whnf) ?_)
 obtain rfl : k = bs.length := by omega
 refine ⟨hrow.rdI (k := 0) S rfl hM (fun x hx => ?_) ?_, S.nil.fin⟩
 ·obtain ⟨_, rfl, _, _⟩ := (J5a _ _ _).1 hx; unfold i64; omega
 ·have := A2a bs bs.length; omega
theorem H2c : ∀ (e : E) (M : List Nat) (w0 : World) (cs : List Value) (g1 g2 : Nat) (bs1 bs2 : List Bool) (lim : Int), RdE M w0 e cs → e.good lim = true → g1 ∈ M → g2 ∈ M → g1 ≠ g2 → bs1.length = 32 → bs2.length = 32 →
 p0a w0 (g1, 4, bs1.map Value.bool) → p0a w0 (g2, 4, bs2.map Value.bool) →
 M0a Tryz.prog 135 #[.agg cs.toArray, .slice (some ⟨g1, 0, none⟩) 32 32, .slice (some ⟨g2, 0, none⟩) 32 32] w0 fun _ w' =>
  v0a [g1, g2] w0 w' ∧ p0a w' (g1, 4, (e.mark 3 bs1).map Value.bool) ∧ p0a w' (g2, 4, (e.mark 2 bs2).map Value.bool) := by
 intro e
 induction e using E.induct with
 | _ e ih =>
 intro M w0 cs g1 g2 bs1 bs2 lim hR hg hM1 hM2 hne hl1 hl2 hb1 hb2
 obtain ⟨A, n, c, rfl, _, _, _, _, _, _, _, hks⟩ := hR.open_
 have S := St.borrow2 hb1 hb2 hne
 rw [E.good_def] at hg
 simp only [Bool.and_eq_true] at hg
 have hsh : e.Shape := of_decide_eq_true hg.1.2
 have hkg : ∀ k ∈ e.kids, k.good (lim - 1) = true := (E.goods_iff _ _).1 hg.2
 clear hg
 have hov : (e.op = 3 ∨ e.op = 2) → 0 ≤ e.n ∧ e.n < 32 := fun h => by
  have := (W4a (by omega)).1 hsh; omega
 rw [E.mark_def, E.mark_def]
 have hsub : ∀ g ∈ [g1, g2], g ∈ M := fun g hg => by simp at hg; rcases hg with rfl | rfl <;> assumption
 refine a0a Tryz.func135 rfl Tryz.ntmps135 rfl ?_
 refine wO0 rfl ⟨⟩ (j0a S (by conv => lhs; whnf) rfl ?_)
 intro g3 w3 S3 X3 G3
 refine lB S3.k [.o 0] rfl ⟨rfl,⟨⟩⟩ (fun h9 => ?_) fun h9 => ?_
 ·refine lO S3.k [.o 0] rfl ⟨rfl,⟨⟩⟩ (x0a w6a.slT rfl (by rfl) rfl (by omega) (by omega) rfl ?_)
  refine I0a (kk := 1) S3 y2c rfl (by conv => lhs; whnf) rfl rfl (by (simp; omega)) ?_
  intro w2_4 S2_4 X2_4
  refine lCn 2 S2_4.k [] rfl ⟨⟩ (wX (fun D ε w => D = [] ∧ St [g1, g2] w0 w [(some g3, 53, [.int .i64 e.op, .int .i64 e.w, .int .i64 e.n, .slice A n c]), (some g1, 4, (if e.op = 3 then bs1.set e.n.toNat true else bs1).map Value.bool), (some g2, 4, (if e.op = 2 then bs2.set e.n.toNat true else bs2).map Value.bool)] ∧ ε 1 = .slice (some ⟨g1, 0, none⟩) 32 32 ∧ ε 2 = .slice (some ⟨g2, 0, none⟩) 32 32 ∧ ε 3 = .pointer (some ⟨g3, 0, none⟩)) ?_ ?_)
  ·refine wB S2_4.k [.o 0] rfl ⟨rfl,⟨⟩⟩ (fun h16 => ?_) fun h16 => ?_
   ·refine lO S2_4.k [.o 0] rfl ⟨rfl,⟨⟩⟩ (x0a w6a.slT rfl (by rfl) rfl (by omega) (by omega) rfl ?_)
    refine I0a (kk := 2) S2_4 y2c rfl (by conv => lhs; whnf) rfl rfl (by (simp; omega)) ?_
    intro w4_4 S4_4 X4_4
    refine lP0 rfl ⟨⟩ ?_
    exfalso; omega
   exact lP0 rfl ⟨⟩ ⟨rfl, by simpa [h9, h16, List.map_set] using S2_4, rfl, rfl, rfl⟩
  rintro D ε w ⟨rfl, S, e1, e2, e3⟩
  refine o0a 1 e1 (o0a 2 e2 (o0a 3 e3 ?_))
  clear e1 e2 e3
  have hl1' : (if e.op = 3 then bs1.set e.n.toNat true else bs1).length = 32 := by split <;> simp [hl1]
  have hl2' : (if e.op = 2 then bs2.set e.n.toNat true else bs2).length = 32 := by split <;> simp [hl2]
  generalize (if e.op = 3 then bs1.set e.n.toNat true else bs1) = a1 at *
  generalize (if e.op = 2 then bs2.set e.n.toNat true else bs2) = a2 at *
  refine wC0 rfl ⟨⟩ (wL (fun μ D ε w => D = [] ∧ ∃ k : Nat, ∃ m1 : List Bool, ∃ m2 : List Bool, (k + μ = e.kids.length) ∧ (E.markAll 3 (e.kids.drop k) m1 = E.markAll 3 e.kids a1) ∧ (E.markAll 2 (e.kids.drop k) m2 = E.markAll 2 e.kids a2) ∧ (m1.length = 32) ∧ (m2.length = 32) ∧ St [g1, g2] w0 w [(some g3, 53, [.int .i64 e.op, .int .i64 e.w, .int .i64 e.n, .slice A n c]), (some g1, 4, m1.map Value.bool), (some g2, 4, m2.map Value.bool)] ∧ ε 1 = .slice (some ⟨g1, 0, none⟩) 32 32 ∧ ε 2 = .slice (some ⟨g2, 0, none⟩) 32 32 ∧ ε 3 = .pointer (some ⟨g3, 0, none⟩) ∧ ε 6 = .int .i64 k) (μ := e.kids.length) ⟨rfl, 0, a1, a2, by omega, rfl, rfl, hl1', hl2', S, rfl, rfl, rfl, rfl⟩ ?_)
  rintro μ D ε w ⟨rfl, k, m1, m2, hk, h1, h2, l1, l2, S, e1, e2, e3, e6⟩
  refine o0a 1 e1 (o0a 2 e2 (o0a 3 e3 (o0a 6 e6 ?_)))
  clear e1 e2 e3 e6
  refine wB S.k [.o 0] rfl ⟨rfl,⟨⟩⟩ (fun h25 => ?_) fun h25 => ?_
  ·have hlt : k < e.kids.length := by omega
   obtain ⟨b, o, hA, hbM, hkk⟩ := hks (by omega)
   obtain ⟨ck, hck, hrk⟩ := hkk k hlt
   have hlen : ck.length = 4 := hrk.length
   have hdr : e.kids.drop k = e.kids[k] :: e.kids.drop (k + 1) := List.drop_eq_getElem_cons hlt
   rw [hdr] at h1 h2
   simp only [E.markAll] at h1 h2
   refine lO S.k [.o 0] rfl ⟨rfl,⟨⟩⟩ (x0a a1a.slT rfl (by assumption) rfl (by omega) (by omega) rfl ?_)
   refine w1a x1a rfl (hck.keep (S.keepM.mono hsub) hbM) (by assumption) rfl ?_
   refine lO0 rfl ⟨⟩ (e2a H4b rfl rfl (ih _ (List.getElem_mem hlt) M _ ck g1 g2 m1 m2 _ (RdE.keep (S.keepM.mono hsub) _ _ hrk) (hkg _ (List.getElem_mem hlt)) hM1 hM2 hne l1 l2 (S.blk 1 rfl) (S.blk 2 rfl)) ?_)
   rintro v35 w35 ⟨B35, hB1, hB2⟩
   have S35 := S.changed2 1 2 rfl rfl B35 hB1 hB2
   refine lP0 rfl ⟨by omega,⟨⟩⟩ ?_
   exact ⟨μ - 1, by omega, rfl, k + 1, _, _, by omega, h1, h2, by rw [E.mark_len]; exact l1, by rw [E.mark_len]; exact l2, S35, rfl, rfl, rfl, rfl⟩
  refine lF0 rfl ⟨⟩ (K1a rfl ?_)
  obtain rfl : k = e.kids.length := by omega
  rw [List.drop_length] at h1 h2
  simp only [E.markAll] at h1 h2
  rw [← h1, ← h2]
  exact ⟨S.below, S.blk 1 rfl, S.blk 2 rfl⟩
 refine lCn 5 S3.k [] rfl ⟨⟩ (wX (fun D ε w => D = [] ∧ St [g1, g2] w0 w [(some g3, 53, [.int .i64 e.op, .int .i64 e.w, .int .i64 e.n, .slice A n c]), (some g1, 4, (if e.op = 3 then bs1.set e.n.toNat true else bs1).map Value.bool), (some g2, 4, (if e.op = 2 then bs2.set e.n.toNat true else bs2).map Value.bool)] ∧ ε 1 = .slice (some ⟨g1, 0, none⟩) 32 32 ∧ ε 2 = .slice (some ⟨g2, 0, none⟩) 32 32 ∧ ε 3 = .pointer (some ⟨g3, 0, none⟩)) ?_ ?_)
 ·refine wB S3.k [.o 0] rfl ⟨rfl,⟨⟩⟩ (fun h16 => ?_) fun h16 => ?_
  ·refine lO S3.k [.o 0] rfl ⟨rfl,⟨⟩⟩ (x0a w6a.slT rfl (by rfl) rfl (by omega) (by omega) rfl ?_)
   refine I0a (kk := 2) S3 y2c rfl (by conv => lhs; whnf) rfl rfl (by (simp; omega)) ?_
   intro w4_4 S4_4 X4_4
   exact lP0 rfl ⟨⟩ ⟨rfl, by simpa [h9, h16, List.map_set] using S4_4, rfl, rfl, rfl⟩
  exact lP0 rfl ⟨⟩ ⟨rfl, by simpa [h9, h16, List.map_set] using S3, rfl, rfl, rfl⟩
 rintro D ε w ⟨rfl, S, e1, e2, e3⟩
 refine o0a 1 e1 (o0a 2 e2 (o0a 3 e3 ?_))
 clear e1 e2 e3
 have hl1' : (if e.op = 3 then bs1.set e.n.toNat true else bs1).length = 32 := by split <;> simp [hl1]
 have hl2' : (if e.op = 2 then bs2.set e.n.toNat true else bs2).length = 32 := by split <;> simp [hl2]
 generalize (if e.op = 3 then bs1.set e.n.toNat true else bs1) = a1 at *
 generalize (if e.op = 2 then bs2.set e.n.toNat true else bs2) = a2 at *
 refine wC0 rfl ⟨⟩ (wL (fun μ D ε w => D = [] ∧ ∃ k : Nat, ∃ m1 : List Bool, ∃ m2 : List Bool, (k + μ = e.kids.length) ∧ (E.markAll 3 (e.kids.drop k) m1 = E.markAll 3 e.kids a1) ∧ (E.markAll 2 (e.kids.drop k) m2 = E.markAll 2 e.kids a2) ∧ (m1.length = 32) ∧ (m2.length = 32) ∧ St [g1, g2] w0 w [(some g3, 53, [.int .i64 e.op, .int .i64 e.w, .int .i64 e.n, .slice A n c]), (some g1, 4, m1.map Value.bool), (some g2, 4, m2.map Value.bool)] ∧ ε 1 = .slice (some ⟨g1, 0, none⟩) 32 32 ∧ ε 2 = .slice (some ⟨g2, 0, none⟩) 32 32 ∧ ε 3 = .pointer (some ⟨g3, 0, none⟩) ∧ ε 6 = .int .i64 k) (μ := e.kids.length) ⟨rfl, 0, a1, a2, by omega, rfl, rfl, hl1', hl2', S, rfl, rfl, rfl, rfl⟩ ?_)
 rintro μ D ε w ⟨rfl, k, m1, m2, hk, h1, h2, l1, l2, S, e1, e2, e3, e6⟩
 refine o0a 1 e1 (o0a 2 e2 (o0a 3 e3 (o0a 6 e6 ?_)))
 clear e1 e2 e3 e6
 refine wB S.k [.o 0] rfl ⟨rfl,⟨⟩⟩ (fun h25 => ?_) fun h25 => ?_
 ·have hlt : k < e.kids.length := by omega
  obtain ⟨b, o, hA, hbM, hkk⟩ := hks (by omega)
  obtain ⟨ck, hck, hrk⟩ := hkk k hlt
  have hlen : ck.length = 4 := hrk.length
  have hdr : e.kids.drop k = e.kids[k] :: e.kids.drop (k + 1) := List.drop_eq_getElem_cons hlt
  rw [hdr] at h1 h2
  simp only [E.markAll] at h1 h2
  refine lO S.k [.o 0] rfl ⟨rfl,⟨⟩⟩ (x0a a1a.slT rfl (by assumption) rfl (by omega) (by omega) rfl ?_)
  refine w1a x1a rfl (hck.keep (S.keepM.mono hsub) hbM) (by assumption) rfl ?_
  refine lO0 rfl ⟨⟩ (e2a H4b rfl rfl (ih _ (List.getElem_mem hlt) M _ ck g1 g2 m1 m2 _ (RdE.keep (S.keepM.mono hsub) _ _ hrk) (hkg _ (List.getElem_mem hlt)) hM1 hM2 hne l1 l2 (S.blk 1 rfl) (S.blk 2 rfl)) ?_)
  rintro v35 w35 ⟨B35, hB1, hB2⟩
  have S35 := S.changed2 1 2 rfl rfl B35 hB1 hB2
  refine lP0 rfl ⟨by omega,⟨⟩⟩ ?_
  exact ⟨μ - 1, by omega, rfl, k + 1, _, _, by omega, h1, h2, by rw [E.mark_len]; exact l1, by rw [E.mark_len]; exact l2, S35, rfl, rfl, rfl, rfl⟩
 refine lF0 rfl ⟨⟩ (K1a rfl ?_)
 obtain rfl : k = e.kids.length := by omega
 rw [List.drop_length] at h1 h2
 simp only [E.markAll] at h1 h2
 rw [← h1, ← h2]
 exact ⟨S.below, S.blk 1 rfl, S.blk 2 rfl⟩
theorem S7b {w0 w : World} {L : List Ent} {k g : Nat} {M M' : List Nat} {bs : List Bool} {el : Nat} (S : St M' w0 w L) (hk : L[k]? = some (some g, el, bs.map Value.bool)) (hM : g ∉ M) (hn : bs.length = 32) : RdB M w (.slice (some ⟨g, 0, none⟩) 32 32) bs :=
 S.rd1 hk hM (by omega) (by omega) fun i x hi => ⟨.bool x, by simp [hi], rfl⟩
theorem o8a (e : E) (M : List Nat) (w0 : World) (cs : List Value) (hR : RdE M w0 e cs) (hM : ∀ g ∈ M, g < w0.heap.size) :
 M0a Tryz.prog 103 #[.agg cs.toArray] w0 fun v w' => (∃ a b, v = .tuple #[a, b] ∧ RdI M w' a (e.sup 3) ∧ RdI M w' b (e.sup 2)) ∧ Below w0.heap.size w0 w' := by
 obtain ⟨_, n, c, rfl, _, _, _, _, _, _, _, _⟩ := hR.open_
 have S := St.refl w0
 refine a0a Tryz.func103 rfl Tryz.ntmps103 rfl ?_
 refine wO0 rfl ⟨⟩ (j0a S (by conv => lhs; whnf) rfl ?_)
 intro g1 w1 S1 X1 G1
 refine lO S1.k [.w 0] rfl ⟨⟨rfl,by rfl⟩,⟨⟩⟩ (y0a S1 H5b rfl rfl (W8a _ M _ _ (RdE.keep (S1.keep0 M) _ _ hR)) (fun h7 w7 S7 X7 => ?_) (fun h7 w7 S7 X7 => ?_))
 ·refine lO0 rfl ⟨⟩ (J7b (n := 32) (c := 32) S7 w6a rfl rfl (by omega) (by omega) (by omega) rfl rfl ?_)
  intro g9 w9 S9 X9 G9
  refine lO0 rfl ⟨⟩ (J7b (n := 32) (c := 32) S9 w6a rfl rfl (by omega) (by omega) (by omega) rfl rfl ?_)
  intro g10 w10 S10 X10 G10
  refine lO S10.k [.w 2] rfl ⟨⟨rfl,by rfl⟩,⟨⟩⟩ ?_
  have hgood : e.good 40 = true := by unfold E.wf at h7; simp only [Bool.and_eq_true] at h7; exact h7.2
  have hne : g9 ≠ g10 := by have := S9.lt 0 rfl; omega
  have hM' : ∀ g ∈ [g9, g10] ++ M, g ∈ M ∨ w0.heap.size ≤ g := fun g hg => by
   simp at hg; rcases hg with rfl | rfl | hg
   ·right; have := S9.new 0 rfl; simp at this; exact this
   ·right; have := S10.new 0 rfl; simp at this; exact this
   ·exact .inl hg
  refine e2a H4b rfl rfl (H2c e ([g9, g10] ++ M) _ _ g9 g10 (List.replicate 32 false) (List.replicate 32 false) 40 (RdE.keep (S10.keep0 _) _ _ (RdE.more hM' _ _ hR)) hgood (by simp) (by simp) hne (by simp) (by simp) (by simpa using S10.blk 1 rfl) (by simpa using S10.blk 0 rfl)) ?_
  rintro v14 w14 ⟨B14, hB1, hB2⟩
  have S14 := S10.changed2 1 0 rfl rfl B14 hB1 hB2
  refine lO0 rfl ⟨⟩ ?_
  refine B0a S14 X7b rfl rfl (s3b M _ _ (e.mark 3 (List.replicate 32 false)) (S7b (k := 1) S14 rfl (fun h => by have := hM g9 h; have := S9.new 0 rfl; simp at this; omega) (by rw [E.mark_len]; simp)) (fun g hg => by have := hM g hg; have := S14.size; omega) (by rw [E.mark_len]; simp)) ?_
  rintro v16 w16 r16 S16 X16
  refine lO0 rfl ⟨⟩ ?_
  refine B0a S16 X7b rfl rfl (s3b M _ _ (e.mark 2 (List.replicate 32 false)) (S7b (k := 0) S16 rfl (fun h => by have := hM g10 h; have := S10.new 0 rfl; simp at this; omega) (by rw [E.mark_len]; simp)) (fun g hg => by have := hM g hg; have := S16.size; omega) (by rw [E.mark_len]; simp)) ?_
  rintro v18 w18 r18 S18 X18
  replace r16 := r16.keep (X18.of_nil)
  refine T0a (by conv => lhs; whnf) rfl ?_
  refine T0a (by conv => lhs; whnf) rfl ?_
  refine lR0 rfl ⟨⟩ (C5c rfl (by conv => lhs; whnf) (by conv => lhs; whnf) ?_)
  refine ⟨?_, S18.fin⟩
  unfold E.sup
  exact ⟨_, _, rfl, by simpa [h7] using r16, by simpa [h7] using r18⟩
 refine lR0 rfl ⟨⟩ (C5c rfl (by conv => lhs; whnf) (by conv => lhs; whnf) ?_)
 refine ⟨?_, S7.fin⟩
 unfold E.sup
 exact ⟨_, _, rfl, by simp only [h7]; exact ⟨_, _, _, rfl, rfl, by omega, by unfold maxLen; omega, by omega, fun h => absurd h (by omega)⟩, by simp only [h7]; exact ⟨_, _, _, rfl, rfl, by omega, by unfold maxLen; omega, by omega, fun h => absurd h (by omega)⟩⟩
mutual
def E.occ (op i : Int) : E → Bool
 | ⟨o, _, n, ks⟩ => decide (o = op ∧ n = i) || E.occs op i ks
def E.occs (op i : Int) : List E → Bool
 | [] => false
 | k :: ks => E.occ op i k || E.occs op i ks
end
theorem E.occ_def (op i : Int) (e : E) : e.occ op i = (decide (e.op = op ∧ e.n = i) || E.occs op i e.kids) := by cases e; simp only [E.occ]
theorem E.occs_iff (op i : Int) (ks : List E) : E.occs op i ks = true ↔ ∃ k ∈ ks, k.occ op i = true := by
 induction ks with
 | nil => simp [E.occs]
 | cons k ks ih => simp [E.occs, ih]
theorem W7a {e : E} {lim : Int} (h : e.good lim = true) : e.Shape ∧ ∀ k ∈ e.kids, k.good (lim - 1) = true := by
 rw [E.good_def] at h
 simp only [Bool.and_eq_true] at h
 exact ⟨of_decide_eq_true h.1.2, (E.goods_iff _ _).1 h.2⟩
theorem f8b (bs : List Bool) (j i : Nat) (hj : j < bs.length) : (bs.set j true).getD i false = (bs.getD i false || decide (i = j)) := by
 simp only [List.getD_eq_getElem?_getD, List.getElem?_set]
 by_cases h : j = i
 ·subst h; simp [hj]
 ·have h' : ¬ i = j := fun e => h e.symm
  simp [h, h']
theorem X5b (op : Int) (hop : op = 2 ∨ op = 3) : ∀ (e : E) (lim : Int), e.good lim = true → ∀ (bs : List Bool), bs.length = 32 → ∀ i : Nat, i < 32 → (e.mark op bs).getD i false = (bs.getD i false || e.occ op i) := by
 intro e
 induction e using E.induct with
 | _ e ih =>
   intro lim hg bs hb i hi
   obtain ⟨hsh, hkg⟩ := W7a hg
   have key : ∀ (ks : List E), (∀ k ∈ ks, k ∈ e.kids) → ∀ bs : List Bool, bs.length = 32 → (E.markAll op ks bs).getD i false = (bs.getD i false || E.occs op i ks) := by
    intro ks
    induction ks with
    | nil => intro _ bs _; simp [E.markAll, E.occs]
    | cons k ks ih2 =>
      intro h bs hb
      simp only [E.markAll, E.occs]
      rw [ih2 (fun k' hk' => h k' (by simp [hk'])) _ (by rw [E.mark_len]; exact hb), ih k (h k (by simp)) (lim - 1) (hkg k (h k (by simp))) bs hb i hi, Bool.or_assoc]
   rw [E.mark_def, E.occ_def]
   by_cases ho : e.op = op
   ·have hn := (W4a (by omega)).1 hsh
    rw [if_pos ho, key e.kids (fun k hk => hk) _ (by simp [hb]), f8b _ _ _ (by omega), Bool.or_assoc]
    congr 2
    rw [decide_eq_decide]
    omega
   ·rw [if_neg ho, key e.kids (fun k hk => hk) _ hb]
    simp [ho]
theorem c5b {e : E} (h : e.wf = true) : e.good 40 = true := by
 unfold E.wf at h; simp only [Bool.and_eq_true] at h; exact h.2
theorem K1b {e : E} (h : e.wf = true) {op : Int} (hop : op = 2 ∨ op = 3) (x : Int) : x ∈ e.sup op ↔ 0 ≤ x ∧ x < 32 ∧ e.occ op x = true := by
 unfold E.sup
 rw [if_pos h]
 unfold i5a
 rw [J5a, E.mark_len]
 constructor
 ·rintro ⟨i, rfl, hi, hm⟩
  simp at hi
  rw [X5b op hop e 40 (c5b h) _ (by simp) i hi] at hm
  refine ⟨by omega, by omega, ?_⟩
  have h0 : (List.replicate 32 false).getD i false = false := by
   simp only [List.getD_eq_getElem?_getD, List.getElem?_replicate]
   split <;> rfl
  rw [h0] at hm
  simpa using hm
 ·rintro ⟨h0, _, hm⟩
  obtain ⟨i, rfl⟩ := Int.eq_ofNat_of_zero_le h0
  refine ⟨i, rfl, by simp; omega, ?_⟩
  rw [X5b op hop e 40 (c5b h) _ (by simp) i (by omega), hm]
  simp
theorem F5a {cells : List d2a} {pair : Bool} {op : Int} (hop : op = 2 ∨ op = 3) : ∀ (e : E) (lim : Int), e.good lim = true → e.over cells pair = true → ∀ x : Int, e.occ op x = true →
 0 ≤ x ∧ x < 32 ∧ x < cells.length ∧ 1 ≤ wAt cells x ∧ wAt cells x ≤ 8 := by
 intro e
 induction e using E.induct with
 | _ e ih =>
   intro lim hg ho x hx
   obtain ⟨hsh, hkg⟩ := W7a hg
   rw [E.over_def] at ho
   simp only [Bool.and_eq_true, decide_eq_true_eq] at ho
   rw [E.occ_def] at hx
   simp only [Bool.or_eq_true, decide_eq_true_eq] at hx
   rcases hx with ⟨h1, h2⟩ | hx
   ·have hn := (W4a (by omega)).1 hsh
    have ho1 := ho.1.2 (by omega)
    subst h2
    omega
   ·obtain ⟨k, hk, hkx⟩ := (E.occs_iff _ _ _).1 hx
    exact ih k hk (lim - 1) (hkg k hk) ((E.overs_iff _ _ _).1 ho.2 k hk) x hkx
theorem c5a {cells : List d2a} {pair : Bool} {e : E} (h : e.valid cells pair = true) : e.wf = true ∧ e.good 40 = true ∧ e.over cells pair = true := by
 unfold E.valid at h; simp only [Bool.and_eq_true] at h; exact ⟨h.1, c5b h.1, h.2⟩
def u6a (s : ByteArray) : Prop := 1 ≤ s.size ∧ s.size ≤ 64 ∧ ∀ (i : Nat) (h : i < s.size), 33 ≤ (s[i]).toNat ∧ (s[i]).toNat ≤ 126
def y1a (cells : List d2a) (x : Int) : Int := (cells.getD x.toNat ⟨ByteArray.empty, 0, 0, 0, false, 0⟩).thread
def Q0b (cells : List d2a) (x : Int) : Bool := (cells.getD x.toNat ⟨ByteArray.empty, 0, 0, 0, false, 0⟩).ghost
def t2a (i : Int) (n : Nat) : Prop := 0 ≤ i ∧ i < n
def M4a (cells : List d2a) (e : E) (sh : Bool) (t : Int) : Prop := ∀ x ∈ e.sup 3 ++ e.sup 2, (y1a cells x = -1 → sh = true) ∧ (0 ≤ y1a cells x → y1a cells x = t)
def Z6a (cells : List d2a) (e : E) (pair : Bool) (t : Int) : Prop := e.valid cells pair = true ∧ e.w = 1 ∧ M4a cells e true t
def E.absent (e : E) : Prop := e.op = 0 ∧ e.w = 0 ∧ e.n = 0 ∧ e.kids = []
def X5a : List Int → Prop := List.Pairwise (· < ·)
structure E3b (p : f0a) (t : Int) (s : t1a) : Prop where
 guard : M4a p.cells s.guard (decide (s.kind = 4)) t
 vals : ∀ (i : Nat) (h : i < s.set.length), 0 < i ∨ s.kind ≠ 2 → M4a p.cells (s.set[i]).to (decide (s.kind = 4)) t
 cells : ∀ a ∈ s.set, y1a p.cells a.cell = t ∨ y1a p.cells a.cell = -1
 k1 : s.kind = 1 → ∀ a ∈ s.set, y1a p.cells a.cell = t
 k2 : s.kind = 2 → ∃ a l, s.set = a :: l ∧ y1a p.cells a.cell = t ∧ Q0b p.cells a.cell = false ∧ a.to.op = 2 ∧ y1a p.cells a.to.n = -1 ∧ Q0b p.cells a.to.n = false ∧ ∀ b ∈ l, y1a p.cells b.cell = t ∧ Q0b p.cells b.cell = true
 k3 : s.kind = 3 → ∃ a l, s.set = a :: l ∧ y1a p.cells a.cell = -1 ∧ Q0b p.cells a.cell = false ∧ ∀ b ∈ l, Q0b p.cells b.cell = true
 k5 : 5 ≤ s.kind → s.set = [] ∧ s.guard = ⟨1, 1, 1, []⟩
 k6 : 6 ≤ s.kind → t2a s.target p.threads.length ∧ s.target ≠ t
 k7 : s.kind = 6 → ∀ u, p.threads[s.target.toNat]? = some u → u.asleep = true
structure U6a (p : f0a) (t : Int) (points : Int) (s : t1a) : Prop where
 kind : 1 ≤ s.kind ∧ s.kind ≤ 7
 frm : 0 ≤ s.frm ∧ s.frm < points - 1
 to : 0 ≤ s.to ∧ s.to < points
 mod : t2a s.module_ p.modules.length
 rel : s.release = true → s.kind = 3
 tgt : s.target ≠ 0 → s.kind = 6 ∨ s.kind = 7
 guard : s.guard.valid p.cells false = true ∧ s.guard.w = 1
 set : ∀ a ∈ s.set, t2a a.cell p.cells.length ∧ a.to.valid p.cells false = true ∧ a.to.w = wAt p.cells a.cell
 once : s.set.Pairwise (fun a b => a.cell ≠ b.cell)
 row : E3b p t s
structure g9b (p : f0a) (t : Int) (points : Int) (l : Z4b) : Prop where
 head : 0 ≤ l.head ∧ l.head < points
 up : X5a l.body
 body : ∀ x ∈ l.body, 0 ≤ x ∧ x < points ∧ x ≠ l.head
 variant : l.variant.valid p.cells false = true ∧ M4a p.cells l.variant true t
structure g6a (p : f0a) (t : Nat) (x : Q0a) : Prop where
 name : u6a x.name
 points : 1 ≤ x.points ∧ x.points ≤ 48
 nsteps : x.steps.length ≤ 64
 nloops : x.loops.length ≤ 8
 asserts : (x.asserts.length : Int) = x.points
 nmod : (x.modules.length : Int) = x.points
 modules : ∀ m ∈ x.modules, t2a m p.modules.length
 truth : ∀ e ∈ x.asserts, Z6a p.cells e false t
 steps : ∀ s ∈ x.steps, U6a p t x.points s
 loops : ∀ l ∈ x.loops, g9b p t x.points l
structure r5b (p : f0a) (c : d2a) : Prop where
 name : u6a c.name
 w : 1 ≤ c.w ∧ c.w ≤ 8
 init : 0 ≤ c.init ∧ c.init < N4a c.w.toNat
 thread : -1 ≤ c.thread ∧ c.thread < p.threads.length
 mod : t2a c.module_ p.modules.length
structure z2c (p : f0a) (m : Z3a) : Prop where
 name : u6a m.name
 owner : u6a m.owner
 rely : m.rely.absent ∨ Z6a p.cells m.rely true (-1)
 guar : Z6a p.cells m.guar true (-1)
 frame : ∀ x ∈ m.frame, t2a x p.cells.length ∧ y1a p.cells x = -1
 up : X5a m.frame
structure N5b (p : f0a) (l : c4b) : Prop where
 cell : t2a l.cell p.cells.length ∧ y1a p.cells l.cell = -1 ∧ wAt p.cells l.cell = 1 ∧ Q0b p.cells l.cell = false
 mod : t2a l.module_ p.modules.length
 inv : Z6a p.cells l.inv false (-1)
structure b1a (p : f0a) : Prop where
 ncells : p.cells.length ≤ 32
 nmodules : p.modules.length ≤ 6
 nlocks : p.locks.length ≤ 4
 nthreads : p.threads.length ≤ 4
 cells : ∀ c ∈ p.cells, r5b p c
 cellNames : p.cells.Pairwise (fun a b => a.name ≠ b.name)
 modules : ∀ m ∈ p.modules, z2c p m
 moduleNames : p.modules.Pairwise (fun a b => a.name ≠ b.name)
 locks : ∀ l ∈ p.locks, N5b p l
 lockCells : p.locks.Pairwise (fun a b => a.cell ≠ b.cell)
 threads : ∀ (t : Nat) (h : t < p.threads.length), g6a p t p.threads[t]
 threadNames : p.threads.Pairwise (fun a b => a.name ≠ b.name)
noncomputable def dec (p : Prop) : Bool := @decide p (Classical.propDecidable p)
theorem m9c {p : Prop} (h : p) : dec p = true := @decide_eq_true p (Classical.propDecidable p) h
theorem U8c {p : Prop} (h : ¬ p) : dec p = false := @decide_eq_false p (Classical.propDecidable p) h
theorem a2a {p : Prop} (h : dec p = true) : p := @of_decide_eq_true p (Classical.propDecidable p) h
theorem G1a {p : Prop} (h : dec p = false) : ¬ p := @of_decide_eq_false p (Classical.propDecidable p) h
theorem N3a {p : Prop} (h : p) : Value.bool true = .bool (dec p) := by rw [m9c h]
theorem h1a {p : Prop} (h : ¬ p) : Value.bool false = .bool (dec p) := by rw [U8c h]
section
variable {α : Type} {l : List α} {k : Nat} {P : α → Prop}
def u1a (l : List α) (k : Nat) (P : α → Prop) : Prop := ∀ x ∈ l.take k, P x
theorem u1a.zero : u1a l 0 P := fun x hx => by simp at hx
theorem J0a {x : α} (hx : l[k]? = some x) : l.take (k + 1) = l.take k ++ [x] := by
 obtain ⟨hlt, rfl⟩ := List.getElem?_eq_some_iff.1 hx
 exact List.take_succ_eq_append_getElem hlt
theorem u1a.succ {x : α} (h : u1a l k P) (hx : l[k]? = some x) (hk : P x) : u1a l (k + 1) P := fun y hy => by
 rw [J0a hx] at hy
 rcases List.mem_append.1 hy with hy | hy
 ·exact h y hy
 ·rw [List.mem_singleton.1 hy]; exact hk
theorem u1a.all (h : u1a l k P) (hk : l.length ≤ k) : ∀ x ∈ l, P x := fun x hx => h x (by rw [List.take_of_length_le hk]; exact hx)
theorem u1a.get (h : u1a l k P) {j : Nat} (hj : j < k) (hl : j < l.length) : P l[j] := h _ (by
 rw [List.mem_take_iff_getElem]; exact ⟨j, by omega, rfl⟩)
def r3a (l : List α) (k : Nat) (R : α → α → Prop) : Prop := (l.take k).Pairwise R
variable {R : α → α → Prop}
theorem r3a.zero : r3a l 0 R := by simp [r3a]
theorem r3a.succ {x : α} (h : r3a l k R) (hx : l[k]? = some x) {j : Nat} (hj : k ≤ j) (hk : u1a l j (fun y => R y x)) : r3a l (k + 1) R := by
 unfold r3a
 rw [J0a hx, List.pairwise_append]
 refine ⟨h, by simp, fun a ha b hb => ?_⟩
 rw [List.mem_singleton.1 hb]
 refine hk a ?_
 rw [show l.take k = (l.take j).take k by rw [List.take_take, Nat.min_eq_left hj]] at ha
 exact List.mem_of_mem_take ha
theorem r3a.all (h : r3a l k R) (hk : l.length ≤ k) : l.Pairwise R := by
 unfold r3a at h; rwa [List.take_of_length_le hk] at h
theorem F8a (h : ∀ j x, l[j]? = some x → ∀ y ∈ l.take j, R y x) : l.Pairwise R := by
 rw [List.pairwise_iff_getElem]
 intro i j hi hj hij
 refine h j l[j] (List.getElem?_eq_getElem hj) _ ?_
 rw [List.mem_take_iff_getElem]
 exact ⟨i, by omega, rfl⟩
def R4a (l : List α) (i k : Nat) (P : α → Prop) : Prop := ∀ j b, l[j]? = some b → i ≤ j → j < k → P b
theorem R4a.start {i k : Nat} (h : k ≤ i) : R4a l i k P := fun j b _ h1 h2 => absurd h1 (by omega)
theorem R4a.succ {i : Nat} {x : α} (h : R4a l i k P) (hx : l[k]? = some x) (hk : P x) : R4a l i (k + 1) P := fun j b hb h1 h2 => by
 by_cases hjk : j = k
 ·subst hjk; rw [hx] at hb; cases hb; exact hk
 ·exact h j b hb h1 (by omega)
theorem R4a.tail {x : α} (h : R4a l 1 k P) (hk : l.length ≤ k) (hx : l[0]? = some x) : ∃ t, l = x :: t ∧ ∀ b ∈ t, P b := by
 cases l with
 | nil => simp at hx
 | cons y t =>
   simp at hx
   subst hx
   refine ⟨t, rfl, fun b hb => ?_⟩
   obtain ⟨j, hj, rfl⟩ := List.getElem_of_mem hb
   simp at hk
   exact h (j + 1) _ (by simp [hj]) (by omega) (by omega)
theorem R4a.all {l : List α} {k : Nat} (h : R4a l 0 k P) (hk : l.length ≤ k) : ∀ b ∈ l, P b := fun b hb => by
 obtain ⟨j, hj, rfl⟩ := List.getElem_of_mem hb
 exact h j _ (List.getElem?_eq_getElem hj) (by omega) (by omega)
theorem RdS.get {M : List Nat} {w : World} {size : Nat} {R : List Value → α → Prop} {A : Option Addr} {n c : Nat} {l : List α} (h : RdS M w size R (.slice A n c) l) (i : Nat) (hi : i < l.length) :
 ∃ x b o cs, l[i]? = some x ∧ A = some ⟨b, o, none⟩ ∧ b ∉ M ∧ cs.length = size ∧ k1a w b (o + i * size) cs ∧ R cs x := by
 obtain ⟨_, _, _, _, h5⟩ := h.at
 obtain ⟨b, o, hA, hb, hel⟩ := h5 (by omega)
 obtain ⟨cs, h6, h7, h8⟩ := hel i l[i] (List.getElem?_eq_getElem hi)
 exact ⟨l[i], b, o, cs, List.getElem?_eq_getElem hi, hA, hb, h6, h7, h8⟩
theorem c0a {x : α} (hx : l[k]? = some x) : x ∈ l := List.mem_of_getElem? hx
theorem S1a {x : α} (hx : l[k]? = some x) : k < l.length := (List.getElem?_eq_some_iff.1 hx).1
theorem RdS.len {M : List Nat} {w : World} {size : Nat} {R : List Value → α → Prop} {A : Option Addr} {n c : Nat} {l : List α} (h : RdS M w size R (.slice A n c) l) : n = l.length ∧ n ≤ c ∧ n ≤ 140737488355328 :=
 ⟨h.at.1, h.at.2.1, h.at.2.2.2.1⟩
end
theorem k1a.sub {w : World} {b o : Nat} {cs : List Value} (h : k1a w b o cs) (off n : Nat) : k1a w b (o + off) ((cs.drop off).take n) := fun j v hj => by
 rw [List.getElem?_take] at hj
 split at hj
 ·rw [List.getElem?_drop] at hj
  have := h _ _ hj
  rwa [← Nat.add_assoc] at this
 ·cases hj
section
variable {P : Program} {r : Option Nat} {N : Nat} {D : List Deferred} {e : Env} {w w0 : World} {ops : Array Oper} {rest : List Oper} {K : List Deferred → Env → World → Prop} {L : List Ent} {M : List Nat}
variable {d : Nat} {t : TypeId} {p : String} {af : Array Edge} {f : FuncId} {args : Array Operand} {at_ : Array TypeId} {vs : List Value}
theorem P7b {Q : Prop} (S : St M w0 w L) (hH : Has P f) (hvs : args.toList.map (ev e) = vs) (hd : Nat.ble (d + 1) N = true)
 (hc : M0a P f vs.toArray w fun v w' => (∃ b, v = .bool b ∧ (b = true → Q)) ∧ Below w.heap.size w w') (h1 : Q → ∀ w1, St M w0 w1 L → w0a [] w w1 → WL P r N ops rest K D (upd e d (.bool true)) w1)
 (h2 : ∀ w1, St M w0 w1 L → w0a [] w w1 → WL P r N ops rest K D (upd e d (.bool false)) w1) :
 WL P r N ops (⟨some d, .call { callee := .value (.func f), args := args, argTypes := at_ }, t, p, af, none⟩ :: rest) K D e w :=
 B0a S hH hvs hd hc fun v w1 ⟨b, hv, hb⟩ S1 X1 => by
  subst hv
  cases b
  ·exact h2 w1 S1 X1
  ·exact h1 (hb rfl) w1 S1 X1
theorem e2b {ty el size bytes : Nat} {z : Value} (S : St M w0 w L) (hS : SlZ P ty el size z bytes) (hd : Nat.ble (d + 1) N = true)
 (h : ∀ g w1, St M w0 w1 ((some g, el, []) :: L) → w0a [] w w1 → w.heap.size ≤ g → WL P r N ops rest K D (upd e d (.slice (some ⟨g, 0, none⟩) 0 0)) w1) :
 WL P r N ops (⟨some d, .buildSlice ty 0 #[], t, p, af, none⟩ :: rest) K D e w := by
 obtain ⟨_, hi, _, hsz, _⟩ := hS.parts
 have hsz' : (sizeOf el).run P w = .ok size w := by simp [sizeOf, typeInfo, hi, hsz]
 refine c1a (v := .slice (some ⟨w.heap.size, 0, none⟩) 0 0) (w' := w.alloc (.cells #[] el)) rfl rfl hd (by simp) ?_ (h _ _ (S.alloc el []) (K2a _ _ _) (Nat.le_refl _))
 simp [execOp, Instr.buildSlice, run_underlying hS.und, hsz', newRow, Instr.fill]
 have h0 : Array.map (fun _ => (default : Value)) (Array.range 0) = #[] := by simp
 rw [h0]
theorem C3a.new {g size : Nat} : C3a (some g) size 0 [] (.slice (some ⟨g, 0, none⟩) 0 0) [] := ⟨by simp, .inr ⟨g, 0, rfl, rfl, Nat.le_refl _, by unfold maxLen; omega, by simp, by simp⟩⟩
variable {x y : Operand} {xt yt : TypeId} {kd : IntKind} {a b : Int}
theorem O6c (hx : ev e x = .int kd a) (hy : ev e y = .int kd b) (hd : Nat.ble (d + 1) N = true) (h : WL P r N ops rest K D (upd e d (.bool (decide (a = b)))) w) :
 WL P r N ops (⟨some d, .binOp .eql xt x y yt, t, p, af, none⟩ :: rest) K D e w := by
 refine z9c hx hy hd (fun hh => ?_) fun hh => ?_
 ·rwa [decide_eq_true hh] at h
 ·rwa [decide_eq_false hh] at h
theorem G4b {fn : Func} {R : Value → World → Prop} {t u x : Nat} (h : fn.results = #[.tmp t, .tmp u, .tmp x]) {v1 v2 v3 : Value} (h1 : e t = v1) (h2 : e u = v2) (h3 : e x = v3) (hR : R (.tuple #[v1, v2, v3]) w) : J3a P fn R [] e w :=
 ⟨rfl, fun tmps he => by subst he; subst h1; subst h2; subst h3; exact ⟨_, by simp [results, h]; rfl, by simpa [P0a] using hR⟩⟩
end
section
variable {M : List Nat} {w : World}
theorem j1a.open_ {p : f0a} {cs : List Value} (h : j1a M w p cs) : ∃ Ac nc cc Am nm cm Al nl cl At nt ct, cs = [.slice Ac nc cc, .slice Am nm cm, .slice Al nl cl, .slice At nt ct] ∧
 W4c M w (.slice Ac nc cc) p.cells ∧ E9c M w (.slice Am nm cm) p.modules ∧ S8c M w (.slice Al nl cl) p.locks ∧ Y8c M w (.slice At nt ct) p.threads ∧
 nc = p.cells.length ∧ nm = p.modules.length ∧ nl = p.locks.length ∧ nt = p.threads.length ∧ nc ≤ 140737488355328 ∧ nm ≤ 140737488355328 ∧ nl ≤ 140737488355328 ∧ nt ≤ 140737488355328 := by
 obtain ⟨_, _, _, _, rfl, h1, h2, h3, h4⟩ := h
 obtain ⟨Ac, nc, cc, rfl⟩ := h1.form
 obtain ⟨Am, nm, cm, rfl⟩ := h2.form
 obtain ⟨Al, nl, cl, rfl⟩ := h3.form
 obtain ⟨At, nt, ct, rfl⟩ := h4.form
 exact ⟨_, _, _, _, _, _, _, _, _, _, _, _, rfl, h1, h2, h3, h4, h1.len.1, h2.len.1, h3.len.1, h4.len.1, h1.len.2.2, h2.len.2.2, h3.len.2.2, h4.len.2.2⟩
theorem RdE.cells {e : E} {cs : List Value} (h : RdE M w e cs) : ∃ A n c, cs = [.int .i64 e.op, .int .i64 e.w, .int .i64 e.n, .slice A n c] ∧ n = e.kids.length ∧ n ≤ 140737488355328 ∧ i64 e.op ∧ i64 e.w ∧ i64 e.n := by
 obtain ⟨A, n, c, rfl, o1, o2, o3, hn, _, _, hbig, _⟩ := h.open_
 exact ⟨A, n, c, rfl, hn, hbig, o1, o2, o3⟩
theorem RdE.kidsRd {e : E} {v0 v1 v2 v3 : Value} (h : RdE M w e [v0, v1, v2, v3]) : w7c M w v3 e.kids := by
 obtain ⟨A, n, c, he, _, _, _, hn, hc, hm, hbig, hks⟩ := h.open_
 simp only [List.cons.injEq, and_true] at he
 obtain ⟨rfl, rfl, rfl, rfl⟩ := he
 refine ⟨A, n, c, rfl, hn, hc, hm, hbig, fun h0 => ?_⟩
 obtain ⟨b, o, hA, hb, hk⟩ := hks h0
 refine ⟨b, o, hA, hb, fun i x hx => ?_⟩
 obtain ⟨hlt, rfl⟩ := List.getElem?_eq_some_iff.1 hx
 obtain ⟨cs, h1, h2⟩ := hk i hlt
 exact ⟨cs, h2.length, h1, h2⟩
theorem R0a.open_ {a : F1a} {cs : List Value} (h : R0a M w cs a) : ∃ A n c, cs = [.int .i64 a.cell, .int .i64 a.to.op, .int .i64 a.to.w, .int .i64 a.to.n, .slice A n c] ∧ i64 a.cell ∧ RdE M w a.to [.int .i64 a.to.op, .int .i64 a.to.w, .int .i64 a.to.n, .slice A n c] := by
 obtain ⟨_, rfl, h1, h2⟩ := h
 obtain ⟨A, n, c, rfl, _⟩ := h2.cells
 exact ⟨A, n, c, rfl, h1, h2⟩
theorem m2a.open_ {s : t1a} {cs : List Value} (h : m2a M w cs s) : ∃ Ag ng cg As ns cs', cs = [.int .i64 s.kind, .int .i64 s.frm, .int .i64 s.to, .int .i64 s.guard.op, .int .i64 s.guard.w, .int .i64 s.guard.n, .slice Ag ng cg, .slice As ns cs', .bool s.release, .int .i64 s.target, .int .i64 s.module_] ∧
 (i64 s.kind ∧ i64 s.frm ∧ i64 s.to ∧ i64 s.target ∧ i64 s.module_) ∧ RdE M w s.guard [.int .i64 s.guard.op, .int .i64 s.guard.w, .int .i64 s.guard.n, .slice Ag ng cg] ∧ a4c M w (.slice As ns cs') s.set ∧ ns = s.set.length ∧ ns ≤ 140737488355328 := by
 obtain ⟨_, _, _, _, _, rfl, h1, h2, h3, h4, h5, h6, h7⟩ := h
 obtain ⟨_, n, _, he, _⟩ := h6.cells
 simp only [List.cons.injEq, and_true] at he
 obtain ⟨rfl, rfl, rfl, rfl⟩ := he
 obtain ⟨As, ns, cs', rfl⟩ := h7.form
 exact ⟨_, _, _, _, _, _, rfl, ⟨h1, h2, h3, h4, h5⟩, h6, h7, h7.len.1, h7.len.2.2⟩
theorem n5a.open_ {l : Z4b} {cs : List Value} (h : n5a M w cs l) : ∃ Ab nb cb Ag ng cg, cs = [.int .i64 l.head, .slice Ab nb cb, .int .i64 l.variant.op, .int .i64 l.variant.w, .int .i64 l.variant.n, .slice Ag ng cg] ∧ i64 l.head ∧ RdI M w (.slice Ab nb cb) l.body ∧
 RdE M w l.variant [.int .i64 l.variant.op, .int .i64 l.variant.w, .int .i64 l.variant.n, .slice Ag ng cg] ∧ nb = l.body.length ∧ nb ≤ 140737488355328 := by
 obtain ⟨_, _, _, _, _, rfl, h1, h2, h3⟩ := h
 obtain ⟨_, n, _, he, _⟩ := h3.cells
 simp only [List.cons.injEq, and_true] at he
 obtain ⟨rfl, rfl, rfl, rfl⟩ := he
 obtain ⟨Ab, nb, cb, rfl⟩ := h2.form
 exact ⟨_, _, _, _, _, _, rfl, h1, h2, h3, h2.len.1, h2.len.2.2⟩
theorem N0a.open_ {t : Q0a} {cs : List Value} (h : N0a M w cs t) : ∃ Aa na ca Am nm cm As ns cs' Al nl cl, cs = [.string t.name, .int .i64 t.points, .slice Aa na ca, .slice Am nm cm, .slice As ns cs', .slice Al nl cl, .bool t.asleep] ∧ i64 t.points ∧
 w7c M w (.slice Aa na ca) t.asserts ∧ RdI M w (.slice Am nm cm) t.modules ∧ I8c M w (.slice As ns cs') t.steps ∧ y9c M w (.slice Al nl cl) t.loops ∧
 na = t.asserts.length ∧ nm = t.modules.length ∧ ns = t.steps.length ∧ nl = t.loops.length ∧ na ≤ 140737488355328 ∧ nm ≤ 140737488355328 ∧ ns ≤ 140737488355328 ∧ nl ≤ 140737488355328 := by
 obtain ⟨_, _, _, _, rfl, h0, h1, h2, h3, h4⟩ := h
 obtain ⟨Aa, na, ca, rfl⟩ := h1.form
 obtain ⟨Am, nm, cm, rfl⟩ := h2.form
 obtain ⟨As, ns, cs', rfl⟩ := h3.form
 obtain ⟨Al, nl, cl, rfl⟩ := h4.form
 exact ⟨_, _, _, _, _, _, _, _, _, _, _, _, rfl, h0, h1, h2, h3, h4, h1.len.1, h2.len.1, h3.len.1, h4.len.1, h1.len.2.2, h2.len.2.2, h3.len.2.2, h4.len.2.2⟩
theorem v1a.open_ {c : Z3a} {cs : List Value} (h : v1a M w cs c) : ∃ Ar nr cr Ag ng cg Af nf cf, cs = [.string c.name, .string c.owner, .int .i64 c.rely.op, .int .i64 c.rely.w, .int .i64 c.rely.n, .slice Ar nr cr, .int .i64 c.guar.op, .int .i64 c.guar.w, .int .i64 c.guar.n, .slice Ag ng cg, .slice Af nf cf] ∧
 RdE M w c.rely [.int .i64 c.rely.op, .int .i64 c.rely.w, .int .i64 c.rely.n, .slice Ar nr cr] ∧ RdE M w c.guar [.int .i64 c.guar.op, .int .i64 c.guar.w, .int .i64 c.guar.n, .slice Ag ng cg] ∧ RdI M w (.slice Af nf cf) c.frame ∧ nf = c.frame.length ∧ nf ≤ 140737488355328 := by
 obtain ⟨_, _, _, _, _, _, _, _, _, rfl, h1, h2, h3⟩ := h
 obtain ⟨_, n, _, he, _⟩ := h1.cells
 simp only [List.cons.injEq, and_true] at he
 obtain ⟨rfl, rfl, rfl, rfl⟩ := he
 obtain ⟨_, _, _, he, _⟩ := h2.cells
 simp only [List.cons.injEq, and_true] at he
 obtain ⟨rfl, rfl, rfl, rfl⟩ := he
 obtain ⟨Af, nf, cf, rfl⟩ := h3.form
 exact ⟨_, _, _, _, _, _, _, _, _, rfl, h1, h2, h3, h3.len.1, h3.len.2.2⟩
theorem G4a.open_ {l : c4b} {cs : List Value} (h : G4a M w cs l) : ∃ Ag ng cg, cs = [.int .i64 l.cell, .int .i64 l.inv.op, .int .i64 l.inv.w, .int .i64 l.inv.n, .slice Ag ng cg, .int .i64 l.module_] ∧ i64 l.cell ∧ i64 l.module_ ∧ RdE M w l.inv [.int .i64 l.inv.op, .int .i64 l.inv.w, .int .i64 l.inv.n, .slice Ag ng cg] := by
 obtain ⟨_, _, _, _, rfl, h1, h2, h3⟩ := h
 obtain ⟨_, n, _, he, _⟩ := h3.cells
 simp only [List.cons.injEq, and_true] at he
 obtain ⟨rfl, rfl, rfl, rfl⟩ := he
 exact ⟨_, _, _, rfl, h1, h2, h3⟩
theorem Z2a.open_ {c : d2a} {cs : List Value} (h : Z2a cs c) : cs = [.string c.name, .int .i64 c.w, .int .i64 c.init, .int .i64 c.thread, .bool c.ghost, .int .i64 c.module_] ∧ i64 c.w ∧ i64 c.init ∧ i64 c.thread ∧ i64 c.module_ := h
end
section
variable {cells : List d2a} {x : Int} {c : d2a}
theorem f1a (h : cells[x.toNat]? = some c) : y1a cells x = c.thread := by unfold y1a; rw [List.getD_eq_getElem?_getD, h]; rfl
theorem C2a (h : cells[x.toNat]? = some c) : Q0b cells x = c.ghost := by unfold Q0b; rw [List.getD_eq_getElem?_getD, h]; rfl
theorem A5a (h0 : 0 ≤ x) (h : cells[x.toNat]? = some c) : wAt cells x = c.w := by unfold wAt; rw [if_pos h0, h]; rfl
end
theorem h2b {l : List Int} {k k0 : Nat} {x y : Int} (hy : l[k]? = some y) (hp : X5a (l.take k)) (h0 : k0 + 1 = k) (hx : l[k0]? = some x) (hxy : x < y) : X5a (l.take (k + 1)) := by
 subst h0
 unfold X5a at *
 rw [J0a hy, List.pairwise_append]
 refine ⟨hp, by simp, fun a ha b hb => ?_⟩
 rw [List.mem_singleton.1 hb]
 rw [J0a hx] at hp ha
 rcases List.mem_append.1 ha with h | h
 ·have := (List.pairwise_append.1 hp).2.2 a h x (by simp); omega
 ·rw [List.mem_singleton.1 h]; exact hxy
theorem o9b {l : List Int} {i j : Nat} {x y : Int} (h : X5a l) (hx : l[i]? = some x) (hy : l[j]? = some y) (hij : i < j) : x < y := by
 obtain ⟨h1, rfl⟩ := List.getElem?_eq_some_iff.1 hx
 obtain ⟨h2, rfl⟩ := List.getElem?_eq_some_iff.1 hy
 exact (List.pairwise_iff_getElem.1 h) i j h1 h2 hij
theorem Q7b (e : E) (op : Int) : (e.sup op).length ≤ 32 := by
 unfold E.sup
 split
 ·unfold i5a
  have h1 := A2a (e.mark op (List.replicate 32 false)) (e.mark op (List.replicate 32 false)).length
  rw [E.mark_len] at h1 ⊢
  simpa using h1
 ·simp
theorem O0b {cells : List d2a} {pair : Bool} {e : E} (h : e.valid cells pair = true) (ho : e.op = 2) : 0 ≤ e.n ∧ e.n < cells.length := by
 obtain ⟨_, h2, h3⟩ := c5a h
 have := F5a (.inl rfl) e 40 h2 h3 e.n (by rw [E.occ_def]; simp [ho])
 omega
theorem E.ext {a b : E} (h1 : a.op = b.op) (h2 : a.w = b.w) (h3 : a.n = b.n) (h4 : a.kids = b.kids) : a = b := by
 cases a; cases b; simp only at h1 h2 h3 h4; subst h1 h2 h3 h4; rfl
structure X2b (p : f0a) : Prop where
 cells : ∀ c ∈ p.cells, c.name.size ≤ 140737488355328
 mods : ∀ m ∈ p.modules, m.name.size ≤ 140737488355328 ∧ m.owner.size ≤ 140737488355328
 threads : ∀ t ∈ p.threads, t.name.size ≤ 140737488355328
theorem D7a {α : Type} {R : α → α → Prop} {l : List α} (h : l.Pairwise R) {i j : Nat} {x y : α} (hx : l[i]? = some x) (hy : l[j]? = some y) (hij : i < j) : R x y := by
 obtain ⟨h1, rfl⟩ := List.getElem?_eq_some_iff.1 hx
 obtain ⟨h2, rfl⟩ := List.getElem?_eq_some_iff.1 hy
 exact List.pairwise_iff_getElem.1 h i j h1 h2 hij
theorem G8a (i n : Int) (w0 : World) : M0a Tryz.prog 71 #[.int .i64 i, .int .i64 n] w0 fun v w' => v = .bool (decide (0 ≤ i ∧ i < n)) ∧ Below w0.heap.size w0 w' := by
 have S := St.refl w0
 refine a0a Tryz.func71 rfl Tryz.ntmps71 rfl ?_
 refine wB0 rfl ⟨⟩ (fun h6 => ?_) fun h6 => ?_
 ·refine lB0 rfl ⟨⟩ (fun h10 => ?_) fun h10 => ?_
  ·refine lT rfl ⟨⟩ rfl ?_
   exact ⟨congrArg Value.bool (by (rw [decide_eq_true]; omega)), S.fin⟩
  refine lT rfl ⟨⟩ rfl ?_
  exact ⟨congrArg Value.bool (by (rw [decide_eq_false]; omega)), S.fin⟩
 refine lT rfl ⟨⟩ rfl ?_
 exact ⟨congrArg Value.bool (by (rw [decide_eq_false]; omega)), S.fin⟩
theorem Q8a (s : ByteArray) (w0 : World) (hbig : s.size ≤ 140737488355328) : M0a Tryz.prog 69 #[.string s] w0 fun v w' => v = .bool (dec (u6a s)) ∧ Below w0.heap.size w0 w' := by
 have S := St.refl w0
 refine a0a Tryz.func69 rfl Tryz.ntmps69 rfl ?_
 refine wC0 rfl ⟨⟩ (wL (fun μ D ε w => D = [] ∧ ∃ k : Nat, (k + μ = s.size) ∧ (∀ (j : Nat) (h : j < s.size), j < k → 33 ≤ (s[j]).toNat ∧ (s[j]).toNat ≤ 126) ∧ St [] w0 w [] ∧ ε 0 = .string s ∧ ε 3 = .int .i64 k) (μ := s.size) ⟨rfl, 0, by omega, fun j _ h => absurd h (by omega), S, rfl, rfl⟩ ?_)
 rintro μ D ε w ⟨rfl, k, _, hl, S, e0, e3⟩
 refine o0a 0 e0 (o0a 3 e3 ?_)
 clear e0 e3
 refine wO0 rfl ⟨⟩ (L0b Tryz.underlying9 rfl rfl ?_)
 refine lB0 rfl ⟨⟩ (fun h7 => ?_) fun h7 => ?_
 ·refine lO0 rfl ⟨⟩ (K8a Tryz.underlying9 rfl rfl (by omega) (by omega) rfl ?_)
  refine lB0 rfl ⟨⟩ (fun h13 => ?_) fun h13 => ?_
  ·refine lT rfl ⟨⟩ rfl ?_
   refine ⟨h1a (fun h => ?_), S.fin⟩; have h3 := h.2.2 k (by omega); simp only [Int.toNat_natCast] at h13; omega
  refine lO0 rfl ⟨⟩ (K8a Tryz.underlying9 rfl rfl (by omega) (by omega) rfl ?_)
  refine lB0 rfl ⟨⟩ (fun h18 => ?_) fun h18 => ?_
  ·refine lT rfl ⟨⟩ rfl ?_
   refine ⟨h1a (fun h => ?_), S.fin⟩; have h3 := h.2.2 k (by omega); simp only [Int.toNat_natCast] at h18; omega
  refine lP0 rfl ⟨by omega,⟨⟩⟩ ⟨μ - 1, by omega, rfl, k + 1, by omega, fun j hj h => ?_, S, rfl, rfl⟩
  by_cases hjk : j = k
  ·subst hjk; simp only [Int.toNat_natCast] at h13 h18; omega
  ·exact hl j hj (by omega)
 refine lO0 rfl ⟨⟩ (L0b Tryz.underlying9 rfl rfl ?_)
 refine lB0 rfl ⟨⟩ (fun h22 => ?_) fun h22 => ?_
 ·refine lO0 rfl ⟨⟩ (L0b Tryz.underlying9 rfl rfl ?_)
  refine lB0 rfl ⟨⟩ (fun h26 => ?_) fun h26 => ?_
  ·exact lT rfl ⟨⟩ rfl ⟨N3a ⟨by omega, by omega, fun j h => hl j h (by omega)⟩, S.fin⟩
  refine lT rfl ⟨⟩ rfl ?_
  refine ⟨h1a (fun h => ?_), S.fin⟩; have h3 := h.1; have h4 := h.2.1; omega
 refine lT rfl ⟨⟩ rfl ?_
 refine ⟨h1a (fun h => ?_), S.fin⟩; have h3 := h.1; have h4 := h.2.1; omega
theorem C3b (M : List Nat) (w0 : World) (v : Value) (l : List Int) (hR : RdI M w0 v l) : M0a Tryz.prog 74 #[v] w0 fun v w' => v = .bool (dec (X5a l)) ∧ Below w0.heap.size w0 w' := by
 obtain ⟨A, n, c, rfl⟩ := hR.form
 obtain ⟨_, _, _⟩ := hR.len
 have S := St.refl w0
 refine a0a Tryz.func74 rfl Tryz.ntmps74 rfl ?_
 refine wC0 rfl ⟨⟩ ?_
 refine wL (fun μk D ε w => D = [] ∧ ∃ k : Nat, (k + μk = max (l.length) 1) ∧ (1 ≤ k) ∧ (X5a (l.take k)) ∧ St [] w0 w [] ∧ Sl ε [(0, .slice A n c), (3, .int .i64 k)]) (μ := (max (l.length) 1 - 1)) ⟨rfl, 1, by omega, by omega, (by cases l <;> simp [X5a]), S, rfl⟩ ?_
 rintro μk D ε w ⟨rfl, k, _, _, hp, S, eZ⟩
 refine wK eZ (wB0 rfl ⟨⟩ (fun h7 => ?_) fun h7 => ?_)
 ·refine lC0 rfl ⟨⟩ (D0a b0a [0, 1, 2, 3, 4, 5, 6, 7, 8, 9] [] [] (by kernel_rfl) rfl (Cl _ _ _ _) (Cl.start S) ?_)
  obtain ⟨x, b13, p13, _, hxx, hA13, _, _, hc13, hr13⟩ := RdS.get (hR) (k - 1) (by omega)
  obtain ⟨rfl, _⟩ := id hr13
  have e13 : ((k : Int) - 1).toNat = k - 1 := by omega
  rw [← e13] at hc13
  obtain ⟨_, b17, p17, _, hxy, hA17, _, _, hc17, hr17⟩ := RdS.get (hR) (k) (by omega)
  obtain ⟨rfl, _⟩ := id hr17
  refine qB ((S.q.a hc17).a hc13) [.x b13 p13,.f 0 0,.x b17 p17,.f 1 0] rfl ⟨rfl,⟨hA17,by omega⟩,rfl,⟨hA13,by omega⟩,by omega,⟨⟩⟩ (fun h19 => ?_) fun h19 => ?_
  ·refine qD rfl ⟨⟩ ?_
   rintro wR4 ⟨SR4, XR4⟩
   refine lT rfl ⟨⟩ rfl ?_
   refine ⟨h1a (fun h => ?_), SR4.fin⟩; have := D7a h hxx hxy (by omega); omega
  refine qD rfl ⟨⟩ ?_
  rintro wR4 ⟨SR4, XR4⟩
  refine lP0 rfl ⟨by omega,⟨⟩⟩ ⟨μk - 1, by omega, rfl, (k + 1), (by omega), (by omega), ?_, SR4, rfl⟩
  refine (h2b hxy hp (k0 := k - 1) (by omega) hxx (by omega))
 exact lT rfl ⟨⟩ rfl ⟨N3a ((List.take_of_length_le (show l.length ≤ k by omega)) ▸ hp), S.fin⟩
theorem Z3b (e : E) (M : List Nat) (w0 : World) (cs : List Value) (hR : RdE M w0 e cs) : M0a Tryz.prog 72 #[.agg cs.toArray] w0 fun v w' => v = .bool (dec e.absent) ∧ Below w0.heap.size w0 w' := by
 obtain ⟨_, _, _, rfl, hn, _, _, _, _⟩ := hR.cells
 have S := St.refl w0
 refine a0a Tryz.func72 rfl Tryz.ntmps72 rfl ?_
 refine wO0 rfl ⟨⟩ (j0a S (by conv => lhs; whnf) rfl ?_)
 intro g1 w1 S1 X1 G1
 refine lB S1.k [.o 0] rfl ⟨rfl,⟨⟩⟩ (fun h5 => ?_) fun h5 => ?_
 ·refine lB S1.k [.o 0] rfl ⟨rfl,⟨⟩⟩ (fun h9 => ?_) fun h9 => ?_
  ·refine lB S1.k [.o 0] rfl ⟨rfl,⟨⟩⟩ (fun h14 => ?_) fun h14 => ?_
   ·refine lB S1.k [.o 0] rfl ⟨rfl,⟨⟩⟩ (fun h20 => ?_) fun h20 => ?_
    ·exact lT rfl ⟨⟩ rfl ⟨N3a ⟨by omega, by omega, by omega, List.length_eq_zero_iff.1 (by omega)⟩, S1.fin⟩
    refine lT rfl ⟨⟩ rfl ?_
    refine ⟨h1a (fun h => ?_), S1.fin⟩; obtain ⟨a1, a2, a3, a4⟩ := h; rw [a4] at hn; simp at hn; omega
   refine lT rfl ⟨⟩ rfl ?_
   refine ⟨h1a (fun h => ?_), S1.fin⟩; obtain ⟨a1, a2, a3, a4⟩ := h; rw [a4] at hn; simp at hn; omega
  refine lT rfl ⟨⟩ rfl ?_
  refine ⟨h1a (fun h => ?_), S1.fin⟩; obtain ⟨a1, a2, a3, a4⟩ := h; rw [a4] at hn; simp at hn; omega
 refine lT rfl ⟨⟩ rfl ?_
 refine ⟨h1a (fun h => ?_), S1.fin⟩; obtain ⟨a1, a2, a3, a4⟩ := h; rw [a4] at hn; simp at hn; omega
theorem z5b (p : f0a) (M : List Nat) (w0 : World) (cs : List Value) (c t : Int) (hP : j1a M w0 p cs) (h0 : 0 ≤ c) (h1 : c < p.cells.length) :
 M0a Tryz.prog 131 #[.agg cs.toArray, .int .i64 c, .int .i64 t] w0 fun v w' => v = .bool (decide (y1a p.cells c = t)) ∧ Below w0.heap.size w0 w' := by
 obtain ⟨_, _, _, _, _, _, _, _, _, _, _, _, rfl, hC, _, _, _, _, _, _, _, _, _, _, _⟩ := hP.open_
 have S := St.refl w0
 refine a0a Tryz.func131 rfl Tryz.ntmps131 rfl ?_
 refine wO0 rfl ⟨⟩ (j0a S (by conv => lhs; whnf) rfl ?_)
 intro g3 w3 S3 X3 G3
 obtain ⟨x, b10, p10, _, hxx, hA10, _, _, hc10, hr10⟩ := RdS.get (hC) (c.toNat) (by omega)
 obtain ⟨rfl, _, _, _, _⟩ := Z2a.open_ hr10
 refine lB (S3.k.a hc10) [.o 0,.x b10 p10,.f 0 3] rfl ⟨rfl,⟨hA10,by omega⟩,rfl,⟨⟩⟩ (fun h14 => ?_) fun h14 => ?_
 ·refine lR0 rfl ⟨⟩ (r0a rfl (by conv => lhs; whnf) ?_)
  exact ⟨by rw [decide_eq_true (by rw [f1a hxx]; omega)], S3.fin⟩
 refine lR0 rfl ⟨⟩ (r0a rfl (by conv => lhs; whnf) ?_)
 exact ⟨by rw [decide_eq_false (by rw [f1a hxx]; omega)], S3.fin⟩
theorem M9a (p : f0a) (M : List Nat) (w0 : World) (cs : List Value) (c : Int) (hP : j1a M w0 p cs) (h0 : 0 ≤ c) (h1 : c < p.cells.length) :
 M0a Tryz.prog 132 #[.agg cs.toArray, .int .i64 c] w0 fun v w' => v = .bool (decide (y1a p.cells c = -1)) ∧ Below w0.heap.size w0 w' := by
 obtain ⟨_, _, _, _, _, _, _, _, _, _, _, _, rfl, hC, _, _, _, _, _, _, _, _, _, _, _⟩ := hP.open_
 have S := St.refl w0
 refine a0a Tryz.func132 rfl Tryz.ntmps132 rfl ?_
 refine wO0 rfl ⟨⟩ (j0a S (by conv => lhs; whnf) rfl ?_)
 intro g2 w2 S2 X2 G2
 obtain ⟨x, b8, p8, _, hxx, hA8, _, _, hc8, hr8⟩ := RdS.get (hC) (c.toNat) (by omega)
 obtain ⟨rfl, _, _, _, _⟩ := Z2a.open_ hr8
 refine lB (S2.k.a hc8) [.o 0,.x b8 p8,.f 0 3] rfl ⟨rfl,⟨hA8,by omega⟩,rfl,⟨⟩⟩ (fun h11 => ?_) fun h11 => ?_
 ·refine lR0 rfl ⟨⟩ (r0a rfl (by conv => lhs; whnf) ?_)
  exact ⟨by rw [decide_eq_true (by rw [f1a hxx]; omega)], S2.fin⟩
 refine lR0 rfl ⟨⟩ (r0a rfl (by conv => lhs; whnf) ?_)
 exact ⟨by rw [decide_eq_false (by rw [f1a hxx]; omega)], S2.fin⟩
theorem R5a (p : f0a) (e : E) (M : List Nat) (w0 : World) (cs es : List Value) (sh pair : Bool) (t : Int) (hP : j1a M w0 p cs) (hR : RdE M w0 e es) (hM : ∀ g ∈ M, g < w0.heap.size) (hv : e.valid p.cells pair = true) :
 M0a Tryz.prog 77 #[.agg cs.toArray, .agg es.toArray, .bool sh, .int .i64 t] w0 fun v w' => v = .bool (dec (M4a p.cells e sh t)) ∧ Below w0.heap.size w0 w' := by
 obtain ⟨Ac, nc, cc, Am, nm, cm, Al, nl, cl, At, nt, ct, rfl, hC, _, _, _, _, _, _, _, _, _, _, _⟩ := hP.open_
 obtain ⟨Ae, ne, ce, rfl, _, _, _, _, _⟩ := hR.cells
 obtain ⟨hwf, hgd, hov⟩ := c5a hv
 have hin : ∀ x ∈ e.sup 3 ++ e.sup 2, 0 ≤ x ∧ x < p.cells.length := fun x hx => by
  rcases List.mem_append.1 hx with hx | hx
  ·have h1 := (K1b hwf (.inr rfl) x).1 hx
   have h2 := F5a (.inr rfl) e 40 hgd hov x h1.2.2
   omega
  ·have h1 := (K1b hwf (.inl rfl) x).1 hx
   have h2 := F5a (.inl rfl) e 40 hgd hov x h1.2.2
   omega
 have hl3 : (e.sup 3).length ≤ 32 := Q7b e 3
 have hl2 : (e.sup 2).length ≤ 32 := Q7b e 2
 have S := St.refl w0
 cases sh
 ·refine a0a Tryz.func77 rfl Tryz.ntmps77 rfl ?_
  refine wO0 rfl ⟨⟩ (j0a S (by conv => lhs; whnf) rfl ?_)
  intro g4 w4 S4 X4 G4
  refine j0a S4 (by conv => lhs; whnf) rfl ?_
  intro g5 w5 S5 X5 G5
  refine lO S5.k [.w 0] rfl ⟨⟨rfl,rfl⟩,⟨⟩⟩ ?_
  refine B0a S5 g0c rfl rfl (o8a e M _ _ (RdE.keep (S5.keep0 M) _ _ hR) (fun g hg => by have := hM g hg; have := S5.size; omega)) ?_
  rintro v16 w16 ⟨va, vb, rfl, ra, rb⟩ S16 X16
  obtain ⟨Aa, na, ca, rfl⟩ := ra.form
  obtain ⟨Ab, nb, cb, rfl⟩ := rb.form
  refine lO0 rfl ⟨⟩ (e2b S16 Y0a rfl ?_)
  intro g19 w19 S19 X19 G19
  have ra1 := (RdS.more ra (by omega) (M' := [g19]) (fun g hg => by simp at hg; subst hg; exact .inr G19)).keep X19.of_nil
  have rb1 := (RdS.more rb (by omega) (M' := [g19]) (fun g hg => by simp at hg; subst hg; exact .inr G19)).keep X19.of_nil
  refine lO0 rfl ⟨⟩ ?_
  refine H5a (k := 0) (xs := []) S19 Y0a rfl C3a.new rfl rfl ra1 (by simp; omega) (by omega) rfl ?_
  intro v21 G21 cs21 w21 S21 R21 X21
  have rb2 := rb1.keep X21
  simp only [List.nil_append] at R21
  refine lO0 rfl ⟨⟩ (H5a (k := 0) S21 Y0a rfl R21 rfl rfl rb2 (by omega) (by omega) rfl ?_)
  intro v23 G23 cs23 w23 S23 R23 X23
  have rl := R23.rdI (k := 0) (M := M) S23 rfl hM (fun x hx => by have := hin x hx; unfold i64; omega) (by simp; omega)
  obtain ⟨l, el⟩ : ∃ l, l = e.sup 3 ++ e.sup 2 := ⟨_, rfl⟩
  rw [← el] at rl hin
  obtain ⟨Ax, nx, cx, rfl⟩ := rl.form
  obtain ⟨hnx, -, hbx⟩ := rl.len
  refine lC0 rfl ⟨⟩ (wL (fun μk D ε w => D = [] ∧ ∃ k : Nat, (k + μk = (l.length)) ∧ (RdI M w (.slice Ax nx cx) l) ∧ (u1a (l) k (fun x => (y1a p.cells x = -1 → false = true) ∧ (0 ≤ y1a p.cells x → y1a p.cells x = t))) ∧ St [] w0 w [(G23, 3, cs23), (some g5, 53, [.int .i64 e.op, .int .i64 e.w, .int .i64 e.n, .slice Ae ne ce]), (some g4, 27, [.slice Ac nc cc, .slice Am nm cm, .slice Al nl cl, .slice At nt ct])] ∧ Sl ε [(2, .bool false), (3, .int .i64 t), (4, .pointer (some ⟨g4, 0, none⟩)), (11, .slice Ax nx cx), (12, .int .i64 k)]) (μ := (l.length)) ⟨rfl, 0, by omega, rl, u1a.zero, S23, rfl⟩ ?_)
  rintro μk D ε w ⟨rfl, k, hk, rl, hs, S, eZ⟩
  refine wK eZ (wB0 rfl ⟨⟩ (fun h27 => ?_) fun h27 => ?_)
  ·refine lC0 rfl ⟨⟩ (D0a b0a [0, 1, 2, 3, 4, 5, 6, 7, 8, 9] [] [] (by kernel_rfl) rfl (Cl _ _ _ _) (Cl.start S) ?_)
   obtain ⟨y, b34, p34, c34, hxy, hA34, hM34, hl34, hc34, hr34⟩ := RdS.get (rl) (k) (by omega)
   obtain ⟨rfl, i134⟩ := id hr34
   have hiny := hin y (c0a hxy)
   obtain ⟨x, b36, p36, c36, hxx, hA36, hM36, hl36, hc36, hr36⟩ := RdS.get (hC) (y.toNat) (by omega)
   obtain ⟨rfl, i136, i236, i336, i436⟩ := Z2a.open_ hr36
   refine qN ((S.q.a hc36).b hc34) [.o 2,.x b34 p34,.f 0 0,.x b36 p36,.f 1 3] rfl ⟨rfl,⟨hA36,by omega⟩,rfl,⟨hA34,by omega⟩,rfl,⟨⟩⟩ (w5a ?_)
   refine o2a ?_
   rintro wR6 ⟨SR6, XR6⟩
   replace hc34 := hc34.keep (XR6.of_nil) hM34
   replace rl := rl.keep (XR6.of_nil)
   refine lB0 rfl ⟨⟩ (fun h40 => ?_) fun h40 => ?_
   ·refine lR0 rfl ⟨⟩ (r0a rfl (by conv => lhs; whnf) ?_)
    rw [M4a, ← el]
    refine ⟨h1a (fun h => ?_), SR6.nil.fin⟩; have h1 := h y (c0a hxy); rw [f1a hxx] at h1; have h2 := h1.1 h40; cases h2; done
   refine lB0 rfl ⟨⟩ (fun h47 => ?_) fun h47 => ?_
   ·refine lB0 rfl ⟨⟩ (fun h51 => ?_) fun h51 => ?_
    ·refine lR0 rfl ⟨⟩ (r0a rfl (by conv => lhs; whnf) ?_)
     rw [M4a, ← el]
     refine ⟨h1a (fun h => ?_), SR6.nil.fin⟩; have h1 := h y (c0a hxy); rw [f1a hxx] at h1; have h2 := h1.2 h47; omega
    refine lP0 rfl ⟨by omega,⟨⟩⟩ ⟨μk - 1, by omega, rfl, (k + 1), (by omega), (rl), ?_, SR6, rfl⟩
    exact hs.succ hxy ⟨fun h => by rw [f1a hxx] at h; omega, fun h => by rw [f1a hxx] at h ⊢; omega⟩
   refine lP0 rfl ⟨by omega,⟨⟩⟩ ⟨μk - 1, by omega, rfl, (k + 1), (by omega), (rl), ?_, SR6, rfl⟩
   exact hs.succ hxy ⟨fun h => by rw [f1a hxx] at h; omega, fun h => by rw [f1a hxx] at h ⊢; omega⟩
  refine lR0 rfl ⟨⟩ (r0a rfl (by conv => lhs; whnf) ?_)
  rw [M4a, ← el]
  exact ⟨N3a (hs.all (by omega)), S.nil.fin⟩
 ·refine a0a Tryz.func77 rfl Tryz.ntmps77 rfl ?_
  refine wO0 rfl ⟨⟩ (j0a S (by conv => lhs; whnf) rfl ?_)
  intro g4 w4 S4 X4 G4
  refine j0a S4 (by conv => lhs; whnf) rfl ?_
  intro g5 w5 S5 X5 G5
  refine lO S5.k [.w 0] rfl ⟨⟨rfl,rfl⟩,⟨⟩⟩ ?_
  refine B0a S5 g0c rfl rfl (o8a e M _ _ (RdE.keep (S5.keep0 M) _ _ hR) (fun g hg => by have := hM g hg; have := S5.size; omega)) ?_
  rintro v16 w16 ⟨va, vb, rfl, ra, rb⟩ S16 X16
  obtain ⟨Aa, na, ca, rfl⟩ := ra.form
  obtain ⟨Ab, nb, cb, rfl⟩ := rb.form
  refine lO0 rfl ⟨⟩ (e2b S16 Y0a rfl ?_)
  intro g19 w19 S19 X19 G19
  have ra1 := (RdS.more ra (by omega) (M' := [g19]) (fun g hg => by simp at hg; subst hg; exact .inr G19)).keep X19.of_nil
  have rb1 := (RdS.more rb (by omega) (M' := [g19]) (fun g hg => by simp at hg; subst hg; exact .inr G19)).keep X19.of_nil
  refine lO0 rfl ⟨⟩ ?_
  refine H5a (k := 0) (xs := []) S19 Y0a rfl C3a.new rfl rfl ra1 (by simp; omega) (by omega) rfl ?_
  intro v21 G21 cs21 w21 S21 R21 X21
  have rb2 := rb1.keep X21
  simp only [List.nil_append] at R21
  refine lO0 rfl ⟨⟩ (H5a (k := 0) S21 Y0a rfl R21 rfl rfl rb2 (by omega) (by omega) rfl ?_)
  intro v23 G23 cs23 w23 S23 R23 X23
  have rl := R23.rdI (k := 0) (M := M) S23 rfl hM (fun x hx => by have := hin x hx; unfold i64; omega) (by simp; omega)
  obtain ⟨l, el⟩ : ∃ l, l = e.sup 3 ++ e.sup 2 := ⟨_, rfl⟩
  rw [← el] at rl hin
  obtain ⟨Ax, nx, cx, rfl⟩ := rl.form
  obtain ⟨hnx, -, hbx⟩ := rl.len
  refine lC0 rfl ⟨⟩ (wL (fun μk D ε w => D = [] ∧ ∃ k : Nat, (k + μk = (l.length)) ∧ (RdI M w (.slice Ax nx cx) l) ∧ (u1a (l) k (fun x => (y1a p.cells x = -1 → true = true) ∧ (0 ≤ y1a p.cells x → y1a p.cells x = t))) ∧ St [] w0 w [(G23, 3, cs23), (some g5, 53, [.int .i64 e.op, .int .i64 e.w, .int .i64 e.n, .slice Ae ne ce]), (some g4, 27, [.slice Ac nc cc, .slice Am nm cm, .slice Al nl cl, .slice At nt ct])] ∧ Sl ε [(2, .bool true), (3, .int .i64 t), (4, .pointer (some ⟨g4, 0, none⟩)), (11, .slice Ax nx cx), (12, .int .i64 k)]) (μ := (l.length)) ⟨rfl, 0, by omega, rl, u1a.zero, S23, rfl⟩ ?_)
  rintro μk D ε w ⟨rfl, k, hk, rl, hs, S, eZ⟩
  refine wK eZ (wB0 rfl ⟨⟩ (fun h27 => ?_) fun h27 => ?_)
  ·refine lC0 rfl ⟨⟩ (D0a b0a [0, 1, 2, 3, 4, 5, 6, 7, 8, 9] [] [] (by kernel_rfl) rfl (Cl _ _ _ _) (Cl.start S) ?_)
   obtain ⟨y, b34, p34, c34, hxy, hA34, hM34, hl34, hc34, hr34⟩ := RdS.get (rl) (k) (by omega)
   obtain ⟨rfl, i134⟩ := id hr34
   have hiny := hin y (c0a hxy)
   obtain ⟨x, b36, p36, c36, hxx, hA36, hM36, hl36, hc36, hr36⟩ := RdS.get (hC) (y.toNat) (by omega)
   obtain ⟨rfl, i136, i236, i336, i436⟩ := Z2a.open_ hr36
   refine qN ((S.q.a hc36).b hc34) [.o 2,.x b34 p34,.f 0 0,.x b36 p36,.f 1 3] rfl ⟨rfl,⟨hA36,by omega⟩,rfl,⟨hA34,by omega⟩,rfl,⟨⟩⟩ (w5a ?_)
   refine o2a ?_
   rintro wR6 ⟨SR6, XR6⟩
   replace rl := rl.keep (XR6.of_nil)
   refine lB0 rfl ⟨⟩ (fun h40 => ?_) fun h40 => ?_
   ·refine lB0 rfl ⟨⟩ (fun h47 => ?_) fun h47 => ?_
    ·refine lB0 rfl ⟨⟩ (fun h51 => ?_) fun h51 => ?_
     ·refine lR0 rfl ⟨⟩ (r0a rfl (by conv => lhs; whnf) ?_)
      rw [M4a, ← el]
      refine ⟨h1a (fun h => ?_), SR6.nil.fin⟩; have h1 := h y (c0a hxy); rw [f1a hxx] at h1; have h2 := h1.2 h47; omega
     refine lP0 rfl ⟨by omega,⟨⟩⟩ ⟨μk - 1, by omega, rfl, (k + 1), (by omega), (rl), ?_, SR6, rfl⟩
     exact hs.succ hxy ⟨fun _ => rfl, fun h => by rw [f1a hxx] at h ⊢; omega⟩
    refine lP0 rfl ⟨by omega,⟨⟩⟩ ⟨μk - 1, by omega, rfl, (k + 1), (by omega), (rl), ?_, SR6, rfl⟩
    exact hs.succ hxy ⟨fun _ => rfl, fun h => by rw [f1a hxx] at h ⊢; omega⟩
   refine lB0 rfl ⟨⟩ (fun h47 => ?_) fun h47 => ?_
   ·refine lB0 rfl ⟨⟩ (fun h51 => ?_) fun h51 => ?_
    ·refine lR0 rfl ⟨⟩ (r0a rfl (by conv => lhs; whnf) ?_)
     rw [M4a, ← el]
     refine ⟨h1a (fun h => ?_), SR6.nil.fin⟩; have h1 := h y (c0a hxy); rw [f1a hxx] at h1; have h2 := h1.2 h47; omega
    refine lP0 rfl ⟨by omega,⟨⟩⟩ ⟨μk - 1, by omega, rfl, (k + 1), (by omega), (rl), ?_, SR6, rfl⟩
    exact hs.succ hxy ⟨fun _ => rfl, fun h => by rw [f1a hxx] at h ⊢; omega⟩
   refine lP0 rfl ⟨by omega,⟨⟩⟩ ⟨μk - 1, by omega, rfl, (k + 1), (by omega), (rl), ?_, SR6, rfl⟩
   exact hs.succ hxy ⟨fun _ => rfl, fun h => by rw [f1a hxx] at h ⊢; omega⟩
  refine lR0 rfl ⟨⟩ (r0a rfl (by conv => lhs; whnf) ?_)
  rw [M4a, ← el]
  exact ⟨N3a (hs.all (by omega)), S.nil.fin⟩
theorem H4a (p : f0a) (e : E) (M : List Nat) (w0 : World) (cs es : List Value) (pair : Bool) (t : Int) (hP : j1a M w0 p cs) (hR : RdE M w0 e es) (hM : ∀ g ∈ M, g < w0.heap.size) :
 M0a Tryz.prog 73 #[.agg cs.toArray, .agg es.toArray, .bool pair, .int .i64 t] w0 fun v w' => v = .bool (dec (Z6a p.cells e pair t)) ∧ Below w0.heap.size w0 w' := by
 obtain ⟨_, _, _, _, _, _, _, _, _, _, _, _, rfl, hC, _, _, _, _, _, _, _, _, _, _, _⟩ := hP.open_
 obtain ⟨_, _, _, rfl, _, _, _, _, _⟩ := hR.cells
 have S := St.refl w0
 refine a0a Tryz.func73 rfl Tryz.ntmps73 rfl ?_
 refine wO0 rfl ⟨⟩ (j0a S (by conv => lhs; whnf) rfl ?_)
 intro g4 w4 S4 X4 G4
 refine j0a S4 (by conv => lhs; whnf) rfl ?_
 intro g5 w5 S5 X5 G5
 refine lO S5.k [.w 0,.o 1] rfl ⟨rfl,⟨rfl,by rfl⟩,⟨⟩⟩ (y0a S5 Q5b rfl rfl (O8a _ M _ _ _ p.cells pair (RdE.keep (S5.keep0 M) _ _ hR) (hC.keep (S5.keep0 M))) (fun h13 w13 S13 X13 => ?_) (fun h13 w13 S13 X13 => ?_))
 ·refine lB S13.k [.o 0] rfl ⟨rfl,⟨⟩⟩ (fun h17 => ?_) fun h17 => ?_
  ·refine lO S13.k [.w 1,.w 0] rfl ⟨⟨rfl,by rfl⟩,⟨rfl,by rfl⟩,⟨⟩⟩ ?_
   refine y0a S13 z2b rfl rfl (R5a p e M _ _ _ true pair t (hP.keep (S13.keep0 M)) (RdE.keep (S13.keep0 M) _ _ hR) (fun g hg => by have := hM g hg; have := S13.size; omega) h13) (fun h23 w23 S23 X23 => ?_) (fun h23 w23 S23 X23 => ?_)
   ·exact lT rfl ⟨⟩ rfl ⟨N3a ⟨h13, by omega, a2a h23⟩, S23.fin⟩
   exact lT rfl ⟨⟩ rfl ⟨h1a (fun h => G1a h23 h.2.2), S23.fin⟩
  refine lT rfl ⟨⟩ rfl ?_
  exact ⟨h1a (fun h => by have := h.2.1; omega), S13.fin⟩
 refine lT rfl ⟨⟩ rfl ?_
 exact ⟨h1a (fun h => by rw [h.1] at h13; cases h13), S13.fin⟩
def U4c (p : f0a) : Prop := p.cells.length ≤ 32 ∧ p.modules.length ≤ 6 ∧ p.locks.length ≤ 4 ∧ p.threads.length ≤ 4 ∧ ∀ x ∈ p.threads, x.points ≤ 48 ∧ x.steps.length ≤ 64 ∧ x.loops.length ≤ 8
theorem Q4b (p : f0a) (M : List Nat) (w0 : World) (cs : List Value) (hP : j1a M w0 p cs) :
 M0a Tryz.prog 49 #[.agg cs.toArray] w0 fun v w' => (∃ a b, v = .tuple #[.int .i64 a, .int .i64 b] ∧ (a = 0 ↔ U4c p)) ∧ Below w0.heap.size w0 w' := by
 obtain ⟨Ac, nc, cc, Am, nm, cm, Al, nl, cl, At, nt, ct, rfl, _, _, _, hTh, _, _, _, _, _, _, _, _⟩ := hP.open_
 have S := St.refl w0
 refine a0a Tryz.func49 rfl Tryz.ntmps49 rfl ?_
 refine wO0 rfl ⟨⟩ (j0a S (by conv => lhs; whnf) rfl ?_)
 intro g1 w1 S1 X1 G1
 refine lB S1.k [.o 0] rfl ⟨rfl,⟨⟩⟩ (fun h9 => ?_) fun h9 => ?_
 ·refine lT2 rfl ⟨⟩ rfl ?_
  refine ⟨⟨_, _, rfl, iff_of_false (by omega) (fun h => ?_)⟩, S1.fin⟩; have h1 := h.1; have h2 := h.2.1; have h3 := h.2.2.1; have h4 := h.2.2.2.1; omega
 refine lB S1.k [.o 0] rfl ⟨rfl,⟨⟩⟩ (fun h14 => ?_) fun h14 => ?_
 ·refine lT2 rfl ⟨⟩ rfl ?_
  refine ⟨⟨_, _, rfl, iff_of_false (by omega) (fun h => ?_)⟩, S1.fin⟩; have h1 := h.1; have h2 := h.2.1; have h3 := h.2.2.1; have h4 := h.2.2.2.1; omega
 refine lB S1.k [.o 0] rfl ⟨rfl,⟨⟩⟩ (fun h20 => ?_) fun h20 => ?_
 ·refine lT2 rfl ⟨⟩ rfl ?_
  refine ⟨⟨_, _, rfl, iff_of_false (by omega) (fun h => ?_)⟩, S1.fin⟩; have h1 := h.1; have h2 := h.2.1; have h3 := h.2.2.1; have h4 := h.2.2.2.1; omega
 refine lB S1.k [.o 0] rfl ⟨rfl,⟨⟩⟩ (fun h26 => ?_) fun h26 => ?_
 ·refine lT2 rfl ⟨⟩ rfl ?_
  refine ⟨⟨_, _, rfl, iff_of_false (by omega) (fun h => ?_)⟩, S1.fin⟩; have h1 := h.1; have h2 := h.2.1; have h3 := h.2.2.1; have h4 := h.2.2.2.1; omega
 refine lC0 rfl ⟨⟩ (wL (fun μk D ε w => D = [] ∧ ∃ k : Nat, (k + μk = (p.threads.length)) ∧ (u1a (p.threads) k (fun x => x.points ≤ 48 ∧ x.steps.length ≤ 64 ∧ x.loops.length ≤ 8)) ∧ St [] w0 w [(some g1, 27, [.slice Ac nc cc, .slice Am nm cm, .slice Al nl cl, .slice At nt ct])] ∧ Sl ε [(1, .pointer (some ⟨g1, 0, none⟩)), (4, .int .i64 k)]) (μ := (p.threads.length)) ⟨rfl, 0, by omega, u1a.zero, S1, rfl⟩ ?_)
 rintro μk D ε w ⟨rfl, k, _, hs, S, eZ⟩
 refine wK eZ (wB S.k [.o 0] rfl ⟨rfl,⟨⟩⟩ (fun h32 => ?_) fun h32 => ?_)
 ·obtain ⟨x, b38, p38, _, hxx, hA38, _, hl38, hc38, hr38⟩ := RdS.get (hTh) (k) (by omega)
  obtain ⟨_, _, _, _, _, _, _, _, _, _, _, _, rfl, _, _, _, _, _, _, _, _, _, _, _, _, _⟩ := N0a.open_ hr38
  refine lO (S.k.a hc38) [.o 0,.x b38 p38,.v 0] rfl ⟨⟨rfl,hl38⟩,⟨hA38,by omega⟩,rfl,⟨⟩⟩ (n0a S b3b rfl rfl ?_)
  intro g5 w5 S5 X5 G5
  refine e0a (kk := 0) (vs := [_, _, _, _, _, _, _]) S5 H2b rfl rfl rfl rfl rfl rfl rfl ?_
  intro w6_6 S6_6 X6_6
  dsimp only [k0a, List.set] at S6_6
  refine lB S6_6.k [.o 0] rfl ⟨rfl,⟨⟩⟩ (fun h42 => ?_) fun h42 => ?_
  ·refine lT2 rfl ⟨⟩ rfl ?_
   refine ⟨⟨_, _, rfl, iff_of_false (by omega) (fun h => ?_)⟩, S6_6.fin⟩; have h5 := h.2.2.2.2 x (c0a hxx); omega
  refine lB S6_6.k [.o 0] rfl ⟨rfl,⟨⟩⟩ (fun h47 => ?_) fun h47 => ?_
  ·refine lT2 rfl ⟨⟩ rfl ?_
   refine ⟨⟨_, _, rfl, iff_of_false (by omega) (fun h => ?_)⟩, S6_6.fin⟩; have h5 := h.2.2.2.2 x (c0a hxx); omega
  refine lB S6_6.k [.o 0] rfl ⟨rfl,⟨⟩⟩ (fun h53 => ?_) fun h53 => ?_
  ·refine lT2 rfl ⟨⟩ rfl ?_
   refine ⟨⟨_, _, rfl, iff_of_false (by omega) (fun h => ?_)⟩, S6_6.fin⟩; have h5 := h.2.2.2.2 x (c0a hxx); omega
  refine lP0 rfl ⟨by omega,⟨⟩⟩ ⟨μk - 1, by omega, rfl, (k + 1), (by omega), (hs.succ hxx (⟨by omega, by omega, by omega⟩)), S6_6.tail, rfl⟩
 exact lT2 rfl ⟨⟩ rfl ⟨⟨_, _, rfl, iff_of_true (by omega) ⟨by omega, by omega, by omega, by omega, hs.all (by omega)⟩⟩, S.fin⟩
def o8b (p : f0a) : Prop := (∀ c ∈ p.cells, r5b p c) ∧ p.cells.Pairwise (fun a b => a.name ≠ b.name)
theorem V6b (p : f0a) (M : List Nat) (w0 : World) (cs : List Value) (hP : j1a M w0 p cs) (hN : X2b p) :
 M0a Tryz.prog 50 #[.agg cs.toArray] w0 fun v w' => (∃ a, v = .int .i64 a ∧ (a = 0 ↔ o8b p)) ∧ Below w0.heap.size w0 w' := by
 obtain ⟨Ac, nc, cc, Am, nm, cm, Al, nl, cl, At, nt, ct, rfl, hC, _, _, _, _, _, _, _, _, _, _, _⟩ := hP.open_
 have S := St.refl w0
 refine a0a Tryz.func50 rfl Tryz.ntmps50 rfl ?_
 refine wO0 rfl ⟨⟩ (j0a S (by conv => lhs; whnf) rfl ?_)
 intro g1 w1 S1 X1 G1
 refine lC0 rfl ⟨⟩ (wL (fun μk D ε w => D = [] ∧ ∃ k : Nat, (k + μk = (p.cells.length)) ∧ (u1a (p.cells) k (fun x => r5b p x)) ∧ (r3a p.cells k (fun a b => a.name ≠ b.name)) ∧ St [] w0 w [(some g1, 27, [.slice Ac nc cc, .slice Am nm cm, .slice Al nl cl, .slice At nt ct])] ∧ Sl ε [(1, .pointer (some ⟨g1, 0, none⟩)), (3, .int .i64 k)]) (μ := (p.cells.length)) ⟨rfl, 0, by omega, u1a.zero, r3a.zero, S1, rfl⟩ ?_)
 rintro μk D ε w ⟨rfl, k, _, hs, hp, S, eZ⟩
 refine wK eZ (wB S.k [.o 0] rfl ⟨rfl,⟨⟩⟩ (fun h10 => ?_) fun h10 => ?_)
 ·obtain ⟨x, b16, p16, _, hxx, hA16, _, hl16, hc16, hr16⟩ := RdS.get (hC) (k) (by omega)
  obtain ⟨rfl, _, _, _, _⟩ := Z2a.open_ hr16
  refine lO (S.k.a hc16) [.o 0,.x b16 p16,.v 0] rfl ⟨⟨rfl,hl16⟩,⟨hA16,by omega⟩,rfl,⟨⟩⟩ (n0a S U9b rfl rfl ?_)
  intro g4 w4 S4 X4 G4
  refine e0a (kk := 0) (vs := [_, _, _, _, _, _]) S4 r9b rfl rfl rfl rfl rfl rfl rfl ?_
  intro w4_6 S4_6 X4_6
  dsimp only [k0a, List.set] at S4_6
  refine lC0 rfl ⟨⟩ (D0a b0a [0, 1, 2, 3, 4, 5, 6, 7, 8, 9, 10, 11, 12, 13, 14, 15, 16, 17, 18, 19, 20, 21, 22, 23, 24, 25, 26, 27, 28, 29, 30, 31, 32, 33, 34, 35, 36, 37, 38, 39, 40, 41, 42, 43, 44, 45, 46, 47, 48] [] [] (by kernel_rfl) rfl (Cl _ _ _ _) (Cl.start S4_6) ?_)
  refine qO S4_6.q [.o 0] rfl ⟨rfl,⟨⟩⟩ (W1a T5b rfl rfl (fun w1 S1 X1 => Q8a _ _ (hN.cells x (c0a hxx))) (fun h20 => ?_) fun h20 => ?_)
  ·refine qB S4_6.q [.o 0] rfl ⟨rfl,⟨⟩⟩ (fun h25 => ?_) fun h25 => ?_
   ·refine qD rfl ⟨⟩ ?_
    rintro wR5 ⟨SR5, XR5⟩
    refine lT rfl ⟨⟩ rfl ⟨⟨_, rfl, iff_of_false (by omega) (fun h => ?_)⟩, SR5.fin⟩
    have h1 := h.1 x (c0a hxx)
    (have q1 := h1.w; have q2 := h1.init; have q3 := h1.thread; have q4 := h1.mod; unfold t2a at q4; omega)
   refine qB S4_6.q [.o 0] rfl ⟨rfl,⟨⟩⟩ (fun h30 => ?_) fun h30 => ?_
   ·refine qD rfl ⟨⟩ ?_
    rintro wR5 ⟨SR5, XR5⟩
    refine lT rfl ⟨⟩ rfl ⟨⟨_, rfl, iff_of_false (by omega) (fun h => ?_)⟩, SR5.fin⟩
    have h1 := h.1 x (c0a hxx)
    (have q1 := h1.w; have q2 := h1.init; have q3 := h1.thread; have q4 := h1.mod; unfold t2a at q4; omega)
   refine qB S4_6.q [.o 0] rfl ⟨rfl,⟨⟩⟩ (fun h35 => ?_) fun h35 => ?_
   ·refine qD rfl ⟨⟩ ?_
    rintro wR5 ⟨SR5, XR5⟩
    refine lT rfl ⟨⟩ rfl ⟨⟨_, rfl, iff_of_false (by omega) (fun h => ?_)⟩, SR5.fin⟩
    have h1 := h.1 x (c0a hxx)
    (have q1 := h1.w; have q2 := h1.init; have q3 := h1.thread; have q4 := h1.mod; unfold t2a at q4; omega)
   refine qO S4_6.q [.o 0,.o 0] rfl ⟨rfl,rfl,⟨⟩⟩ (H2a o3c rfl rfl (fun w1 S1 X1 => p6b _ _ (by omega) (by omega)) ?_)
   refine qB0 rfl ⟨⟩ (fun h43 => ?_) fun h43 => ?_
   ·refine qD rfl ⟨⟩ ?_
    rintro wR5 ⟨SR5, XR5⟩
    refine lT rfl ⟨⟩ rfl ⟨⟨_, rfl, iff_of_false (by omega) (fun h => ?_)⟩, SR5.fin⟩
    have h1 := h.1 x (c0a hxx)
    (have q1 := h1.w; have q2 := h1.init; have q3 := h1.thread; have q4 := h1.mod; unfold t2a at q4; omega)
   refine qB S4_6.q [.o 0] rfl ⟨rfl,⟨⟩⟩ (fun h48 => ?_) fun h48 => ?_
   ·refine qD rfl ⟨⟩ ?_
    rintro wR5 ⟨SR5, XR5⟩
    refine lT rfl ⟨⟩ rfl ⟨⟨_, rfl, iff_of_false (by omega) (fun h => ?_)⟩, SR5.fin⟩
    have h1 := h.1 x (c0a hxx)
    (have q1 := h1.w; have q2 := h1.init; have q3 := h1.thread; have q4 := h1.mod; unfold t2a at q4; omega)
   refine qB S4_6.q [.o 0,.o 1] rfl ⟨rfl,rfl,⟨⟩⟩ (fun h56 => ?_) fun h56 => ?_
   ·refine qD rfl ⟨⟩ ?_
    rintro wR5 ⟨SR5, XR5⟩
    refine lT rfl ⟨⟩ rfl ⟨⟨_, rfl, iff_of_false (by omega) (fun h => ?_)⟩, SR5.fin⟩
    have h1 := h.1 x (c0a hxx)
    (have q1 := h1.w; have q2 := h1.init; have q3 := h1.thread; have q4 := h1.mod; unfold t2a at q4; omega)
   refine qO S4_6.q [.o 0,.o 1] rfl ⟨rfl,rfl,⟨⟩⟩ (W1a r5a rfl rfl (fun w1 S1 X1 => G8a _ _ _) (fun h64 => ?_) fun h64 => ?_)
   ·refine qD rfl ⟨⟩ ?_
    rintro wR5 ⟨SR5, XR5⟩
    refine lC0 rfl ⟨⟩ (wL (fun μj D ε w => D = [] ∧ ∃ j : Nat, (j + μj = (k)) ∧ (u1a (p.cells) j (fun y => y.name ≠ x.name)) ∧ St [] w0 w [(some g4, 101, [.string x.name, .int .i64 x.w, .int .i64 x.init, .int .i64 x.thread, .bool x.ghost, .int .i64 x.module_]), (some g1, 27, [.slice Ac nc cc, .slice Am nm cm, .slice Al nl cl, .slice At nt ct])] ∧ Sl ε [(1, .pointer (some ⟨g1, 0, none⟩)), (3, .int .i64 k), (4, .pointer (some ⟨g4, 0, none⟩)), (5, .int .i64 j)]) (μ := (k)) ⟨rfl, 0, by omega, u1a.zero, SR5, rfl⟩ ?_)
    rintro μj D ε w ⟨rfl, j, _, hn, S, eZ⟩
    refine wK eZ (wB0 rfl ⟨⟩ (fun h69 => ?_) fun h69 => ?_)
    ·refine lC0 rfl ⟨⟩ (D0a b0a [0, 1, 2, 3, 4, 5, 6, 7, 8] [] [] (by kernel_rfl) rfl (Cl _ _ _ _) (Cl.start S) ?_)
     obtain ⟨y, b75, p75, _, hxy, hA75, _, _, hc75, hr75⟩ := RdS.get (hC) (j) (by omega)
     obtain ⟨rfl, _, _, _, _⟩ := Z2a.open_ hr75
     refine qOn 8 (S.q.a hc75) [.o 1,.x b75 p75,.f 0 0,.o 0] rfl ⟨rfl,rfl,⟨hA75,by omega⟩,rfl,⟨⟩⟩ (W9b rfl rfl rfl (fun h80 => ?_) fun h80 => ?_)
     ·refine qD rfl ⟨⟩ ?_
      rintro wR10 ⟨SR10, XR10⟩
      refine lT rfl ⟨⟩ rfl ⟨⟨_, rfl, iff_of_false (by omega) (fun h => ?_)⟩, SR10.fin⟩
      have h1 := h.1 x (c0a hxx)
      exact D7a h.2 hxy hxx (by omega) h80
     refine qD rfl ⟨⟩ ?_
     rintro wR10 ⟨SR10, XR10⟩
     refine lP0 rfl ⟨by omega,⟨⟩⟩ ⟨μj - 1, by omega, rfl, (j + 1), (by omega), (hn.succ hxy (h80)), SR10, rfl⟩
    refine lP0 rfl ⟨by omega,⟨⟩⟩ ?_
    refine ⟨μk - 1, by omega, rfl, (k + 1), (by omega), (hs.succ hxx (⟨a2a h20, ⟨by omega, by omega⟩, ⟨by omega, by omega⟩, ⟨by omega, by omega⟩, by have := of_decide_eq_true h64; unfold t2a; omega⟩)), (hp.succ hxx (j := j) (by omega) hn), S.tail, rfl⟩
   refine qD rfl ⟨⟩ ?_
   rintro wR5 ⟨SR5, XR5⟩
   refine lT rfl ⟨⟩ rfl ⟨⟨_, rfl, iff_of_false (by omega) (fun h => ?_)⟩, SR5.fin⟩
   have h1 := h.1 x (c0a hxx)
   (have q1 := h1.w; have q2 := h1.init; have q3 := h1.thread; have q4 := h1.mod; unfold t2a at q4; (have q5 := of_decide_eq_false h64; omega))
  refine qD rfl ⟨⟩ ?_
  rintro wR5 ⟨SR5, XR5⟩
  refine lT rfl ⟨⟩ rfl ⟨⟨_, rfl, iff_of_false (by omega) (fun h => ?_)⟩, SR5.fin⟩
  have h1 := h.1 x (c0a hxx)
  exact G1a h20 h1.name
 exact lT rfl ⟨⟩ rfl ⟨⟨_, rfl, iff_of_true (by omega) ⟨hs.all (by omega), hp.all (by omega)⟩⟩, S.fin⟩
def z3c (p : f0a) : Prop := (∀ m ∈ p.modules, z2c p m) ∧ p.modules.Pairwise (fun a b => a.name ≠ b.name)
theorem T2b (p : f0a) (M : List Nat) (w0 : World) (cs : List Value) (hP : j1a M w0 p cs) (hN : X2b p) (hM : ∀ g ∈ M, g < w0.heap.size) :
 M0a Tryz.prog 51 #[.agg cs.toArray] w0 fun v w' => (∃ a, v = .int .i64 a ∧ (a = 0 ↔ z3c p)) ∧ Below w0.heap.size w0 w' := by
 obtain ⟨Ac, nc, cc, Am, nm, cm, Al, nl, cl, At, nt, ct, rfl, hC, hMo, _, _, _, _, _, _, _, _, _, _⟩ := hP.open_
 have S := St.refl w0
 refine a0a Tryz.func51 rfl Tryz.ntmps51 rfl ?_
 refine wO0 rfl ⟨⟩ (j0a S (by conv => lhs; whnf) rfl ?_)
 intro g1 w1 S1 X1 G1
 refine lC0 rfl ⟨⟩ (wL (fun μk D ε w => D = [] ∧ ∃ k : Nat, (k + μk = (p.modules.length)) ∧ (u1a (p.modules) k (fun x => z2c p x)) ∧ (r3a p.modules k (fun a b => a.name ≠ b.name)) ∧ St [] w0 w [(some g1, 27, [.slice Ac nc cc, .slice Am nm cm, .slice Al nl cl, .slice At nt ct])] ∧ Sl ε [(1, .pointer (some ⟨g1, 0, none⟩)), (3, .int .i64 k)]) (μ := (p.modules.length)) ⟨rfl, 0, by omega, u1a.zero, r3a.zero, S1, rfl⟩ ?_)
 rintro μk D ε w ⟨rfl, k, _, hs, hp, S, eZ⟩
 refine wK eZ (wB S.k [.o 0] rfl ⟨rfl,⟨⟩⟩ (fun h11 => ?_) fun h11 => ?_)
 ·obtain ⟨x, b17, p17, _, hxx, hA17, _, hl17, hc17, hr17⟩ := RdS.get (hMo) (k) (by omega)
  obtain ⟨Ar17, nr17, cr17, Ag17, ng17, cg17, Af17, nf17, cf17, rfl, hR17, hG17, hF17, _, _⟩ := v1a.open_ hr17
  refine lO (S.k.a hc17) [.o 0,.x b17 p17,.v 0] rfl ⟨⟨rfl,hl17⟩,⟨hA17,by omega⟩,rfl,⟨⟩⟩ (n0a S r8b rfl rfl ?_)
  intro g4 w4 S4 X4 G4
  refine e0a (kk := 0) (vs := [_, _, _, _, _, _, _, _, _, _, _]) S4 b9b rfl rfl rfl rfl rfl rfl rfl ?_
  intro w4_6 S4_6 X4_6
  dsimp only [k0a, List.set] at S4_6
  refine lO S4_6.k [.o 0] rfl ⟨rfl,⟨⟩⟩ (y0a S4_6 T5b rfl rfl (Q8a _ _ (hN.mods x (c0a hxx)).1) (fun h21 w21 S21 X21 => ?_) (fun h21 w21 S21 X21 => ?_))
  ·refine lO S21.k [.o 0] rfl ⟨rfl,⟨⟩⟩ (y0a S21 T5b rfl rfl (Q8a _ _ (hN.mods x (c0a hxx)).2) (fun h26 w26 S26 X26 => ?_) (fun h26 w26 S26 X26 => ?_))
   ·refine lC0 rfl ⟨⟩ (wL (fun μj D ε w => D = [] ∧ ∃ j : Nat, (j + μj = (k)) ∧ (u1a (p.modules) j (fun y => y.name ≠ x.name)) ∧ St [] w0 w [(some g4, 111, [.string x.name, .string x.owner, .int .i64 x.rely.op, .int .i64 x.rely.w, .int .i64 x.rely.n, .slice Ar17 nr17 cr17, .int .i64 x.guar.op, .int .i64 x.guar.w, .int .i64 x.guar.n, .slice Ag17 ng17 cg17, .slice Af17 nf17 cf17]), (some g1, 27, [.slice Ac nc cc, .slice Am nm cm, .slice Al nl cl, .slice At nt ct])] ∧ Sl ε [(1, .pointer (some ⟨g1, 0, none⟩)), (3, .int .i64 k), (4, .pointer (some ⟨g4, 0, none⟩)), (5, .int .i64 j)]) (μ := (k)) ⟨rfl, 0, by omega, u1a.zero, S26, rfl⟩ ?_)
    rintro μj D ε w ⟨rfl, j, _, hn, S, eZ⟩
    refine wK eZ (wB0 rfl ⟨⟩ (fun h31 => ?_) fun h31 => ?_)
    ·refine lC0 rfl ⟨⟩ (D0a b0a [0, 1, 2, 3, 4, 5, 6, 7, 8] [] [] (by kernel_rfl) rfl (Cl _ _ _ _) (Cl.start S) ?_)
     obtain ⟨y, b37, p37, _, hxy, hA37, _, _, hc37, hr37⟩ := RdS.get (hMo) (j) (by omega)
     obtain ⟨_, _, _, _, _, _, _, _, _, rfl, _, _, _, _, _⟩ := v1a.open_ hr37
     refine qOn 8 (S.q.a hc37) [.o 1,.x b37 p37,.f 0 0,.o 0] rfl ⟨rfl,rfl,⟨hA37,by omega⟩,rfl,⟨⟩⟩ (W9b rfl rfl rfl (fun h42 => ?_) fun h42 => ?_)
     ·refine qD rfl ⟨⟩ ?_
      rintro wR10 ⟨SR10, XR10⟩
      refine lT rfl ⟨⟩ rfl ⟨⟨_, rfl, iff_of_false (by omega) (fun h => ?_)⟩, SR10.fin⟩
      have h1 := h.1 x (c0a hxx)
      exact D7a h.2 hxy hxx (by omega) h42
     refine qD rfl ⟨⟩ ?_
     rintro wR10 ⟨SR10, XR10⟩
     refine lP0 rfl ⟨by omega,⟨⟩⟩ ⟨μj - 1, by omega, rfl, (j + 1), (by omega), (hn.succ hxy (h42)), SR10, rfl⟩
    refine lCn 5 S.k [] rfl ⟨⟩ (wX (fun D ε w => D = [] ∧ (x.rely.absent ∨ Z6a p.cells x.rely true (-1)) ∧ (Z6a p.cells x.guar true (-1)) ∧ St [] w0 w [(some g4, 111, [.string x.name, .string x.owner, .int .i64 x.rely.op, .int .i64 x.rely.w, .int .i64 x.rely.n, .slice Ar17 nr17 cr17, .int .i64 x.guar.op, .int .i64 x.guar.w, .int .i64 x.guar.n, .slice Ag17 ng17 cg17, .slice Af17 nf17 cf17]), (some g1, 27, [.slice Ac nc cc, .slice Am nm cm, .slice Al nl cl, .slice At nt ct])] ∧ Sl ε [(1, .pointer (some ⟨g1, 0, none⟩)), (3, .int .i64 k), (4, .pointer (some ⟨g4, 0, none⟩))]) ?_ ?_)
    ·refine wO S.k [.o 0] rfl ⟨rfl,⟨⟩⟩ (y0a S m7c rfl rfl (Z3b _ M _ _ (RdE.keep (S.keep0 M) _ _ hR17)) (fun h45 w45 S45 X45 => ?_) (fun h45 w45 S45 X45 => ?_))
     ·refine lO S45.k [.w 1,.o 0] rfl ⟨rfl,⟨rfl,rfl⟩,⟨⟩⟩ ?_
      refine y0a S45 o3b rfl rfl (H4a p _ M _ _ _ true (-1) (hP.keep (S45.keep0 M)) (RdE.keep (S45.keep0 M) _ _ hG17) (fun g hg => by have := hM g hg; have := S45.size; omega)) (fun h58 w58 S58 X58 => ?_) (fun h58 w58 S58 X58 => ?_)
      ·refine lP0 rfl ⟨⟩ ⟨rfl, ?_, (a2a h58), S58, rfl⟩
       exact .inl (a2a h45)
      refine lT rfl ⟨⟩ rfl ⟨⟨_, rfl, iff_of_false (by omega) (fun h => ?_)⟩, S58.fin⟩
      have h1 := h.1 x (c0a hxx)
      exact G1a h58 h1.guar
     refine lO S45.k [.w 1,.o 0] rfl ⟨rfl,⟨rfl,rfl⟩,⟨⟩⟩ ?_
     refine y0a S45 o3b rfl rfl (H4a p _ M _ _ _ true (-1) (hP.keep (S45.keep0 M)) (RdE.keep (S45.keep0 M) _ _ hR17) (fun g hg => by have := hM g hg; have := S45.size; omega)) (fun h51 w51 S51 X51 => ?_) (fun h51 w51 S51 X51 => ?_)
     ·refine lO S51.k [.w 1,.o 0] rfl ⟨rfl,⟨rfl,rfl⟩,⟨⟩⟩ ?_
      refine y0a S51 o3b rfl rfl (H4a p _ M _ _ _ true (-1) (hP.keep (S51.keep0 M)) (RdE.keep (S51.keep0 M) _ _ hG17) (fun g hg => by have := hM g hg; have := S51.size; omega)) (fun h58 w58 S58 X58 => ?_) (fun h58 w58 S58 X58 => ?_)
      ·refine lP0 rfl ⟨⟩ ⟨rfl, ?_, (a2a h58), S58, rfl⟩
       exact .inr (a2a h51)
      refine lT rfl ⟨⟩ rfl ⟨⟨_, rfl, iff_of_false (by omega) (fun h => ?_)⟩, S58.fin⟩
      have h1 := h.1 x (c0a hxx)
      exact G1a h58 h1.guar
     refine lT rfl ⟨⟩ rfl ⟨⟨_, rfl, iff_of_false (by omega) (fun h => ?_)⟩, S51.fin⟩
     have h1 := h.1 x (c0a hxx)
     exact h1.rely.elim (G1a h45) (G1a h51)
    rintro D ε w ⟨rfl, hrl, hgd, S, eZ⟩
    refine wK eZ (wC0 rfl ⟨⟩ ?_)
    refine wL (fun μi D ε w => D = [] ∧ ∃ i : Nat, (i + μi = (x.frame.length)) ∧ (u1a (x.frame) i (fun z => t2a z p.cells.length ∧ y1a p.cells z = -1)) ∧ St [] w0 w [(some g4, 111, [.string x.name, .string x.owner, .int .i64 x.rely.op, .int .i64 x.rely.w, .int .i64 x.rely.n, .slice Ar17 nr17 cr17, .int .i64 x.guar.op, .int .i64 x.guar.w, .int .i64 x.guar.n, .slice Ag17 ng17 cg17, .slice Af17 nf17 cf17]), (some g1, 27, [.slice Ac nc cc, .slice Am nm cm, .slice Al nl cl, .slice At nt ct])] ∧ Sl ε [(1, .pointer (some ⟨g1, 0, none⟩)), (3, .int .i64 k), (4, .pointer (some ⟨g4, 0, none⟩)), (6, .int .i64 i)]) (μ := (x.frame.length)) ⟨rfl, 0, by omega, u1a.zero, S, rfl⟩ ?_
    rintro μi D ε w ⟨rfl, i, _, hf, S, eZ⟩
    refine wK eZ (wB S.k [.o 0] rfl ⟨rfl,⟨⟩⟩ (fun h65 => ?_) fun h65 => ?_)
    ·refine lC0 rfl ⟨⟩ (D0a b0a [0, 1, 2, 3, 4, 5, 6, 7, 8, 9, 10, 11, 12, 13, 14, 15, 16, 17, 18, 19, 20, 21, 22] [] [] (by kernel_rfl) rfl (Cl _ _ _ _) (Cl.start S) ?_)
     obtain ⟨z, b71, p71, _, hxz, hA71, _, _, hc71, hr71⟩ := RdS.get (hF17) (i) (by omega)
     obtain ⟨rfl, _⟩ := id hr71
     refine qO (S.q.a hc71) [.o 0,.x b71 p71,.f 0 0,.o 1] rfl ⟨rfl,rfl,⟨hA71,by omega⟩,rfl,⟨⟩⟩ (W1a r5a rfl rfl (fun w1 S1 X1 => G8a _ _ _) (fun h76 => ?_) fun h76 => ?_)
     ·obtain ⟨_, b84, p84, _, hx84, hA84, _, _, hc84, hr84⟩ := RdS.get (hF17) (i) (by omega)
      obtain rfl := Option.some.inj (hxz.symm.trans hx84)
      obtain ⟨rfl, _⟩ := id hr84
      have hin := of_decide_eq_true h76
      obtain ⟨_, b86, p86, _, hxc, hA86, _, _, hc86, hr86⟩ := RdS.get (hC) (z.toNat) (by omega)
      obtain ⟨rfl, _, _, _, _⟩ := Z2a.open_ hr86
      refine qB ((S.q.a hc86).a hc84) [.o 1,.o 0,.x b84 p84,.f 0 0,.x b86 p86,.f 1 3] rfl ⟨rfl,⟨hA86,by omega⟩,rfl,⟨hA84,by omega⟩,rfl,rfl,⟨⟩⟩ (fun h89 => ?_) fun h89 => ?_
      ·refine qD rfl ⟨⟩ ?_
       rintro wR17 ⟨SR17, XR17⟩
       refine lT rfl ⟨⟩ rfl ⟨⟨_, rfl, iff_of_false (by omega) (fun h => ?_)⟩, SR17.fin⟩
       have h1 := h.1 x (c0a hxx)
       (have q := (h1.frame z (c0a hxz)).2; rw [f1a hxc] at q; omega)
      refine qD rfl ⟨⟩ ?_
      rintro wR17 ⟨SR17, XR17⟩
      refine lP0 rfl ⟨by omega,⟨⟩⟩ ?_
      refine ⟨μi - 1, by omega, rfl, (i + 1), (by omega), (hf.succ hxz (⟨by unfold t2a; omega, by rw [f1a hxc]; omega⟩)), SR17, rfl⟩
     refine qD rfl ⟨⟩ ?_
     rintro wR17 ⟨SR17, XR17⟩
     refine lT rfl ⟨⟩ rfl ⟨⟨_, rfl, iff_of_false (by omega) (fun h => ?_)⟩, SR17.fin⟩
     have h1 := h.1 x (c0a hxx)
     (have q := h1.frame z (c0a hxz); unfold t2a at q; have q5 := of_decide_eq_false h76; omega)
    refine lO S.k [.o 0] rfl ⟨rfl,⟨⟩⟩ (y0a S H3c rfl rfl (C3b M _ _ _ (hF17.keep (S.keep0 M))) (fun h93 w93 S93 X93 => ?_) (fun h93 w93 S93 X93 => ?_))
    ·refine lP0 rfl ⟨by omega,⟨⟩⟩ ⟨μk - 1, by omega, rfl, (k + 1), (by omega), ?_, (hp.succ hxx (j := j) (by omega) hn), S93.tail, rfl⟩
     exact hs.succ hxx ⟨a2a h21, a2a h26, hrl, hgd, hf.all (by omega), a2a h93⟩
    refine lT rfl ⟨⟩ rfl ⟨⟨_, rfl, iff_of_false (by omega) (fun h => ?_)⟩, S93.fin⟩
    have h1 := h.1 x (c0a hxx)
    exact G1a h93 h1.up
   refine lT rfl ⟨⟩ rfl ⟨⟨_, rfl, iff_of_false (by omega) (fun h => ?_)⟩, S26.fin⟩
   have h1 := h.1 x (c0a hxx)
   exact G1a h26 h1.owner
  refine lT rfl ⟨⟩ rfl ⟨⟨_, rfl, iff_of_false (by omega) (fun h => ?_)⟩, S21.fin⟩
  have h1 := h.1 x (c0a hxx)
  exact G1a h21 h1.name
 exact lT rfl ⟨⟩ rfl ⟨⟨_, rfl, iff_of_true (by omega) ⟨hs.all (by omega), hp.all (by omega)⟩⟩, S.fin⟩
def i8b (p : f0a) : Prop := (∀ l ∈ p.locks, N5b p l) ∧ p.locks.Pairwise (fun a b => a.cell ≠ b.cell)
theorem J6b (p : f0a) (M : List Nat) (w0 : World) (cs : List Value) (hP : j1a M w0 p cs) (hM : ∀ g ∈ M, g < w0.heap.size) :
 M0a Tryz.prog 52 #[.agg cs.toArray] w0 fun v w' => (∃ a, v = .int .i64 a ∧ (a = 0 ↔ i8b p)) ∧ Below w0.heap.size w0 w' := by
 obtain ⟨Ac, nc, cc, Am, nm, cm, Al, nl, cl, At, nt, ct, rfl, hC, _, hLk, _, _, _, _, _, _, _, _, _⟩ := hP.open_
 have S := St.refl w0
 refine a0a Tryz.func52 rfl Tryz.ntmps52 rfl ?_
 refine wO0 rfl ⟨⟩ (j0a S (by conv => lhs; whnf) rfl ?_)
 intro g1 w1 S1 X1 G1
 refine lC0 rfl ⟨⟩ (wL (fun μk D ε w => D = [] ∧ ∃ k : Nat, (k + μk = (p.locks.length)) ∧ (u1a (p.locks) k (fun x => N5b p x)) ∧ (r3a p.locks k (fun a b => a.cell ≠ b.cell)) ∧ St [] w0 w [(some g1, 27, [.slice Ac nc cc, .slice Am nm cm, .slice Al nl cl, .slice At nt ct])] ∧ Sl ε [(1, .pointer (some ⟨g1, 0, none⟩)), (3, .int .i64 k)]) (μ := (p.locks.length)) ⟨rfl, 0, by omega, u1a.zero, r3a.zero, S1, rfl⟩ ?_)
 rintro μk D ε w ⟨rfl, k, _, hs, hp, S, eZ⟩
 refine wK eZ (wB S.k [.o 0] rfl ⟨rfl,⟨⟩⟩ (fun h10 => ?_) fun h10 => ?_)
 ·obtain ⟨x, b16, p16, _, hxx, hA16, _, hl16, hc16, hr16⟩ := RdS.get (hLk) (k) (by omega)
  obtain ⟨Ag16, ng16, cg16, rfl, _, _, hE16⟩ := G4a.open_ hr16
  refine lO (S.k.a hc16) [.o 0,.x b16 p16,.v 0] rfl ⟨⟨rfl,hl16⟩,⟨hA16,by omega⟩,rfl,⟨⟩⟩ (n0a S h8b rfl rfl ?_)
  intro g4 w4 S4 X4 G4
  refine e0a (kk := 0) (vs := [_, _, _, _, _, _]) S4 V7b rfl rfl rfl rfl rfl rfl rfl ?_
  intro w4_6 S4_6 X4_6
  dsimp only [k0a, List.set] at S4_6
  refine lO S4_6.k [.o 0,.o 1] rfl ⟨rfl,rfl,⟨⟩⟩ (y0a S4_6 r5a rfl rfl (G8a _ _ _) (fun h23 w23 S23 X23 => ?_) (fun h23 w23 S23 X23 => ?_))
  ·have hin := of_decide_eq_true h23
   obtain ⟨c, b30, p30, _, hxc, hA30, _, _, hc30, hr30⟩ := RdS.get (hC) (x.cell.toNat) (by omega)
   obtain ⟨rfl, _, _, _, _⟩ := Z2a.open_ hr30
   refine lB (S23.k.a hc30) [.o 1,.o 0,.x b30 p30,.f 0 3] rfl ⟨rfl,⟨hA30,by omega⟩,rfl,rfl,⟨⟩⟩ (fun h33 => ?_) fun h33 => ?_
   ·refine lT rfl ⟨⟩ rfl ⟨⟨_, rfl, iff_of_false (by omega) (fun h => ?_)⟩, S23.fin⟩
    have h1 := h.1 x (c0a hxx)
    (have q := h1.cell; rw [f1a hxc, A5a (by omega) hxc, C2a hxc] at q; omega)
   refine lO S23.k [.o 1,.o 0] rfl ⟨rfl,rfl,⟨⟩⟩ (x0a p5a.slT rfl (by assumption) rfl (by omega) (by omega) rfl ?_)
   refine lO0 rfl ⟨⟩ (s0a C0a rfl (by exact S23.old (hc30 _ _ rfl)) rfl ?_)
   refine lB0 rfl ⟨⟩ (fun h43 => ?_) fun h43 => ?_
   ·refine lT rfl ⟨⟩ rfl ⟨⟨_, rfl, iff_of_false (by omega) (fun h => ?_)⟩, S23.fin⟩
    have h1 := h.1 x (c0a hxx)
    (have q := h1.cell; rw [f1a hxc, A5a (by omega) hxc, C2a hxc] at q; omega)
   refine lO S23.k [.o 1,.o 0] rfl ⟨rfl,rfl,⟨⟩⟩ (x0a p5a.slT rfl (by assumption) rfl (by omega) (by omega) rfl ?_)
   refine lO0 rfl ⟨⟩ ?_
   cases hb52 : c.ghost
   ·refine s0a B2a rfl (by exact (S23.old (hc30 _ _ rfl)).trans (congrArg (fun b => some (Value.bool b)) hb52)) rfl ?_
    refine lO S23.k [.o 0,.o 1] rfl ⟨rfl,rfl,⟨⟩⟩ (y0a S23 r5a rfl rfl (G8a _ _ _) (fun h60 w60 S60 X60 => ?_) (fun h60 w60 S60 X60 => ?_))
    ·refine lC0 rfl ⟨⟩ (wL (fun μj D ε w => D = [] ∧ ∃ j : Nat, (j + μj = (k)) ∧ (u1a (p.locks) j (fun y => y.cell ≠ x.cell)) ∧ St [] w0 w [(some g4, 115, [.int .i64 x.cell, .int .i64 x.inv.op, .int .i64 x.inv.w, .int .i64 x.inv.n, .slice Ag16 ng16 cg16, .int .i64 x.module_]), (some g1, 27, [.slice Ac nc cc, .slice Am nm cm, .slice Al nl cl, .slice At nt ct])] ∧ Sl ε [(1, .pointer (some ⟨g1, 0, none⟩)), (3, .int .i64 k), (4, .pointer (some ⟨g4, 0, none⟩)), (5, .int .i64 j)]) (μ := (k)) ⟨rfl, 0, by omega, u1a.zero, S60, rfl⟩ ?_)
     rintro μj D ε w ⟨rfl, j, _, hn, S, eZ⟩
     refine wK eZ (wB0 rfl ⟨⟩ (fun h65 => ?_) fun h65 => ?_)
     ·refine lC0 rfl ⟨⟩ (D0a b0a [0, 1, 2, 3, 4, 5, 6, 7, 8] [] [] (by kernel_rfl) rfl (Cl _ _ _ _) (Cl.start S) ?_)
      obtain ⟨y, b71, p71, _, hxy, hA71, _, _, hc71, hr71⟩ := RdS.get (hLk) (j) (by omega)
      obtain ⟨_, _, _, rfl, _, _, _⟩ := G4a.open_ hr71
      refine qB (S.q.a hc71) [.o 1,.x b71 p71,.f 0 0,.o 0] rfl ⟨rfl,rfl,⟨hA71,by omega⟩,rfl,⟨⟩⟩ (fun h76 => ?_) fun h76 => ?_
      ·refine qD rfl ⟨⟩ ?_
       rintro wR10 ⟨SR10, XR10⟩
       refine lT rfl ⟨⟩ rfl ⟨⟨_, rfl, iff_of_false (by omega) (fun h => ?_)⟩, SR10.fin⟩
       have h1 := h.1 x (c0a hxx)
       exact D7a h.2 hxy hxx (by omega) h76
      refine qD rfl ⟨⟩ ?_
      rintro wR10 ⟨SR10, XR10⟩
      refine lP0 rfl ⟨by omega,⟨⟩⟩ ⟨μj - 1, by omega, rfl, (j + 1), (by omega), (hn.succ hxy (h76)), SR10, rfl⟩
     refine lO S.k [.w 1,.o 0] rfl ⟨rfl,⟨rfl,rfl⟩,⟨⟩⟩ ?_
     refine y0a S o3b rfl rfl (H4a p _ M _ _ _ false (-1) (hP.keep (S.keep0 M)) (RdE.keep (S.keep0 M) _ _ hE16) (fun g hg => by have := hM g hg; have := S.size; omega)) (fun h80 w80 S80 X80 => ?_) (fun h80 w80 S80 X80 => ?_)
     ·refine lP0 rfl ⟨by omega,⟨⟩⟩ ?_
      refine ⟨μk - 1, by omega, rfl, (k + 1), (by omega), (hs.succ hxx (⟨⟨by unfold t2a; omega, by rw [f1a hxc]; omega, by rw [A5a (by omega) hxc]; omega, by rw [C2a hxc]; exact hb52⟩, by have := of_decide_eq_true h60; unfold t2a; omega, a2a h80⟩)), (hp.succ hxx (j := j) (by omega) hn), S80.tail, rfl⟩
     refine lT rfl ⟨⟩ rfl ⟨⟨_, rfl, iff_of_false (by omega) (fun h => ?_)⟩, S80.fin⟩
     have h1 := h.1 x (c0a hxx)
     exact G1a h80 h1.inv
    refine lT rfl ⟨⟩ rfl ⟨⟨_, rfl, iff_of_false (by omega) (fun h => ?_)⟩, S60.fin⟩
    have h1 := h.1 x (c0a hxx)
    (have q := h1.mod; unfold t2a at q; have q5 := of_decide_eq_false h60; omega)
   refine s0a B2a rfl (by exact (S23.old (hc30 _ _ rfl)).trans (congrArg (fun b => some (Value.bool b)) hb52)) rfl ?_
   refine lT rfl ⟨⟩ rfl ⟨⟨_, rfl, iff_of_false (by omega) (fun h => ?_)⟩, S23.fin⟩
   have h1 := h.1 x (c0a hxx)
   (have q := h1.cell; rw [f1a hxc, A5a (by omega) hxc, C2a hxc] at q; (rw [hb52] at q; cases q.2.2.2))
  refine lT rfl ⟨⟩ rfl ⟨⟨_, rfl, iff_of_false (by omega) (fun h => ?_)⟩, S23.fin⟩
  have h1 := h.1 x (c0a hxx)
  (have q := h1.cell; unfold t2a at q; have q5 := of_decide_eq_false h23; omega)
 exact lT rfl ⟨⟩ rfl ⟨⟨_, rfl, iff_of_true (by omega) ⟨hs.all (by omega), hp.all (by omega)⟩⟩, S.fin⟩
theorem d8a {P : Program} {fn : Func} {e : Env} {w : World} {a t n g : Nat} {cs : List Value} (h : fn.results = #[.cell a t]) (hM : t7a P t n) (ha : e a = .pointer (some ⟨g, 0, none⟩)) (hc : k1a w g 0 cs) (hn : cs.length = n)
 {tmps : Array Value} (he : P0a { tmps, defers := [] } = e) : (results fn tmps).run P w = .ok (.agg cs.toArray) w := by
 subst he; subst hn
 simp only [P0a, Array.getD_eq_getD_getElem?] at ha
 have := run_loadCells_list (P := P) w ⟨g, 0, none⟩ cs (fun j v hj => by rw [Addr.add_lit]; exact hc j v hj)
 simp [results, h, asAddr, ha, hM w, this]
theorem r1a {P : Program} {fn : Func} {e : Env} {w : World} {R : Value → World → Prop} {a t n g : Nat} {cs : List Value} (h : fn.results = #[.cell a t]) (hM : t7a P t n) (ha : e a = .pointer (some ⟨g, 0, none⟩)) (hc : k1a w g 0 cs) (hn : cs.length = n)
 (hR : R (.agg cs.toArray) w) : J3a P fn R [] e w :=
 ⟨rfl, fun _ he => ⟨_, d8a h hM ha hc hn he, hR⟩⟩
theorem k4a {P : Program} {fn : Func} {e : Env} {w : World} {R : Value → World → Prop} {a t n g u : Nat} {cs : List Value} {v : Value} (h : fn.results = #[.cell a t, .tmp u]) (hM : t7a P t n) (ha : e a = .pointer (some ⟨g, 0, none⟩)) (hc : k1a w g 0 cs) (hn : cs.length = n) (hu : e u = v)
 (hR : R (.tuple #[.agg cs.toArray, v]) w) : J3a P fn R [] e w := by
 refine ⟨rfl, fun tmps he => ⟨_, ?_, hR⟩⟩
 subst he; subst hn; subst hu
 simp only [P0a, Array.getD_eq_getD_getElem?] at ha
 have := run_loadCells_list (P := P) w ⟨g, 0, none⟩ cs (fun j v hj => by rw [Addr.add_lit]; exact hc j v hj)
 simp [results, h, asAddr, ha, hM w, this, P0a]
theorem k3a {M : List Nat} {w : World} {op wd n : Int} (h1 : i64 op) (h2 : i64 wd) (h3 : i64 n) : RdE M w ⟨op, wd, n, []⟩ [.int .i64 op, .int .i64 wd, .int .i64 n, .slice none 0 0] := by
 rw [RdE]; exact ⟨none, 0, 0, rfl, h1, h2, h3, rfl, Nat.le_refl _, by unfold maxLen; omega, by omega, fun h => absurd h (by omega)⟩
theorem A5c {M : List Nat} {w : World} {op wd : Int} {a b : E} {ca cb : List Value} {g : Nat} (h1 : i64 op) (h2 : i64 wd) (hg : g ∉ M) (hc : k1a w g 0 (ca ++ cb)) (ha : RdE M w a ca) (hb : RdE M w b cb) :
 RdE M w ⟨op, wd, 0, [a, b]⟩ [.int .i64 op, .int .i64 wd, .int .i64 0, .slice (some ⟨g, 0, none⟩) 2 2] := by
 have la := ha.length
 rw [RdE]
 refine ⟨_, 2, 2, rfl, h1, h2, by unfold i64; simp, rfl, Nat.le_refl _, by unfold maxLen; omega, by omega, fun _ => ⟨g, 0, rfl, hg, fun i hi => ?_⟩⟩
 have hi2 : i < 2 := hi
 rcases (show i = 0 ∨ i = 1 by omega) with rfl | rfl
 ·refine ⟨ca, fun j v hj => ?_, ha⟩
  have hl : j < ca.length := (List.getElem?_eq_some_iff.1 hj).1
  have := hc j v (by rw [List.getElem?_append_left hl]; exact hj)
  simpa using this
 ·refine ⟨cb, fun j v hj => ?_, hb⟩
  have := hc (4 + j) v (by rw [List.getElem?_append_right (by omega)]; simpa [la] using hj)
  simpa using this
theorem E3b.val {p : f0a} {t : Int} {s : t1a} (h : E3b p t s) {k : Nat} {a : F1a} (hx : s.set[k]? = some a) (ho : 0 < k ∨ s.kind ≠ 2) : M4a p.cells a.to (decide (s.kind = 4)) t := by
 obtain ⟨h1, rfl⟩ := List.getElem?_eq_some_iff.1 hx
 exact h.vals k h1 ho
theorem g2b {α : Type} {l l' : List α} {a b : α} {i : Nat} (e : l = a :: l') (hx : l[i]? = some b) (hi : 1 ≤ i) : b ∈ l' := by
 subst e
 obtain ⟨j, rfl⟩ : ∃ j, i = j + 1 := ⟨i - 1, by omega⟩
 exact List.mem_of_getElem? (by simpa using hx)
theorem B4a {α : Type} {l l' : List α} {a b : α} (e : l = a :: l') (hx : l[0]? = some b) : a = b := by subst e; simpa using hx
theorem E9a (n wd : Int) (w0 : World) : M0a Tryz.prog 20 #[.int .i64 n, .int .i64 wd] w0 fun v w' => v = .agg #[.int .i64 1, .int .i64 wd, .int .i64 n, .slice none 0 0] ∧ Below w0.heap.size w0 w' := by
 have S := St.refl w0
 refine a0a Tryz.func20 rfl Tryz.ntmps20 rfl ?_
 refine wO0 rfl ⟨⟩ (n0a S m7a rfl rfl ?_)
 intro g4 w4 S4 X4 G4
 refine lO0 rfl ⟨⟩ (i1a L2b (vs := [(0, .int .i64 _), (1, .int .i64 _), (2, .int .i64 _)]) (cs := [_, _, _, _]) rfl rfl rfl rfl ?_)
 first | refine e0a (kk := 0) (vs := [_, _, _, _]) S4 V5a rfl rfl rfl rfl rfl rfl rfl ?_
 intro w1_3 S1_3 X1_3
 dsimp only [k0a, List.set] at S1_3
 exact lR0 rfl ⟨⟩ (r1a rfl x1a rfl (S1_3.cells 0 rfl) rfl ⟨rfl, S1_3.fin⟩)
theorem M0c (w0 : World) : M0a Tryz.prog 134 #[] w0 fun v w' => v = .agg #[.int .i64 1, .int .i64 1, .int .i64 1, .slice none 0 0] ∧ Below w0.heap.size w0 w' := by
 have S := St.refl w0
 refine a0a Tryz.func134 rfl Tryz.ntmps134 rfl ?_
 refine wO0 rfl ⟨⟩ (n0a S m7a rfl rfl ?_)
 intro g0 w0 S0 X0 G0
 refine lO0 rfl ⟨⟩ (g0a S0 I0b rfl rfl (E9a 1 1 _) ?_)
 intro w1 S1 X1
 first | refine e0a (kk := 0) (vs := [_, _, _, _]) S1 V5a rfl rfl rfl rfl rfl rfl rfl ?_
 intro w1_1 S1_1 X1_1
 dsimp only [k0a, List.set] at S1_1
 exact lR0 rfl ⟨⟩ (r1a rfl x1a rfl (S1_1.cells 0 rfl) rfl ⟨rfl, S1_1.fin⟩)
theorem Q9b : ∀ (a : E) (b : E) (M : List Nat) (w0 : World) (ca cb : List Value), RdE M w0 a ca → RdE M w0 b cb →
 M0a Tryz.prog 133 #[.agg ca.toArray, .agg cb.toArray] w0 fun v w' => v = .bool (dec (a = b)) ∧ Below w0.heap.size w0 w' := by
 intro a
 induction a using E.induct with
 | _ a ih =>
 intro b M w0 ca cb ha hb
 obtain ⟨A, n, c, rfl, _, _, _, _, _⟩ := ha.cells
 obtain ⟨B, m, d, rfl, _, _, _, _, _⟩ := hb.cells
 have hka := ha.kidsRd
 have hkb := hb.kidsRd
 have S := St.refl w0
 refine a0a Tryz.func133 rfl Tryz.ntmps133 rfl ?_
 refine wO0 rfl ⟨⟩ (j0a S (by conv => lhs; whnf) rfl ?_)
 intro g2 w2 S2 X2 G2
 refine j0a S2 (by conv => lhs; whnf) rfl ?_
 intro g3 w3 S3 X3 G3
 refine lB S3.k [.o 1,.o 0] rfl ⟨rfl,rfl,⟨⟩⟩ (fun h10 => ?_) fun h10 => ?_
 ·refine lT rfl ⟨⟩ rfl ?_
  refine ⟨h1a (fun h => ?_), S3.fin⟩; subst h; omega
 refine lB S3.k [.o 1,.o 0] rfl ⟨rfl,rfl,⟨⟩⟩ (fun h16 => ?_) fun h16 => ?_
 ·refine lT rfl ⟨⟩ rfl ?_
  refine ⟨h1a (fun h => ?_), S3.fin⟩; subst h; omega
 refine lB S3.k [.o 1,.o 0] rfl ⟨rfl,rfl,⟨⟩⟩ (fun h23 => ?_) fun h23 => ?_
 ·refine lT rfl ⟨⟩ rfl ?_
  refine ⟨h1a (fun h => ?_), S3.fin⟩; subst h; omega
 refine lB S3.k [.o 1,.o 0] rfl ⟨rfl,rfl,⟨⟩⟩ (fun h32 => ?_) fun h32 => ?_
 ·refine lT rfl ⟨⟩ rfl ?_
  refine ⟨h1a (fun h => ?_), S3.fin⟩; subst h; omega
 refine lC0 rfl ⟨⟩ (wL (fun μk D ε w => D = [] ∧ ∃ k : Nat, (k + μk = (a.kids.length)) ∧ (a.kids.take k = b.kids.take k) ∧ St [] w0 w [(some g3, 53, [.int .i64 b.op, .int .i64 b.w, .int .i64 b.n, .slice B m d]), (some g2, 53, [.int .i64 a.op, .int .i64 a.w, .int .i64 a.n, .slice A n c])] ∧ Sl ε [(2, .pointer (some ⟨g2, 0, none⟩)), (3, .pointer (some ⟨g3, 0, none⟩)), (5, .int .i64 k)]) (μ := (a.kids.length)) ⟨rfl, 0, by omega, by simp, S3, rfl⟩ ?_)
 rintro μk D ε w ⟨rfl, k, _, hs, S, eZ⟩
 refine wK eZ (wB S.k [.o 1] rfl ⟨rfl,⟨⟩⟩ (fun h38 => ?_) fun h38 => ?_)
 ·refine lC0 rfl ⟨⟩ (D0a b0a [0, 1, 2, 3, 4, 5, 6, 7, 8, 9, 10, 11] [] [] (by kernel_rfl) rfl (Cl _ _ _ _) (Cl.start S) ?_)
  obtain ⟨x, b44, p44, _, hxx, hA44, _, hl44, hc44, hr44⟩ := RdS.get (hka) (k) (by omega)
  obtain ⟨_, _, _, rfl, _, _, _, _, _⟩ := RdE.cells hr44
  obtain ⟨y, b49, p49, _, hxy, hA49, _, hl49, hc49, hr49⟩ := RdS.get (hkb) (k) (by omega)
  obtain ⟨_, _, _, rfl, _, _, _, _, _⟩ := RdE.cells hr49
  refine qO ((S.q.a hc49).a hc44) [.o 1,.x b44 p44,.v 0,.o 0,.x b49 p49,.v 1] rfl ⟨⟨rfl,hl49⟩,⟨hA49,by omega⟩,rfl,⟨rfl,hl44⟩,⟨hA44,by omega⟩,rfl,⟨⟩⟩ (W1a z8b rfl rfl (fun w1 S1 X1 => ih x (c0a hxx) y M _ _ _ (RdE.keep (S1.keep0 M) _ _ hr44) (RdE.keep (S1.keep0 M) _ _ hr49)) (fun h51 => ?_) fun h51 => ?_)
  ·refine qD rfl ⟨⟩ ?_
   rintro wR6 ⟨SR6, XR6⟩
   refine lP0 rfl ⟨by omega,⟨⟩⟩ ⟨μk - 1, by omega, rfl, (k + 1), (by omega), ((by rw [J0a hxx, J0a hxy, hs, a2a h51])), SR6, rfl⟩
  refine qD rfl ⟨⟩ ?_
  rintro wR6 ⟨SR6, XR6⟩
  refine lT rfl ⟨⟩ rfl ?_
  refine ⟨h1a (fun h => G1a h51 ?_), SR6.fin⟩; subst h; rw [hxx] at hxy; exact Option.some.inj hxy
 refine lT rfl ⟨⟩ rfl ?_
 refine ⟨N3a (E.ext (by omega) (by omega) (by omega) ?_), S.fin⟩; rwa [List.take_of_length_le (by omega), List.take_of_length_le (by omega)] at hs
theorem n9c {M : List Nat} {w : World} : RdE M w ⟨1, 1, 1, []⟩ [.int .i64 1, .int .i64 1, .int .i64 1, .slice none 0 0] := k3a (by unfold i64; omega) (by unfold i64; omega) (by unfold i64; omega)
theorem i0c (p : f0a) (s : t1a) (t : Int) (M : List Nat) (w0 : World) (cs ss : List Value) (hP : j1a M w0 p cs) (hS : m2a M w0 ss s) (hM : ∀ g ∈ M, g < w0.heap.size)
 (hk7 : 1 ≤ s.kind ∧ s.kind ≤ 7) (hg : s.guard.valid p.cells false = true) (hs : ∀ a ∈ s.set, t2a a.cell p.cells.length ∧ a.to.valid p.cells false = true) :
 M0a Tryz.prog 101 #[.agg cs.toArray, .int .i64 t, .agg ss.toArray] w0 fun v w' => v = .bool (dec (E3b p t s)) ∧ Below w0.heap.size w0 w' := by
 obtain ⟨Ac, nc, cc, Am, nm, cm, Al, nl, cl, At, nt, ct, rfl, hC, _, _, hTh, _, _, _, _, _, _, _, _⟩ := hP.open_
 obtain ⟨Ag, ng, cg, As, ns, cs', rfl, ⟨_, _, _, _, _⟩, hG, hSet, _, _⟩ := hS.open_
 have S := St.refl w0
 have hM' : ∀ w' : World, w0.heap.size ≤ w'.heap.size → ∀ g ∈ M, g < w'.heap.size := fun w' h g hg => by have := hM g hg; omega
 have hin : ∀ a ∈ s.set, 0 ≤ a.cell ∧ a.cell < p.cells.length := fun a ha => (hs a ha).1
 refine a0a Tryz.func101 rfl Tryz.ntmps101 rfl ?_
 refine wO0 rfl ⟨⟩ (j0a S (by conv => lhs; whnf) rfl ?_)
 intro g3 w3 S3 X3 G3
 refine j0a S3 (by conv => lhs; whnf) rfl ?_
 intro g5 w5 S5 X5 G5
 refine lOn 15 S5.k [.o 0,.o 0] rfl ⟨rfl,rfl,⟨⟩⟩ (O6c rfl rfl rfl ?_)
 refine lO S5.k [.w 1,.o 0] rfl ⟨rfl,⟨rfl,rfl⟩,⟨⟩⟩ (y0a S5 z2b rfl rfl (R5a p _ M _ _ _ _ false t (hP.keep (S5.keep0 M)) (RdE.keep (S5.keep0 M) _ _ hG) (hM' _ S5.size) hg) (fun h26 w26 S26 X26 => ?_) (fun h26 w26 S26 X26 => ?_))
 ·refine lC0 rfl ⟨⟩ (wL (fun μk D ε w => D = [] ∧ ∃ k : Nat, (k + μk = (s.set.length)) ∧ (∀ j a, s.set[j]? = some a → j < k → 0 < j ∨ s.kind ≠ 2 → M4a p.cells a.to (decide (s.kind = 4)) t) ∧ (u1a (s.set) k (fun a => y1a p.cells a.cell = t ∨ y1a p.cells a.cell = -1)) ∧ St [] w0 w [(some g5, 90, [.int .i64 s.kind, .int .i64 s.frm, .int .i64 s.to, .int .i64 s.guard.op, .int .i64 s.guard.w, .int .i64 s.guard.n, .slice Ag ng cg, .slice As ns cs', .bool s.release, .int .i64 s.target, .int .i64 s.module_]), (some g3, 27, [.slice Ac nc cc, .slice Am nm cm, .slice Al nl cl, .slice At nt ct])] ∧ Sl ε [(1, .int .i64 t), (3, .pointer (some ⟨g3, 0, none⟩)), (5, .pointer (some ⟨g5, 0, none⟩)), (7, .int .i64 ns), (8, .bool (decide (s.kind = 4))), (9, .int .i64 k)]) (μ := (s.set.length)) ⟨rfl, 0, by omega, (fun j a _ h => absurd h (by omega)), u1a.zero, S26, rfl⟩ ?_)
  rintro μk D ε w ⟨rfl, k, hk, hv, hc, S, eZ⟩
  refine wK eZ (wB0 rfl ⟨⟩ (fun h30 => ?_) fun h30 => ?_)
  ·refine lCn 7 S.k [] rfl ⟨⟩ (wX (fun D ε w => D = [] ∧ (∀ a', s.set[k]? = some a' → 0 < k ∨ s.kind ≠ 2 → M4a p.cells a'.to (decide (s.kind = 4)) t) ∧ St [] w0 w [(some g5, 90, [.int .i64 s.kind, .int .i64 s.frm, .int .i64 s.to, .int .i64 s.guard.op, .int .i64 s.guard.w, .int .i64 s.guard.n, .slice Ag ng cg, .slice As ns cs', .bool s.release, .int .i64 s.target, .int .i64 s.module_]), (some g3, 27, [.slice Ac nc cc, .slice Am nm cm, .slice Al nl cl, .slice At nt ct])] ∧ Sl ε [(1, .int .i64 t), (3, .pointer (some ⟨g3, 0, none⟩)), (5, .pointer (some ⟨g5, 0, none⟩)), (7, .int .i64 ns), (8, .bool (decide (s.kind = 4))), (9, .int .i64 k)]) ?_ ?_)
   ·refine wC0 rfl ⟨⟩ (D0a b0a [0, 1, 2, 3, 4, 5, 6, 7, 8, 9, 10, 11, 12, 13, 14, 15, 16, 17, 18, 19] [] [] (by kernel_rfl) rfl (Cl _ _ _ _) (Cl.start S) ?_)
    refine qB0 rfl ⟨⟩ (fun h34 => ?_) fun h34 => ?_
    ·obtain ⟨a, b45, p45, c45, hxa, hA45, hM45, hl45, hc45, hr45⟩ := RdS.get (hSet) (k) (by omega)
     obtain ⟨Ae45, ne45, ce45, rfl, ia45, hE45⟩ := R0a.open_ hr45
     refine qO (S.q.a hc45) [.w 1,.o 0,.x b45 p45,.f 0 1] rfl ⟨rfl,⟨hA45,by omega⟩,rfl,⟨rfl,rfl⟩,⟨⟩⟩ (W1a z2b rfl rfl (fun w1 S1 X1 => R5a p _ M _ _ _ _ false t (hP.keep (S1.keep0 M)) (RdE.keep (S1.keep0 M) _ _ hE45) (hM' _ S1.size) (hs a (c0a hxa)).2) (fun h50 => ?_) fun h50 => ?_)
     ·refine qD rfl ⟨⟩ ?_
      rintro wR8 ⟨SR8, XR8⟩
      refine lP0 rfl ⟨⟩ ⟨rfl, ?_, SR8, rfl⟩
      intro a' ha' hor
      rw [hxa] at ha'; cases ha'; exact a2a h50
     refine qD rfl ⟨⟩ ?_
     rintro wR8 ⟨SR8, XR8⟩
     refine lT rfl ⟨⟩ rfl ⟨h1a (fun h => ?_), SR8.fin⟩
     exact G1a h50 (h.val hxa (by omega))
    refine qB S.q [.o 0] rfl ⟨rfl,⟨⟩⟩ (fun h38 => ?_) fun h38 => ?_
    ·obtain ⟨a, b45, p45, c45, hxa, hA45, hM45, hl45, hc45, hr45⟩ := RdS.get (hSet) (k) (by omega)
     obtain ⟨Ae45, ne45, ce45, rfl, ia45, hE45⟩ := R0a.open_ hr45
     refine qO (S.q.a hc45) [.w 1,.o 0,.x b45 p45,.f 0 1] rfl ⟨rfl,⟨hA45,by omega⟩,rfl,⟨rfl,rfl⟩,⟨⟩⟩ (W1a z2b rfl rfl (fun w1 S1 X1 => R5a p _ M _ _ _ _ false t (hP.keep (S1.keep0 M)) (RdE.keep (S1.keep0 M) _ _ hE45) (hM' _ S1.size) (hs a (c0a hxa)).2) (fun h50 => ?_) fun h50 => ?_)
     ·refine qD rfl ⟨⟩ ?_
      rintro wR8 ⟨SR8, XR8⟩
      refine lP0 rfl ⟨⟩ ⟨rfl, ?_, SR8, rfl⟩
      intro a' ha' hor
      rw [hxa] at ha'; cases ha'; exact a2a h50
     refine qD rfl ⟨⟩ ?_
     rintro wR8 ⟨SR8, XR8⟩
     refine lT rfl ⟨⟩ rfl ⟨h1a (fun h => ?_), SR8.fin⟩
     exact G1a h50 (h.val hxa (by omega))
    refine qD rfl ⟨⟩ ?_
    rintro wR8 ⟨SR8, XR8⟩
    refine lP0 rfl ⟨⟩ ⟨rfl, ?_, SR8, rfl⟩
    intro a' ha' hor
    exfalso; omega
   rintro D ε w ⟨rfl, hvk, S, eZ⟩
   refine wK eZ ?_
   obtain ⟨b, b56, p56, _, hxb, hA56, _, _, hc56, hr56⟩ := RdS.get (hSet) (k) (by omega)
   obtain ⟨_, _, _, rfl, _, _⟩ := R0a.open_ hr56
   refine wO (S.k.a hc56) [.o 0,.x b56 p56,.f 0 0,.w 1] rfl ⟨⟨rfl,rfl⟩,rfl,⟨hA56,by omega⟩,rfl,⟨⟩⟩ (y0a S W0b rfl rfl (z5b p M _ _ _ t (hP.keep (S.keep0 M)) (hin b (c0a hxb)).1 (hin b (c0a hxb)).2) (fun h62 w62 S62 X62 => ?_) (fun h62 w62 S62 X62 => ?_))
   ·refine lP0 rfl ⟨by omega,⟨⟩⟩ ⟨μk - 1, by omega, rfl, (k + 1), (by omega), ?_, ?_, S62, rfl⟩
    ·intro j a' ha' hj hor
     by_cases hjk : j = k
     ·subst hjk
      exact hvk a' ha' hor
     ·exact hv j a' ha' (by omega) hor
    ·refine hc.succ hxb ?_
     exact .inl (of_decide_eq_true h62)
   refine lO S62.k [.w 1] rfl ⟨⟨rfl,rfl⟩,⟨⟩⟩ (y0a S62 X3b rfl rfl (M9a p M _ _ _ (hP.keep (S62.keep0 M)) (hin b (c0a hxb)).1 (hin b (c0a hxb)).2) (fun h67 w67 S67 X67 => ?_) (fun h67 w67 S67 X67 => ?_))
   ·refine lP0 rfl ⟨by omega,⟨⟩⟩ ⟨μk - 1, by omega, rfl, (k + 1), (by omega), ?_, ?_, S67, rfl⟩
    ·intro j a' ha' hj hor
     by_cases hjk : j = k
     ·subst hjk
      exact hvk a' ha' hor
     ·exact hv j a' ha' (by omega) hor
    ·refine hc.succ hxb ?_
     exact .inr (of_decide_eq_true h67)
   refine lT rfl ⟨⟩ rfl ⟨h1a (fun h => ?_), S67.fin⟩
   exact (h.cells b (c0a hxb)).elim (of_decide_eq_false h62) (of_decide_eq_false h67)
  refine lB S.k [.o 0] rfl ⟨rfl,⟨⟩⟩ (fun h73 => ?_) fun h73 => ?_
  ·refine lC0 rfl ⟨⟩ (wL (fun μi D ε w => D = [] ∧ ∃ i : Nat, (i + μi = (s.set.length)) ∧ (u1a (s.set) i (fun a => y1a p.cells a.cell = t)) ∧ St [] w0 w [(some g5, 90, [.int .i64 s.kind, .int .i64 s.frm, .int .i64 s.to, .int .i64 s.guard.op, .int .i64 s.guard.w, .int .i64 s.guard.n, .slice Ag ng cg, .slice As ns cs', .bool s.release, .int .i64 s.target, .int .i64 s.module_]), (some g3, 27, [.slice Ac nc cc, .slice Am nm cm, .slice Al nl cl, .slice At nt ct])] ∧ Sl ε [(1, .int .i64 t), (3, .pointer (some ⟨g3, 0, none⟩)), (5, .pointer (some ⟨g5, 0, none⟩)), (7, .int .i64 ns), (11, .int .i64 i)]) (μ := (s.set.length)) ⟨rfl, 0, by omega, u1a.zero, S, rfl⟩ ?_)
   rintro μi D ε w ⟨rfl, i, hi, ho, S, eZ⟩
   refine wK eZ (wB0 rfl ⟨⟩ (fun h76 => ?_) fun h76 => ?_)
   ·refine lC0 rfl ⟨⟩ (D0a b0a [0, 1, 2, 3, 4, 5, 6, 7, 8, 9] [] [] (by kernel_rfl) rfl (Cl _ _ _ _) (Cl.start S) ?_)
    obtain ⟨a, b83, p83, _, hxa, hA83, _, _, hc83, hr83⟩ := RdS.get (hSet) (i) (by omega)
    obtain ⟨_, _, _, rfl, _, _⟩ := R0a.open_ hr83
    refine qO (S.q.a hc83) [.w 1,.o 0,.x b83 p83,.f 0 0] rfl ⟨rfl,⟨hA83,by omega⟩,rfl,⟨rfl,rfl⟩,⟨⟩⟩ (W1a W0b rfl rfl (fun w1 S1 X1 => z5b p M _ _ _ t (hP.keep (S1.keep0 M)) (hin a (c0a hxa)).1 (hin a (c0a hxa)).2) (fun h87 => ?_) fun h87 => ?_)
    ·refine qD rfl ⟨⟩ ?_
     rintro wR18 ⟨SR18, XR18⟩
     refine lP0 rfl ⟨by omega,⟨⟩⟩ ⟨μi - 1, by omega, rfl, (i + 1), (by omega), (ho.succ hxa (of_decide_eq_true h87)), SR18, rfl⟩
    refine qD rfl ⟨⟩ ?_
    rintro wR18 ⟨SR18, XR18⟩
    refine lT rfl ⟨⟩ rfl ⟨h1a (fun h => ?_), SR18.fin⟩
    exact of_decide_eq_false h87 (h.k1 (by omega) a (c0a hxa))
   refine lT rfl ⟨⟩ rfl ?_
   refine ⟨N3a ⟨a2a h26, fun i hi hor => hv i _ (List.getElem?_eq_getElem hi) (by omega) hor, hc.all (by omega), ?_, ?_, ?_, ?_, ?_, ?_⟩, S.fin⟩ <;> intro hkk
   all_goals first
    | (exfalso; omega)
    | exact ho.all (by omega)
  refine lB0 rfl ⟨⟩ (fun h90 => ?_) fun h90 => ?_
  ·refine lC0 rfl ⟨⟩ (D0a b0a [0, 1, 2, 3, 4, 5, 6, 7, 8, 9, 10, 11, 12, 13, 14, 15, 16, 17, 18, 19, 20, 21, 22, 23, 24] [] [] (by kernel_rfl) rfl (Cl _ _ _ _) (Cl.start S) ?_)
   refine qB0 rfl ⟨⟩ (fun h92 => ?_) fun h92 => ?_
   ·refine qD rfl ⟨⟩ ?_
    rintro wR22 ⟨SR22, XR22⟩
    refine lT rfl ⟨⟩ rfl ⟨h1a (fun h => ?_), SR22.fin⟩
    (have hk := h.k2 (by omega)
     obtain ⟨a', l', e1, e2, e3, e4, e5, e6, e7⟩ := hk
     have el : s.set.length = l'.length + 1 := by rw [e1]; rfl
     omega)
   obtain ⟨a0, b97, p97, _, hxa0, hA97, _, _, hc97, hr97⟩ := RdS.get (hSet) (0) (by omega)
   obtain ⟨_, _, _, rfl, _, _⟩ := R0a.open_ hr97
   refine qO (S.q.a hc97) [.w 1,.o 0,.x b97 p97,.f 0 0] rfl ⟨rfl,⟨hA97,by omega⟩,rfl,⟨rfl,rfl⟩,⟨⟩⟩ (W1a W0b rfl rfl (fun w1 S1 X1 => z5b p M _ _ _ t (hP.keep (S1.keep0 M)) (hin a0 (c0a hxa0)).1 (hin a0 (c0a hxa0)).2) (fun h101 => ?_) fun h101 => ?_)
   ·obtain ⟨_, b109, p109, _, hx109, hA109, _, _, hc109, hr109⟩ := RdS.get (hSet) (0) (by omega)
    obtain rfl := Option.some.inj (hxa0.symm.trans hx109)
    obtain ⟨_, _, _, rfl, _, _⟩ := R0a.open_ hr109
    have hia0 := hin a0 (c0a hxa0)
    obtain ⟨c0, b112, p112, _, hxc0, hA112, _, _, hc112, hr112⟩ := RdS.get (hC) (a0.cell.toNat) (by omega)
    obtain ⟨rfl, _, _, _, _⟩ := Z2a.open_ hr112
    refine qO (S.q.a hc109) [.o 1,.o 0,.x b109 p109,.f 0 0,.x b112 p112] rfl ⟨⟨hA112,by omega⟩,rfl,⟨hA109,by omega⟩,rfl,rfl,⟨⟩⟩ ?_
    rcases (Bool.eq_false_or_eq_true (c0.ghost)).symm with hb114 | hb114
    ·refine h0a B2a rfl (fun w1 hw => by exact (hw.1.old (hc112 _ _ rfl)).trans (congrArg (fun b => some (Value.bool b)) hb114)) rfl ?_
     refine qD rfl ⟨⟩ ?_
     rintro wR22 ⟨SR22, XR22⟩
     obtain ⟨_, b118, p118, _, hx118, hA118, _, _, hc118, hr118⟩ := RdS.get (hSet) (0) (by omega)
     obtain rfl := Option.some.inj (hxa0.symm.trans hx118)
     obtain ⟨Ae118, ne118, ce118, rfl, _, _⟩ := R0a.open_ hr118
     refine lO (SR22.k.a hc118) [.o 0,.x b118 p118,.f 0 1] rfl ⟨rfl,⟨hA118,by omega⟩,rfl,⟨⟩⟩ (n0a SR22 m7a rfl rfl ?_)
     intro g12 w12 S12 X12 G12
     refine e0a (kk := 0) (vs := [_, _, _, _]) S12 V5a rfl rfl rfl rfl rfl rfl rfl ?_
     intro w24_6 S24_6 X24_6
     dsimp only [k0a, List.set] at S24_6
     refine lB S24_6.k [.o 0] rfl ⟨rfl,⟨⟩⟩ (fun h123 => ?_) fun h123 => ?_
     ·refine lT rfl ⟨⟩ rfl ⟨h1a (fun h => ?_), S24_6.fin⟩
      (have hk := h.k2 (by omega)
       obtain ⟨a', l', e1, e2, e3, e4, e5, e6, e7⟩ := hk
       have el : s.set.length = l'.length + 1 := by rw [e1]; rfl
       (obtain rfl := B4a e1 hxa0
        exact h123 e4))
     refine lO S24_6.k [.w 2,.o 0] rfl ⟨rfl,⟨rfl,rfl⟩,⟨⟩⟩ ?_
     have hcn := O0b (hs a0 (c0a hxa0)).2 h123
     refine y0a S24_6 X3b rfl rfl (M9a p M _ _ _ (hP.keep (S24_6.keep0 M)) hcn.1 hcn.2) (fun h128 w128 S128 X128 => ?_) (fun h128 w128 S128 X128 => ?_)
     ·obtain ⟨c1, b136, p136, _, hxc1, hA136, _, _, hc136, hr136⟩ := RdS.get (hC) (a0.to.n.toNat) (by omega)
      obtain ⟨rfl, _, _, _, _⟩ := Z2a.open_ hr136
      refine lO S128.k [.o 2,.o 0,.x b136 p136] rfl ⟨⟨hA136,by omega⟩,rfl,rfl,⟨⟩⟩ ?_
      cases hb138 : c1.ghost
      ·refine s0a B2a rfl (by exact (S128.old (hc136 _ _ rfl)).trans (congrArg (fun b => some (Value.bool b)) hb138)) rfl ?_
       refine lC0 rfl ⟨⟩ (wL (fun μi D ε w => D = [] ∧ ∃ i : Nat, (i + μi = max (s.set.length) 1) ∧ (1 ≤ i) ∧ (R4a s.set 1 i (fun b => y1a p.cells b.cell = t ∧ Q0b p.cells b.cell = true)) ∧ St [] w0 w [(some g12, 53, [.int .i64 a0.to.op, .int .i64 a0.to.w, .int .i64 a0.to.n, .slice Ae118 ne118 ce118]), (some g5, 90, [.int .i64 s.kind, .int .i64 s.frm, .int .i64 s.to, .int .i64 s.guard.op, .int .i64 s.guard.w, .int .i64 s.guard.n, .slice Ag ng cg, .slice As ns cs', .bool s.release, .int .i64 s.target, .int .i64 s.module_]), (some g3, 27, [.slice Ac nc cc, .slice Am nm cm, .slice Al nl cl, .slice At nt ct])] ∧ Sl ε [(1, .int .i64 t), (3, .pointer (some ⟨g3, 0, none⟩)), (5, .pointer (some ⟨g5, 0, none⟩)), (7, .int .i64 ns), (13, .int .i64 i)]) (μ := (max (s.set.length) 1 - 1)) ⟨rfl, 1, by omega, by omega, R4a.start (by omega), S128, rfl⟩ ?_)
       rintro μi D ε w ⟨rfl, i, hi, hi0, ht, S, eZ⟩
       refine wK eZ (wB0 rfl ⟨⟩ (fun h142 => ?_) fun h142 => ?_)
       ·refine lC0 rfl ⟨⟩ (D0a b0a [0, 1, 2, 3, 4, 5, 6, 7, 8, 9, 10, 11, 12, 13, 14, 15, 16, 17, 18, 19, 20, 21, 22, 23] [] [] (by kernel_rfl) rfl (Cl _ _ _ _) (Cl.start S) ?_)
        obtain ⟨a, b149, p149, _, hxa, hA149, _, _, hc149, hr149⟩ := RdS.get (hSet) (i) (by omega)
        obtain ⟨_, _, _, rfl, _, _⟩ := R0a.open_ hr149
        refine qO (S.q.a hc149) [.w 2,.o 1,.x b149 p149,.f 0 0] rfl ⟨rfl,⟨hA149,by omega⟩,rfl,⟨rfl,rfl⟩,⟨⟩⟩ (W1a W0b rfl rfl (fun w1 S1 X1 => z5b p M _ _ _ t (hP.keep (S1.keep0 M)) (hin a (c0a hxa)).1 (hin a (c0a hxa)).2) (fun h153 => ?_) fun h153 => ?_)
        ·obtain ⟨_, b161, p161, _, hx161, hA161, _, _, hc161, hr161⟩ := RdS.get (hSet) (i) (by omega)
         obtain rfl := Option.some.inj (hxa.symm.trans hx161)
         obtain ⟨_, _, _, rfl, _, _⟩ := R0a.open_ hr161
         have hia := hin a (c0a hxa)
         obtain ⟨c2, b164, p164, _, hxc2, hA164, _, _, hc164, hr164⟩ := RdS.get (hC) (a.cell.toNat) (by omega)
         obtain ⟨rfl, _, _, _, _⟩ := Z2a.open_ hr164
         refine qO (S.q.a hc161) [.o 2,.o 1,.x b161 p161,.f 0 0,.x b164 p164] rfl ⟨⟨hA164,by omega⟩,rfl,⟨hA161,by omega⟩,rfl,rfl,⟨⟩⟩ ?_
         rcases (Bool.eq_false_or_eq_true (c2.ghost)).symm with hb166 | hb166
         ·refine h0a B2a rfl (fun w1 hw => by exact (hw.1.old (hc164 _ _ rfl)).trans (congrArg (fun b => some (Value.bool b)) hb166)) rfl ?_
          refine qD rfl ⟨⟩ ?_
          rintro wR30 ⟨SR30, XR30⟩
          refine lT rfl ⟨⟩ rfl ⟨h1a (fun h => ?_), SR30.fin⟩
          (have hk := h.k2 (by omega)
           obtain ⟨a', l', e1, e2, e3, e4, e5, e6, e7⟩ := hk
           have el : s.set.length = l'.length + 1 := by rw [e1]; rfl
           (obtain rfl := B4a e1 hxa0
            (have q := (e7 a (g2b e1 hxa (by omega))).2; rw [C2a hxc2, hb166] at q; cases q; done)))
         refine h0a B2a rfl (fun w1 hw => by exact (hw.1.old (hc164 _ _ rfl)).trans (congrArg (fun b => some (Value.bool b)) hb166)) rfl ?_
         refine qD rfl ⟨⟩ ?_
         rintro wR30 ⟨SR30, XR30⟩
         refine lP0 rfl ⟨by omega,⟨⟩⟩ ?_
         refine ⟨μi - 1, by omega, rfl, (i + 1), (by omega), (by omega), (ht.succ hxa ⟨of_decide_eq_true h153, by rw [C2a hxc2]; exact hb166⟩), SR30, rfl⟩
        refine qD rfl ⟨⟩ ?_
        rintro wR30 ⟨SR30, XR30⟩
        refine lT rfl ⟨⟩ rfl ⟨h1a (fun h => ?_), SR30.fin⟩
        (have hk := h.k2 (by omega)
         obtain ⟨a', l', e1, e2, e3, e4, e5, e6, e7⟩ := hk
         have el : s.set.length = l'.length + 1 := by rw [e1]; rfl
         (obtain rfl := B4a e1 hxa0
          exact of_decide_eq_false h153 (e7 a (g2b e1 hxa (by omega))).1))
       refine lT rfl ⟨⟩ rfl ?_
       refine ⟨N3a ⟨a2a h26, fun i hi hor => hv i _ (List.getElem?_eq_getElem hi) (by omega) hor, hc.all (by omega), ?_, ?_, ?_, ?_, ?_, ?_⟩, S.fin⟩ <;> intro hkk
       all_goals first
        | (exfalso; omega)
        | (obtain ⟨l, e1, e2⟩ := ht.tail (by omega) hxa0; exact ⟨a0, l, e1, of_decide_eq_true h101, by rw [C2a hxc0]; exact hb114, by omega, of_decide_eq_true h128, by rw [C2a hxc1]; exact hb138, e2⟩)
      refine s0a B2a rfl (by exact (S128.old (hc136 _ _ rfl)).trans (congrArg (fun b => some (Value.bool b)) hb138)) rfl ?_
      refine lT rfl ⟨⟩ rfl ⟨h1a (fun h => ?_), S128.fin⟩
      (have hk := h.k2 (by omega)
       obtain ⟨a', l', e1, e2, e3, e4, e5, e6, e7⟩ := hk
       have el : s.set.length = l'.length + 1 := by rw [e1]; rfl
       (obtain rfl := B4a e1 hxa0
        (rw [C2a hxc1, hb138] at e6; cases e6; done)))
     refine lT rfl ⟨⟩ rfl ⟨h1a (fun h => ?_), S128.fin⟩
     (have hk := h.k2 (by omega)
      obtain ⟨a', l', e1, e2, e3, e4, e5, e6, e7⟩ := hk
      have el : s.set.length = l'.length + 1 := by rw [e1]; rfl
      (obtain rfl := B4a e1 hxa0
       exact of_decide_eq_false h128 e5))
    refine h0a B2a rfl (fun w1 hw => by exact (hw.1.old (hc112 _ _ rfl)).trans (congrArg (fun b => some (Value.bool b)) hb114)) rfl ?_
    refine qD rfl ⟨⟩ ?_
    rintro wR22 ⟨SR22, XR22⟩
    refine lT rfl ⟨⟩ rfl ⟨h1a (fun h => ?_), SR22.fin⟩
    (have hk := h.k2 (by omega)
     obtain ⟨a', l', e1, e2, e3, e4, e5, e6, e7⟩ := hk
     have el : s.set.length = l'.length + 1 := by rw [e1]; rfl
     (obtain rfl := B4a e1 hxa0
      (rw [C2a hxc0, hb114] at e3; cases e3; done)))
   refine qD rfl ⟨⟩ ?_
   rintro wR22 ⟨SR22, XR22⟩
   refine lT rfl ⟨⟩ rfl ⟨h1a (fun h => ?_), SR22.fin⟩
   (have hk := h.k2 (by omega)
    obtain ⟨a', l', e1, e2, e3, e4, e5, e6, e7⟩ := hk
    have el : s.set.length = l'.length + 1 := by rw [e1]; rfl
    (obtain rfl := B4a e1 hxa0
     exact of_decide_eq_false h101 e2))
  refine lB0 rfl ⟨⟩ (fun h170 => ?_) fun h170 => ?_
  ·refine lC0 rfl ⟨⟩ (D0a b0a [0, 1, 2, 3, 4, 5, 6, 7, 8, 9, 10, 11, 12, 13, 14, 15, 16, 17, 18, 19, 20, 21, 22, 23] [] [] (by kernel_rfl) rfl (Cl _ _ _ _) (Cl.start S) ?_)
   refine qB0 rfl ⟨⟩ (fun h172 => ?_) fun h172 => ?_
   ·refine qD rfl ⟨⟩ ?_
    rintro wR34 ⟨SR34, XR34⟩
    refine lT rfl ⟨⟩ rfl ⟨h1a (fun h => ?_), SR34.fin⟩
    (have hk := h.k3 (by omega)
     obtain ⟨a', l', e1, e2, e3, e7⟩ := hk
     have el : s.set.length = l'.length + 1 := by rw [e1]; rfl
     omega)
   obtain ⟨a0, b177, p177, _, hxa0, hA177, _, _, hc177, hr177⟩ := RdS.get (hSet) (0) (by omega)
   obtain ⟨_, _, _, rfl, _, _⟩ := R0a.open_ hr177
   refine qO (S.q.a hc177) [.w 1,.o 0,.x b177 p177,.f 0 0] rfl ⟨rfl,⟨hA177,by omega⟩,rfl,⟨rfl,rfl⟩,⟨⟩⟩ (W1a X3b rfl rfl (fun w1 S1 X1 => M9a p M _ _ _ (hP.keep (S1.keep0 M)) (hin a0 (c0a hxa0)).1 (hin a0 (c0a hxa0)).2) (fun h180 => ?_) fun h180 => ?_)
   ·obtain ⟨_, b188, p188, _, hx188, hA188, _, _, hc188, hr188⟩ := RdS.get (hSet) (0) (by omega)
    obtain rfl := Option.some.inj (hxa0.symm.trans hx188)
    obtain ⟨_, _, _, rfl, _, _⟩ := R0a.open_ hr188
    have hia0 := hin a0 (c0a hxa0)
    obtain ⟨c0, b191, p191, _, hxc0, hA191, _, _, hc191, hr191⟩ := RdS.get (hC) (a0.cell.toNat) (by omega)
    obtain ⟨rfl, _, _, _, _⟩ := Z2a.open_ hr191
    refine qO (S.q.a hc188) [.o 1,.o 0,.x b188 p188,.f 0 0,.x b191 p191] rfl ⟨⟨hA191,by omega⟩,rfl,⟨hA188,by omega⟩,rfl,rfl,⟨⟩⟩ ?_
    rcases (Bool.eq_false_or_eq_true (c0.ghost)).symm with hb193 | hb193
    ·refine h0a B2a rfl (fun w1 hw => by exact (hw.1.old (hc191 _ _ rfl)).trans (congrArg (fun b => some (Value.bool b)) hb193)) rfl ?_
     refine qD rfl ⟨⟩ ?_
     rintro wR34 ⟨SR34, XR34⟩
     refine lC0 rfl ⟨⟩ (wL (fun μi D ε w => D = [] ∧ ∃ i : Nat, (i + μi = max (s.set.length) 1) ∧ (1 ≤ i) ∧ (R4a s.set 1 i (fun b => Q0b p.cells b.cell = true)) ∧ St [] w0 w [(some g5, 90, [.int .i64 s.kind, .int .i64 s.frm, .int .i64 s.to, .int .i64 s.guard.op, .int .i64 s.guard.w, .int .i64 s.guard.n, .slice Ag ng cg, .slice As ns cs', .bool s.release, .int .i64 s.target, .int .i64 s.module_]), (some g3, 27, [.slice Ac nc cc, .slice Am nm cm, .slice Al nl cl, .slice At nt ct])] ∧ Sl ε [(3, .pointer (some ⟨g3, 0, none⟩)), (5, .pointer (some ⟨g5, 0, none⟩)), (7, .int .i64 ns), (14, .int .i64 i)]) (μ := (max (s.set.length) 1 - 1)) ⟨rfl, 1, by omega, by omega, R4a.start (by omega), SR34, rfl⟩ ?_)
     rintro μi D ε w ⟨rfl, i, hi, hi0, ht, S, eZ⟩
     refine wK eZ (wB0 rfl ⟨⟩ (fun h197 => ?_) fun h197 => ?_)
     ·refine lC0 rfl ⟨⟩ (D0a b0a [0, 1, 2, 3, 4, 5, 6, 7, 8, 9, 10, 11] [] [] (by kernel_rfl) rfl (Cl _ _ _ _) (Cl.start S) ?_)
      obtain ⟨a, b205, p205, _, hxa, hA205, _, _, hc205, hr205⟩ := RdS.get (hSet) (i) (by omega)
      obtain ⟨_, _, _, rfl, _, _⟩ := R0a.open_ hr205
      have hia := hin a (c0a hxa)
      obtain ⟨c2, b208, p208, _, hxc2, hA208, _, _, hc208, hr208⟩ := RdS.get (hC) (a.cell.toNat) (by omega)
      obtain ⟨rfl, _, _, _, _⟩ := Z2a.open_ hr208
      refine qO (S.q.a hc205) [.o 1,.o 0,.x b205 p205,.f 0 0,.x b208 p208] rfl ⟨⟨hA208,by omega⟩,rfl,⟨hA205,by omega⟩,rfl,rfl,⟨⟩⟩ ?_
      rcases (Bool.eq_false_or_eq_true (c2.ghost)).symm with hb210 | hb210
      ·refine h0a B2a rfl (fun w1 hw => by exact (hw.1.old (hc208 _ _ rfl)).trans (congrArg (fun b => some (Value.bool b)) hb210)) rfl ?_
       refine qD rfl ⟨⟩ ?_
       rintro wR39 ⟨SR39, XR39⟩
       refine lT rfl ⟨⟩ rfl ⟨h1a (fun h => ?_), SR39.fin⟩
       (have hk := h.k3 (by omega)
        obtain ⟨a', l', e1, e2, e3, e7⟩ := hk
        have el : s.set.length = l'.length + 1 := by rw [e1]; rfl
        (obtain rfl := B4a e1 hxa0
         (have q := e7 a (g2b e1 hxa (by omega)); rw [C2a hxc2, hb210] at q; cases q; done)))
      refine h0a B2a rfl (fun w1 hw => by exact (hw.1.old (hc208 _ _ rfl)).trans (congrArg (fun b => some (Value.bool b)) hb210)) rfl ?_
      refine qD rfl ⟨⟩ ?_
      rintro wR39 ⟨SR39, XR39⟩
      refine lP0 rfl ⟨by omega,⟨⟩⟩ ?_
      refine ⟨μi - 1, by omega, rfl, (i + 1), (by omega), (by omega), (ht.succ hxa (by rw [C2a hxc2]; exact hb210)), SR39, rfl⟩
     refine lT rfl ⟨⟩ rfl ?_
     refine ⟨N3a ⟨a2a h26, fun i hi hor => hv i _ (List.getElem?_eq_getElem hi) (by omega) hor, hc.all (by omega), ?_, ?_, ?_, ?_, ?_, ?_⟩, S.fin⟩ <;> intro hkk
     all_goals first
      | (exfalso; omega)
      | (obtain ⟨l, e1, e2⟩ := ht.tail (by omega) hxa0; exact ⟨a0, l, e1, of_decide_eq_true h180, by rw [C2a hxc0]; exact hb193, e2⟩)
    refine h0a B2a rfl (fun w1 hw => by exact (hw.1.old (hc191 _ _ rfl)).trans (congrArg (fun b => some (Value.bool b)) hb193)) rfl ?_
    refine qD rfl ⟨⟩ ?_
    rintro wR34 ⟨SR34, XR34⟩
    refine lT rfl ⟨⟩ rfl ⟨h1a (fun h => ?_), SR34.fin⟩
    (have hk := h.k3 (by omega)
     obtain ⟨a', l', e1, e2, e3, e7⟩ := hk
     have el : s.set.length = l'.length + 1 := by rw [e1]; rfl
     (obtain rfl := B4a e1 hxa0
      (rw [C2a hxc0, hb193] at e3; cases e3; done)))
   refine qD rfl ⟨⟩ ?_
   rintro wR34 ⟨SR34, XR34⟩
   refine lT rfl ⟨⟩ rfl ⟨h1a (fun h => ?_), SR34.fin⟩
   (have hk := h.k3 (by omega)
    obtain ⟨a', l', e1, e2, e3, e7⟩ := hk
    have el : s.set.length = l'.length + 1 := by rw [e1]; rfl
    (obtain rfl := B4a e1 hxa0
     exact of_decide_eq_false h180 e2))
  refine lB0 rfl ⟨⟩ (fun h213 => ?_) fun h213 => ?_
  ·refine lT rfl ⟨⟩ rfl ?_
   refine ⟨N3a ⟨a2a h26, fun i hi hor => hv i _ (List.getElem?_eq_getElem hi) (by omega) hor, hc.all (by omega), ?_, ?_, ?_, ?_, ?_, ?_⟩, S.fin⟩ <;> intro hkk
   all_goals (exfalso; omega)
  refine lC0 rfl ⟨⟩ (D0a b0a [0, 1, 2, 3, 4, 5, 6, 7, 8] [] [] (by kernel_rfl) rfl (Cl _ _ _ _) (Cl.start S) ?_)
  refine qB0 rfl ⟨⟩ (fun h215 => ?_) fun h215 => ?_
  ·refine qD rfl ⟨⟩ ?_
   rintro wR44 ⟨SR44, XR44⟩
   refine lT rfl ⟨⟩ rfl ⟨h1a (fun h => ?_), SR44.fin⟩
   (have q := (h.k5 (by omega)).1; have el : s.set.length = 0 := by simp [q]
    omega)
  refine qO S.q [.o 0] rfl ⟨rfl,⟨⟩⟩ (H2a x4c rfl rfl (fun w1 S1 X1 => M0c _) ?_)
  refine qO0 rfl ⟨⟩ (W1a z8b rfl rfl (fun w1 S1 X1 => Q9b _ ⟨1, 1, 1, []⟩ M _ _ _ (RdE.keep (S1.keep0 M) _ _ hG) n9c) (fun h220 => ?_) fun h220 => ?_)
  ·refine qD rfl ⟨⟩ ?_
   rintro wR44 ⟨SR44, XR44⟩
   refine lB SR44.k [.o 0] rfl ⟨rfl,⟨⟩⟩ (fun h225 => ?_) fun h225 => ?_
   ·refine lT rfl ⟨⟩ rfl ?_
    refine ⟨N3a ⟨a2a h26, fun i hi hor => hv i _ (List.getElem?_eq_getElem hi) (by omega) hor, hc.all (by omega), ?_, ?_, ?_, ?_, ?_, ?_⟩, SR44.fin⟩ <;> intro hkk
    all_goals first
     | (exfalso; omega)
     | exact ⟨List.length_eq_zero_iff.1 (by omega), a2a h220⟩
   refine lO SR44.k [.o 0,.o 1] rfl ⟨rfl,rfl,⟨⟩⟩ (y0a SR44 r5a rfl rfl (G8a _ _ _) (fun h231 w231 S231 X231 => ?_) (fun h231 w231 S231 X231 => ?_))
   ·refine lB S231.k [.o 0] rfl ⟨rfl,⟨⟩⟩ (fun h236 => ?_) fun h236 => ?_
    ·refine lB S231.k [.o 0] rfl ⟨rfl,⟨⟩⟩ (fun h241 => ?_) fun h241 => ?_
     ·refine lT rfl ⟨⟩ rfl ?_
      refine ⟨N3a ⟨a2a h26, fun i hi hor => hv i _ (List.getElem?_eq_getElem hi) (by omega) hor, hc.all (by omega), ?_, ?_, ?_, ?_, ?_, ?_⟩, S231.fin⟩ <;> intro hkk
      all_goals first
       | (exfalso; omega)
       | exact ⟨List.length_eq_zero_iff.1 (by omega), a2a h220⟩
       | (have hit := of_decide_eq_true h231; exact ⟨by unfold t2a; omega, by omega⟩)
     have hit := of_decide_eq_true h231
     obtain ⟨u, b247, p247, _, hxu, hA247, _, _, hc247, hr247⟩ := RdS.get (hTh) (s.target.toNat) (by omega)
     obtain ⟨_, _, _, _, _, _, _, _, _, _, _, _, rfl, _, _, _, _, _, _, _, _, _, _, _, _, _⟩ := N0a.open_ hr247
     refine lO S231.k [.o 1,.o 0,.x b247 p247] rfl ⟨⟨hA247,by omega⟩,rfl,rfl,⟨⟩⟩ ?_
     cases hb249 : u.asleep
     ·refine s0a B2a rfl (by exact (S231.old (hc247 _ _ rfl)).trans (congrArg (fun b => some (Value.bool b)) hb249)) rfl ?_
      refine lT rfl ⟨⟩ rfl ⟨h1a (fun h => ?_), S231.fin⟩
      (have q := h.k7 (by omega) u hxu; rw [hb249] at q; cases q; done)
     refine s0a B2a rfl (by exact (S231.old (hc247 _ _ rfl)).trans (congrArg (fun b => some (Value.bool b)) hb249)) rfl ?_
     refine lT rfl ⟨⟩ rfl ?_
     refine ⟨N3a ⟨a2a h26, fun i hi hor => hv i _ (List.getElem?_eq_getElem hi) (by omega) hor, hc.all (by omega), ?_, ?_, ?_, ?_, ?_, ?_⟩, S231.fin⟩ <;> intro hkk
     all_goals first
      | (exfalso; omega)
      | exact ⟨List.length_eq_zero_iff.1 (by omega), a2a h220⟩
      | (have hit := of_decide_eq_true h231; exact ⟨by unfold t2a; omega, by omega⟩)
      | (intro u' hu'; rw [hxu] at hu'; cases hu'; exact hb249)
    refine lT rfl ⟨⟩ rfl ⟨h1a (fun h => ?_), S231.fin⟩
    (have q := (h.k6 (by omega)).2; omega)
   refine lT rfl ⟨⟩ rfl ⟨h1a (fun h => ?_), S231.fin⟩
   (have q := (h.k6 (by omega)).1; unfold t2a at q; have q5 := of_decide_eq_false h231; omega)
  refine qD rfl ⟨⟩ ?_
  rintro wR44 ⟨SR44, XR44⟩
  refine lT rfl ⟨⟩ rfl ⟨h1a (fun h => ?_), SR44.fin⟩
  exact G1a h220 (h.k5 (by omega)).2
 refine lT rfl ⟨⟩ rfl ⟨h1a (fun h => ?_), S26.fin⟩
 exact G1a h26 h.guard
theorem c8b (p : f0a) (s : t1a) (x : Q0a) (t : Nat) (M : List Nat) (w0 : World) (cs ss : List Value) (hP : j1a M w0 p cs) (hS : m2a M w0 ss s) (hM : ∀ g ∈ M, g < w0.heap.size)
 (hx : p.threads[t]? = some x) (hp1 : 1 ≤ x.points) (hp2 : x.points ≤ 48) :
 M0a Tryz.prog 75 #[.agg cs.toArray, .int .i64 t, .agg ss.toArray] w0 fun v w' => (∃ a, v = .int .i64 a ∧ (a = 0 ↔ U6a p t x.points s)) ∧ Below w0.heap.size w0 w' := by
 obtain ⟨Ac, nc, cc, Am, nm, cm, Al, nl, cl, At, nt, ct, rfl, hC, _, _, hTh, _, _, _, _, _, _, _, _⟩ := hP.open_
 obtain ⟨Ag, ng, cg, As, ns, cs', rfl, ⟨_, _, _, _, _⟩, hG, hSet, _, _⟩ := hS.open_
 have hlt := S1a hx
 have S := St.refl w0
 have hM' : ∀ w' : World, w0.heap.size ≤ w'.heap.size → ∀ g ∈ M, g < w'.heap.size := fun w' h g hg => by have := hM g hg; omega
 refine a0a Tryz.func75 rfl Tryz.ntmps75 rfl ?_
 refine wO0 rfl ⟨⟩ (j0a S (by conv => lhs; whnf) rfl ?_)
 intro g3 w3 S3 X3 G3
 refine j0a S3 (by conv => lhs; whnf) rfl ?_
 intro g5 w5 S5 X5 G5
 obtain ⟨_, b15, p15, _, hxy, hA15, _, _, hc15, hr15⟩ := RdS.get (hTh) (t) (by omega)
 obtain ⟨_, _, _, _, _, _, _, _, _, _, _, _, rfl, _, _, _, _, _, _, _, _, _, _, _, _, _⟩ := N0a.open_ hr15
 obtain rfl := Option.some.inj (hx.symm.trans hxy)
 refine lCn 14 (S5.k.a hc15) [.o 1,.x b15 p15,.f 0 1] rfl ⟨rfl,⟨hA15,by omega⟩,rfl,⟨⟩⟩ (wX (fun D ε w => D = [] ∧ ∃ aim : Bool, (aim = true ↔ s.kind = 6 ∨ s.kind = 7) ∧ St [] w0 w [(some g5, 90, [.int .i64 s.kind, .int .i64 s.frm, .int .i64 s.to, .int .i64 s.guard.op, .int .i64 s.guard.w, .int .i64 s.guard.n, .slice Ag ng cg, .slice As ns cs', .bool s.release, .int .i64 s.target, .int .i64 s.module_]), (some g3, 27, [.slice Ac nc cc, .slice Am nm cm, .slice Al nl cl, .slice At nt ct])] ∧ Sl ε [(1, .int .i64 t), (3, .pointer (some ⟨g3, 0, none⟩)), (5, .pointer (some ⟨g5, 0, none⟩)), (7, .int .i64 x.points), (8, .bool aim)]) ?_ ?_)
 ·refine wB S5.k [.o 0] rfl ⟨rfl,⟨⟩⟩ (fun h20 => ?_) fun h20 => ?_
  ·refine lP0 rfl ⟨⟩ ⟨rfl, (_), ?_, S5, rfl⟩
   exact iff_of_true rfl (by omega)
  refine lB S5.k [.o 0] rfl ⟨rfl,⟨⟩⟩ (fun h24 => ?_) fun h24 => ?_
  ·refine lP0 rfl ⟨⟩ ⟨rfl, (_), ?_, S5, rfl⟩
   exact iff_of_true rfl (by omega)
  refine lP0 rfl ⟨⟩ ⟨rfl, (_), ?_, S5, rfl⟩
  exact iff_of_false Bool.false_ne_true (by omega)
 rintro D ε w ⟨rfl, aim, haim, S, eZ⟩
 refine wK eZ (wX (fun D ε w => D = [] ∧ ((1 ≤ s.kind ∧ s.kind ≤ 7) ∧ (0 ≤ s.frm ∧ s.frm < x.points - 1) ∧ (0 ≤ s.to ∧ s.to < x.points) ∧ t2a s.module_ p.modules.length ∧ (s.release = true → s.kind = 3) ∧ (s.target ≠ 0 → s.kind = 6 ∨ s.kind = 7)) ∧ St [] w0 w [(some g5, 90, [.int .i64 s.kind, .int .i64 s.frm, .int .i64 s.to, .int .i64 s.guard.op, .int .i64 s.guard.w, .int .i64 s.guard.n, .slice Ag ng cg, .slice As ns cs', .bool s.release, .int .i64 s.target, .int .i64 s.module_]), (some g3, 27, [.slice Ac nc cc, .slice Am nm cm, .slice Al nl cl, .slice At nt ct])] ∧ Sl ε [(1, .int .i64 t), (3, .pointer (some ⟨g3, 0, none⟩)), (5, .pointer (some ⟨g5, 0, none⟩))]) ?_ ?_)
 ·refine wB S.k [.o 0] rfl ⟨rfl,⟨⟩⟩ (fun h28 => ?_) fun h28 => ?_
  ·refine lT rfl ⟨⟩ rfl ⟨⟨_, rfl, iff_of_false (by omega) (fun h => ?_)⟩, S.fin⟩
   have q1 := h.kind
   have q2 := h.frm
   have q3 := h.to
   have q4 := h.mod
   have q5 := h.rel
   have q6 := h.tgt
   unfold t2a at q4
   omega
  refine lB S.k [.o 0] rfl ⟨rfl,⟨⟩⟩ (fun h32 => ?_) fun h32 => ?_
  ·refine lT rfl ⟨⟩ rfl ⟨⟨_, rfl, iff_of_false (by omega) (fun h => ?_)⟩, S.fin⟩
   have q1 := h.kind
   have q2 := h.frm
   have q3 := h.to
   have q4 := h.mod
   have q5 := h.rel
   have q6 := h.tgt
   unfold t2a at q4
   omega
  refine lO S.k [.o 0] rfl ⟨by omega,rfl,⟨⟩⟩ (y0a S r5a rfl rfl (G8a _ _ _) (fun h39 w39 S39 X39 => ?_) (fun h39 w39 S39 X39 => ?_))
  ·refine lO S39.k [.o 0] rfl ⟨rfl,⟨⟩⟩ (y0a S39 r5a rfl rfl (G8a _ _ _) (fun h46 w46 S46 X46 => ?_) (fun h46 w46 S46 X46 => ?_))
   ·refine lO S46.k [.o 0,.o 1] rfl ⟨rfl,rfl,⟨⟩⟩ (y0a S46 r5a rfl rfl (G8a _ _ _) (fun h55 w55 S55 X55 => ?_) (fun h55 w55 S55 X55 => ?_))
    ·refine lO0 rfl ⟨⟩ ?_
     rcases (Bool.eq_false_or_eq_true (s.release)).symm with hb60 | hb60
     ·refine s0a B2a rfl (by exact (S55.cell 0 rfl rfl).trans (congrArg (fun b => some (Value.bool b)) hb60)) rfl ?_
      refine lB S55.k [.o 0] rfl ⟨rfl,⟨⟩⟩ (fun h70 => ?_) fun h70 => ?_
      ·refine lOn 1 S55.k [] rfl ⟨⟩ (V3b rfl rfl rfl ?_)
       cases hb72 : aim
       ·refine m1a (v := .bool _) rfl rfl ?_
        refine lT rfl ⟨⟩ rfl ⟨⟨_, rfl, iff_of_false (by omega) (fun h => ?_)⟩, S55.fin⟩
        have q1 := h.kind
        have q2 := h.frm
        have q3 := h.to
        have q4 := h.mod
        have q5 := h.rel
        have q6 := h.tgt
        unfold t2a at q4
        (have z := haim.2 (q6 (by omega)); rw [hb72] at z; cases z; done)
       refine m1a (v := .bool _) rfl rfl ?_
       refine lP0 rfl ⟨⟩ ⟨rfl, ?_, S55, rfl⟩
       refine ⟨⟨by omega, by omega⟩, ?_, ?_, ?_, ?_, ?_⟩
       ·have := of_decide_eq_true h39; omega
       ·have := of_decide_eq_true h46; omega
       ·have := of_decide_eq_true h55; unfold t2a; omega
       ·intro hrel
        rw [hrel] at hb60; cases hb60; done
       ·intro htg
        exact haim.1 hb72
      refine lP0 rfl ⟨⟩ ⟨rfl, ?_, S55, rfl⟩
      refine ⟨⟨by omega, by omega⟩, ?_, ?_, ?_, ?_, ?_⟩
      ·have := of_decide_eq_true h39; omega
      ·have := of_decide_eq_true h46; omega
      ·have := of_decide_eq_true h55; unfold t2a; omega
      ·intro hrel
       rw [hrel] at hb60; cases hb60; done
      ·intro htg
       omega
     refine s0a B2a rfl (by exact (S55.cell 0 rfl rfl).trans (congrArg (fun b => some (Value.bool b)) hb60)) rfl ?_
     refine lB S55.k [.o 0] rfl ⟨rfl,⟨⟩⟩ (fun h64 => ?_) fun h64 => ?_
     ·refine lT rfl ⟨⟩ rfl ⟨⟨_, rfl, iff_of_false (by omega) (fun h => ?_)⟩, S55.fin⟩
      have q1 := h.kind
      have q2 := h.frm
      have q3 := h.to
      have q4 := h.mod
      have q5 := h.rel
      have q6 := h.tgt
      unfold t2a at q4
      (have z := q5 hb60; omega)
     refine lB S55.k [.o 0] rfl ⟨rfl,⟨⟩⟩ (fun h70 => ?_) fun h70 => ?_
     ·refine lOn 1 S55.k [] rfl ⟨⟩ (V3b rfl rfl rfl ?_)
      cases hb72 : aim
      ·refine m1a (v := .bool _) rfl rfl ?_
       refine lT rfl ⟨⟩ rfl ⟨⟨_, rfl, iff_of_false (by omega) (fun h => ?_)⟩, S55.fin⟩
       have q1 := h.kind
       have q2 := h.frm
       have q3 := h.to
       have q4 := h.mod
       have q5 := h.rel
       have q6 := h.tgt
       unfold t2a at q4
       omega
      refine m1a (v := .bool _) rfl rfl ?_
      refine lP0 rfl ⟨⟩ ⟨rfl, ?_, S55, rfl⟩
      refine ⟨⟨by omega, by omega⟩, ?_, ?_, ?_, ?_, ?_⟩
      ·have := of_decide_eq_true h39; omega
      ·have := of_decide_eq_true h46; omega
      ·have := of_decide_eq_true h55; unfold t2a; omega
      ·intro hrel
       omega
      ·intro htg
       exact haim.1 hb72
     refine lP0 rfl ⟨⟩ ⟨rfl, ?_, S55, rfl⟩
     refine ⟨⟨by omega, by omega⟩, ?_, ?_, ?_, ?_, ?_⟩
     ·have := of_decide_eq_true h39; omega
     ·have := of_decide_eq_true h46; omega
     ·have := of_decide_eq_true h55; unfold t2a; omega
     ·intro hrel
      omega
     ·intro htg
      omega
    refine lT rfl ⟨⟩ rfl ⟨⟨_, rfl, iff_of_false (by omega) (fun h => ?_)⟩, S55.fin⟩
    have q1 := h.kind
    have q2 := h.frm
    have q3 := h.to
    have q4 := h.mod
    have q5 := h.rel
    have q6 := h.tgt
    unfold t2a at q4
    (have z := of_decide_eq_false h55; omega)
   refine lT rfl ⟨⟩ rfl ⟨⟨_, rfl, iff_of_false (by omega) (fun h => ?_)⟩, S46.fin⟩
   have q1 := h.kind
   have q2 := h.frm
   have q3 := h.to
   have q4 := h.mod
   have q5 := h.rel
   have q6 := h.tgt
   unfold t2a at q4
   (have z := of_decide_eq_false h46; omega)
  refine lT rfl ⟨⟩ rfl ⟨⟨_, rfl, iff_of_false (by omega) (fun h => ?_)⟩, S39.fin⟩
  have q1 := h.kind
  have q2 := h.frm
  have q3 := h.to
  have q4 := h.mod
  have q5 := h.rel
  have q6 := h.tgt
  unfold t2a at q4
  (have z := of_decide_eq_false h39; omega)
 rintro D ε w ⟨rfl, hpre, S, eZ⟩
 refine wK eZ (wO S.k [.o 0,.o 1] rfl ⟨rfl,rfl,⟨⟩⟩ ?_)
 refine y0a S Q5b rfl rfl (O8a _ M _ _ _ p.cells false (RdE.keep (S.keep0 M) _ _ hG) (hC.keep (S.keep0 M))) (fun h80 w80 S80 X80 => ?_) (fun h80 w80 S80 X80 => ?_)
 ·refine lB S80.k [.o 0] rfl ⟨rfl,⟨⟩⟩ (fun h86 => ?_) fun h86 => ?_
  ·refine lT rfl ⟨⟩ rfl ⟨⟨_, rfl, iff_of_false (by omega) (fun h => ?_)⟩, S80.fin⟩
   have q1 := h.kind
   have q2 := h.frm
   have q3 := h.to
   have q4 := h.mod
   have q5 := h.rel
   have q6 := h.tgt
   unfold t2a at q4
   (have z := h.guard.2; omega)
  refine lC0 rfl ⟨⟩ (wL (fun μk D ε w => D = [] ∧ ∃ k : Nat, (k + μk = (s.set.length)) ∧ (u1a (s.set) k (fun a => t2a a.cell p.cells.length ∧ a.to.valid p.cells false = true ∧ a.to.w = wAt p.cells a.cell)) ∧ (r3a s.set k (fun a b => a.cell ≠ b.cell)) ∧ St [] w0 w [(some g5, 90, [.int .i64 s.kind, .int .i64 s.frm, .int .i64 s.to, .int .i64 s.guard.op, .int .i64 s.guard.w, .int .i64 s.guard.n, .slice Ag ng cg, .slice As ns cs', .bool s.release, .int .i64 s.target, .int .i64 s.module_]), (some g3, 27, [.slice Ac nc cc, .slice Am nm cm, .slice Al nl cl, .slice At nt ct])] ∧ Sl ε [(1, .int .i64 t), (3, .pointer (some ⟨g3, 0, none⟩)), (5, .pointer (some ⟨g5, 0, none⟩)), (9, .int .i64 k)]) (μ := (s.set.length)) ⟨rfl, 0, by omega, u1a.zero, r3a.zero, S80, rfl⟩ ?_)
  rintro μk D ε w ⟨rfl, k, _, hs, hp, S, eZ⟩
  refine wK eZ (wB S.k [.o 0] rfl ⟨rfl,⟨⟩⟩ (fun h92 => ?_) fun h92 => ?_)
  ·obtain ⟨a, b98, p98, _, hxa, hA98, _, _, hc98, hr98⟩ := RdS.get (hSet) (k) (by omega)
   obtain ⟨_, _, _, rfl, _, _⟩ := R0a.open_ hr98
   refine lO (S.k.a hc98) [.o 0,.x b98 p98,.f 0 0,.o 1] rfl ⟨rfl,rfl,⟨hA98,by omega⟩,rfl,⟨⟩⟩ (y0a S r5a rfl rfl (G8a _ _ _) (fun h105 w105 S105 X105 => ?_) (fun h105 w105 S105 X105 => ?_))
   ·refine lC0 rfl ⟨⟩ (wL (fun μj D ε w => D = [] ∧ ∃ j : Nat, (j + μj = (k)) ∧ (u1a (s.set) j (fun b => b.cell ≠ a.cell)) ∧ St [] w0 w [(some g5, 90, [.int .i64 s.kind, .int .i64 s.frm, .int .i64 s.to, .int .i64 s.guard.op, .int .i64 s.guard.w, .int .i64 s.guard.n, .slice Ag ng cg, .slice As ns cs', .bool s.release, .int .i64 s.target, .int .i64 s.module_]), (some g3, 27, [.slice Ac nc cc, .slice Am nm cm, .slice Al nl cl, .slice At nt ct])] ∧ Sl ε [(1, .int .i64 t), (3, .pointer (some ⟨g3, 0, none⟩)), (5, .pointer (some ⟨g5, 0, none⟩)), (9, .int .i64 k), (10, .int .i64 a.cell), (11, .int .i64 j)]) (μ := (k)) ⟨rfl, 0, by omega, u1a.zero, S105, rfl⟩ ?_)
    rintro μj D ε w ⟨rfl, j, _, hn, S, eZ⟩
    refine wK eZ (wB0 rfl ⟨⟩ (fun h109 => ?_) fun h109 => ?_)
    ·obtain ⟨b, b115, p115, _, hxb, hA115, _, _, hc115, hr115⟩ := RdS.get (hSet) (j) (by omega)
     obtain ⟨_, _, _, rfl, _, _⟩ := R0a.open_ hr115
     refine lB (S.k.a hc115) [.o 0,.x b115 p115,.f 0 0] rfl ⟨rfl,⟨hA115,by omega⟩,rfl,⟨⟩⟩ (fun h119 => ?_) fun h119 => ?_
     ·refine lT rfl ⟨⟩ rfl ⟨⟨_, rfl, iff_of_false (by omega) (fun h => ?_)⟩, S.fin⟩
      have q1 := h.kind
      have q2 := h.frm
      have q3 := h.to
      have q4 := h.mod
      have q5 := h.rel
      have q6 := h.tgt
      unfold t2a at q4
      exact D7a h.once hxb hxa (by omega) h119
     refine lP0 rfl ⟨by omega,⟨⟩⟩ ⟨μj - 1, by omega, rfl, (j + 1), (by omega), (hn.succ hxb (h119)), S, rfl⟩
    refine lC0 rfl ⟨⟩ (D0a b0a [0, 1, 2, 3, 4, 5, 6, 7, 8, 9, 10, 11, 12, 13, 14, 15, 16, 17, 18, 19, 20, 21, 22, 23, 24, 25] [] [] (by kernel_rfl) rfl (Cl _ _ _ _) (Cl.start S) ?_)
    obtain ⟨_, b123, p123, _, hx123, hA123, _, _, hc123, hr123⟩ := RdS.get (hSet) (k) (by omega)
    obtain rfl := Option.some.inj (hxa.symm.trans hx123)
    obtain ⟨_, _, _, rfl, _, hE123⟩ := R0a.open_ hr123
    refine qO (S.q.a hc123) [.o 0,.x b123 p123,.f 0 1,.o 1] rfl ⟨rfl,rfl,⟨hA123,by omega⟩,rfl,⟨⟩⟩ (W1a Q5b rfl rfl (fun w1 S1 X1 => O8a _ M _ _ _ p.cells false (RdE.keep (S1.keep0 M) _ _ hE123) (hC.keep (S1.keep0 M))) (fun h128 => ?_) fun h128 => ?_)
    ·obtain ⟨_, b134, p134, _, hx134, hA134, _, _, hc134, hr134⟩ := RdS.get (hSet) (k) (by omega)
     obtain rfl := Option.some.inj (hxa.symm.trans hx134)
     obtain ⟨_, _, _, rfl, _, _⟩ := R0a.open_ hr134
     have hin := of_decide_eq_true h105
     obtain ⟨_, b141, p141, _, hxc, hA141, _, _, hc141, hr141⟩ := RdS.get (hC) (a.cell.toNat) (by omega)
     obtain ⟨rfl, _, _, _, _⟩ := Z2a.open_ hr141
     refine qB ((S.q.a hc141).a hc134) [.o 0,.x b134 p134,.f 0 2,.o 1,.x b141 p141,.f 1 1] rfl ⟨rfl,⟨hA141,by omega⟩,rfl,rfl,⟨hA134,by omega⟩,rfl,⟨⟩⟩ (fun h144 => ?_) fun h144 => ?_
     ·refine qD rfl ⟨⟩ ?_
      rintro wR18 ⟨SR18, XR18⟩
      refine lT rfl ⟨⟩ rfl ⟨⟨_, rfl, iff_of_false (by omega) (fun h => ?_)⟩, SR18.fin⟩
      have q1 := h.kind
      have q2 := h.frm
      have q3 := h.to
      have q4 := h.mod
      have q5 := h.rel
      have q6 := h.tgt
      unfold t2a at q4
      (have z := (h.set a (c0a hxa)).2.2; rw [A5a (by omega) hxc] at z; omega)
     refine qD rfl ⟨⟩ ?_
     rintro wR18 ⟨SR18, XR18⟩
     refine lP0 rfl ⟨by omega,⟨⟩⟩ ?_
     refine ⟨μk - 1, by omega, rfl, (k + 1), (by omega), (hs.succ hxa (⟨by unfold t2a; omega, h128, by rw [A5a (by omega) hxc]; omega⟩)), (hp.succ hxa (j := j) (by omega) hn), SR18, rfl⟩
    refine qD rfl ⟨⟩ ?_
    rintro wR18 ⟨SR18, XR18⟩
    refine lT rfl ⟨⟩ rfl ⟨⟨_, rfl, iff_of_false (by omega) (fun h => ?_)⟩, SR18.fin⟩
    have q1 := h.kind
    have q2 := h.frm
    have q3 := h.to
    have q4 := h.mod
    have q5 := h.rel
    have q6 := h.tgt
    unfold t2a at q4
    (have z := (h.set a (c0a hxa)).2.1; rw [h128] at z; cases z; done)
   refine lT rfl ⟨⟩ rfl ⟨⟨_, rfl, iff_of_false (by omega) (fun h => ?_)⟩, S105.fin⟩
   have q1 := h.kind
   have q2 := h.frm
   have q3 := h.to
   have q4 := h.mod
   have q5 := h.rel
   have q6 := h.tgt
   unfold t2a at q4
   (have z := (h.set a (c0a hxa)).1; unfold t2a at z; have z2 := of_decide_eq_false h105; omega)
  refine lO S.k [.w 1,.w 0] rfl ⟨⟨rfl,rfl⟩,⟨rfl,rfl⟩,⟨⟩⟩ (y0a S z6c rfl rfl (i0c p s t M _ _ _ (hP.keep (S.keep0 M)) (m2a.keep (S.keep0 M) _ _ hS) (hM' _ S.size) hpre.1 h80 (fun a ha => ⟨(hs.all (by omega) a ha).1, (hs.all (by omega) a ha).2.1⟩)) (fun h149 w149 S149 X149 => ?_) (fun h149 w149 S149 X149 => ?_))
  ·exact lT rfl ⟨⟩ rfl ⟨⟨_, rfl, iff_of_true (by omega) ⟨hpre.1, hpre.2.1, hpre.2.2.1, hpre.2.2.2.1, hpre.2.2.2.2.1, hpre.2.2.2.2.2, ⟨h80, by omega⟩, hs.all (by omega), hp.all (by omega), a2a h149⟩⟩, S149.fin⟩
  refine lT rfl ⟨⟩ rfl ⟨⟨_, rfl, iff_of_false (by omega) (fun h => ?_)⟩, S149.fin⟩
  have q1 := h.kind
  have q2 := h.frm
  have q3 := h.to
  have q4 := h.mod
  have q5 := h.rel
  have q6 := h.tgt
  unfold t2a at q4
  exact G1a h149 h.row
 refine lT rfl ⟨⟩ rfl ⟨⟨_, rfl, iff_of_false (by omega) (fun h => ?_)⟩, S80.fin⟩
 have q1 := h.kind
 have q2 := h.frm
 have q3 := h.to
 have q4 := h.mod
 have q5 := h.rel
 have q6 := h.tgt
 unfold t2a at q4
 (have z := h.guard.1; rw [h80] at z; cases z; done)
theorem v4b (p : f0a) (t : Nat) (M : List Nat) (w0 : World) (cs : List Value) (hP : j1a M w0 p cs) (hM : ∀ g ∈ M, g < w0.heap.size) (hN : X2b p) (hL : U4c p) (hlt : t < p.threads.length) :
 M0a Tryz.prog 53 #[.agg cs.toArray, .int .i64 t] w0 fun v w' => (∃ a b, v = .tuple #[.int .i64 a, .int .i64 b] ∧ (a = 0 ↔ ∀ x, p.threads[t]? = some x → g6a p t x ∧ ∀ y ∈ p.threads.take t, y.name ≠ x.name)) ∧ Below w0.heap.size w0 w' := by
 obtain ⟨Ac, nc, cc, Am, nm, cm, Al, nl, cl, At, nt, ct, rfl, hC, _, _, hTh, _, hnm, _, _, _, _, _, _⟩ := hP.open_
 have S := St.refl w0
 have hM' : ∀ w' : World, w0.heap.size ≤ w'.heap.size → ∀ g ∈ M, g < w'.heap.size := fun w' h g hg => by have := hM g hg; omega
 refine a0a Tryz.func53 rfl Tryz.ntmps53 rfl ?_
 refine wO0 rfl ⟨⟩ (j0a S (by conv => lhs; whnf) rfl ?_)
 intro g2 w2 S2 X2 G2
 obtain ⟨x, b18, p18, _, hxx, hA18, _, hl18, hc18, hr18⟩ := RdS.get (hTh) (t) (by omega)
 obtain ⟨Aa18, na18, ca18, Am18, nm18, cm18, As18, ns18, cs18, Al18, nl18, cl18, rfl, _, hEs18, hMs18, hSt18, hLo18, _, _, _, _, _, _, _, _⟩ := N0a.open_ hr18
 have hLx := hL.2.2.2.2 x (c0a hxx)
 refine lO (S2.k.a hc18) [.o 0,.x b18 p18,.v 0] rfl ⟨⟨rfl,hl18⟩,⟨hA18,by omega⟩,rfl,⟨⟩⟩ (n0a S2 b3b rfl rfl ?_)
 intro g6 w6 S6 X6 G6
 refine e0a (kk := 0) (vs := [_, _, _, _, _, _, _]) S6 H2b rfl rfl rfl rfl rfl rfl rfl ?_
 intro w1_6 S1_6 X1_6
 dsimp only [k0a, List.set] at S1_6
 refine lO S1_6.k [.o 0] rfl ⟨rfl,⟨⟩⟩ (y0a S1_6 T5b rfl rfl (Q8a _ _ (hN.threads x (c0a hxx))) (fun h22 w22 S22 X22 => ?_) (fun h22 w22 S22 X22 => ?_))
 ·refine lC0 rfl ⟨⟩ (wL (fun μj D ε w => D = [] ∧ ∃ j : Nat, (j + μj = (t)) ∧ (u1a (p.threads) j (fun y => y.name ≠ x.name)) ∧ St [] w0 w [(some g6, 86, [.string x.name, .int .i64 x.points, .slice Aa18 na18 ca18, .slice Am18 nm18 cm18, .slice As18 ns18 cs18, .slice Al18 nl18 cl18, .bool x.asleep]), (some g2, 27, [.slice Ac nc cc, .slice Am nm cm, .slice Al nl cl, .slice At nt ct])] ∧ Sl ε [(1, .int .i64 t), (2, .pointer (some ⟨g2, 0, none⟩)), (6, .pointer (some ⟨g6, 0, none⟩)), (7, .int .i64 j)]) (μ := (t)) ⟨rfl, 0, by omega, u1a.zero, S22, rfl⟩ ?_)
  rintro μj D ε w ⟨rfl, j, _, hn, S, eZ⟩
  refine wK eZ (wB0 rfl ⟨⟩ (fun h26 => ?_) fun h26 => ?_)
  ·refine lC0 rfl ⟨⟩ (D0a b0a [0, 1, 2, 3, 4, 5, 6, 7, 8] [] [] (by kernel_rfl) rfl (Cl _ _ _ _) (Cl.start S) ?_)
   obtain ⟨y, b32, p32, _, hxy, hA32, _, _, hc32, hr32⟩ := RdS.get (hTh) (j) (by omega)
   obtain ⟨_, _, _, _, _, _, _, _, _, _, _, _, rfl, _, _, _, _, _, _, _, _, _, _, _, _, _⟩ := N0a.open_ hr32
   refine qOn 8 (S.q.a hc32) [.o 1,.x b32 p32,.f 0 0,.o 0] rfl ⟨rfl,rfl,⟨hA32,by omega⟩,rfl,⟨⟩⟩ (W9b rfl rfl rfl (fun h37 => ?_) fun h37 => ?_)
   ·refine qD rfl ⟨⟩ ?_
    rintro wR7 ⟨SR7, XR7⟩
    refine lT2 rfl ⟨⟩ rfl ⟨⟨_, _, rfl, iff_of_false (by omega) (fun hh => ?_)⟩, SR7.fin⟩
    obtain ⟨h, hnm⟩ := hh x hxx
    have q1 := h.points
    have q2 := h.asserts
    have q3 := h.nmod
    exact hnm y (List.mem_of_getElem? (i := j) (by rw [List.getElem?_take, if_pos (by omega)]; exact hxy)) h37
   refine qD rfl ⟨⟩ ?_
   rintro wR7 ⟨SR7, XR7⟩
   refine lP0 rfl ⟨by omega,⟨⟩⟩ ⟨μj - 1, by omega, rfl, (j + 1), (by omega), (hn.succ hxy (h37)), SR7, rfl⟩
  refine lB S.k [.o 0] rfl ⟨rfl,⟨⟩⟩ (fun h40 => ?_) fun h40 => ?_
  ·refine lT2 rfl ⟨⟩ rfl ⟨⟨_, _, rfl, iff_of_false (by omega) (fun hh => ?_)⟩, S.fin⟩
   obtain ⟨h, hnm⟩ := hh x hxx
   have q1 := h.points
   have q2 := h.asserts
   have q3 := h.nmod
   omega
  refine lB S.k [.o 0,.o 0] rfl ⟨rfl,rfl,⟨⟩⟩ (fun h47 => ?_) fun h47 => ?_
  ·refine lT2 rfl ⟨⟩ rfl ⟨⟨_, _, rfl, iff_of_false (by omega) (fun hh => ?_)⟩, S.fin⟩
   obtain ⟨h, hnm⟩ := hh x hxx
   have q1 := h.points
   have q2 := h.asserts
   have q3 := h.nmod
   omega
  refine lB S.k [.o 0,.o 0] rfl ⟨rfl,rfl,⟨⟩⟩ (fun h55 => ?_) fun h55 => ?_
  ·refine lT2 rfl ⟨⟩ rfl ⟨⟨_, _, rfl, iff_of_false (by omega) (fun hh => ?_)⟩, S.fin⟩
   obtain ⟨h, hnm⟩ := hh x hxx
   have q1 := h.points
   have q2 := h.asserts
   have q3 := h.nmod
   omega
  refine lC0 rfl ⟨⟩ (wL (fun μk D ε w => D = [] ∧ ∃ k : Nat, (k + μk = (x.modules.length)) ∧ (u1a (x.modules) k (fun m => t2a m p.modules.length)) ∧ St [] w0 w [(some g6, 86, [.string x.name, .int .i64 x.points, .slice Aa18 na18 ca18, .slice Am18 nm18 cm18, .slice As18 ns18 cs18, .slice Al18 nl18 cl18, .bool x.asleep]), (some g2, 27, [.slice Ac nc cc, .slice Am nm cm, .slice Al nl cl, .slice At nt ct])] ∧ Sl ε [(1, .int .i64 t), (2, .pointer (some ⟨g2, 0, none⟩)), (6, .pointer (some ⟨g6, 0, none⟩)), (8, .int .i64 k)]) (μ := (x.modules.length)) ⟨rfl, 0, by omega, u1a.zero, S, rfl⟩ ?_)
  rintro μk D ε w ⟨rfl, k, hk, hm, S, eZ⟩
  refine wK eZ (wB S.k [.o 0] rfl ⟨rfl,⟨⟩⟩ (fun h61 => ?_) fun h61 => ?_)
  ·refine lC0 rfl ⟨⟩ (D0a b0a [0, 1, 2, 3, 4, 5, 6, 7, 8, 9] [] [] (by kernel_rfl) rfl (Cl _ _ _ _) (Cl.start S) ?_)
   obtain ⟨m, b67, p67, _, hxm, hA67, _, _, hc67, hr67⟩ := RdS.get (hMs18) (k) (by omega)
   obtain ⟨rfl, _⟩ := id hr67
   refine qO (S.q.a hc67) [.o 0,.x b67 p67,.f 0 0,.o 1] rfl ⟨rfl,rfl,⟨hA67,by omega⟩,rfl,⟨⟩⟩ (W1a r5a rfl rfl (fun w1 S1 X1 => G8a _ _ _) (fun h72 => ?_) fun h72 => ?_)
   ·refine qD rfl ⟨⟩ ?_
    rintro wR14 ⟨SR14, XR14⟩
    refine lP0 rfl ⟨by omega,⟨⟩⟩ ?_
    refine ⟨μk - 1, by omega, rfl, (k + 1), (by omega), (hm.succ hxm (by have := of_decide_eq_true h72; unfold t2a; omega)), SR14, rfl⟩
   refine qD rfl ⟨⟩ ?_
   rintro wR14 ⟨SR14, XR14⟩
   refine lT2 rfl ⟨⟩ rfl ⟨⟨_, _, rfl, iff_of_false (by omega) (fun hh => ?_)⟩, SR14.fin⟩
   obtain ⟨h, hnm⟩ := hh x hxx
   have q1 := h.points
   have q2 := h.asserts
   have q3 := h.nmod
   (have z := h.modules m (c0a hxm); unfold t2a at z; have z2 := of_decide_eq_false h72; omega)
  refine lC0 rfl ⟨⟩ (wL (fun μk D ε w => D = [] ∧ ∃ k : Nat, (k + μk = (x.asserts.length)) ∧ (u1a (x.asserts) k (fun e => Z6a p.cells e false t)) ∧ St [] w0 w [(some g6, 86, [.string x.name, .int .i64 x.points, .slice Aa18 na18 ca18, .slice Am18 nm18 cm18, .slice As18 ns18 cs18, .slice Al18 nl18 cl18, .bool x.asleep]), (some g2, 27, [.slice Ac nc cc, .slice Am nm cm, .slice Al nl cl, .slice At nt ct])] ∧ Sl ε [(1, .int .i64 t), (2, .pointer (some ⟨g2, 0, none⟩)), (6, .pointer (some ⟨g6, 0, none⟩)), (9, .int .i64 k)]) (μ := (x.asserts.length)) ⟨rfl, 0, by omega, u1a.zero, S, rfl⟩ ?_)
  rintro μk D ε w ⟨rfl, k, hk, ha, S, eZ⟩
  refine wK eZ (wB S.k [.o 0] rfl ⟨rfl,⟨⟩⟩ (fun h78 => ?_) fun h78 => ?_)
  ·refine lC0 rfl ⟨⟩ (D0a b0a [0, 1, 2, 3, 4, 5, 6, 7, 8] [] [] (by kernel_rfl) rfl (Cl _ _ _ _) (Cl.start S) ?_)
   obtain ⟨e, b85, p85, _, hxe, hA85, _, hl85, hc85, hr85⟩ := RdS.get (hEs18) (k) (by omega)
   obtain ⟨_, _, _, rfl, _, _, _, _, _⟩ := RdE.cells hr85
   refine qO (S.q.a hc85) [.w 1,.o 0,.x b85 p85,.v 0] rfl ⟨⟨rfl,hl85⟩,⟨hA85,by omega⟩,rfl,⟨rfl,rfl⟩,⟨⟩⟩ (W1a o3b rfl rfl (fun w1 S1 X1 => H4a p e M _ _ _ false t (hP.keep (S1.keep0 M)) (RdE.keep (S1.keep0 M) _ _ hr85) (hM' _ S1.size)) (fun h88 => ?_) fun h88 => ?_)
   ·refine qD rfl ⟨⟩ ?_
    rintro wR19 ⟨SR19, XR19⟩
    refine lP0 rfl ⟨by omega,⟨⟩⟩ ⟨μk - 1, by omega, rfl, (k + 1), (by omega), (ha.succ hxe (a2a h88)), SR19, rfl⟩
   refine qD rfl ⟨⟩ ?_
   rintro wR19 ⟨SR19, XR19⟩
   refine lT2 rfl ⟨⟩ rfl ⟨⟨_, _, rfl, iff_of_false (by omega) (fun hh => ?_)⟩, SR19.fin⟩
   obtain ⟨h, hnm⟩ := hh x hxx
   have q1 := h.points
   have q2 := h.asserts
   have q3 := h.nmod
   exact G1a h88 (h.truth e (c0a hxe))
  refine lC0 rfl ⟨⟩ (wL (fun μk D ε w => D = [] ∧ ∃ k : Nat, (k + μk = (x.steps.length)) ∧ (u1a (x.steps) k (fun s => U6a p t x.points s)) ∧ St [] w0 w [(some g6, 86, [.string x.name, .int .i64 x.points, .slice Aa18 na18 ca18, .slice Am18 nm18 cm18, .slice As18 ns18 cs18, .slice Al18 nl18 cl18, .bool x.asleep]), (some g2, 27, [.slice Ac nc cc, .slice Am nm cm, .slice Al nl cl, .slice At nt ct])] ∧ Sl ε [(1, .int .i64 t), (2, .pointer (some ⟨g2, 0, none⟩)), (6, .pointer (some ⟨g6, 0, none⟩)), (10, .int .i64 k)]) (μ := (x.steps.length)) ⟨rfl, 0, by omega, u1a.zero, S, rfl⟩ ?_)
  rintro μk D ε w ⟨rfl, k, hk, hs, S, eZ⟩
  refine wK eZ (wB S.k [.o 0] rfl ⟨rfl,⟨⟩⟩ (fun h94 => ?_) fun h94 => ?_)
  ·refine lC0 rfl ⟨⟩ (D0a b0a [0, 1, 2, 3, 4, 5, 6] [] [7, 8] (by kernel_rfl) rfl (Cl _ _ _ _) (Cl.start S) ?_)
   obtain ⟨s, b102, p102, _, hxs, hA102, _, hl102, hc102, hr102⟩ := RdS.get (hSt18) (k) (by omega)
   obtain ⟨_, _, _, _, _, _, rfl, ⟨_, _, _, _, _⟩, _, _, _, _⟩ := m2a.open_ hr102
   refine qN (S.q.a hc102) [.w 1,.o 0,.x b102 p102,.v 0] rfl ⟨⟨rfl,hl102⟩,⟨hA102,by omega⟩,rfl,⟨rfl,rfl⟩,⟨⟩⟩ (w5a ?_)
   refine o2a ?_
   rintro wR24 ⟨SR24, _⟩
   refine B0a SR24 N7c rfl rfl (c8b p s x t M _ _ _ (hP.keep (SR24.keep0 M)) (m2a.keep (SR24.keep0 M) _ _ hr102) (hM' _ SR24.size) hxx (by omega) (by omega)) ?_
   rintro v104 w104 ⟨_, rfl, hes⟩ S104 X104
   refine lB0 rfl ⟨⟩ (fun h106 => ?_) fun h106 => ?_
   ·refine lT2 rfl ⟨⟩ rfl ⟨⟨_, _, rfl, iff_of_false (by omega) (fun hh => ?_)⟩, S104.fin⟩
    obtain ⟨h, hnm⟩ := hh x hxx
    have q1 := h.points
    have q2 := h.asserts
    have q3 := h.nmod
    (have z := hes.2 (h.steps s (c0a hxs)); omega)
   refine lP0 rfl ⟨by omega,⟨⟩⟩ ⟨μk - 1, by omega, rfl, (k + 1), (by omega), (hs.succ hxs (hes.1 (by omega))), S104, rfl⟩
  refine lC0 rfl ⟨⟩ (wL (fun μk D ε w => D = [] ∧ ∃ k : Nat, (k + μk = (x.loops.length)) ∧ (u1a (x.loops) k (fun l => g9b p t x.points l)) ∧ St [] w0 w [(some g6, 86, [.string x.name, .int .i64 x.points, .slice Aa18 na18 ca18, .slice Am18 nm18 cm18, .slice As18 ns18 cs18, .slice Al18 nl18 cl18, .bool x.asleep]), (some g2, 27, [.slice Ac nc cc, .slice Am nm cm, .slice Al nl cl, .slice At nt ct])] ∧ Sl ε [(1, .int .i64 t), (2, .pointer (some ⟨g2, 0, none⟩)), (6, .pointer (some ⟨g6, 0, none⟩)), (12, .int .i64 k)]) (μ := (x.loops.length)) ⟨rfl, 0, by omega, u1a.zero, S, rfl⟩ ?_)
  rintro μk D ε w ⟨rfl, k, hk, hl, S, eZ⟩
  refine wK eZ (wB S.k [.o 0] rfl ⟨rfl,⟨⟩⟩ (fun h113 => ?_) fun h113 => ?_)
  ·obtain ⟨l, b119, p119, _, hxl, hA119, _, hl119, hc119, hr119⟩ := RdS.get (hLo18) (k) (by omega)
   obtain ⟨Ab119, nb119, cb119, Ag119, ng119, cg119, rfl, _, hB119, hE119, _, _⟩ := n5a.open_ hr119
   refine lO (S.k.a hc119) [.o 0,.x b119 p119,.v 0] rfl ⟨⟨rfl,hl119⟩,⟨hA119,by omega⟩,rfl,⟨⟩⟩ (n0a S Y9b rfl rfl ?_)
   intro g13 w13 S13 X13 G13
   refine e0a (kk := 0) (vs := [_, _, _, _, _, _]) S13 r0c rfl rfl rfl rfl rfl rfl rfl ?_
   intro w30_6 S30_6 X30_6
   dsimp only [k0a, List.set] at S30_6
   refine lO S30_6.k [.o 0,.o 1] rfl ⟨rfl,rfl,⟨⟩⟩ (y0a S30_6 r5a rfl rfl (G8a _ _ _) (fun h125 w125 S125 X125 => ?_) (fun h125 w125 S125 X125 => ?_))
   ·refine lO S125.k [.o 0] rfl ⟨rfl,⟨⟩⟩ (y0a S125 H3c rfl rfl (C3b M _ _ _ (hB119.keep (S125.keep0 M))) (fun h130 w130 S130 X130 => ?_) (fun h130 w130 S130 X130 => ?_))
    ·refine lC0 rfl ⟨⟩ (wL (fun μi D ε w => D = [] ∧ ∃ i : Nat, (i + μi = (l.body.length)) ∧ (u1a (l.body) i (fun z => 0 ≤ z ∧ z < x.points ∧ z ≠ l.head)) ∧ St [] w0 w [(some g13, 117, [.int .i64 l.head, .slice Ab119 nb119 cb119, .int .i64 l.variant.op, .int .i64 l.variant.w, .int .i64 l.variant.n, .slice Ag119 ng119 cg119]), (some g6, 86, [.string x.name, .int .i64 x.points, .slice Aa18 na18 ca18, .slice Am18 nm18 cm18, .slice As18 ns18 cs18, .slice Al18 nl18 cl18, .bool x.asleep]), (some g2, 27, [.slice Ac nc cc, .slice Am nm cm, .slice Al nl cl, .slice At nt ct])] ∧ Sl ε [(1, .int .i64 t), (2, .pointer (some ⟨g2, 0, none⟩)), (6, .pointer (some ⟨g6, 0, none⟩)), (12, .int .i64 k), (13, .pointer (some ⟨g13, 0, none⟩)), (14, .int .i64 i)]) (μ := (l.body.length)) ⟨rfl, 0, by omega, u1a.zero, S130, rfl⟩ ?_)
     rintro μi D ε w ⟨rfl, i, _, hb, S, eZ⟩
     refine wK eZ (wB S.k [.o 0] rfl ⟨rfl,⟨⟩⟩ (fun h137 => ?_) fun h137 => ?_)
     ·refine lC0 rfl ⟨⟩ (D0a b0a [0, 1, 2, 3, 4, 5, 6, 7, 8, 9, 10, 11, 12, 13, 14, 15, 16, 17, 18] [] [] (by kernel_rfl) rfl (Cl _ _ _ _) (Cl.start S) ?_)
      obtain ⟨z, b143, p143, _, hxz, hA143, _, _, hc143, hr143⟩ := RdS.get (hB119) (i) (by omega)
      obtain ⟨rfl, _⟩ := id hr143
      refine qO (S.q.a hc143) [.o 0,.x b143 p143,.f 0 0,.o 1] rfl ⟨rfl,rfl,⟨hA143,by omega⟩,rfl,⟨⟩⟩ (W1a r5a rfl rfl (fun w1 S1 X1 => G8a _ _ _) (fun h147 => ?_) fun h147 => ?_)
      ·obtain ⟨_, b153, p153, _, hx153, hA153, _, _, hc153, hr153⟩ := RdS.get (hB119) (i) (by omega)
       obtain rfl := Option.some.inj (hxz.symm.trans hx153)
       obtain ⟨rfl, _⟩ := id hr153
       refine qB (S.q.a hc153) [.o 0,.x b153 p153,.f 0 0,.o 0] rfl ⟨rfl,rfl,⟨hA153,by omega⟩,rfl,⟨⟩⟩ (fun h157 => ?_) fun h157 => ?_
       ·refine qD rfl ⟨⟩ ?_
        rintro wR36 ⟨SR36, XR36⟩
        refine lT2 rfl ⟨⟩ rfl ⟨⟨_, _, rfl, iff_of_false (by omega) (fun hh => ?_)⟩, SR36.fin⟩
        obtain ⟨h, hnm⟩ := hh x hxx
        have q1 := h.points
        have q2 := h.asserts
        have q3 := h.nmod
        (have zl := h.loops l (c0a hxl)
         have z1 := zl.head
         (have z3 := zl.body z (c0a hxz); omega))
       refine qD rfl ⟨⟩ ?_
       rintro wR36 ⟨SR36, XR36⟩
       refine lP0 rfl ⟨by omega,⟨⟩⟩ ?_
       refine ⟨μi - 1, by omega, rfl, (i + 1), (by omega), (hb.succ hxz (by have := of_decide_eq_true h147; omega)), SR36, rfl⟩
      refine qD rfl ⟨⟩ ?_
      rintro wR36 ⟨SR36, XR36⟩
      refine lT2 rfl ⟨⟩ rfl ⟨⟨_, _, rfl, iff_of_false (by omega) (fun hh => ?_)⟩, SR36.fin⟩
      obtain ⟨h, hnm⟩ := hh x hxx
      have q1 := h.points
      have q2 := h.asserts
      have q3 := h.nmod
      (have zl := h.loops l (c0a hxl)
       have z1 := zl.head
       (have z3 := zl.body z (c0a hxz); (have z2 := of_decide_eq_false h147; omega)))
     refine lO S.k [.o 0,.o 2] rfl ⟨rfl,rfl,⟨⟩⟩ (y0a S Q5b rfl rfl (O8a _ M _ _ _ p.cells false (RdE.keep (S.keep0 M) _ _ hE119) (hC.keep (S.keep0 M))) (fun h163 w163 S163 X163 => ?_) (fun h163 w163 S163 X163 => ?_))
     ·refine lO S163.k [.w 2,.o 0] rfl ⟨rfl,⟨rfl,rfl⟩,⟨⟩⟩ (y0a S163 z2b rfl rfl (R5a p _ M _ _ _ _ false t (hP.keep (S163.keep0 M)) (RdE.keep (S163.keep0 M) _ _ hE119) (hM' _ S163.size) h163) (fun h170 w170 S170 X170 => ?_) (fun h170 w170 S170 X170 => ?_))
      ·refine lP0 rfl ⟨by omega,⟨⟩⟩ ?_
       refine ⟨μk - 1, by omega, rfl, (k + 1), (by omega), (hl.succ hxl (⟨by have := of_decide_eq_true h125; omega, a2a h130, hb.all (by omega), h163, a2a h170⟩)), S170.tail, rfl⟩
      refine lT2 rfl ⟨⟩ rfl ⟨⟨_, _, rfl, iff_of_false (by omega) (fun hh => ?_)⟩, S170.fin⟩
      obtain ⟨h, hnm⟩ := hh x hxx
      have q1 := h.points
      have q2 := h.asserts
      have q3 := h.nmod
      (have zl := h.loops l (c0a hxl)
       have z1 := zl.head
       exact G1a h170 zl.variant.2)
     refine lT2 rfl ⟨⟩ rfl ⟨⟨_, _, rfl, iff_of_false (by omega) (fun hh => ?_)⟩, S163.fin⟩
     obtain ⟨h, hnm⟩ := hh x hxx
     have q1 := h.points
     have q2 := h.asserts
     have q3 := h.nmod
     (have zl := h.loops l (c0a hxl)
      have z1 := zl.head
      (have z4 := zl.variant.1; rw [h163] at z4; cases z4; done))
    refine lT2 rfl ⟨⟩ rfl ⟨⟨_, _, rfl, iff_of_false (by omega) (fun hh => ?_)⟩, S130.fin⟩
    obtain ⟨h, hnm⟩ := hh x hxx
    have q1 := h.points
    have q2 := h.asserts
    have q3 := h.nmod
    (have zl := h.loops l (c0a hxl)
     have z1 := zl.head
     exact G1a h130 zl.up)
   refine lT2 rfl ⟨⟩ rfl ⟨⟨_, _, rfl, iff_of_false (by omega) (fun hh => ?_)⟩, S125.fin⟩
   obtain ⟨h, hnm⟩ := hh x hxx
   have q1 := h.points
   have q2 := h.asserts
   have q3 := h.nmod
   (have zl := h.loops l (c0a hxl)
    have z1 := zl.head
    (have z2 := of_decide_eq_false h125; omega))
  refine lT2 rfl ⟨⟩ rfl ⟨⟨_, _, rfl, iff_of_true (by omega) (fun x' hx' => ?_)⟩, S.fin⟩
  rw [hxx] at hx'; cases hx'
  refine ⟨⟨a2a h22, ⟨by omega, by omega⟩, by omega, by omega, by omega, by omega, hm.all (by omega), ha.all (by omega), hs.all (by omega), hl.all (by omega)⟩, fun y hy => hn y ?_⟩
  rwa [show j = t by omega]
 refine lT2 rfl ⟨⟩ rfl ⟨⟨_, _, rfl, iff_of_false (by omega) (fun hh => ?_)⟩, S22.fin⟩
 obtain ⟨h, hnm⟩ := hh x hxx
 have q1 := h.points
 have q2 := h.asserts
 have q3 := h.nmod
 exact G1a h22 h.name
theorem r3b {p : f0a} (h : b1a p) : U4c p := ⟨h.ncells, h.nmodules, h.nlocks, h.nthreads, fun x hx => by
 obtain ⟨i, hi, rfl⟩ := List.getElem_of_mem hx
 have q := h.threads i hi
 exact ⟨q.points.2, q.nsteps, q.nloops⟩⟩
theorem n7c {p : f0a} (hp : b1a p) {k : Nat} {x : Q0a} (hx : p.threads[k]? = some x) : g6a p k x := by
 obtain ⟨h, rfl⟩ := List.getElem?_eq_some_iff.1 hx
 exact hp.threads k h
theorem a5c {l : List Q0a} (h : l.Pairwise (fun a b => a.name ≠ b.name)) {t : Nat} {x : Q0a} (hx : l[t]? = some x) : ∀ y ∈ l.take t, y.name ≠ x.name := fun y hy => by
 obtain ⟨_, hi⟩ := List.getElem?_of_mem hy
 rw [List.getElem?_take] at hi
 split at hi
 ·exact D7a h hi hx (by omega)
 ·cases hi
theorem i4b (p : f0a) (M : List Nat) (w0 : World) (cs : List Value) (hP : j1a M w0 p cs) (hM : ∀ g ∈ M, g < w0.heap.size) (hN : X2b p) :
 M0a Tryz.prog 23 #[.agg cs.toArray] w0 fun v w' => (∃ a b c, v = .tuple #[.int .i64 a, .int .i64 b, .int .i64 c] ∧ (a = 0 ↔ b1a p)) ∧ Below w0.heap.size w0 w' := by
 obtain ⟨Ac, nc, cc, Am, nm, cm, Al, nl, cl, At, nt, ct, rfl, _, _, _, _, _, _, _, _, _, _, _, _⟩ := hP.open_
 have S := St.refl w0
 have hM' : ∀ w' : World, w0.heap.size ≤ w'.heap.size → ∀ g ∈ M, g < w'.heap.size := fun w' h g hg => by have := hM g hg; omega
 refine a0a Tryz.func23 rfl Tryz.ntmps23 rfl ?_
 refine wO0 rfl ⟨⟩ (j0a S (by conv => lhs; whnf) rfl ?_)
 intro g1 w1 S1 X1 G1
 refine lO S1.k [.w 0] rfl ⟨⟨rfl,rfl⟩,⟨⟩⟩ (B0a S1 J7c rfl rfl (Q4b p M _ _ (hP.keep (S1.keep0 M))) ?_)
 rintro v13 w13 ⟨a1, _, rfl, hq1⟩ S13 X13
 refine lB0 rfl ⟨⟩ (fun h17 => ?_) fun h17 => ?_
 ·refine lR0 rfl ⟨⟩ (G4b rfl (by conv => lhs; whnf) (by conv => lhs; whnf) (by conv => lhs; whnf) ?_)
  refine ⟨⟨_, _, _, rfl, iff_of_false (by omega) (fun h => ?_)⟩, S13.fin⟩
  have z1 := hq1.2 (r3b h)
  omega
 refine lC0 rfl ⟨⟩ (wL (fun μk D ε w => D = [] ∧ ∃ k : Nat, ∃ ev : Int, (k + μk = (3)) ∧ ((1 ≤ k → o8b p) ∧ (2 ≤ k → z3c p) ∧ (3 ≤ k → i8b p)) ∧ St [] w0 w [(some g1, 27, [.slice Ac nc cc, .slice Am nm cm, .slice Al nl cl, .slice At nt ct])] ∧ Sl ε [(1, .pointer (some ⟨g1, 0, none⟩)), (5, .int .i64 ev), (7, .int .i64 k)]) (μ := (3)) ⟨rfl, 0, a1, by omega, ⟨fun h => absurd h (by omega), fun h => absurd h (by omega), fun h => absurd h (by omega)⟩, S13, rfl⟩ ?_)
 rintro μk D ε w ⟨rfl, k, ev, hk, hr, S, eZ⟩
 refine wK eZ (wB0 rfl ⟨⟩ (fun h21 => ?_) fun h21 => ?_)
 ·refine lB0 rfl ⟨⟩ (fun h26 => ?_) fun h26 => ?_
  ·refine lO S.k [.w 0] rfl ⟨⟨rfl,rfl⟩,⟨⟩⟩ (B0a S o7c rfl rfl (V6b p M _ _ (hP.keep (S.keep0 M)) hN) ?_)
   rintro v28 w28 ⟨a2, rfl, hq2⟩ S28 X28
   refine lB0 rfl ⟨⟩ (fun h38 => ?_) fun h38 => ?_
   ·refine lR0 rfl ⟨⟩ (G4b rfl (by conv => lhs; whnf) (by conv => lhs; whnf) (by conv => lhs; whnf) ?_)
    refine ⟨⟨_, _, _, rfl, iff_of_false (by omega) (fun h => ?_)⟩, S28.fin⟩
    have z1 := hq1.2 (r3b h)
    (have z2 := hq2.2 ⟨h.cells, h.cellNames⟩; omega)
   refine lP0 rfl ⟨by omega,⟨⟩⟩ ⟨μk - 1, by omega, rfl, (k + 1), (a2), (by omega), ?_, S28, rfl⟩
   have hq3 := hq2.1 (by omega)
   refine ⟨fun h => ?_, fun h => ?_, fun h => ?_⟩
   all_goals first
    | (exfalso; omega)
    | exact hq3
  refine lB0 rfl ⟨⟩ (fun h30 => ?_) fun h30 => ?_
  ·refine lO S.k [.w 0] rfl ⟨⟨rfl,rfl⟩,⟨⟩⟩ (B0a S i7c rfl rfl (T2b p M _ _ (hP.keep (S.keep0 M)) hN (hM' _ S.size)) ?_)
   rintro v32 w32 ⟨a2, rfl, hq2⟩ S32 X32
   refine lB0 rfl ⟨⟩ (fun h38 => ?_) fun h38 => ?_
   ·refine lR0 rfl ⟨⟩ (G4b rfl (by conv => lhs; whnf) (by conv => lhs; whnf) (by conv => lhs; whnf) ?_)
    refine ⟨⟨_, _, _, rfl, iff_of_false (by omega) (fun h => ?_)⟩, S32.fin⟩
    have z1 := hq1.2 (r3b h)
    (have z2 := hq2.2 ⟨h.modules, h.moduleNames⟩; omega)
   refine lP0 rfl ⟨by omega,⟨⟩⟩ ⟨μk - 1, by omega, rfl, (k + 1), (a2), (by omega), ?_, S32, rfl⟩
   have hq3 := hq2.1 (by omega)
   refine ⟨fun h => ?_, fun h => ?_, fun h => ?_⟩
   all_goals first
    | (exfalso; omega)
    | exact hq3
    | exact hr.1 (by omega)
  refine lB0 rfl ⟨⟩ (fun h34 => ?_) (fun h34 => by exfalso; omega)
  refine lO S.k [.w 0] rfl ⟨⟨rfl,rfl⟩,⟨⟩⟩ (B0a S C8c rfl rfl (J6b p M _ _ (hP.keep (S.keep0 M)) (hM' _ S.size)) ?_)
  rintro v36 w36 ⟨a2, rfl, hq2⟩ S36 X36
  refine lB0 rfl ⟨⟩ (fun h38 => ?_) fun h38 => ?_
  ·refine lR0 rfl ⟨⟩ (G4b rfl (by conv => lhs; whnf) (by conv => lhs; whnf) (by conv => lhs; whnf) ?_)
   refine ⟨⟨_, _, _, rfl, iff_of_false (by omega) (fun h => ?_)⟩, S36.fin⟩
   have z1 := hq1.2 (r3b h)
   (have z2 := hq2.2 ⟨h.locks, h.lockCells⟩; omega)
  refine lP0 rfl ⟨by omega,⟨⟩⟩ ⟨μk - 1, by omega, rfl, (k + 1), (a2), (by omega), ?_, S36, rfl⟩
  have hq3 := hq2.1 (by omega)
  refine ⟨fun h => ?_, fun h => ?_, fun h => ?_⟩
  all_goals first
   | exact hq3
   | exact hr.1 (by omega)
   | exact hr.2.1 (by omega)
 refine lC0 rfl ⟨⟩ (wL (fun μk D ε w => D = [] ∧ ∃ k : Nat, (k + μk = (p.threads.length)) ∧ (∀ j x, p.threads[j]? = some x → j < k → g6a p j x ∧ ∀ y ∈ p.threads.take j, y.name ≠ x.name) ∧ St [] w0 w [(some g1, 27, [.slice Ac nc cc, .slice Am nm cm, .slice Al nl cl, .slice At nt ct])] ∧ Sl ε [(1, .pointer (some ⟨g1, 0, none⟩)), (8, .int .i64 k)]) (μ := (p.threads.length)) ⟨rfl, 0, by omega, (fun j x _ h => absurd h (by omega)), S, rfl⟩ ?_)
 rintro μk D ε w ⟨rfl, k, hk, ht, S, eZ⟩
 refine wK eZ (wB S.k [.o 0] rfl ⟨rfl,⟨⟩⟩ (fun h44 => ?_) fun h44 => ?_)
 ·refine lO S.k [.w 0] rfl ⟨⟨rfl,rfl⟩,⟨⟩⟩ (B0a S u7c rfl rfl (v4b p k M _ _ (hP.keep (S.keep0 M)) (hM' _ S.size) hN (hq1.1 (by omega)) (by omega)) ?_)
  rintro v50 w50 ⟨_, _, rfl, hq3⟩ S50 X50
  refine lB0 rfl ⟨⟩ (fun h54 => ?_) fun h54 => ?_
  ·refine lR0 rfl ⟨⟩ (G4b rfl (by conv => lhs; whnf) (by conv => lhs; whnf) (by conv => lhs; whnf) ?_)
   refine ⟨⟨_, _, _, rfl, iff_of_false (by omega) (fun h => ?_)⟩, S50.fin⟩
   have z1 := hq1.2 (r3b h)
   (have z3 := hq3.2 (fun x hx => ⟨n7c h hx, a5c h.threadNames hx⟩); omega)
  refine lP0 rfl ⟨by omega,⟨⟩⟩ ⟨μk - 1, by omega, rfl, (k + 1), (by omega), ?_, S50, rfl⟩
  intro j x hx hj
  by_cases hjk : j = k
  ·subst hjk; exact hq3.1 (by omega) x hx
  ·exact ht j x hx (by omega)
 refine lR0 rfl ⟨⟩ (G4b rfl (by conv => lhs; whnf) (by conv => lhs; whnf) (by conv => lhs; whnf) ?_)
 refine ⟨⟨_, _, _, rfl, iff_of_true (by omega) ?_⟩, S.fin⟩
 have h1 := hq1.1 (by omega)
 have h2 := hr.1 (by omega)
 have h3 := hr.2.1 (by omega)
 have h4 := hr.2.2 (by omega)
 exact ⟨h1.1, h1.2.1, h1.2.2.1, h1.2.2.2.1, h2.1, h2.2, h3.1, h3.2, h4.1, h4.2, fun t h => (ht t _ (List.getElem?_eq_getElem h) (by omega)).1, F8a (fun j x hx => (ht j x hx (by have := S1a hx; omega)).2)⟩
theorem K6b (p : f0a) (M : List Nat) (w0 : World) (cs : List Value) (hP : j1a M w0 p cs) (hM : ∀ g ∈ M, g < w0.heap.size) (hN : X2b p) :
 M0a Tryz.prog 23 #[.agg cs.toArray] w0 fun v w' => (∃ a b c, v = .tuple #[.int .i64 a, .int .i64 b, .int .i64 c] ∧ (a = 0 → b1a p)) ∧ Below w0.heap.size w0 w' :=
 (i4b p M w0 cs hP hM hN).mono fun _ _ ⟨⟨a, b, c, h1, h2⟩, hb⟩ => ⟨⟨a, b, c, h1, h2.1⟩, hb⟩
section
variable {P : Program} {r : Option Nat} {N : Nat} {D : List Deferred} {e : Env} {w w0 : World} {ops : Array Oper} {rest : List Oper} {K : List Deferred → Env → World → Prop} {L : List Ent} {M : List Nat}
variable {K' : List Deferred → Env → World → Prop} {d : Nat} {t : TypeId} {p : String} {af : Array Edge} {f : FuncId} {args : Array Operand} {at_ : Array TypeId} {vs : List Value} {x y z : Operand}
theorem w4a {g : Operand} {first caps : Array Value} {R : Value → World → Prop} (hH : Has P f) (hg : ev e g = .func (.func f) first caps) (hvs : first.toList ++ args.toList.map (ev e) ++ caps.toList = vs) (hd : Nat.ble (d + 1) N = true)
 (hc : M0a P f vs.toArray w R) (h : ∀ v w', R v w' → WL P r N ops rest K D (upd e d v) w') :
 WL P r N ops (⟨some d, .call { callee := .value g, args := args, argTypes := at_ }, t, p, af, none⟩ :: rest) K D e w := by
 refine q4b rfl rfl hd (by simp) ?_ hc h
 subst hvs
 have : (first ++ args.map (ev e) ++ caps) = (first.toList ++ args.toList.map (ev e) ++ caps.toList).toArray := by apply Array.ext'; simp
 simp [execOp, resolve, Deferred.ofValue, invoke, hg, hH _ w, this]
theorem g2a {fn : Fn} {fst cap : Array Operand} {us vs : List Value} (hus : fst.toList.map (ev e) = us) (hvs : cap.toList.map (ev e) = vs) (hd : Nat.ble (d + 1) N = true) (h : WL P r N ops rest K D (upd e d (.func fn us.toArray vs.toArray)) w) :
 WL P r N ops (⟨some d, .makeFunc fn fst cap, t, p, af, none⟩ :: rest) K D e w := by
 have hc : (cap.map (ev e)) = vs.toArray := by subst hvs; apply Array.ext'; simp
 have hf : (fst.map (ev e)) = us.toArray := by subst hus; apply Array.ext'; simp
 exact c1a rfl rfl hd (by simp) (by simp [execOp, Instr.makeFunc, hc, hf]) h
def i2a (P : Program) (M : List Nat) (w : World) (v : Value) (q : Int → Bool) : Prop :=
 ∃ f first caps, v = .func (.func f) first caps ∧ Has P f ∧ ∀ w', w0a M w w' → ∀ c, i64 c → M0a P f (first.toList ++ [Value.int .i64 c] ++ caps.toList).toArray w' fun v w'' => v = .bool (q c) ∧ Below w'.heap.size w' w''
theorem i2a.keep {v : Value} {q : Int → Bool} {w' : World} (h : i2a P M w v q) (hk : w0a M w w') : i2a P M w' v q := by
 obtain ⟨f, first, caps, h1, h2, h3⟩ := h
 exact ⟨f, first, caps, h1, h2, fun w'' hk' => h3 w'' (hk.trans hk')⟩
theorem i2a.less {M' : List Nat} {v : Value} {q : Int → Bool} (h : i2a P M w v q) (hM : ∀ g ∈ M', g ∈ M) : i2a P M' w v q := by
 obtain ⟨f, first, caps, h1, h2, h3⟩ := h
 exact ⟨f, first, caps, h1, h2, fun w'' hk' => h3 w'' (hk'.mono hM)⟩
theorem C1b {M' : List Nat} {g : Operand} {c : Int} {q : Int → Bool} {v : Value} {a : Operand} (S : St M w0 w L) (hp : i2a P M' w v q) (hg : ev e g = v) (ha : ev e a = .int .i64 c) (hc : i64 c) (hd : Nat.ble (d + 1) N = true)
 (h1 : q c = true → ∀ w1, St M w0 w1 L → w0a [] w w1 → WL P r N ops rest K D (upd e d (.bool true)) w1) (h2 : q c = false → ∀ w1, St M w0 w1 L → w0a [] w w1 → WL P r N ops rest K D (upd e d (.bool false)) w1) :
 WL P r N ops (⟨some d, .call { callee := .value g, args := #[a], argTypes := at_ }, t, p, af, none⟩ :: rest) K D e w := by
 obtain ⟨_, _, _, rfl, hH, hf⟩ := hp
 refine w4a hH hg (by simp [ha]) hd (hf w (w0a.refl _ _) c hc) fun v w' ⟨hv, hb⟩ => ?_
 subst hv
 cases hq : q c
 ·exact h2 hq w' (S.later hb) (w0a.of_below hb)
 ·exact h1 hq w' (S.later hb) (w0a.of_below hb)
theorem S8a {M' : List Nat} {g : Operand} {c : Int} {q : Int → Bool} {v : Value} {a : Operand} (S : St M w0 w L) (hp : i2a P M' w v q) (hg : ev e g = v) (ha : ev e a = .int .i64 c) (hc : i64 c) (hq : q c = true) (hd : Nat.ble (d + 1) N = true)
 (h1 : ∀ w1, St M w0 w1 L → w0a [] w w1 → WL P r N ops rest K D (upd e d (.bool true)) w1) :
 WL P r N ops (⟨some d, .call { callee := .value g, args := #[a], argTypes := at_ }, t, p, af, none⟩ :: rest) K D e w :=
 C1b S hp hg ha hc hd (fun _ => h1) (fun h => by rw [hq] at h; cases h)
def w2a (P : Program) (k : TypeId) (w : World) (b : Nat) (l : List (Value × Value)) : Prop :=
 ∃ es clock, w.heap[b]? = some (.map es clock) ∧ es.toList.map (fun x => (x.key, x.val)) = l ∧ ∀ x ∈ l, ∃ q, keyOf P k x.1 = some q
theorem w2a.keep {k : TypeId} {b : Nat} {l : List (Value × Value)} {w' : World} (h : w2a P k w b l) (hk : w0a M w w') (hb : b ∉ M) : w2a P k w' b l := by
 obtain ⟨es, clock, h1, h2, h3⟩ := h
 refine ⟨es, clock, ?_, h2, h3⟩
 rw [hk.same b (Array.getElem?_eq_some_iff.1 h1).1 hb]; exact h1
theorem w2a.lt {k : TypeId} {b : Nat} {l : List (Value × Value)} (h : w2a P k w b l) : b < w.heap.size := by
 obtain ⟨_, _, h1, _, _⟩ := h
 exact (Array.getElem?_eq_some_iff.1 h1).1
theorem w2a.ne {k : TypeId} {b g tb : Nat} {cs : List Value} {l : List (Value × Value)} (h : w2a P k w b l) (hg : p0a w (g, tb, cs)) : b ≠ g := by
 obtain ⟨_, _, h1, _, _⟩ := h
 rintro rfl
 unfold p0a at hg
 rw [h1] at hg
 cases hg
theorem St.notMap {k : TypeId} {b : Nat} {l : List (Value × Value)} (S : St M w0 w L) (h : w2a P k w b l) : ∀ x ∈ L, x.1 ≠ some b := fun x hx hb => by
 have := (S.own x hx b hb).2
 exact h.ne this rfl
theorem e4a {k ty : TypeId} (S : St M w0 w L) (hd : Nat.ble (d + 1) N = true)
 (h : ∀ g w1, St M w0 w1 L → w0a [] w w1 → w.heap.size ≤ g → w2a P k w1 g [] → WL P r N ops rest K D (upd e d (.map (some g))) w1) :
 WL P r N ops (⟨some d, .makeMap ty none, t, p, af, none⟩ :: rest) K D e w := by
 refine c1a (v := .map (some w.heap.size)) (w' := w.alloc (.map #[] 0)) rfl rfl hd (by simp) ?_ (h _ _ (S.keeps (S.below.alloc _) fun b hb g hg => Below.heap_alloc w _ g ((S.own b hb g hg).2.lt)) (K2a _ _ _) (Nat.le_refl _) ⟨#[], 0, (MapKept.heap_alloc w _).1, rfl, by simp⟩)
 simp [execOp, run_makeMap]
theorem p5b {k el : TypeId} {ty b : Nat} {l : List (Value × Value)} {key zv : Value} {q : Lit} (ok : Bool) (K : Keyed P k) (ht : P.underlying ty = some (.map k el)) (hz : ∀ w, (zeroValue el).run P w = .ok zv w) (h : w2a P k w b l) (hkey : keyOf P k key = some q) :
 ((Instr.lookup ty (.map (some b)) key ok).run P w = .ok (if ok then .tuple #[zv, .bool false] else zv) w ∧ ∀ x ∈ l, x.1 ≠ key) ∨
 ∃ v, (key, v) ∈ l ∧ (Instr.lookup ty (.map (some b)) key ok).run P w = .ok (if ok then .tuple #[v, .bool true] else v) w := by
 obtain ⟨es, _, h1, rfl, h3⟩ := h
 rcases K.find w hkey es.toList (fun x hx => h3 _ (List.mem_map.2 ⟨x, hx, rfl⟩)) with ⟨h4, h5⟩ | ⟨j, e0, h4, h5, h6⟩
 ·refine .inl ⟨by simp [Instr.lookup, run_underlying ht, MapKept.run_getObj_map h1, K.check w _ hkey, h4, hz w, Result.andThen], fun x hx => ?_⟩
  obtain ⟨y, hy, rfl⟩ := List.mem_map.1 hx
  exact h5 y hy
 ·refine .inr ⟨e0.val, List.mem_map.2 ⟨e0, List.mem_of_getElem? h5, by rw [← h6]⟩, by simp [Instr.lookup, run_underlying ht, MapKept.run_getObj_map h1, K.check w _ hkey, h4, Result.andThen]⟩
theorem B9a {k el : TypeId} {ty b : Nat} {l : List (Value × Value)} {key zv : Value} {q : Lit} (K : Keyed P k) (ht : P.underlying ty = some (.map k el)) (hz : ∀ w, (zeroValue el).run P w = .ok zv w) (h : w2a P k w b l) (hx : ev e x = .map (some b)) (hy : ev e y = key) (hkey : keyOf P k key = some q) (hd : Nat.ble (d + 1) N = true)
 (h1 : ∀ v, (key, v) ∈ l → WL P r N ops rest K' D (upd e d (.tuple #[v, .bool true])) w) (h2 : (∀ x ∈ l, x.1 ≠ key) → WL P r N ops rest K' D (upd e d (.tuple #[zv, .bool false])) w) :
 WL P r N ops (⟨some d, .lookup ty x y true, t, p, af, none⟩ :: rest) K' D e w := by
 rcases p5b true K ht hz h hkey with ⟨h4, h5⟩ | ⟨v, h4, h5⟩
 ·exact c1a rfl rfl hd (by simp) (by simp [execOp, hx, hy, h4]) (h2 h5)
 ·exact c1a rfl rfl hd (by simp) (by simp [execOp, hx, hy, h5]) (h1 v h4)
theorem d3b {k el : TypeId} {ty b : Nat} {l : List (Value × Value)} {key zv : Value} {q : Lit} (K : Keyed P k) (ht : P.underlying ty = some (.map k el)) (hz : ∀ w, (zeroValue el).run P w = .ok zv w) (h : w2a P k w b l) (hx : ev e x = .map (some b)) (hy : ev e y = key) (hkey : keyOf P k key = some q) (hd : Nat.ble (d + 1) N = true)
 (h1 : ∀ v, (key, v) ∈ l → WL P r N ops rest K' D (upd e d v) w) (h2 : (∀ x ∈ l, x.1 ≠ key) → WL P r N ops rest K' D (upd e d zv) w) :
 WL P r N ops (⟨some d, .lookup ty x y false, t, p, af, none⟩ :: rest) K' D e w := by
 rcases p5b false K ht hz h hkey with ⟨h4, h5⟩ | ⟨v, h4, h5⟩
 ·exact c1a rfl rfl hd (by simp) (by simp [execOp, hx, hy, h4]) (h2 h5)
 ·exact c1a rfl rfl hd (by simp) (by simp [execOp, hx, hy, h5]) (h1 v h4)
theorem e7a {k el : TypeId} {ty b : Nat} {l : List (Value × Value)} {key v : Value} {q : Lit} (S : St M w0 w L) (K : Keyed P k) (ht : P.underlying ty = some (.map k el)) (h : w2a P k w b l) (hx : ev e x = .map (some b)) (hy : ev e y = key) (hz : ev e z = v) (hkey : keyOf P k key = some q) (hnew : ∀ x ∈ l, x.1 ≠ key) (hb : w0.heap.size ≤ b ∨ b ∈ M)
 (hk : ∀ w1, St M w0 w1 L → w0a [b] w w1 → w2a P k w1 b (l ++ [(key, v)]) → WL P r N ops rest K' D e w1) :
 WL P r N ops (⟨none, .mapUpdate ty x y z, t, p, af, none⟩ :: rest) K' D e w := by
 have hmap := h
 obtain ⟨es, clock, h1, rfl, h3⟩ := h
 have hlt : b < w.heap.size := (Array.getElem?_eq_some_iff.1 h1).1
 have hsame : ∀ g, g ≠ b → (w.heap.setIfInBounds b (.map (es.push ⟨key, v, clock⟩) (clock + 1)))[g]? = w.heap[g]? := fun g hg => Array.getElem?_setIfInBounds_ne (fun e => hg e.symm)
 rcases K.find w hkey es.toList (fun x hx => h3 _ (List.mem_map.2 ⟨x, hx, rfl⟩)) with ⟨h4, h5⟩ | ⟨j, e0, h4, h5, h6⟩
 ·refine U4b (w' := { w with heap := w.heap.setIfInBounds b (.map (es.push ⟨key, v, clock⟩) (clock + 1)) }) rfl rfl (by simp) ?_ (hk _ ?_ ?_ ?_)
  ·simp [execOp, hx, hy, hz, Instr.mapUpdate, run_underlying ht, MapKept.run_getObj_map h1, K.check w false hkey, h4, MapKept.run_setObj_map _ h1, Result.andThen]
  ·refine S.keeps ⟨S.below.os, S.below.tape, S.below.output, by simpa using S.below.size, fun g hg hm => ?_⟩ (fun x hx g hg => hsame g (fun hh => S.notMap hmap x hx (hh ▸ hg)))
   refine (hsame g (fun hh => ?_)).trans (S.below.block g hg hm)
   subst hh
   rcases hb with hb | hb
   ·omega
   ·exact hm hb
  ·exact ⟨by simp, fun g _ hm => hsame g (fun hh => hm (by simp [hh]))⟩
  ·refine ⟨es.push ⟨key, v, clock⟩, clock + 1, by simp [hlt], by simp, fun x hx => ?_⟩
   rcases List.mem_append.1 hx with hx | hx
   ·exact h3 x hx
   ·rw [List.mem_singleton.1 hx]; exact ⟨q, hkey⟩
 ·exact absurd h6 (hnew _ (List.mem_map.2 ⟨e0, List.mem_of_getElem? h5, rfl⟩))
theorem St.reflM (M : List Nat) (w : World) : St M w w [] := ⟨v0a.refl _ _, by simp, by simp⟩
theorem St.turned {b : Nat} {w1 : World} {k : TypeId} {l : List (Value × Value)} (S : St M w0 w L) (hm : w2a P k w b l) (hb : w0.heap.size ≤ b ∨ b ∈ M) (h : v0a [b] w w1) : St M w0 w1 L :=
 S.keeps ⟨h.os.trans S.below.os, h.tape.trans S.below.tape, h.output.trans S.below.output, Nat.le_trans S.below.size h.size, fun g hg hm' => (h.block g (Nat.lt_of_lt_of_le hg S.below.size) (fun hh => by
  rw [List.mem_singleton] at hh; subst hh
  rcases hb with hb | hb
  ·omega
  ·exact hm' hb)).trans (S.below.block g hg hm')⟩
  fun x hx g hg => h.block g (S.own x hx g hg).2.lt (fun hh => by rw [List.mem_singleton] at hh; subst hh; exact S.notMap hm x hx hg)
theorem w0a.of_belowB {b : Nat} {w1 : World} (h : v0a [b] w w1) : w0a [b] w w1 := ⟨h.size, fun i hi hm => h.block i hi hm⟩
variable {kd k2 : IntKind} {a : Int} {src dst xt yt : TypeId}
theorem s8b {ds : TypeDesc} (hs : P.underlying src = some ds) (ht : P.underlying dst = some (.int k2)) (hx : ev e x = .int kd a) (hd : Nat.ble (d + 1) N = true) (h : WL P r N ops rest K D (upd e d (.int k2 (k2.wrap a))) w) :
 WL P r N ops (⟨some d, .convert src dst x, t, p, af, none⟩ :: rest) K D e w :=
 c1a rfl rfl hd (by simp) (by simp [execOp, hx, convert, run_underlying hs, run_underlying ht, Conv.intToInt]) h
theorem R4c {n : Nat} (hx : ev e x = .int .i64 1) (hy : ev e y = .int kd (n : Int)) (hn : n ≤ 62) (hd : Nat.ble (d + 1) N = true) (h : WL P r N ops rest K D (upd e d (.int .i64 ((2 ^ n : Nat) : Int))) w) :
 WL P r N ops (⟨some d, .binOp .shl xt x y yt, t, p, af, none⟩ :: rest) K D e w :=
 c1a rfl rfl hd (by simp) (by
  have h2 : (2 : Nat) ^ n ≤ 2 ^ 62 := Nat.pow_le_pow_right (by omega) hn
  have h3 : min n IntKind.i64.bits = n := by simp [IntKind.bits]; omega
  have h4 : ((1 : Int) * 2 ^ n) = ((2 ^ n : Nat) : Int) := by simp
  have h5 : IntKind.i64.wrap ((2 ^ n : Nat) : Int) = ((2 ^ n : Nat) : Int) := by
   generalize (2 : Nat) ^ n = q at h2
   exact B5a ⟨by omega, by omega⟩
  have h6 : ¬ ((n : Int) < 0) := by omega
  simp only [execOp, hx, hy, eqGuard_shl, binOp_shl, Op.shift, h6, if_false, Int.toNat_natCast, h3, h4, h5, Sem.run_bind, Sem.run_pure, Result.andThen_ok]) h
end
def RdP (M : List Nat) (w : World) (e : E) (b o : Nat) : Prop := b ∉ M ∧ ∃ cs, k1a w b o cs ∧ RdE M w e cs
theorem RdP.keep {M : List Nat} {w w' : World} {e : E} {b o : Nat} (h : RdP M w e b o) (hk : w0a M w w') : RdP M w' e b o := by
 obtain ⟨h1, cs, h2, h3⟩ := h
 exact ⟨h1, cs, h2.keep hk h1, RdE.keep hk _ _ h3⟩
theorem RdP.more {M M' : List Nat} {w : World} {e : E} {b o : Nat} (h : RdP M w e b o) (hM : ∀ g ∈ M', g ∈ M ∨ w.heap.size ≤ g) : RdP M' w e b o := by
 obtain ⟨h1, cs, h2, h3⟩ := h
 refine ⟨fun hh => ?_, cs, h2, RdE.more hM _ _ h3⟩
 rcases hM b hh with h | h
 ·exact h1 h
 ·have hl := h3.length
  have := World.block_lt_of_cell? w _ (h2 0 cs[0] (List.getElem?_eq_getElem (by omega)))
  simp at this; omega
theorem RdP.less {M M' : List Nat} {w : World} {e : E} {b o : Nat} (h : RdP M w e b o) (hM : ∀ g ∈ M', g ∈ M) : RdP M' w e b o := by
 obtain ⟨h1, cs, h2, h3⟩ := h
 exact ⟨fun hh => h1 (hM b hh), cs, h2, RdE.less hM _ _ h3⟩
theorem RdP.kid {M : List Nat} {w : World} {e : E} {b o : Nat} (hb : b ∉ M) (hkk : ∀ (i : Nat) (h : i < e.kids.length), ∃ cs', k1a w b (o + i * 4) cs' ∧ RdE M w e.kids[i] cs') (i : Nat) (hi : i < e.kids.length) : RdP M w e.kids[i] b (o + i * 4) := by
 obtain ⟨cs, h1, h2⟩ := hkk i hi
 exact ⟨hb, cs, h1, h2⟩
theorem RdP.open_ {M : List Nat} {w : World} {e : E} {b o : Nat} (h : RdP M w e b o) : b ∉ M ∧ i64 e.op ∧ i64 e.w ∧ i64 e.n ∧ w.cell? ⟨b, o, none⟩ = some (.int .i64 e.op) ∧ w.cell? ⟨b, o + 1, none⟩ = some (.int .i64 e.w) ∧ w.cell? ⟨b, o + 2, none⟩ = some (.int .i64 e.n) ∧
 ∃ A n c, w.cell? ⟨b, o + 3, none⟩ = some (.slice A n c) ∧ n = e.kids.length ∧ n ≤ c ∧ c ≤ maxLen ∧ n ≤ 140737488355328 ∧
 (0 < n → ∃ b o, A = some ⟨b, o, none⟩ ∧ b ∉ M ∧ ∀ (i : Nat) (h : i < e.kids.length), ∃ cs', k1a w b (o + i * 4) cs' ∧ RdE M w e.kids[i] cs') ∧ RdE M w e [.int .i64 e.op, .int .i64 e.w, .int .i64 e.n, .slice A n c] := by
 obtain ⟨h1, _, h2, h3⟩ := h
 obtain ⟨A, n, c, rfl, o1, o2, o3, h4, h5, h6, h7, h8⟩ := h3.open_
 exact ⟨h1, o1, o2, o3, h2 0 _ rfl, h2 1 _ rfl, h2 2 _ rfl, A, n, c, h2 3 _ rfl, h4, h5, h6, h7, h8, h3⟩
def a3a (M : List Nat) (w : World) : Prop := 0 ∉ M ∧ ∀ i : Nat, i ≤ 8 → w.cell? ⟨0, i, none⟩ = some (.int .i64 (N4a i - 1))
theorem a3a.keep {M : List Nat} {w w' : World} (h : a3a M w) (hk : w0a M w w') : a3a M w' := ⟨h.1, fun i hi => hk.cell (a := ⟨0, i, none⟩) h.1 (h.2 i hi)⟩
theorem a3a.more {M M' : List Nat} {w : World} (h : a3a M w) (hM : ∀ g ∈ M', g ∈ M ∨ w.heap.size ≤ g) : a3a M' w := by
 refine ⟨fun hh => ?_, h.2⟩
 rcases hM _ hh with h' | h'
 ·exact h.1 h'
 ·have := World.block_lt_of_cell? w _ (h.2 0 (by omega))
  simp at this; omega
theorem a3a.at {M : List Nat} {w : World} (h : a3a M w) {x : Int} (h0 : 0 ≤ x) (h8 : x ≤ 8) : w.cell? ⟨0, 0 + x.toNat * 1, none⟩ = some (.int .i64 (N4a x.toNat - 1)) := by
 have := h.2 x.toNat (by omega)
 simpa using this
theorem St.ne {M : List Nat} {w0 w : World} {L : List Ent} (S : St M w0 w L) (i j : Nat) {g g' t t' : Nat} {cs cs' : List Value} (hi : L[i]? = some (some g, t, cs)) (hj : L[j]? = some (some g', t', cs')) (hij : i < j) : g ≠ g' := by
 obtain ⟨h1, e1⟩ := List.getElem?_eq_some_iff.1 hi
 obtain ⟨h2, e2⟩ := List.getElem?_eq_some_iff.1 hj
 have := List.pairwise_iff_getElem.1 S.apart i j h1 h2 hij g (by rw [e1])
 rw [e2] at this
 exact fun h => this (by rw [h])
def Y9a (e : E) (ws : List Int) : Bool := decide (e.kids.length = ws.length ∧ ∀ j, j < ws.length → e.kw j = ws.getD j 0)
theorem N9b {e : E} {a : Int} : Y9a e [a] = true ↔ e.kids.length = 1 ∧ e.kw 0 = a := by
 simp only [Y9a, decide_eq_true_eq, List.length_cons, List.length_nil]
 constructor
 ·rintro ⟨h1, h2⟩; exact ⟨h1, by simpa using h2 0 (by omega)⟩
 ·rintro ⟨h1, h2⟩; exact ⟨h1, fun j hj => by obtain rfl : j = 0 := by omega
                                             simpa using h2⟩
theorem K3a {e : E} {a b : Int} : Y9a e [a, b] = true ↔ e.kids.length = 2 ∧ e.kw 0 = a ∧ e.kw 1 = b := by
 simp only [Y9a, decide_eq_true_eq, List.length_cons, List.length_nil]
 constructor
 ·rintro ⟨h1, h2⟩; exact ⟨h1, by simpa using h2 0 (by omega), by simpa using h2 1 (by omega)⟩
 ·rintro ⟨h1, h2, h3⟩
  refine ⟨h1, fun j hj => ?_⟩
  rcases (show j = 0 ∨ j = 1 by omega) with rfl | rfl
  ·simpa using h2
  ·simpa using h3
theorem v9b {e : E} {a b c : Int} : Y9a e [a, b, c] = true ↔ e.kids.length = 3 ∧ e.kw 0 = a ∧ e.kw 1 = b ∧ e.kw 2 = c := by
 simp only [Y9a, decide_eq_true_eq, List.length_cons, List.length_nil]
 constructor
 ·rintro ⟨h1, h2⟩; exact ⟨h1, by simpa using h2 0 (by omega), by simpa using h2 1 (by omega), by simpa using h2 2 (by omega)⟩
 ·rintro ⟨h1, h2, h3, h4⟩
  refine ⟨h1, fun j hj => ?_⟩
  rcases (show j = 0 ∨ j = 1 ∨ j = 2 by omega) with rfl | rfl | rfl
  ·simpa using h2
  ·simpa using h3
  ·simpa using h4
theorem D4a {w0 w : World} {L : List Ent} {k g el n : Nat} {M M' : List Nat} {l : List Int} (S : St M' w0 w L) (hk : L[k]? = some (some g, el, l.map (Value.int .i64))) (hM : g ∉ M) (hn : n = l.length) (hb : n ≤ 140737488355328) (hl : ∀ x ∈ l, i64 x) : RdI M w (.slice (some ⟨g, 0, none⟩) n n) l :=
 S.rd1 hk hM hn hb fun i x hi => ⟨.int .i64 x, by simp [hi], rfl, hl x (List.mem_of_getElem? hi)⟩
theorem Q5a (e : E) (M : List Nat) (w0 : World) (v0 v1 v2 : Value) (A : Option Addr) (n c : Nat) (vw : Value) (ws : List Int) (hR : RdE M w0 e [v0, v1, v2, .slice A n c]) (hW : RdI M w0 vw ws) :
 M0a Tryz.prog 149 #[.slice A n c, vw] w0 fun v w' => v = .bool (Y9a e ws) ∧ Below w0.heap.size w0 w' := by
 obtain ⟨A', n', c', heq, _, _, _, _, _, _, _, hks⟩ := hR.open_
 obtain ⟨rfl, rfl, rfl, rfl, rfl, rfl⟩ : v0 = .int .i64 e.op ∧ v1 = .int .i64 e.w ∧ v2 = .int .i64 e.n ∧ A = A' ∧ n = n' ∧ c = c' := by simpa using heq
 clear heq
 obtain ⟨Aw, nw, cw, rfl⟩ := hW.form
 obtain ⟨_, _, _, _, hew⟩ := hW.at
 have S := St.refl w0
 refine a0a Tryz.func149 rfl Tryz.ntmps149 rfl ?_
 refine wB0 rfl ⟨⟩ (fun h11 => ?_) fun h11 => ?_
 ·refine lT rfl ⟨⟩ rfl ⟨congrArg Value.bool ?_, S.fin⟩
  unfold Y9a
  exact (decide_eq_false (fun h => by have := h.1; omega)).symm
 refine lC0 rfl ⟨⟩ (wL (fun μ D ε w => D = [] ∧ ∃ k : Nat, (k + μ = ws.length) ∧ (∀ (j : Nat), j < k → e.kw j = ws.getD j 0) ∧ St [] w0 w [] ∧ ε 0 = .slice A n c ∧ ε 12 = .slice Aw nw cw ∧ ε 13 = .int .i64 nw ∧ ε 14 = .int .i64 k) (μ := ws.length) ⟨rfl, 0, by omega, fun j h => absurd h (by omega), S, rfl, rfl, rfl, rfl⟩ ?_)
 rintro μ D ε w ⟨rfl, k, _, hs, S, e0, e12, e13, e14⟩
 refine o0a 0 e0 (o0a 12 e12 (o0a 13 e13 (o0a 14 e14 ?_)))
 clear e0 e12 e13 e14
 refine wB0 rfl ⟨⟩ (fun h15 => ?_) fun h15 => ?_
 ·refine lO0 rfl ⟨⟩ ?_
  have hlt : k < ws.length := by omega
  obtain ⟨bw, ow, _, _, hee⟩ := hew (by omega)
  obtain ⟨_, _, hcw2, hcw3⟩ := hee k ws[k] (List.getElem?_eq_getElem hlt)
  have hcw' : w0.cell? ⟨bw, ow + k * 1, none⟩ = some (.int .i64 ws[k]) := hcw2 0 _ (by rw [hcw3.1]; rfl)
  refine x0a Y0a.slT rfl (by assumption) rfl (by omega) (by omega) rfl ?_
  refine s0a C0a rfl (by exact S.old hcw') rfl ?_
  refine lO0 rfl ⟨⟩ ?_
  obtain ⟨b, o, _, _, hkk⟩ := hks (by omega)
  have hck' : w0.cell? ⟨b, o + k * 4 + 1, none⟩ = some (.int .i64 (e.kw k)) := z1a hkk k (by omega)
  refine x0a a1a.slT rfl (by assumption) rfl (by omega) (by omega) rfl ?_
  refine lO0 rfl ⟨⟩ (s0a C0a rfl (by exact S.old hck') rfl ?_)
  refine lB0 rfl ⟨⟩ (fun h25 => ?_) fun h25 => ?_
  ·refine lT rfl ⟨⟩ rfl ⟨congrArg Value.bool ?_, S.fin⟩
   unfold Y9a
   exact (decide_eq_false (fun h => h25 (by have := h.2 k hlt; simpa [hlt] using this))).symm
  refine lP0 rfl ⟨by omega,⟨⟩⟩ ⟨μ - 1, by omega, rfl, k + 1, by omega, fun j h => ?_, S, rfl, rfl, rfl, rfl⟩
  by_cases hjk : j = k
  ·subst hjk; simpa [hlt] using h25
  ·exact hs j (by omega)
 refine lT rfl ⟨⟩ rfl ⟨congrArg Value.bool ?_, S.fin⟩
 unfold Y9a
 exact (decide_eq_true ⟨by omega, fun j hj => hs j (by omega)⟩).symm
theorem u9b (e : E) (M : List Nat) (w0 : World) (b o : Nat) (hR : RdP M w0 e b o) (hK : a3a M w0) :
 M0a Tryz.prog 115 #[.pointer (some ⟨b, o, none⟩)] w0 fun v w' => v = .bool e.shapeB ∧ Below w0.heap.size w0 w' := by
 obtain ⟨_, _, o2, _, c0, c1, c2, _, _, _, c3, _, _, _, _, hks, hRE⟩ := hR.open_
 have S := St.refl w0
 refine a0a Tryz.func115 rfl Tryz.ntmps115 rfl ?_
 refine wO0 rfl ⟨⟩ (s0a C0a rfl (by exact S.old c1) rfl ?_)
 refine lB0 rfl ⟨⟩ (fun h7 => ?_) fun h7 => ?_
 ·refine lR0 rfl ⟨⟩ (r0a rfl (by conv => lhs; whnf) ?_)
  exact ⟨by exact SN (by omega), S.fin⟩
 refine lO0 rfl ⟨⟩ (s0a C0a rfl (by exact S.old c1) rfl ?_)
 refine lB0 rfl ⟨⟩ (fun h13 => ?_) fun h13 => ?_
 ·refine lR0 rfl ⟨⟩ (r0a rfl (by conv => lhs; whnf) ?_)
  exact ⟨by exact SN (by omega), S.fin⟩
 refine lO0 rfl ⟨⟩ (s0a C0a rfl (by exact S.old c0) rfl ?_)
 refine lB0 rfl ⟨⟩ (fun h20 => ?_) fun h20 => ?_
 ·refine lC0 rfl ⟨⟩ (D0a b0a [0, 1, 2, 3, 4, 5, 6, 7, 8, 9, 10, 11, 12, 13, 14, 15, 16, 17, 18, 19, 20, 21, 22, 23, 24, 25, 26] [] [] (by kernel_rfl) rfl (Cl _ _ _ _) (Cl.start S) ?_)
  refine qO0 rfl ⟨⟩ (h0a Z1a rfl (fun w1 hw => by exact hw.1.old c3) rfl ?_)
  refine qB0 rfl ⟨⟩ (fun h26 => ?_) fun h26 => ?_
  ·refine qO0 rfl ⟨⟩ (h0a C0a rfl (fun w1 hw => by exact hw.1.old c2) rfl ?_)
   refine qB0 rfl ⟨⟩ (fun h32 => ?_) fun h32 => ?_
   ·refine qO0 rfl ⟨⟩ (h0a C0a rfl (fun w1 hw => by exact hw.1.old c2) rfl ?_)
    refine qO0 rfl ⟨⟩ (h0a C0a rfl (fun w1 hw => by exact hw.1.old c1) rfl ?_)
    refine qO0 rfl ⟨⟩ (U3a k1b rfl rfl (by omega) (by omega) rfl ?_)
    refine qO0 rfl ⟨⟩ (h0a C0a rfl (fun w1 hw => by exact hw.1.old (hK.at (by omega) (by omega))) rfl ?_)
    refine qB0 rfl ⟨⟩ (fun h45 => ?_) fun h45 => ?_
    ·refine qD rfl ⟨⟩ ?_
     rintro wR5 ⟨SR5, XR5⟩
     refine lR0 rfl ⟨⟩ (r0a rfl (by conv => lhs; whnf) ?_)
     exact ⟨by exact ST1 (by omega) (by omega), SR5.fin⟩
    refine qD rfl ⟨⟩ ?_
    rintro wR5 ⟨SR5, XR5⟩
    refine lR0 rfl ⟨⟩ (r0a rfl (by conv => lhs; whnf) ?_)
    exact ⟨by exact SF1 (by omega) (by omega), SR5.fin⟩
   refine qD rfl ⟨⟩ ?_
   rintro wR5 ⟨SR5, XR5⟩
   refine lR0 rfl ⟨⟩ (r0a rfl (by conv => lhs; whnf) ?_)
   exact ⟨by exact SF1 (by omega) (by omega), SR5.fin⟩
  refine qD rfl ⟨⟩ ?_
  rintro wR5 ⟨SR5, XR5⟩
  refine lR0 rfl ⟨⟩ (r0a rfl (by conv => lhs; whnf) ?_)
  exact ⟨by exact SF1 (by omega) (by omega), SR5.fin⟩
 refine lB0 rfl ⟨⟩ (fun h48 => ?_) fun h48 => ?_
 ·refine lO0 rfl ⟨⟩ (s0a Z1a rfl (by exact S.old c3) rfl ?_)
  refine lB0 rfl ⟨⟩ (fun h55 => ?_) fun h55 => ?_
  ·refine lO0 rfl ⟨⟩ (s0a C0a rfl (by exact S.old c2) rfl ?_)
   refine lB0 rfl ⟨⟩ (fun h61 => ?_) fun h61 => ?_
   ·refine lO0 rfl ⟨⟩ (s0a C0a rfl (by exact S.old c2) rfl ?_)
    refine lB0 rfl ⟨⟩ (fun h68 => ?_) fun h68 => ?_
    ·refine lR0 rfl ⟨⟩ (r0a rfl (by conv => lhs; whnf) ?_)
     exact ⟨by exact ST2 (by omega) (by omega), S.fin⟩
    refine lR0 rfl ⟨⟩ (r0a rfl (by conv => lhs; whnf) ?_)
    exact ⟨by exact SF2 (by omega) (by omega), S.fin⟩
   refine lR0 rfl ⟨⟩ (r0a rfl (by conv => lhs; whnf) ?_)
   exact ⟨by exact SF2 (by omega) (by omega), S.fin⟩
  refine lR0 rfl ⟨⟩ (r0a rfl (by conv => lhs; whnf) ?_)
  exact ⟨by exact SF2 (by omega) (by omega), S.fin⟩
 refine lB0 rfl ⟨⟩ (fun h49 => ?_) fun h49 => ?_
 ·refine lO0 rfl ⟨⟩ (s0a Z1a rfl (by exact S.old c3) rfl ?_)
  refine lB0 rfl ⟨⟩ (fun h55 => ?_) fun h55 => ?_
  ·refine lO0 rfl ⟨⟩ (s0a C0a rfl (by exact S.old c2) rfl ?_)
   refine lB0 rfl ⟨⟩ (fun h61 => ?_) fun h61 => ?_
   ·refine lO0 rfl ⟨⟩ (s0a C0a rfl (by exact S.old c2) rfl ?_)
    refine lB0 rfl ⟨⟩ (fun h68 => ?_) fun h68 => ?_
    ·refine lR0 rfl ⟨⟩ (r0a rfl (by conv => lhs; whnf) ?_)
     exact ⟨by exact ST2 (by omega) (by omega), S.fin⟩
    refine lR0 rfl ⟨⟩ (r0a rfl (by conv => lhs; whnf) ?_)
    exact ⟨by exact SF2 (by omega) (by omega), S.fin⟩
   refine lR0 rfl ⟨⟩ (r0a rfl (by conv => lhs; whnf) ?_)
   exact ⟨by exact SF2 (by omega) (by omega), S.fin⟩
  refine lR0 rfl ⟨⟩ (r0a rfl (by conv => lhs; whnf) ?_)
  exact ⟨by exact SF2 (by omega) (by omega), S.fin⟩
 refine lO0 rfl ⟨⟩ (s0a C0a rfl (by exact S.old c2) rfl ?_)
 refine lB0 rfl ⟨⟩ (fun h74 => ?_) fun h74 => ?_
 ·refine lR0 rfl ⟨⟩ (r0a rfl (by conv => lhs; whnf) ?_)
  exact ⟨by exact M5a (fun ⟨x1, x2, x3⟩ => by omega), S.fin⟩
 refine lO0 rfl ⟨⟩ (s0a C0a rfl (by exact S.old c0) rfl ?_)
 refine lB0 rfl ⟨⟩ (fun h80 => ?_) fun h80 => ?_
 ·refine lC0 rfl ⟨⟩ (D0a b0a [0, 1, 2, 3, 4, 5, 6, 7] [8] [9, 10] (by kernel_rfl) rfl (Cl _ _ _ _) (Cl.start S) ?_)
  refine qO0 rfl ⟨⟩ (h0a Z1a rfl (fun w1 hw => by exact hw.1.old c3) rfl ?_)
  refine qO0 rfl ⟨⟩ (h0a C0a rfl (fun w1 hw => by exact hw.1.old c1) rfl ?_)
  refine qN0 rfl ⟨⟩ (w5a ?_)
  refine y3a rfl rfl Y0a (vs := [.int .i64 _]) (cs := [_]) (by rfl) rfl rfl rfl rfl rfl ?_
  refine o2a ?_
  rintro wR13 ⟨SR13, _⟩
  intro g89 hg89 G89 ng89
  dsimp only [I3a]
  clear ng89
  replace SR13 := SR13.push_new S hg89 G89
  refine y0a SR13 O5a rfl rfl (Q5a e [] _ _ _ _ _ _ _ _ [e.w] (RdE.less (by simp) _ _ (RdE.keep (SR13.keep0 M) _ _ hRE)) (D4a (k := 0) SR13 rfl (by simp) rfl (by omega) (by simpa using o2))) (fun h90 w90 S90 X90 => ?_) (fun h90 w90 S90 X90 => ?_)
  ·refine lR0 rfl ⟨⟩ (r0a rfl (by conv => lhs; whnf) ?_)
   exact ⟨by exact ST4 (by omega) (by have := N9b.1 h90; omega), S90.fin⟩
  refine lR0 rfl ⟨⟩ (r0a rfl (by conv => lhs; whnf) ?_)
  exact ⟨by exact SF4 (by omega) (fun g => by rw [N9b.2 (by omega)] at h90; cases h90), S90.fin⟩
 refine lB0 rfl ⟨⟩ (fun h92 => ?_) fun h92 => ?_
 ·refine lC0 rfl ⟨⟩ (D0a b0a [0, 1, 2, 3, 4, 5, 6, 7, 8, 9, 10, 11] [12] [13, 14] (by kernel_rfl) rfl (Cl _ _ _ _) (Cl.start S) ?_)
  refine qO0 rfl ⟨⟩ (h0a Z1a rfl (fun w1 hw => by exact hw.1.old c3) rfl ?_)
  refine qO0 rfl ⟨⟩ (h0a C0a rfl (fun w1 hw => by exact hw.1.old c1) rfl ?_)
  refine qO0 rfl ⟨⟩ (h0a C0a rfl (fun w1 hw => by exact hw.1.old c1) rfl ?_)
  refine qN0 rfl ⟨⟩ (w5a ?_)
  refine y3a rfl rfl Y0a (vs := [.int .i64 _, .int .i64 _]) (cs := [_, _]) (by rfl) rfl rfl rfl rfl rfl ?_
  refine o2a ?_
  rintro wR20 ⟨SR20, XR20⟩
  intro g110 hg110 G110 ng110
  dsimp only [I3a]
  clear ng110
  replace SR20 := SR20.push_new S hg110 G110
  refine y0a SR20 O5a rfl rfl (Q5a e [] _ _ _ _ _ _ _ _ [e.w, e.w] (RdE.less (by simp) _ _ (RdE.keep (SR20.keep0 M) _ _ hRE)) (D4a (k := 0) SR20 rfl (by simp) rfl (by omega) (by simpa using o2))) (fun h111 w111 S111 X111 => ?_) (fun h111 w111 S111 X111 => ?_)
  ·refine lR0 rfl ⟨⟩ (r0a rfl (by conv => lhs; whnf) ?_)
   exact ⟨by exact ST5 (by omega) (by have := K3a.1 h111; omega), S111.fin⟩
  refine lR0 rfl ⟨⟩ (r0a rfl (by conv => lhs; whnf) ?_)
  exact ⟨by exact SF5 (by omega) (fun g => by rw [K3a.2 (by omega)] at h111; cases h111), S111.fin⟩
 refine lB0 rfl ⟨⟩ (fun h93 => ?_) fun h93 => ?_
 ·refine lC0 rfl ⟨⟩ (D0a b0a [0, 1, 2, 3, 4, 5, 6, 7, 8, 9, 10, 11] [12] [13, 14] (by kernel_rfl) rfl (Cl _ _ _ _) (Cl.start S) ?_)
  refine qO0 rfl ⟨⟩ (h0a Z1a rfl (fun w1 hw => by exact hw.1.old c3) rfl ?_)
  refine qO0 rfl ⟨⟩ (h0a C0a rfl (fun w1 hw => by exact hw.1.old c1) rfl ?_)
  refine qO0 rfl ⟨⟩ (h0a C0a rfl (fun w1 hw => by exact hw.1.old c1) rfl ?_)
  refine qN0 rfl ⟨⟩ (w5a ?_)
  refine y3a rfl rfl Y0a (vs := [.int .i64 _, .int .i64 _]) (cs := [_, _]) (by rfl) rfl rfl rfl rfl rfl ?_
  refine o2a ?_
  rintro wR20 ⟨SR20, XR20⟩
  intro g110 hg110 G110 ng110
  dsimp only [I3a]
  clear ng110
  replace SR20 := SR20.push_new S hg110 G110
  refine y0a SR20 O5a rfl rfl (Q5a e [] _ _ _ _ _ _ _ _ [e.w, e.w] (RdE.less (by simp) _ _ (RdE.keep (SR20.keep0 M) _ _ hRE)) (D4a (k := 0) SR20 rfl (by simp) rfl (by omega) (by simpa using o2))) (fun h111 w111 S111 X111 => ?_) (fun h111 w111 S111 X111 => ?_)
  ·refine lR0 rfl ⟨⟩ (r0a rfl (by conv => lhs; whnf) ?_)
   exact ⟨by exact ST5 (by omega) (by have := K3a.1 h111; omega), S111.fin⟩
  refine lR0 rfl ⟨⟩ (r0a rfl (by conv => lhs; whnf) ?_)
  exact ⟨by exact SF5 (by omega) (fun g => by rw [K3a.2 (by omega)] at h111; cases h111), S111.fin⟩
 refine lB0 rfl ⟨⟩ (fun h94 => ?_) fun h94 => ?_
 ·refine lC0 rfl ⟨⟩ (D0a b0a [0, 1, 2, 3, 4, 5, 6, 7, 8, 9, 10, 11] [12] [13, 14] (by kernel_rfl) rfl (Cl _ _ _ _) (Cl.start S) ?_)
  refine qO0 rfl ⟨⟩ (h0a Z1a rfl (fun w1 hw => by exact hw.1.old c3) rfl ?_)
  refine qO0 rfl ⟨⟩ (h0a C0a rfl (fun w1 hw => by exact hw.1.old c1) rfl ?_)
  refine qO0 rfl ⟨⟩ (h0a C0a rfl (fun w1 hw => by exact hw.1.old c1) rfl ?_)
  refine qN0 rfl ⟨⟩ (w5a ?_)
  refine y3a rfl rfl Y0a (vs := [.int .i64 _, .int .i64 _]) (cs := [_, _]) (by rfl) rfl rfl rfl rfl rfl ?_
  refine o2a ?_
  rintro wR20 ⟨SR20, XR20⟩
  intro g110 hg110 G110 ng110
  dsimp only [I3a]
  clear ng110
  replace SR20 := SR20.push_new S hg110 G110
  refine y0a SR20 O5a rfl rfl (Q5a e [] _ _ _ _ _ _ _ _ [e.w, e.w] (RdE.less (by simp) _ _ (RdE.keep (SR20.keep0 M) _ _ hRE)) (D4a (k := 0) SR20 rfl (by simp) rfl (by omega) (by simpa using o2))) (fun h111 w111 S111 X111 => ?_) (fun h111 w111 S111 X111 => ?_)
  ·refine lR0 rfl ⟨⟩ (r0a rfl (by conv => lhs; whnf) ?_)
   exact ⟨by exact ST5 (by omega) (by have := K3a.1 h111; omega), S111.fin⟩
  refine lR0 rfl ⟨⟩ (r0a rfl (by conv => lhs; whnf) ?_)
  exact ⟨by exact SF5 (by omega) (fun g => by rw [K3a.2 (by omega)] at h111; cases h111), S111.fin⟩
 refine lB0 rfl ⟨⟩ (fun h95 => ?_) fun h95 => ?_
 ·refine lC0 rfl ⟨⟩ (D0a b0a [0, 1, 2, 3, 4, 5, 6, 7, 8, 9, 10, 11] [12] [13, 14] (by kernel_rfl) rfl (Cl _ _ _ _) (Cl.start S) ?_)
  refine qO0 rfl ⟨⟩ (h0a Z1a rfl (fun w1 hw => by exact hw.1.old c3) rfl ?_)
  refine qO0 rfl ⟨⟩ (h0a C0a rfl (fun w1 hw => by exact hw.1.old c1) rfl ?_)
  refine qO0 rfl ⟨⟩ (h0a C0a rfl (fun w1 hw => by exact hw.1.old c1) rfl ?_)
  refine qN0 rfl ⟨⟩ (w5a ?_)
  refine y3a rfl rfl Y0a (vs := [.int .i64 _, .int .i64 _]) (cs := [_, _]) (by rfl) rfl rfl rfl rfl rfl ?_
  refine o2a ?_
  rintro wR20 ⟨SR20, XR20⟩
  intro g110 hg110 G110 ng110
  dsimp only [I3a]
  clear ng110
  replace SR20 := SR20.push_new S hg110 G110
  refine y0a SR20 O5a rfl rfl (Q5a e [] _ _ _ _ _ _ _ _ [e.w, e.w] (RdE.less (by simp) _ _ (RdE.keep (SR20.keep0 M) _ _ hRE)) (D4a (k := 0) SR20 rfl (by simp) rfl (by omega) (by simpa using o2))) (fun h111 w111 S111 X111 => ?_) (fun h111 w111 S111 X111 => ?_)
  ·refine lR0 rfl ⟨⟩ (r0a rfl (by conv => lhs; whnf) ?_)
   exact ⟨by exact ST5 (by omega) (by have := K3a.1 h111; omega), S111.fin⟩
  refine lR0 rfl ⟨⟩ (r0a rfl (by conv => lhs; whnf) ?_)
  exact ⟨by exact SF5 (by omega) (fun g => by rw [K3a.2 (by omega)] at h111; cases h111), S111.fin⟩
 refine lB0 rfl ⟨⟩ (fun h96 => ?_) fun h96 => ?_
 ·refine lC0 rfl ⟨⟩ (D0a b0a [0, 1, 2, 3, 4, 5, 6, 7, 8, 9, 10, 11] [12] [13, 14] (by kernel_rfl) rfl (Cl _ _ _ _) (Cl.start S) ?_)
  refine qO0 rfl ⟨⟩ (h0a Z1a rfl (fun w1 hw => by exact hw.1.old c3) rfl ?_)
  refine qO0 rfl ⟨⟩ (h0a C0a rfl (fun w1 hw => by exact hw.1.old c1) rfl ?_)
  refine qO0 rfl ⟨⟩ (h0a C0a rfl (fun w1 hw => by exact hw.1.old c1) rfl ?_)
  refine qN0 rfl ⟨⟩ (w5a ?_)
  refine y3a rfl rfl Y0a (vs := [.int .i64 _, .int .i64 _]) (cs := [_, _]) (by rfl) rfl rfl rfl rfl rfl ?_
  refine o2a ?_
  rintro wR20 ⟨SR20, XR20⟩
  intro g110 hg110 G110 ng110
  dsimp only [I3a]
  clear ng110
  replace SR20 := SR20.push_new S hg110 G110
  refine y0a SR20 O5a rfl rfl (Q5a e [] _ _ _ _ _ _ _ _ [e.w, e.w] (RdE.less (by simp) _ _ (RdE.keep (SR20.keep0 M) _ _ hRE)) (D4a (k := 0) SR20 rfl (by simp) rfl (by omega) (by simpa using o2))) (fun h111 w111 S111 X111 => ?_) (fun h111 w111 S111 X111 => ?_)
  ·refine lR0 rfl ⟨⟩ (r0a rfl (by conv => lhs; whnf) ?_)
   exact ⟨by exact ST5 (by omega) (by have := K3a.1 h111; omega), S111.fin⟩
  refine lR0 rfl ⟨⟩ (r0a rfl (by conv => lhs; whnf) ?_)
  exact ⟨by exact SF5 (by omega) (fun g => by rw [K3a.2 (by omega)] at h111; cases h111), S111.fin⟩
 refine lB0 rfl ⟨⟩ (fun h97 => ?_) fun h97 => ?_
 ·refine lC0 rfl ⟨⟩ (D0a b0a [0, 1, 2, 3, 4, 5, 6, 7, 8, 9, 10, 11] [12] [13, 14] (by kernel_rfl) rfl (Cl _ _ _ _) (Cl.start S) ?_)
  refine qO0 rfl ⟨⟩ (h0a Z1a rfl (fun w1 hw => by exact hw.1.old c3) rfl ?_)
  refine qO0 rfl ⟨⟩ (h0a C0a rfl (fun w1 hw => by exact hw.1.old c1) rfl ?_)
  refine qO0 rfl ⟨⟩ (h0a C0a rfl (fun w1 hw => by exact hw.1.old c1) rfl ?_)
  refine qN0 rfl ⟨⟩ (w5a ?_)
  refine y3a rfl rfl Y0a (vs := [.int .i64 _, .int .i64 _]) (cs := [_, _]) (by rfl) rfl rfl rfl rfl rfl ?_
  refine o2a ?_
  rintro wR20 ⟨SR20, XR20⟩
  intro g110 hg110 G110 ng110
  dsimp only [I3a]
  clear ng110
  replace SR20 := SR20.push_new S hg110 G110
  refine y0a SR20 O5a rfl rfl (Q5a e [] _ _ _ _ _ _ _ _ [e.w, e.w] (RdE.less (by simp) _ _ (RdE.keep (SR20.keep0 M) _ _ hRE)) (D4a (k := 0) SR20 rfl (by simp) rfl (by omega) (by simpa using o2))) (fun h111 w111 S111 X111 => ?_) (fun h111 w111 S111 X111 => ?_)
  ·refine lR0 rfl ⟨⟩ (r0a rfl (by conv => lhs; whnf) ?_)
   exact ⟨by exact ST5 (by omega) (by have := K3a.1 h111; omega), S111.fin⟩
  refine lR0 rfl ⟨⟩ (r0a rfl (by conv => lhs; whnf) ?_)
  exact ⟨by exact SF5 (by omega) (fun g => by rw [K3a.2 (by omega)] at h111; cases h111), S111.fin⟩
 refine lB0 rfl ⟨⟩ (fun h113 => ?_) fun h113 => ?_
 ·refine lC0 rfl ⟨⟩ (D0a b0a [0, 1, 2, 3, 4, 5, 6, 7, 8, 9, 10, 11, 12, 13, 14, 15, 16, 17, 18, 19, 20, 21, 22, 23, 24, 25, 26, 27, 28, 29, 30] [] [] (by kernel_rfl) rfl (Cl _ _ _ _) (Cl.start S) ?_)
  refine qO0 rfl ⟨⟩ (h0a C0a rfl (fun w1 hw => by exact hw.1.old c1) rfl ?_)
  refine qB0 rfl ⟨⟩ (fun h120 => ?_) fun h120 => ?_
  ·refine qO0 rfl ⟨⟩ (h0a Z1a rfl (fun w1 hw => by exact hw.1.old c3) rfl ?_)
   refine qB0 rfl ⟨⟩ (fun h127 => ?_) fun h127 => ?_
   ·refine qO0 rfl ⟨⟩ (h0a Z1a rfl (fun w1 hw => by exact hw.1.old c3) rfl ?_)
    refine qO0 rfl ⟨⟩ ?_
    obtain ⟨bk, ok, hA, hbkM, hkk⟩ := hks (by omega)
    have hk0 := z1a hkk 0 (by omega)
    have hk1 := z1a hkk 1 (by omega)
    refine m0a a1a.slT rfl (by assumption) rfl (by omega) (by omega) rfl ?_
    refine qO0 rfl ⟨⟩ (h0a C0a rfl (fun w1 hw => by exact hw.1.old hk0) rfl ?_)
    refine qO0 rfl ⟨⟩ (h0a Z1a rfl (fun w1 hw => by exact hw.1.old c3) rfl ?_)
    refine qO0 rfl ⟨⟩ (m0a a1a.slT rfl (by assumption) rfl (by omega) (by omega) rfl ?_)
    refine qO0 rfl ⟨⟩ (h0a C0a rfl (fun w1 hw => by exact hw.1.old hk1) rfl ?_)
    refine qB0 rfl ⟨⟩ (fun h144 => ?_) fun h144 => ?_
    ·refine qD rfl ⟨⟩ ?_
     rintro wR24 ⟨SR24, XR24⟩
     refine lR0 rfl ⟨⟩ (r0a rfl (by conv => lhs; whnf) ?_)
     exact ⟨by exact H6c (by omega) (by omega), SR24.fin⟩
    refine qD rfl ⟨⟩ ?_
    rintro wR24 ⟨SR24, XR24⟩
    refine lR0 rfl ⟨⟩ (r0a rfl (by conv => lhs; whnf) ?_)
    exact ⟨by exact k2b (by omega) (by omega), SR24.fin⟩
   refine qD rfl ⟨⟩ ?_
   rintro wR24 ⟨SR24, XR24⟩
   refine lR0 rfl ⟨⟩ (r0a rfl (by conv => lhs; whnf) ?_)
   exact ⟨by exact k2b (by omega) (by omega), SR24.fin⟩
  refine qD rfl ⟨⟩ ?_
  rintro wR24 ⟨SR24, XR24⟩
  refine lR0 rfl ⟨⟩ (r0a rfl (by conv => lhs; whnf) ?_)
  exact ⟨by exact k2b (by omega) (by omega), SR24.fin⟩
 refine lB0 rfl ⟨⟩ (fun h114 => ?_) fun h114 => ?_
 ·refine lC0 rfl ⟨⟩ (D0a b0a [0, 1, 2, 3, 4, 5, 6, 7, 8, 9, 10, 11, 12, 13, 14, 15, 16, 17, 18, 19, 20, 21, 22, 23, 24, 25, 26, 27, 28, 29, 30] [] [] (by kernel_rfl) rfl (Cl _ _ _ _) (Cl.start S) ?_)
  refine qO0 rfl ⟨⟩ (h0a C0a rfl (fun w1 hw => by exact hw.1.old c1) rfl ?_)
  refine qB0 rfl ⟨⟩ (fun h120 => ?_) fun h120 => ?_
  ·refine qO0 rfl ⟨⟩ (h0a Z1a rfl (fun w1 hw => by exact hw.1.old c3) rfl ?_)
   refine qB0 rfl ⟨⟩ (fun h127 => ?_) fun h127 => ?_
   ·refine qO0 rfl ⟨⟩ (h0a Z1a rfl (fun w1 hw => by exact hw.1.old c3) rfl ?_)
    refine qO0 rfl ⟨⟩ ?_
    obtain ⟨bk, ok, hA, hbkM, hkk⟩ := hks (by omega)
    have hk0 := z1a hkk 0 (by omega)
    have hk1 := z1a hkk 1 (by omega)
    refine m0a a1a.slT rfl (by assumption) rfl (by omega) (by omega) rfl ?_
    refine qO0 rfl ⟨⟩ (h0a C0a rfl (fun w1 hw => by exact hw.1.old hk0) rfl ?_)
    refine qO0 rfl ⟨⟩ (h0a Z1a rfl (fun w1 hw => by exact hw.1.old c3) rfl ?_)
    refine qO0 rfl ⟨⟩ (m0a a1a.slT rfl (by assumption) rfl (by omega) (by omega) rfl ?_)
    refine qO0 rfl ⟨⟩ (h0a C0a rfl (fun w1 hw => by exact hw.1.old hk1) rfl ?_)
    refine qB0 rfl ⟨⟩ (fun h144 => ?_) fun h144 => ?_
    ·refine qD rfl ⟨⟩ ?_
     rintro wR24 ⟨SR24, XR24⟩
     refine lR0 rfl ⟨⟩ (r0a rfl (by conv => lhs; whnf) ?_)
     exact ⟨by exact H6c (by omega) (by omega), SR24.fin⟩
    refine qD rfl ⟨⟩ ?_
    rintro wR24 ⟨SR24, XR24⟩
    refine lR0 rfl ⟨⟩ (r0a rfl (by conv => lhs; whnf) ?_)
    exact ⟨by exact k2b (by omega) (by omega), SR24.fin⟩
   refine qD rfl ⟨⟩ ?_
   rintro wR24 ⟨SR24, XR24⟩
   refine lR0 rfl ⟨⟩ (r0a rfl (by conv => lhs; whnf) ?_)
   exact ⟨by exact k2b (by omega) (by omega), SR24.fin⟩
  refine qD rfl ⟨⟩ ?_
  rintro wR24 ⟨SR24, XR24⟩
  refine lR0 rfl ⟨⟩ (r0a rfl (by conv => lhs; whnf) ?_)
  exact ⟨by exact k2b (by omega) (by omega), SR24.fin⟩
 refine lB0 rfl ⟨⟩ (fun h115 => ?_) fun h115 => ?_
 ·refine lC0 rfl ⟨⟩ (D0a b0a [0, 1, 2, 3, 4, 5, 6, 7, 8, 9, 10, 11, 12, 13, 14, 15, 16, 17, 18, 19, 20, 21, 22, 23, 24, 25, 26, 27, 28, 29, 30] [] [] (by kernel_rfl) rfl (Cl _ _ _ _) (Cl.start S) ?_)
  refine qO0 rfl ⟨⟩ (h0a C0a rfl (fun w1 hw => by exact hw.1.old c1) rfl ?_)
  refine qB0 rfl ⟨⟩ (fun h120 => ?_) fun h120 => ?_
  ·refine qO0 rfl ⟨⟩ (h0a Z1a rfl (fun w1 hw => by exact hw.1.old c3) rfl ?_)
   refine qB0 rfl ⟨⟩ (fun h127 => ?_) fun h127 => ?_
   ·refine qO0 rfl ⟨⟩ (h0a Z1a rfl (fun w1 hw => by exact hw.1.old c3) rfl ?_)
    refine qO0 rfl ⟨⟩ ?_
    obtain ⟨bk, ok, hA, hbkM, hkk⟩ := hks (by omega)
    have hk0 := z1a hkk 0 (by omega)
    have hk1 := z1a hkk 1 (by omega)
    refine m0a a1a.slT rfl (by assumption) rfl (by omega) (by omega) rfl ?_
    refine qO0 rfl ⟨⟩ (h0a C0a rfl (fun w1 hw => by exact hw.1.old hk0) rfl ?_)
    refine qO0 rfl ⟨⟩ (h0a Z1a rfl (fun w1 hw => by exact hw.1.old c3) rfl ?_)
    refine qO0 rfl ⟨⟩ (m0a a1a.slT rfl (by assumption) rfl (by omega) (by omega) rfl ?_)
    refine qO0 rfl ⟨⟩ (h0a C0a rfl (fun w1 hw => by exact hw.1.old hk1) rfl ?_)
    refine qB0 rfl ⟨⟩ (fun h144 => ?_) fun h144 => ?_
    ·refine qD rfl ⟨⟩ ?_
     rintro wR24 ⟨SR24, XR24⟩
     refine lR0 rfl ⟨⟩ (r0a rfl (by conv => lhs; whnf) ?_)
     exact ⟨by exact H6c (by omega) (by omega), SR24.fin⟩
    refine qD rfl ⟨⟩ ?_
    rintro wR24 ⟨SR24, XR24⟩
    refine lR0 rfl ⟨⟩ (r0a rfl (by conv => lhs; whnf) ?_)
    exact ⟨by exact k2b (by omega) (by omega), SR24.fin⟩
   refine qD rfl ⟨⟩ ?_
   rintro wR24 ⟨SR24, XR24⟩
   refine lR0 rfl ⟨⟩ (r0a rfl (by conv => lhs; whnf) ?_)
   exact ⟨by exact k2b (by omega) (by omega), SR24.fin⟩
  refine qD rfl ⟨⟩ ?_
  rintro wR24 ⟨SR24, XR24⟩
  refine lR0 rfl ⟨⟩ (r0a rfl (by conv => lhs; whnf) ?_)
  exact ⟨by exact k2b (by omega) (by omega), SR24.fin⟩
 refine lB0 rfl ⟨⟩ (fun h147 => ?_) fun h147 => ?_
 ·refine lC0 rfl ⟨⟩ (D0a b0a [0, 1, 2, 3, 4, 5, 6, 7, 8, 9, 10, 11] [12] [13, 14] (by kernel_rfl) rfl (Cl _ _ _ _) (Cl.start S) ?_)
  refine qO0 rfl ⟨⟩ (h0a Z1a rfl (fun w1 hw => by exact hw.1.old c3) rfl ?_)
  refine qO0 rfl ⟨⟩ (h0a C0a rfl (fun w1 hw => by exact hw.1.old c1) rfl ?_)
  refine qO0 rfl ⟨⟩ (h0a C0a rfl (fun w1 hw => by exact hw.1.old c1) rfl ?_)
  refine qN0 rfl ⟨⟩ (w5a ?_)
  refine y3a rfl rfl Y0a (vs := [.int .i64 _, .int .i64 _, .int .i64 _]) (cs := [_, _, _]) (by rfl) rfl rfl rfl rfl rfl ?_
  refine o2a ?_
  rintro wR26 ⟨SR26, _⟩
  intro g160 hg160 G160 ng160
  dsimp only [I3a]
  clear ng160
  replace SR26 := SR26.push_new S hg160 G160
  refine y0a SR26 O5a rfl rfl (Q5a e [] _ _ _ _ _ _ _ _ [1, e.w, e.w] (RdE.less (by simp) _ _ (RdE.keep (SR26.keep0 M) _ _ hRE)) (D4a (k := 0) SR26 rfl (by simp) rfl (by omega) (by simpa [i64] using o2))) (fun h161 w161 S161 X161 => ?_) (fun h161 w161 S161 X161 => ?_)
  ·refine lR0 rfl ⟨⟩ (r0a rfl (by conv => lhs; whnf) ?_)
   exact ⟨by exact Z9c (by omega) (by have := v9b.1 h161; omega), S161.fin⟩
  refine lR0 rfl ⟨⟩ (r0a rfl (by conv => lhs; whnf) ?_)
  exact ⟨by exact B8c (by omega) (fun g => by rw [v9b.2 (by omega)] at h161; cases h161), S161.fin⟩
 refine lR0 rfl ⟨⟩ (r0a rfl (by conv => lhs; whnf) ?_)
 exact ⟨by exact SN (by omega), S.fin⟩
theorem f9b (ks : List E) (k : Nat) (h : k < ks.length) : E.cnts (ks.take (k + 1)) = E.cnts (ks.take k) + ks[k].cnt := by
 induction ks generalizing k with
 | nil => simp at h
 | cons x xs ih =>
   cases k with
   | zero => simp [E.cnts]
   | succ k => simp only [List.take_succ_cons, E.cnts, List.getElem_cons_succ]; rw [ih k (by simpa using h)]; omega
theorem R2b (ks : List E) (k : Nat) : E.cnts (ks.take k) ≤ E.cnts ks := by
 induction ks generalizing k with
 | nil => simp [E.cnts]
 | cons x xs ih =>
   cases k with
   | zero => simp [E.cnts]
   | succ k => simp only [List.take_succ_cons, E.cnts]; have := ih k; omega
def Y3b (e : E) (depth : Int) (cnt : Nat) : Bool := decide (cnt + e.cnt ≤ 600) && e.good (41 - depth)
theorem W1c : ∀ (e : E) (M : List Nat) (w0 : World) (b o : Nat) (depth : Int) (cnt gc gv : Nat), RdP M w0 e b o → a3a M w0 → gc ∈ M → gv ∉ M → p0a w0 (gc, 3, [.int .i64 (cnt : Int)]) →
 w0.cell? ⟨gv, 0, none⟩ = some (.func (.func 114) #[] #[.pointer (some ⟨gc, 0, none⟩), .pointer (some ⟨gv, 0, none⟩)]) → cnt ≤ 600 → 1 ≤ depth → depth ≤ 41 →
 M0a Tryz.prog 114 #[.pointer (some ⟨b, o, none⟩), .int .i64 depth, .pointer (some ⟨gc, 0, none⟩), .pointer (some ⟨gv, 0, none⟩)] w0 fun v w' =>
  ∃ cnt' : Nat, v0a [gc] w0 w' ∧ p0a w' (gc, 3, [.int .i64 (cnt' : Int)]) ∧ v = .bool (Y3b e depth cnt) ∧ (Y3b e depth cnt = true → cnt' = cnt + e.cnt) := by
 intro e
 induction e using E.induct with
 | _ e ih =>
 intro M w0 b o depth cnt gc gv hR hK hgc hgv hblk hvc hcnt hd1 hd2
 obtain ⟨hbM, _, _, _, _, _, _, _, n, _, c3, _, _, _, _, hks, _⟩ := hR.open_
 have S := St.borrow1 hblk
 have hsub : ∀ g ∈ [gc], g ∈ M := fun g hg => by simp at hg; subst hg; exact hgc
 have hb' : b ∉ [gc] := fun h => hbM (hsub b h)
 have hv' : gv ∉ [gc] := fun h => hgv (hsub gv h)
 have hgd := E.good_def e (41 - depth)
 have hce := E.cnt_def e
 have hfalse : ∀ k ∈ e.kids, k.good (41 - (depth + 1)) = false → E.goods e.kids (41 - depth - 1) = false := fun k hk hf => by
  cases hg : E.goods e.kids (41 - depth - 1) with
  | false => rfl
  | true => rw [show 41 - (depth + 1) = 41 - depth - 1 by omega, (E.goods_iff _ _).1 hg k hk] at hf; cases hf
 refine a0a Tryz.func114 rfl Tryz.ntmps114 rfl ?_
 refine wO0 rfl ⟨⟩ (s0a C0a rfl (by exact S.cell 0 rfl rfl) rfl ?_)
 refine lO0 rfl ⟨by omega,⟨⟩⟩ ?_
 first | refine I0a (kk := 0) S V0b rfl (by conv => lhs; whnf) rfl rfl (by exact Nat.le_of_ble_eq_true rfl) ?_
 intro w1_2 S1_2 X1_2
 refine lO0 rfl ⟨⟩ (s0a C0a rfl (by exact S1_2.cell 0 rfl rfl) rfl ?_)
 refine lB0 rfl ⟨⟩ (fun h11 => ?_) fun h11 => ?_
 ·refine lR0 rfl ⟨⟩ (r0a rfl (by conv => lhs; whnf) ?_)
  have hvf : Y3b e depth cnt = false := by
   unfold Y3b; rw [hgd]
   rw [decide_eq_false (show ¬ cnt + e.cnt ≤ 600 by omega)]; rfl
  exact ⟨cnt + 1, S1_2.below, S1_2.blk 0 rfl, by rw [hvf], fun h => by rw [hvf] at h; cases h⟩
 refine lB0 rfl ⟨⟩ (fun h14 => ?_) fun h14 => ?_
 ·refine lR0 rfl ⟨⟩ (r0a rfl (by conv => lhs; whnf) ?_)
  have hvf : Y3b e depth cnt = false := by
   unfold Y3b; rw [hgd]
   simp [show ¬ 1 ≤ 41 - depth by omega]; done
  exact ⟨cnt + 1, S1_2.below, S1_2.blk 0 rfl, by rw [hvf], fun h => by rw [hvf] at h; cases h⟩
 refine lO0 rfl ⟨⟩ (y0a S1_2 m6c rfl rfl (u9b _ M _ _ _ (hR.keep (S1_2.keepM.mono hsub)) (hK.keep (S1_2.keepM.mono hsub))) (fun h18 w18 S18 X18 => ?_) (fun h18 w18 S18 X18 => ?_))
 ·refine lO0 rfl ⟨⟩ (s0a Z1a rfl (by exact S18.oldM hb' c3) rfl ?_)
  refine lC0 rfl ⟨⟩ ?_
  refine wL (fun μ D ε w => D = [] ∧ ∃ k : Nat, (k + μ = e.kids.length) ∧ (∀ (j : Nat) (h : j < e.kids.length), j < k → e.kids[j].good (41 - depth - 1) = true) ∧ (cnt + 1 + E.cnts (e.kids.take k) ≤ 600) ∧ St [gc] w0 w [(some gc, 3, [.int .i64 ((cnt + 1 + E.cnts (e.kids.take k) : Nat) : Int)])] ∧ ε 0 = .pointer (some ⟨b, o, none⟩) ∧ ε 1 = .int .i64 depth ∧ ε 2 = .pointer (some ⟨gc, 0, none⟩) ∧ ε 3 = .pointer (some ⟨gv, 0, none⟩) ∧ ε 25 = .int .i64 n ∧ ε 26 = .int .i64 k) (μ := e.kids.length) ⟨rfl, 0, by omega, fun j _ h => absurd h (by omega), by simp [E.cnts]; omega, by simpa [E.cnts] using S18, rfl, rfl, rfl, rfl, rfl, rfl⟩ ?_
  rintro μ D ε w ⟨rfl, k, hk, hs, hs2, S, e0, e1, e2, e3, e25, e26⟩
  refine o0a 0 e0 (o0a 1 e1 (o0a 2 e2 (o0a 3 e3 (o0a 25 e25 (o0a 26 e26 ?_)))))
  clear e0 e1 e2 e3 e25 e26
  refine wB0 rfl ⟨⟩ (fun h27 => ?_) fun h27 => ?_
  ·refine lC0 rfl ⟨⟩ (D0a b0a [0, 1, 2, 3, 4, 5, 6, 7, 8] [] [9, 10] (by kernel_rfl) rfl (Cl _ _ _ _) (Cl.start S) ?_)
   refine h0a Q8b rfl (fun w1 hw => by exact hw.1.oldM hv' hvc) rfl ?_
   refine qO0 rfl ⟨⟩ (h0a Z1a rfl (fun w1 hw => by exact hw.1.oldM hb' c3) rfl ?_)
   refine qO0 rfl ⟨⟩ ?_
   have hlt : k < e.kids.length := by omega
   obtain ⟨bk, ok, _, hbkM, hkk⟩ := hks (by omega)
   have hct := f9b e.kids k hlt
   have hcl := R2b e.kids (k + 1)
   refine m0a a1a.slT rfl (by assumption) rfl (by omega) (by omega) rfl ?_
   refine qD rfl ⟨by omega,⟨⟩⟩ ?_
   rintro wR7 ⟨SR7, _⟩
   refine S1b C9b rfl rfl rfl (ih _ (List.getElem_mem hlt) M _ bk (ok + k * 4) _ _ gc gv ((RdP.kid hbkM hkk k hlt).keep (SR7.keepM.mono hsub)) (hK.keep (SR7.keepM.mono hsub)) hgc hgv (SR7.blk 0 rfl) (SR7.oldM hv' hvc) hs2 (by omega) (by omega)) ?_
   rintro v38 w38 ⟨cnt', B38, hb38, rfl, hi38⟩
   have S38 := SR7.changed1 0 rfl B38 hb38
   dsimp only [List.set] at S38
   cases hv38 : Y3b e.kids[k] (depth + 1) (cnt + 1 + E.cnts (e.kids.take k))
   ·refine lR0 rfl ⟨⟩ (r0a rfl (by conv => lhs; whnf) ?_)
    have hvf : Y3b e depth cnt = false := by
     unfold Y3b at hv38 ⊢; rw [hgd]
     by_cases hq : cnt + 1 + E.cnts (e.kids.take k) + e.kids[k].cnt ≤ 600
     ·rw [decide_eq_true hq] at hv38; simp only [Bool.true_and] at hv38; rw [hfalse _ (List.getElem_mem hlt) hv38]; simp
     ·rw [decide_eq_false (by omega)]; rfl
    exact ⟨cnt', S38.below, S38.blk 0 rfl, by rw [hvf], fun h => by rw [hvf] at h; cases h⟩
   refine lP0 rfl ⟨by omega,⟨⟩⟩ ?_
   have hcc := hi38 hv38
   unfold Y3b at hv38
   simp only [Bool.and_eq_true, decide_eq_true_eq] at hv38
   refine ⟨μ - 1, by omega, rfl, k + 1, by omega, fun j hj h => ?_, by omega, by rw [hct, ← Nat.add_assoc, ← hcc]; exact S38, rfl, rfl, rfl, rfl, rfl, rfl⟩
   by_cases hjk : j = k
   ·subst hjk; rw [show 41 - depth - 1 = 41 - (depth + 1) by omega]; exact hv38.2
   ·exact hs j hj (by omega)
  refine lR0 rfl ⟨⟩ (r0a rfl (by conv => lhs; whnf) ?_)
  obtain rfl : k = e.kids.length := by omega
  rw [List.take_length] at hs2 S
  have hvt : Y3b e depth cnt = true := by
   unfold Y3b; rw [hgd, decide_eq_true (by omega), (E.goods_iff _ _).2 (fun x hx => by obtain ⟨j, hj, rfl⟩ := List.getElem_of_mem hx; exact hs j hj (by omega))]
   simp [h18, show 1 ≤ 41 - depth by omega]
  exact ⟨_, S.below, S.blk 0 rfl, by rw [hvt], fun _ => by omega⟩
 refine lR0 rfl ⟨⟩ (r0a rfl (by conv => lhs; whnf) ?_)
 have hvf : Y3b e depth cnt = false := by
  unfold Y3b; rw [hgd]
  simp [h18]; done
 exact ⟨cnt + 1, S18.below, S18.blk 0 rfl, by rw [hvf], fun h => by rw [hvf] at h; cases h⟩
theorem d5a (e : E) (M : List Nat) (w0 : World) (cs : List Value) (hR : RdE M w0 e cs) (hK : a3a M w0) :
 M0a Tryz.prog 90 #[.agg cs.toArray] w0 fun v w' => v = .bool e.wf ∧ Below w0.heap.size w0 w' := by
 obtain ⟨_, _, _, rfl, _, _, _, _, _, _, _, _⟩ := hR.open_
 have S := St.refl w0
 refine a0a Tryz.func90 rfl Tryz.ntmps90 rfl ?_
 refine wO0 rfl ⟨⟩ (j0a S (by conv => lhs; whnf) rfl ?_)
 intro g1 w1 S1 X1 G1
 refine lO0 rfl ⟨⟩ (n0a S1 K9c rfl rfl ?_)
 intro g3 w3 S3 X3 G3
 refine I0a (kk := 0) S3 V0b rfl (by conv => lhs; whnf) rfl rfl (by exact Nat.le_of_ble_eq_true rfl) ?_
 intro w1_1 S1_1 X1_1
 refine lO0 rfl ⟨⟩ (n0a S1_1 x7c rfl rfl ?_)
 intro g4 w4 S4 X4 G4
 refine lO0 rfl ⟨⟩ (E1a rfl rfl ?_)
 refine I0a (kk := 0) S4 r7c rfl (by conv => lhs; whnf) rfl rfl (by exact Nat.le_of_ble_eq_true rfl) ?_
 intro w3_1 S3_1 X3_1
 refine lO S3_1.k [.o 0] rfl ⟨rfl,⟨⟩⟩ ?_
 have hM' : ∀ g ∈ [g3] , g ∈ M ∨ w0.heap.size ≤ g := fun g hg => by
  simp at hg; subst hg; right; have := S3_1.new 1 rfl; simp at this; exact this
 refine S1b C9b rfl rfl rfl (W1c e [g3] _ g1 0 1 0 g3 g4 ?_ ?_ (by simp) ?_ (S3_1.blk 1 rfl) (S3_1.cell 0 rfl rfl) (by omega) (by omega) (by omega)) ?_
 ·exact ⟨by simpa using (S3_1.ne 1 2 rfl rfl (by omega)).symm, _, S3_1.cells 2 rfl, RdE.keep (S3_1.keep0 _) _ _ (RdE.more hM' _ _ hR)⟩
 ·exact (hK.more hM').keep (S3_1.keep0 _)
 ·simpa using S3_1.ne 0 1 rfl rfl (by omega)
 rintro v7 w7 ⟨_, B7, hb7, rfl, -⟩
 have S7 := S3_1.changed1 1 rfl B7 hb7
 refine lR0 rfl ⟨⟩ (r0a rfl (by conv => lhs; whnf) ?_)
 refine ⟨?_, S7.fin⟩
 unfold Y3b E.wf
 simp
end Go.Fw
