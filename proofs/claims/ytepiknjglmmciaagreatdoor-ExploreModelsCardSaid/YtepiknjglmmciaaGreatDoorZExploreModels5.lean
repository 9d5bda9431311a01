/-
  Part 5 of 8 of the proof of ExploreModels: what it leans on. No conditions.
-/
import Derived.Test.YtepiknjglmmciaaGreatDoorZExploreModels4
import Derived.StringKeys
import Derived.Laws.Cover3
set_option maxRecDepth 100000
set_option maxHeartbeats 4000000
namespace Go.Proofs.YtepiknjglmmciaaGreatDoor
end Go.Proofs.YtepiknjglmmciaaGreatDoor
namespace Go.Fw
open Go.Proofs.YtepiknjglmmciaaGreatDoor Go.Proofs Go.RowKit
section
variable {P : Program} {r : Option Nat} {N : Nat} {l : List Oper} {D : List Deferred} {C : World → Prop} {K : List Deferred → Env → World → Prop} {pur : Nat → Bool}
def N1b (e : Env) (d : Option Nat) (v : Value) : Env := match d with | some d => upd e d v | none => e
def q4b (N : Nat) (o : Oper) : Prop := ∀ d, o.dst = some d → d < N
theorem X3a {a : Act} (o : Oper) (v : Value) (h : q4b a.tmps.size o) : P0a (a.put o.dst v) = N1b (P0a a) o.dst v := by
 cases hd : o.dst with
 | none => rfl
 | some d => exact W0a v (h d hd)
theorem T4a (a : Act) (o : Oper) (v : Value) : (a.put o.dst v).tmps.size = a.tmps.size := by
 cases o.dst <;> simp [Act.put]
theorem y2a (a : Act) (o : Oper) (v : Value) : (a.put o.dst v).defers = a.defers := by
 cases o.dst <;> simp [Act.put]
theorem e8a {e : Env} {o : Oper} {v : Value} (hN : q4b N o) (hz : ∀ i, N ≤ i → e i = undef) : ∀ i, N ≤ i → N1b e o.dst v i = undef := by
 cases hd : o.dst with
 | none => exact hz
 | some d => exact I1a (hN d hd) hz
theorem k4a {o : Oper} {K1 : List Deferred → Env → World → Prop} {e e1 : Env} {w : World} (hN : q4b N o) (j0 : Op.isSelect o.op = false) (e0 : ∀ c, o.op ≠ .defer c) (hz : ∀ i, N ≤ i → e1 i = undef)
 (b0 : ∀ s ∈ Oper.looksAt l.toArray o, e s = e1 s) (h : WL P r N l.toArray [o] K1 D e1 w) : WL P r N l.toArray [o] (fun D' e' w' => ∃ v, e' = N1b e o.dst v ∧ K1 D' (N1b e1 o.dst v) w') D e w := by
 unfold WL at *;intro a Q hs hD he hK;obtain ⟨a1, i0, h0, f0⟩ := Z5a e1 N D hz;have h1 := h a1 (fun ex a' w' => ex = .normal ∧ K1 a'.defers (P0a a') w') i0 h0 f0 (fun a' w' _ hk => ⟨rfl, hk⟩);have hw : Region.wanted o (yielded l.toArray a.tmps) = Region.wanted o (yielded l.toArray a1.tmps) := by rw [h1a, h1a, he, f0]; exact O0a b0
 have d0 : ∀ (v : Value) (w' : World), K1 (a1.put o.dst v).defers (P0a (a1.put o.dst v)) w' → Q .normal (a.put o.dst v) w' := by
  intro v w' hk;rw [X3a o v (by rw [i0]; exact hN), f0, y2a, h0] at hk;refine hK _ _ (by rw [T4a, hs]) ⟨v, by rw [X3a o v (by rw [hs]; exact hN), he], ?_⟩;rw [y2a, hD]; exact hk
 simp only [wpListIn] at h1 ⊢;rw [hw]
 split
 ·rename_i o0;simp only [o0, if_true] at h1;refine ⟨u0a _ _ _, ?_⟩;have h4 := h1.2;have n0 : Oper.semAt (fc r).round a.eval o = Oper.semAt (fc r).round a1.eval o := by
   rw [Oper.semAt_eq _ _ _ e0, Oper.semAt_eq _ _ _ e0, c2a, c2a, he, f0]; exact n1a j0 b0
  rw [n0]
  revert h4
  generalize (Oper.semAt (fc r).round a1.eval o).run P w = q0;intro h4;cases q0 with
  | ok x w' =>
    cases x with
    | value v => simp only [Oper.uponIn] at h4 ⊢; exact d0 v w' h4.2
    | skip => simp only [Oper.uponIn] at h4 ⊢; exact d0 undef w' h4.2
    | defer dd =>
      simp only [Oper.uponIn] at h4 ⊢;have hk := h4.2;have p0 : P0a ({ a1 with defers := dd :: a1.defers } : Act) = e1 := f0;have ee : P0a ({ a with defers := dd :: a.defers } : Act) = e := he;rw [X3a (a := { a1 with defers := dd :: a1.defers }) o undef (by rw [show ({ a1 with defers := dd :: a1.defers } : Act).tmps.size = N from i0]; exact hN), p0, y2a] at hk;refine hK _ _ (by rw [T4a]; exact hs) ⟨undef, by rw [X3a (a := { a with defers := dd :: a.defers }) o undef (by rw [show ({ a with defers := dd :: a.defers } : Act).tmps.size = N from hs]; exact hN), ee], ?_⟩;rw [y2a];show K1 (dd :: a.defers) _ _;rw [hD, ← h0]; exact hk
    | enter f args =>
      simp only [Oper.uponIn] at h4 ⊢;exact ⟨h4.1, CallsIn.mono h4.2 (fun en r0 hh => by
       cases en
       ·exact d0 _ _ hh.2
       ·exact absurd hh.1 (by simp)
       ·obtain ⟨a0, w0, hh⟩ := hh; exact absurd hh.1 (by simp))⟩
    | row s0 args => simp only [Oper.uponIn] at h4 ⊢; exact ⟨h4.1, RowsIn.mono h4.2 (fun _ _ hh => d0 _ _ hh.2)⟩
    | round l' f tmps g0 body =>
      simp only [Oper.uponIn] at h4 ⊢;exact ⟨h4.1, RoundIn.mono h4.2 (fun en r0 hh => by
       cases en
       ·exact d0 _ _ hh.2
       ·exact absurd hh.1 (by simp)
       ·obtain ⟨a0, w0, hh⟩ := hh; exact absurd hh.1 (by simp))⟩
    | _ => simp only [Oper.uponIn] at h4
  | halt x w' => cases x <;> simp only [Oper.uponIn] at h4 ⊢ <;> exact absurd h4.1 (by simp)
 ·rename_i o0;simp only [o0] at h1;exact ⟨u0a _ _ _, d0 undef w h1.2.2⟩
theorem D2c {o : Oper} {K1 : List Deferred → Env → World → Prop} {e : Env} {w : World} (hN : q4b N o) (hz : ∀ i, N ≤ i → e i = undef)
 (h : WL P r N l.toArray [o] K1 D e w) : ∃ D' v w', K1 D' (N1b e o.dst v) w' := by
 unfold WL at h;obtain ⟨a1, f0, g0, e0⟩ := Z5a e N D hz;have h1 := h a1 (fun ex a' w' => ex = .normal ∧ K1 a'.defers (P0a a') w') f0 g0 e0 (fun a' w' _ hk => ⟨rfl, hk⟩);have b0 : ∀ (v : Value) (w' : World), K1 (a1.put o.dst v).defers (P0a (a1.put o.dst v)) w' → ∃ D' v w', K1 D' (N1b e o.dst v) w' := by
  intro v w' hk;rw [X3a o v (by rw [f0]; exact hN), e0] at hk;exact ⟨_, v, w', hk⟩
 simp only [wpListIn] at h1
 split at h1
 ·have h4 := h1.2
  revert h4
  generalize (Oper.semAt (fc r).round a1.eval o).run P w = h0;intro h4;cases h0 with
  | ok x w' =>
    cases x with
    | value v => simp only [Oper.uponIn] at h4; exact b0 v w' h4.2
    | skip => simp only [Oper.uponIn] at h4; exact b0 undef w' h4.2
    | defer dd =>
      simp only [Oper.uponIn] at h4;have hk := h4.2;rw [X3a (a := { a1 with defers := dd :: a1.defers }) o undef (by rw [show ({ a1 with defers := dd :: a1.defers } : Act).tmps.size = N from f0]; exact hN), show P0a ({ a1 with defers := dd :: a1.defers } : Act) = e from e0] at hk;exact ⟨_, _, _, hk⟩
    | enter f args =>
      simp only [Oper.uponIn] at h4;obtain ⟨en, w2, _, hR, _⟩ := h4.2.2 [] (room_wide _);cases en
      ·exact b0 _ _ hR.2
      ·exact absurd hR.1 (by simp)
      ·obtain ⟨a0, w0, hh⟩ := hR; exact absurd hh.1 (by simp)
    | row i0 args =>
      simp only [Oper.uponIn] at h4;obtain ⟨v, w2, hR, _⟩ := h4.2 default [] (room_wide _);exact b0 _ _ hR.2
    | round l' f tmps d0 body =>
      simp only [Oper.uponIn] at h4;obtain ⟨en, w2, hR, _⟩ := h4.2.2 default [] (room_wide _);cases en
      ·exact b0 _ _ hR.2
      ·exact absurd hR.1 (by simp)
      ·obtain ⟨a0, w0, hh⟩ := hR; exact absurd hh.1 (by simp)
    | _ => simp only [Oper.uponIn] at h4
  | halt x w' => cases x <;> simp only [Oper.uponIn] at h4 <;> exact absurd h4.1 (by simp)
 ·exact b0 undef w h1.2.2
def WN (P : Program) (r : Option Nat) (N : Nat) (l : List Oper) (C : World → Prop) (pur : Nat → Bool) (K : List Deferred → Env → World → Prop) (D : List Deferred) : List Nat → Env → World → Prop
 | [], e, w => C w ∧ K D e w
 | i :: rest, e, w => C w ∧ ∃ o, l[i]? = some o ∧ q4b N o ∧
  ((pur i = true ∧ ∃ d v, o.dst = some d ∧ PV P l C o e v ∧ WN P r N l C pur K D rest (upd e d v) w) ∨
   (pur i = false ∧ WL P r N l.toArray [o] (fun D' e' w' => D' = D ∧ WN P r N l C pur K D rest e' w') D e w))
theorem WN.inC {a0 : List Nat} {e : Env} {w : World} (h : WN P r N l C pur K D a0 e w) : C w := by cases a0 <;> exact h.1
def s0b (l : List Oper) (pur : Nat → Bool) (j i : Nat) : Bool :=
 match l[j]?, l[i]? with
 | some p, some q => (pur i || pur j) && (match p.dst, q.dst with
   | some c, some d => !(c == d) && !(Oper.looksAt l.toArray p).contains d && !(Oper.looksAt l.toArray q).contains c
   | some c, none => pur j && !(Oper.looksAt l.toArray q).contains c
   | none, some d => pur i && !(Oper.looksAt l.toArray p).contains d
   | _, _ => false)
 | _, _ => false
structure d0d (l : List Oper) (pur : Nat → Bool) (j i : Nat) (o1 o2 : Oper) : Prop where
 pur : pur i = true ∨ pur j = true
 dst : ∀ c d, o1.dst = some c → o2.dst = some d → c ≠ d
 p : ∀ d, o2.dst = some d → d ∉ Oper.looksAt l.toArray o1
 q : ∀ c, o1.dst = some c → c ∉ Oper.looksAt l.toArray o2
theorem i9a {j i : Nat} {p q : Oper} (h : s0b l pur j i = true) (hj : l[j]? = some p) (hi : l[i]? = some q) : d0d l pur j i p q := by
 unfold s0b at h;simp only [hj, hi, Bool.and_eq_true, Bool.or_eq_true] at h;obtain ⟨h1, h2⟩ := h;cases hc : p.dst with
 | none =>
   cases hd : q.dst with
   | none => simp [hc, hd] at h2
   | some d =>
     simp only [hc, hd, Bool.and_eq_true, Bool.not_eq_true', List.contains_eq_mem, decide_eq_false_iff_not] at h2;exact ⟨h1, fun c d h => (by rw [hc] at h; cases h), fun x hx => (by rw [hd] at hx; cases hx; exact h2.2), fun c h => (by rw [hc] at h; cases h)⟩
 | some c =>
   cases hd : q.dst with
   | none =>
     simp only [hc, hd, Bool.and_eq_true, Bool.not_eq_true', List.contains_eq_mem, decide_eq_false_iff_not] at h2;exact ⟨h1, fun c d _ h => (by rw [hd] at h; cases h), fun d h => (by rw [hd] at h; cases h), fun x hx => (by rw [hc] at hx; cases hx; exact h2.2)⟩
   | some d =>
     simp only [hc, hd, Bool.and_eq_true, Bool.not_eq_true', beq_eq_false_iff_ne, List.contains_eq_mem, decide_eq_false_iff_not] at h2;exact ⟨h1, fun x y hx hy => (by rw [hc] at hx; rw [hd] at hy; cases hx; cases hy; exact h2.1.1), fun x hx => (by rw [hd] at hx; cases hx; exact h2.1.2), fun x hx => (by rw [hc] at hx; cases hx; exact h2.2)⟩
theorem L7a {e : Env} {o : Oper} {u : Value} {s : Nat} {X : List Nat} (hc : ∀ c, o.dst = some c → c ∉ X) (hs : s ∈ X) : N1b e o.dst u s = e s := by
 cases hd : o.dst with
 | none => rfl
 | some c => exact D1a (hc c hd) hs
theorem L2b (e : Env) {p q : Oper} (u v : Value) (h : ∀ c d, p.dst = some c → q.dst = some d → c ≠ d) : N1b (N1b e p.dst u) q.dst v = N1b (N1b e q.dst v) p.dst u := by
 cases hc : p.dst with
 | none => rfl
 | some c =>
   cases hd : q.dst with
   | none => rfl
   | some d => exact r2a e u v (h c d hc hd)
theorem WN.first (a0 : m4a l = true) {i : Nat} {i0 : List Nat} : ∀ (f0 : List Nat) (e : Env) (w : World), (∀ j ∈ f0, s0b l pur j i = true) → (∀ i, N ≤ i → e i = undef) → WN P r N l C pur K D (f0 ++ i :: i0) e w →
 ∃ o, l[i]? = some o ∧ q4b N o ∧
  ((pur i = true ∧ ∃ d v, o.dst = some d ∧ PV P l C o e v ∧ WN P r N l C pur K D (f0 ++ i0) (upd e d v) w) ∨
   (pur i = false ∧ WL P r N l.toArray [o] (fun D' e' w' => D' = D ∧ ∃ v, e' = N1b e o.dst v ∧ WN P r N l C pur K D (f0 ++ i0) e' w') D e w)) := by
 intro f0
 induction f0 with
 | nil =>
   intro e w _ hz h;obtain ⟨hC, o, ho, hN, h⟩ := h;refine ⟨o, ho, hN, ?_⟩;rcases h with h | ⟨hp, h⟩
   ·exact .inl h
   ·refine .inr ⟨hp, ?_⟩;have h2 := k4a (e := e) (e1 := e) hN (z0a a0 ho).1 (z0a a0 ho).2 hz (fun _ _ => rfl) h;unfold WL at *;exact fun a Q hs hD he hK => h2 a Q hs hD he (fun a' w' o0 ⟨v, h1, h3, h4⟩ => hK a' w' o0 ⟨h3, v, h1, by rw [h1]; exact h4⟩)
 | cons q f0 ih =>
   intro e w j0 hz h;obtain ⟨hC, p, hp, e0, h⟩ := h;have hq := j0 q (by simp);have b0 : ∀ j ∈ f0, s0b l pur j i = true := fun j hj => j0 j (by simp [hj]);rcases h with ⟨n0, c, u, hc, hu, h⟩ | ⟨n0, h⟩
   ·obtain ⟨o, ho, hN, h2⟩ := ih (upd e c u) w b0 (I1a (e0 c hc) hz) h;have hI := i9a hq hp ho;refine ⟨o, ho, hN, ?_⟩;rcases h2 with ⟨g0, d, v, hd, hv, h2⟩ | ⟨g0, h2⟩
    ·refine .inl ⟨g0, d, v, hd, hv.congr (z0a a0 ho).1 (fun s hs => D1a (hI.q c hc) hs), hC, p, hp, e0, .inl ⟨n0, c, u, hc, hu.congr (z0a a0 hp).1 (fun s hs => (D1a (hI.p d hd) hs).symm), ?_⟩⟩;rw [← r2a _ _ _ (hI.dst c d hc hd)]; exact h2
    ·refine .inr ⟨g0, ?_⟩;have h3 := k4a (e := e) (e1 := upd e c u) hN (z0a a0 ho).1 (z0a a0 ho).2 (I1a (e0 c hc) hz) (fun s hs => (D1a (hI.q c hc) hs).symm) h2;unfold WL at *;refine fun a Q hs hD he hK => h3 a Q hs hD he (fun a' w' o0 hh => hK a' w' o0 ?_);obtain ⟨v, h1, h4, _, h5, h6⟩ := hh;refine ⟨h4, v, h1, ?_⟩;rw [h1];refine ⟨h6.inC, p, hp, e0, .inl ⟨n0, c, u, hc, hu.congr (z0a a0 hp).1 (fun s hs => (L7a hI.p hs).symm), ?_⟩⟩;have e1 : N1b (upd e c u) o.dst v = upd (N1b e o.dst v) c u := by
      have := L2b e (p := p) (q := o) u v hI.dst;rw [hc] at this; exact this
     rw [← e1]; exact h6
   ·have h0 := k4a (e := e) (e1 := e) e0 (z0a a0 hp).1 (z0a a0 hp).2 hz (fun _ _ => rfl) h;obtain ⟨_, u1, w1, _, t0, _, h1⟩ := D2c e0 hz h0;rw [← t0] at h1;obtain ⟨o, ho, hN, h2⟩ := ih (N1b e p.dst u1) w1 b0 (e8a e0 hz) h1;have hI := i9a hq hp ho;have g0 : pur i = true := by
     rcases hI.pur with h | h
     ·exact h
     ·rw [n0] at h; cases h
    rcases h2 with ⟨_, d, v0, hd, x0, _⟩ | ⟨d0, _⟩
    ·have p0 : PV P l C o e v0 := x0.congr (z0a a0 ho).1 (fun s hs => L7a hI.q hs);refine ⟨o, ho, hN, .inl ⟨g0, d, v0, hd, p0, hC, p, hp, e0, .inr ⟨n0, ?_⟩⟩⟩;have h3 := k4a (e := upd e d v0) (e1 := e) e0 (z0a a0 hp).1 (z0a a0 hp).2 hz (fun s hs => D1a (hI.p d hd) hs) h;unfold WL at *;refine fun a Q hs hD he hK => h3 a Q hs hD he (fun a' w' o0 hh => hK a' w' o0 ?_);obtain ⟨u, hu, q0, h4⟩ := hh;refine ⟨q0, ?_⟩;obtain ⟨o', s0, _, h5⟩ := ih (N1b e p.dst u) w' b0 (e8a e0 hz) h4;obtain rfl : o' = o := Option.some.inj (s0.symm.trans ho);rcases h5 with ⟨_, d', v, r0, hv, h5⟩ | ⟨d0, _⟩
     ·obtain rfl : d' = d := Option.some.inj (r0.symm.trans hd);have u0 : PV P l C o' e v := hv.congr (z0a a0 ho).1 (fun s hs => L7a hI.q hs);obtain rfl : v = v0 := PV.uniq hC u0 p0;have e1 : upd (N1b e p.dst u) d' v = N1b (upd e d' v) p.dst u := by
       have := L2b e (p := p) (q := o') u v hI.dst;rw [hd] at this; exact this
      rw [hu, ← e1]; exact h5
     ·rw [g0] at d0; cases d0
    ·rw [g0] at d0; cases d0
def Y4b (l : List Oper) (pur : Nat → Bool) (x y : Nat) : List Nat → List Nat → Bool
 | _, [] => true
 | acc, i :: rest => (acc.all fun j => (R3a l i).contains j || s0b l pur j i || (j == x && i == y)) && Y4b l pur x y (acc ++ [i]) rest
theorem y0b {x y : Nat} : ∀ (ix acc : List Nat), Y4b l pur x y acc ix = true → ∀ (b0 : List Nat) (i : Nat) (a0 : List Nat), ix = b0 ++ i :: a0 → ∀ j ∈ acc ++ b0, j ∈ R3a l i ∨ s0b l pur j i = true ∨ (j = x ∧ i = y)
 | [], _, _, b0, i, a0, h => by simp at h
 | k :: ix, acc, h, b0, i, a0, he => by
   simp only [Y4b, Bool.and_eq_true] at h;cases b0 with
   | nil =>
     simp at he;obtain ⟨rfl, -⟩ := he;intro j hj;rw [List.append_nil] at hj;have := List.all_eq_true.1 h.1 j hj;simp only [Bool.or_eq_true, List.contains_eq_mem, decide_eq_true_eq, Bool.and_eq_true, beq_iff_eq] at this;rcases this with (h | h) | h
     ·exact .inl h
     ·exact .inr (.inl h)
     ·exact .inr (.inr h)
   | cons q b0 =>
     simp at he;obtain ⟨rfl, he⟩ := he;intro j hj;exact y0b ix (acc ++ [k]) h.2 b0 i a0 he j (by simpa using hj)
def w5a (ix : List Nat) (f : Nat → Bool) : List Nat := ix.filter fun i => !f i
theorem o7b {ix : List Nat} (d0 : ix.Nodup) (f : Nat → Bool) {i : Nat} (hi : i ∈ ix) (hf : f i = false) : ∃ b0 a0 P Q, ix = P ++ i :: Q ∧ w5a ix f = b0 ++ i :: a0 ∧ w5a ix (fun j => f j || j == i) = b0 ++ a0 ∧ ∀ j ∈ b0, j ∈ P ∧ f j = false := by
 obtain ⟨P, Q, rfl⟩ := List.append_of_mem hi;rw [List.nodup_append] at d0;obtain ⟨_, h2, h3⟩ := d0;rw [List.nodup_cons] at h2;refine ⟨P.filter fun j => !f j, Q.filter fun j => !f j, P, Q, rfl, ?_, ?_, ?_⟩
 ·unfold w5a; rw [List.filter_append, List.filter_cons]; simp [hf]
 ·unfold w5a; rw [List.filter_append, List.filter_cons];simp only [beq_self_eq_true, Bool.or_true, Bool.not_true, Bool.false_eq_true, if_false]
  congr 1
  ·apply List.filter_congr; intro j hj;have : (j == i) = false := by simp; exact fun e => h3 j hj i (by simp) e
   simp [this]
  ·apply List.filter_congr; intro j hj;have : (j == i) = false := by simp; exact fun e => h2.1 (e ▸ hj)
   simp [this]
 ·intro j hj; rw [List.mem_filter] at hj; exact ⟨hj.1, by simpa using hj.2⟩
def w5b : List Nat → Bool
 | [] => true
 | x :: l => !l.contains x && w5b l
theorem V8a : ∀ {l : List Nat}, w5b l = true → l.Nodup
 | [], _ => List.nodup_nil
 | x :: l, h => by
   simp only [w5b, Bool.and_eq_true, Bool.not_eq_true', List.contains_eq_mem, decide_eq_false_iff_not] at h;exact List.nodup_cons.2 ⟨h.1, V8a h.2⟩
def q4c (n : Nat) (ix : List Nat) : Bool := w5b ix && (List.range n).all (fun i => ix.contains i) && ix.all (fun i => decide (i < n))
def A8c (l : List Oper) (pur : Nat → Bool) (a c : Nat) (ixA ixB : List Nat) : Bool :=
 m4a l && ((List.range l.length).all fun i => (d1a l i).all fun j => decide (j < i)) && q4c l.length ixA && q4c l.length ixB && Y4b l pur a c [] ixA && Y4b l pur c a [] ixB &&
 ((List.range l.length).all fun i => pur i || i == a || i == c || ((R3a l i).contains a && (R3a l i).contains c)) && !(a == c) && !pur a && !pur c
theorem WN.step {ix : List Nat} {x y : Nat} (g0 : m4a l = true) (d0 : ix.Nodup) (f0 : Y4b l pur x y [] ix = true) {f : Nat → Bool} (a0 : ∀ i, f i = true → ∀ j ∈ d1a l i, f j = true) {i : Nat} {o : Oper} (hi : i ∈ ix) (ho : l[i]? = some o) (b0 : f i = false)
 (h0 : ∀ j ∈ d1a l i, f j = true) (j0 : i = y → f x = true) {e : Env} {w : World} (hz : ∀ i, N ≤ i → e i = undef) (h : WN P r N l C pur K D (w5a ix f) e w) :
 q4b N o ∧ ((pur i = true ∧ ∃ d v, o.dst = some d ∧ PV P l C o e v ∧ WN P r N l C pur K D (w5a ix (fun j => f j || j == i)) (upd e d v) w) ∨
  (pur i = false ∧ WL P r N l.toArray [o] (fun D' e' w' => D' = D ∧ ∃ v, e' = N1b e o.dst v ∧ WN P r N l C pur K D (w5a ix (fun j => f j || j == i)) e' w') D e w)) := by
 obtain ⟨n0, _, A, B, h1, h2, h3, h4⟩ := o7b d0 f hi b0;rw [h2] at h;have i0 : ∀ j ∈ R3a l i, f j = true := c3a a0 _ _ h0;obtain ⟨o', e0, hN, h5⟩ := WN.first g0 n0 e w (fun j hj => by
  obtain ⟨h6, h7⟩ := h4 j hj;rcases y0b ix [] f0 A i B h1 j (by simpa using h6) with h | h | ⟨h, h'⟩
  ·have := i0 j h; rw [h7] at this; cases this
  ·exact h
  ·subst h; have := j0 h'; rw [h7] at this; cases this) hz h
 obtain rfl : o' = o := Option.some.inj (e0.symm.trans ho);rw [h3];exact ⟨hN, h5⟩
theorem q7c {id : Nat} {n t : List Deferred → Env → World → Prop} {b : Nat → List Deferred → Env → World → Prop} {e : Env} {w : World} (hm : P.follows .mixedOrders = true) (pur : Nat → Bool) (a c : Nat) (a0 b0 : List Nat)
 (F0 : A8c l pur a c a0 b0 = true) (C : World → Prop) (hA : WN P r N l C pur n D a0 e w.drew) (hB : WN P r N l C pur n D b0 e w.drew) : W P r N (.region id l.toArray true) ⟨n, b, t⟩ D e w := by
 unfold A8c q4c at F0;simp only [Bool.and_eq_true, Bool.not_eq_true', beq_eq_false_iff_ne] at F0;obtain ⟨⟨⟨⟨⟨⟨⟨⟨⟨u0, I0⟩, ⟨e0, N0⟩, J0⟩, ⟨f0, O0⟩, K0⟩, D0⟩, E0⟩, P0⟩, R0⟩, _⟩, _⟩ := F0;have e0 := V8a e0;have f0 := V8a f0;have G0 : ∀ i, i < l.length → i ∈ a0 := fun i hi => by simpa using List.all_eq_true.1 N0 i (List.mem_range.2 hi)
 have inB : ∀ i, i < l.length → i ∈ b0 := fun i hi => by simpa using List.all_eq_true.1 O0 i (List.mem_range.2 hi)
 have hz : (∀ i, N ≤ i → e i = undef) → W P r N (.region id l.toArray true) ⟨n, b, t⟩ D e w := by
  intro hz;refine t0c hm I0 (fun f e w => (∀ i, N ≤ i → e i = undef) ∧ (∀ i, f i = true → ∀ j ∈ d1a l i, f j = true) ∧
   ((f a = false ∧ f c = false ∧ WN P r N l C pur n D (w5a a0 f) e w ∧ WN P r N l C pur n D (w5a b0 f) e w) ∨ (f a = true ∧ WN P r N l C pur n D (w5a a0 f) e w) ∨ (f c = true ∧ WN P r N l C pur n D (w5a b0 f) e w))) ⟨hz, by simp, .inl ⟨rfl, rfl, ?_, ?_⟩⟩ ?_ ?_
  ·have : w5a a0 (fun _ => false) = a0 := by unfold w5a; simp
   rw [this]; exact hA
  ·have : w5a b0 (fun _ => false) = b0 := by unfold w5a; simp
   rw [this]; exact hB
  ·rintro f e w i o ⟨hz, j0, hM⟩ ho C0 v0;have g0 : i < l.length := (List.getElem?_eq_some_iff.1 ho).1;have d0 : ∀ k, (f k || k == i) = true → ∀ j ∈ d1a l k, (f j || j == i) = true := by
    intro k hk j hj;simp only [Bool.or_eq_true, beq_iff_eq] at hk ⊢;rcases hk with hk | rfl
    ·exact .inl (j0 k hk j hj)
    ·exact .inl (v0 j hj)
   have V0 : ∀ j ∈ R3a l i, f j = true := c3a j0 _ _ v0;have one : ∀ (ix : List Nat) (x y : Nat) (J : (Nat → Bool) → Env → World → Prop), ix.Nodup → i ∈ ix → Y4b l pur x y [] ix = true → (i = y → f x = true) → WN P r N l C pur n D (w5a ix f) e w →
    (∀ e' w', WN P r N l C pur n D (w5a ix (fun j => f j || j == i)) e' w' → J (fun j => f j || j == i) e' w') →
    WL P r N l.toArray [o] (fun D' e' w' => D' = D ∧ (∀ i, N ≤ i → e' i = undef) ∧ (∀ k, (f k || k == i) = true → ∀ j ∈ d1a l k, (f j || j == i) = true) ∧ J (fun j => f j || j == i) e' w') D e w := by
    intro ix x y J Q0 hi S0 W0 hw hJ;obtain ⟨hN, h5⟩ := WN.step u0 Q0 S0 j0 hi ho C0 v0 W0 hz hw;have x0 := hw.inC;rcases h5 with ⟨B0, d, v, hd, hv, h5⟩ | ⟨B0, h5⟩
    ·rcases hv with ⟨i0, hv⟩ | ⟨i0, rfl⟩
     ·unfold WL; intro a Q hs hD he hK;simp only [wpListIn];have h0 : Region.wanted o (yielded l.toArray a.tmps) = true := by rw [h1a, he]; exact i0
      simp only [h0, if_true];refine ⟨u0a _ _ _, ?_⟩;rw [Oper.semAt_eq _ _ _ (z0a u0 ho).2, c2a, he, hv w x0, Oper.uponIn_value];refine hK _ _ (by rw [T4a, hs]) ⟨by rw [y2a, hD], ?_⟩;rw [hd, W0a v (by rw [hs]; exact hN d hd), he];exact ⟨I1a (hN d hd) hz, d0, hJ _ _ h5⟩
     ·unfold WL; intro a Q hs hD he hK;simp only [wpListIn];have h0 : Region.wanted o (yielded l.toArray a.tmps) = false := by rw [h1a, he]; exact i0
      simp only [h0];refine ⟨u0a _ _ _, ?_⟩;refine hK _ _ (by rw [T4a, hs]) ⟨by rw [y2a, hD], ?_⟩;rw [hd, W0a undef (by rw [hs]; exact hN d hd), he];exact ⟨I1a (hN d hd) hz, d0, hJ _ _ h5⟩
    ·unfold WL at *;refine fun a Q hs hD he hK => h5 a Q hs hD he (fun a' w' T0 hh => hK a' w' T0 ?_);obtain ⟨H0, v, hv, h6⟩ := hh;exact ⟨H0, by rw [hv]; exact e8a hN hz, d0, hJ _ _ h6⟩
   rcases hM with ⟨q0, z0, o0, y0⟩ | ⟨q0, o0⟩ | ⟨z0, y0⟩
   ·by_cases n0 : i = a
    ·exact one a0 a c (fun f e w => (f a = false ∧ f c = false ∧ WN P r N l C pur n D (w5a a0 f) e w ∧ WN P r N l C pur n D (w5a b0 f) e w) ∨ (f a = true ∧ WN P r N l C pur n D (w5a a0 f) e w) ∨ (f c = true ∧ WN P r N l C pur n D (w5a b0 f) e w)) e0 (G0 i g0) D0 (fun h => absurd (n0.symm.trans h) R0) o0 (fun e' w' h => .inr (.inl ⟨by simp [n0], h⟩))
    by_cases A0 : i = c
    ·exact one b0 c a (fun f e w => (f a = false ∧ f c = false ∧ WN P r N l C pur n D (w5a a0 f) e w ∧ WN P r N l C pur n D (w5a b0 f) e w) ∨ (f a = true ∧ WN P r N l C pur n D (w5a a0 f) e w) ∨ (f c = true ∧ WN P r N l C pur n D (w5a b0 f) e w)) f0 (inB i g0) E0 (fun h => absurd h n0) y0 (fun e' w' h => .inr (.inr ⟨by simp [A0], h⟩))
    have B0 : pur i = true := by
     have := List.all_eq_true.1 P0 i (List.mem_range.2 g0);simp only [Bool.or_eq_true, beq_iff_eq, n0, A0, or_false, Bool.and_eq_true, List.contains_eq_mem, decide_eq_true_eq] at this;rcases this with h | h
     ·exact h
     ·have := V0 a h.1; rw [q0] at this; cases this
    obtain ⟨hN, h5⟩ := WN.step u0 e0 D0 j0 (G0 i g0) ho C0 v0 (fun h => absurd h A0) hz o0;obtain ⟨-, h6⟩ := WN.step u0 f0 E0 j0 (inB i g0) ho C0 v0 (fun h => absurd h n0) hz y0;have x0 := o0.inC;rcases h5 with ⟨_, d, v, hd, hv, h5⟩ | ⟨t0, _⟩
    rotate_left
    ·rw [B0] at t0; cases t0
    rcases h6 with ⟨_, d', v', L0, U0, h6⟩ | ⟨t0, _⟩
    rotate_left
    ·rw [B0] at t0; cases t0
    obtain rfl : d' = d := Option.some.inj (L0.symm.trans hd);obtain rfl : v' = v := PV.uniq x0 U0 hv;have r0 : (f a || a == i) = false := by simp [q0]; exact fun e => n0 e.symm
    have s0 : (f c || c == i) = false := by simp [z0]; exact fun e => A0 e.symm
    rcases hv with ⟨i0, hv⟩ | ⟨i0, rfl⟩
    ·unfold WL; intro a Q hs hD he hK;simp only [wpListIn];have h0 : Region.wanted o (yielded l.toArray a.tmps) = true := by rw [h1a, he]; exact i0
     simp only [h0, if_true];refine ⟨u0a _ _ _, ?_⟩;rw [Oper.semAt_eq _ _ _ (z0a u0 ho).2, c2a, he, hv w x0, Oper.uponIn_value];refine hK _ _ (by rw [T4a, hs]) ⟨by rw [y2a, hD], ?_⟩;rw [hd, W0a v' (by rw [hs]; exact hN d' hd), he];exact ⟨I1a (hN d' hd) hz, d0, .inl ⟨r0, s0, h5, h6⟩⟩
    ·unfold WL; intro a Q hs hD he hK;simp only [wpListIn];have h0 : Region.wanted o (yielded l.toArray a.tmps) = false := by rw [h1a, he]; exact i0
     simp only [h0];refine ⟨u0a _ _ _, ?_⟩;refine hK _ _ (by rw [T4a, hs]) ⟨by rw [y2a, hD], ?_⟩;rw [hd, W0a undef (by rw [hs]; exact hN d' hd), he];exact ⟨I1a (hN d' hd) hz, d0, .inl ⟨r0, s0, h5, h6⟩⟩
   ·exact one a0 a c (fun f e w => (f a = false ∧ f c = false ∧ WN P r N l C pur n D (w5a a0 f) e w ∧ WN P r N l C pur n D (w5a b0 f) e w) ∨ (f a = true ∧ WN P r N l C pur n D (w5a a0 f) e w) ∨ (f c = true ∧ WN P r N l C pur n D (w5a b0 f) e w)) e0 (G0 i g0) D0 (fun _ => q0) o0 (fun e' w' h => .inr (.inl ⟨by simp [q0], h⟩))
   ·exact one b0 c a (fun f e w => (f a = false ∧ f c = false ∧ WN P r N l C pur n D (w5a a0 f) e w ∧ WN P r N l C pur n D (w5a b0 f) e w) ∨ (f a = true ∧ WN P r N l C pur n D (w5a a0 f) e w) ∨ (f c = true ∧ WN P r N l C pur n D (w5a b0 f) e w)) f0 (inB i g0) E0 (fun _ => z0) y0 (fun e' w' h => .inr (.inr ⟨by simp [z0], h⟩))
  ·rintro f e w ⟨hz, j0, hM⟩ p0;have rA : w5a a0 f = [] := by
    unfold w5a; rw [List.filter_eq_nil_iff]; intro j hj; simp [p0 j (by simpa using List.all_eq_true.1 J0 j hj)]
   have rB : w5a b0 f = [] := by
    unfold w5a; rw [List.filter_eq_nil_iff]; intro j hj; simp [p0 j (by simpa using List.all_eq_true.1 K0 j hj)]
   rw [rA, rB] at hM;rcases hM with ⟨_, _, h, _⟩ | ⟨_, h⟩ | ⟨_, h⟩
   ·exact h.2
   ·exact h.2
   ·exact h.2
 unfold W at *;intro a hs hd he;refine hz (fun i hi => ?_) a hs hd he;rw [← he]; simp only [P0a, Array.getD_eq_getD_getElem?]; rw [Array.getElem?_eq_none (by omega)]; rfl
variable {e : Env} {w : World}
theorem m6b (hC : C w) (h : K D e w) : WN P r N l C pur K D [] e w := ⟨hC, h⟩
theorem G3a {i : Nat} {rest : List Nat} {o : Oper} (hC : C w) (ho : l[i]? = some o) (hp : pur i = true) (hv : r2c o.op = true) (h : QL P N l.toArray C [o] (fun e' => WN P r N l C pur K D rest e' w) e) : WN P r N l C pur K D (i :: rest) e w := by
 unfold QL at h;obtain ⟨pa, hl, hq, hk⟩ := h;obtain ⟨d, v, h1, h2, h3, h4⟩ := hq 0 o rfl;obtain rfl : pa = [(d, v)] := by
  match pa, hl, h1 with
  | [x], _, h1 => simpa using h1
 refine ⟨hC, o, ho, fun d' a0 => by rw [h2] at a0; cases a0; exact h3, .inl ⟨hp, d, v, h2, ?_, hk⟩⟩;rcases h4 with ⟨h5, h6⟩ | h5
 ·refine .inl ⟨h5, fun w hw => ?_⟩;rcases h6 w hw with h7 | ⟨f, args, h7, _⟩
  ·exact h7
  ·obtain ⟨_, b0⟩ := J6a hv h7; cases b0
 ·exact .inr h5
theorem W5b {i : Nat} {rest : List Nat} {o : Oper} (hC : C w) (ho : l[i]? = some o) (hp : pur i = false) (hN : (o.dst.all fun d => Nat.ble (d + 1) N) = true)
 (h : WL P r N l.toArray [o] (fun D' e' w' => D' = D ∧ WN P r N l C pur K D rest e' w') D e w) : WN P r N l C pur K D (i :: rest) e w :=
 ⟨hC, o, ho, fun d hd => by rw [hd] at hN; exact Nat.le_of_ble_eq_true (by simpa using hN), .inr ⟨hp, h⟩⟩
end
def y5a (M : List Nat) (w : World) (cs : List Value) (x : u2a) : Prop := ∃ ys, cs = ys ++ [.int .i64 x.frm, .int .i64 x.ch.thread, .int .i64 x.ch.step, .int .i64 x.ch.cell] ∧ t0a M w x.conf ys ∧ i64 x.frm ∧ S1a [.int .i64 x.ch.thread, .int .i64 x.ch.step, .int .i64 x.ch.cell] x.ch
theorem y5a.open_ {M : List Nat} {w : World} {cs : List Value} {x : u2a} (h : y5a M w cs x) : ∃ Am nm cm Aa na ca Ab nb cb, cs = [.slice Am nm cm, .slice Aa na ca, .slice Ab nb cb, .int .i64 x.frm, .int .i64 x.ch.thread, .int .i64 x.ch.step, .int .i64 x.ch.cell] ∧ t0a M w x.conf [.slice Am nm cm, .slice Aa na ca, .slice Ab nb cb] ∧ i64 x.frm ∧ S1a [.int .i64 x.ch.thread, .int .i64 x.ch.step, .int .i64 x.ch.cell] x.ch := by
 obtain ⟨_, rfl, h1, h2, h3⟩ := h;obtain ⟨Am, nm, cm, Aa, na, ca, Ab, nb, cb, rfl, -⟩ := h1.open_;exact ⟨Am, nm, cm, Aa, na, ca, Ab, nb, cb, rfl, h1, h2, h3⟩
theorem y5a.keep {M : List Nat} {w w' : World} {cs : List Value} {x : u2a} (hk : w0a M w w') (h : y5a M w cs x) : y5a M w' cs x := by
 obtain ⟨ys, h0, h1, h2⟩ := h;exact ⟨ys, h0, h1.keep hk, h2⟩
theorem y5a.more {M M' : List Nat} {w : World} {cs : List Value} {x : u2a} (hM : ∀ g ∈ M', g ∈ M ∨ w.heap.size ≤ g) (h : y5a M w cs x) : y5a M' w cs x := by
 obtain ⟨ys, h0, h1, h2⟩ := h;exact ⟨ys, h0, h1.more hM, h2⟩
theorem f1b : W4a y5a 7 where
 len h := by
  obtain ⟨Am, nm, cm, Aa, na, ca, Ab, nb, cb, rfl, -⟩ := h.open_; rfl
 one h u hu := by
  obtain ⟨Am, nm, cm, Aa, na, ca, Ab, nb, cb, rfl, -⟩ := h.open_;simp at hu; rcases hu with rfl | rfl | rfl | rfl | rfl | rfl | rfl <;> rfl
 keep hk h := h.keep hk
 more hM h := h.more hM
theorem u8a (ns : List Int) : (M3a ns).size = ns.length := by
 show (ns.foldl (fun r n => r.push (UInt8.ofNat n.toNat)) ByteArray.empty).data.size = _
 rw [← Array.length_toList, o4a, List.length_append, List.length_map];exact Nat.zero_add _
def a5b (V : List u2a) : List (Value × Value) := V.map fun x => (.string (I6b x.conf), .bool true)
theorem A6b (V : List u2a) (x : u2a) : a5b (V ++ [x]) = a5b V ++ [(.string (I6b x.conf), .bool true)] := by simp [a5b]
theorem F6b {V : List u2a} {k v : Value} (h : (k, v) ∈ a5b V) : v = .bool true := by
 obtain ⟨_, _, he⟩ := List.mem_map.1 h;exact (Prod.mk.inj he).2.symm
theorem k7b {p : f0a} {V : List u2a} {x : u2a} (hp : a1a p) (hV : ∀ y ∈ V, F3a p y.conf) (hx : F3a p x.conf) {v : Value} (h : (Value.string (I6b x.conf), v) ∈ a5b V) : H2a V x = V := by
 obtain ⟨y, hy, he⟩ := List.mem_map.1 h;have h1 : I6b y.conf = I6b x.conf := by injection (Prod.mk.inj he).1
 unfold H2a;rw [if_pos];exact List.mem_map.2 ⟨y, hy, h2c hp (hV y hy) hx h1⟩
theorem J6b {V : List u2a} {x : u2a} (h : ∀ y ∈ a5b V, y.1 ≠ Value.string (I6b x.conf)) : H2a V x = V ++ [x] := by
 unfold H2a;rw [if_neg];intro hh;obtain ⟨y, hy, he⟩ := List.mem_map.1 hh;refine h _ (List.mem_map.2 ⟨y, hy, rfl⟩) ?_;show Value.string (I6b y.conf) = _;rw [he]
theorem St.base (M : List Nat) (w : World) : St M w w [] := ⟨v0a.refl _ _, by simp, by simp⟩
theorem St.pushO {M : List Nat} {w0 w : World} {L : List Ent} (S : St M w0 w L) {G : Option Nat} {t : TypeId} {cs : List Value} (h0 : G = none → cs = []) (hg : ∀ g, G = some g → o0a w (g, t, cs)) (hM : ∀ g, G = some g → g ∈ M) (a0 : ∀ g, G = some g → ∀ b ∈ L, b.1 ≠ some g) : St M w0 w ((G, t, cs) :: L) := by
 cases G with
 | none => rw [h0 rfl]; exact S.nilEnt t
 | some g => exact S.push (hg g rfl) (.inr (hM g rfl)) (a0 g rfl)
theorem P1a.grow {α : Type} {R : List Nat → World → List Value → α → Prop} {size : Nat} (hL : W4a R size) {M M' Bs : List Nat} {w w' : World} {G : Option Nat} {cs : List Value} {v : Value} {l : List α} (h : P1a R size M w G cs v l) (hk : w0a Bs w w') (hB : ∀ g ∈ Bs, g ∈ G.toList ++ M) (hM : ∀ g ∈ M', g ∈ G.toList ++ M ∨ w.heap.size ≤ g) : P1a R size M' w' G cs v l := by
 obtain ⟨css, q1, q2, q3, q4⟩ := h;refine ⟨css, q1, q2, q3, fun i x hi => ?_⟩;obtain ⟨c, h5, h6⟩ := q4 i x hi;refine ⟨c, h5, ?_⟩;have h7 : R (Bs ++ (G.toList ++ M')) w c x := hL.more (fun g hg => by
  rcases List.mem_append.1 hg with hg | hg
  ·exact .inl (hB g hg)
  ·rcases List.mem_append.1 hg with hg | hg
   ·exact .inl (List.mem_append_left _ hg)
   ·exact hM g hg) h6
 exact hL.more (fun g hg => .inl (List.mem_append_right _ hg)) (hL.keep (hk.mono (fun g hg => List.mem_append_left _ hg)) h7)
theorem q1a {M : List Nat} {w w' : World} {b : Blk} (hk : w0a M w w') (hm : b.1 ∉ M) (h : o0a w b) : o0a w' b := by
 have := h.lt;unfold o0a at *; rw [hk.same _ this hm]; exact h
theorem e1b {α : Type} {R : List Nat → World → List Value → α → Prop} {size : Nat} {M : List Nat} {w : World} {cs : List Value} {v : Value} {l : List α} (h : P1a R size M w none cs v l) : l = [] := by
 obtain ⟨_, _, _, ⟨_, hr⟩, _⟩ := h;rcases hr with ⟨_, _, h0⟩ | ⟨g, a0, hg, _⟩
 ·exact List.length_eq_zero_iff.1 h0
 ·cases hg
theorem v0a.nilK {M : List Nat} {w w' : World} (h : v0a M w w') (k : w0a [] w w') : v0a [] w w' := ⟨h.os, h.tape, h.output, h.size, k.same⟩
theorem P1a.rdG {α : Type} {R : List Nat → World → List Value → α → Prop} {size : Nat} {M M' : List Nat} {w0 w : World} {L : List Ent} {k el : Nat} {G : Option Nat} {cs : List Value} {v : Value} {l : List α} (h : P1a R size M w G cs v l) (S : St M' w0 w L) (hk : L[k]? = some (G, el, cs)) (hM : ∀ g, G = some g → g ∉ M) (hl : l.length ≤ 1000000) : RdS M w size (R (G.toList ++ M) w) v l := by
 obtain ⟨css, h1, h2, ⟨_, hr⟩, h4⟩ := h;rcases hr with ⟨rfl, rfl, h0⟩ | ⟨g, b0, rfl, rfl, q1, q2, q3, q4⟩
 ·exact ⟨none, 0, 0, rfl, by omega, by omega, by unfold maxLen; omega, by omega, fun h => absurd h (by omega)⟩
 ·refine ⟨_, _, _, rfl, rfl, q1, q2, by omega, fun _ => ⟨g, 0, rfl, hM g rfl, fun i x hi => ?_⟩⟩;obtain ⟨c, h5, h6⟩ := h4 i x hi;refine ⟨c, h2 c (List.mem_of_getElem? h5), fun j u hj => ?_, h6⟩;have hf := L2c css i c h2 h5 j u hj;have a0 : i * size + j < l.length * size := by
   have := (List.getElem?_eq_some_iff.1 hf).1;rw [D3a css h2, h1] at this; exact this
  rw [← q4, List.getElem?_take, if_pos a0] at hf;have := S.cell k hk hf;simpa using this
theorem u5a {w : World} {g g' t t' : Nat} {cs a0 : List Value} (h : o0a w (g, t, cs)) (h' : o0a w (g', t', a0)) (ht : t ≠ t') : g ≠ g' := by
 rintro rfl;unfold o0a at h h';rw [h] at h';simp only [Option.some.injEq] at h';cases h';exact ht rfl
structure H7b (m : Int) (gseen gmap gP gY gS l : Nat) (c0 c1 c2 c3 : Value) (Bs M0 : List Nat) (w : World) (V : List u2a) (G : Option Nat) (cs : List Value) (v : Value) : Prop where
 seen : o0a w (gseen, 50, [.map (some gmap)])
 map : v2a Tryz.prog 9 w gmap (a5b V)
 ptr : o0a w (gP, 70, [.pointer (some ⟨gS, 0, none⟩)])
 yld : o0a w (gY, 140, [.func (.yield l) #[] #[]])
 blk : o0a w (gS, 73, [c0, c1, c2, c3, .int .i64 m, v])
 row : P1a y5a 7 (gS :: gmap :: (Bs ++ M0)) w G cs v V
 rown : G = none → cs = []
 rowb : ∀ g, G = some g → o0a w (g, 107, cs)
 ne : ∀ g ∈ [gseen, gmap, gP, gY, gS] ++ G.toList, g ∉ Bs
section
variable {m : Int} {gseen gmap gP gY gS l : Nat} {c0 c1 c2 c3 : Value} {Bs M0 : List Nat} {w : World} {V : List u2a} {G : Option Nat} {cs : List Value} {v : Value}
theorem H7b.st (h : H7b m gseen gmap gP gY gS l c0 c1 c2 c3 Bs M0 w V G cs v) : St (gS :: gmap :: G.toList) w w [(some gS, 73, [c0, c1, c2, c3, .int .i64 m, v]), (G, 107, cs)] :=
 ((St.base _ w).pushO h.rown h.rowb (fun g hg => by rw [hg]; simp) (fun g hg b hb => by simp at hb)).push h.blk (.inr (by simp)) (fun b hb he => by
   simp only [List.mem_singleton] at hb; subst hb;exact u5a (h.rowb gS he) h.blk (by decide) rfl)
theorem H7b.lt (h : H7b m gseen gmap gP gY gS l c0 c1 c2 c3 Bs M0 w V G cs v) : ∀ g ∈ [gseen, gmap, gP, gY, gS] ++ G.toList, g < w.heap.size := by
 intro g hg;simp only [List.mem_append, List.mem_cons, List.not_mem_nil, or_false, Option.mem_toList] at hg;rcases hg with (rfl | rfl | rfl | rfl | rfl) | hg
 ·exact h.seen.lt
 ·exact h.map.lt
 ·exact h.ptr.lt
 ·exact h.yld.lt
 ·exact h.blk.lt
 ·exact (h.rowb g hg).lt
theorem H7b.keep (h : H7b m gseen gmap gP gY gS l c0 c1 c2 c3 Bs M0 w V G cs v) {a0 : List Nat} {w' : World} (hk : w0a Bs w w') (hB : ∀ g ∈ a0, g ∈ Bs ∨ w.heap.size ≤ g) : H7b m gseen gmap gP gY gS l c0 c1 c2 c3 a0 M0 w' V G cs v where
 seen := q1a hk (h.ne _ (by simp)) h.seen
 map := h.map.keep hk (h.ne _ (by simp))
 ptr := q1a hk (h.ne _ (by simp)) h.ptr
 yld := q1a hk (h.ne _ (by simp)) h.yld
 blk := q1a hk (h.ne _ (by simp)) h.blk
 row := h.row.grow f1b hk (fun g hg => by simp [hg]) (fun g hg => by
  simp only [List.mem_cons, List.mem_append] at hg ⊢;rcases hg with rfl | rfl | hg | hg
  ·simp
  ·simp
  ·rcases hB g hg with h1 | h1
   ·simp [h1]
   ·exact .inr h1
  ·simp [hg])
 rown := h.rown
 rowb := fun g hg => q1a hk (h.ne _ (by simp [hg])) (h.rowb g hg)
 ne := fun g hg hh => by
  rcases hB g hh with h1 | h1
  ·exact h.ne g hg h1
  ·have := h.lt g hg; omega
end
structure B0c (p : f0a) (m : Int) (l gS : Nat) (c0 c1 c2 c3 : Value) (B : Nat) (M0 : List Nat) (wb : World) (J : Nat → List Nat → List Nat → World → Prop) (Q : World → Prop) : Prop where
 own : ∀ k Bs Ts Ts' w w', J k Bs Ts w → (∀ g ∈ Ts, g ∉ Bs ∧ (g = gS ∨ wb.heap.size ≤ g)) → (∀ g ∈ Ts', g ∈ Ts ∨ w.heap.size ≤ g) → v0a Ts w w' → J k Bs Ts' w'
 lt : ∀ k Bs Ts w, J k Bs Ts w → ∀ g ∈ Bs, g < w.heap.size
 each : ∀ k Bs Ts w V v, J k Bs Ts w → (∀ g ∈ Ts, g ∉ Bs ∧ (g = gS ∨ wb.heap.size ≤ g)) → (∀ g ∈ Ts, g < w.heap.size) → y3a p m V → V.length = k + 1 → o0a w (gS, 73, [c0, c1, c2, c3, .int .i64 m, v]) → gS ∉ Bs → RdS (Bs ++ M0) w 7 (y5a (Ts ++ (Bs ++ M0)) w) v V → wb.heap.size ≤ w.heap.size →
  Yld Tryz.prog l #[.int .i64 k] w fun r w' => (r = .bool true ∧ k < B ∧ ∃ Bs', J (k + 1) Bs' Ts w' ∧ w0a Bs w w' ∧ ∀ g ∈ Bs', g ∈ Bs ∨ w.heap.size ≤ g) ∨ (r = .bool false ∧ Q w')
theorem e2c (p : f0a) (m : Int) (hp : a1a p) (gseen gmap gP gY gS l : Nat) (c0 c1 c2 c3 : Value) (Bs M0 : List Nat) (B : Nat) (i1 : B ≤ 100000) (wb w0 : World) (J : Nat → List Nat → List Nat → World → Prop) (Q : World → Prop) (hJ : B0c p m l gS c0 c1 c2 c3 B M0 wb J Q) (V : List u2a) (G : Option Nat) (cs : List Value) (v : Value) (x : u2a) (xs : List Value)
 (hS : H7b m gseen gmap gP gY gS l c0 c1 c2 c3 Bs M0 w0 V G cs v) (hk : J V.length Bs (gS :: gmap :: G.toList) w0) (hX : y5a (gS :: gmap :: (G.toList ++ (Bs ++ M0))) w0 xs x) (hV : ∀ y ∈ V, F3a p y.conf) (hx : F3a p x.conf) (y0 : y3a p m (H2a V x)) (hB : V.length ≤ B) (n0 : ∀ g ∈ gS :: gmap :: G.toList, g = gS ∨ wb.heap.size ≤ g) (d1 : wb.heap.size ≤ w0.heap.size) (O0 : ∀ g ∈ M0, g < w0.heap.size ∧ g ∉ G.toList) :
 M0a Tryz.prog 79 #[.agg xs.toArray, .pointer (some ⟨gseen, 0, none⟩), .pointer (some ⟨gP, 0, none⟩), .pointer (some ⟨gY, 0, none⟩)] w0 fun r w' => (r = .bool true ∧ ∃ p0 G' X0 v', H7b m gseen gmap gP gY gS l c0 c1 c2 c3 p0 M0 w' (H2a V x) G' X0 v' ∧ J (H2a V x).length p0 (gS :: gmap :: G'.toList) w' ∧ w0a (gS :: gmap :: (G.toList ++ Bs)) w0 w' ∧ (∀ g ∈ p0, g ∈ Bs ∨ w0.heap.size ≤ g) ∧ (∀ g ∈ G'.toList, g ∈ G.toList ∨ w0.heap.size ≤ g) ∧ (H2a V x).length ≤ B) ∨ (r = .bool false ∧ Q w') := by
 obtain ⟨_, _, _, _, _, _, _, _, _, rfl, Z0, _, _⟩ := hX.open_;have S := hS.st;have k1 := hS.seen.cell (o := 0) rfl;have k2 := hS.ptr.cell (o := 0) rfl;have k3 := hS.yld.cell (o := 0) rfl;have hG : ∀ g, G = some g → g ≠ gseen ∧ g ≠ gP ∧ g ≠ gY := fun g hg => ⟨u5a (hS.rowb g hg) hS.seen (by decide), u5a (hS.rowb g hg) hS.ptr (by decide), u5a (hS.rowb g hg) hS.yld (by decide)⟩
 have P0 : ∀ g ∈ gS :: gmap :: G.toList, g ∉ Bs ∧ (g = gS ∨ wb.heap.size ≤ g) := fun g hg => ⟨hS.ne g (by simp at hg ⊢; grind), n0 g hg⟩
 have f1 : gmap ∉ G.toList := fun hh => by simp only [Option.mem_toList] at hh; exact hS.map.ne (hS.rowb _ hh) rfl
 have n1 : gseen ∉ gS :: gmap :: G.toList := fun hh => by
  simp only [List.mem_cons, Option.mem_toList] at hh;rcases hh with hh | hh | hh
  ·exact u5a hS.seen hS.blk (by decide) hh
  ·exact hS.map.ne hS.seen hh.symm
  ·exact (hG _ hh).1 rfl
 have n2 : gP ∉ gS :: gmap :: G.toList := fun hh => by
  simp only [List.mem_cons, Option.mem_toList] at hh;rcases hh with hh | hh | hh
  ·exact u5a hS.ptr hS.blk (by decide) hh
  ·exact hS.map.ne hS.ptr hh.symm
  ·exact (hG _ hh).2.1 rfl
 have n3 : gY ∉ gS :: gmap :: G.toList := fun hh => by
  simp only [List.mem_cons, Option.mem_toList] at hh;rcases hh with hh | hh | hh
  ·exact u5a hS.yld hS.blk (by decide) hh
  ·exact hS.map.ne hS.yld hh.symm
  ·exact (hG _ hh).2.2 rfl
 refine a0a Tryz.func79 rfl Tryz.ntmps79 rfl ?_;refine wO0 rfl ⟨⟩ (j0a S (by conv => lhs; whnf) rfl ?_);intro g4 w4 S4 X4 G4;refine lO S4.k [.o 0] rfl ⟨rfl,⟨⟩⟩ ?_;refine B0a S4 W6c rfl rfl (p7c p hp x.conf hx _ _ _ (Z0.keep (S4.keepM.mono (fun g hg => by simp at hg ⊢; grind)))) ?_;rintro v9 w9 ⟨rfl, _⟩ S9 X9;have t0 : keyOf Tryz.prog 9 (.string (I6b x.conf)) = some (.string (I6b x.conf).data.toList) := Go.WideMaps.keyOf_string_mk Tryz.underlying9 (by unfold I6b; rw [u8a]; unfold maxLen; omega);have u0 := (hS.map.keep X4 (by simp)).keep X9 (by simp);refine lO0 rfl ⟨⟩ (s0a a0c rfl (by exact S9.oldM n1 k1) rfl ?_);refine lO0 rfl ⟨⟩ (f3b (Go.Maps.string_keyed Tryz.underlying9) Tryz.underlying50 r9c u0 rfl rfl t0 rfl (fun m1 x0 => ?_) (fun v0 => ?_));obtain rfl := F6b x0
 ·refine lR0 rfl ⟨⟩ (q0a rfl (by conv => lhs; whnf) ?_);rw [k7b hp hV hx x0];exact .inl ⟨rfl, Bs, G, cs, v, hS.keep ((X4.trans X9).mono (by simp)) (fun g hg => .inl hg), hJ.own V.length Bs _ _ w0 _ hk P0 (fun g hg => .inl hg) S9.below, (X4.trans X9).mono (by simp), fun g hg => .inl hg, fun g hg => .inl hg, hB⟩
 refine lO0 rfl ⟨⟩ (s0a a0c rfl (by exact S9.oldM n1 k1) rfl ?_);refine lO0 rfl ⟨⟩ (s7a S9 (Go.Maps.string_keyed Tryz.underlying9) Tryz.underlying50 u0 rfl rfl rfl t0 v0 (.inr (by simp)) ?_);intro wm Sm Xm Mm;refine lC0 rfl ⟨⟩ (g0b b0a (fun i => [0, 1, 2, 3, 4, 5, 8, 9].contains i) [0, 1, 2, 3, 4, 5, 6, 7, 8, 9] 10 (by kernel_rfl) (by kernel_rfl) (clF (A := [_, _]) (R := [(G, 107, cs)]) Sm G.toList) _ rfl ?_);have g0 := Sm.drew;have J0 : w0a [] wm wm.drew := x2a _ _;generalize wm.drew = t1 at g0 J0 ⊢;have i0 : w0a (G.toList) _ _ := J0.of_nil;refine N1a ⟨(St.front (A := [_, _]) g0), i0⟩ rfl rfl rfl ?_;refine h0a q4a rfl (fun w1 hw => by exact hw.1.oldM n2 k2) rfl ?_;refine d0a ?_;refine N1a ⟨(St.front (A := [_, _]) g0), i0⟩ rfl rfl rfl ?_;refine h0a q4a rfl (fun w1 hw => by exact hw.1.oldM n2 k2) rfl ?_;refine d0a ?_;refine N1a ⟨(St.front (A := [_, _]) g0), i0⟩ rfl rfl rfl ?_;refine X2a rfl rfl ?_;refine d0a ?_;refine N1a ⟨(St.front (A := [_, _]) g0), i0⟩ rfl rfl rfl ?_;refine F0a Y3b rfl rfl ?_;refine d0a ?_;refine N1a ⟨(St.front (A := [_, _]) g0), i0⟩ rfl rfl rfl ?_;refine h0a c7a rfl (fun w1 hw => by exact hw.1.cell 1 rfl rfl) rfl ?_;refine d0a ?_;refine N1a ⟨(St.front (A := [_, _]) g0), i0⟩ rfl rfl rfl ?_;refine H1a F5b rfl (fun w1 hw => hw.1.cells 0 rfl) rfl rfl ?_;refine d0a ?_;refine T9a ⟨(St.front (A := [_, _]) g0), i0⟩ rfl rfl rfl rfl ?_;refine E0a g0 e9b (vs := [.agg _]) (cs := [_, _, _, _, _, _, _]) (by rfl) rfl rfl rfl rfl rfl rfl ?_;intro h1 q1 q0 W0 g1;have b0 := i0.trans (W0.mono (by simp));refine S0a ⟨rfl, ?_⟩;refine T9a ⟨(St.front (A := [_, _, _]) q0).tail, b0⟩ rfl rfl rfl rfl ?_;have T0 := Mm.keep b0 f1;have F0 := hS.row.keep f1b (q0.keepM.mono (fun g hg => by simp at hg ⊢; grind));have a1 := (hX.more (M' := G.toList ++ (gS :: gmap :: (Bs ++ M0))) (fun g hg => by simp at hg ⊢; grind)).keep (q0.keepM.mono (fun g hg => by simp at hg ⊢; grind));refine C1a f1b (k := 3) (M2 := gS :: gmap :: (Bs ++ M0)) (e1 := x) q0 e9b (by decide) rfl F0 rfl rfl (q0.cells 0 rfl) a1 (by omega) rfl ?_;intro o1 o0 s0 r1 B0 e0 C0 S0;have A0 := B0.tail;have j0 := b0.trans C0;have U0 := T0.keep C0 (fun hh => by simp only [Option.mem_toList] at hh; exact hS.map.ne (hS.rowb _ hh) rfl);have u1 := b0.size;have v1 := C0.size;obtain ⟨H0, K0, rfl⟩ := e0.form;refine S0a ⟨rfl, ?_⟩;refine N1a ⟨(St.front (A := [_, _]) A0), j0⟩ rfl rfl rfl ?_;refine X2a rfl rfl ?_;refine d0a ?_;refine N1a ⟨(St.front (A := [_, _]) A0), j0⟩ rfl rfl rfl ?_;refine F0a Y3b rfl rfl ?_;refine d0a ?_;refine K5a ⟨(St.front (A := [_, _]) A0), j0⟩ ?_;refine I0a (kk := 1) A0 q9c rfl (by conv => lhs; whnf) rfl rfl (by exact Nat.le_of_ble_eq_true rfl) ?_;intro R0 r0 h0;refine S0a ⟨rfl, ?_⟩;have zl : (V ++ [x]).length ≤ 100001 := by simp; omega
 have e1 : (((V ++ [x]).length : Nat) : Int) - 1 = (V.length : Nat) := by simp
 refine fC0 rfl ⟨⟩ (D0a b0a [0, 1, 2, 3, 4, 5, 6] [] [7, 8] (by kernel_rfl) rfl (Cl _ _ _ _) (Cl.start r0) ?_);refine h0a W8a rfl (fun w1 hw => by exact hw.1.oldM n3 k3) rfl ?_;refine h0a q4a rfl (fun w1 hw => by exact hw.1.oldM n2 k2) rfl ?_;refine qO0 rfl ⟨⟩ (h0a c7a rfl (fun w1 hw => by exact hw.1.cell 1 rfl rfl) rfl ?_);refine qD rfl ⟨by omega,⟨⟩⟩ ?_;rintro z0 ⟨f0, I0⟩;have eV := J6b v0;rw [eV] at y0 ⊢;have V0 := (U0.keep h0 (fun hh => by rw [List.mem_singleton] at hh; exact hS.map.ne hS.blk hh)).keep I0 (by simp);have G0 := e0.keep f1b ((h0.trans I0.of_nil).mono (fun g hg => by simp at hg ⊢; grind));have d0 : ∀ g ∈ o0.toList, g ∈ G.toList ∨ w0.heap.size ≤ g := fun g hg => by
  rcases S0 g hg with h | h
  ·exact .inl h
  ·right; have := Sm.size; omega
 have a0 : H7b m gseen gmap gP gY gS l c0 c1 c2 c3 Bs M0 z0 (V ++ [x]) o0 s0 (.slice H0 (V ++ [x]).length K0) := by
  refine ⟨q1a f0.keepM n1 hS.seen, by rw [A6b]; exact V0, q1a f0.keepM n2 hS.ptr, q1a f0.keepM n3 hS.yld, f0.blk 1 rfl, G0, ?_, fun g hg => f0.blk 2 (by rw [hg]; rfl), fun g hg hh => ?_⟩
  ·rintro rfl;exact absurd (e1b G0) (by simp)
  ·simp only [List.mem_append, Option.mem_toList] at hg;rcases hg with hg | hg
   ·exact hS.ne g (List.mem_append_left _ hg) hh
   ·rcases d0 g (by simpa using hg) with h | h
    ·exact hS.ne g (List.mem_append_right _ h) hh
    ·have := hJ.lt _ _ _ _ hk g hh; omega
 have D0 := hJ.own V.length Bs (gS :: gmap :: G.toList) (gS :: gmap :: o0.toList) w0 z0 hk P0 (fun g hg => by
  simp only [List.mem_cons] at hg ⊢;rcases hg with rfl | rfl | hg
  ·simp
  ·simp
  ·rcases d0 g hg with h | h
   ·simp [h]
   ·exact .inr h) f0.below
 have b1 : RdS (Bs ++ M0) z0 7 (y5a ((gS :: gmap :: o0.toList) ++ (Bs ++ M0)) z0) (.slice H0 (V ++ [x]).length K0) (V ++ [x]) := by
  have E0 : ∀ g, o0 = some g → g ∉ gS :: gmap :: (Bs ++ M0) := fun g hg hh => by
   have Q0 := a0.rowb g hg;simp only [List.mem_cons, List.mem_append] at hh;rcases hh with rfl | rfl | hh | hh
   ·exact u5a Q0 a0.blk (by decide) rfl
   ·exact a0.map.ne Q0 rfl
   ·exact a0.ne g (by simp [hg]) hh
   ·rcases d0 g (by simp [hg]) with h | h
    ·exact (O0 g hh).2 h
    ·have := (O0 g hh).1; omega
  exact RdS.lessW (G0.rdG f0 (k := 2) rfl E0 (by simp; omega)) (fun g hg => by simp at hg ⊢; grind) (fun _ _ => y5a.more (fun g hg => .inl (by simp at hg ⊢; grind)))
 have hY := hJ.each V.length Bs _ z0 (V ++ [x]) _ D0 (fun g hg => ⟨a0.ne g (by simp at hg ⊢; grind), by
  simp only [List.mem_cons] at hg;rcases hg with rfl | rfl | hg
  ·exact .inl rfl
  ·exact n0 _ (by simp)
  ·rcases d0 g hg with h | h
   ·exact n0 g (by simp only [List.mem_cons]; exact .inr (.inr h))
   ·right; omega⟩) (fun g hg => a0.lt g (by simp at hg ⊢; grind)) y0 (by simp) a0.blk (hS.ne _ (by simp)) b1 (Nat.le_trans d1 f0.size)
 rw [← e1] at hY;refine F4b rfl rfl rfl hY ?_;rintro p1 s1 (⟨rfl, j1, p0, Y0, N0, L0⟩ | ⟨rfl, hQ⟩)
 ·refine lR0 rfl ⟨⟩ (q0a rfl (by conv => lhs; whnf) ?_);refine .inl ⟨rfl, p0, o0, s0, _, a0.keep N0 L0, by simpa using Y0, ?_, fun g hg => ?_, d0, by simp; omega⟩
  ·exact ((f0.keepM.mono (fun g hg => by simp at hg ⊢; grind)).trans (N0.mono (fun g hg => by simp [hg])))
  ·rcases L0 g hg with h | h
   ·exact .inl h
   ·right; have := f0.size; omega
 refine lR0 rfl ⟨⟩ (q0a rfl (by conv => lhs; whnf) ?_);exact .inr ⟨rfl, hQ⟩
theorem E8c {P : Program} {r : Option Nat} {N : Nat} {D : List Deferred} {e : Env} {w : World} {ops : Array Oper} {rest : List Oper} {K : List Deferred → Env → World → Prop} {d : Nat} {t xt yt : TypeId} {p : String} {af : Array Edge} {x y : Operand} {a : Int} {kd : IntKind} {n : Nat} (hx : ev e x = .int .i64 a) (hy : ev e y = .int kd (n : Int)) (hn : n ≤ 62) (hd : Nat.ble (d + 1) N = true) (h : WL P r N ops rest K D (upd e d (.int .i64 (a / ((2 ^ n : Nat) : Int)))) w) :
 WL P r N ops (⟨some d, .binOp .shr xt x y yt, t, p, af, none⟩ :: rest) K D e w :=
 c1a rfl rfl hd (by simp) (by
  have h3 : min n IntKind.i64.bits = n := by simp [IntKind.bits]; omega
  have h6 : ¬ ((n : Int) < 0) := by omega
  have h7 : a.fdiv (2 ^ n) = a / ((2 ^ n : Nat) : Int) := by
   rw [Int.fdiv_eq_ediv_of_nonneg]
   ·simp
   ·exact Int.le_of_lt (Int.pow_pos (by omega))
  simp only [execOp, hx, hy, eqGuard_shr, binOp_shr, Op.shift, h6, if_false, Int.toNat_natCast, h3, h7, Sem.run_bind, Sem.run_pure, Result.andThen_ok]) h
theorem St.callRow {M : List Nat} {w0 w w' : World} {L : List Ent} (S : St M w0 w L) {k t : Nat} {G G' : Option Nat} {cs a0 : List Value} (hk : L[k]? = some (G, t, cs)) (hB : v0a G.toList w w') (hb : ∀ g, G' = some g → o0a w' (g, t, a0)) (hf : ∀ g ∈ G'.toList, g ∈ G.toList ∨ w.heap.size ≤ g) : St M w0 w' (L.set k (G', t, a0)) := by
 have hg : ∀ g ∈ G.toList, w0.heap.size ≤ g ∨ g ∈ M := fun g hg => (S.own _ (List.mem_of_getElem? hk) g (by simpa using hg)).1;refine S.replace k hk ⟨hB.os.trans S.below.os, hB.tape.trans S.below.tape, hB.output.trans S.below.output, Nat.le_trans S.below.size hB.size, fun i hi hm => ?_⟩ (fun b b0 d0 => hB.block b b0 (fun hh => d0 (by simpa using hh))) (fun g he => ⟨?_, hb g he, ?_⟩)
 ·exact (hB.block i (Nat.lt_of_lt_of_le hi S.below.size) (fun hh => (hg i hh).elim (fun h => by omega) hm)).trans (S.below.block i hi hm)
 ·rcases hf g (by simp only [Option.mem_toList]; exact he) with h | h
  ·exact hg g h
  ·exact .inl (Nat.le_trans S.size h)
 ·rcases hf g (by simp only [Option.mem_toList]; exact he) with h | h
  ·exact .inl (by simpa using h)
  ·exact .inr h
theorem m7a (a b : List Int) (M : List Nat) (w0 : World) (va vb : Value) (hA : RdI M w0 va a) (hB : RdI M w0 vb b) :
 M0a Tryz.prog 37 #[va, vb] w0 fun v w' => v = .bool (decide (a = b)) ∧ Below w0.heap.size w0 w' := by
 obtain ⟨Aa, na, ca, rfl⟩ := hA.form;obtain ⟨_, -, _⟩ := hA.len;obtain ⟨Ab, nb, cb, rfl⟩ := hB.form;obtain ⟨_, -, _⟩ := hB.len;have S := St.refl w0;refine a0a Tryz.func37 rfl Tryz.ntmps37 rfl ?_;refine wB0 rfl ⟨⟩ (fun r0 => ?_) fun r0 => ?_
 ·refine lR0 rfl ⟨⟩ (q0a rfl (by conv => lhs; whnf) ?_);exact ⟨by rw [decide_eq_false (i8b (by omega))], S.fin⟩
 refine lC0 rfl ⟨⟩ (wL (fun μk D ε w => D = [] ∧ ∃ k : Nat, (k + μk = (a.length)) ∧ (f7b a b k) ∧ St [] w0 w [] ∧ Sl ε [(0, .slice Aa na ca), (1, .slice Ab nb cb), (5, .int .i64 k)]) (μ := (a.length)) ⟨rfl, 0, by omega, f7b.zero, S, rfl⟩ ?_);rintro μk D ε w ⟨rfl, k, _, he, S, eZ⟩;refine wK eZ (wB0 rfl ⟨⟩ (fun s0 => ?_) fun s0 => ?_)
 ·refine lC0 rfl ⟨⟩ (D0a b0a [0, 1, 2, 3, 4, 5, 6, 7, 8] [] [] (by kernel_rfl) rfl (Cl _ _ _ _) (Cl.start S) ?_);obtain ⟨x, p0, t0, _, j0, d0, _, _, f0, h0⟩ := RdS.get (hA) (k) (by omega);obtain ⟨rfl, _⟩ := id h0;obtain ⟨_, q0, u0, _, n0, e0, _, _, g0, i0⟩ := RdS.get (hB) (k) (by omega);obtain ⟨rfl, _⟩ := id i0;refine qB ((S.q.a g0).a f0) [.x p0 t0,.f 0 0,.x q0 u0,.f 1 0] rfl ⟨rfl,⟨e0,by omega⟩,rfl,⟨d0,by omega⟩,⟨⟩⟩ (fun b0 => ?_) fun b0 => ?_
  ·refine qD rfl ⟨⟩ ?_;rintro v0 ⟨a0, o0⟩;refine lR0 rfl ⟨⟩ (q0a rfl (by conv => lhs; whnf) ?_);exact ⟨by rw [decide_eq_false (Y6b j0 n0 b0)], a0.fin⟩
  refine qD rfl ⟨⟩ ?_;rintro v0 ⟨a0, o0⟩;refine lP0 rfl ⟨by omega,⟨⟩⟩ ⟨μk - 1, by omega, rfl, (k + 1), (by omega), (he.succ j0 n0 b0), a0, rfl⟩
 refine lR0 rfl ⟨⟩ (q0a rfl (by conv => lhs; whnf) ?_);exact ⟨by rw [decide_eq_true (he.all (by omega) (by omega))], S.fin⟩
theorem j2b (c d : r0a) (M : List Nat) (w0 : World) (xs ys : List Value) (hX : t0a M w0 c xs) (hY : t0a M w0 d ys) :
 M0a Tryz.prog 12 #[.agg xs.toArray, .agg ys.toArray] w0 fun v w' => v = .bool (decide (c = d)) ∧ Below w0.heap.size w0 w' := by
 obtain ⟨Xm, xm, ym, Xa, xa, ya, Xb, xb, yb, rfl, P0, V1, e0, _, _, _, _, _, _⟩ := hX.open_;obtain ⟨Zm, zm, um, Za, za, ua, Zb, zb, ub, rfl, y1, W1, h0, _, _, _, _, _, _⟩ := hY.open_;have S := St.refl w0;refine a0a Tryz.func12 rfl Tryz.ntmps12 rfl ?_;refine wO0 rfl ⟨⟩ (j0a S (by conv => lhs; whnf) rfl ?_);intro g2 w2 S2 X2 G2;refine j0a S2 (by conv => lhs; whnf) rfl ?_;intro g3 w3 S3 X3 G3;refine lO S3.k [.o 1,.o 0] rfl ⟨rfl,rfl,⟨⟩⟩ (y0a S3 t5b rfl rfl (m7a c.mem d.mem M _ _ _ (P0.keep (S3.keep0 M)) (y1.keep (S3.keep0 M))) (fun z0 o2 i0 B1 => ?_) (fun z0 o2 i0 B1 => ?_))
 ·refine lO i0.k [.o 1,.o 0] rfl ⟨rfl,rfl,⟨⟩⟩ (y0a i0 t5b rfl rfl (m7a c.at_ d.at_ M _ _ _ (V1.keep (i0.keep0 M)) (W1.keep (i0.keep0 M))) (fun A0 p2 j0 C1 => ?_) (fun A0 p2 j0 C1 => ?_))
  ·refine lB j0.k [.o 1,.o 0] rfl ⟨rfl,rfl,⟨⟩⟩ (fun Q1 => ?_) fun Q1 => ?_
   ·refine lR0 rfl ⟨⟩ (q0a rfl (by conv => lhs; whnf) ?_);exact ⟨by rw [decide_eq_false (fun e : c = d => i8b (a := c.buf) (b := d.buf) (by omega) (by rw [e]))], j0.fin⟩
   refine lC0 rfl ⟨⟩ (wL (fun μk D ε w => D = [] ∧ ∃ k : Nat, (k + μk = (c.buf.length)) ∧ (f7b c.buf d.buf k) ∧ St [] w0 w [(some g3, 38, [.slice Zm zm um, .slice Za za ua, .slice Zb zb ub]), (some g2, 38, [.slice Xm xm ym, .slice Xa xa ya, .slice Xb xb yb])] ∧ Sl ε [(2, .pointer (some ⟨g2, 0, none⟩)), (3, .pointer (some ⟨g3, 0, none⟩)), (5, .int .i64 k)]) (μ := (c.buf.length)) ⟨rfl, 0, by omega, f7b.zero, j0, rfl⟩ ?_);rintro μk D ε w ⟨rfl, k, _, he, S, eZ⟩;refine wK eZ (wB S.k [.o 1] rfl ⟨rfl,⟨⟩⟩ (fun R1 => ?_) fun R1 => ?_)
   ·refine lC0 rfl ⟨⟩ (D0a b0a [0, 1, 2, 3, 4, 5, 6, 7, 8, 9, 10, 11, 12] [] [] (by kernel_rfl) rfl (Cl _ _ _ _) (Cl.start S) ?_);obtain ⟨b, E1, Y1, _, g0, D0, _, _, Q0, b1⟩ := RdS.get (e0) (k) (by omega);obtain ⟨_, _, _, rfl, _, _, _⟩ := s5a.open_ b1;obtain ⟨b', F1, Z1, _, b0, E0, _, _, R0, d1⟩ := RdS.get (h0) (k) (by omega);obtain ⟨_, _, _, rfl, _, _, _⟩ := s5a.open_ d1;refine qB ((S.q.a R0).a Q0) [.o 1,.x E1 Y1,.f 0 0,.o 0,.x F1 Z1,.f 1 0] rfl ⟨rfl,⟨E0,by omega⟩,rfl,rfl,⟨D0,by omega⟩,rfl,⟨⟩⟩ (fun T1 => ?_) fun T1 => ?_
    ·refine qD rfl ⟨⟩ ?_;rintro q2 ⟨y0, D1⟩;refine lR0 rfl ⟨⟩ (q0a rfl (by conv => lhs; whnf) ?_);exact ⟨by rw [decide_eq_false (fun e : c = d => Y6b g0 b0 (i8b (by omega)) (by rw [e]))], y0.fin⟩
    refine qD rfl ⟨⟩ ?_;rintro q2 ⟨y0, D1⟩;refine lC0 rfl ⟨⟩ (wL (fun μj D ε w => D = [] ∧ ∃ j : Nat, (j + μj = (b.length)) ∧ (f7b b b' j) ∧ St [] w0 w [(some g3, 38, [.slice Zm zm um, .slice Za za ua, .slice Zb zb ub]), (some g2, 38, [.slice Xm xm ym, .slice Xa xa ya, .slice Xb xb yb])] ∧ Sl ε [(2, .pointer (some ⟨g2, 0, none⟩)), (3, .pointer (some ⟨g3, 0, none⟩)), (5, .int .i64 k), (6, .int .i64 j)]) (μ := (b.length)) ⟨rfl, 0, by omega, f7b.zero, y0, rfl⟩ ?_);rintro μj D ε w ⟨rfl, j, _, A1, S, eZ⟩;refine wK eZ ?_;obtain ⟨_, G1, a2, _, q1, F0, _, _, S0, f1⟩ := RdS.get (e0) (k) (by omega);obtain rfl := Option.some.inj (g0.symm.trans q1);obtain ⟨_, _, _, rfl, _, _, _⟩ := s5a.open_ f1;refine wB (S.k.a S0) [.o 1,.x G1 a2,.f 0 0] rfl ⟨rfl,⟨F0,by omega⟩,rfl,⟨⟩⟩ (fun U1 => ?_) fun U1 => ?_
    ·refine lC0 rfl ⟨⟩ (D0a b0a [0, 1, 2, 3, 4, 5, 6, 7, 8, 9, 10, 11, 12, 13, 14, 15, 16, 17, 18, 19, 20, 21, 22, 23, 24, 25, 26, 27, 28, 29, 30, 31, 32, 33, 34, 35, 36, 37, 38, 39, 40, 41] [] [] (by kernel_rfl) rfl (Cl _ _ _ _) (Cl.start S) ?_);obtain ⟨_, H1, b2, _, r1, G0, _, _, T0, g1⟩ := RdS.get (e0) (k) (by omega);obtain rfl := Option.some.inj (g0.symm.trans r1);obtain ⟨_, _, _, rfl, o0, _, _⟩ := s5a.open_ g1;obtain ⟨en, I1, d2, _, f0, H0, _, _, U0, h1⟩ := RdS.get (o0) (j) (by omega);obtain ⟨_, _, _, _, _, _, rfl, s0, _, _, _, _, _⟩ := V0a.open_ h1;obtain ⟨_, J1, f2, _, s1, I0, _, _, V0, i1⟩ := RdS.get (h0) (k) (by omega);obtain rfl := Option.some.inj (b0.symm.trans s1);obtain ⟨_, _, _, rfl, p0, _, _⟩ := s5a.open_ i1;obtain ⟨z1, K1, h2, _, a0, J0, _, _, W0, j1⟩ := RdS.get (p0) (j) (by omega);obtain ⟨_, _, _, _, _, _, rfl, t0, _, _, _, _, _⟩ := V0a.open_ j1;refine qO ((((S.q.a W0).a V0).a U0).a T0) [.o 1,.x H1 b2,.f 0 0,.x I1 d2,.f 1 0,.o 0,.x J1 f2,.f 2 0,.x K1 h2,.f 3 0] rfl ⟨rfl,⟨J0,by omega⟩,rfl,⟨I0,by omega⟩,rfl,rfl,⟨H0,by omega⟩,rfl,⟨G0,by omega⟩,rfl,⟨⟩⟩ (X1a t5b rfl rfl (fun w1 S1 X1 => m7a en.cells z1.cells M _ _ _ (s0.keep (S1.keep0 M)) (t0.keep (S1.keep0 M))) (fun B0 => ?_) fun B0 => ?_)
     ·obtain ⟨_, M1, i2, _, t1, K0, _, _, X0, m1⟩ := RdS.get (e0) (k) (by omega);obtain rfl := Option.some.inj (g0.symm.trans t1);obtain ⟨_, _, _, rfl, q0, _, _⟩ := s5a.open_ m1;obtain ⟨_, N1, j2, _, u1, L0, _, _, Y0, n1⟩ := RdS.get (q0) (j) (by omega);obtain rfl := Option.some.inj (f0.symm.trans u1);obtain ⟨_, _, _, _, _, _, rfl, _, u0, _, _, _, _⟩ := V0a.open_ n1;obtain ⟨_, O1, m2, _, v1, N0, _, _, Z0, o1⟩ := RdS.get (h0) (k) (by omega);obtain rfl := Option.some.inj (b0.symm.trans v1);obtain ⟨_, _, _, rfl, r0, _, _⟩ := s5a.open_ o1;obtain ⟨_, P1, n2, _, x1, O0, _, _, a1, p1⟩ := RdS.get (r0) (j) (by omega);obtain rfl := Option.some.inj (a0.symm.trans x1);obtain ⟨_, _, _, _, _, _, rfl, _, v0, _, _, _, _⟩ := V0a.open_ p1;refine qO ((((S.q.a a1).a Z0).a Y0).a X0) [.o 1,.x M1 i2,.f 0 0,.x N1 j2,.f 1 1,.o 0,.x O1 m2,.f 2 0,.x P1 n2,.f 3 1] rfl ⟨rfl,⟨O0,by omega⟩,rfl,⟨N0,by omega⟩,rfl,rfl,⟨L0,by omega⟩,rfl,⟨K0,by omega⟩,rfl,⟨⟩⟩ (X1a t5b rfl rfl (fun w1 S1 X1 => m7a en.values z1.values M _ _ _ (u0.keep (S1.keep0 M)) (v0.keep (S1.keep0 M))) (fun C0 => ?_) fun C0 => ?_)
      ·refine qD rfl ⟨⟩ ?_;rintro x0 ⟨d0, n0⟩;refine lP0 rfl ⟨by omega,⟨⟩⟩ ⟨μj - 1, by omega, rfl, (j + 1), (by omega), (A1.succ f0 a0 (G0a.ext' (of_decide_eq_true B0) (of_decide_eq_true C0))), d0, rfl⟩
      refine qD rfl ⟨⟩ ?_;rintro x0 ⟨d0, n0⟩;refine lR0 rfl ⟨⟩ (q0a rfl (by conv => lhs; whnf) ?_);exact ⟨by rw [decide_eq_false (fun e : c = d => Y6b g0 b0 (Y6b f0 a0 (fun e' => of_decide_eq_false C0 (by rw [e']))) (by rw [e]))], d0.fin⟩
     refine qD rfl ⟨⟩ ?_;rintro x0 ⟨d0, n0⟩;refine lR0 rfl ⟨⟩ (q0a rfl (by conv => lhs; whnf) ?_);exact ⟨by rw [decide_eq_false (fun e : c = d => Y6b g0 b0 (Y6b f0 a0 (fun e' => of_decide_eq_false B0 (by rw [e']))) (by rw [e]))], d0.fin⟩
    refine lP0 rfl ⟨by omega,⟨⟩⟩ ⟨μk - 1, by omega, rfl, (k + 1), (by omega), (he.succ g0 b0 (A1.all (by omega) (by omega))), S, rfl⟩
   refine lR0 rfl ⟨⟩ (q0a rfl (by conv => lhs; whnf) ?_);exact ⟨by rw [decide_eq_true (r0a.ext' (of_decide_eq_true z0) (of_decide_eq_true A0) (he.all (by omega) (by omega)))], S.fin⟩
  refine lR0 rfl ⟨⟩ (q0a rfl (by conv => lhs; whnf) ?_);exact ⟨by rw [decide_eq_false (fun e => of_decide_eq_false A0 (by rw [e]))], j0.fin⟩
 refine lR0 rfl ⟨⟩ (q0a rfl (by conv => lhs; whnf) ?_);exact ⟨by rw [decide_eq_false (fun e => of_decide_eq_false z0 (by rw [e]))], i0.fin⟩
theorem G4a (n : Int) (w0 : World) (G : Option Nat) (cs : List Value) (v : Value) (l : List Int) (b0 : x7b w0 G cs v l) (h0 : G = none → cs = []) (n0 : ∀ g, G = some g → o0a w0 (g, 5, cs)) (hl : l.length ≤ 100000) :
 M0a Tryz.prog 27 #[v, .int .i64 n] w0 fun r w' => ∃ G' e0, x7b w' G' e0 r (l ++ two n) ∧ (G' = none → e0 = []) ∧ (∀ g, G' = some g → o0a w' (g, 5, e0)) ∧ v0a G.toList w0 w' ∧ ∀ g ∈ G'.toList, g ∈ G.toList ∨ w0.heap.size ≤ g := by
 have S : St G.toList w0 w0 [(G, 5, cs)] := (St.base _ w0).pushO h0 n0 (fun g hg => by rw [hg]; simp) (fun g hg b hb => by simp at hb);obtain ⟨_, _, rfl⟩ := b0.form;have m1 : 0 ≤ n % 256 ∧ n % 256 ≤ 255 := by omega
 have m2 : 0 ≤ n / 256 % 256 ∧ n / 256 % 256 ≤ 255 := by omega
 have b1 : e4b n 255 = n % 256 := by simpa [c5a] using M9a n 8 (by omega)
 have b2 : e4b (n / ((2 ^ 8 : Nat) : Int)) 255 = n / 256 % 256 := by simpa [c5a] using M9a (n / 256) 8 (by omega)
 refine a0a Tryz.func27 rfl Tryz.ntmps27 rfl ?_;refine wO0 rfl ⟨⟩ ?_;rw [b1];refine S5a Tryz.underlying3 Tryz.underlying5 rfl (a := n % 256) m1 rfl ?_;refine lO0 rfl ⟨⟩ (E8c (n := 8) rfl rfl (by omega) rfl ?_);refine lO0 rfl ⟨⟩ ?_;rw [b2];refine S5a Tryz.underlying3 Tryz.underlying5 rfl (a := n / 256 % 256) m2 rfl ?_;refine E0a S L4a (vs := [.int .u8 _, .int .u8 _]) (cs := [_, _]) (by rfl) rfl rfl rfl rfl rfl rfl ?_;intro r0 t0 d0 p0 o0;have v0 := d0.size;refine s9a m9a (k := 1) (M2 := []) (e1 := n % 256) (e2 := n / 256 % 256) d0 L4a (by decide) rfl (b0.keep m9a (d0.keepM.mono (fun g hg => by simpa using hg))) rfl rfl (d0.cells 0 rfl) rfl rfl (by omega) rfl ?_;intro s0 j0 f0 u0 g0 a0 q0 i0;obtain ⟨_, _, rfl⟩ := a0.form;refine lR0 rfl ⟨⟩ (q0a rfl (by conv => lhs; whnf) ?_);exact ⟨j0, f0, a0, fun h => by subst h; exact absurd (e1b a0) (by simp), fun g hg => g0.blk 1 (by rw [hg]; rfl), g0.below, fun g hg => (i0 g hg).imp id (fun h => by omega)⟩
theorem W9b (p : f0a) (hp : a1a p) (c : r0a) (hf : F3a p c) (M : List Nat) (w0 : World) (ys : List Value) (hX : t0a M w0 c ys) :
 M0a Tryz.prog 9 #[.agg ys.toArray] w0 fun v w' => (v = .string (G7b c) ∧ (S3b c).length ≤ 20000) ∧ Below w0.heap.size w0 w' := by
 obtain ⟨Xm, xm, ym, Xa, xa, ya, Xb, xb, yb, rfl, m1, J2, j0, _, _, _, _, _, _⟩ := hX.open_;have n1 := hp.ncells;have n2 := hp.nthreads;have f1 := hf.mem.len;have f2 := hf.nat;have f3 := hf.nbuf;have S := (St.refl w0).nilEnt 5;refine a0a Tryz.func9 rfl Tryz.ntmps9 rfl ?_;refine wO0 rfl ⟨⟩ (j0a S (by conv => lhs; whnf) rfl ?_);intro g1 w1 S1 X1 G1;refine lC0 rfl ⟨⟩ (wL (fun μk D ε w => D = [] ∧ ∃ k : Nat, ∃ G : Option Nat, ∃ d0 : List Value, ∃ v : Value, ∃ l : List Int, (k + μk = (c.mem.length)) ∧ (l.length ≤ 2 * k) ∧ (l = (c.mem.take k).flatMap two) ∧ (x7b w0 G d0 v l) ∧ (G = none → d0 = []) ∧ St [] w0 w [(some g1, 38, [.slice Xm xm ym, .slice Xa xa ya, .slice Xb xb yb]), (G, 5, d0)] ∧ Sl ε [(1, .pointer (some ⟨g1, 0, none⟩)), (3, v), (4, .int .i64 k)]) (μ := (c.mem.length)) ⟨rfl, 0, none, [], .slice none 0 0, [], by omega, by simp, by simp, P1a.nil, fun _ => rfl, S1, rfl⟩ ?_);rintro μk D ε w ⟨rfl, k, G, d0, v, l, hk, _, hq, b0, h0, S, eZ⟩;refine wK eZ (wB S.k [.o 0] rfl ⟨rfl,⟨⟩⟩ (fun D2 => ?_) fun D2 => ?_)
 ·refine lOn 8 S.k [] rfl ⟨⟩ (m1a (by conv => lhs; whnf) rfl ?_);obtain ⟨n, w2, K2, _, E0, Z0, _, _, t1, D1⟩ := RdS.get (m1) (k) (by omega);obtain ⟨rfl, _⟩ := id D1;refine lO (S.k.a t1) [.o 0,.x w2 K2,.f 0 0] rfl ⟨rfl,⟨Z0,by omega⟩,rfl,⟨⟩⟩ ?_;refine e2a h0b rfl rfl (G4a n _ _ _ _ _ b0 h0 (fun g hg => S.blk 1 (by rw [hg]; rfl)) (by omega)) ?_;rintro W2 Z2 ⟨_, _, n0, U0, o1, a2, i2⟩;have s2 := S.callRow (k := 1) rfl a2 o1 i2;refine T0a (by conv => lhs; whnf) rfl ?_;refine lP0 rfl ⟨by omega,⟨⟩⟩ ?_;refine ⟨μk - 1, by omega, rfl, (k + 1), (_), (_), (_), (l ++ two n), (by omega), (by simp [two]; omega), (by rw [hq, J0a E0]; simp), (n0), (U0), s2, rfl⟩
 have C1 : l = c.mem.flatMap two := by rw [hq, List.take_of_length_le (by omega)]
 clear hq;refine lC0 rfl ⟨⟩ (wL (fun μk D ε w => D = [] ∧ ∃ k : Nat, ∃ G : Option Nat, ∃ d0 : List Value, ∃ v : Value, ∃ l2 : List Int, (k + μk = (c.at_.length)) ∧ (l2.length ≤ 80 + 2 * k) ∧ (l2 = (c.mem ++ c.at_.take k).flatMap two) ∧ (x7b w0 G d0 v l2) ∧ (G = none → d0 = []) ∧ St [] w0 w [(some g1, 38, [.slice Xm xm ym, .slice Xa xa ya, .slice Xb xb yb]), (G, 5, d0)] ∧ Sl ε [(1, .pointer (some ⟨g1, 0, none⟩)), (3, v), (5, .int .i64 k)]) (μ := (c.at_.length)) ⟨rfl, 0, G, d0, v, l, by omega, by omega, by simp [C1], b0, h0, S, rfl⟩ ?_);rintro μk D ε w ⟨rfl, k, G, d0, v, l2, hk, _, hq, b0, h0, S, eZ⟩;refine wK eZ (wB S.k [.o 0] rfl ⟨rfl,⟨⟩⟩ (fun E2 => ?_) fun E2 => ?_)
 ·refine lOn 8 S.k [] rfl ⟨⟩ (m1a (by conv => lhs; whnf) rfl ?_);obtain ⟨n, x2, L2, _, E0, a1, _, _, u1, E1⟩ := RdS.get (J2) (k) (by omega);obtain ⟨rfl, _⟩ := id E1;refine lO (S.k.a u1) [.o 0,.x x2 L2,.f 0 0] rfl ⟨rfl,⟨a1,by omega⟩,rfl,⟨⟩⟩ ?_;refine e2a h0b rfl rfl (G4a n _ _ _ _ _ b0 h0 (fun g hg => S.blk 1 (by rw [hg]; rfl)) (by omega)) ?_;rintro X2 a3 ⟨_, _, o0, V0, p1, b2, j2⟩;have t2 := S.callRow (k := 1) rfl b2 p1 j2;refine T0a (by conv => lhs; whnf) rfl ?_;refine lP0 rfl ⟨by omega,⟨⟩⟩ ?_;refine ⟨μk - 1, by omega, rfl, (k + 1), (_), (_), (_), (l2 ++ two n), (by omega), (by simp [two]; omega), (by rw [hq, J0a E0]; simp), (o0), (V0), t2, rfl⟩
 have C1 : l2 = (c.mem ++ c.at_).flatMap two := by rw [hq, List.take_of_length_le (by omega)]
 clear hq;refine lC0 rfl ⟨⟩ (wL (fun μk D ε w => D = [] ∧ ∃ k : Nat, ∃ G : Option Nat, ∃ d0 : List Value, ∃ v : Value, ∃ l3 : List Int, (k + μk = (c.buf.length)) ∧ (l3.length ≤ 200 + 4000 * k) ∧ (l3 = (c.mem ++ (c.at_ ++ (c.buf.take k).flatMap B2a)).flatMap two) ∧ (x7b w0 G d0 v l3) ∧ (G = none → d0 = []) ∧ St [] w0 w [(some g1, 38, [.slice Xm xm ym, .slice Xa xa ya, .slice Xb xb yb]), (G, 5, d0)] ∧ Sl ε [(1, .pointer (some ⟨g1, 0, none⟩)), (3, v), (6, .int .i64 k)]) (μ := (c.buf.length)) ⟨rfl, 0, G, d0, v, l2, by omega, by omega, by simp [C1], b0, h0, S, rfl⟩ ?_);rintro μk D ε w ⟨rfl, k, G, d0, v, l3, hk, _, hq, b0, h0, S, eZ⟩;refine wK eZ (wB S.k [.o 0] rfl ⟨rfl,⟨⟩⟩ (fun F2 => ?_) fun F2 => ?_)
 ·refine lOn 9 S.k [] rfl ⟨⟩ (m1a (by conv => lhs; whnf) rfl ?_);obtain ⟨b, y2, N2, _, I0, b1, _, _, v1, F1⟩ := RdS.get (j0) (k) (by omega);obtain ⟨_, s0, _, rfl, _, _, _⟩ := s5a.open_ F1;have q3 := hf.bufs k b I0;refine lO (S.k.a v1) [.o 0,.x y2 N2,.f 0 0] rfl ⟨rfl,⟨b1,by omega⟩,rfl,⟨⟩⟩ ?_;refine e2a h0b rfl rfl (G4a (s0 : Int) _ _ _ _ _ b0 h0 (fun g hg => S.blk 1 (by rw [hg]; rfl)) (by omega)) ?_;rintro T2 b3 ⟨q2, R0, p0, W0, q1, d2, m2⟩;have u2 := S.callRow (k := 1) rfl d2 q1 m2;refine T0a (by conv => lhs; whnf) rfl ?_;refine lC0 rfl ⟨⟩ ?_;refine wL (fun μj D ε w => D = [] ∧ ∃ j : Nat, ∃ G4 : Option Nat, ∃ G0 : List Value, ∃ v4 : Value, ∃ l4 : List Int, (j + μj = (b.length)) ∧ (l4.length ≤ 202 + 4000 * k + 130 * j) ∧ (l4 = l3 ++ ((b.length : Int) :: (b.take j).flatMap A4a).flatMap two) ∧ (x7b w0 G4 G0 v4 l4) ∧ (G4 = none → G0 = []) ∧ St [] w0 w [(some g1, 38, [.slice Xm xm ym, .slice Xa xa ya, .slice Xb xb yb]), (G4, 5, G0)] ∧ Sl ε [(1, .pointer (some ⟨g1, 0, none⟩)), (3, v4), (6, .int .i64 k), (7, .int .i64 j)]) (μ := (b.length)) ⟨rfl, 0, q2, R0, T2, l3 ++ two (s0 : Int), by omega, by simp [two]; omega, by rw [show (b.length : Int) = s0 by omega]; simp, p0, W0, u2, rfl⟩ ?_;rintro μj D ε w ⟨rfl, j, G4, G0, v4, l4, _, _, V1, g0, R1, S, eZ⟩;refine wK eZ ?_;obtain ⟨_, z2, O2, _, M1, d1, _, _, x1, H1⟩ := RdS.get (j0) (k) (by omega);obtain rfl := Option.some.inj (I0.symm.trans M1);obtain ⟨_, _, _, rfl, _, _, _⟩ := s5a.open_ H1;refine wB (S.k.a x1) [.o 0,.x z2 O2,.f 0 0] rfl ⟨rfl,⟨d1,by omega⟩,rfl,⟨⟩⟩ (fun G2 => ?_) fun G2 => ?_
  ·obtain ⟨_, A2, P2, _, N1, h1, _, _, y1, I1⟩ := RdS.get (j0) (k) (by omega);obtain rfl := Option.some.inj (I0.symm.trans N1);obtain ⟨_, _, _, rfl, v0, _, _⟩ := s5a.open_ I1;obtain ⟨en, B2, Q2, _, D0, i1, _, B1, z1, J1⟩ := RdS.get (v0) (j) (by omega);obtain ⟨J0, f0, Q0, K0, O1, T0, rfl, x0, y0, _, _, _, _⟩ := V0a.open_ J1;refine lO ((S.k.a z1).a y1) [.o 0,.x A2 P2,.f 0 0,.x B2 Q2,.v 1] rfl ⟨⟨rfl,B1⟩,⟨i1,by omega⟩,rfl,⟨h1,by omega⟩,rfl,⟨⟩⟩ (n0a S n9a rfl rfl ?_);intro g8 w8 S8 X8 G8;refine e0a (kk := 0) (vs := [_, _]) S8 X9a rfl rfl rfl rfl rfl rfl rfl ?_;intro Z1 a0 Q1;dsimp only [k0a, List.set] at a0;refine lOn 4 a0.k [] rfl ⟨⟩ (m1a (by conv => lhs; whnf) rfl ?_);have q4 := q3.2.1 en (c0a D0);have q5 := q4.len;have q6 : en.values.length = en.cells.length := q4.even;refine lO a0.k [.o 0] rfl ⟨rfl,⟨⟩⟩ ?_;refine e2a h0b rfl rfl (G4a (f0 : Int) _ _ _ _ _ g0 R1 (fun g hg => a0.blk 2 (by rw [hg]; rfl)) (by omega)) ?_;rintro U2 d3 ⟨r2, S0, q0, X0, r1, g2, o2⟩;have v2 := a0.callRow (k := 2) rfl g2 r1 o2;refine T0a (by conv => lhs; whnf) rfl ?_;refine lC0 rfl ⟨⟩ ?_;refine wL (fun μi D ε w => D = [] ∧ ∃ i : Nat, ∃ G5 : Option Nat, ∃ H0 : List Value, ∃ v5 : Value, ∃ l5 : List Int, (i + μi = (en.cells.length)) ∧ (l5.length ≤ 204 + 4000 * k + 130 * j + 4 * i) ∧ (l5 = l4 ++ ((en.cells.length : Int) :: ((en.cells.zip en.values).take i).flatMap fun x => [x.1, x.2]).flatMap two) ∧ (x7b w0 G5 H0 v5 l5) ∧ (G5 = none → H0 = []) ∧ St [] w0 w [(some g8, 81, [.slice J0 f0 Q0, .slice K0 O1 T0]), (some g1, 38, [.slice Xm xm ym, .slice Xa xa ya, .slice Xb xb yb]), (G5, 5, H0)] ∧ Sl ε [(1, .pointer (some ⟨g1, 0, none⟩)), (3, v5), (6, .int .i64 k), (7, .int .i64 j), (8, .pointer (some ⟨g8, 0, none⟩)), (9, .int .i64 i)]) (μ := (en.cells.length)) ⟨rfl, 0, r2, S0, U2, l4 ++ two (f0 : Int), by omega, by simp [two]; omega, by rw [show (en.cells.length : Int) = f0 by omega]; simp, q0, X0, v2, rfl⟩ ?_;rintro μi D ε w ⟨rfl, i, G5, H0, v5, l5, _, _, W1, i0, T1, S, eZ⟩;refine wK eZ (wB S.k [.o 0] rfl ⟨rfl,⟨⟩⟩ (fun H2 => ?_) fun H2 => ?_)
   ·refine lB S.k [.o 0] rfl ⟨rfl,⟨⟩⟩ (fun I2 => ?_) (fun I2 => by exfalso; omega);refine lOn 10 S.k [] rfl ⟨⟩ (m1a (by conv => lhs; whnf) rfl ?_);obtain ⟨n, C2, R2, _, E0, j1, _, _, A1, K1⟩ := RdS.get (x0) (i) (by omega);obtain ⟨rfl, _⟩ := id K1;refine lO (S.k.a A1) [.o 0,.x C2 R2,.f 0 0] rfl ⟨rfl,⟨j1,by omega⟩,rfl,⟨⟩⟩ ?_;refine e2a h0b rfl rfl (G4a n _ _ _ _ _ i0 T1 (fun g hg => S.blk 2 (by rw [hg]; rfl)) (by omega)) ?_;rintro Y2 e3 ⟨_, _, r0, Y0, s1, h2, p2⟩;have F0 := S.callRow (k := 2) rfl h2 s1 p2;refine T0a (by conv => lhs; whnf) rfl ?_;refine lOn 3 F0.k [] rfl ⟨⟩ ?_;obtain ⟨u, Y1⟩ : ∃ u, en.values[i]? = some u := ⟨en.values[i]'(by omega), List.getElem?_eq_getElem _⟩;refine m1a (by conv => lhs; whnf) rfl ?_;obtain ⟨_, P0, P1, _, C0, u0, _, _, A0, B0⟩ := RdS.get (y0) (i) (by omega);obtain rfl := Option.some.inj (Y1.symm.trans C0);obtain ⟨rfl, _⟩ := id B0;refine lO (F0.k.a A0) [.o 0,.x P0 P1,.f 0 0] rfl ⟨rfl,⟨u0,by omega⟩,rfl,⟨⟩⟩ ?_;refine e2a h0b rfl rfl (G4a u _ _ _ _ _ r0 Y0 (fun g hg => F0.blk 2 (by rw [hg]; rfl)) (by simp [two]; omega)) ?_;rintro S2 V2 ⟨_, _, e0, t0, z0, L0, N0⟩;have O0 := F0.callRow (k := 2) rfl L0 z0 N0;refine T0a (by conv => lhs; whnf) rfl ?_;refine lP0 rfl ⟨by omega,⟨⟩⟩ ?_;refine ⟨μi - 1, by omega, rfl, (i + 1), (_), (_), (_), ((l5 ++ two n) ++ two u), (by omega), (by simp [two]; omega), (by rw [W1, J0a (D1b E0 Y1)]; simp), (e0), (t0), O0, rfl⟩
   refine lP0 rfl ⟨by omega,⟨⟩⟩ ?_;refine ⟨μj - 1, by omega, rfl, (j + 1), (_), (_), (_), (l5), (by omega), (by omega), (by rw [W1, List.take_of_length_le (show (en.cells.zip en.values).length ≤ i by simp; omega), V1, J0a D0]; simp [A4a]), (i0), (T1), S.tail, rfl⟩
  refine lP0 rfl ⟨by omega,⟨⟩⟩ ?_;refine ⟨μk - 1, by omega, rfl, (k + 1), (_), (_), (_), (l4), (by omega), (by omega), (by rw [V1, List.take_of_length_le (show b.length ≤ j by omega), hq, J0a I0]; simp [B2a]), (g0), (R1), S, rfl⟩
 refine lOn 7 S.k [] rfl ⟨⟩ (m1a (by conv => lhs; whnf) rfl ?_);refine Y7b S (k := 1) Tryz.underlying77 Tryz.underlying5 Tryz.underlying9 rfl b0 rfl rfl ?_;refine lR0 rfl ⟨⟩ (q0a rfl (by conv => lhs; whnf) ?_);rw [List.take_of_length_le (by omega)] at hq;have U1 : l3 = S3b c := hq;refine ⟨⟨?_, ?_⟩, S.fin⟩
 ·rw [U1]; rfl
 ·rw [← U1]; omega
theorem InP.grow {p : f0a} {Bs0 M0 N : List Nat} {w0 w : World} {cs : List Value} (h : InP p (Bs0 ++ M0) w0 cs) (hK : w0a Bs0 w0 w) (hN : ∀ g ∈ N, g ∈ Bs0 ++ M0 ∨ w0.heap.size ≤ g) (a0 : ∀ g ∈ N, g < w.heap.size) : InP p N w cs := by
 have hm : ∀ g ∈ Bs0 ++ N, g ∈ Bs0 ++ M0 ∨ w0.heap.size ≤ g := fun g hg => by
  rcases List.mem_append.1 hg with h | h
  ·exact .inl (List.mem_append_left _ h)
  ·exact hN g h
 have hk : w0a (Bs0 ++ N) w0 w := hK.mono fun g hg => List.mem_append_left _ hg;exact ⟨((h.rd.more hm).keep hk).less fun g hg => List.mem_append_right _ hg, h.ok, ⟨fun hh => ((h.msk.more hm).keep hk).1 (List.mem_append_right _ hh), ((h.msk.more hm).keep hk).2⟩, a0⟩
theorem Q3b {p : f0a} {m : Int} {c : r0a} (h : I3a (Q5a p m) (X0a p) c) (h0 : m = 0) : T3a c := by
 subst h0;intro b hb;obtain ⟨_, h2⟩ := a8b h;obtain ⟨t, ht, rfl⟩ := List.getElem_of_mem hb;have := h2 t
 rwa [List.getD_eq_getElem?_getD, List.getElem?_eq_getElem ht] at this
theorem G6a {p : f0a} {m : Int} {c : r0a} (hm : m = 0 ∨ m = 1 ∨ m = 2) (h : I3a (Q5a p m) (X0a p) c) : (m = 0 ∧ T3a c) ∨ m = 1 ∨ m = 2 := by
 rcases hm with h0 | h0 | h0
 ·exact .inl ⟨h0, Q3b h h0⟩
 ·exact .inr (.inl h0)
 ·exact .inr (.inr h0)
theorem M5b {A A' M0 : List Nat} {n : Nat} (hA : ∀ g ∈ A', g ∈ A ∨ n ≤ g) : ∀ g ∈ A ++ (A' ++ M0), g ∈ A ++ M0 ∨ n ≤ g := fun g hg => by
 rcases List.mem_append.1 hg with h | h
 ·exact .inl (List.mem_append_left _ h)
 ·rcases List.mem_append.1 h with h | h
  ·rcases hA g h with h | h
   ·exact .inl (List.mem_append_left _ h)
   ·exact .inr h
  ·exact .inl (List.mem_append_right _ h)
theorem t0a.wide {A A' M0 : List Nat} {w w' : World} {c : r0a} {ys : List Value} (h : t0a (A ++ M0) w c ys) (hk : w0a A w w') (hA : ∀ g ∈ A', g ∈ A ∨ w.heap.size ≤ g) : t0a (A' ++ M0) w' c ys :=
 ((h.more (M5b hA)).keep (hk.mono (fun _ hg => List.mem_append_left _ hg))).less (fun _ hg => List.mem_append_right _ hg)
theorem w1c.wide {A A' M0 : List Nat} {w w' : World} {l : List A0a} {v : Value} (h : w1c (A ++ M0) w v l) (hk : w0a A w w') (hA : ∀ g ∈ A', g ∈ A ∨ w.heap.size ≤ g) : w1c (A' ++ M0) w' v l :=
 ((RdS.more h (by omega) (M5b hA)).keep (hk.mono (fun _ hg => List.mem_append_left _ hg))).less (fun _ hg => List.mem_append_right _ hg)
theorem InP.wide {p : f0a} {A A' M0 : List Nat} {w w' : World} {cs : List Value} (h : InP p (A ++ M0) w cs) (hk : w0a A w w') (hA : ∀ g ∈ A', g ∈ A ∨ w.heap.size ≤ g) (a0 : ∀ g ∈ A', g < w'.heap.size) : InP p (A' ++ M0) w' cs :=
 h.grow hk (fun g hg => by
  rcases List.mem_append.1 hg with h | h
  ·rcases hA g h with h | h
   ·exact .inl (List.mem_append_left _ h)
   ·exact .inr h
  ·exact .inl (List.mem_append_right _ h)) (fun g hg => by
  rcases List.mem_append.1 hg with h1 | h1
  ·exact a0 g h1
  ·exact Nat.lt_of_lt_of_le (h.lt g (List.mem_append_right _ h1)) hk.size)
abbrev L8a (gS gmap : Nat) (G : Option Nat) (Bs : List Nat) : List Nat := gS :: gmap :: (G.toList ++ Bs)
structure m2b (p : f0a) (m : Int) (gseen gmap gP gY gS l : Nat) (c0 c1 c2 c3 : Value) (Bs0 M0 : List Nat) (B : Nat) (w0 : World) (J : Nat → List Nat → List Nat → World → Prop) (V : List u2a) (Bs : List Nat) (G : Option Nat) (cs : List Value) (v : Value) (w : World) : Prop where
 srch : H7b m gseen gmap gP gY gS l c0 c1 c2 c3 Bs M0 w V G cs v
 j : J V.length Bs (gS :: gmap :: G.toList) w
 le : V.length ≤ B
 gnew : ∀ g ∈ gmap :: G.toList, w0.heap.size ≤ g
 bnew : ∀ g ∈ Bs, g ∈ Bs0 ∨ w0.heap.size ≤ g
 prog : InP p (L8a gS gmap G Bs ++ M0) w [c0, c1, c2, c3]
 vis : y3a p m V
 old : w0.heap.size ≤ w.heap.size
 m0 : ∀ g ∈ M0, g < w0.heap.size
section
variable {p : f0a} {m : Int} {gseen gmap gP gY gS l : Nat} {c0 c1 c2 c3 : Value} {Bs0 M0 : List Nat} {B : Nat} {w0 : World} {J : Nat → List Nat → List Nat → World → Prop} {Q : World → Prop} {V : List u2a} {Bs : List Nat} {G : Option Nat} {cs : List Value} {v : Value} {w w' : World}
theorem m2b.ts (h : m2b p m gseen gmap gP gY gS l c0 c1 c2 c3 Bs0 M0 B w0 J V Bs G cs v w) : ∀ g ∈ gS :: gmap :: G.toList, g ∉ Bs ∧ (g = gS ∨ w0.heap.size ≤ g) := fun g hg => ⟨h.srch.ne g (by simp at hg ⊢; grind), by
 rcases List.mem_cons.1 hg with rfl | hg
 ·exact .inl rfl
 ·exact .inr (h.gnew g hg)⟩
theorem m2b.later (h : m2b p m gseen gmap gP gY gS l c0 c1 c2 c3 Bs0 M0 B w0 J V Bs G cs v w) (hJ : B0c p m l gS c0 c1 c2 c3 B M0 w0 J Q) (hB : v0a [] w w') : m2b p m gseen gmap gP gY gS l c0 c1 c2 c3 Bs0 M0 B w0 J V Bs G cs v w' :=
 have hk : w0a [] w w' := ⟨hB.size, hB.block⟩
 ⟨h.srch.keep hk.of_nil (fun _ hg => .inl hg), hJ.own _ _ _ _ _ _ h.j h.ts (fun _ hg => .inl hg) ⟨hB.os, hB.tape, hB.output, hB.size, fun k a0 _ => hB.block k a0 (by simp)⟩, h.le, h.gnew, h.bnew, h.prog.keep hk.of_nil, h.vis, Nat.le_trans h.old hB.size, h.m0⟩
theorem m2b.good (h : m2b p m gseen gmap gP gY gS l c0 c1 c2 c3 Bs0 M0 B w0 J V Bs G cs v w) : ∀ y ∈ V, F3a p y.conf := fun _ hy => Y3a h.prog.ok (j7a h.vis hy)
theorem m2b.rd (h : m2b p m gseen gmap gP gY gS l c0 c1 c2 c3 Bs0 M0 B w0 J V Bs G cs v w) (hB : B ≤ 100000) : RdS (gS :: gmap :: (Bs ++ M0)) w 7 (y5a (L8a gS gmap G Bs ++ M0) w) v V := by
 refine (fun hh : RdS (gS :: gmap :: (Bs ++ M0)) w 7 (y5a (G.toList ++ (gS :: gmap :: (Bs ++ M0))) w) v V => hh.mono fun _ _ hr => hr.more (fun g hg => .inl (by simp only [L8a, List.mem_cons, List.mem_append] at hg ⊢; grind))) ?_;refine P1a.rdG h.srch.row h.srch.st (k := 1) rfl (fun g hg hh => ?_) (by have := h.le; omega);have hb := h.srch.rowb g hg;simp only [List.mem_cons, List.mem_append] at hh;rcases hh with rfl | rfl | hh | hh
 ·exact u5a hb h.srch.blk (by decide) rfl
 ·exact h.srch.map.ne hb rfl
 ·exact h.srch.ne g (by simp [hg]) hh
 ·have h1 := h.m0 g hh;have h2 := h.gnew g (by simp [hg]);omega
theorem S5b {a0 : List Nat} {G' : Option Nat} {n : Nat} (hB : ∀ g ∈ a0, g ∈ Bs ∨ n ≤ g) (hG : ∀ g ∈ G'.toList, g ∈ G.toList ∨ n ≤ g) : ∀ g ∈ L8a gS gmap G' a0, g ∈ L8a gS gmap G Bs ∨ n ≤ g := fun g hg => by
 simp only [L8a, List.mem_cons, List.mem_append] at hg ⊢;rcases hg with rfl | rfl | hg | hg
 ·simp
 ·simp
 ·rcases hG g hg with h | h
  ·simp [h]
  ·exact .inr h
 ·rcases hB g hg with h | h
  ·simp [h]
  ·exact .inr h
theorem m2b.next (h : m2b p m gseen gmap gP gY gS l c0 c1 c2 c3 Bs0 M0 B w0 J V Bs G cs v w) (hJ : B0c p m l gS c0 c1 c2 c3 B M0 w0 J Q) {V' : List u2a} {a0 : List Nat} {G' : Option Nat} {b0 : List Value} {v' : Value} (hS : H7b m gseen gmap gP gY gS l c0 c1 c2 c3 a0 M0 w' V' G' b0 v') (hj : J V'.length a0 (gS :: gmap :: G'.toList) w') (hK : w0a (L8a gS gmap G Bs) w w') (hB : ∀ g ∈ a0, g ∈ Bs ∨ w.heap.size ≤ g) (hG : ∀ g ∈ G'.toList, g ∈ G.toList ∨ w.heap.size ≤ g) (d0 : V'.length ≤ B) (hv : y3a p m V') :
 m2b p m gseen gmap gP gY gS l c0 c1 c2 c3 Bs0 M0 B w0 J V' a0 G' b0 v' w' where
 srch := hS
 j := hj
 le := d0
 gnew := fun g hg => by
  rcases List.mem_cons.1 hg with rfl | hg
  ·exact h.gnew _ (by simp)
  ·rcases hG g hg with h1 | h1
   ·exact h.gnew g (List.mem_cons_of_mem _ h1)
   ·exact Nat.le_trans h.old h1
 bnew := fun g hg => by
  rcases hB g hg with h1 | h1
  ·exact h.bnew g h1
  ·exact .inr (Nat.le_trans h.old h1)
 prog := h.prog.wide hK (S5b hB hG) (fun g hg => by
  simp only [L8a, List.mem_cons, List.mem_append] at hg;rcases hg with rfl | rfl | hg | hg
  ·exact hS.lt _ (by simp)
  ·exact hS.lt _ (by simp)
  ·exact hS.lt _ (by simp only [List.mem_append]; exact .inr hg)
  ·exact hJ.lt _ _ _ _ hj g hg)
 vis := hv
 old := Nat.le_trans h.old hK.size
 m0 := h.m0
theorem m2b.found (h : m2b p m gseen gmap gP gY gS l c0 c1 c2 c3 Bs0 M0 B w0 J V Bs G cs v w) (hJ : B0c p m l gS c0 c1 c2 c3 B M0 w0 J Q) (d0 : B ≤ 100000) {x : u2a} {xs : List Value} (hX : y5a (L8a gS gmap G Bs ++ M0) w xs x) (hx : F3a p x.conf) (hv : y3a p m (H2a V x)) :
 M0a Tryz.prog 79 #[.agg xs.toArray, .pointer (some ⟨gseen, 0, none⟩), .pointer (some ⟨gP, 0, none⟩), .pointer (some ⟨gY, 0, none⟩)] w fun r w' => (r = .bool true ∧ ∃ a0 G' b0 v', m2b p m gseen gmap gP gY gS l c0 c1 c2 c3 Bs0 M0 B w0 J (H2a V x) a0 G' b0 v' w' ∧ w0a (L8a gS gmap G Bs) w w' ∧ ∀ g ∈ L8a gS gmap G' a0, g ∈ L8a gS gmap G Bs ∨ w.heap.size ≤ g) ∨ (r = .bool false ∧ Q w') :=
 (e2c p m h.prog.ok gseen gmap gP gY gS l c0 c1 c2 c3 Bs M0 B d0 w0 w J Q hJ V G cs v x xs h.srch h.j (hX.more (fun g hg => .inl (by simpa [L8a, List.append_assoc] using hg))) h.good hx hv h.le (fun g hg => by
   rcases List.mem_cons.1 hg with rfl | hg
   ·exact .inl rfl
   ·exact .inr (h.gnew g hg)) h.old (fun g hg => ⟨Nat.lt_of_lt_of_le (h.m0 g hg) h.old, fun hh => by have h1 := h.m0 g hg; have h2 := h.gnew g (by simp [hh]); omega⟩)).mono fun r w' hr => by
   rcases hr with ⟨rfl, a0, G', b0, v', h1, h2, h3, h4, h5, h6⟩ | hr
   ·exact .inl ⟨rfl, a0, G', b0, v', h.next hJ h1 h2 h3 h4 h5 h6 hv, h3, S5b h4 h5⟩
   ·exact .inr hr
end
theorem h8a {w : World} {gS : Nat} {c0 c1 c2 c3 u v : Value} (h : o0a w (gS, 73, [c0, c1, c2, c3, u, v])) : i1a w gS 0 [c0, c1, c2, c3] := fun j v hj => by
 rw [Nat.zero_add];refine h.cell (o := j) ?_
 match j, hj with
 | 0, hj => exact hj
 | 1, hj => exact hj
 | 2, hj => exact hj
 | 3, hj => exact hj
 | j + 4, hj => simp at hj
theorem a9a (p : f0a) (c : r0a) (m : Int) (x : A0a) (hm : (m = 0 ∧ T3a c) ∨ m = 1 ∨ m = 2) (hx : x ∈ H0a p m c) (M : List Nat) (w0 : World) (cs xs : List Value) (hI : InP p M w0 cs) (hX : t0a M w0 c xs) (hf : F3a p c) :
 M0a Tryz.prog 83 #[.agg cs.toArray, .int .i64 m, .agg xs.toArray, .agg #[.int .i64 x.thread, .int .i64 x.step, .int .i64 x.cell]] w0 fun v w' => (∃ ys, v = .tuple #[.agg ys.toArray, .int .i64 0] ∧ t0a M w' (doC p m c x) ys) ∧ Below w0.heap.size w0 w' := by
 have := B6b p c m x hm M w0 cs xs hI hX hf;rw [M8a hx] at this; exact this
theorem V3c (p : f0a) (m : Int) (hm : m = 0 ∨ m = 1 ∨ m = 2) (gP gS l : Nat) (c0 c1 c2 c3 : Value) (Bs0 M0 : List Nat) (B : Nat) (T0 : B ≤ 100000) (w0 : World) (J : Nat → List Nat → List Nat → World → Prop) (Q : World → Prop) (hI : InP p (gS :: (Bs0 ++ M0)) w0 [c0, c1, c2, c3])
 (J0 : o0a w0 (gP, 70, [.pointer (some ⟨gS, 0, none⟩)])) (C0 : o0a w0 (gS, 73, [c0, c1, c2, c3, .int .i64 m, .slice none 0 0])) (f2 : gP ∉ Bs0) (C1 : gS ∉ Bs0) (hJ : B0c p m l gS c0 c1 c2 c3 B M0 w0 J Q) (A1 : J 0 Bs0 [gS] w0) :
 M0a Tryz.prog 78 #[.func (.yield l) #[] #[], .pointer (some ⟨gP, 0, none⟩)] w0 fun _ w' => (∃ N Bs, (P2a p m N).length ≤ N ∧ (P2a p m N).length ≤ B ∧ ∃ Ts, (∀ g ∈ Ts, g ∉ Bs ∧ (g = gS ∨ w0.heap.size ≤ g)) ∧ J (P2a p m N).length Bs Ts w') ∨ Q w' := by
 have S := St.refl w0;have hp := hI.ok;have k1 := J0.cell (o := 0) rfl;have d2 := h8a C0;have a2 : ∀ g ∈ Bs0, g < w0.heap.size := hJ.lt _ _ _ _ A1;refine a0a Tryz.func78 rfl Tryz.ntmps78 rfl ?_;refine wO0 rfl ⟨⟩ (q6a S (v := .func _ _ _) rfl rfl rfl ?_);intro g2 w2 S2 X2 G2;refine lO0 rfl ⟨⟩ (e4a (k := 9) S2 rfl ?_);intro p0 D2 Q1 x2 P1 h0;refine n0a Q1 y9c rfl rfl ?_;intro g3 w3 S3 X3 G3;replace h0 := h0.keep X3 (List.not_mem_nil);refine I0a (kk := 0) S3 e9c rfl (by conv => lhs; whnf) rfl rfl (by exact Nat.le_of_ble_eq_true rfl) ?_;intro n1 s0 Q0;replace h0 := h0.keep Q0 (fun hh => by rw [List.mem_singleton] at hh; exact h0.ne (S3.blk 0 rfl) hh);refine lO0 rfl ⟨⟩ (F1a rfl rfl ?_);refine lO0 rfl ⟨⟩ (s0a q4a rfl (by exact s0.old k1) rfl ?_);refine lO0 rfl ⟨⟩ (x1a y4a rfl (d2.keep (s0.keep0 []) (by simp)) (by rfl) rfl ?_);have E0 : w0.heap.size ≤ p0 := Nat.le_trans S2.size P1;have z1 : InP p (L8a gS p0 none Bs0 ++ M0) n1 [c0, c1, c2, c3] := InP.grow (Bs0 := []) (M0 := gS :: (Bs0 ++ M0)) hI (s0.keep0 []) (fun g hg => by
  simp only [L8a, Option.toList_none, List.nil_append, List.cons_append, List.mem_cons] at hg ⊢;rcases hg with rfl | rfl | hg
  ·simp
  ·exact .inr E0
  ·exact .inl (.inr hg)) (fun g hg => by
  simp only [L8a, Option.toList_none, List.nil_append, List.cons_append, List.mem_cons] at hg;have := s0.size;rcases hg with rfl | rfl | hg
  ·have := C0.lt; simp at this; omega
  ·exact h0.lt
  ·have := hI.lt g (List.mem_cons_of_mem _ hg); omega)
 refine B0a s0 m8c rfl rfl (P2b p _ _ _ z1) ?_;rintro z2 q2 ⟨xs, rfl, hx⟩ q0 p1;replace h0 := h0.keep p1 (List.not_mem_nil);obtain ⟨Ym, u2, zm, Ya, s2, za, Yb, t2, zb, rfl, -⟩ := hx.open_;refine j1a L7b (vs := [(0, .agg _), (1, .int .i64 _)]) (cs := [_, _, _, _, _, _, _]) rfl rfl rfl rfl ?_;have O1 : m2b p m g3 p0 gP g2 gS l c0 c1 c2 c3 Bs0 M0 B w0 J [] Bs0 none [] (.slice none 0 0) q2 := by
  refine ⟨⟨q0.blk 0 rfl, h0, q1a (q0.keep0 []) (by simp) J0, q0.blk 1 rfl, q1a (q0.keep0 []) (by simp) C0, P1a.nil, fun _ => rfl, fun g hg => (by cases hg), fun g hg hh => ?_⟩, hJ.own 0 Bs0 [gS] _ w0 _ A1 (fun g hg => by rw [List.mem_singleton] at hg; subst hg; exact ⟨C1, .inl rfl⟩) (fun g hg => by simp only [Option.toList_none, List.mem_cons, List.not_mem_nil, or_false] at hg ⊢; rcases hg with rfl | rfl; exact .inl rfl; exact .inr E0) ⟨q0.below.os, q0.below.tape, q0.below.output, q0.below.size, fun k hk _ => q0.below.block k hk (by simp)⟩, Nat.zero_le _, fun g hg => ?_, fun g hg => .inl hg, z1.keep (p1.of_nil), ⟨0, List.nil_prefix⟩, q0.size, fun g hg => hI.lt g (by simp [hg])⟩
  ·have h1 := a2 g hh;have h2 : w0.heap.size ≤ g3 := by simpa using q0.new 0 rfl
   have h3 : w0.heap.size ≤ g2 := by simpa using q0.new 1 rfl
   simp only [List.mem_append, List.mem_cons, List.not_mem_nil, or_false, Option.toList_none] at hg;rcases hg with rfl | rfl | rfl | rfl | rfl
   ·omega
   ·omega
   ·exact f2 hh
   ·omega
   ·exact C1 hh
  ·simp only [Option.toList_none, List.mem_cons, List.not_mem_nil, or_false] at hg;subst hg; exact E0
 have E1 : H2a [] (⟨X0a p, -1, ⟨0, 0, 0⟩⟩ : u2a) = P2a p m 0 := by simp [H2a, P2a, P8c]
 have i0 : i64 0 := by unfold i64; omega
 refine s4a n3c rfl rfl rfl (O1.found hJ T0 (x := ⟨X0a p, -1, ⟨0, 0, 0⟩⟩) (xs := [.slice Ym u2 zm, .slice Ya s2 za, .slice Yb t2 zb, .int .i64 (-1), .int .i64 0, .int .i64 0, .int .i64 0]) ⟨_, rfl, hx, by unfold i64; simp only; omega, S1a.of i0 i0 i0⟩ (R5a hp) (by rw [E1]; exact ⟨0, List.prefix_refl _⟩)) ?_;rw [E1];rintro A2 E2 (⟨rfl, M1, G1, W1, v1, O2, K2, F2⟩ | ⟨rfl, V0⟩)
 ·refine lC0 rfl ⟨⟩ (wL (fun μo D ε w => D = [] ∧ ∃ i : Nat, ∃ V : List u2a, ∃ Bs : List Nat, ∃ G : Option Nat, ∃ cs : List Value, ∃ v : Value, (i + μo = B) ∧ (V = P2a p m i) ∧ (m2b p m g3 p0 gP g2 gS l c0 c1 c2 c3 Bs0 M0 B w0 J V Bs G cs v w) ∧ ε 1 = .pointer (some ⟨gP, 0, none⟩) ∧ ε 4 = .func (.func 79) #[] #[.pointer (some ⟨g3, 0, none⟩), .pointer (some ⟨gP, 0, none⟩), .pointer (some ⟨g2, 0, none⟩)] ∧ ε 5 = .int .i64 i) (μ := B) ⟨rfl, 0, _, M1, G1, W1, v1, by omega, rfl, O2, rfl, rfl, rfl⟩ ?_);rintro μo D ε w ⟨rfl, i, V, Bs, G, cs, v, _, hV, hO, e1, e4, e5⟩;refine p0a 1 e1 (p0a 4 e4 (p0a 5 e5 ?_));clear e1 e4 e5;replace S := St.refl w;obtain ⟨_, _, rfl⟩ := hO.srch.row.form;have nP : gP ∉ ([] : List Nat) := by simp
  have nS : gS ∉ ([] : List Nat) := by simp
  have cP := hO.srch.ptr.cell (o := 0) rfl;have cM := hO.srch.blk.cell (o := 4) rfl;have cV := hO.srch.blk.cell (o := 5) rfl;have cR : i1a w gS 0 [c0, c1, c2, c3] := h8a hO.srch.blk;have i2 := hO.le;refine wO0 rfl ⟨⟩ (s0a q4a rfl (by exact S.oldM nP cP) rfl ?_);refine lO0 rfl ⟨⟩ (s0a c7a rfl (by exact S.oldM nS cV) rfl ?_);refine lB0 rfl ⟨⟩ (fun Y1 => ?_) fun Y1 => ?_
  ·refine lO0 rfl ⟨⟩ (s0a q4a rfl (by exact S.oldM nP cP) rfl ?_);refine lO0 rfl ⟨⟩ (s0a c7a rfl (by exact S.oldM nS cV) rfl ?_);obtain ⟨y, U1, n2, _, m1, R0, _, _, a1, i1⟩ := RdS.get ((hO.rd T0)) (i) (by omega);obtain ⟨_, rfl, B0, -, -⟩ := i1;obtain ⟨Xm, xm, ym, Xa, xa, ya, Xb, xb, yb, rfl, -⟩ := B0.open_;refine lO S.k [.x U1 n2] rfl ⟨⟨R0,by omega⟩,⟨⟩⟩ (x1a o1a rfl (i1a.sub a1 0 3) rfl rfl ?_);refine n0a S U5a rfl rfl ?_;intro g6 w6 S6 X6 G6
   first | refine e0a (kk := 0) (vs := [_, _, _]) S6 S2a rfl rfl rfl rfl rfl rfl rfl ?_
   intro r2 G0 T1;dsimp only [k0a, List.set] at G0;refine lC0 rfl ⟨⟩ (G8b b0a (fun i => [0, 1, 2, 3, 4, 5, 6, 7, 8, 11].contains i) [0, 1, 2, 3, 4, 5, 6, 7, 8, 9, 10, 11] (by kernel_rfl) (by kernel_rfl) (Cl _ _ _ _) (Cl.start G0) ?_);rintro J2 ⟨o0, u0⟩;refine N1a ⟨o0, u0⟩ rfl rfl rfl ?_;refine h0a q4a rfl (fun w1 hw => by exact hw.1.oldM nP cP) rfl ?_;refine d0a ?_;refine N1a ⟨o0, u0⟩ rfl rfl rfl ?_;refine X2a rfl rfl ?_;refine d0a ?_;refine N1a ⟨o0, u0⟩ rfl rfl rfl ?_;refine F0a q1b rfl rfl ?_;refine d0a ?_;refine N1a ⟨o0, u0⟩ rfl rfl rfl ?_;refine H1a y4a rfl (fun w1 hw => cR.keep hw.1.keepM (by simp)) (by rfl) rfl ?_;refine d0a ?_;refine N1a ⟨o0, u0⟩ rfl rfl rfl ?_;refine h0a q4a rfl (fun w1 hw => by exact hw.1.oldM nP cP) rfl ?_;refine d0a ?_;refine N1a ⟨o0, u0⟩ rfl rfl rfl ?_;refine X2a rfl rfl ?_;refine d0a ?_;refine N1a ⟨o0, u0⟩ rfl rfl rfl ?_;refine F0a C1b rfl rfl ?_;refine d0a ?_;refine N1a ⟨o0, u0⟩ rfl rfl rfl ?_;refine h0a C0a rfl (fun w1 hw => by exact hw.1.oldM nS cM) rfl ?_;refine d0a ?_;refine N1a ⟨o0, u0⟩ rfl rfl rfl ?_;refine H1a o1a rfl (fun w1 hw => hw.1.cells 0 rfl) rfl rfl ?_;refine d0a ?_;refine T9a ⟨o0, u0⟩ rfl rfl rfl rfl ?_;have A0 := j7a hO.vis (c0a m1);refine B0a o0 L7c rfl rfl (E8a p y.conf m (G6a hm A0) (L8a gS p0 G Bs ++ M0) _ _ _ (hO.prog.keep (o0.keep0 _)) (B0.keep (o0.keep0 _)) (Y3a hp A0)) ?_;rintro B2 H2 hE y0 R1;have t0 := u0.trans R1;obtain ⟨Ae, ne, ce, rfl⟩ := hE.form;obtain ⟨_, -, _⟩ := hE.len;refine S0a ⟨rfl, ?_⟩;refine T9a ⟨y0, t0⟩ rfl rfl rfl rfl ?_;refine U7c r3a.slT rfl rfl ?_;refine S0a ⟨rfl, ?_⟩;refine N1a ⟨y0, t0⟩ rfl rfl rfl ?_;refine f1a (v := .int .i64 _) rfl rfl ?_;refine d0a ?_;refine K5a ⟨y0, t0⟩ ?_;refine fC0 rfl ⟨⟩ ?_;refine wL (fun μ D ε w => D = [] ∧ ∃ j : Nat, ∃ V2 : List u2a, ∃ v0 : List Nat, ∃ G2 : Option Nat, ∃ cs2 : List Value, ∃ v2 : Value, (j + μ = (H0a p m y.conf).length) ∧ (V2 = u0b p m i y.conf V ((H0a p m y.conf).take j)) ∧ (m2b p m g3 p0 gP g2 gS l c0 c1 c2 c3 Bs0 M0 B w0 J V2 v0 G2 cs2 v2 w) ∧ (o0a w (g6, 38, [.slice Xm xm ym, .slice Xa xa ya, .slice Xb xb yb])) ∧ (g6 ∉ L8a gS p0 G2 v0) ∧ (t0a (L8a gS p0 G2 v0 ++ M0) w y.conf [.slice Xm xm ym, .slice Xa xa ya, .slice Xb xb yb]) ∧ (w1c (L8a gS p0 G2 v0 ++ M0) w (.slice Ae ne ce) (H0a p m y.conf)) ∧ ε 1 = .pointer (some ⟨gP, 0, none⟩) ∧ ε 4 = .func (.func 79) #[] #[.pointer (some ⟨g3, 0, none⟩), .pointer (some ⟨gP, 0, none⟩), .pointer (some ⟨g2, 0, none⟩)] ∧ ε 5 = .int .i64 i ∧ ε 6 = .pointer (some ⟨g6, 0, none⟩) ∧ ε 48 = .slice Ae ne ce ∧ ε 49 = .int .i64 ne ∧ ε 50 = .int .i64 j) (μ := (H0a p m y.conf).length) ⟨rfl, 0, _, Bs, G, cs, _, by omega, rfl, hO.later hJ y0.below, y0.blk 0 rfl, fun hh => (by have := hO.prog.lt g6 (List.mem_append_left _ hh); omega), B0.keep (y0.keep0 _), hE, rfl, rfl, rfl, rfl, rfl, rfl, rfl⟩ ?_;rintro μ D ε w ⟨rfl, j, V2, v0, G2, cs2, v2, _, B1, x0, Z0, n6, X0, y1, e1, e4, e5, e6, s1, t1, u1⟩;refine p0a 1 e1 (p0a 4 e4 (p0a 5 e5 (p0a 6 e6 (p0a 48 s1 (p0a 49 t1 (p0a 50 u1 ?_))))));clear e1 e4 e5 e6 s1 t1 u1;obtain ⟨wb, m2⟩ : ∃ wb, wb = w := ⟨_, rfl⟩;subst m2;replace y0 : St [g6] wb wb [(some g6, 38, [.slice Xm xm ym, .slice Xa xa ya, .slice Xb xb yb])] := St.borrow1 Z0;have L0 : gP ∉ [g6] := fun hh => u5a x0.srch.ptr Z0 (by decide) (List.mem_singleton.1 hh);have N0 : gS ∉ [g6] := fun hh => u5a x0.srch.blk Z0 (by decide) (List.mem_singleton.1 hh);have K0 := x0.srch.ptr.cell (o := 0) rfl;have q1 := x0.srch.blk.cell (o := 4) rfl;have r1 := h8a x0.srch.blk;have KW := w0a.refl [] wb;have g1 : ∀ g ∈ L8a gS p0 G2 v0 ++ M0, g < wb.heap.size := x0.prog.lt;refine wB0 rfl ⟨⟩ (fun Z1 => ?_) fun Z1 => ?_
   ·obtain ⟨x, V1, o2, _, D0, S0, _, f1, b1, j1⟩ := RdS.get ((RdS.keepW y1 (KW.mono (by simp)) (fun _ _ h => h))) (j) (by omega);obtain ⟨rfl, H1, I1, J1⟩ := j1;refine lO (y0.k.b b1) [.x V1 o2,.v 0] rfl ⟨⟨rfl,f1⟩,⟨S0,by omega⟩,⟨⟩⟩ (n0a y0 s6c rfl rfl ?_);intro g8 w8 S8 X8 G8;have O0 := Nat.le_trans KW.size G8;replace KW := KW.trans X8;refine e0a (kk := 0) (vs := [_, _, _]) S8 E4b rfl rfl rfl rfl rfl rfl rfl ?_;intro f0 j0 H0;dsimp only [k0a, List.set] at j0;replace KW := KW.fresh H0 (by first | exact O0);refine lCn 2 j0.k [] rfl ⟨⟩ (wX (fun D ε w => D = [] ∧ ∃ g9 : Nat, ∃ g8 : Nat, ∃ zs : List Value, ∃ x : A0a, (w0a [] wb w) ∧ ((H0a p m y.conf)[j]? = some x) ∧ (t0a (L8a gS p0 G2 v0 ++ M0) w (doC p m y.conf x) zs) ∧ (i64 x.thread ∧ i64 x.step ∧ i64 x.cell) ∧ St [g6] wb w [(some g9, 38, zs), (some g8, 44, [.int .i64 x.thread, .int .i64 x.step, .int .i64 x.cell]), (some g6, 38, [.slice Xm xm ym, .slice Xa xa ya, .slice Xb xb yb])] ∧ Sl ε [(1, .pointer (some ⟨gP, 0, none⟩)), (4, .func (.func 79) #[] #[.pointer (some ⟨g3, 0, none⟩), .pointer (some ⟨gP, 0, none⟩), .pointer (some ⟨g2, 0, none⟩)]), (5, .int .i64 i), (6, .pointer (some ⟨g6, 0, none⟩)), (8, .pointer (some ⟨g8, 0, none⟩)), (9, .pointer (some ⟨g9, 0, none⟩)), (10, .int .i64 0), (48, .slice Ae ne ce), (49, .int .i64 ne), (50, .int .i64 j)]) ?_ ?_)
    ·have D1 := c0a D0;refine q7c b0a (fun i => [0, 1, 2, 3, 4, 5, 6, 7, 8, 9, 11, 12, 13, 16].contains i) 14 10 [14, 0, 1, 2, 3, 4, 5, 6, 7, 8, 9, 10, 11, 12, 13, 15, 16] [0, 1, 2, 3, 4, 5, 6, 7, 8, 9, 10, 14, 11, 12, 13, 15, 16] (by kernel_rfl) (Y9c j0) ?_ ?_
     ·have d0 := j0.drew;have n0 : w0a [] f0 f0.drew := x2a _ _;generalize f0.drew = o1 at d0 n0 ⊢;replace KW := KW.trans n0;have a0 := n0;refine W5b ⟨d0, a0⟩ rfl rfl rfl ?_;refine n0a d0 U5a rfl rfl ?_;intro g9 w9 S9 X9 G9;have r0 := Nat.le_trans KW.size G9;have g0 := Nat.le_trans a0.size G9;replace KW := KW.trans X9;replace a0 := a0.trans X9;refine S0a ⟨rfl, ?_⟩;refine G3a ⟨S9.tail, a0⟩ rfl rfl rfl ?_;refine h0a q4a rfl (fun w1 hw => by exact hw.1.oldM L0 K0) rfl ?_;refine d0a ?_;refine G3a ⟨S9.tail, a0⟩ rfl rfl rfl ?_;refine X2a rfl rfl ?_;refine d0a ?_;refine G3a ⟨S9.tail, a0⟩ rfl rfl rfl ?_;refine F0a q1b rfl rfl ?_;refine d0a ?_;refine G3a ⟨S9.tail, a0⟩ rfl rfl rfl ?_;refine H1a y4a rfl (fun w1 hw => r1.keep hw.1.keepM N0) (by rfl) rfl ?_;refine d0a ?_;refine G3a ⟨S9.tail, a0⟩ rfl rfl rfl ?_;refine h0a q4a rfl (fun w1 hw => by exact hw.1.oldM L0 K0) rfl ?_;refine d0a ?_;refine G3a ⟨S9.tail, a0⟩ rfl rfl rfl ?_;refine X2a rfl rfl ?_;refine d0a ?_;refine G3a ⟨S9.tail, a0⟩ rfl rfl rfl ?_;refine F0a C1b rfl rfl ?_;refine d0a ?_;refine G3a ⟨S9.tail, a0⟩ rfl rfl rfl ?_;refine h0a C0a rfl (fun w1 hw => by exact hw.1.oldM N0 q1) rfl ?_;refine d0a ?_;refine G3a ⟨S9.tail, a0⟩ rfl rfl rfl ?_;refine H1a o1a rfl (fun w1 hw => hw.1.cells 1 rfl) rfl rfl ?_;refine d0a ?_;refine G3a ⟨S9.tail, a0⟩ rfl rfl rfl ?_;refine H1a D5a rfl (fun w1 hw => hw.1.cells 0 rfl) rfl rfl ?_;refine d0a ?_;refine W5b ⟨S9.tail, a0⟩ rfl rfl rfl ?_;refine B0a S9 I3c rfl rfl (a9a p y.conf m x (G6a hm A0) D1 (g9 :: (L8a gS p0 G2 v0 ++ M0)) _ _ _ (InP.grow (Bs0 := []) x0.prog KW (fun g hg => by rcases List.mem_cons.1 hg with rfl | hg; exact .inr r0; exact .inl hg) (fun g hg => by rcases List.mem_cons.1 hg with rfl | hg; exact S9.lt 0 rfl; have := g1 g hg; have := KW.size; omega)) ((X0.more (fun g hg => by rcases List.mem_cons.1 hg with rfl | hg; exact .inr r0; exact .inl hg)).keep KW.of_nil) (Y3a hp A0)) ?_;rintro p2 K1 ⟨zs, rfl, hz⟩ z0 I0;replace KW := KW.trans I0;replace a0 := a0.trans I0;obtain ⟨Ua, ua, va, Ub, ub, vb, Uc, uc, vc, rfl, -⟩ := hz.open_;refine S0a ⟨rfl, ?_⟩;refine G3a ⟨z0.tail, a0⟩ rfl rfl rfl ?_;refine f1a (v := .tuple _) rfl rfl ?_;refine d0a ?_;refine G3a ⟨z0.tail, a0⟩ rfl rfl rfl ?_;refine j2a rfl rfl rfl ?_;refine d0a ?_;refine G3a ⟨z0.tail, a0⟩ rfl rfl rfl ?_;refine j2a rfl rfl rfl ?_;refine d0a ?_;refine W5b ⟨z0.tail, a0⟩ rfl rfl rfl ?_;refine e0a (kk := 0) (vs := [_, _, _]) z0 S2a rfl rfl rfl rfl rfl rfl rfl ?_;intro F0 b0 e0;dsimp only [k0a, List.set] at b0;replace KW := KW.fresh e0 (by exact r0);replace a0 := a0.fresh e0 (by exact g0);replace hz := hz.keep (e0.mono (by simp));refine S0a ⟨rfl, ?_⟩;refine G3a ⟨b0.tail, a0⟩ rfl rfl rfl ?_;refine e3a (v := .int .i64 _) rfl rfl ?_;refine d0a ?_;refine m6b ⟨b0.tail, a0⟩ ?_;refine fP0 rfl ⟨⟩ ⟨rfl, (g9), (g8), (_), (x), (KW), (D0), ((by exact hz.less (fun _ hg => List.mem_cons_of_mem _ hg))), (⟨H1, I1, J1⟩), b0, rfl⟩
     have d0 := j0.drew;have n0 : w0a [] f0 f0.drew := x2a _ _;generalize f0.drew = o1 at d0 n0 ⊢;replace KW := KW.trans n0;have a0 := n0;refine G3a ⟨d0, a0⟩ rfl rfl rfl ?_;refine h0a q4a rfl (fun w1 hw => by exact hw.1.oldM L0 K0) rfl ?_;refine d0a ?_;refine G3a ⟨d0, a0⟩ rfl rfl rfl ?_;refine X2a rfl rfl ?_;refine d0a ?_;refine G3a ⟨d0, a0⟩ rfl rfl rfl ?_;refine F0a q1b rfl rfl ?_;refine d0a ?_;refine G3a ⟨d0, a0⟩ rfl rfl rfl ?_;refine H1a y4a rfl (fun w1 hw => r1.keep hw.1.keepM N0) (by rfl) rfl ?_;refine d0a ?_;refine G3a ⟨d0, a0⟩ rfl rfl rfl ?_;refine h0a q4a rfl (fun w1 hw => by exact hw.1.oldM L0 K0) rfl ?_;refine d0a ?_;refine G3a ⟨d0, a0⟩ rfl rfl rfl ?_;refine X2a rfl rfl ?_;refine d0a ?_;refine G3a ⟨d0, a0⟩ rfl rfl rfl ?_;refine F0a C1b rfl rfl ?_;refine d0a ?_;refine G3a ⟨d0, a0⟩ rfl rfl rfl ?_;refine h0a C0a rfl (fun w1 hw => by exact hw.1.oldM N0 q1) rfl ?_;refine d0a ?_;refine G3a ⟨d0, a0⟩ rfl rfl rfl ?_;refine H1a o1a rfl (fun w1 hw => hw.1.cells 1 rfl) rfl rfl ?_;refine d0a ?_;refine G3a ⟨d0, a0⟩ rfl rfl rfl ?_;refine H1a D5a rfl (fun w1 hw => hw.1.cells 0 rfl) rfl rfl ?_;refine d0a ?_;refine W5b ⟨d0, a0⟩ rfl rfl rfl ?_;refine B0a d0 I3c rfl rfl (a9a p y.conf m x (G6a hm A0) D1 (L8a gS p0 G2 v0 ++ M0) _ _ _ (x0.prog.keep (KW.mono (by simp))) (X0.keep (KW.mono (by simp))) (Y3a hp A0)) ?_;rintro p2 K1 ⟨zs, rfl, hz⟩ z0 I0;replace KW := KW.trans I0;replace a0 := a0.trans I0;obtain ⟨Ua, ua, va, Ub, ub, vb, Uc, uc, vc, rfl, -⟩ := hz.open_;have KZ := w0a.refl [] K1;refine S0a ⟨rfl, ?_⟩;refine W5b ⟨z0, a0⟩ rfl rfl rfl ?_;refine n0a z0 U5a rfl rfl ?_;intro g9 w9 S9 X9 G9;have r0 := Nat.le_trans KW.size G9;have g0 := Nat.le_trans a0.size G9;have P0 := Nat.le_trans KZ.size G9;replace KW := KW.trans X9;replace a0 := a0.trans X9;replace KZ := KZ.trans X9;refine S0a ⟨rfl, ?_⟩;refine G3a ⟨S9.tail, a0⟩ rfl rfl rfl ?_;refine f1a (v := .tuple _) rfl rfl ?_;refine d0a ?_;refine G3a ⟨S9.tail, a0⟩ rfl rfl rfl ?_;refine j2a rfl rfl rfl ?_;refine d0a ?_;refine G3a ⟨S9.tail, a0⟩ rfl rfl rfl ?_;refine j2a rfl rfl rfl ?_;refine d0a ?_;refine W5b ⟨S9.tail, a0⟩ rfl rfl rfl ?_;refine e0a (kk := 0) (vs := [_, _, _]) S9 S2a rfl rfl rfl rfl rfl rfl rfl ?_;intro F0 b0 e0;dsimp only [k0a, List.set] at b0;replace KW := KW.fresh e0 (by exact r0);replace a0 := a0.fresh e0 (by exact g0);replace KZ := KZ.fresh e0 (by exact P0);refine S0a ⟨rfl, ?_⟩;refine G3a ⟨b0.tail, a0⟩ rfl rfl rfl ?_;refine e3a (v := .int .i64 _) rfl rfl ?_;refine d0a ?_;refine m6b ⟨b0.tail, a0⟩ ?_;refine fP0 rfl ⟨⟩ ⟨rfl, (g9), (g8), (_), (x), (KW), (D0), ((by exact hz.keep KZ.of_nil)), (⟨H1, I1, J1⟩), b0, rfl⟩
    rintro D ε w ⟨rfl, g9, g8, zs, x, KW, D0, hz, ih, S, eZ⟩;refine wK eZ ?_;obtain ⟨Ua, ua, va, Ub, ub, vb, Uc, uc, vc, rfl, -⟩ := hz.open_;refine wB0 rfl ⟨⟩ (fun x1 => ?_) (fun x1 => by exact absurd rfl x1);refine lO S.k [.w 0,.w 1] rfl ⟨⟨rfl,rfl⟩,⟨rfl,by rfl⟩,⟨⟩⟩ (j1a L7b (vs := [(0, .agg _), (1, .int .i64 _), (2, .agg _)]) (cs := [_, _, _, _, _, _, _]) rfl rfl rfl rfl ?_);refine lO0 rfl ⟨⟩ ?_;have d1 := c0a D0;have y2 := (List.getElem?_eq_some_iff.1 D0).1;have O3 := x0.later hJ (S.below.nilK KW);have b2 := hV ▸ m1;have F1 : H2a V2 ⟨doC p m y.conf x, i, x⟩ = u0b p m i y.conf V ((H0a p m y.conf).take (j + 1)) := by rw [J0a D0, q8b, B1]
    have j2 : y3a p m (H2a V2 ⟨doC p m y.conf x, i, x⟩) := ⟨i + 1, by rw [F1, hV]; exact s0c b2 (j + 1)⟩;have Zb := KW.size;refine s4a n3c rfl rfl rfl (O3.found hJ T0 (x := ⟨doC p m y.conf x, i, x⟩) (xs := [.slice Ua ua va, .slice Ub ub vb, .slice Uc uc vc, .int .i64 i, .int .i64 x.thread, .int .i64 x.step, .int .i64 x.cell]) ⟨_, rfl, hz, by unfold i64; simp only; omega, S1a.of ih.1 ih.2.1 ih.2.2⟩ (O5b hp (Y3a hp A0) d1) j2) ?_;rintro C2 I2 (⟨rfl, N1, G4, X1, v4, O4, K4, F4⟩ | ⟨rfl, W0⟩)
    ·refine lP0 rfl ⟨by omega,⟨⟩⟩ ?_;have U0 := w1c.wide (RdS.keep y1 (KW.mono (by simp))) K4 F4;have Y0 := (X0.keep (KW.mono (by simp))).wide K4 F4;exact ⟨μ - 1, by omega, rfl, j + 1, _, N1, G4, X1, v4, by omega, F1, O4, q1a K4 n6 (S.blk 2 rfl), fun hh => (by
      rcases F4 g6 hh with h | h
      ·exact n6 h
      ·have := S.lt 2 rfl; omega), Y0, U0, rfl, rfl, rfl, rfl, rfl, rfl, rfl⟩
    refine lR0 rfl ⟨⟩ (J1a rfl ?_);exact .inr W0
   refine lP0 rfl ⟨by omega,⟨⟩⟩ ⟨μo - 1, by omega, rfl, i + 1, V2, v0, G2, cs2, v2, by omega, ?_, x0, rfl, rfl, rfl⟩;rw [B1, List.take_of_length_le (by omega), hV, F2b (hV ▸ m1)]
  refine lF0 rfl ⟨⟩ (J1a rfl ?_);exact .inl ⟨i, Bs, by rw [← hV]; omega, by rw [← hV]; exact i2, _, hO.ts, by rw [← hV]; exact hO.j⟩
 refine lR0 rfl ⟨⟩ (J1a rfl ?_);exact .inr V0
section
variable {P : Program} {r : Option Nat} {N : Nat} {D : List Deferred} {e : Env} {w : World}
theorem R4c {l p N : Nat} {rc : Loop} {x : Value} {a0 body : Code} {R : Value → World → Prop} (hl : w.heap[l]? = some (.loop rc)) (hr : rc.state = .ready) (hN : rc.tmps.size = N) (f0 : P0a { tmps := rc.tmps, defers := [] } = e) (b0 : rc.params = #[p]) (has : rc.assign = a0) (e0 : rc.body = body) (hp : Nat.ble (p + 1) N = true)
 (h : W P (some l) N a0 ⟨fun D e w1 => w1.heap[l]? = some (.loop rc) ∧
   W P (some l) N body ⟨fun _ _ w3 => V4a l none R w3, fun id _ _ w3 => V4a l (some (.exit id)) R w3, fun _ _ w3 => V4a l (some .ret) R w3⟩ D e (w1.putObj l (.loop { rc with state := .busy })),
   fun _ _ _ _ => False, fun _ _ _ => False⟩ [] (upd e p x) w) : Yld P l #[x] w R := by
 subst f0 has e0;have h0 := Nat.le_of_ble_eq_true hp;refine ⟨rc, hl, by simp [b0], ?_⟩;have hz : (rc.params.zip #[x]).foldl (fun tmps (t, a) => tmps.setIfInBounds t a) rc.tmps = rc.tmps.setIfInBounds p x := by rw [b0]; simp
 rw [hz];refine roundIn_of_wpIn (F := Fence.wide) trivial ?_;unfold W at h;have he : P0a { tmps := rc.tmps.setIfInBounds p x, defers := [] } = upd (P0a { tmps := rc.tmps, defers := [] }) p x := by
  have h1 := W0a (a := { tmps := rc.tmps, defers := [] }) (d := p) x (by simp; omega);simp only [Act.put] at h1;rw [← h1]
 refine wpIn_mono (h { tmps := rc.tmps.setIfInBounds p x, defers := [] } (by simp [hN]) rfl he) fun ex a w1 hq => ?_;cases ex with
 | normal =>
   obtain ⟨hs, g0, hb⟩ := hq;refine ⟨_, run_beginRound g0 hr, wpIn_mono (hb a hs rfl rfl) fun ex a w3 hq => ?_⟩;cases ex with
   | normal => obtain ⟨_, d0, h3, hR⟩ := hq; exact ⟨_, _, run_endRound none h3, _, rfl, hR⟩
   | ret => obtain ⟨_, d0, h3, hR⟩ := hq; exact ⟨_, _, run_endRound (some .ret) h3, _, rfl, hR⟩
   | exit id => obtain ⟨_, d0, h3, hR⟩ := hq; exact ⟨_, _, run_endRound (some (.exit id)) h3, _, rfl, hR⟩
   | goto l => exact hq.elim
   | panic c => exact hq.elim
   | outgrown => exact hq.elim
 | exit id => exact hq.2
 | ret => exact hq.2
 | goto l => exact hq.elim
 | panic c => exact hq.elim
 | outgrown => exact hq.elim
end
theorem v0a.stepM {M Ms : List Nat} {w0 w w' : World} (h : v0a M w0 w) (k : v0a Ms w w') (hM : ∀ g ∈ Ms, w0.heap.size ≤ g) : v0a M w0 w' :=
 ⟨k.os.trans h.os, k.tape.trans h.tape, k.output.trans h.output, Nat.le_trans h.size k.size, fun i hi hm => (k.block i (Nat.lt_of_lt_of_le hi h.size) (fun hh => by have := hM i hh; omega)).trans (h.block i hi hm)⟩
theorem a7b {A N M : List Nat} {w w' : World} {v : Value} {V : List u2a} (h : RdS (A ++ M) w 7 (y5a (A ++ M) w) v V) (hk : w0a A w w') (hN : ∀ g ∈ N, g ∈ A ++ M ∨ w.heap.size ≤ g) : RdS N w' 7 (y5a N w') v V := by
 have hm : ∀ g ∈ A ++ N, g ∈ A ++ M ∨ w.heap.size ≤ g := fun g hg => by
  rcases List.mem_append.1 hg with h | h
  ·exact .inl (List.mem_append_left _ h)
  ·exact hN g h
 have a0 : w0a (A ++ N) w w' := hk.mono (fun g hg => List.mem_append_left _ hg);have h1 : RdS (A ++ N) w 7 (y5a (A ++ N) w) v V := RdS.moreW h (by omega) hm (fun _ _ => y5a.more hm);have h2 : RdS (A ++ N) w' 7 (y5a (A ++ N) w') v V := RdS.keepW h1 a0 (fun _ _ => y5a.keep a0);exact RdS.lessW h2 (fun g hg => List.mem_append_right _ hg) (fun _ _ => y5a.more (fun g hg => .inl (List.mem_append_right _ hg)))
theorem NC.keepW {w w' : World} {rs : List (Nat × Obj)} (h : NC w rs) {Gs : List Nat} (k : w0a Gs w w') (hg : ∀ x ∈ rs, x.1 ∉ Gs) : NC w' rs := fun x hx =>
 ⟨(k.same x.1 (h.lt x hx) (hg x hx)).trans (h x hx).1, (h x hx).2⟩
theorem St.keepsW {M : List Nat} {w0 w w' : World} {L : List Ent} (S : St M w0 w L) {Ws : List Nat} (hB : v0a Ws w w') (h1 : ∀ g ∈ Ws, g < w0.heap.size → g ∈ M) (h2 : ∀ b ∈ L, ∀ g, b.1 = some g → g ∉ Ws) : St M w0 w' L :=
 S.keeps ⟨hB.os.trans S.below.os, hB.tape.trans S.below.tape, hB.output.trans S.below.output, Nat.le_trans S.below.size hB.size, fun k hk hm => (hB.block k (Nat.lt_of_lt_of_le hk S.below.size) (fun hh => hm (h1 k hh hk))).trans (S.below.block k hk hm)⟩
  (fun b hb g hg => hB.block g (S.own b hb g hg).2.lt (h2 b hb g hg))
section
variable {P : Program} {fn : Func} {R : Value → World → Prop} {D : List Deferred} {e : Env} {w : World}
theorem A9a {a1 t1 a2 t2 g1 g2 : Nat} {v1 v2 : Value} (h : fn.results = #[.cell a1 t1, .cell a2 t2]) (o1 : One P t1) (o2 : One P t2) (e1 : e a1 = .pointer (some ⟨g1, 0, none⟩)) (e2 : e a2 = .pointer (some ⟨g2, 0, none⟩))
 (rs : List Nat) (hD : D = rs.map Z6a) (hn : rs.Nodup) (hO : NC w (O6a rs)) (a0 : w.cell? ⟨g1, 0, none⟩ = some v1) (b0 : w.cell? ⟨g2, 0, none⟩ = some v2) (d0 : g1 ∉ rs) (e0 : g2 ∉ rs) (hR : ∀ w', v0a rs w w' → R (.tuple #[v1, v2]) w') : e6a P fn R D e w :=
 ⟨rs, hD, hn, hO, fun w' hb _ tmps he => by
  have hk : w0a rs w w' := ⟨hb.size, hb.block⟩;have c1 := hk.cell (a := ⟨g1, 0, none⟩) d0 a0;have c2 := hk.cell (a := ⟨g2, 0, none⟩) e0 b0;subst he;simp only [P0a, Array.getD_eq_getD_getElem?] at e1 e2;have h1 : (loadVar t1 ⟨g1, 0, none⟩).run P w' = .ok v1 w' := by rw [o1 w']; simp [load, Sem.run, c1]
  have h2 : (loadVar t2 ⟨g2, 0, none⟩).run P w' = .ok v2 w' := by rw [o2 w']; simp [load, Sem.run, c2]
  exact ⟨_, by simp [results, h, asAddr, e1, e2, h1, h2], hR w' hb⟩⟩
end
theorem U6c (gS : Nat) (w0 : World) :
 M0a Tryz.prog 54 #[.pointer (some ⟨gS, 0, none⟩)] w0 fun v w' => (∃ gP, v = .func (.func 78) #[] #[.pointer (some ⟨gP, 0, none⟩)] ∧ w0.heap.size ≤ gP ∧ o0a w' (gP, 70, [.pointer (some ⟨gS, 0, none⟩)])) ∧ Below w0.heap.size w0 w' := by
 have S := St.refl w0;refine a0a Tryz.func54 rfl Tryz.ntmps54 rfl ?_;refine wO0 rfl ⟨⟩ (q6a S (v := .pointer _) rfl rfl rfl ?_);intro g1 w1 S1 X1 G1;refine lO0 rfl ⟨⟩ (F1a rfl rfl ?_);refine lR0 rfl ⟨⟩ (q0a rfl (by conv => lhs; whnf) ?_);exact ⟨⟨g1, rfl, by simpa using S1.new 0 rfl, S1.blk 0 rfl⟩, S1.fin⟩
structure Acc (p : f0a) (m : Int) (gS : Nat) (f : FuncId) (caps : List Value) (Bs0 M0 : List Nat) (wf : World) (acc : r0a → Bool) (J0 : Nat → List Nat → List Nat → World → Prop) : Prop where
 has : Has Tryz.prog f
 start : J0 0 Bs0 [gS] wf
 own : ∀ k Bs Ts Ts' w w', J0 k Bs Ts w → (∀ g ∈ Ts, g ∉ Bs ∧ (g = gS ∨ wf.heap.size ≤ g)) → (∀ g ∈ Ts', g ∈ Ts ∨ w.heap.size ≤ g) → w0a Ts w w' → J0 k Bs Ts' w'
 lt : ∀ k Bs Ts w, J0 k Bs Ts w → ∀ g ∈ Bs, g < w.heap.size
 call : ∀ k Bs Ts w V y ys, J0 k Bs Ts w → (∀ g ∈ Ts, g ∉ Bs ∧ (g = gS ∨ wf.heap.size ≤ g)) → y3a p m V → V.length = k + 1 → V[k]? = some y → t0a (Ts ++ (Bs ++ M0)) w y.conf ys → wf.heap.size ≤ w.heap.size → k < 100000 →
  M0a Tryz.prog f (Value.agg ys.toArray :: caps).toArray w fun r w' => r = .bool (acc y.conf) ∧ ∃ Bs', J0 (k + 1) Bs' Ts w' ∧ v0a Bs w w' ∧ ∀ g ∈ Bs', g ∈ Bs ∨ w.heap.size ≤ g
structure P9c (gS : Nat) (wf : World) (Bs N Ts : List Nat) : Prop where
 sub : ∀ g ∈ N, g ∈ Ts
 ok : ∀ g ∈ Ts, g ∉ Bs ∧ (g = gS ∨ wf.heap.size ≤ g)
def s6a (p : f0a) (m : Int) (limit gS : Nat) (c0 c1 c2 c3 : Value) (N M : List Nat) (wf : World) (acc : r0a → Bool) (J0 : Nat → List Nat → List Nat → World → Prop) (w : World) (i err : Int) : Prop :=
 (err = 0 ∧ ∃ (k : Nat) (V : List u2a) (v : Value) (Bs Ts : List Nat), i = k ∧ y3a p m V ∧ V.length = k + 1 ∧ k < limit ∧ (∀ j y, j < k → V[j]? = some y → acc y.conf = false) ∧ (∃ y, V[k]? = some y ∧ acc y.conf = true) ∧ P9c gS wf Bs N Ts ∧
   o0a w (gS, 73, [c0, c1, c2, c3, .int .i64 m, v]) ∧ RdS (Bs ++ M) w 7 (y5a (Bs ++ M) w) v V ∧ J0 (k + 1) Bs Ts w) ∨
 (err = 2 ∧ ∃ V, y3a p m V ∧ V.length = limit + 1 ∧ ∀ j y, j < limit → V[j]? = some y → acc y.conf = false) ∨
 (err = 4 ∧ ∃ n Bs Ts, (P2a p m n).length ≤ n ∧ (P2a p m n).length ≤ limit ∧ (∀ y ∈ P2a p m n, acc y.conf = false) ∧ P9c gS wf Bs N Ts ∧ J0 (P2a p m n).length Bs Ts w)
theorem s6a.keep {p : f0a} {m : Int} {a0 gS : Nat} {c0 c1 c2 c3 : Value} {N A M Bs0 M0 : List Nat} {acc : r0a → Bool} {J0 : Nat → List Nat → List Nat → World → Prop} {w w' wf : World} {i b0 : Int} {f : FuncId} {caps : List Value} (hA : Acc p m gS f caps Bs0 M0 wf acc J0)
 (h : s6a p m a0 gS c0 c1 c2 c3 N M wf acc J0 w i b0) (hk : w0a A w w') (h1 : ∀ g ∈ A, g ∈ N ∧ g ∈ M) (h2 : gS ∉ A) : s6a p m a0 gS c0 c1 c2 c3 N M wf acc J0 w' i b0 := by
 rcases h with ⟨he, k, V, v, Bs, Ts, q1, q2, q3, q4, q5, q6, q7, q8, q9, e0⟩ | h | ⟨he, n, Bs, Ts, q1, q2, q3, q4, q5⟩
 ·have d0 : w0a (Bs ++ M) w w' := hk.mono (fun g hg => List.mem_append_right _ (h1 g hg).2);exact .inl ⟨he, k, V, v, Bs, Ts, q1, q2, q3, q4, q5, q6, q7, q1a hk h2 q8, RdS.keepW q9 d0 (fun _ _ => y5a.keep d0), hA.own _ _ Ts Ts _ _ e0 q7.ok (fun g hg => .inl hg) (hk.mono fun g hg => q7.sub g (h1 g hg).1)⟩
 ·exact .inr (.inl h)
 ·exact .inr (.inr ⟨he, n, Bs, Ts, q1, q2, q3, q4, hA.own _ _ Ts Ts _ _ q5 q4.ok (fun g hg => .inl hg) (hk.mono fun g hg => q4.sub g (h1 g hg).1)⟩)
theorem s6a.less {p : f0a} {m : Int} {a0 gS : Nat} {c0 c1 c2 c3 : Value} {N N' M M' : List Nat} {acc : r0a → Bool} {J0 : Nat → List Nat → List Nat → World → Prop} {w wf : World} {i b0 : Int}
 (h : s6a p m a0 gS c0 c1 c2 c3 N M wf acc J0 w i b0) (hN : ∀ g ∈ N', g ∈ N) (hM : ∀ g ∈ M', g ∈ M) : s6a p m a0 gS c0 c1 c2 c3 N' M' wf acc J0 w i b0 := by
 rcases h with ⟨he, k, V, v, Bs, Ts, q1, q2, q3, q4, q5, q6, q7, q8, q9, d0⟩ | h | ⟨he, n, Bs, Ts, q1, q2, q3, q4, q5⟩
 ·have hB : ∀ g ∈ Bs ++ M', g ∈ Bs ++ M := fun g hg => by
   rcases List.mem_append.1 hg with h | h
   ·exact List.mem_append_left _ h
   ·exact List.mem_append_right _ (hM g h)
  exact .inl ⟨he, k, V, v, Bs, Ts, q1, q2, q3, q4, q5, q6, ⟨fun g hg => q7.sub g (hN g hg), q7.ok⟩, q8, RdS.lessW q9 hB (fun _ _ => y5a.more (fun g hg => .inl (hB g hg))), d0⟩
 ·exact .inr (.inl h)
 ·exact .inr (.inr ⟨he, n, Bs, Ts, q1, q2, q3, ⟨fun g hg => q4.sub g (hN g hg), q4.ok⟩, q5⟩)
theorem X5b (p : f0a) (m : Int) (hm : m = 0 ∨ m = 1 ∨ m = 2) (a0 gS : Nat) (o1 : a0 ≤ 100000) (c0 c1 c2 c3 : Value) (f : FuncId) (caps : List Value) (Bs0 M0 : List Nat) (w0 : World) (acc : r0a → Bool) (J0 : Nat → List Nat → List Nat → World → Prop) (hI : InP p (gS :: (Bs0 ++ M0)) w0 [c0, c1, c2, c3])
 (P0 : o0a w0 (gS, 73, [c0, c1, c2, c3, .int .i64 m, .slice none 0 0])) (I1 : gS ∉ Bs0) (hA : Acc p m gS f caps Bs0 M0 w0 acc J0) :
 M0a Tryz.prog 25 #[.pointer (some ⟨gS, 0, none⟩), .int .i64 a0, .func (.func f) #[] caps.toArray] w0 fun v w' => (∃ i t0, v = .tuple #[.int .i64 i, .int .i64 t0] ∧ s6a p m a0 gS c0 c1 c2 c3 [] M0 w0 acc J0 w' i t0) ∧ v0a (gS :: Bs0) w0 w' := by
 have S := St.base (gS :: Bs0) w0;have K0 := w0a.refl [] w0;have hp := hI.ok;refine H6a Tryz.func25 rfl Tryz.ntmps25 rfl (wI ?_);refine wO0 rfl ⟨⟩ (q6a S (v := .pointer _) rfl rfl rfl ?_);intro g3 w3 S3 X3 G3;replace K0 := K0.trans X3;refine q6a S3 (v := .int .i64 _) rfl rfl rfl ?_;intro g4 w4 S4 X4 G4;replace K0 := K0.trans X4;refine q6a S4 (v := .func _ _ _) rfl rfl rfl ?_;intro g5 w5 S5 X5 G5;replace K0 := K0.trans X5;refine n0a S5 h9c rfl rfl ?_;intro g6 w6 S6 X6 G6;replace K0 := K0.trans X6;refine n0a S6 u7c rfl rfl ?_;intro g7 w7 S7 X7 G7;replace K0 := K0.trans X7;refine lO S7.k [.o 4] rfl ⟨rfl,⟨⟩⟩ (B0a S7 B8c rfl rfl (U6c gS _) ?_);rintro C2 h0 ⟨gP, rfl, P1, f2⟩ r0 Q1;replace K0 := K0.trans Q1;have J2 : w0.heap.size ≤ gP := Nat.le_trans S7.size P1;have H2 : w0.heap.size ≤ g6 ∧ g6 < h0.heap.size := ⟨by have := S5.size; omega, r0.lt 1 rfl⟩;have I2 : w0.heap.size ≤ g7 ∧ g7 < h0.heap.size := ⟨by have := S6.size; omega, r0.lt 0 rfl⟩;have G2 : w0.heap.size ≤ g5 ∧ g5 < h0.heap.size := ⟨by have := S4.size; omega, r0.lt 2 rfl⟩;have F2 : w0.heap.size ≤ g4 ∧ g4 < h0.heap.size := ⟨by have := S3.size; omega, r0.lt 3 rfl⟩;have E2 : w0.heap.size ≤ g3 ∧ g3 < h0.heap.size := ⟨by omega, r0.lt 4 rfl⟩;refine lC0 rfl ⟨⟩ (wJ ?_);have Y1 : o0a h0 (gS, 73, [c0, c1, c2, c3, .int .i64 m, .slice none 0 0]) := q1a K0 (by simp) P0;have Zw := r0.size;have lS := P0.lt;simp only at lS;refine I6a (vs := fun y => #[y, _]) T6c rfl (fun _ => rfl) (fun rc wi t1 N1 r2 m1 p2 has g2 i2 hl hB z2 => ?_);obtain ⟨l, M1⟩ : ∃ l, l = h0.heap.size + 1 := ⟨_, rfl⟩;obtain ⟨mk, p1⟩ : ∃ mk, mk = h0.heap.size := ⟨_, rfl⟩;have V0 := w6a (NC.nil (w := h0)) i2 hl hB;rw [← M1, ← p1] at V0;rw [← M1] at hl ⊢;have Si := r0.later hB;have Ki : w0a [] h0 wi := w0a.of_below hB;have A1 := K0.trans Ki;have G0 : ∀ g ∈ Bs0, g < w0.heap.size := hA.lt _ _ _ _ hA.start;have E1 := q1a Ki (by simp) Y1;have y0 := q1a Ki (by simp) f2;have d0 : ∀ x ∈ [(mk, Obj.deferred (some []))], x.1 ≠ l := fun x hx => by
  rw [List.mem_singleton] at hx; subst hx; show mk ≠ l; omega
 have a2 : ∀ g ∈ l :: mk :: g6 :: [g7], w0.heap.size ≤ g ∧ g < wi.heap.size := fun g hg => by
  simp only [List.mem_cons, List.not_mem_nil, or_false] at hg;rcases hg with rfl | rfl | rfl | rfl <;> omega
 have n0 : ∀ (Ba Ts : List Nat), (∀ g ∈ Ba, g ∈ Bs0 ∨ wi.heap.size ≤ g) → (∀ g ∈ Ts, g ∉ l :: mk :: Ba ∧ (g = gS ∨ wi.heap.size ≤ g)) → ∀ g ∈ l :: mk :: g6 :: g7 :: Ts, g ∉ Ba ∧ (g = gS ∨ w0.heap.size ≤ g) := fun Ba Ts f0 hT g hg => by
  by_cases hh : g ∈ l :: mk :: g6 :: [g7]
  ·have h1 := a2 g hh;refine ⟨fun h2 => ?_, .inr h1.1⟩;rcases f0 g h2 with h | h
   ·have := G0 g h; omega
   ·omega
  ·have h1 := hT g (by simp only [List.mem_cons, List.not_mem_nil, or_false] at hg hh; grind);exact ⟨fun h2 => h1.1 (by simp [h2]), h1.2.imp id (fun h => by omega)⟩
 have V1 : J0 0 Bs0 (l :: mk :: g6 :: g7 :: [gS]) wi := hA.own 0 Bs0 [gS] _ w0 wi hA.start (fun g hg => by rw [List.mem_singleton] at hg; subst hg; exact ⟨I1, .inl rfl⟩) (fun g hg => by
  simp only [List.mem_cons, List.not_mem_nil, or_false] at hg ⊢;rcases hg with rfl | rfl | rfl | rfl | rfl
  ·right; omega
  ·right; omega
  ·right; omega
  ·right; omega
  ·left; rfl) A1.of_nil
 have U1 : InP p (gS :: ((l :: mk :: Bs0) ++ ([g6, g7] ++ M0))) wi [c0, c1, c2, c3] := InP.grow (Bs0 := []) hI A1 (fun g hg => by
  simp only [List.cons_append, List.nil_append, List.mem_cons, List.mem_append] at hg ⊢;rcases hg with rfl | rfl | rfl | hg | rfl | rfl | hg
  ·simp
  ·right; omega
  ·right; omega
  ·simp [hg]
  ·right; omega
  ·right; omega
  ·simp [hg]) (fun g hg => by
  simp only [List.cons_append, List.nil_append, List.mem_cons, List.mem_append] at hg;rcases hg with rfl | rfl | rfl | hg | rfl | rfl | hg
  ·omega
  ·omega
  ·omega
  ·have := G0 g hg; omega
  ·omega
  ·omega
  ·have := hI.lt g (by simp [hg]); omega)
 have g1 : ∀ b ∈ ([(some g7, 31, [.int .i64 0]), (some g6, 3, [.int .i64 0]), (some g5, 76, [.func (.func f) #[] caps.toArray]), (some g4, 3, [.int .i64 a0]), (some g3, 70, [.pointer (some ⟨gS, 0, none⟩)])] : List Ent), ∀ g, b.1 = some g → ∀ Ws : List Nat, (∀ g ∈ Ws, g = gS ∨ wi.heap.size ≤ g) → g ∉ Ws := fun b hb g hg Ws hW hh => by
  have h1 := (Si.own b hb g hg).2;rcases hW g hh with rfl | h2
  ·simp only [List.mem_cons, List.not_mem_nil, or_false] at hb;rcases hb with rfl | rfl | rfl | rfl | rfl <;> exact u5a h1 E1 (by decide) rfl
  ·have := h1.lt; simp at this; omega
 have o0 : ∀ b ∈ ([(some g7, 31, [.int .i64 0]), (some g6, 3, [.int .i64 0]), (some g5, 76, [.func (.func f) #[] caps.toArray]), (some g4, 3, [.int .i64 a0]), (some g3, 70, [.pointer (some ⟨gS, 0, none⟩)])] : List Ent), ∀ g, b.1 = some g → w0.heap.size ≤ g ∧ g < wi.heap.size := fun b hb g hg => by
  simp only [List.mem_cons, List.not_mem_nil, or_false] at hb;rcases hb with rfl | rfl | rfl | rfl | rfl <;> (simp only [Option.some.injEq] at hg; subst hg; omega)
 refine M0a.mono (V3c p m hm gP gS l c0 c1 c2 c3 (l :: mk :: Bs0) ([g6, g7] ++ M0) a0 o1 wi (fun k Bs Ts w => ∃ Ba, Bs = l :: mk :: Ba ∧ k ≤ a0 ∧ J0 k Ba (l :: mk :: g6 :: g7 :: Ts) w ∧ NC w [(l, .loop rc), (mk, .deferred (some []))] ∧ St (gS :: Bs0) w0 w [(some g7, 31, [.int .i64 0]), (some g6, 3, [.int .i64 0]), (some g5, 76, [.func (.func f) #[] caps.toArray]), (some g4, 3, [.int .i64 a0]), (some g3, 70, [.pointer (some ⟨gS, 0, none⟩)])] ∧ (∀ g ∈ Ba, g ∈ Bs0 ∨ wi.heap.size ≤ g) ∧ ∀ V, y3a p m V → ∀ j y, j < k → V[j]? = some y → acc y.conf = false) (fun w => ∃ i t0, NC w [(l, .loop { rc with state := .done, pending := some .ret }), (mk, .deferred (some []))] ∧ St (gS :: Bs0) w0 w [(some g7, 31, [.int .i64 t0]), (some g6, 3, [.int .i64 i]), (some g5, 76, [.func (.func f) #[] caps.toArray]), (some g4, 3, [.int .i64 a0]), (some g3, 70, [.pointer (some ⟨gS, 0, none⟩)])] ∧ s6a p m a0 gS c0 c1 c2 c3 [l, mk, g6, g7] ([l, mk, g6, g7] ++ M0) w0 acc J0 w i t0) U1 y0 E1 (fun hh => ?_) (fun hh => ?_) ⟨?_, ?_, fun k Bs Ts w V v hJ L0 b2 e0 S0 Q0 n1 q2 A2 => ?_⟩ ⟨Bs0, rfl, Nat.zero_le _, V1, V0, Si, fun g hg => .inl hg, fun V _ j y hj => absurd hj (by omega)⟩) ?_
 ·simp only [List.mem_cons] at hh;have := y0.lt;rcases hh with rfl | rfl | hh
  ·have h1 := (V0 (gP, .loop rc) (by simp)).1;unfold o0a at y0; rw [y0] at h1; cases h1
  ·have h1 := (V0 (gP, .deferred (some [])) (by simp)).1;unfold o0a at y0; rw [y0] at h1; cases h1
  ·have := G0 gP hh; omega
 ·simp only [List.mem_cons] at hh;rcases hh with hh | hh | hh
  ·omega
  ·omega
  ·exact I1 hh
 ·rintro k Bs Ws y2 w w' ⟨Ba, rfl, hk, hj, hO, S3, f0, q0⟩ hW d2 f1;have H1 : ∀ g ∈ Ws, g = gS ∨ wi.heap.size ≤ g := fun g hg => (hW g hg).2;exact ⟨Ba, rfl, hk, hA.own k Ba _ _ w w' hj (n0 Ba Ws f0 hW) (fun g hg => by
   simp only [List.mem_cons] at hg ⊢;rcases hg with rfl | rfl | rfl | rfl | hg
   ·simp
   ·simp
   ·simp
   ·simp
   ·rcases d2 g hg with h | h
    ·simp [h]
    ·exact .inr h) ((w0a.of_belowM f1).mono (fun g hg => by simp [hg])), hO.keepW (w0a.of_belowM f1) (fun x hx hh => by
   simp only [List.mem_cons, List.not_mem_nil, or_false] at hx;rcases hx with rfl | rfl
   ·exact (hW _ hh).1 (by simp)
   ·exact (hW _ hh).1 (by simp)), S3.keepsW f1 (fun g hg o2 => (H1 g hg).elim (fun h => by simp [h]) (fun h => by omega)) (fun b hb g hg => g1 b hb g hg Ws H1), f0, q0⟩
 ·rintro k Bs Ts w ⟨Ba, rfl, hk, hj, hO, S3, f0, q0⟩ g hg;simp only [List.mem_cons] at hg;rcases hg with rfl | rfl | hg
  ·exact hO.lt (g, .loop rc) (by simp)
  ·exact hO.lt (g, .deferred (some [])) (by simp)
  ·exact hA.lt k Ba _ w hj g hg
 ·obtain ⟨Ba, rfl, hk, hj, g0, S3, f0, q0⟩ := hJ;have z3 := S3.size;have x1 : ∀ g, w0.heap.size ≤ g → g < wi.heap.size → g ∉ Ba := fun g h1 h2 hh => by
   rcases f0 g hh with h | h
   ·have := G0 g h; omega
   ·omega
  refine R4c (g0 (l, .loop rc) (by simp)).1 t1 r2 m1 p2 has g2 rfl ?_;refine wI ?_;refine wF0 rfl ⟨⟩ ?_;refine ⟨(g0 (l, .loop rc) (by simp)).1, ?_⟩;have Sb := S3.putObj (.loop { rc with state := .busy }) g0 (List.mem_cons_self) (.inl (by omega));have b0 := g0.put (o' := .loop { rc with state := .busy }) d0 (by simp);have Kw : w0a [l] w (w.putObj l (.loop { rc with state := .busy })) := M1a w l (.loop { rc with state := .busy });generalize w.putObj l (.loop { rc with state := .busy }) = wb at Sb b0 Kw ⊢;have D1 := q1a Kw (by simp; omega) Q0;have W0 : RdS (l :: mk :: (Ba ++ ([g6, g7] ++ M0))) wb 7 (y5a (Ts ++ (l :: mk :: (Ba ++ ([g6, g7] ++ M0)))) wb) v V := RdS.keepW q2 (Kw.mono (by simp)) (fun _ _ => y5a.keep (Kw.mono (by simp)));have I0 := n0 Ba Ts f0 L0;have j2 := hA.own k Ba _ _ w wb hj I0 (fun g hg => .inl hg) (Kw.mono (by simp));obtain ⟨Av, nv, cv, rfl⟩ := W0.form;obtain ⟨_, -, _⟩ := W0.len;have cV := D1.cell (o := 5) rfl;refine wI ?_;refine wO0 rfl ⟨⟩ (s0a C0a rfl (by exact Sb.cell 3 rfl rfl) rfl ?_);refine lB0 rfl ⟨⟩ (fun R1 => ?_) fun R1 => ?_
  ·refine lO0 rfl ⟨⟩ (I0a (kk := 1) Sb c1b rfl (by conv => lhs; whnf) rfl rfl (by exact Nat.le_of_ble_eq_true rfl) ?_);intro s2 z0 a1;replace b0 := by exact b0.keepS a1 (Sb.blk 1 rfl)
   refine I0a (kk := 0) z0 F7a rfl (by conv => lhs; whnf) rfl rfl (by exact Nat.le_of_ble_eq_true rfl) ?_;intro y1 Y0 b1;replace b0 := by exact b0.keepS b1 (z0.blk 0 rfl)
   refine lR0 rfl ⟨⟩ ?_;refine ⟨{ rc with state := .busy }, (b0 (l, _) (by simp)).1, .inr ⟨rfl, ?_⟩⟩;have H0 := b0.put (o' := .loop { rc with state := .done, pending := some .ret }) d0 (by simp);have Sn := Y0.putObj (.loop { rc with state := .done, pending := some .ret }) b0 (List.mem_cons_self) (.inl (by omega));have Kx := M1a y1 l (.loop { rc with state := .done, pending := some .ret });exact ⟨_, _, H0, Sn, .inr (.inl ⟨rfl, V, e0, by omega, fun j y hj hy => q0 V e0 j y (by omega) hy⟩)⟩
  refine lC0 rfl ⟨⟩ (D0a b0a [0, 1, 2, 3, 4, 5, 6, 7, 8] [] [9] (by kernel_rfl) rfl (Cl _ _ _ _) (Cl.start Sb) ?_);refine h0a v3c rfl (fun w1 hw => by exact hw.1.cell 2 rfl rfl) rfl ?_;refine h0a q4a rfl (fun w1 hw => by exact hw.1.cell 4 rfl rfl) rfl ?_;refine qO0 rfl ⟨⟩ (h0a c7a rfl (fun w1 hw => by exact hw.2.cell List.not_mem_nil cV) rfl ?_);obtain ⟨y, C1, O1, _, u1, d1, _, _, j1, q1⟩ := RdS.get (W0) (k) (by omega);obtain ⟨_, rfl, N0, -, -⟩ := q1;obtain ⟨Xm, xm, ym, Xa, xa, ya, Xb, xb, yb, rfl, -⟩ := N0.open_;refine qO Sb.q [.x C1 O1] rfl ⟨⟨d1,by omega⟩,⟨⟩⟩ (H1a o1a rfl (fun w1 hw => (show i1a wb C1 (O1 + k * 7) [.slice Xm xm ym, .slice Xa xa ya, .slice Xb xb yb] from i1a.sub j1 0 3).keep hw.2 List.not_mem_nil) rfl rfl ?_);refine qD rfl ⟨⟩ ?_;rintro w2 ⟨B1, j0⟩;replace b0 := b0.keep j0;have R0 := hA.call k Ba _ w2 V y _ (hA.own k Ba _ _ _ _ j2 I0 (fun g hg => .inl hg) j0.of_nil) I0 e0 S0 u1 ((N0.more (fun g hg => by simp only [List.mem_append, List.mem_cons] at hg ⊢; grind)).keep j0.of_nil) (by have := B1.size; omega) (by omega);refine s4a hA.has rfl rfl rfl R0 ?_;rintro D2 x0 ⟨rfl, i0, J1, u0, T0⟩;have Wz := u0.size;have Wx := j0.size;have Ww := Kw.size;replace b0 := b0.keepW (w0a.of_belowM u0) (fun x hx hh => by
   simp only [List.mem_cons, List.not_mem_nil, or_false] at hx;rcases hx with rfl | rfl
   ·exact x1 l (by omega) (by omega) hh
   ·exact x1 mk (by omega) (by omega) hh)
  have X0 := B1.keepsW u0 (fun g hg o2 => (f0 g hg).elim (fun h => by simp [h]) (fun h => by omega)) (fun b hb g hg hh => x1 g (o0 b hb g hg).1 (o0 b hb g hg).2 hh);have v0 : ∀ g ∈ i0, g ∈ Bs0 ∨ wi.heap.size ≤ g := fun g hg => by
   rcases T0 g hg with h | h
   ·exact f0 g h
   ·right; omega
  have B2 : ∀ g, w0.heap.size ≤ g → g < wi.heap.size → g ∉ i0 := fun g h1 h2 hh => by
   rcases v0 g hh with h | h
   ·have := G0 g h; omega
   ·omega
  have F1 := n0 i0 Ts v0 (fun g hg => ⟨fun hh => by
   simp only [List.mem_cons] at hh;rcases hh with hh | hh | hh
   ·exact (L0 g hg).1 (by simp [hh])
   ·exact (L0 g hg).1 (by simp [hh])
   ·rcases T0 g hh with h | h
    ·exact (L0 g hg).1 (by simp [h])
    ·have := b2 g hg; omega, (L0 g hg).2⟩)
  have Z1 : P9c gS w0 i0 [l, mk, g6, g7] (l :: mk :: g6 :: g7 :: Ts) := ⟨fun g hg => by simp at hg ⊢; grind, F1⟩;have KR := w0a.refl [g6, g7] x0;cases O0 : acc y.conf
  ·refine lF0 rfl ⟨⟩ ?_;refine ⟨{ rc with state := .busy }, (b0 (l, _) (by simp)).1, .inl ⟨rfl, ?_⟩⟩;have H0 := b0.put (o' := .loop rc) d0 (by simp);have Sn := X0.putObj (.loop rc) b0 (List.mem_cons_self) (.inl (by omega));have Kn := M1a x0 l (.loop rc);rw [E1b t1 N1];refine ⟨by omega, l :: mk :: i0, ⟨i0, rfl, by omega, hA.own _ _ _ _ _ _ J1 F1 (fun g hg => .inl hg) (Kn.mono (by simp)), H0, Sn, v0, fun V' G1 j y' hj v1 => ?_⟩, ?_, fun g hg => ?_⟩
   ·by_cases m2 : j < k
    ·exact q0 V' G1 j y' m2 v1
    ·obtain rfl : j = k := by omega
     have hl := (List.getElem?_eq_some_iff.1 v1).1;obtain rfl := Option.some.inj ((C6a (e0.cmp G1 (by omega)) u1).symm.trans v1);exact O0
   ·exact (((Kw.mono (by simp)).trans j0.of_nil).trans ((w0a.of_belowM u0).mono (fun g hg => by simp [hg]))).trans (Kn.mono (by simp))
   ·simp only [List.mem_cons] at hg ⊢;rcases hg with rfl | rfl | hg
    ·exact .inl (.inl rfl)
    ·exact .inl (.inr (.inl rfl))
    ·rcases T0 g hg with h | h
     ·exact .inl (.inr (.inr h))
     ·right; omega
  refine lO0 rfl ⟨⟩ (I0a (kk := 1) X0 c1b rfl (by conv => lhs; whnf) rfl rfl (by exact Nat.le_of_ble_eq_true rfl) ?_);intro t2 A0 C0;replace KR := KR.fresh2 C0 (by exact .inr (by simp));replace b0 := by exact b0.keepS C0 (X0.blk 1 rfl)
  refine I0a (kk := 0) A0 F7a rfl (by conv => lhs; whnf) rfl rfl (by exact Nat.le_of_ble_eq_true rfl) ?_;intro z1 Z0 D0;replace KR := KR.fresh2 D0 (by exact .inr (by simp));replace b0 := by exact b0.keepS D0 (A0.blk 0 rfl)
  refine lR0 rfl ⟨⟩ ?_;refine ⟨{ rc with state := .busy }, (b0 (l, _) (by simp)).1, .inr ⟨rfl, ?_⟩⟩;have H0 := b0.put (o' := .loop { rc with state := .done, pending := some .ret }) d0 (by simp);have Sn := Z0.putObj (.loop { rc with state := .done, pending := some .ret }) b0 (List.mem_cons_self) (.inl (by omega));have Kx := M1a z1 l (.loop { rc with state := .done, pending := some .ret });have i1 : o0a x0 (gS, 73, [c0, c1, c2, c3, .int .i64 m, .slice Av nv cv]) := q1a (w0a.of_belowM u0) (fun hh => n1 (by simp only [List.mem_cons]; exact .inr (.inr hh))) (q1a j0 (by simp) D1);have n2 : w0a (l :: mk :: (Ba ++ ([g6, g7] ++ M0))) wb x0 := (j0.of_nil).trans ((w0a.of_belowM u0).mono (fun g hg => by simp [hg]));have s1 : RdS ((l :: mk :: Ba) ++ ([g6, g7] ++ M0)) wb 7 (y5a ((l :: mk :: Ba) ++ ([g6, g7] ++ M0)) wb) (.slice Av nv cv) V := RdS.mono (show RdS ((l :: mk :: Ba) ++ ([g6, g7] ++ M0)) wb 7 (y5a (Ts ++ (l :: mk :: (Ba ++ ([g6, g7] ++ M0)))) wb) (.slice Av nv cv) V from W0) (fun _ _ hr => y5a.more (fun g hg => .inl (by simp at hg ⊢; grind)) hr);have r1 : RdS (i0 ++ ([l, mk, g6, g7] ++ M0)) x0 7 (y5a (i0 ++ ([l, mk, g6, g7] ++ M0)) x0) (.slice Av nv cv) V := a7b (A := l :: mk :: Ba) s1 ((j0.of_nil).trans ((w0a.of_belowM u0).mono (fun g hg => by simp [hg]))) (fun g hg => ?_)
  ·exact ⟨_, _, H0, Sn, s6a.keep hA (A := [l, g6, g7]) (w := x0) (.inl ⟨rfl, k, V, _, i0, l :: mk :: g6 :: g7 :: Ts, rfl, e0, S0, by omega, fun j y hj hy => q0 V e0 j y hj hy, ⟨y, u1, O0⟩, Z1, i1, r1, J1⟩) ((KR.mono (by simp)).trans (Kx.mono (by simp))) (fun g hg => by simp only [List.mem_cons, List.not_mem_nil, or_false] at hg; rcases hg with rfl | rfl | rfl <;> exact ⟨by simp, by simp⟩) (by simp; omega)⟩
  ·simp only [List.mem_append, List.mem_cons, List.not_mem_nil, or_false] at hg ⊢;rcases hg with hg | (rfl | rfl | rfl | rfl) | hg
   ·rcases T0 g hg with h | h
    ·simp [h]
    ·right; have := j0.size; omega
   ·simp
   ·simp
   ·simp
   ·simp
   ·simp [hg]
 rintro v w3 (⟨N3, x2, W1, X1, Ts, I0, Ba, rfl, hk, hj, g0, S3, f0, q0⟩ | ⟨i, t0, g0, S3, hF⟩)
 rotate_left
 ·refine ⟨{ rc with state := .done, pending := some .ret }, (g0 (l, _) List.mem_cons_self).1, by simp, .inr ⟨rfl, ?_⟩⟩;have Sa := S3.putObj (.loop { rc with state := .exhausted, pending := some .ret }) g0 (List.mem_cons_self) (.inl (by omega));have p0 := (g0.put (o' := .loop { rc with state := .exhausted, pending := some .ret }) d0 (by simp)).tail;have Ka := M1a w3 l (.loop { rc with state := .exhausted, pending := some .ret });have U0 := hF.keep hA (A := [l]) Ka (fun g hg => by rw [List.mem_singleton] at hg; subst hg; exact ⟨by simp, by simp⟩) (by simp; omega);exact A9a rfl C0a g9b rfl rfl [mk] (by rw [p1]; rfl) (by simp) p0 (Sa.cell 1 rfl rfl) (Sa.cell 0 rfl rfl) (by simp; omega) (by simp; omega) (fun w' hb => ⟨⟨i, t0, rfl, (U0.keep hA (A := [mk]) (w0a.of_belowM hb) (fun g hg => by rw [List.mem_singleton] at hg; subst hg; exact ⟨by simp, by simp⟩) (by simp; omega)).less (by simp) (fun g hg => by simp [hg])⟩, v0a.stepM Sa.below hb (fun g hg => by rw [List.mem_singleton] at hg; omega)⟩)
 refine ⟨rc, (g0 (l, .loop rc) (by simp)).1, by rw [t1]; simp, .inl ⟨N1, ?_⟩⟩;have Sa := S3.putObj (.loop { rc with state := .exhausted }) g0 (List.mem_cons_self) (.inl (by omega));have p0 := (g0.put (o' := .loop { rc with state := .exhausted }) d0 (by simp)).tail;have Ka := M1a w3 l (.loop { rc with state := .exhausted });have T1 : s6a p m a0 gS c0 c1 c2 c3 [l, mk, g6, g7] ([l, mk, g6, g7] ++ M0) w0 acc J0 w3 0 4 := .inr (.inr ⟨rfl, N3, Ba, l :: mk :: g6 :: g7 :: Ts, W1, X1, fun y hy => by
  obtain ⟨j, K1, rfl⟩ := List.getElem_of_mem hy;exact q0 _ ⟨N3, List.prefix_refl _⟩ j _ K1 (List.getElem?_eq_getElem K1), ⟨fun g hg => by simp at hg ⊢; grind, n0 Ba Ts f0 I0⟩, hj⟩)
 have U0 := T1.keep hA (A := [l]) Ka (fun g hg => by rw [List.mem_singleton] at hg; subst hg; exact ⟨by simp, by simp⟩) (by simp; omega);generalize w3.putObj l (.loop { rc with state := .exhausted }) = wa at Sa p0 U0 ⊢;have KA := w0a.refl [g6, g7] wa;refine fO0 rfl ⟨⟩ (I0a (kk := 1) Sa c1b rfl (by conv => lhs; whnf) rfl rfl (by exact Nat.le_of_ble_eq_true rfl) ?_);intro u2 B0 E0;replace KA := KA.fresh2 E0 (by exact .inr (by simp));replace p0 := by exact p0.keepS E0 (Sa.blk 1 rfl)
 refine I0a (kk := 0) B0 F7a rfl (by conv => lhs; whnf) rfl rfl (by exact Nat.le_of_ble_eq_true rfl) ?_;intro v2 s0 F0;replace KA := KA.fresh2 F0 (by exact .inr (by simp));replace p0 := by exact p0.keepS F0 (B0.blk 0 rfl)
 refine lR0 rfl ⟨⟩ ?_;exact A9a rfl C0a g9b rfl rfl [mk] (by rw [p1]; rfl) (by simp) p0 (s0.cell 1 rfl rfl) (s0.cell 0 rfl rfl) (by simp; omega) (by simp; omega) (fun w' hb => ⟨⟨0, 4, rfl, ((U0.keep hA (A := [g6, g7]) KA (fun g hg => by simp only [List.mem_cons, List.not_mem_nil, or_false] at hg; rcases hg with rfl | rfl <;> exact ⟨by simp, by simp⟩) (by simp; omega)).keep hA (A := [mk]) (w0a.of_belowM hb) (fun g hg => by rw [List.mem_singleton] at hg; subst hg; exact ⟨by simp, by simp⟩) (by simp; omega)).less (by simp) (fun g hg => by simp [hg])⟩, v0a.stepM s0.below hb (fun g hg => by rw [List.mem_singleton] at hg; omega)⟩)
def p6a (p : f0a) (m : Int) (limit : Nat) (l : List r0a) (err : Int) : Prop :=
 (err = 0 ∧ ∃ n, (P2a p m n).length ≤ n ∧ (P2a p m n).length ≤ limit ∧ l = Z1a (P2a p m n)) ∨ (err = 2 ∧ l = [] ∧ ∃ V, y3a p m V ∧ V.length = limit + 1)
theorem N2b {p : f0a} {m : Int} {V : List u2a} (h : y3a p m V) : (Z1a V).Nodup := by
 obtain ⟨n, hn⟩ := h;have := u9a (Q5a p m) (X0a p) n;rw [← O4a] at this;exact List.Sublist.nodup (hn.sublist.map _) this
theorem e5b (p : f0a) (m : Int) (n : Nat) : y3a p m (P2a p m n) := ⟨n, List.prefix_refl _⟩
theorem m8b {p : f0a} {m : Int} {n k : Nat} (h1 : (P2a p m n).length ≤ n) (h2 : (P2a p m k).length ≤ k) : P2a p m n = P2a p m k :=
 List.IsPrefix.eq_of_length_le ((e5b p m n).done h2) ((e5b p m k).done h1).length_le
theorem b6a {p : f0a} {m : Int} {a0 : Nat} {l : List r0a} (h : p6a p m a0 l 0) (c : r0a) : c ∈ l ↔ I3a (Q5a p m) (X0a p) c := by
 rcases h with ⟨_, n, h1, _, rfl⟩ | ⟨h, _⟩
 ·rw [O4a];exact ⟨M5a _ _ n c, C8b _ _ (by rw [← O4a, List.length_map]; exact h1)⟩
 ·cases h
theorem M3b {p : f0a} {m : Int} {a0 : Nat} {l : List r0a} {b0 : Int} (h : p6a p m a0 l b0) : l.Nodup := by
 rcases h with ⟨_, n, _, _, rfl⟩ | ⟨_, rfl, _⟩
 ·exact N2b (e5b p m n)
 ·exact List.nodup_nil
theorem j0b {p : f0a} {m : Int} {a0 : Nat} {l : List r0a} {b0 : Int} (h : p6a p m a0 l b0) : l.length ≤ a0 := by
 rcases h with ⟨_, n, _, h, rfl⟩ | ⟨_, rfl, _⟩
 ·rw [List.length_map]; exact h
 ·simp
theorem V7a {p : f0a} {m : Int} {a0 : Nat} {l : List r0a} {b0 : Int} (h : p6a p m a0 l b0) : b0 = 0 ∨ (b0 = 2 ∧ l = []) := by
 rcases h with ⟨h, _⟩ | ⟨h, h2, _⟩
 ·exact .inl h
 ·exact .inr ⟨h, h2⟩
theorem m5b {p : f0a} {m m' : Int} {a0 : Nat} {l l' : List r0a} {b0 : Int} (h : p6a p m a0 l 0) (h' : p6a p m' a0 l' b0) (hs : ∀ c, I3a (Q5a p m') (X0a p) c → I3a (Q5a p m) (X0a p) c) : b0 = 0 ∧ ∀ c ∈ l', c ∈ l := by
 rcases V7a h' with rfl | ⟨rfl, rfl⟩
 ·exact ⟨rfl, fun c hc => (b6a h c).2 (hs c ((b6a h' c).1 hc))⟩
 ·rcases h' with ⟨h0, _⟩ | ⟨_, _, V, hV, hl⟩
  ·cases h0
  ·have h1 := List.Nodup.length_le_of_subset (N2b hV) (l₂ := l) (fun c hc => by
    obtain ⟨_, hy, rfl⟩ := List.mem_map.1 hc;exact (b6a h _).2 (hs _ (j7a hV hy)))
   rw [List.length_map] at h1;have := j0b h;omega
theorem v7b {p : f0a} {m : Int} {a0 : Nat} {l : List r0a} {b0 : Int} (hp : a1a p) (h : p6a p m a0 l b0) : ∀ c ∈ l, F3a p c := fun c hc => by
 rcases V7a h with rfl | ⟨rfl, rfl⟩
 ·exact Y3a hp ((b6a h c).1 hc)
 ·cases hc
def D4a (V : List u2a) : Nat → Nat → List A0a
 | 0, _ => []
 | n + 1, i => match V[i]? with
   | some y => if 0 ≤ y.frm then y.ch :: D4a V n y.frm.toNat else []
   | none => []
def Y4c (p : f0a) (m : Int) (aim : Bool) (acc : r0a → Bool) (limit : Nat) (v : List A0a) (h : Int) : Prop :=
 (aim = false ∧ h = 1 ∧ v = []) ∨
 (∃ (k : Nat) (V : List u2a), y3a p m V ∧ V.length = k + 1 ∧ k < limit ∧ (∀ j y, j < k → V[j]? = some y → acc y.conf = false) ∧ (∃ y, V[k]? = some y ∧ acc y.conf = true) ∧
   aim = true ∧ ((120 < (D4a V (k + 1) k).length ∧ h = 2 ∧ v = []) ∨ ((D4a V (k + 1) k).length ≤ 120 ∧ h = 0 ∧ v = (D4a V (k + 1) k).reverse))) ∨
 (aim = true ∧ h = 2 ∧ v = [] ∧ ∃ V, y3a p m V ∧ V.length = limit + 1 ∧ ∀ j y, j < limit → V[j]? = some y → acc y.conf = false) ∨
 (aim = true ∧ h = 4 ∧ v = [] ∧ ∃ n, (P2a p m n).length ≤ n ∧ (P2a p m n).length ≤ limit ∧ ∀ y ∈ P2a p m n, acc y.conf = false)
theorem o7a (p : f0a) (M : List Nat) (w0 : World) (cs : List Value) (hI : InP p M w0 cs) :
 M0a Tryz.prog 48 #[.agg cs.toArray] w0 fun v w' => v = .bool true ∧ Below w0.heap.size w0 w' := by
 obtain ⟨_, _, _, _, _, _, _, _, _, _, _, _, rfl, _, _, _, _, _, _, _, _, _, _, _, _⟩ := hI.rd.open_;have S := St.refl w0;refine a0a Tryz.func48 rfl Tryz.ntmps48 rfl ?_;refine wO0 rfl ⟨⟩ (j0a S (by conv => lhs; whnf) rfl ?_);intro g1 w1 S1 X1 G1;refine lO S1.k [.w 0] rfl ⟨⟨rfl,by rfl⟩,⟨⟩⟩ (g0a S1 O9b rfl rfl (b9a p M _ _ (hI.keep (S1.keep0 M)).rd hI.ok (hI.keep (S1.keep0 M)).msk (hI.keep (S1.keep0 M)).lt) ?_);intro w8 S8 X8;refine lB0 rfl ⟨⟩ (fun a0 => ?_) (fun a0 => by exfalso; omega);exact lT rfl ⟨⟩ rfl ⟨rfl, S8.fin⟩
def M2a (m lim : Int) : Bool := (m == 0 || m == 1 || m == 2) && (decide (1 ≤ lim) && decide (lim ≤ 20000))
theorem Q7a (p : f0a) (m f0 : Int) (M : List Nat) (w0 : World) (cs : List Value) (hI : InP p M w0 cs) :
 M0a Tryz.prog 24 #[.agg cs.toArray, .int .i64 m, .int .i64 f0] w0 fun v w' => v = .bool (M2a m f0) ∧ Below w0.heap.size w0 w' := by
 obtain ⟨_, _, _, _, _, _, _, _, _, _, _, _, rfl, _, _, _, _, _, _, _, _, _, _, _, _⟩ := hI.rd.open_;have S := St.refl w0;refine a0a Tryz.func24 rfl Tryz.ntmps24 rfl ?_;refine wO0 rfl ⟨⟩ (j0a S (by conv => lhs; whnf) rfl ?_);intro g3 w3 S3 X3 G3;refine lB0 rfl ⟨⟩ (fun h8 => ?_) fun h8 => ?_
 ·refine lB0 rfl ⟨⟩ (fun h0 => ?_) fun h0 => ?_
  ·refine lB0 rfl ⟨⟩ (fun i0 => ?_) fun i0 => ?_
   ·refine lR0 rfl ⟨⟩ (q0a rfl (by conv => lhs; whnf) ?_)
    (refine ⟨?_, S3.fin⟩; unfold M2a; simp_all <;> omega)
   refine lB0 rfl ⟨⟩ (fun b0 => ?_) fun b0 => ?_
   ·refine lB0 rfl ⟨⟩ (fun d0 => ?_) fun d0 => ?_
    ·refine lO S3.k [.w 0] rfl ⟨⟨rfl,by rfl⟩,⟨⟩⟩ (g0a S3 t6b rfl rfl (o7a p M _ _ (hI.keep (S3.keep0 M))) ?_);intro g0 a0 e0;refine lR0 rfl ⟨⟩ (q0a rfl (by conv => lhs; whnf) ?_)
     (refine ⟨?_, a0.fin⟩; unfold M2a; simp_all <;> omega)
    refine lR0 rfl ⟨⟩ (q0a rfl (by conv => lhs; whnf) ?_)
    (refine ⟨?_, S3.fin⟩; unfold M2a; simp_all <;> omega)
   refine lR0 rfl ⟨⟩ (q0a rfl (by conv => lhs; whnf) ?_)
   (refine ⟨?_, S3.fin⟩; unfold M2a; simp_all <;> omega)
  refine lB0 rfl ⟨⟩ (fun b0 => ?_) fun b0 => ?_
  ·refine lB0 rfl ⟨⟩ (fun d0 => ?_) fun d0 => ?_
   ·refine lO S3.k [.w 0] rfl ⟨⟨rfl,by rfl⟩,⟨⟩⟩ (g0a S3 t6b rfl rfl (o7a p M _ _ (hI.keep (S3.keep0 M))) ?_);intro g0 a0 e0;refine lR0 rfl ⟨⟩ (q0a rfl (by conv => lhs; whnf) ?_)
    (refine ⟨?_, a0.fin⟩; unfold M2a; simp_all <;> omega)
   refine lR0 rfl ⟨⟩ (q0a rfl (by conv => lhs; whnf) ?_)
   (refine ⟨?_, S3.fin⟩; unfold M2a; simp_all <;> omega)
  refine lR0 rfl ⟨⟩ (q0a rfl (by conv => lhs; whnf) ?_)
  (refine ⟨?_, S3.fin⟩; unfold M2a; simp_all <;> omega)
 refine lB0 rfl ⟨⟩ (fun b0 => ?_) fun b0 => ?_
 ·refine lB0 rfl ⟨⟩ (fun d0 => ?_) fun d0 => ?_
  ·refine lO S3.k [.w 0] rfl ⟨⟨rfl,by rfl⟩,⟨⟩⟩ (g0a S3 t6b rfl rfl (o7a p M _ _ (hI.keep (S3.keep0 M))) ?_);intro g0 a0 e0;refine lR0 rfl ⟨⟩ (q0a rfl (by conv => lhs; whnf) ?_)
   (refine ⟨?_, a0.fin⟩; unfold M2a; simp_all <;> omega)
  refine lR0 rfl ⟨⟩ (q0a rfl (by conv => lhs; whnf) ?_)
  (refine ⟨?_, S3.fin⟩; unfold M2a; simp_all <;> omega)
 refine lR0 rfl ⟨⟩ (q0a rfl (by conv => lhs; whnf) ?_)
 (refine ⟨?_, S3.fin⟩; unfold M2a; simp_all <;> omega)
theorem A8b (gl : Nat) (M2 : List Nat) (w0 : World) (G : Option Nat) (cs : List Value) (v : Value) (l : List r0a) (c : r0a) (ys : List Value) (hb : o0a w0 (gl, 30, [v])) (d0 : P1a g3a 3 (gl :: M2) w0 G cs v l) (h0 : G = none → cs = []) (i0 : ∀ g, G = some g → o0a w0 (g, 38, cs)) (hX : t0a (G.toList ++ (gl :: M2)) w0 c ys) (hl : l.length ≤ 100000) :
 M0a Tryz.prog 26 #[.agg ys.toArray, .pointer (some ⟨gl, 0, none⟩)] w0 fun r w' => r = .bool false ∧ ∃ G' f0 v', o0a w' (gl, 30, [v']) ∧ P1a g3a 3 (gl :: M2) w' G' f0 v' (l ++ [c]) ∧ (G' = none → f0 = []) ∧ (∀ g, G' = some g → o0a w' (g, 38, f0)) ∧ v0a (gl :: G.toList) w0 w' ∧ ∀ g ∈ G'.toList, g ∈ G.toList ∨ w0.heap.size ≤ g := by
 obtain ⟨_, _, _, _, _, _, _, _, _, rfl, -⟩ := hX.open_;have S : St (gl :: G.toList) w0 w0 [(some gl, 30, [v]), (G, 38, cs)] := ((St.base _ w0).pushO h0 i0 (fun g hg => by rw [hg]; simp) (fun g hg b hb => by simp at hb)).push hb (.inr (by simp)) (fun b g0 he => by
  simp only [List.mem_singleton] at g0; subst g0;exact u5a (i0 gl he) hb (by decide) rfl)
 obtain ⟨_, _, rfl⟩ := d0.form;refine a0a Tryz.func26 rfl Tryz.ntmps26 rfl ?_;refine wO0 rfl ⟨⟩ (j0a S (by conv => lhs; whnf) rfl ?_);intro g2 w2 S2 X2 G2;refine lO0 rfl ⟨⟩ (s0a z9b rfl (by exact S2.cell 1 rfl rfl) rfl ?_);refine lO S2.k [.w 0] rfl ⟨⟨rfl,by rfl⟩,⟨⟩⟩ (E0a S2 i0c (vs := [.agg _]) (cs := [_, _, _]) (by rfl) rfl rfl rfl rfl rfl rfl ?_);intro g6 w6 S6 X6 G6;have z7 := S6.size;refine C1a H8a (k := 3) (M2 := gl :: M2) (e1 := c) S6 i0c (by decide) rfl (d0.keep H8a (S6.keepM.mono (fun g hg => by simp at hg ⊢; grind))) rfl rfl (S6.cells 0 rfl) (t0a.keep (S6.keepM.mono (fun g hg => by simp at hg ⊢; grind)) hX) (by omega) rfl ?_;intro v7 G7 n0 w7 S7 a0 X7 F7;obtain ⟨_, _, rfl⟩ := a0.form;have KS := w0a.refl [gl] w7;refine I0a (kk := 2) S7 g9c rfl (by conv => lhs; whnf) rfl rfl (by exact Nat.le_of_ble_eq_true rfl) ?_;intro o0 b0 e0;replace KS := KS.fresh2 e0 (by first  | exact .inr (by simp));refine lR0 rfl ⟨⟩ (q0a rfl (by conv => lhs; whnf) ?_)
 (have j0 := a0.keep H8a (KS.mono (fun g hg => by simp at hg ⊢; grind)); exact ⟨rfl, G7, n0, _, b0.blk 2 rfl, j0, fun h => by subst h; exact absurd (e1b j0) (by simp), fun g hg => b0.blk 3 (by rw [hg]; rfl), b0.below, fun g hg => (F7 g hg).imp id (fun h => by omega)⟩)
def V5b (p : f0a) (m : Int) (gl : Nat) (M0 : List Nat) (wf : World) (k : Nat) (Bs Ts : List Nat) (w : World) : Prop :=
 ∃ G cs v V, Bs = gl :: G.toList ∧ V.length = k ∧ y3a p m V ∧ o0a w (gl, 30, [v]) ∧ P1a g3a 3 (gl :: (Ts ++ M0)) w G cs v (Z1a V) ∧ (G = none → cs = []) ∧ (∀ g, G = some g → o0a w (g, 38, cs)) ∧ ∀ g ∈ G.toList, wf.heap.size ≤ g
theorem B9b (p : f0a) (m : Int) (gS gl : Nat) (M0 : List Nat) (wf : World) (hb : o0a wf (gl, 30, [.slice none 0 0])) : Acc p m gS 26 [.pointer (some ⟨gl, 0, none⟩)] [gl] M0 wf (fun _ => false) (V5b p m gl M0 wf) where
 has := B7c
 start := ⟨none, [], _, [], rfl, rfl, ⟨0, List.nil_prefix⟩, hb, P1a.nil, fun _ => rfl, fun g hg => (by cases hg), fun g hg => by simp at hg⟩
 own := by
  rintro k Bs Ts e0 w w' ⟨G, cs, v, V, rfl, h1, h2, h3, h4, h5, h6, h7⟩ hT d0 hk;refine ⟨G, cs, v, V, rfl, h1, h2, q1a hk (fun hh => (hT gl hh).1 (by simp)) h3, h4.grow H8a hk (fun g hg => by simp [hg]) (fun g hg => ?_), h5, fun g hg => q1a hk (fun hh => (hT g hh).1 (by simp [hg])) (h6 g hg), h7⟩;simp only [List.mem_cons, List.mem_append] at hg ⊢;rcases hg with rfl | hg | hg
  ·simp
  ·rcases d0 g hg with h | h
   ·simp [h]
   ·exact .inr h
  ·simp [hg]
 lt := by
  rintro k Bs Ts w ⟨G, cs, v, V, rfl, h1, h2, h3, h4, h5, h6, h7⟩ g hg;simp only [List.mem_cons, Option.mem_toList] at hg;rcases hg with rfl | hg
  ·exact h3.lt
  ·exact (h6 g hg).lt
 call := by
  rintro k Bs Ts w V y ys ⟨G, cs, v, V', rfl, h1, h2, h3, h4, h5, h6, h7⟩ hT hv hl hy hX hw hk;have hV : V = V' ++ [y] := by
   obtain ⟨t, ht⟩ := h2.cmp hv (by omega);have a0 : t.length = 1 := by have := congrArg List.length ht; simp at this; omega
   obtain ⟨_, rfl⟩ := List.length_eq_one_iff.1 a0;subst ht;rw [List.getElem?_append_right (by omega), h1, Nat.sub_self] at hy;simp at hy; rw [hy]
  have e1 : Z1a V = Z1a V' ++ [y.conf] := by rw [hV]; simp [Z1a]
  refine (A8b gl (Ts ++ M0) w G cs v (Z1a V') y.conf ys h3 h4 h5 h6 (hX.less (fun g hg => by simp only [List.mem_cons, List.mem_append] at hg ⊢; grind)) (by simp [Z1a]; omega)).mono fun r w' hr => ?_;obtain ⟨rfl, G', b0, v', q1, q2, q3, q4, q5, q6⟩ := hr;refine ⟨rfl, gl :: G'.toList, ⟨G', b0, v', V, rfl, hl, hv, q1, by rw [e1]; exact q2, q3, q4, fun g hg => ?_⟩, q5, fun g hg => ?_⟩
  ·rcases q6 g hg with h | h
   ·exact h7 g h
   ·omega
  ·rcases List.mem_cons.1 hg with rfl | hg
   ·exact .inl (by simp)
   ·rcases q6 g hg with h | h
    ·exact .inl (by simp [h])
    ·exact .inr h
theorem V5b.rd {p : f0a} {m : Int} {gl k : Nat} {M0 Bs Ts : List Nat} {wf w : World} (h : V5b p m gl M0 wf k Bs Ts w) (hT : ∀ g ∈ Ts, g ∉ Bs) (hM : ∀ g ∈ M0, g < wf.heap.size) (hk : k ≤ 100000) :
 ∃ v V, V.length = k ∧ y3a p m V ∧ o0a w (gl, 30, [v]) ∧ RdS M0 w 3 (g3a M0 w) v (Z1a V) := by
 obtain ⟨G, cs, v, V, rfl, h1, h2, h3, h4, h5, h6, h7⟩ := h;refine ⟨v, V, h1, h2, h3, ?_⟩;have S : St (gl :: G.toList) w w [(G, 38, cs)] := (St.base _ w).pushO h5 h6 (fun g hg => by rw [hg]; simp) (fun g hg b hb => by simp at hb);exact RdS.lessW (h4.rdG S (k := 0) rfl (fun g hg hh => by
  simp only [List.mem_cons, List.mem_append] at hh;rcases hh with rfl | hh | hh
  ·exact u5a (h6 g hg) h3 (by decide) rfl
  ·exact hT g hh (by simp [hg])
  ·have := hM g hh; have := h7 g (by simp [hg]); omega) (by simp [Z1a]; omega)) (fun g hg => by simp [hg]) (fun _ _ h => t0a.less (fun g hg => by simp [hg]) h)
theorem c6a (p : f0a) (m : Int) (hm : m = 0 ∨ m = 1 ∨ m = 2) (n : Nat) (h1 : 1 ≤ n) (h2 : n ≤ 20000) (M : List Nat) (w0 : World) (cs : List Value) (hI : InP p M w0 cs) :
 M0a Tryz.prog 8 #[.agg cs.toArray, .int .i64 m, .int .i64 n] w0 fun r w' => (∃ v l e0, r = .tuple #[v, .int .i64 e0] ∧ RdS M w' 3 (g3a M w') v l ∧ p6a p m n l e0) ∧ Below w0.heap.size w0 w' := by
 obtain ⟨_, _, _, _, _, _, _, _, _, _, _, _, rfl, _, _, _, _, _, _, _, _, _, _, _, _⟩ := hI.rd.open_;have S := St.refl w0;have s0 : M2a m n = true := by rcases hm with rfl | rfl | rfl <;> (simp [M2a]; omega)
 refine a0a Tryz.func8 rfl Tryz.ntmps8 rfl ?_;refine wO0 rfl ⟨⟩ (j0a S (by conv => lhs; whnf) rfl ?_);intro g3 w3 S3 X3 G3;refine lO S3.k [.w 0] rfl ⟨⟨rfl,by rfl⟩,⟨⟩⟩ (g0a S3 j9b rfl rfl (s0 ▸ Q7a p m n M _ _ (hI.keep (S3.keep0 M))) ?_);intro A0 p0 u0;refine lO0 rfl ⟨⟩ (n0a p0 Y8c rfl rfl ?_);intro g8 w8 S8 X8 G8;refine lO S8.k [.w 1] rfl ⟨⟨rfl,by rfl⟩,⟨⟩⟩ (j1a W2c (vs := [(0, .agg _), (1, .int .i64 _)]) (cs := [_, _, _, _, _, _]) rfl rfl rfl rfl ?_);refine j0a S8 (by conv => lhs; whnf) rfl ?_;intro d0 b0 a0 v0 t0;refine lO0 rfl ⟨⟩ (F1a rfl rfl ?_);have z8 : w0.heap.size ≤ g8 ∧ g8 < b0.heap.size := ⟨by simpa using a0.new 1 rfl, a0.lt 1 rfl⟩;have B0 : w0.heap.size ≤ d0 ∧ d0 < b0.heap.size := ⟨by simpa using a0.new 0 rfl, a0.lt 0 rfl⟩;have i0 : InP p (d0 :: ([g8] ++ M)) b0 _ := InP.grow (Bs0 := []) (M0 := M) hI (a0.keep0 []) (fun g hg => by
  simp only [List.cons_append, List.nil_append, List.mem_cons] at hg ⊢;rcases hg with rfl | rfl | hg
  ·right; omega
  ·right; omega
  ·exact .inl hg) (fun g hg => by
  simp only [List.cons_append, List.nil_append, List.mem_cons] at hg;have := a0.size;rcases hg with rfl | rfl | hg
  ·omega
  ·omega
  ·have := hI.lt g hg; omega)
 have g0 : d0 ∉ [g8] := fun hh => u5a (a0.blk 0 rfl) (a0.blk 1 rfl) (by decide) (List.mem_singleton.1 hh);obtain ⟨wb, y0⟩ : ∃ wb, wb = b0 := ⟨_, rfl⟩;have j0 := B9b p m d0 g8 M b0 (a0.blk 1 rfl);refine s4a x3c rfl rfl rfl (X5b p m hm n d0 (by omega) _ _ _ _ 26 [.pointer (some ⟨g8, 0, none⟩)] [g8] M b0 (fun _ => false) (V5b p m g8 M b0) i0 (a0.blk 0 rfl) g0 j0) ?_;rintro z0 n0 ⟨⟨_, e0, rfl, hF⟩, h0⟩;have f0 := (a0.tail.tail).keepsW h0 (fun g hg x0 => by simp at hg; omega) (fun b hb g hg hh => by
  have o0 := (a0.own b (List.mem_cons_of_mem _ (List.mem_cons_of_mem _ hb)) g hg).2;simp only [List.mem_cons, List.not_mem_nil, or_false] at hh hb;subst hb;rcases hh with rfl | rfl
  ·exact u5a o0 (a0.blk 0 rfl) (by decide) rfl
  ·exact u5a o0 (a0.blk 1 rfl) (by decide) rfl)
 refine lB0 rfl ⟨⟩ (fun r0 => ?_) fun r0 => ?_
 ·refine lR0 rfl ⟨⟩ (I2b rfl (by conv => lhs; whnf) (by conv => lhs; whnf) ?_);refine ⟨⟨_, [], _, rfl, z4a, .inr ⟨?_, rfl, ?_⟩⟩, f0.fin⟩
  ·omega
  ·rcases hF with ⟨he, _⟩ | ⟨_, V, q1, q2, _⟩ | ⟨he, _⟩
   ·omega
   ·exact ⟨V, q1, q2⟩
   ·omega
 refine lO0 rfl ⟨⟩ ?_;obtain ⟨k, v, q1, q2, q3, q4, rfl⟩ : ∃ k v, (P2a p m k).length ≤ k ∧ (P2a p m k).length ≤ n ∧ o0a n0 (g8, 30, [v]) ∧ RdS M n0 3 (g3a M n0) v (Z1a (P2a p m k)) ∧ e0 = 4 := by
  rcases hF with ⟨_, _, _, _, _, _, _, _, _, _, _, ⟨y, _, hy⟩, _⟩ | ⟨he, _⟩ | ⟨he, k, Bs, Ts, q1, q2, q3, q4, q5⟩
  ·cases hy
  ·omega
  ·obtain ⟨v, V, r1, r2, r3, r4⟩ := q5.rd (fun g hg => (q4.ok g hg).1) (fun g hg => by have := hI.lt g hg; have := f0.size; omega) (by omega);obtain rfl := List.IsPrefix.eq_of_length (r2.done q1) r1;exact ⟨k, v, q1, q2, r3, r4, he⟩
 obtain ⟨_, _, _, rfl⟩ := q4.form;have q0 := q3.cell (o := 0) rfl;refine s0a z9b rfl (by exact q0) rfl ?_;exact lT2 rfl ⟨⟩ rfl ⟨⟨_, _, _, rfl, q4, .inl ⟨rfl, k, q1, q2, rfl⟩⟩, f0.fin⟩
theorem U4b (p : f0a) (m : Int) (n : Int) (b0 : M2a m n = false) (M : List Nat) (w0 : World) (cs : List Value) (hI : InP p M w0 cs) :
 M0a Tryz.prog 8 #[.agg cs.toArray, .int .i64 m, .int .i64 n] w0 fun r w' => r = .tuple #[.slice none 0 0, .int .i64 1] ∧ Below w0.heap.size w0 w' := by
 obtain ⟨_, _, _, _, _, _, _, _, _, _, _, _, rfl, _, _, _, _, _, _, _, _, _, _, _, _⟩ := hI.rd.open_;have S := St.refl w0;refine a0a Tryz.func8 rfl Tryz.ntmps8 rfl ?_;refine wO0 rfl ⟨⟩ (j0a S (by conv => lhs; whnf) rfl ?_);intro g3 w3 S3 X3 G3;refine lO S3.k [.w 0] rfl ⟨⟨rfl,by rfl⟩,⟨⟩⟩ (g0a S3 j9b rfl rfl (b0 ▸ Q7a p m n M _ _ (hI.keep (S3.keep0 M))) ?_);intro e0 a0 d0;exact lT2 rfl ⟨⟩ rfl ⟨rfl, a0.fin⟩
def Raw (size : Nat) (cs x : List Value) : Prop := cs = x ∧ x.length = size ∧ ∀ u ∈ x, u.oneCell' = true
theorem i5c (size : Nat) : W4a (fun (_ : List Nat) (_ : World) => Raw size) size where
 len h := by rw [h.1]; exact h.2.1
 one h u hu := by rw [h.1] at hu; exact h.2.2 u hu
 keep _ h := h
 more _ h := h
abbrev v5b (size : Nat) (w0 : World) (G : Option Nat) (cs : List Value) (v : Value) (css : List (List Value)) : Prop := P1a (fun _ _ => Raw size) size [] w0 G cs v css
section
variable {size : Nat}
theorem f6b {u : Value} : ∀ (css : List (List Value)) (i j : Nat) (c : List Value), (∀ x ∈ css, x.length = size) → css[i]? = some c → j < size → css.flatten.set (i * size + j) u = (css.set i (c.set j u)).flatten
 | [], i, j, c, _, hi, _ => by simp at hi
 | x :: css, 0, j, c, hl, hi, hj => by
   simp at hi; subst hi;have hx := hl x (by simp);rw [List.flatten_cons, Nat.zero_mul, Nat.zero_add, List.set_append_left _ _ (by omega)];simp
 | x :: css, i + 1, j, c, hl, hi, hj => by
   have hx := hl x (by simp);have := f6b (u := u) css i j c (fun y hy => hl y (by simp [hy])) (by simpa using hi) hj;rw [List.flatten_cons, List.set_append_right _ _ (by rw [Nat.add_mul]; omega), List.set_cons_succ, List.flatten_cons, ← this]
   congr 2
   rw [Nat.add_mul]; omega
theorem X8a : ∀ (us : List Value) (css : List (List Value)) (i j : Nat) (c : List Value), (∀ x ∈ css, x.length = size) → css[i]? = some c → j + us.length ≤ size → k0a css.flatten (i * size + j) us = (css.set i (k0a c j us)).flatten
 | [], css, i, j, c, _, hi, _ => by rw [k0a, k0a, s6b hi]
 | u :: us, css, i, j, c, hl, hi, hj => by
   have b0 := (List.getElem?_eq_some_iff.1 hi).1;have a0 := hl c (List.mem_of_getElem? hi);simp only [List.length_cons] at hj;rw [k0a, f6b css i j c hl hi (by omega), show i * size + j + 1 = i * size + (j + 1) by omega];rw [X8a us (css.set i (c.set j u)) i (j + 1) (c.set j u) (fun x hx => by
    rcases List.mem_or_eq_of_mem_set hx with h | h
    ·exact hl x h
    ·rw [h, List.length_set]; exact a0) (by rw [List.getElem?_set_self b0]) (by omega)]
   rw [List.set_set, k0a]
theorem q8a : ∀ (us cs : List Value) (o n : Nat), (k0a cs o us).take n = k0a (cs.take n) o us
 | [], _, _, _ => rfl
 | u :: us, cs, o, n => by rw [k0a, q8a us, k0a, List.take_set]
theorem C0b : ∀ (us cs : List Value) (o : Nat), (∀ u ∈ cs, u.oneCell' = true) → (∀ u ∈ us, u.oneCell' = true) → ∀ u ∈ k0a cs o us, u.oneCell' = true
 | [], _, _, h, _ => h
 | v :: us, cs, o, h, h2 => by
   rw [k0a];refine C0b us _ _ (fun u hu => ?_) (fun u hu => h2 u (by simp [hu]));rcases List.mem_or_eq_of_mem_set hu with hu | rfl
   ·exact h u hu
   ·exact h2 u (by simp)
theorem v5b.put {w0 : World} {G : Option Nat} {cs us c : List Value} {v : Value} {css : List (List Value)} {i j o : Nat} (h : v5b size w0 G cs v css) (hi : css[i]? = some c) (ho : o = i * size + j) (hj : j + us.length ≤ size) (h1 : ∀ u ∈ us, u.oneCell' = true) : v5b size w0 G (k0a cs o us) v (css.set i (k0a c j us)) := by
 subst ho;obtain ⟨xs, _, q2, ⟨_, hr⟩, q4⟩ := h;have hx : xs = css := by
  refine List.ext_getElem? fun k => ?_;cases hk : css[k]? with
  | none => rw [List.getElem?_eq_none_iff] at hk ⊢; omega
  | some x => obtain ⟨y, h5, h6⟩ := q4 k x hk; rw [h5, h6.1]
 subst hx;have g0 := (List.getElem?_eq_some_iff.1 hi).1;have e0 : ∀ u ∈ c, u.oneCell' = true := by
  obtain ⟨y, h5, h6⟩ := q4 i c hi;exact h6.2.2
 have d0 := q2 c (List.mem_of_getElem? hi);have f0 : (k0a c j us).length = size := by rw [U3a]; exact d0
 have a0 : ∀ x ∈ xs.set i (k0a c j us), x.length = size := fun x hx => by
  rcases List.mem_or_eq_of_mem_set hx with h | rfl
  ·exact q2 x h
  ·exact f0
 refine ⟨xs.set i (k0a c j us), rfl, a0, ⟨?_, ?_⟩, fun k x hk => ?_⟩
 ·rw [D3a _ a0]
 ·rcases hr with ⟨rfl, rfl, h0⟩ | ⟨g, b0, rfl, rfl, r1, r2, r3, r4⟩
  ·omega
  ·refine .inr ⟨g, b0, rfl, by rw [List.length_set], by rw [List.length_set]; exact r1, r2, by rw [U3a]; exact r3, ?_⟩;rw [q8a, List.length_set, r4, X8a us xs i j c q2 hi hj]
 ·refine ⟨x, hk, rfl, ?_, ?_⟩
  ·exact a0 x (List.mem_of_getElem? hk)
  ·rcases List.mem_or_eq_of_mem_set (List.mem_of_getElem? hk) with h | rfl
   ·obtain ⟨n, hn⟩ := List.getElem?_of_mem h;obtain ⟨y, h5, h6⟩ := q4 n x hn;exact h6.2.2
   ·exact C0b us c j e0 h1
theorem v5b.len {w0 : World} {G : Option Nat} {cs : List Value} {A : Option Addr} {n c : Nat} {css : List (List Value)} (h : v5b size w0 G cs (.slice A n c) css) : n = css.length := by
 obtain ⟨_, _, he⟩ := h.form;simp only [Value.slice.injEq] at he;exact he.2.1
theorem v5b.at {w0 : World} {G : Option Nat} {cs : List Value} {A : Option Addr} {n c : Nat} {css : List (List Value)} (h : v5b size w0 G cs (.slice A n c) css) (h0 : 0 < n) : ∃ g, G = some g ∧ A = some ⟨g, 0, none⟩ := by
 have hn := h.len;obtain ⟨_, _, _, ⟨_, hr⟩, _⟩ := h;rcases hr with ⟨rfl, he, h5⟩ | ⟨g, a0, rfl, he, -⟩
 ·omega
 ·simp only [Value.slice.injEq] at he;exact ⟨g, rfl, he.1⟩
theorem v5b.cap {w0 : World} {G : Option Nat} {cs : List Value} {v : Value} {css : List (List Value)} (h : v5b size w0 G cs v css) : css.length * size ≤ cs.length ∨ css = [] := by
 obtain ⟨_, _, _, ⟨_, hr⟩, _⟩ := h;rcases hr with ⟨rfl, he, h5⟩ | ⟨g, a0, rfl, he, r1, r2, r3, r4⟩
 ·exact .inr (List.length_eq_zero_iff.1 h5)
 ·left; rw [r3]; exact Nat.mul_le_mul_right _ r1
theorem v5b.rd {α : Type} {R : List Value → α → Prop} {M M' : List Nat} {w0 w : World} {L : List Ent} {k el : Nat} {G : Option Nat} {cs : List Value} {v : Value} {css : List (List Value)} {l : List α} (h : v5b size w0 G cs v css) (S : St M' w0 w L) (hk : L[k]? = some (G, el, cs)) (hM : ∀ g, G = some g → g ∉ M) (hl : l.length ≤ 1000000) (b0 : css.length = l.length)
 (he : ∀ (i : Nat) (x : α), l[i]? = some x → ∃ c, css[i]? = some c ∧ R c x) : RdS M w size R v l := by
 obtain ⟨A, n, c, rfl, _, h2, h3, h4, h5⟩ := P1a.rd (M := M) (i5c size) (w := w) (show P1a (fun _ _ => Raw size) size M w G cs v css from h) S hk hM (by omega);refine ⟨A, n, c, rfl, by omega, h2, h3, h4, fun hp => ?_⟩;obtain ⟨b, o, hA, hb, a0⟩ := h5 hp;refine ⟨b, o, hA, hb, fun i x hi => ?_⟩;obtain ⟨y, h6, h7⟩ := he i x hi;obtain ⟨z, z1, z2, z3⟩ := a0 i y h6;exact ⟨z, z1, z2, by rw [z3.1]; exact h7⟩
end
theorem w8a : ∀ (us a r : List Value), r.length = us.length → k0a (a ++ r) a.length us = a ++ us
 | [], a, [], _ => rfl
 | [], _, _ :: _, h => by simp at h
 | _ :: _, _, [], h => by simp at h
 | u :: us, a, x :: r, h => by
   have := w8a us (a ++ [u]) r (by simpa using h);rw [k0a, List.set_append_right _ _ (Nat.le_refl _), Nat.sub_self, List.set_cons_zero];simpa using this
theorem P1a.toRaw {α : Type} {R0 : List Value → α → Prop} {size : Nat} {w0 : World} {G : Option Nat} {cs : List Value} {v : Value} {l : List α} (hL : W4a (fun (_ : List Nat) (_ : World) => R0) size) (h : P1a (fun _ _ => R0) size [] w0 G cs v l) :
 ∃ css, v5b size w0 G cs v css ∧ css.length = l.length ∧ ∀ (i : Nat) (x : α), l[i]? = some x → ∃ c, css[i]? = some c ∧ R0 c x := by
 obtain ⟨css, q1, q2, q3, q4⟩ := h;refine ⟨css, ⟨css, rfl, q2, by rw [q1]; exact q3, fun i x hi => ⟨x, hi, rfl, q2 x (List.mem_of_getElem? hi), fun u hu => ?_⟩⟩, q1, q4⟩;have a0 := (List.getElem?_eq_some_iff.1 hi).1;obtain ⟨c, h5, h6⟩ := q4 i _ (List.getElem?_eq_getElem (by omega));obtain rfl : x = c := Option.some.inj (hi.symm.trans h5);exact hL.one (M := []) (w := w0) h6 u hu
theorem v5b.toRow {α : Type} {R0 : List Value → α → Prop} {size : Nat} {w0 : World} {G : Option Nat} {cs : List Value} {v : Value} {css : List (List Value)} {l : List α} (h : v5b size w0 G cs v css) (hl : css.length = l.length) (he : ∀ (i : Nat) (x : α), l[i]? = some x → ∃ c, css[i]? = some c ∧ R0 c x) : P1a (fun _ _ => R0) size [] w0 G cs v l := by
 obtain ⟨xs, _, q2, q3, q4⟩ := h;refine ⟨xs, by omega, q2, by rw [← hl]; exact q3, fun i x hi => ?_⟩;obtain ⟨c, h5, h6⟩ := he i x hi;obtain ⟨c', h7, h8⟩ := q4 i c h5;exact ⟨c', h7, by rw [h8.1]; exact h6⟩
theorem P1a.put {α : Type} {R0 : List Value → α → Prop} {size : Nat} {w0 : World} {G : Option Nat} {cs us : List Value} {v : Value} {l : List α} {i o : Nat} {x y : α} (hL : W4a (fun (_ : List Nat) (_ : World) => R0) size) (h : P1a (fun _ _ => R0) size [] w0 G cs v l) (hi : l[i]? = some x) (ho : o = i * size) (hy : R0 us y) : P1a (fun _ _ => R0) size [] w0 G (k0a cs o us) v (l.set i y) := by
 obtain ⟨_, h1, h2, h3⟩ := h.toRaw hL;obtain ⟨c, h4, h5⟩ := h3 i x hi;have e0 : us.length = size := hL.len (M := []) (w := w0) hy;have d0 : c.length = size := hL.len (M := []) (w := w0) h5;have hp := h1.put h4 (us := us) (j := 0) (o := o) (by omega) (by omega) (hL.one (M := []) (w := w0) hy);rw [show k0a c 0 us = us from w8a us [] c (by omega)] at hp;refine hp.toRow (by simp [h2]) (fun k z hz => ?_);have b0 := (List.getElem?_eq_some_iff.1 h4).1;have a0 := (List.getElem?_eq_some_iff.1 hi).1;by_cases hk : i = k
 ·subst hk;rw [List.getElem?_set_self a0] at hz;obtain rfl := Option.some.inj hz;exact ⟨us, List.getElem?_set_self b0, hy⟩
 ·rw [List.getElem?_set_ne hk] at hz ⊢;exact h3 k z hz
theorem P1a.at {α : Type} {R : List Nat → World → List Value → α → Prop} {size : Nat} {M : List Nat} {w0 : World} {G : Option Nat} {cs : List Value} {A : Option Addr} {n c : Nat} {l : List α} (h : P1a R size M w0 G cs (.slice A n c) l) (h0 : 0 < l.length) : ∃ g, G = some g ∧ A = some ⟨g, 0, none⟩ ∧ l.length * size ≤ cs.length := by
 obtain ⟨_, _, _, ⟨_, hr⟩, _⟩ := h;rcases hr with ⟨rfl, he, h5⟩ | ⟨g, a0, rfl, he, r1, r2, r3, r4⟩
 ·omega
 ·simp only [Value.slice.injEq] at he;exact ⟨g, rfl, he.1, by rw [r3]; exact Nat.mul_le_mul_right _ r1⟩
def n1b {α : Type} (l cur : List α) (i : Nat) : Prop := cur.length = l.length ∧ ∀ q, q < l.length → cur[q]? = if q < i ∨ l.length - i ≤ q then l[l.length - 1 - q]? else l[q]?
theorem n1b.zero {α : Type} {l : List α} : n1b l l 0 := ⟨rfl, fun q hq => by rw [if_neg (by omega)]⟩
theorem n1b.all {α : Type} {l a0 : List α} {i : Nat} (h : n1b l a0 i) (hi : (l.length : Int) - 1 - i ≤ i) : a0 = l.reverse := by
 refine List.ext_getElem? fun q => ?_;by_cases hq : q < l.length
 ·rw [h.2 q hq, List.getElem?_reverse hq]
  split
  ·rfl
  ·rw [show l.length - 1 - q = q by omega]
 ·rw [List.getElem?_eq_none (by rw [h.1]; omega), List.getElem?_eq_none (by simp; omega)]
theorem n1b.next {α : Type} {l a0 : List α} {i j : Nat} {x y : α} (h : n1b l a0 i) (hj : j + 1 + i = l.length) (e0 : i < j) (hx : a0[i]? = some x) (hy : a0[j]? = some y) : n1b l ((a0.set i y).set j x) (i + 1) := by
 refine ⟨by simp [h.1], fun q hq => ?_⟩;have b0 := h.2 i (by omega);have d0 := h.2 j (by omega);rw [if_neg (by omega)] at b0 d0;rw [hx] at b0;rw [hy] at d0;have hl := h.1;by_cases h1 : j = q
 ·subst h1;rw [List.getElem?_set_self (by simp; omega), if_pos (by omega), show l.length - 1 - j = i by omega, b0]
 ·rw [List.getElem?_set_ne h1];by_cases h2 : i = q
  ·subst h2;rw [List.getElem?_set_self (by omega), if_pos (by omega), show l.length - 1 - i = j by omega, d0]
  ·rw [List.getElem?_set_ne h2, h.2 q hq];by_cases h3 : q < i ∨ l.length - i ≤ q
   ·rw [if_pos h3, if_pos (by omega)]
   ·rw [if_neg h3, if_neg (by omega)]
theorem m7b (w0 : World) (G : Option Nat) (cs : List Value) (v : Value) (l : List A0a) (t0 : P1a (fun _ _ => S1a) 3 [] w0 G cs v l) (h0 : G = none → cs = []) (hb : ∀ g, G = some g → o0a w0 (g, 44, cs)) (hl : l.length ≤ 100000) :
 M0a Tryz.prog 43 #[v] w0 fun _ w' => ∃ f0, P1a (fun _ _ => S1a) 3 [] w' G f0 v l.reverse ∧ (∀ g, G = some g → o0a w' (g, 44, f0)) ∧ v0a G.toList w0 w' := by
 have S : St G.toList w0 w0 [(G, 44, cs)] := (St.base _ w0).pushO h0 hb (fun g hg => by rw [hg]; simp) (fun g hg b hb => by simp at hb);obtain ⟨Av, cv, rfl⟩ := t0.form;refine a0a Tryz.func43 rfl Tryz.ntmps43 rfl ?_;refine wC0 rfl ⟨by omega,⟨⟩⟩ (wL (fun μi D ε w => D = [] ∧ ∃ i : Nat, ∃ j : Int, ∃ r0 : List A0a, ∃ f0 : List Value, (i + μi = (l.length)) ∧ (j = (l.length : Int) - 1 - i) ∧ (n1b l r0 i) ∧ (P1a (fun _ _ => S1a) 3 [] w0 G f0 (.slice Av l.length cv) r0) ∧ St G.toList w0 w [(G, 44, f0)] ∧ Sl ε [(0, .slice Av l.length cv), (2, .int .i64 i), (3, .int .i64 j)]) (μ := (l.length)) ⟨rfl, 0, (l.length : Int) - 1, l, cs, by omega, by omega, n1b.zero, t0, S, rfl⟩ ?_);rintro μi D ε w ⟨rfl, i, j, r0, f0, _, _, o0, a0, S, eZ⟩;refine wK eZ (wB0 rfl ⟨⟩ (fun h9 => ?_) fun h9 => ?_)
 ·refine lCn 5 S.k [] rfl ⟨⟩ (wX (fun D ε w => D = [] ∧ ∃ z0 : List Value, ∃ c1 : A0a, ∃ c2 : A0a, (r0[i]? = some c1) ∧ (r0[j.toNat]? = some c2) ∧ (P1a (fun _ _ => S1a) 3 [] w0 G z0 (.slice Av l.length cv) ((r0.set i c2).set j.toNat c1)) ∧ ((i : Int) < j) ∧ St G.toList w0 w [(G, 44, z0)] ∧ Sl ε [(0, .slice Av l.length cv), (2, .int .i64 i), (3, .int .i64 j)]) ?_ ?_)
  ·obtain ⟨q, rfl⟩ : ∃ q : Nat, j = (q : Int) := ⟨j.toNat, by omega⟩;have X0 := o0.1;obtain ⟨g, rfl, rfl, _⟩ := a0.at (by omega);have v0 := P1a.rd (M := []) (w := w) T1a a0 S (k := 0) rfl (fun _ _ => by simp) (by omega);refine wC0 rfl ⟨⟩ (q7c b0a (fun i => [0, 1, 2, 3, 4, 5, 6, 8, 9, 10, 12, 14].contains i) 7 11 [0, 1, 2, 3, 4, 5, 6, 7, 8, 9, 10, 11, 12, 13, 14, 15] [0, 1, 2, 3, 4, 5, 6, 8, 9, 10, 11, 7, 12, 13, 14, 15] (by kernel_rfl) (fun _ => True) ?_ ?_)
   ·have s0 := S.drew;have e0 : w0a [] w w.drew := x2a _ _;generalize w.drew = W0 at s0 e0 ⊢;have N0 : w0a ([g]) _ _ := e0.of_nil;refine G3a trivial rfl rfl rfl ?_;refine f1a (v := .slice _ _ _) rfl rfl ?_;refine d0a ?_;refine G3a trivial rfl rfl rfl ?_;refine f1a (v := .int .i64 _) rfl rfl ?_;refine d0a ?_;refine G3a trivial rfl rfl rfl ?_;refine f1a (v := .slice _ _ _) rfl rfl ?_;refine d0a ?_;refine G3a trivial rfl rfl rfl ?_;refine f1a (v := .int .i64 _) rfl rfl ?_;refine d0a ?_;refine G3a trivial rfl rfl rfl ?_;refine f1a (v := .slice _ _ _) rfl rfl ?_;refine d0a ?_;refine G3a trivial rfl rfl rfl ?_;refine f1a (v := .int .i64 _) rfl rfl ?_;refine d0a ?_;refine G3a trivial rfl rfl rfl ?_;obtain ⟨y, O0, S0, Q0, q0, g0, A0, C0, j0, b0⟩ := RdS.get (v0) (q) (by omega);obtain ⟨rfl, E0, G0, I0⟩ := id b0;refine m0a r3a.slT rfl (by rfl) rfl (by omega) (by omega) rfl ?_;refine d0a ?_;refine W5b trivial rfl rfl rfl ?_;cases g0;refine x1a D5a rfl (j0.keep e0 List.not_mem_nil) rfl rfl ?_;refine S0a ⟨rfl, ?_⟩;refine G3a trivial rfl rfl rfl ?_;refine f1a (v := .slice _ _ _) rfl rfl ?_;refine d0a ?_;refine G3a trivial rfl rfl rfl ?_;refine f1a (v := .int .i64 _) rfl rfl ?_;refine d0a ?_;refine G3a trivial rfl rfl rfl ?_;obtain ⟨x, P0, T0, R0, p0, i0, B0, D0, n0, d0⟩ := RdS.get (v0) (i) (by omega);obtain ⟨rfl, F0, H0, J0⟩ := id d0;refine m0a r3a.slT rfl (by rfl) rfl (by omega) (by omega) rfl ?_;refine d0a ?_;refine W5b trivial rfl rfl rfl ?_;cases i0;refine x1a D5a rfl (n0.keep e0 List.not_mem_nil) rfl rfl ?_;refine S0a ⟨rfl, ?_⟩;refine G3a trivial rfl rfl rfl ?_;refine m0a r3a.slT rfl (by rfl) rfl (by omega) (by omega) rfl ?_;refine d0a ?_;refine W5b trivial rfl rfl rfl ?_;refine e0a (kk := 0) (vs := [.int .i64 y.thread, .int .i64 y.step, .int .i64 y.cell]) s0 E4b rfl rfl rfl rfl rfl rfl (by rw [Nat.ble_eq]; omega) ?_;intro U0 x0 K0;refine S0a ⟨rfl, ?_⟩;refine G3a trivial rfl rfl rfl ?_;refine m0a r3a.slT rfl (by rfl) rfl (by omega) (by omega) rfl ?_;refine d0a ?_;refine W5b trivial rfl rfl rfl ?_;refine e0a (kk := 0) (vs := [.int .i64 x.thread, .int .i64 x.step, .int .i64 x.cell]) x0 E4b rfl rfl rfl rfl rfl rfl (by rw [Nat.ble_eq]; simp only [U3a]; omega) ?_;intro V0 y0 L0;refine S0a ⟨rfl, ?_⟩;refine m6b trivial ?_;refine fP0 rfl ⟨⟩ ⟨rfl, (_), (x), (y), (p0), ((by simpa using q0)), ?_, (h9), y0, rfl⟩;exact P1a.put T1a (P1a.put T1a a0 p0 (by simp) b0) (y := x) (x := y) (by simpa [List.getElem?_set_ne (show i ≠ q by omega)] using q0) (by simp) d0
   have s0 := S.drew;have e0 : w0a [] w w.drew := x2a _ _;generalize w.drew = W0 at s0 e0 ⊢;have N0 : w0a ([g]) _ _ := e0.of_nil;refine G3a trivial rfl rfl rfl ?_;refine f1a (v := .slice _ _ _) rfl rfl ?_;refine d0a ?_;refine G3a trivial rfl rfl rfl ?_;refine f1a (v := .int .i64 _) rfl rfl ?_;refine d0a ?_;refine G3a trivial rfl rfl rfl ?_;refine f1a (v := .slice _ _ _) rfl rfl ?_;refine d0a ?_;refine G3a trivial rfl rfl rfl ?_;refine f1a (v := .int .i64 _) rfl rfl ?_;refine d0a ?_;refine G3a trivial rfl rfl rfl ?_;refine f1a (v := .slice _ _ _) rfl rfl ?_;refine d0a ?_;refine G3a trivial rfl rfl rfl ?_;refine f1a (v := .int .i64 _) rfl rfl ?_;refine d0a ?_;refine G3a trivial rfl rfl rfl ?_;obtain ⟨y, O0, S0, Q0, q0, g0, A0, C0, j0, b0⟩ := RdS.get (v0) (q) (by omega);obtain ⟨rfl, E0, G0, I0⟩ := id b0;refine m0a r3a.slT rfl (by rfl) rfl (by omega) (by omega) rfl ?_;refine d0a ?_;refine G3a trivial rfl rfl rfl ?_;refine f1a (v := .slice _ _ _) rfl rfl ?_;refine d0a ?_;refine G3a trivial rfl rfl rfl ?_;refine f1a (v := .int .i64 _) rfl rfl ?_;refine d0a ?_;refine G3a trivial rfl rfl rfl ?_;obtain ⟨x, P0, T0, R0, p0, i0, B0, D0, n0, d0⟩ := RdS.get (v0) (i) (by omega);obtain ⟨rfl, F0, H0, J0⟩ := id d0;refine m0a r3a.slT rfl (by rfl) rfl (by omega) (by omega) rfl ?_;refine d0a ?_;refine W5b trivial rfl rfl rfl ?_;cases i0;refine x1a D5a rfl (n0.keep e0 List.not_mem_nil) rfl rfl ?_;refine S0a ⟨rfl, ?_⟩;refine W5b trivial rfl rfl rfl ?_;cases g0;refine x1a D5a rfl (j0.keep e0 List.not_mem_nil) rfl rfl ?_;refine S0a ⟨rfl, ?_⟩;refine G3a trivial rfl rfl rfl ?_;refine m0a r3a.slT rfl (by rfl) rfl (by omega) (by omega) rfl ?_;refine d0a ?_;refine W5b trivial rfl rfl rfl ?_;refine e0a (kk := 0) (vs := [.int .i64 y.thread, .int .i64 y.step, .int .i64 y.cell]) s0 E4b rfl rfl rfl rfl rfl rfl (by rw [Nat.ble_eq]; omega) ?_;intro U0 x0 K0;refine S0a ⟨rfl, ?_⟩;refine G3a trivial rfl rfl rfl ?_;refine m0a r3a.slT rfl (by rfl) rfl (by omega) (by omega) rfl ?_;refine d0a ?_;refine W5b trivial rfl rfl rfl ?_;refine e0a (kk := 0) (vs := [.int .i64 x.thread, .int .i64 x.step, .int .i64 x.cell]) x0 E4b rfl rfl rfl rfl rfl rfl (by rw [Nat.ble_eq]; simp only [U3a]; omega) ?_;intro V0 y0 L0;refine S0a ⟨rfl, ?_⟩;refine m6b trivial ?_;refine fP0 rfl ⟨⟩ ⟨rfl, (_), (x), (y), (p0), ((by simpa using q0)), ?_, (h9), y0, rfl⟩;exact P1a.put T1a (P1a.put T1a a0 p0 (by simp) b0) (y := x) (x := y) (by simpa [List.getElem?_set_ne (show i ≠ q by omega)] using q0) (by simp) d0
  rintro D ε w ⟨rfl, z0, c1, c2, p0, q0, u0, _, S, eZ⟩;refine wK eZ (wP0 rfl ⟨by omega,by omega,⟨⟩⟩ ?_);refine ⟨μi - 1, by omega, rfl, (i + 1), (j - 1), (_), (_), (by omega), (by omega), (o0.next (by omega) (by omega) p0 q0), (u0), S, rfl⟩
 refine lF0 rfl ⟨⟩ (J1a rfl ?_);obtain rfl := o0.all (by omega);exact ⟨f0, a0, fun g hg => S.blk 0 (by rw [hg]; rfl), S.below⟩
structure J3a where
 thread : Int
 point : Int
 expr : E
def b4a (M : List Nat) (w : World) (cs : List Value) (g : J3a) : Prop := ∃ es, cs = .int .i64 g.thread :: .int .i64 g.point :: es ∧ RdE M w g.expr es ∧ i64 g.thread ∧ i64 g.point
theorem b4a.keep {M : List Nat} {w w' : World} {cs : List Value} {g : J3a} (hk : w0a M w w') (h : b4a M w cs g) : b4a M w' cs g := by
 obtain ⟨es, h1, h2, h3⟩ := h;exact ⟨es, h1, RdE.keep hk _ _ h2, h3⟩
theorem b4a.more {M M' : List Nat} {w : World} {cs : List Value} {g : J3a} (hM : ∀ x ∈ M', x ∈ M ∨ w.heap.size ≤ x) (h : b4a M w cs g) : b4a M' w cs g := by
 obtain ⟨es, h1, h2, h3⟩ := h;exact ⟨es, h1, RdE.more hM _ _ h2, h3⟩
def X4a (p : f0a) (g : J3a) : Bool := decide (-1 ≤ g.thread) && (decide (g.thread < p.threads.length) && ((decide (g.thread < 0) || (match p.threads[g.thread.toNat]? with | some th => decide (0 ≤ g.point) && decide (g.point < th.points) | none => true)) && (g.expr.valid p.cells false && g.expr.w == 1)))
theorem N3b {p : f0a} {g : J3a} (h : g.thread < -1 ∨ (p.threads.length : Int) ≤ g.thread) : X4a p g = false := by
 unfold X4a;rcases h with h | h
 ·rw [decide_eq_false (by omega)]; rfl
 ·rw [decide_eq_false (p := g.thread < p.threads.length) (by omega)]; simp
theorem K9b {p : f0a} {g : J3a} {th : Q0a} (h0 : 0 ≤ g.thread) (a0 : p.threads[g.thread.toNat]? = some th) (h : g.point < 0 ∨ th.points ≤ g.point) : X4a p g = false := by
 unfold X4a;simp only [a0];rw [decide_eq_false (p := g.thread < 0) (by omega)];rcases h with h | h
 ·rw [decide_eq_false (p := 0 ≤ g.point) (by omega)]; simp
 ·rw [decide_eq_false (p := g.point < th.points) (by omega)]; simp
theorem b6c {p : f0a} {g : J3a} (h0 : 0 ≤ g.thread) (h2 : g.thread < p.threads.length) (h : g.point < 0) : X4a p g = false :=
 K9b h0 (List.getElem?_eq_getElem (by omega)) (.inl h)
theorem a2b {p : f0a} {g : J3a} (h1 : -1 ≤ g.thread) (h2 : g.thread < p.threads.length) (h0 : g.thread < 0) : X4a p g = (g.expr.valid p.cells false && g.expr.w == 1) := by
 unfold X4a;rw [decide_eq_true h1, decide_eq_true h2, decide_eq_true h0]; simp
theorem e2b {p : f0a} {g : J3a} {th : Q0a} (h0 : 0 ≤ g.thread) (h2 : g.thread < p.threads.length) (a0 : p.threads[g.thread.toNat]? = some th) (h3 : 0 ≤ g.point) (h4 : g.point < th.points) : X4a p g = (g.expr.valid p.cells false && g.expr.w == 1) := by
 unfold X4a;simp only [a0];rw [decide_eq_true (p := -1 ≤ g.thread) (by omega), decide_eq_true h2, decide_eq_true h3, decide_eq_true h4]; simp
def E2a (c : r0a) (g : J3a) : Bool := c.buf.all List.isEmpty && ((decide (g.thread < 0) || (match c.at_[g.thread.toNat]? with | some n => n == g.point | none => true)) && g.expr.evl c.mem c.mem == 1)
theorem P8b (c : r0a) : dec (T3a c) = c.buf.all List.isEmpty := by
 unfold dec;rw [Bool.eq_iff_iff, @decide_eq_true_iff _ (Classical.propDecidable _)];simp [T3a]
theorem H3b {a b : Int} (h : a = b) : (a == b) = true := by simp [h]
theorem p0b {a b : Int} (h : a ≠ b) : (a == b) = false := by simp [h]
theorem S5c {c : r0a} {g : J3a} (h : c.buf.all List.isEmpty = false) : E2a c g = false := by unfold E2a; rw [h]; rfl
theorem b2c {c : r0a} {g : J3a} {n : Int} (h0 : 0 ≤ g.thread) (hn : c.at_[g.thread.toNat]? = some n) (a0 : n ≠ g.point) : E2a c g = false := by
 unfold E2a;simp only [hn];rw [decide_eq_false (p := g.thread < 0) (by omega), beq_eq_false_iff_ne.2 a0]; simp
theorem D2b {c : r0a} {g : J3a} {n : Int} (h : c.buf.all List.isEmpty = true) (hn : c.at_[g.thread.toNat]? = some n) (a0 : n = g.point) : E2a c g = (g.expr.evl c.mem c.mem == 1) := by
 unfold E2a;simp only [hn];rw [h, a0]; simp
theorem n2b {c : r0a} {g : J3a} (h : c.buf.all List.isEmpty = true) (h0 : g.thread < 0) : E2a c g = (g.expr.evl c.mem c.mem == 1) := by
 unfold E2a;rw [h, decide_eq_true h0]; simp
theorem h9b (p : f0a) (g : J3a) (M : List Nat) (w0 : World) (cs gs : List Value) (hI : InP p M w0 cs) (hG : b4a M w0 gs g) :
 M0a Tryz.prog 40 #[.agg cs.toArray, .agg gs.toArray] w0 fun v w' => v = .bool (X4a p g) ∧ Below w0.heap.size w0 w' := by
 obtain ⟨_, _, _, _, _, _, _, _, _, _, _, _, rfl, hC, _, _, v0, _, _, _, _, _, _, _, _⟩ := hI.rd.open_;obtain ⟨_, rfl, hE, _, g2⟩ := hG;obtain ⟨_, _, _, rfl, _, _, _, -⟩ := id hE.open_;have S := St.refl w0;refine a0a Tryz.func40 rfl Tryz.ntmps40 rfl ?_;refine wO0 rfl ⟨⟩ (j0a S (by conv => lhs; whnf) rfl ?_);intro g2 w2 S2 X2 G2;refine j0a S2 (by conv => lhs; whnf) rfl ?_;intro g3 w3 S3 X3 G3;refine lB S3.k [.o 0] rfl ⟨rfl,⟨⟩⟩ (fun h7 => ?_) fun h7 => ?_
 ·refine lR0 rfl ⟨⟩ (q0a rfl (by conv => lhs; whnf) ?_);exact ⟨by rw [N3b (by omega)], S3.fin⟩
 refine lB S3.k [.o 0,.o 1] rfl ⟨rfl,rfl,⟨⟩⟩ (fun r0 => ?_) fun r0 => ?_
 ·refine lR0 rfl ⟨⟩ (q0a rfl (by conv => lhs; whnf) ?_);exact ⟨by rw [N3b (by omega)], S3.fin⟩
 refine lC0 rfl ⟨⟩ (D0a b0a [0, 1, 2, 3, 4, 5, 6, 7, 8, 9, 10, 11, 12, 13, 14, 15, 16, 17, 18, 19] [] [] (by kernel_rfl) rfl (Cl _ _ _ _) (Cl.start S3) ?_);refine qB S3.q [.o 0] rfl ⟨rfl,⟨⟩⟩ (fun s0 => ?_) fun s0 => ?_
 ·refine qB S3.q [.o 0] rfl ⟨rfl,⟨⟩⟩ (fun t0 => ?_) fun t0 => ?_
  ·refine qD rfl ⟨⟩ ?_;rintro p0 ⟨a0, g0⟩;refine lR0 rfl ⟨⟩ (q0a rfl (by conv => lhs; whnf) ?_);exact ⟨by rw [b6c (by omega) (by omega) (by omega)], a0.fin⟩
  obtain ⟨_, q0, x0, _, e0, i0, _, _, j0, n0⟩ := RdS.get (v0) (g.thread.toNat) (by omega);obtain ⟨_, _, _, _, _, _, _, _, _, _, _, _, rfl, _, _, _, _, _, _, _, _, _, _, _, _, _⟩ := N0a.open_ n0;refine qB (S3.q.a j0) [.o 0,.o 1,.o 0,.x q0 x0,.f 0 1] rfl ⟨rfl,⟨i0,by omega⟩,rfl,rfl,rfl,⟨⟩⟩ (fun u0 => ?_) fun u0 => ?_
  ·refine qD rfl ⟨⟩ ?_;rintro p0 ⟨a0, g0⟩;refine lR0 rfl ⟨⟩ (q0a rfl (by conv => lhs; whnf) ?_);exact ⟨by rw [K9b (by omega) e0 (by omega)], a0.fin⟩
  refine qD rfl ⟨⟩ ?_;rintro p0 ⟨a0, g0⟩;refine lO a0.k [.o 0,.o 1] rfl ⟨rfl,rfl,⟨⟩⟩ (y0a a0 R6a rfl rfl (K2a g.expr M _ _ _ p.cells false (RdE.keep (a0.keep0 M) _ _ hE) (hC.keep (a0.keep0 M)) (hI.keep (a0.keep0 M)).msk) (fun d0 o0 b0 f0 => ?_) (fun d0 o0 b0 f0 => ?_))
  ·refine lB b0.k [.o 0] rfl ⟨rfl,⟨⟩⟩ (fun h0 => ?_) fun h0 => ?_
   ·refine lR0 rfl ⟨⟩ (q0a rfl (by conv => lhs; whnf) ?_);exact ⟨by rw [e2b (by omega) (by omega) e0 (by omega) (by omega), d0]; simp_all, b0.fin⟩
   refine lR0 rfl ⟨⟩ (q0a rfl (by conv => lhs; whnf) ?_);exact ⟨by rw [e2b (by omega) (by omega) e0 (by omega) (by omega), d0]; simp_all, b0.fin⟩
  refine lR0 rfl ⟨⟩ (q0a rfl (by conv => lhs; whnf) ?_);exact ⟨by rw [e2b (by omega) (by omega) e0 (by omega) (by omega), d0]; simp_all, b0.fin⟩
 refine qD rfl ⟨⟩ ?_;rintro p0 ⟨a0, g0⟩;refine lO a0.k [.o 0,.o 1] rfl ⟨rfl,rfl,⟨⟩⟩ (y0a a0 R6a rfl rfl (K2a g.expr M _ _ _ p.cells false (RdE.keep (a0.keep0 M) _ _ hE) (hC.keep (a0.keep0 M)) (hI.keep (a0.keep0 M)).msk) (fun d0 o0 b0 f0 => ?_) (fun d0 o0 b0 f0 => ?_))
 ·refine lB b0.k [.o 0] rfl ⟨rfl,⟨⟩⟩ (fun h0 => ?_) fun h0 => ?_
  ·refine lR0 rfl ⟨⟩ (q0a rfl (by conv => lhs; whnf) ?_);exact ⟨by rw [a2b (by omega) (by omega) (by omega), d0]; simp_all, b0.fin⟩
  refine lR0 rfl ⟨⟩ (q0a rfl (by conv => lhs; whnf) ?_);exact ⟨by rw [a2b (by omega) (by omega) (by omega), d0]; simp_all, b0.fin⟩
 refine lR0 rfl ⟨⟩ (q0a rfl (by conv => lhs; whnf) ?_);exact ⟨by rw [a2b (by omega) (by omega) (by omega), d0]; simp_all, b0.fin⟩
theorem j6b (c : r0a) (g : J3a) (M : List Nat) (w0 : World) (xs gs : List Value) (hX : t0a M w0 c xs) (hG : b4a M w0 gs g) (hK : a3a M w0) (v0 : g.thread < c.at_.length) :
 M0a Tryz.prog 42 #[.agg xs.toArray, .agg gs.toArray] w0 fun v w' => v = .bool (E2a c g) ∧ Below w0.heap.size w0 w' := by
 obtain ⟨_, _, _, _, _, _, _, _, _, rfl, b0, s0, _, _, _, _, _, _, _⟩ := id hX.open_;obtain ⟨_, rfl, hE, _, g2⟩ := hG;obtain ⟨_, _, _, rfl, _, _, _, -⟩ := id hE.open_;have S := St.refl w0;refine a0a Tryz.func42 rfl Tryz.ntmps42 rfl ?_;refine wO0 rfl ⟨⟩ (j0a S (by conv => lhs; whnf) rfl ?_);intro g2 w2 S2 X2 G2;refine j0a S2 (by conv => lhs; whnf) rfl ?_;intro g3 w3 S3 X3 G3;refine lC0 rfl ⟨⟩ (D0a b0a [0, 1, 2, 3, 4, 5, 6, 7, 8, 9, 10, 11, 12, 13, 14, 15, 16, 17, 18] [] [] (by kernel_rfl) rfl (Cl _ _ _ _) (Cl.start S3) ?_);refine qO S3.q [.w 1] rfl ⟨⟨rfl,by rfl⟩,⟨⟩⟩ (X1a t8c rfl rfl (fun w1 S1 X1 => P8b c ▸ Z0c c M _ _ (hX.keep (S1.keep0 M))) (fun h6 => ?_) fun h6 => ?_)
 ·refine qB S3.q [.o 0] rfl ⟨rfl,⟨⟩⟩ (fun q0 => ?_) fun q0 => ?_
  ·obtain ⟨_, p0, t0, _, j0, g0, _, _, h0, i0⟩ := RdS.get (s0) (g.thread.toNat) (by omega);obtain ⟨rfl, _⟩ := id i0;refine qB (S3.q.a h0) [.o 1,.o 0,.x p0 t0,.f 0 0,.o 0] rfl ⟨rfl,rfl,⟨g0,by omega⟩,rfl,rfl,⟨⟩⟩ (fun r0 => ?_) fun r0 => ?_
   ·refine qD rfl ⟨⟩ ?_;rintro n0 ⟨a0, f0⟩;refine lR0 rfl ⟨⟩ (q0a rfl (by conv => lhs; whnf) ?_);exact ⟨by rw [b2c (by omega) j0 (by omega)], a0.fin⟩
   refine qD rfl ⟨⟩ ?_;rintro n0 ⟨a0, f0⟩;refine lO a0.k [.o 0,.o 1,.o 1] rfl ⟨rfl,rfl,rfl,⟨⟩⟩ (g0a a0 c0b rfl rfl (b8a g.expr M _ _ _ _ c.mem c.mem (RdE.keep (a0.keep0 M) _ _ hE) (hK.keep (a0.keep0 M)) (b0.keep (a0.keep0 M)) (b0.keep (a0.keep0 M))) ?_);intro u0 e0 o0;refine lB0 rfl ⟨⟩ (fun d0 => ?_) fun d0 => ?_
   ·refine lR0 rfl ⟨⟩ (q0a rfl (by conv => lhs; whnf) ?_);exact ⟨by rw [D2b h6 j0 (by omega), H3b d0], e0.fin⟩
   refine lR0 rfl ⟨⟩ (q0a rfl (by conv => lhs; whnf) ?_);exact ⟨by rw [D2b h6 j0 (by omega), p0b d0], e0.fin⟩
  refine qD rfl ⟨⟩ ?_;rintro n0 ⟨a0, f0⟩;refine lO a0.k [.o 0,.o 1,.o 1] rfl ⟨rfl,rfl,rfl,⟨⟩⟩ (g0a a0 c0b rfl rfl (b8a g.expr M _ _ _ _ c.mem c.mem (RdE.keep (a0.keep0 M) _ _ hE) (hK.keep (a0.keep0 M)) (b0.keep (a0.keep0 M)) (b0.keep (a0.keep0 M))) ?_);intro u0 e0 o0;refine lB0 rfl ⟨⟩ (fun d0 => ?_) fun d0 => ?_
  ·refine lR0 rfl ⟨⟩ (q0a rfl (by conv => lhs; whnf) ?_);exact ⟨by rw [n2b h6 (by omega), H3b d0], e0.fin⟩
  refine lR0 rfl ⟨⟩ (q0a rfl (by conv => lhs; whnf) ?_);exact ⟨by rw [n2b h6 (by omega), p0b d0], e0.fin⟩
 refine qD rfl ⟨⟩ ?_;rintro n0 ⟨a0, f0⟩;refine lR0 rfl ⟨⟩ (q0a rfl (by conv => lhs; whnf) ?_);exact ⟨by rw [S5c h6], a0.fin⟩
theorem Q9b {w : World} {g t : Nat} {cs : List Value} (h : o0a w (g, t, cs)) : i1a w g 0 cs := fun j v hj => by
 rw [Nat.zero_add]; exact h.cell hj
theorem b4a.less {M M' : List Nat} {w : World} {cs : List Value} {g : J3a} (hM : ∀ x ∈ M', x ∈ M) (h : b4a M w cs g) : b4a M' w cs g := h.more fun x hx => .inl (hM x hx)
theorem q9a {p : f0a} {g : J3a} (h : X4a p g = true) : g.thread < p.threads.length := by
 rcases Int.lt_or_le g.thread p.threads.length with h1 | h1
 ·exact h1
 ·rw [N3b (.inr h1)] at h; cases h
theorem P7a {V : List u2a} (hV : G5a V) : ∀ (n i : Nat), i < n → D4a V n i = D4a V (i + 1) i
 | 0, i, h => absurd h (by omega)
 | n + 1, i, h => by
   show (match V[i]? with | some y => if 0 ≤ y.frm then y.ch :: D4a V n y.frm.toNat else [] | none => []) = (match V[i]? with | some y => if 0 ≤ y.frm then y.ch :: D4a V i y.frm.toNat else [] | none => [])
   rcases hy : V[i]? with _ | y
   ·rfl
   ·simp only
    split
    ·rename_i h0;rcases hV.one i y hy with ⟨_, h1⟩ | ⟨_, h1⟩
     ·omega
     ·rw [P7a hV n _ (by omega), P7a hV i _ (by omega)]
    ·rfl
termination_by n => n
theorem C6b {V : List u2a} (hV : G5a V) {i : Nat} {y : u2a} (hy : V[i]? = some y) (h0 : 0 ≤ y.frm) : D4a V (i + 1) i = y.ch :: D4a V (y.frm.toNat + 1) y.frm.toNat := by
 show (match V[i]? with | some y => if 0 ≤ y.frm then y.ch :: D4a V i y.frm.toNat else [] | none => []) = _
 rw [hy]; simp only; rw [if_pos h0];rcases hV.one i y hy with ⟨_, h1⟩ | ⟨_, h1⟩
 ·omega
 ·rw [P7a hV i _ (by omega)]
theorem q9b {V : List u2a} {i : Nat} {y : u2a} (hy : V[i]? = some y) (h0 : ¬ 0 ≤ y.frm) : D4a V (i + 1) i = [] := by
 show (match V[i]? with | some y => if 0 ≤ y.frm then y.ch :: D4a V i y.frm.toNat else [] | none => []) = _
 rw [hy]; simp only; rw [if_neg h0]
theorem D9a {w0 w1 w2 : World} (h : Below w0.heap.size w0 w1) (k : Below w1.heap.size w1 w2) : Below w0.heap.size w0 w2 := ((v0a.of (M := []) h).trans (v0a.of k)).nil
theorem U2c (c : r0a) (g : J3a) (gg : Nat) (M : List Nat) (w0 : World) (xs gs : List Value) (hX : t0a M w0 c xs) (hb : o0a w0 (gg, 55, gs)) (hG : b4a M w0 gs g) (hK : a3a M w0) (a0 : g.thread < c.at_.length) :
 M0a Tryz.prog 41 #[.agg xs.toArray, .pointer (some ⟨gg, 0, none⟩)] w0 fun v w' => v = .bool (E2a c g) ∧ Below w0.heap.size w0 w' := by
 obtain ⟨_, _, _, _, _, _, _, _, _, rfl, -⟩ := id hX.open_;obtain ⟨_, rfl, hE, _, g2⟩ := id hG;obtain ⟨_, _, _, rfl, _, _, _, -⟩ := id hE.open_;have b0 := Q9b hb;have S := St.refl w0;refine a0a Tryz.func41 rfl Tryz.ntmps41 rfl ?_;refine wO0 rfl ⟨⟩ (j0a S (by conv => lhs; whnf) rfl ?_);intro g2 w2 S2 X2 G2;refine lO S2.k [.w 0] rfl ⟨⟨rfl,by rfl⟩,⟨⟩⟩ (x1a k4b rfl (b0.keep (S2.keep0 []) (by simp)) (by rfl) rfl ?_);refine g0a S2 s3c rfl rfl (j6b c g M _ _ _ (hX.keep (S2.keep0 M)) (hG.keep (S2.keep0 M)) (hK.keep (S2.keep0 M)) a0) ?_;intro w6 S6 X6;exact lT rfl ⟨⟩ rfl ⟨rfl, S6.fin⟩
theorem F1c (p : f0a) (m : Int) (g : J3a) (gS gg : Nat) (M0 : List Nat) (wf : World) (cs gs : List Value) (hI : InP p (gS :: M0) wf cs) (hb : o0a wf (gg, 55, gs)) (hG : b4a (gS :: M0) wf gs g) (d0 : gg ≠ gS) (e0 : g.thread < p.threads.length) :
 Acc p m gS 41 [.pointer (some ⟨gg, 0, none⟩)] [] M0 wf (fun c => E2a c g) (fun _ Bs _ w => Bs = [] ∧ w0a [gS] wf w) where
 has := f8c
 start := ⟨rfl, w0a.refl _ _⟩
 own := by
  rintro k Bs Ts f0 w w' ⟨rfl, hk⟩ hT g0 b0;refine ⟨rfl, Nat.le_trans hk.size b0.size, fun i hi hn => ?_⟩;rw [b0.same i (Nat.lt_of_lt_of_le hi hk.size) (fun hh => by
   rcases (hT i hh).2 with rfl | h
   ·exact hn (by simp)
   ·omega)]
  exact hk.same i hi hn
 lt := by
  rintro k Bs Ts w ⟨rfl, hk⟩ x hx;cases hx
 call := by
  rintro k Bs Ts w V y ys ⟨rfl, hk⟩ hT hv hl hy hX hw h0;have hf : F3a p y.conf := Y3a hI.ok (j7a hv (List.mem_of_getElem? hy));have a0 : w0a (gS :: M0) wf w := hk.mono (by simp);refine (U2c y.conf g gg M0 w ys gs (hX.less (fun x hx => by simp [hx])) (q1a hk (by simpa using d0) hb) ((hG.keep a0).less (fun x hx => by simp [hx])) ⟨fun hh => (hI.keep a0).msk.1 (List.mem_cons_of_mem _ hh), (hI.keep a0).msk.2⟩ (by rw [hf.nat]; exact e0)).mono fun r w' hr => ?_;obtain ⟨rfl, hB⟩ := hr;exact ⟨rfl, [], ⟨rfl, hk.trans (w0a.of_below hB).of_nil⟩, v0a.of hB, fun x hx => (by cases hx)⟩
theorem b7a (p : f0a) (m : Int) (hm : m = 0 ∨ m = 1 ∨ m = 2) (n : Nat) (h1 : 1 ≤ n) (h2 : n ≤ 20000) (g : J3a) (M : List Nat) (w0 : World) (cs gs : List Value) (hI : InP p M w0 cs) (hG : b4a M w0 gs g) :
 M0a Tryz.prog 16 #[.agg cs.toArray, .int .i64 m, .agg gs.toArray, .int .i64 n] w0 fun r w' => (∃ v l y0, r = .tuple #[v, .int .i64 y0] ∧ w1c M w' v l ∧ Y4c p m (X4a p g) (fun c => E2a c g) n l y0) ∧ Below w0.heap.size w0 w' := by
 obtain ⟨_, _, _, _, _, _, _, _, _, _, _, _, rfl, _, _, _, _, _, _, _, _, _, _, _, _⟩ := hI.rd.open_;obtain ⟨_, rfl, hE, _, _⟩ := id hG;obtain ⟨_, _, _, rfl, _, _, _, -⟩ := id hE.open_;have S := St.refl w0;have v1 : M2a m n = true := by rcases hm with rfl | rfl | rfl <;> (simp [M2a]; omega)
 refine a0a Tryz.func16 rfl Tryz.ntmps16 rfl ?_;refine wO0 rfl ⟨⟩ (j0a S (by conv => lhs; whnf) rfl ?_);intro g4 w4 S4 X4 G4;refine j0a S4 (by conv => lhs; whnf) rfl ?_;intro g6 w6 S6 X6 G6;refine lO S6.k [.w 1] rfl ⟨⟨rfl,by rfl⟩,⟨⟩⟩ (g0a S6 j9b rfl rfl (v1 ▸ Q7a p m n M _ _ (hI.keep (S6.keep0 M))) ?_);intro P1 u0 G1;refine lO u0.k [.w 1,.w 0] rfl ⟨⟨rfl,by rfl⟩,⟨rfl,by rfl⟩,⟨⟩⟩ (y0a u0 g3c rfl rfl (h9b p g M _ _ _ (hI.keep (u0.keep0 M)) (hG.keep (u0.keep0 M))) (fun i0 A1 v0 m1 => ?_) (fun i0 A1 v0 m1 => ?_))
 ·refine lO v0.k [.w 1] rfl ⟨⟨rfl,by rfl⟩,⟨⟩⟩ (j1a W2c (vs := [(0, .agg _), (1, .int .i64 _)]) (cs := [_, _, _, _, _, _]) rfl rfl rfl rfl ?_);refine j0a v0 (by conv => lhs; whnf) rfl ?_;intro a0 q0 e0 H1 D1;refine lO0 rfl ⟨⟩ (F1a rfl rfl ?_);have T1 : w0.heap.size ≤ a0 ∧ a0 < q0.heap.size := ⟨by simpa using e0.new 0 rfl, e0.lt 0 rfl⟩;have t0 : InP p (a0 :: M) q0 _ := InP.grow (Bs0 := []) (M0 := M) hI (e0.keep0 []) (fun x hx => by
   simp only [List.nil_append, List.mem_cons] at hx ⊢;rcases hx with rfl | hx
   ·right; omega
   ·exact .inl hx) (fun x hx => by
   simp only [List.mem_cons] at hx;have := e0.size;rcases hx with rfl | hx
   ·omega
   ·have := hI.lt x hx; omega)
  have H0 : b4a (a0 :: M) q0 _ g := b4a.less (M := a0 :: M) (fun _ h => h) ((b4a.more (M' := a0 :: M) (fun x hx => by
   rcases List.mem_cons.1 hx with rfl | hx
   ·right; omega
   ·exact .inl hx) hG).keep (e0.keep0 _))
  have U0 : g6 ≠ a0 := u5a (e0.blk 1 rfl) (e0.blk 0 rfl) (by decide);have P0 := F1c p m g a0 g6 M q0 _ _ t0 (e0.blk 1 rfl) H0 U0 (q9a i0);have u1 := e0.below;refine s4a x3c rfl rfl rfl (X5b p m hm n a0 (by omega) _ _ _ _ 41 [.pointer (some ⟨g6, 0, none⟩)] [] M q0 (fun c => E2a c g) (fun _ Bs _ w1 => Bs = [] ∧ w0a [a0] q0 w1) t0 (e0.blk 0 rfl) (by simp) P0) ?_;rintro M1 r0 ⟨⟨i, y0, rfl, hF⟩, F0⟩;have z0 : Below w0.heap.size w0 r0 := (v0a.stepM (Ms := [a0]) u1 F0 (fun x hx => by rw [List.mem_singleton] at hx; omega)).nil;have a1 := (St.refl r0).nilEnt 44;refine lB0 rfl ⟨⟩ (fun d1 => ?_) fun d1 => ?_
  ·refine lR0 rfl ⟨⟩ (I2b rfl (by conv => lhs; whnf) (by conv => lhs; whnf) ?_);refine ⟨⟨_, [], _, rfl, z4a, ?_⟩, D9a z0 a1.fin⟩;rcases hF with ⟨he, _⟩ | ⟨he, V, q1, q2, q3⟩ | ⟨he, k, _, _, q1, q2, q3, _⟩
   ·exact absurd he d1
   ·exact .inr (.inr (.inl ⟨i0, he, rfl, V, q1, q2, q3⟩))
   ·exact .inr (.inr (.inr ⟨i0, he, rfl, k, q1, q2, q3⟩))
  obtain ⟨k, V, v, Bs, _, rfl, hv, g1, f1, i1, ⟨yk, j1, f0⟩, -, J0, K0, -⟩ := (hF.resolve_right (fun h => by rcases h with h | h <;> omega)).2;obtain rfl : y0 = 0 := by omega
  have b0 : RdS M r0 7 (y5a M r0) v V := RdS.lessW K0 (fun x hx => by simp [hx]) (fun _ _ => y5a.more (fun x hx => .inl (by simp [hx])));obtain ⟨_, _, _, rfl⟩ := b0.form;obtain ⟨_, -, _⟩ := b0.len;have A0 := hv.from
  have cS := J0.cell (o := 5) rfl;refine lC0 rfl ⟨⟩ (wL (fun μ D ε w => D = [] ∧ ∃ i : Int, ∃ l : List A0a, ∃ G : Option Nat, ∃ s0 : List Value, ∃ v2 : Value, (i + 1 ≤ μ) ∧ (0 ≤ i) ∧ (i ≤ k) ∧ (l ++ D4a V (i.toNat + 1) i.toNat = D4a V (k + 1) k) ∧ (l.length + i ≤ k) ∧ (P1a (fun _ _ => S1a) 3 [] r0 G s0 v2 l) ∧ (G = none → s0 = []) ∧ St [] r0 w [(G, 44, s0)] ∧ Sl ε [(10, .pointer (some ⟨a0, 0, none⟩)), (11, .int .i64 i), (13, v2)]) (μ := k + 1) ⟨rfl, (k : Int), [], none, [], .slice none 0 0, by omega, by omega, by omega, by simp, by simp, P1a.nil, fun _ => rfl, a1, rfl⟩ ?_);rintro μ D ε w ⟨rfl, i, l, G, s0, v2, _, _, _, g0, _, n0, h0, S, eZ⟩;refine wK eZ (wO0 rfl ⟨⟩ ?_);refine s0a c7a rfl (by exact S.old cS) rfl ?_;obtain ⟨y, n1, x1, _, p0, C0, _, _, R0, V0⟩ := RdS.get (b0) (i.toNat) (by omega);obtain ⟨_, rfl, L0, _, _⟩ := V0;obtain ⟨_, _, _, _, _, _, _, _, _, rfl, -⟩ := L0.open_;refine lB (S.k.a R0) [.x n1 x1,.f 0 3] rfl ⟨rfl,⟨C0,by omega⟩,⟨⟩⟩ (fun s1 => ?_) fun s1 => ?_
  ·refine lOn 8 S.k [] rfl ⟨⟩ (m1a (by conv => lhs; whnf) rfl ?_);refine lO0 rfl ⟨⟩ (s0a c7a rfl (by exact S.old cS) rfl ?_);obtain ⟨_, p1, z1, _, Z0, E0, _, _, T0, X0⟩ := RdS.get (b0) (i.toNat) (by omega);obtain rfl := Option.some.inj (p0.symm.trans Z0);obtain ⟨_, rfl, O0, _, I0⟩ := X0;obtain ⟨_, _, _, _, _, _, _, _, _, rfl, -⟩ := O0.open_;refine lO S.k [.x p1 z1] rfl ⟨⟨E0,by omega⟩,⟨⟩⟩ (x1a D5a rfl ((i1a.sub T0 4 3).keep (S.keep0 []) List.not_mem_nil) rfl rfl ?_);refine E0a S r3a (vs := [.agg _]) (cs := [_, _, _]) (by rfl) rfl rfl rfl rfl rfl rfl ?_;intro K1 Q1 b1 I1 E1;refine C1a T1a (k := 1) (M2 := []) (e1 := y.ch) b1 r3a (by decide) rfl n0 rfl rfl (b1.cells 0 rfl) I0 (by omega) rfl ?_;intro N1 F1 r1 R1 B0 d0 J1 C1;refine T0a (by conv => lhs; whnf) rfl ?_;refine lO0 rfl ⟨⟩ (s0a c7a rfl (by exact B0.old cS) rfl ?_);obtain ⟨_, o1, y1, _, Y0, D0, _, _, S0, W0⟩ := RdS.get (b0) (i.toNat) (by omega);obtain rfl := Option.some.inj (p0.symm.trans Y0);obtain ⟨_, rfl, N0, _, _⟩ := W0;obtain ⟨_, _, _, _, _, _, _, _, _, rfl, -⟩ := N0.open_;refine lP (B0.k.a S0) [.x o1 y1,.f 0 3] rfl ⟨rfl,⟨D0,by omega⟩,⟨⟩⟩ ?_;refine ⟨μ - 1, by omega, rfl, (y.frm), (l ++ [y.ch]), (_), (_), (_), (by have := A0.one i.toNat y p0; omega), (by omega), (by have := A0.one i.toNat y p0; omega), (by rw [← g0, C6b A0 p0 (by omega)]; simp), (by have := A0.one i.toNat y p0; simp; omega), (d0), (fun h => by subst h; exact absurd (e1b d0) (by simp)), B0.tail, rfl⟩
  have j0 : l = D4a V (k + 1) k := by rw [← g0, q9b p0 (by omega)]; simp
  obtain ⟨_, _, rfl⟩ := n0.form;refine lOn 8 S.k [] rfl ⟨⟩ (m1a (v := .slice _ _ _) rfl rfl ?_);refine lB0 rfl ⟨⟩ (fun t1 => ?_) fun t1 => ?_
  ·refine lR0 rfl ⟨⟩ (I2b rfl (by conv => lhs; whnf) (by conv => lhs; whnf) ?_);exact ⟨⟨_, [], _, rfl, z4a, .inr (.inl ⟨k, V, hv, g1, f1, i1, ⟨yk, j1, f0⟩, i0, .inl ⟨by rw [← j0]; omega, rfl, rfl⟩⟩)⟩, D9a z0 S.fin⟩
  refine lOn 7 S.k [] rfl ⟨⟩ (m1a (v := .slice _ _ _) rfl rfl ?_);refine e2a g7c rfl rfl (m7b _ G s0 _ l n0 h0 (fun x hx => S.blk 0 (by rw [hx]; rfl)) (by omega)) ?_;rintro O1 B1 ⟨_, o0, Q0, G0⟩;have x0 := S.callRow (k := 0) (G' := G) rfl G0 Q0 (fun x hx => .inl hx);refine lOn 4 x0.k [] rfl ⟨⟩ (m1a (v := .slice _ _ _) rfl rfl ?_);refine T0a (v := .slice _ _ _) rfl rfl ?_;refine lR0 rfl ⟨⟩ (I2b rfl (by conv => lhs; whnf) (by conv => lhs; whnf) ?_);refine ⟨⟨_, l.reverse, _, rfl, ?_, .inr (.inl ⟨k, V, hv, g1, f1, i1, ⟨yk, j1, f0⟩, i0, .inr ⟨by rw [← j0]; omega, rfl, by rw [j0]⟩⟩)⟩, D9a z0 x0.fin⟩;refine P1a.rd (M := M) (w := B1) T1a o0 x0 (k := 0) rfl (fun x hx hh => ?_) (by simp; omega);have h3 := (x0.own _ (List.mem_cons_self) x (by rw [hx])).1;have h4 := hI.lt x hh;have h5 := z0.size;rcases h3 with h3 | h3
  ·omega
  ·cases h3
 refine lR0 rfl ⟨⟩ (I2b rfl (by conv => lhs; whnf) (by conv => lhs; whnf) ?_);exact ⟨⟨_, [], _, rfl, z4a, .inl ⟨i0, rfl, rfl⟩⟩, v0.fin⟩
theorem L3b (p : f0a) (c : r0a) (g : J3a) (M : List Nat) (w0 : World) (cs xs gs : List Value) (hI : InP p M w0 cs) (hX : t0a M w0 c xs) (hf : F3a p c) (hG : b4a M w0 gs g) :
 M0a Tryz.prog 21 #[.agg cs.toArray, .agg xs.toArray, .agg gs.toArray] w0 fun v w' => v = .bool (X4a p g && E2a c g) ∧ Below w0.heap.size w0 w' := by
 obtain ⟨_, _, _, _, _, _, _, _, _, _, _, _, rfl, _, _, _, _, _, _, _, _, _, _, _, _⟩ := hI.rd.open_;obtain ⟨_, _, _, _, _, _, _, _, _, rfl, _, _, _, _, _, _, _, _, _⟩ := id hX.open_;obtain ⟨_, rfl, hE, _, _⟩ := id hG;obtain ⟨_, _, _, rfl, _, _, _, -⟩ := id hE.open_;have S := St.refl w0;have f1 := hf.mem.len;have f2 := hf.nat;have f3 := hf.nbuf;refine a0a Tryz.func21 rfl Tryz.ntmps21 rfl ?_;refine wO0 rfl ⟨⟩ (j0a S (by conv => lhs; whnf) rfl ?_);intro g3 w3 S3 X3 G3;refine j0a S3 (by conv => lhs; whnf) rfl ?_;intro g4 w4 S4 X4 G4;refine j0a S4 (by conv => lhs; whnf) rfl ?_;intro g5 w5 S5 X5 G5;refine lO S5.k [.w 2] rfl ⟨⟨rfl,by rfl⟩,⟨⟩⟩ (g0a S5 t6b rfl rfl (o7a p M _ _ (hI.keep (S5.keep0 M))) ?_);intro w8 S8 X8;refine lO S8.k [.w 2,.w 0] rfl ⟨⟨rfl,by rfl⟩,⟨rfl,by rfl⟩,⟨⟩⟩ (y0a S8 g3c rfl rfl (h9b p g M _ _ _ (hI.keep (S8.keep0 M)) (hG.keep (S8.keep0 M))) (fun b0 i0 a0 e0 => ?_) (fun b0 i0 a0 e0 => ?_))
 ·refine lB a0.k [.o 1,.o 2] rfl ⟨rfl,rfl,⟨⟩⟩ (fun f0 => by exfalso; omega) fun f0 => ?_;refine lB a0.k [.o 1,.o 2] rfl ⟨rfl,rfl,⟨⟩⟩ (fun g0 => by exfalso; omega) fun g0 => ?_;refine lB a0.k [.o 1,.o 2] rfl ⟨rfl,rfl,⟨⟩⟩ (fun h0 => by exfalso; omega) fun h0 => ?_;refine lO a0.k [.w 1,.w 0] rfl ⟨⟨rfl,by rfl⟩,⟨rfl,by rfl⟩,⟨⟩⟩ ?_;refine g0a a0 s3c rfl rfl (j6b c g M _ _ _ (hX.keep (a0.keep0 M)) (hG.keep (a0.keep0 M)) (hI.keep (a0.keep0 M)).msk (by rw [f2]; exact q9a b0)) ?_;intro n0 d0 j0;refine lR0 rfl ⟨⟩ (q0a rfl (by conv => lhs; whnf) ?_);exact ⟨by rw [b0]; rfl, d0.fin⟩
 refine lR0 rfl ⟨⟩ (q0a rfl (by conv => lhs; whnf) ?_);exact ⟨by rw [b0]; rfl, a0.fin⟩
def z0b (s : ByteArray) : Bool := decide (1 ≤ s.size) && decide (s.size ≤ 64) && s.data.toList.all fun b => decide (33 ≤ b.toNat) && decide (b.toNat ≤ 126)
theorem U6a {s : ByteArray} (h : z0b s = true) : E6a s := by
 simp only [z0b, Bool.and_eq_true, decide_eq_true_eq, List.all_eq_true] at h;refine ⟨h.1.1, h.1.2, fun i hi => ?_⟩;exact h.2 s[i] (by rw [ByteArray.getElem_eq_getElem_data]; simp)
def inB (i : Int) (n : Nat) : Bool := decide (0 ≤ i) && decide (i < n)
theorem o8a {i : Int} {n : Nat} (h : inB i n = true) : t2a i n := by simpa [inB, t2a] using h
def J2b (cells : List d2a) (e : E) (sh : Bool) (t : Int) : Bool := (e.sup 3 ++ e.sup 2).all fun x => (decide (y1a cells x ≠ -1) || sh) && (decide (y1a cells x < 0) || decide (y1a cells x = t))
theorem W6a {cells : List d2a} {e : E} {sh : Bool} {t : Int} (h : J2b cells e sh t = true) : J4a cells e sh t := fun x hx => by
 have := List.all_eq_true.1 h x hx;simp only [Bool.and_eq_true, Bool.or_eq_true, decide_eq_true_eq] at this;exact ⟨fun e => this.1.resolve_left (fun h => h e), fun e => this.2.resolve_left (by omega)⟩
def i0b (cells : List d2a) (e : E) (pair : Bool) (t : Int) : Bool := e.valid cells pair && decide (e.w = 1) && J2b cells e true t
theorem k7a {cells : List d2a} {e : E} {a0 : Bool} {t : Int} (h : i0b cells e a0 t = true) : q7a cells e a0 t := by
 simp only [i0b, Bool.and_eq_true, decide_eq_true_eq] at h;exact ⟨h.1.1, h.1.2, W6a h.2⟩
def N9a : List Int → Bool
 | [] => true
 | x :: l => (l.all fun y => decide (x < y)) && N9a l
theorem W7a : ∀ {l : List Int}, N9a l = true → A5a l
 | [], _ => List.Pairwise.nil
 | x :: l, h => by
   simp only [N9a, Bool.and_eq_true, List.all_eq_true, decide_eq_true_eq] at h;exact List.Pairwise.cons h.1 (W7a h.2)
def pwB {α : Type} (r : α → α → Bool) : List α → Bool
 | [] => true
 | x :: l => l.all (r x) && pwB r l
theorem w0b {α : Type} {r : α → α → Bool} {R : α → α → Prop} (hr : ∀ a b, r a b = true → R a b) : ∀ {l : List α}, pwB r l = true → l.Pairwise R
 | [], _ => List.Pairwise.nil
 | x :: l, h => by
   simp only [pwB, Bool.and_eq_true, List.all_eq_true] at h;exact List.Pairwise.cons (fun y hy => hr _ _ (h.1 y hy)) (w0b hr h.2)
def Z3b (e : E) : Bool := decide (e.op = 0) && decide (e.w = 0) && decide (e.n = 0) && e.kids.isEmpty
theorem W6b {e : E} (h : Z3b e = true) : e.absent := by
 simp only [Z3b, Bool.and_eq_true, decide_eq_true_eq, List.isEmpty_iff] at h;exact ⟨h.1.1.1, h.1.1.2, h.1.2, h.2⟩
def B9c (e : E) : Bool := decide (e.op = 1) && decide (e.w = 1) && decide (e.n = 1) && e.kids.isEmpty
theorem C4c {e : E} (h : B9c e = true) : e = ⟨1, 1, 1, []⟩ := by
 simp only [B9c, Bool.and_eq_true, decide_eq_true_eq, List.isEmpty_iff] at h;cases e; simp_all
def ifB (c : Prop) [Decidable c] (b : Bool) : Bool := !decide c || b
theorem h7a {c : Prop} [Decidable c] {b : Bool} (h : ifB c b = true) (hc : c) : b = true := by simpa [ifB, hc] using h
def K5c (p : f0a) (t : Int) (s : t1a) : Bool :=
 J2b p.cells s.guard (decide (s.kind = 4)) t &&
 ((List.range s.set.length).all fun i => match s.set[i]? with | some a => ifB (0 < i ∨ s.kind ≠ 2) (J2b p.cells a.to (decide (s.kind = 4)) t) | none => true) &&
 (s.set.all fun a => decide (y1a p.cells a.cell = t ∨ y1a p.cells a.cell = -1)) &&
 ifB (s.kind = 1) (s.set.all fun a => decide (y1a p.cells a.cell = t)) &&
 ifB (s.kind = 2) (match s.set with | [] => false | a :: l => decide (y1a p.cells a.cell = t ∧ n0b p.cells a.cell = false ∧ a.to.op = 2 ∧ y1a p.cells a.to.n = -1 ∧ n0b p.cells a.to.n = false) && l.all fun b => decide (y1a p.cells b.cell = t ∧ n0b p.cells b.cell = true)) &&
 ifB (s.kind = 3) (match s.set with | [] => false | a :: l => decide (y1a p.cells a.cell = -1 ∧ n0b p.cells a.cell = false) && l.all fun b => decide (n0b p.cells b.cell = true)) &&
 ifB (5 ≤ s.kind) (s.set.isEmpty && B9c s.guard) &&
 ifB (6 ≤ s.kind) (inB s.target p.threads.length && decide (s.target ≠ t)) &&
 ifB (s.kind = 6) (match p.threads[s.target.toNat]? with | some u => u.asleep | none => true)
theorem y1c {p : f0a} {t : Int} {s : t1a} (h : K5c p t s = true) : b3b p t s := by
 simp only [K5c, Bool.and_eq_true] at h;obtain ⟨⟨⟨⟨⟨⟨⟨⟨a1, a2⟩, a3⟩, a4⟩, a5⟩, a6⟩, a7⟩, a8⟩, a9⟩ := h;refine ⟨W6a a1, fun i hi hc => ?_, fun a ha => of_decide_eq_true (List.all_eq_true.1 a3 a ha), fun hk a ha => of_decide_eq_true (List.all_eq_true.1 (h7a a4 hk) a ha), fun hk => ?_, fun hk => ?_, fun hk => ?_, fun hk => ?_, fun hk u hu => ?_⟩
 ·have := List.all_eq_true.1 a2 i (List.mem_range.2 hi);rw [List.getElem?_eq_getElem hi] at this;exact W6a (h7a this hc)
 ·have := h7a a5 hk
  split at this
  ·cases this
  ·rename_i a l hs;rw [Bool.and_eq_true] at this;obtain ⟨b1, b2, b3, b4, b5⟩ := of_decide_eq_true this.1;exact ⟨a, l, hs, b1, b2, b3, b4, b5, fun b hb => of_decide_eq_true (List.all_eq_true.1 this.2 b hb)⟩
 ·have := h7a a6 hk
  split at this
  ·cases this
  ·rename_i a l hs;rw [Bool.and_eq_true] at this;obtain ⟨b1, b2⟩ := of_decide_eq_true this.1;exact ⟨a, l, hs, b1, b2, fun b hb => of_decide_eq_true (List.all_eq_true.1 this.2 b hb)⟩
 ·have := h7a a7 hk;rw [Bool.and_eq_true, List.isEmpty_iff] at this;exact ⟨this.1, C4c this.2⟩
 ·have := h7a a8 hk;rw [Bool.and_eq_true] at this;exact ⟨o8a this.1, of_decide_eq_true this.2⟩
 ·have := h7a a9 hk;rw [hu] at this; exact this
def stepB (p : f0a) (t : Int) (points : Int) (s : t1a) : Bool :=
 decide (1 ≤ s.kind ∧ s.kind ≤ 7) && decide (0 ≤ s.frm ∧ s.frm < points - 1) && decide (0 ≤ s.to ∧ s.to < points) && inB s.module_ p.modules.length && ifB (s.release = true) (decide (s.kind = 3)) &&
 ifB (s.target ≠ 0) (decide (s.kind = 6 ∨ s.kind = 7)) && (s.guard.valid p.cells false && decide (s.guard.w = 1)) &&
 (s.set.all fun a => inB a.cell p.cells.length && a.to.valid p.cells false && decide (a.to.w = wAt p.cells a.cell)) && pwB (fun a b => decide (a.cell ≠ b.cell)) s.set && K5c p t s
theorem y2c {p : f0a} {t points : Int} {s : t1a} (h : stepB p t points s = true) : X6a p t points s := by
 simp only [stepB, Bool.and_eq_true] at h;obtain ⟨⟨⟨⟨⟨⟨⟨⟨⟨a1, a2⟩, a3⟩, a4⟩, a5⟩, a6⟩, a7, b0⟩, a8⟩, a9⟩, a0⟩ := h;refine ⟨of_decide_eq_true a1, of_decide_eq_true a2, of_decide_eq_true a3, o8a a4, fun hr => of_decide_eq_true (h7a a5 hr), fun hr => of_decide_eq_true (h7a a6 hr), ⟨a7, of_decide_eq_true b0⟩, fun a ha => ?_, w0b (fun a b h => of_decide_eq_true h) a9, y1c a0⟩;have := List.all_eq_true.1 a8 a ha;simp only [Bool.and_eq_true] at this;exact ⟨o8a this.1.1, this.1.2, of_decide_eq_true this.2⟩
def w4c (p : f0a) (t points : Int) (l : n4b) : Bool := decide (0 ≤ l.head ∧ l.head < points) && N9a l.body && (l.body.all fun x => decide (0 ≤ x ∧ x < points ∧ x ≠ l.head)) && (l.variant.valid p.cells false && J2b p.cells l.variant true t)
theorem M0c {p : f0a} {t points : Int} {l : n4b} (h : w4c p t points l = true) : w0c p t points l := by
 simp only [w4c, Bool.and_eq_true] at h;obtain ⟨⟨⟨a1, a2⟩, a3⟩, a4, a5⟩ := h;exact ⟨of_decide_eq_true a1, W7a a2, fun x hx => of_decide_eq_true (List.all_eq_true.1 a3 x hx), a4, W6a a5⟩
def t4b (p : f0a) (t : Nat) (x : Q0a) : Bool :=
 z0b x.name && decide (1 ≤ x.points ∧ x.points ≤ 48) && decide (x.steps.length ≤ 64) && decide (x.loops.length ≤ 8) && decide ((x.asserts.length : Int) = x.points) && decide ((x.modules.length : Int) = x.points) &&
 (x.modules.all fun m => inB m p.modules.length) && (x.asserts.all fun e => i0b p.cells e false t) && (x.steps.all fun s => stepB p t x.points s) && (x.loops.all fun l => w4c p t x.points l)
theorem y7b {p : f0a} {t : Nat} {x : Q0a} (h : t4b p t x = true) : Y5a p t x := by
 simp only [t4b, Bool.and_eq_true] at h;obtain ⟨⟨⟨⟨⟨⟨⟨⟨⟨a1, a2⟩, a3⟩, a4⟩, a5⟩, a6⟩, a7⟩, a8⟩, a9⟩, a0⟩ := h;exact ⟨U6a a1, of_decide_eq_true a2, of_decide_eq_true a3, of_decide_eq_true a4, of_decide_eq_true a5, of_decide_eq_true a6, fun m hm => o8a (List.all_eq_true.1 a7 m hm), fun m hm => k7a (List.all_eq_true.1 a8 m hm),
  fun m hm => y2c (List.all_eq_true.1 a9 m hm), fun m hm => M0c (List.all_eq_true.1 a0 m hm)⟩
def k4c (p : f0a) (c : d2a) : Bool := z0b c.name && decide (1 ≤ c.w ∧ c.w ≤ 8) && decide (0 ≤ c.init ∧ c.init < N4a c.w.toNat) && decide (-1 ≤ c.thread ∧ c.thread < p.threads.length) && inB c.module_ p.modules.length
theorem w2c {p : f0a} {c : d2a} (h : k4c p c = true) : n6b p c := by
 simp only [k4c, Bool.and_eq_true] at h;obtain ⟨⟨⟨⟨a1, a2⟩, a3⟩, a4⟩, a5⟩ := h;exact ⟨U6a a1, of_decide_eq_true a2, of_decide_eq_true a3, of_decide_eq_true a4, o8a a5⟩
def c9c (p : f0a) (m : f4a) : Bool := z0b m.name && z0b m.owner && (Z3b m.rely || i0b p.cells m.rely true (-1)) && i0b p.cells m.guar true (-1) && (m.frame.all fun x => inB x p.cells.length && decide (y1a p.cells x = -1)) && N9a m.frame
theorem Y5c {p : f0a} {m : f4a} (h : c9c p m = true) : o1c p m := by
 simp only [c9c, Bool.and_eq_true, Bool.or_eq_true] at h;obtain ⟨⟨⟨⟨⟨a1, a2⟩, a3⟩, a4⟩, a5⟩, a6⟩ := h;refine ⟨U6a a1, U6a a2, a3.imp W6b k7a, k7a a4, fun x hx => ?_, W7a a6⟩;have := List.all_eq_true.1 a5 x hx;rw [Bool.and_eq_true] at this;exact ⟨o8a this.1, of_decide_eq_true this.2⟩
def O5c (p : f0a) (l : h4b) : Bool := inB l.cell p.cells.length && decide (y1a p.cells l.cell = -1 ∧ wAt p.cells l.cell = 1 ∧ n0b p.cells l.cell = false) && inB l.module_ p.modules.length && i0b p.cells l.inv false (-1)
theorem J0c {p : f0a} {l : h4b} (h : O5c p l = true) : U5b p l := by
 simp only [O5c, Bool.and_eq_true] at h;obtain ⟨⟨⟨a1, a2⟩, a3⟩, a4⟩ := h;exact ⟨⟨o8a a1, of_decide_eq_true a2⟩, o8a a3, k7a a4⟩
def k7c (p : f0a) : Bool :=
 decide (p.cells.length ≤ 32) && decide (p.modules.length ≤ 6) && decide (p.locks.length ≤ 4) && decide (p.threads.length ≤ 4) &&
 p.cells.all (k4c p) && pwB (fun a b => decide (a.name ≠ b.name)) p.cells && p.modules.all (c9c p) && pwB (fun a b => decide (a.name ≠ b.name)) p.modules && p.locks.all (O5c p) && pwB (fun a b => decide (a.cell ≠ b.cell)) p.locks &&
 ((List.range p.threads.length).all fun t => match p.threads[t]? with | some x => t4b p t x | none => true) && pwB (fun a b => decide (a.name ≠ b.name)) p.threads
theorem U0c {p : f0a} (h : k7c p = true) : a1a p := by
 simp only [k7c, Bool.and_eq_true] at h;obtain ⟨⟨⟨⟨⟨⟨⟨⟨⟨⟨⟨a1, a2⟩, a3⟩, a4⟩, a5⟩, a6⟩, a7⟩, a8⟩, a9⟩, a0⟩, b0⟩, d0⟩ := h;refine ⟨of_decide_eq_true a1, of_decide_eq_true a2, of_decide_eq_true a3, of_decide_eq_true a4, fun c hc => w2c (List.all_eq_true.1 a5 c hc), w0b (fun _ _ h => of_decide_eq_true h) a6, fun c hc => Y5c (List.all_eq_true.1 a7 c hc),
  w0b (fun _ _ h => of_decide_eq_true h) a8, fun c hc => J0c (List.all_eq_true.1 a9 c hc), w0b (fun _ _ h => of_decide_eq_true h) a0, fun t ht => ?_, w0b (fun _ _ h => of_decide_eq_true h) d0⟩
 have := List.all_eq_true.1 b0 t (List.mem_range.2 ht);rw [List.getElem?_eq_getElem ht] at this;exact y7b this
theorem j2c (n wd : Int) (hn : i64 n) (hw : i64 wd) (M : List Nat) (w0 : World) :
 M0a Tryz.prog 20 #[.int .i64 n, .int .i64 wd] w0 fun v w' => (∃ cs : List Value, v = .agg cs.toArray ∧ RdE M w' ⟨1, wd, n, []⟩ cs) ∧ Below w0.heap.size w0 w' := by
 have S := St.refl w0;refine a0a Tryz.func20 rfl Tryz.ntmps20 rfl ?_;refine wO0 rfl ⟨⟩ (n0a S S6a rfl rfl ?_);intro g4 w4 S4 X4 G4;refine lO0 rfl ⟨⟩ (j1a K3b (vs := [(0, .int .i64 _), (1, .int .i64 _), (2, .int .i64 _)]) (cs := [_, _, _, _]) rfl rfl rfl rfl ?_)
 first | refine e0a (kk := 0) (vs := [_, _, _, _]) S4 T5a rfl rfl rfl rfl rfl rfl rfl ?_
 intro d0 a0 b0;dsimp only [k0a, List.set] at a0;refine lR0 rfl ⟨⟩ ?_;exact r1a rfl w1a rfl (a0.cells 0 rfl) rfl ⟨⟨_, rfl, d3a (by unfold i64; omega) hw hn⟩, a0.fin⟩
def f9c (a b : E) : E := ⟨5, 1, 0, [a, b]⟩
theorem j5c {M : List Nat} {w : World} {op wd : Int} {a : E} {ca : List Value} {g : Nat} (h1 : i64 op) (h2 : i64 wd) (hg : g ∉ M) (hc : i1a w g 0 ca) (ha : RdE M w a ca) :
 RdE M w ⟨op, wd, 0, [a]⟩ [.int .i64 op, .int .i64 wd, .int .i64 0, .slice (some ⟨g, 0, none⟩) 1 1] := by
 rw [RdE];refine ⟨_, 1, 1, rfl, h1, h2, by unfold i64; simp, rfl, Nat.le_refl _, by unfold maxLen; omega, by omega, fun _ => ⟨g, 0, rfl, hg, fun i hi => ?_⟩⟩;have a0 : i < 1 := hi;obtain rfl : i = 0 := by omega
 exact ⟨ca, by simpa using hc, ha⟩
theorem J4c {M M' : List Nat} {w w' : World} {op wd n : Int} {cs : List Value} (h : RdE M w ⟨op, wd, n, []⟩ cs) : RdE M' w' ⟨op, wd, n, []⟩ cs := by
 rw [RdE] at h ⊢;obtain ⟨A, k, c, h1, h2, h3, h4, h5, h6, h7, h8, _⟩ := h;exact ⟨A, k, c, h1, h2, h3, h4, h5, h6, h7, h8, fun hk => absurd hk (by simp at h5; omega)⟩
def RdL (M : List Nat) (w : World) (v : Value) (l : List E) : Prop := RdE M w ⟨0, 0, 0, l⟩ [.int .i64 0, .int .i64 0, .int .i64 0, v]
theorem RdL.open_ {M : List Nat} {w : World} {v : Value} {l : List E} (h : RdL M w v l) : ∃ A n c, v = .slice A n c ∧ n = l.length ∧ n ≤ c ∧ c ≤ maxLen ∧ n ≤ 140737488355328 ∧
 (0 < n → ∃ b o, A = some ⟨b, o, none⟩ ∧ b ∉ M ∧ ∀ (i : Nat) (h : i < l.length), ∃ a0, i1a w b (o + i * 4) a0 ∧ RdE M w l[i] a0) := by
 obtain ⟨A, n, c, h1, -, -, -, h2, h3, h4, h5, h6⟩ := RdE.open_ h;cases h1;exact ⟨A, n, c, rfl, h2, h3, h4, h5, h6⟩
theorem RdL.at {M : List Nat} {w : World} {A : Option Addr} {n c : Nat} {l : List E} (h : RdL M w (.slice A n c) l) : n = l.length ∧ n ≤ c ∧ c ≤ maxLen ∧ n ≤ 140737488355328 ∧
 (0 < n → ∃ b o, A = some ⟨b, o, none⟩ ∧ b ∉ M ∧ ∀ (i : Nat) (h : i < l.length), ∃ a0, i1a w b (o + i * 4) a0 ∧ RdE M w l[i] a0) := by
 obtain ⟨A, n, c, h1, h2⟩ := h.open_;cases h1; exact h2
theorem RdL.made {M : List Nat} {w : World} {A : Option Addr} {n c : Nat} {l : List E} (h2 : n = l.length) (h3 : n ≤ c) (h4 : c ≤ maxLen) (h5 : n ≤ 140737488355328)
 (h6 : 0 < n → ∃ b o, A = some ⟨b, o, none⟩ ∧ b ∉ M ∧ ∀ (i : Nat) (h : i < l.length), ∃ a0, i1a w b (o + i * 4) a0 ∧ RdE M w l[i] a0) : RdL M w (.slice A n c) l := by
 unfold RdL; rw [RdE];exact ⟨A, n, c, rfl, by unfold i64; simp, by unfold i64; simp, by unfold i64; simp, h2, h3, h4, h5, h6⟩
theorem RdL.keep {M : List Nat} {w w' : World} {v : Value} {l : List E} (h : RdL M w v l) (hk : w0a M w w') : RdL M w' v l := RdE.keep hk _ _ h
theorem RdL.more {M M' : List Nat} {w : World} {v : Value} {l : List E} (h : RdL M w v l) (hM : ∀ g ∈ M', g ∈ M ∨ w.heap.size ≤ g) : RdL M' w v l := RdE.more hM _ _ h
def r6a : List E → E
 | [] => ⟨1, 1, 1, []⟩
 | e :: es => es.foldl f9c e
theorem o9a (l : List E) (k : Nat) (hk : k < l.length) : r6a (l.take (k + 1)) = if k = 0 then l[k] else f9c (r6a (l.take k)) l[k] := by
 cases l with
 | nil => simp at hk
 | cons e es =>
   cases k with
   | zero => simp [r6a]
   | succ k =>
     have a0 : k < es.length := by simpa using hk
     simp only [List.take_succ_cons, r6a, List.getElem_cons_succ];rw [if_neg (by omega), List.take_add_one, List.getElem?_eq_getElem a0, Option.toList_some, List.foldl_append];rfl
theorem K7a (a b : List E) : E.cnts (a ++ b) = E.cnts a + E.cnts b := by
 induction a with
 | nil => simp [E.cnts]
 | cons x xs ih => simp only [List.cons_append, E.cnts, ih]; omega
theorem z1b (l : List E) (k : Nat) (hk : k < l.length) : E.cnts (l.take (k + 1)) = E.cnts (l.take k) + l[k].cnt ∧ E.cnts (l.take (k + 1)) ≤ E.cnts l := by
 have h1 : E.cnts (l.take (k + 1)) = E.cnts (l.take k) + l[k].cnt := by
  rw [List.take_add_one, List.getElem?_eq_getElem hk, Option.toList_some, K7a]; simp [E.cnts]
 have h2 := K7a (l.take (k + 1)) (l.drop (k + 1));rw [List.take_append_drop] at h2;exact ⟨h1, by omega⟩
theorem q6b (n wd : Int) (w0 : World) : M0a Tryz.prog 45 #[.int .i64 n, .int .i64 wd] w0 fun v w' => v = .agg #[.int .i64 2, .int .i64 wd, .int .i64 n, .slice none 0 0] ∧ Below w0.heap.size w0 w' := by
 have S := St.refl w0;refine a0a Tryz.func45 rfl Tryz.ntmps45 rfl ?_;refine wO0 rfl ⟨⟩ (n0a S S6a rfl rfl ?_);intro g4 w4 S4 X4 G4;refine lO0 rfl ⟨⟩ (j1a K3b (vs := [(0, .int .i64 _), (1, .int .i64 _), (2, .int .i64 _)]) (cs := [_, _, _, _]) rfl rfl rfl rfl ?_)
 first | refine e0a (kk := 0) (vs := [_, _, _, _]) S4 T5a rfl rfl rfl rfl rfl rfl rfl ?_
 intro d0 a0 b0;dsimp only [k0a, List.set] at a0;exact lR0 rfl ⟨⟩ (r1a rfl w1a rfl (a0.cells 0 rfl) rfl ⟨rfl, a0.fin⟩)
theorem Z7c (op wd : Int) (ho : i64 op) (hw : i64 wd) (a b : E) (ca cb : List Value) (M : List Nat) (w0 : World) (hM : ∀ g ∈ M, g < w0.heap.size) (ha : RdE M w0 a ca) (hb : RdE M w0 b cb) :
 M0a Tryz.prog 95 #[.int .i64 op, .int .i64 wd, .agg ca.toArray, .agg cb.toArray] w0 fun v w' => (∃ cs : List Value, v = .agg cs.toArray ∧ RdE M w' ⟨op, wd, 0, [a, b]⟩ cs) ∧ Below w0.heap.size w0 w' := by
 have S := St.refl w0;obtain ⟨_, _, _, rfl, -⟩ := ha.open_;obtain ⟨_, _, _, rfl, -⟩ := hb.open_;refine a0a Tryz.func95 rfl Tryz.ntmps95 rfl ?_;refine wO0 rfl ⟨⟩ (j0a S (by conv => lhs; whnf) rfl ?_);intro g6 w6 S6 X6 G6;refine j0a S6 (by conv => lhs; whnf) rfl ?_;intro g7 w7 S7 X7 G7;refine n0a S7 S6a rfl rfl ?_;intro g8 w8 S8 X8 G8;refine lO S8.k [.w 2,.w 1] rfl ⟨⟨rfl,by rfl⟩,⟨rfl,by rfl⟩,⟨⟩⟩ (E0a S8 b1a (vs := [.agg _, .agg _]) (cs := [_, _, _, _, _, _, _, _]) (by rfl) rfl rfl rfl rfl rfl rfl ?_);intro h0 i0 b0 g0 f0;refine j1a K3b (vs := [(0, .int .i64 _), (1, .int .i64 _), (3, .slice _ _ _)]) (cs := [_, _, _, _]) rfl rfl rfl rfl ?_;refine e0a (kk := 1) (vs := [_, _, _, _]) b0 T5a rfl rfl rfl rfl rfl rfl rfl ?_;intro e0 a0 d0;dsimp only [k0a, List.set] at a0;refine lR0 rfl ⟨⟩ (r1a rfl w1a rfl (a0.cells 1 rfl) rfl ⟨⟨_, rfl, U5c ho hw (fun hm => ?_) (a0.cells 0 rfl) (RdE.keep (a0.keep0 M) _ _ ha) (RdE.keep (a0.keep0 M) _ _ hb)⟩, a0.fin⟩);have h1 := hM _ hm;have h2 := a0.new 0 rfl;simp at h2; omega
theorem Z6c (e : E) (n wd : Int) (M : List Nat) (w0 : World) (cs : List Value) (hR : RdE M w0 e cs) (ho : e.op ≠ 1) :
 M0a Tryz.prog 94 #[.agg cs.toArray, .int .i64 n, .int .i64 wd] w0 fun v w' => v = .bool false ∧ Below w0.heap.size w0 w' := by
 obtain ⟨_, k, _, rfl, -⟩ := hR.open_;have S := St.refl w0;refine a0a Tryz.func94 rfl Tryz.ntmps94 rfl ?_;refine wO0 rfl ⟨⟩ (j0a S (by conv => lhs; whnf) rfl ?_);intro g3 w3 S3 X3 G3;refine lB S3.k [.o 0] rfl ⟨rfl,⟨⟩⟩ (fun h9 => by exfalso; omega) fun h9 => ?_;exact lT rfl ⟨⟩ rfl ⟨rfl, S3.fin⟩
theorem L0b (e : E) (M : List Nat) (w0 : World) (cs : List Value) (hR : RdE M w0 e cs) (hw : e.wf = true) :
 M0a Tryz.prog 62 #[.agg cs.toArray] w0 fun v w' => v = .bool true ∧ Below w0.heap.size w0 w' := by
 have h := r9a e M w0 cs hR
 rwa [hw] at h
theorem s1c (e : E) (M : List Nat) (w0 : World) (cs : List Value) (hR : RdE M w0 e cs) (hc : e.cnt ≤ 600) :
 M0a Tryz.prog 39 #[.agg cs.toArray, .int .i64 601] w0 fun v w' => v = .int .i64 (e.cnt : Int) ∧ Below w0.heap.size w0 w' := by
 have h := X4b e M w0 cs 601 hR (by unfold i64; omega);have he : e.size 601 = (e.cnt : Int) := by rw [E.size_eq e 601 (by omega)]; omega
 rwa [he] at h
theorem z8b (l : List E) (M : List Nat) (w0 : World) (vl : Value) (hL : RdL M w0 vl l) (hM : ∀ g ∈ M, g < w0.heap.size) (P0 : ∀ e ∈ l, e.wf = true ∧ e.w = 1 ∧ e.op ≠ 1) (v1 : E.cnts l + l.length ≤ 600) (C0 : (r6a l).wf = true) :
 M0a Tryz.prog 67 #[vl, .int .i64 5, .int .i64 1] w0 fun v w' => (∃ cs : List Value, v = .agg cs.toArray ∧ RdE M w' (r6a l) cs) ∧ Below w0.heap.size w0 w' := by
 obtain ⟨A, n, c, rfl, _, _, _, _, n1⟩ := hL.open_;have S := St.refl w0;refine a0a Tryz.func67 rfl Tryz.ntmps67 rfl ?_;refine wO0 rfl ⟨⟩ (n0a S S6a rfl rfl ?_);intro g6 w6 S6 X6 G6;refine lC0 rfl ⟨⟩ (wL (fun μ D ε w => D = [] ∧ ∃ k : Nat, (k + μ = l.length) ∧ St [] w0 w [(some g6, 53, [.int .i64 0, .int .i64 0, .int .i64 0, .slice none 0 0])] ∧ ε 0 = .slice A n c ∧ ε 1 = .int .i64 5 ∧ ε 2 = .int .i64 1 ∧ ε 6 = .pointer (some ⟨g6, 0, none⟩) ∧ ε 7 = .bool false ∧ ε 8 = .int .i64 k) (μ := l.length) ⟨rfl, 0, by omega, S6, rfl, rfl, rfl, rfl, rfl, rfl⟩ ?_);rintro μ D ε w ⟨rfl, k, hk, S, e0, e1, e2, e6, e7, e8⟩;refine p0a 0 e0 (p0a 1 e1 (p0a 2 e2 (p0a 6 e6 (p0a 7 e7 (p0a 8 e8 ?_)))));clear e0 e1 e2 e6 e7 e8;refine wB0 rfl ⟨⟩ (fun b1 => ?_) fun b1 => ?_
 ·refine lO0 rfl ⟨⟩ ?_;have h0 : k < l.length := by omega
  obtain ⟨b, o, hA, O0, E0⟩ := n1 (by omega);obtain ⟨ck, B0, G0⟩ := E0 k h0;obtain ⟨Ak, nk, qk, rfl, -⟩ := G0.open_;have m1 := B0 1 _ rfl;obtain ⟨e1, e2, e3⟩ := P0 l[k] (List.getElem_mem h0);refine x0a b1a.slT rfl (by assumption) rfl (by omega) (by omega) rfl ?_;refine lO0 rfl ⟨⟩ (s0a C0a rfl (by exact S.old m1) rfl ?_);refine lB0 rfl ⟨⟩ (fun N0 => by exfalso; exact N0 e2) (fun N0 => ?_);refine lO0 rfl ⟨⟩ (x0a b1a.slT rfl (by assumption) rfl (by omega) (by omega) rfl ?_);refine lO0 rfl ⟨⟩ (x1a w1a rfl (B0.keep (S.keep0 M) O0) (by rfl) rfl ?_);refine lO0 rfl ⟨⟩ (g0a S Z5b rfl rfl (L0b l[k] M _ _ (RdE.keep (S.keep0 M) _ _ G0) e1) ?_);intro A1 y0 r1;refine lO0 rfl ⟨⟩ (x0a b1a.slT rfl (by assumption) rfl (by omega) (by omega) rfl ?_);refine lO0 rfl ⟨⟩ (x1a w1a rfl (B0.keep (y0.keep0 M) O0) (by rfl) rfl ?_);refine lO0 rfl ⟨by omega,⟨⟩⟩ (g0a y0 f3c rfl rfl (Z6c l[k] _ _ M _ _ (RdE.keep (y0.keep0 M) _ _ G0) e3) ?_);intro B1 U0 s1;exact lP0 rfl ⟨by omega,⟨⟩⟩ ⟨μ - 1, by omega, rfl, k + 1, by omega, U0, rfl, rfl, rfl, rfl, rfl, rfl⟩
 refine lO0 rfl ⟨⟩ ?_;refine B0a S k0b rfl rfl (j2c 1 1 (by unfold i64; omega) (by unfold i64; omega) [] _) ?_;rintro y1 C1 ⟨_, rfl, Q0⟩ V0 t1;obtain ⟨_, _, _, rfl, -⟩ := Q0.open_;refine n0a V0 S6a rfl rfl ?_;intro g9 w9 S9 X9 G9;refine e0a (kk := 0) (vs := [_, _, _, _]) S9 T5a rfl rfl rfl rfl rfl rfl rfl ?_;intro q0 a0 I0;dsimp only [k0a, List.set] at a0;refine lCn 8 a0.k [] rfl ⟨⟩ ?_;have i1 : ∀ g ∈ g6 :: g9 :: M, g ∈ M ∨ w0.heap.size ≤ g := by
  intro g hg; simp at hg;rcases hg with rfl | rfl | hg
  ·right; simpa using a0.new 1 rfl
  ·right; simpa using a0.new 0 rfl
  ·exact .inl hg
 have h1 := hL.more i1;obtain ⟨-, -, -, -, F0⟩ := h1.at;have u1 : ∀ g ∈ g6 :: g9 :: M, g < q0.heap.size := by
  intro g hg; simp at hg;rcases hg with rfl | rfl | hg
  ·exact a0.lt 1 rfl
  ·exact a0.lt 0 rfl
  ·have := hM g hg; have := a0.size; omega
 obtain ⟨wq, x1⟩ : ∃ wq, wq = q0 := ⟨_, rfl⟩;refine wC0 rfl ⟨⟩ (wL (fun μ D ε w => D = [] ∧ ∃ k : Nat, ∃ co : List Value, ∃ r0 : E, (k + μ = l.length) ∧ (r0 = r6a (l.take k)) ∧ (RdE (g6 :: g9 :: M) w r0 co) ∧ St [] w0 w [(some g9, 53, co), (some g6, 53, [.int .i64 0, .int .i64 0, .int .i64 0, .slice none 0 0])] ∧ ε 0 = .slice A n c ∧ ε 1 = .int .i64 5 ∧ ε 2 = .int .i64 1 ∧ ε 6 = .pointer (some ⟨g6, 0, none⟩) ∧ ε 9 = .pointer (some ⟨g9, 0, none⟩) ∧ ε 10 = .bool (decide (k = 0)) ∧ ε 11 = .int .i64 ((E.cnts (l.take k) + (k - 1) : Nat) : Int) ∧ ε 12 = .int .i64 k) (μ := l.length) ⟨rfl, 0, _, ⟨1, 1, 1, []⟩, by omega, rfl, J4c Q0, a0, rfl, rfl, rfl, rfl, rfl, rfl, rfl, rfl⟩ ?_);rintro μ D ε w ⟨rfl, k, co, r0, hk, n0, ro, S, e0, e1, e2, e6, e9, J0, K0, L0⟩;refine p0a 0 e0 (p0a 1 e1 (p0a 2 e2 (p0a 6 e6 (p0a 9 e9 (p0a 10 J0 (p0a 11 K0 (p0a 12 L0 ?_)))))));clear e0 e1 e2 e6 e9 J0 K0 L0;obtain ⟨_, _, _, rfl, -⟩ := ro.open_;have o1 : E.cnts (l.take k) ≤ E.cnts l := by
  have h2 := K7a (l.take k) (l.drop k);rw [List.take_append_drop] at h2; omega
 refine wB0 rfl ⟨⟩ (fun d1 => ?_) fun d1 => ?_
 ·refine lB0 rfl ⟨⟩ (fun f1 => ?_) (fun f1 => by exfalso; omega);refine lO0 rfl ⟨⟩ ?_;have h0 : k < l.length := by omega
  obtain ⟨b, o, hA, i0, E0⟩ := F0 (by omega);obtain ⟨ck, j0, g0⟩ := E0 k h0;obtain ⟨Ak, nk, qk, rfl, -⟩ := g0.open_;obtain ⟨e1, e2, e3⟩ := P0 l[k] (List.getElem_mem h0);have j1 : l[k].cnt ≤ 600 := by obtain ⟨c1, c2⟩ := z1b l k h0; omega
  refine x0a b1a.slT rfl (by assumption) rfl (by omega) (by omega) rfl ?_;refine x1a w1a rfl (j0.keep (S.keep0 (g6 :: g9 :: M)) i0) (by rfl) rfl ?_;refine lO0 rfl ⟨⟩ (g0a S f3c rfl rfl (Z6c l[k] _ _ (g6 :: g9 :: M) _ _ (RdE.keep (S.keep0 _) _ _ g0) e3) ?_);intro D1 z0 X0;replace ro := RdE.keep (X0.of_nil) _ _ ro;refine lO0 rfl ⟨⟩ (x0a b1a.slT rfl (by assumption) rfl (by omega) (by omega) rfl ?_);refine x1a w1a rfl (j0.keep (z0.keep0 (g6 :: g9 :: M)) i0) (by rfl) rfl ?_;refine g0a z0 D5b rfl rfl (s1c l[k] (g6 :: g9 :: M) _ _ (RdE.keep (z0.keep0 _) _ _ g0) j1) ?_;intro E1 s0 Y0;replace ro := RdE.keep (Y0.of_nil) _ _ ro;refine lOn 6 s0.k [] rfl ⟨by omega,⟨⟩⟩ ?_;cases v0 : decide (k = 0)
  ·refine m1a (v := .bool _) rfl rfl ?_;refine lC0 rfl ⟨⟩ (D0a b0a [0, 1, 2, 3, 4, 5] [] [6, 7] (by kernel_rfl) rfl (Cl _ _ _ _) (Cl.start s0) ?_);refine qO s0.q [.w 0] rfl ⟨⟨rfl,by rfl⟩,⟨⟩⟩ (m0a b1a.slT rfl (by assumption) rfl (by omega) (by omega) rfl ?_);refine H1a w1a rfl (fun w1 hw => j0.keep (hw.1.keep0 (g6 :: g9 :: M)) i0) (by rfl) rfl ?_;refine qD rfl ⟨⟩ ?_;rintro q1 ⟨f0, A0⟩;replace ro := RdE.keep (A0.of_nil) _ _ ro;refine B0a f0 h7c rfl rfl (Z7c 5 1 (by unfold i64; omega) (by unfold i64; omega) r0 l[k] _ _ (g6 :: g9 :: M) _ (fun g hg => by simp at hg; rcases hg with rfl | rfl | hg; exact f0.lt 1 rfl; exact f0.lt 0 rfl; have := hM g hg; have := f0.size; omega) ro (RdE.keep (f0.keep0 _) _ _ g0)) ?_;rintro z1 F1 ⟨_, rfl, x0⟩ W0 Z0;replace ro := RdE.keep (Z0.of_nil) _ _ ro;obtain ⟨_, _, _, rfl, -⟩ := x0.open_;refine e0a (kk := 0) (vs := [_, _, _, _]) W0 T5a rfl rfl rfl rfl rfl rfl rfl ?_;intro S0 o0 p0;dsimp only [k0a, List.set] at o0;replace ro := RdE.keep (p0.mono (by simp)) _ _ ro;replace x0 := RdE.keep (p0.mono (by simp)) _ _ x0;refine lP0 rfl ⟨by omega,by omega,⟨⟩⟩ ?_;have hs := o9a l k h0;have ct := z1b l k h0;have D0 : ¬ k = 0 := of_decide_eq_false v0;rw [if_neg D0] at hs;exact ⟨μ - 1, by omega, rfl, k + 1, _, f9c r0 l[k], by omega, by rw [hs, n0], x0, o0, rfl, rfl, rfl, rfl, rfl, congrArg Value.bool (by simp), congrArg (Value.int .i64) (by omega), rfl⟩
  refine m1a (v := .bool _) rfl rfl ?_;refine lO0 rfl ⟨⟩ (x0a b1a.slT rfl (by assumption) rfl (by omega) (by omega) rfl ?_);refine x1a w1a rfl (j0.keep (s0.keep0 (g6 :: g9 :: M)) i0) (by rfl) rfl ?_;refine e0a (kk := 0) (vs := [_, _, _, _]) s0 T5a rfl rfl rfl rfl rfl rfl rfl ?_;intro R0 b0 t0;dsimp only [k0a, List.set] at b0;replace ro := RdE.keep (t0.mono (by simp)) _ _ ro;refine lP0 rfl ⟨by omega,⟨⟩⟩ ?_;have hs := o9a l k h0;have ct := z1b l k h0;have D0 : k = 0 := of_decide_eq_true v0;rw [if_pos D0] at hs;exact ⟨μ - 1, by omega, rfl, k + 1, _, l[k], by omega, hs.symm, RdE.keep (b0.keep0 _) _ _ g0, b0, rfl, rfl, rfl, rfl, rfl, congrArg Value.bool (by simp), congrArg (Value.int .i64) (by omega), rfl⟩
 have p1 : l.take k = l := List.take_of_length_le (by omega);rw [p1] at n0;refine lB0 rfl ⟨⟩ (fun g1 => by exfalso; omega) fun g1 => ?_;refine lO S.k [.w 0] rfl ⟨⟨rfl,by rfl⟩,⟨⟩⟩ ?_;refine g0a S Z5b rfl rfl (L0b r0 (g6 :: g9 :: M) _ _ ro (by rw [n0]; exact C0)) ?_;intro G1 H0 a1;replace ro := RdE.keep (a1.of_nil) _ _ ro;refine lO H0.k [.w 0] rfl ⟨⟨rfl,by rfl⟩,⟨⟩⟩ (e0a (kk := 1) (vs := [_, _, _, _]) H0 T5a rfl rfl rfl rfl rfl rfl rfl ?_);intro T0 d0 u0;dsimp only [k0a, List.set] at d0;replace ro := RdE.keep (u0.mono (by simp)) _ _ ro;refine lR0 rfl ⟨⟩ (r1a rfl w1a rfl (d0.cells 1 rfl) rfl ⟨⟨_, rfl, ?_⟩, d0.nil.fin⟩);rw [← n0]; exact RdE.more (fun g hg => .inl (by simp [hg])) _ _ ro
theorem t1c (l : List E) (M : List Nat) (w0 : World) (vl : Value) (hL : RdL M w0 vl l) (hM : ∀ g ∈ M, g < w0.heap.size) (f0 : ∀ e ∈ l, e.wf = true ∧ e.w = 1 ∧ e.op ≠ 1) (g0 : E.cnts l + l.length ≤ 600) (d0 : (r6a l).wf = true) :
 M0a Tryz.prog 47 #[vl] w0 fun v w' => (∃ cs : List Value, v = .agg cs.toArray ∧ RdE M w' (r6a l) cs) ∧ Below w0.heap.size w0 w' := by
 obtain ⟨_, _, _, rfl, -⟩ := hL.open_;have S := St.refl w0;refine a0a Tryz.func47 rfl Tryz.ntmps47 rfl ?_;refine wO0 rfl ⟨⟩ (n0a S S6a rfl rfl ?_);intro g2 w2 S2 X2 G2;refine lO0 rfl ⟨⟩ ?_;have e0 : ∀ g ∈ g2 :: M, g ∈ M ∨ w0.heap.size ≤ g := by
  intro g hg; rcases List.mem_cons.1 hg with rfl | hg
  ·exact .inr G2
  ·exact .inl hg
 refine B0a S2 V6c rfl rfl (z8b l (g2 :: M) _ _ ((hL.more e0).keep (S2.keep0 _)) (fun g hg => by rcases List.mem_cons.1 hg with rfl | hg; exact S2.lt 0 rfl; have := hM g hg; have := S2.size; omega) f0 g0 d0) ?_;rintro v4 w4 ⟨_, rfl, r4⟩ S4 X4;obtain ⟨_, _, _, rfl, -⟩ := r4.open_
 first | refine e0a (kk := 0) (vs := [_, _, _, _]) S4 T5a rfl rfl rfl rfl rfl rfl rfl ?_
 intro h0 a0 b0;dsimp only [k0a, List.set] at a0;replace r4 := RdE.keep (b0.mono (by simp)) _ _ r4;exact lR0 rfl ⟨⟩ (r1a rfl w1a rfl (a0.cells 0 rfl) rfl ⟨⟨_, rfl, RdE.more (fun g hg => .inl (by simp [hg])) _ _ r4⟩, a0.nil.fin⟩)
instance : DecidableEq u2a := fun a b => if h : a.conf = b.conf ∧ a.frm = b.frm ∧ a.ch = b.ch then isTrue (by cases a; cases b; simp_all) else isFalse (fun e => h (by subst e; exact ⟨rfl, rfl, rfl⟩))
def q3a : E := ⟨1, 1, 1, []⟩
def A0c (n : Int) : E := ⟨2, 1, n, []⟩
def h5b (n : Int) : E := ⟨4, 1, 0, [A0c n]⟩
def n3b (nm : ByteArray) (mine other loc : Int) : Q0a := ⟨nm, 3, [q3a, q3a, q3a], [0, 0, 0], [⟨3, 0, 1, q3a, [⟨mine, q3a⟩], false, 0, 0⟩, ⟨2, 1, 2, q3a, [⟨loc, A0c other⟩], false, 0, 0⟩], [], false⟩
def K1a : f0a :=
 ⟨[⟨⟨#[77, 46, 120]⟩, 1, 0, -1, false, 0⟩, ⟨⟨#[77, 46, 121]⟩, 1, 0, -1, false, 0⟩, ⟨⟨#[97, 46, 114]⟩, 1, 1, 0, false, 0⟩, ⟨⟨#[98, 46, 115]⟩, 1, 1, 1, false, 0⟩],
  [⟨⟨#[77]⟩, ⟨#[65, 110, 110]⟩, q3a, q3a, [0, 1]⟩], [], [n3b ⟨#[97]⟩ 0 1 2, n3b ⟨#[98]⟩ 1 0 3]⟩
theorem k3a : a1a K1a := U0c (by kernel_rfl)
def N7c : E := r6a [h5b 2, h5b 3, A0c 0, A0c 1]
def t1b : J3a := ⟨1, 2, N7c⟩
def E6b : J3a := ⟨-1, 0, N7c⟩
def S9a (t : Int) : J3a := ⟨t, 0, q3a⟩
def x8a : List u2a := [⟨⟨[0,0,1,1],[0,0],[[],[]]⟩,-1,⟨0,0,0⟩⟩,
⟨⟨[1,0,1,1],[1,0],[[],[]]⟩,0,⟨0,0,0⟩⟩,
⟨⟨[0,1,1,1],[0,1],[[],[]]⟩,0,⟨1,0,0⟩⟩,
⟨⟨[1,0,0,1],[2,0],[[],[]]⟩,1,⟨0,1,0⟩⟩,
⟨⟨[1,1,1,1],[1,1],[[],[]]⟩,1,⟨1,0,0⟩⟩,
⟨⟨[0,1,1,0],[0,2],[[],[]]⟩,2,⟨1,1,0⟩⟩,
⟨⟨[1,1,0,1],[2,1],[[],[]]⟩,3,⟨1,0,0⟩⟩,
⟨⟨[1,1,1,1],[2,1],[[],[]]⟩,4,⟨0,1,0⟩⟩,
⟨⟨[1,1,1,1],[1,2],[[],[]]⟩,4,⟨1,1,0⟩⟩,
⟨⟨[1,1,1,0],[1,2],[[],[]]⟩,5,⟨0,0,0⟩⟩,
⟨⟨[1,1,0,1],[2,2],[[],[]]⟩,6,⟨1,1,0⟩⟩,
⟨⟨[1,1,1,1],[2,2],[[],[]]⟩,7,⟨1,1,0⟩⟩,
⟨⟨[1,1,1,0],[2,2],[[],[]]⟩,9,⟨0,1,0⟩⟩]
def y8a : List u2a := [⟨⟨[0,0,1,1],[0,0],[[],[]]⟩,-1,⟨0,0,0⟩⟩,
⟨⟨[0,0,1,1],[1,0],[[⟨[0],[1]⟩],[]]⟩,0,⟨0,0,0⟩⟩,
⟨⟨[0,0,1,1],[0,1],[[],[⟨[1],[1]⟩]]⟩,0,⟨1,0,0⟩⟩,
⟨⟨[0,0,0,1],[2,0],[[⟨[0],[1]⟩],[]]⟩,1,⟨0,1,0⟩⟩,
⟨⟨[1,0,1,1],[1,0],[[],[]]⟩,1,⟨0,-1,0⟩⟩,
⟨⟨[0,0,1,1],[1,1],[[⟨[0],[1]⟩],[⟨[1],[1]⟩]]⟩,1,⟨1,0,0⟩⟩,
⟨⟨[0,0,1,0],[0,2],[[],[⟨[1],[1]⟩]]⟩,2,⟨1,1,0⟩⟩,
⟨⟨[0,1,1,1],[0,1],[[],[]]⟩,2,⟨1,-1,1⟩⟩,
⟨⟨[1,0,0,1],[2,0],[[],[]]⟩,3,⟨0,-1,0⟩⟩,
⟨⟨[0,0,0,1],[2,1],[[⟨[0],[1]⟩],[⟨[1],[1]⟩]]⟩,3,⟨1,0,0⟩⟩,
⟨⟨[1,0,1,1],[1,1],[[],[⟨[1],[1]⟩]]⟩,4,⟨1,0,0⟩⟩,
⟨⟨[0,0,1,0],[1,2],[[⟨[0],[1]⟩],[⟨[1],[1]⟩]]⟩,5,⟨1,1,0⟩⟩,
⟨⟨[0,1,1,1],[1,1],[[⟨[0],[1]⟩],[]]⟩,5,⟨1,-1,1⟩⟩,
⟨⟨[0,1,1,0],[0,2],[[],[]]⟩,6,⟨1,-1,1⟩⟩,
⟨⟨[1,0,0,1],[2,1],[[],[⟨[1],[1]⟩]]⟩,8,⟨1,0,0⟩⟩,
⟨⟨[0,0,0,0],[2,2],[[⟨[0],[1]⟩],[⟨[1],[1]⟩]]⟩,9,⟨1,1,0⟩⟩,
⟨⟨[0,1,0,1],[2,1],[[⟨[0],[1]⟩],[]]⟩,9,⟨1,-1,1⟩⟩,
⟨⟨[1,0,1,1],[1,2],[[],[⟨[1],[1]⟩]]⟩,10,⟨1,1,0⟩⟩,
⟨⟨[1,1,1,1],[1,1],[[],[]]⟩,10,⟨1,-1,1⟩⟩,
⟨⟨[1,0,1,0],[1,2],[[],[⟨[1],[1]⟩]]⟩,11,⟨0,-1,0⟩⟩,
⟨⟨[0,1,1,0],[1,2],[[⟨[0],[1]⟩],[]]⟩,11,⟨1,-1,1⟩⟩,
⟨⟨[0,1,1,1],[2,1],[[⟨[0],[1]⟩],[]]⟩,12,⟨0,1,0⟩⟩,
⟨⟨[1,0,0,1],[2,2],[[],[⟨[1],[1]⟩]]⟩,14,⟨1,1,0⟩⟩,
⟨⟨[1,1,0,1],[2,1],[[],[]]⟩,14,⟨1,-1,1⟩⟩,
⟨⟨[1,0,0,0],[2,2],[[],[⟨[1],[1]⟩]]⟩,15,⟨0,-1,0⟩⟩,
⟨⟨[0,1,0,0],[2,2],[[⟨[0],[1]⟩],[]]⟩,15,⟨1,-1,1⟩⟩,
⟨⟨[1,1,1,1],[1,2],[[],[]]⟩,17,⟨1,-1,1⟩⟩,
⟨⟨[1,1,1,1],[2,1],[[],[]]⟩,18,⟨0,1,0⟩⟩,
⟨⟨[1,1,1,0],[1,2],[[],[]]⟩,19,⟨1,-1,1⟩⟩,
⟨⟨[0,1,1,0],[2,2],[[⟨[0],[1]⟩],[]]⟩,20,⟨0,1,0⟩⟩,
⟨⟨[1,1,0,1],[2,2],[[],[]]⟩,22,⟨1,-1,1⟩⟩,
⟨⟨[1,1,0,0],[2,2],[[],[]]⟩,24,⟨1,-1,1⟩⟩,
⟨⟨[1,1,1,1],[2,2],[[],[]]⟩,26,⟨0,1,0⟩⟩,
⟨⟨[1,1,1,0],[2,2],[[],[]]⟩,28,⟨0,1,0⟩⟩]
def H8c (p : f0a) (m : Int) (W : List u2a) : Nat → Nat → Nat → Bool
 | 0, n, k => decide (n = k) && decide (k = W.length)
 | f + 1, n, k => match W[n]? with
   | some v => decide (n < k) && (decide (u0b p m n v.conf (W.take k) (H0a p m v.conf) = W.take (u0b p m n v.conf (W.take k) (H0a p m v.conf)).length) && H8c p m W f (n + 1) (u0b p m n v.conf (W.take k) (H0a p m v.conf)).length)
   | none => false
theorem B4b {p : f0a} {m : Int} {W : List u2a} : ∀ (f n k : Nat), P2a p m n = W.take k → H8c p m W f n k = true → P2a p m (n + f) = W ∧ n + f = W.length
 | 0, n, k, hb, h => by
   simp only [H8c, Bool.and_eq_true, decide_eq_true_eq] at h;obtain ⟨rfl, rfl⟩ := h;exact ⟨by rw [Nat.add_zero, hb, List.take_length], by omega⟩
 | f + 1, n, k, hb, h => by
   rw [H8c] at h;rcases hv : W[n]? with _ | v
   ·rw [hv] at h; cases h
   ·rw [hv] at h;simp only [Bool.and_eq_true, decide_eq_true_eq] at h;obtain ⟨h1, h2, h3⟩ := h;have hn : (P2a p m n)[n]? = some v := by rw [hb, List.getElem?_take, if_pos h1, hv]
    obtain ⟨q1, q2⟩ := B4b f (n + 1) _ (by rw [F2b hn, hb]; exact h2) h3;rw [show n + (f + 1) = n + 1 + f by omega];exact ⟨q1, q2⟩
theorem S7a : P2a K1a 0 13 = x8a := (B4b 13 0 1 (by decide +kernel) (by kernel_rfl)).1
theorem A7a : P2a K1a 1 34 = y8a := (B4b 34 0 1 (by decide +kernel) (by kernel_rfl)).1
theorem U7a {p : f0a} {m : Int} {n a0 : Nat} {W : List u2a} {l : List r0a} {b0 : Int} (hW : P2a p m n = W) (hn : W.length ≤ n) (h : p6a p m a0 l b0) : (W.length ≤ a0 → b0 = 0 ∧ l = Z1a W) ∧ (a0 < W.length → b0 = 2 ∧ l = []) := by
 subst hW;rcases h with ⟨rfl, k, h1, h2, rfl⟩ | ⟨rfl, rfl, V, hV, hl⟩
 ·rw [m8b h1 hn] at h2 ⊢;exact ⟨fun _ => ⟨rfl, rfl⟩, fun h => by omega⟩
 ·have := (hV.done hn).length_le;exact ⟨fun h => by omega, fun _ => ⟨rfl, rfl⟩⟩
theorem j7b {p : f0a} {m : Int} {b0 : Bool} {acc : r0a → Bool} {n a0 : Nat} {W : List u2a} {v : List A0a} {h : Int} (hW : P2a p m n = W) (hn : W.length ≤ n) (hl : W.length ≤ a0) (ha : b0 = true) (d0 : ∀ y ∈ W, acc y.conf = false) (hf : Y4c p m b0 acc a0 v h) : h = 4 := by
 subst hW;rcases hf with ⟨h1, _⟩ | ⟨k, V, q1, q2, q3, q4, ⟨y, q5, q6⟩, _⟩ | ⟨_, _, _, V, q1, q2, _⟩ | ⟨_, h1, _⟩
 ·rw [ha] at h1; cases h1
 ·have := d0 y (List.mem_of_getElem? (C6a (q1.done hn) q5));rw [q6] at this; cases this
 ·have := (q1.done hn).length_le; omega
 ·exact h1
theorem t0b {p : f0a} {m : Int} {g0 : Bool} {acc : r0a → Bool} {n a0 k : Nat} {W : List u2a} {v : List A0a} {h : Int} {y : u2a} (hW : P2a p m n = W) (hk : k < a0) (ha : g0 = true) (j0 : (W.take k).all (fun y => !acc y.conf) = true) (hy : W[k]? = some y) (b0 : acc y.conf = true) (hf : Y4c p m g0 acc a0 v h) :
 (D4a (W.take (k + 1)) (k + 1) k).length ≤ 120 → h = 0 ∧ v = (D4a (W.take (k + 1)) (k + 1) k).reverse := by
 have hV : y3a p m W := ⟨n, by rw [hW]; exact List.prefix_refl _⟩;have n0 := (List.getElem?_eq_some_iff.1 hy).1;have f0 : ∀ j x, j < k → W[j]? = some x → acc x.conf = false := fun j x hj hx => by
  have := List.all_eq_true.1 j0 x (List.mem_of_getElem? (by rw [List.getElem?_take, if_pos hj]; exact hx));simpa using this
 intro hp;rcases hf with ⟨h1, _⟩ | ⟨k', V, q1, q2, q3, q4, ⟨x, q5, q6⟩, _, q7⟩ | ⟨_, _, _, V, q1, q2, q3⟩ | ⟨_, _, _, j, q1, q2, q3⟩
 ·rw [ha] at h1; cases h1
 ·have i0 : k' = k := by
   rcases Nat.lt_trichotomy k' k with e0 | he | e0
   ·have h1 := f0 k' x e0 (C6a (q1.cmp hV (by omega)) q5);rw [q6] at h1; cases h1
   ·exact he
   ·have d0 : V.length ≤ W.length ∨ W.length ≤ V.length := by omega
    have h1 : V[k]? = some y := by
     rcases d0 with h | h
     ·obtain ⟨t, rfl⟩ := q1.cmp hV h
      rwa [List.getElem?_append_left (by omega)] at hy
     ·exact C6a (hV.cmp q1 h) hy
    have h2 := q4 k y e0 h1;rw [b0] at h2; cases h2
  subst i0;have h0 : V = W.take (k' + 1) := by
   have := q1.cmp hV (by omega);rw [List.prefix_iff_eq_take.1 this, q2]
  subst h0;rcases q7 with ⟨q8, _⟩ | ⟨_, h1, h2⟩
  ·omega
  ·exact ⟨h1, h2⟩
 ·have d0 : V.length ≤ W.length ∨ W.length ≤ V.length := by omega
  have h1 : V[k]? = some y := by
   rcases d0 with h | h
   ·obtain ⟨t, rfl⟩ := q1.cmp hV h
    rwa [List.getElem?_append_left (by omega)] at hy
   ·exact C6a (hV.cmp q1 h) hy
  have h2 := q3 k y hk h1;rw [b0] at h2; cases h2
 ·have h2 := q3 y (List.mem_of_getElem? (C6a (hV.done q1) hy));rw [b0] at h2; cases h2
theorem t2c : x8a.all (fun y => !E2a y.conf t1b) = true := by kernel_rfl
theorem q1c : (y8a.take 31).all (fun y => !E2a y.conf E6b) = true := by kernel_rfl
theorem N2c : E2a ⟨[1, 1, 0, 0], [2, 2], [[], []]⟩ E6b = true := by kernel_rfl
theorem A5b : (D4a (y8a.take 32) 32 31).length = 6 := by kernel_rfl
theorem i6b : (D4a (x8a.take 1) 1 0).length = 0 := by kernel_rfl
theorem c2c : E2a (X0a K1a) (S9a (-1)) = true := by kernel_rfl
theorem N4c : X4a K1a t1b = true := by kernel_rfl
theorem V5c : X4a K1a E6b = true := by kernel_rfl
theorem z5c : X4a K1a (S9a (-1)) = true := by kernel_rfl
theorem A6c : X4a K1a (S9a 2) = false := by kernel_rfl
theorem h1c : (X4a K1a (S9a 1) && E2a (X0a K1a) (S9a 1)) = true := by kernel_rfl
theorem A1c : (X4a K1a t1b && E2a (X0a K1a) t1b) = false := by kernel_rfl
def v7c (p : f0a) (m : Int) (c : r0a) : List A0a → List r0a
 | [] => []
 | x :: l => if x ∈ H0a p m c then doC p m c x :: v7c p m (doC p m c x) l else []
def O8c (p : f0a) (m : Int) (run : List A0a) : List r0a := X0a p :: v7c p m (X0a p) run
structure z3c (p : f0a) (m : Int) (run : List A0a) (l : Nat) (Bs0 M0 : List Nat) (w0 : World) (J : Nat → Nat → List Nat → World → Prop) (Q : World → Prop) : Prop where
 start : ∀ g5 w, w0.heap.size ≤ g5 → Below w0.heap.size w0 w → J g5 0 Bs0 w
 own : ∀ g5 k Bs w w', w0.heap.size ≤ g5 → g5 ∉ Bs → J g5 k Bs w → v0a [g5] w w' → J g5 k Bs w'
 lt : ∀ g5 k Bs w, J g5 k Bs w → ∀ g ∈ Bs, g < w.heap.size
 each : ∀ g5 k Bs w c ys (err : Int), w0.heap.size ≤ g5 → g5 < w.heap.size → g5 ∉ Bs → J g5 k Bs w → w0a Bs0 w0 w → ((err = 0 ∧ (O8c p m run)[k]? = some c) ∨ (err = 110 ∧ k = (O8c p m run).length ∧ (O8c p m run).length ≤ run.length ∧ c = ⟨[], [], []⟩)) → t0a (g5 :: (Bs ++ M0)) w c ys →
  Yld Tryz.prog l #[.agg ys.toArray, .int .i64 err] w fun v w' => (err = 0 ∧ v = .bool true ∧ ∃ Bs', J g5 (k + 1) Bs' w' ∧ w0a Bs w w' ∧ ∀ g ∈ Bs', g ∈ Bs ∨ w.heap.size ≤ g) ∨ (err = 110 ∧ v = .bool false ∧ Q w')
section
variable {p : f0a} {m : Int} {run : List A0a} {l : Nat} {Bs0 M0 : List Nat} {w0 : World} {J : Nat → Nat → List Nat → World → Prop} {Q : World → Prop}
theorem z3c.round (h : z3c p m run l Bs0 M0 w0 J Q) : ∀ g5 k Bs w c ys, w0.heap.size ≤ g5 → g5 < w.heap.size → g5 ∉ Bs → J g5 k Bs w → w0a Bs0 w0 w → (O8c p m run)[k]? = some c → t0a (g5 :: (Bs ++ M0)) w c ys → Yld Tryz.prog l #[.agg ys.toArray, .int .i64 0] w fun v w' => v = .bool true ∧ ∃ a0, J g5 (k + 1) a0 w' ∧ w0a Bs w w' ∧ ∀ g ∈ a0, g ∈ Bs ∨ w.heap.size ≤ g :=
 fun g5 k Bs w c ys h1 h2 h3 h4 h5 h6 h7 => (h.each g5 k Bs w c ys 0 h1 h2 h3 h4 h5 (.inl ⟨rfl, h6⟩) h7).mono fun v w' hh => by
  rcases hh with ⟨_, hh⟩ | ⟨hh, _⟩
  ·exact hh
  ·omega
end
theorem t0a.grow {c : r0a} {ys : List Value} {g5 : Nat} {Bs a0 M0 : List Nat} {w w' : World} (h : t0a (g5 :: (Bs ++ M0)) w c ys) (hk : w0a Bs w w') (hb : ∀ g ∈ a0, g ∈ Bs ∨ w.heap.size ≤ g) : t0a (g5 :: (a0 ++ M0)) w' c ys := by
 have h1 : t0a (Bs ++ (g5 :: (a0 ++ M0))) w c ys := h.more fun g hg => by
  simp only [List.mem_append, List.mem_cons] at hg ⊢;rcases hg with hg | rfl | hg | hg
  ·exact .inl (.inr (.inl hg))
  ·exact .inl (.inl rfl)
  ·rcases hb g hg with h | h
   ·exact .inl (.inr (.inl h))
   ·exact .inr h
  ·exact .inl (.inr (.inr hg))
 exact (h1.keep (hk.mono fun g hg => List.mem_append_left _ hg)).less fun g hg => List.mem_append_right _ hg
theorem St.other {M : List Nat} {w0 w w' : World} {L : List Ent} (S : St M w0 w L) {g : Nat} (hb : v0a [g] w w') (hg : w0.heap.size ≤ g) (hn : g ∉ T8a L) : St M w0 w' L := by
 refine ⟨⟨hb.os.trans S.below.os, hb.tape.trans S.below.tape, hb.output.trans S.below.output, Nat.le_trans S.below.size hb.size, fun k hk hm => ?_⟩, fun b hm x hx => ?_, S.apart⟩
 ·rw [hb.block k (Nat.lt_of_lt_of_le hk S.below.size) (by rw [List.mem_singleton]; omega)];exact S.below.block k hk hm
 ·obtain ⟨h1, h2⟩ := S.own b hm x hx;refine ⟨h1, ?_⟩;have a0 := h2.lt;unfold o0a at *;rw [hb.block x a0 (by rw [List.mem_singleton]; rintro rfl; exact hn (v3a.2 ⟨b, hm, hx⟩))];exact h2
section
variable {α : Type} {M : List Nat} {w : World} {size : Nat} {R : List Value → α → Prop} {g : Nat}
theorem Y1b {css : List (List Value)} {l : List α} {n : Nat} (hg : g ∉ M) (hc : i1a w g 0 css.flatten) (hn : n = l.length) (hl : css.length = l.length) (a0 : l.length ≤ 1000000) (h4 : ∀ x ∈ css, x.length = size) (hR : ∀ (i : Nat) (x : α), l[i]? = some x → ∃ c, css[i]? = some c ∧ R c x) : RdS M w size R (.slice (some ⟨g, 0, none⟩) n n) l := by
 subst hn;refine ⟨_, _, _, rfl, rfl, Nat.le_refl _, by unfold maxLen; omega, by omega, fun _ => ⟨g, 0, rfl, hg, fun i x hi => ?_⟩⟩;obtain ⟨c, h5, h6⟩ := hR i x hi;exact ⟨c, h4 c (List.mem_of_getElem? h5), fun j u hj => by simpa using hc _ u (L2c css i c h4 h5 j u hj), h6⟩
theorem c4c {c : List Value} {x : α} (hg : g ∉ M) (hc : i1a w g 0 c) (h4 : c.length = size) (hr : R c x) : RdS M w size R (.slice (some ⟨g, 0, none⟩) 1 1) [x] :=
 Y1b (css := [c]) hg (by simpa using hc) rfl rfl (by simp) (by simpa using h4) (fun i y hi => by
  match i, hi with
  | 0, hi => cases hi; exact ⟨c, rfl, hr⟩)
theorem J6c {c c2 : List Value} {x x2 : α} (hg : g ∉ M) (hc : i1a w g 0 (c ++ c2)) (h4 : c.length = size) (h5 : c2.length = size) (hr : R c x) (a0 : R c2 x2) : RdS M w size R (.slice (some ⟨g, 0, none⟩) 2 2) [x, x2] :=
 Y1b (css := [c, c2]) hg (by simpa using hc) rfl rfl (by simp) (by simpa using ⟨h4, h5⟩) (fun i y hi => by
  match i, hi with
  | 0, hi => cases hi; exact ⟨c, rfl, hr⟩
  | 1, hi => cases hi; exact ⟨c2, rfl, a0⟩)
theorem T8c {c c2 c3 : List Value} {x x2 x3 : α} (hg : g ∉ M) (hc : i1a w g 0 (c ++ (c2 ++ c3))) (h4 : c.length = size) (h5 : c2.length = size) (h6 : c3.length = size) (hr : R c x) (a0 : R c2 x2) (b0 : R c3 x3) : RdS M w size R (.slice (some ⟨g, 0, none⟩) 3 3) [x, x2, x3] :=
 Y1b (css := [c, c2, c3]) hg (by simpa using hc) rfl rfl (by simp) (by simpa using ⟨h4, h5, h6⟩) (fun i y hi => by
  match i, hi with
  | 0, hi => cases hi; exact ⟨c, rfl, hr⟩
  | 1, hi => cases hi; exact ⟨c2, rfl, a0⟩
  | 2, hi => cases hi; exact ⟨c3, rfl, b0⟩)
end
theorem j3b {P : Program} {f : FuncId} {args : Array Value} {w : World} {b : Bool} (h : M0a P f args w fun v w' => v = .bool b ∧ Below w.heap.size w w') (hb : b = true) : M0a P f args w fun v w' => v = .bool true ∧ Below w.heap.size w w' := by
 subst hb; exact h
theorem G6b {P : Program} {f : FuncId} {args : Array Value} {w : World} {b : Bool} (h : M0a P f args w fun v w' => v = .bool b ∧ Below w.heap.size w w') (hb : b = false) : M0a P f args w fun v w' => v = .bool false ∧ Below w.heap.size w w' := by
 subst hb; exact h
def x2c : Value → Prop := fun u => ∃ a0 a1 a2 a3 a4 a5 a6, u = .agg #[a0, a1, a2, a3, a4, a5, a6]
def thQ (M : List Nat) (t : Q0a) : Value → World → Prop := fun u w => ∃ cs : List Value, u = .agg cs.toArray ∧ N0a M w cs t
theorem P0b : ∃ u, x2c u := ⟨_, undef, undef, undef, undef, undef, undef, undef, rfl⟩
theorem v6b (M : List Nat) (t : Q0a) : ∀ u w w', w0a [] w w' → thQ M t u w → thQ M t u w' := fun _ _ _ k ⟨cs, h, hr⟩ => ⟨cs, h, N0a.keep k.of_nil _ _ hr⟩
theorem w8b {M : List Nat} {t : Q0a} {u : Value} {w : World} (h : thQ M t u w) : x2c u := by
 obtain ⟨_, rfl, hr⟩ := h;obtain ⟨_, _, _, _, rfl, -⟩ := hr;exact ⟨_, _, _, _, _, _, _, rfl⟩
theorem k9c {M : List Nat} {w : World} {a b c d : E} {ca cb cc cd : List Value} {g : Nat} (hg : g ∉ M) (hc : i1a w g 0 (ca ++ (cb ++ (cc ++ cd)))) (ha : RdE M w a ca) (hb : RdE M w b cb) (a0 : RdE M w c cc) (hd : RdE M w d cd) : RdL M w (.slice (some ⟨g, 0, none⟩) 4 4) [a, b, c, d] := by
 have la := ha.length;have lb := hb.length;have lc := a0.length;refine RdL.made rfl (by omega) (by unfold maxLen; omega) (by omega) (fun _ => ⟨g, 0, rfl, hg, fun i hi => ?_⟩);have b0 : i < 4 := hi;rcases (show i = 0 ∨ i = 1 ∨ i = 2 ∨ i = 3 by omega) with rfl | rfl | rfl | rfl
 ·refine ⟨ca, fun j v hj => ?_, ha⟩;have hl : j < ca.length := (List.getElem?_eq_some_iff.1 hj).1;have := hc j v (by rw [List.getElem?_append_left hl]; exact hj);simpa using this
 ·refine ⟨cb, fun j v hj => ?_, hb⟩;have hl : j < cb.length := (List.getElem?_eq_some_iff.1 hj).1;have := hc (4 + j) v (by rw [List.getElem?_append_right (by omega), List.getElem?_append_left (by omega), la]; simpa using hj);simpa using this
 ·refine ⟨cc, fun j v hj => ?_, a0⟩;have hl : j < cc.length := (List.getElem?_eq_some_iff.1 hj).1;have := hc (8 + j) v (by rw [List.getElem?_append_right (by omega), List.getElem?_append_right (by omega), List.getElem?_append_left (by omega), la, lb, show 8 + j - 4 - 4 = j by omega]; exact hj);simpa using this
 ·refine ⟨cd, fun j v hj => ?_, hd⟩;have := hc (12 + j) v (by rw [List.getElem?_append_right (by omega), List.getElem?_append_right (by omega), List.getElem?_append_right (by omega), la, lb, lc, show 12 + j - 4 - 4 - 4 = j by omega]; exact hj);simpa using this
theorem J9c {α : Type} {M : List Nat} {w : World} {size : Nat} {R : List Value → α → Prop} {g : Nat} {c c2 c3 c4 : List Value} {x x2 x3 x4 : α} (hg : g ∉ M) (hc : i1a w g 0 (c ++ (c2 ++ (c3 ++ c4)))) (h4 : c.length = size) (h5 : c2.length = size) (h6 : c3.length = size) (h7 : c4.length = size) (hr : R c x) (a0 : R c2 x2) (b0 : R c3 x3) (d0 : R c4 x4) : RdS M w size R (.slice (some ⟨g, 0, none⟩) 4 4) [x, x2, x3, x4] :=
 Y1b (css := [c, c2, c3, c4]) hg (by simpa using hc) rfl rfl (by simp) (by simpa using ⟨h4, h5, h6, h7⟩) (fun i y hi => by
  match i, hi with
  | 0, hi => cases hi; exact ⟨c, rfl, hr⟩
  | 1, hi => cases hi; exact ⟨c2, rfl, a0⟩
  | 2, hi => cases hi; exact ⟨c3, rfl, b0⟩
  | 3, hi => cases hi; exact ⟨c4, rfl, d0⟩)
theorem i3b (nm : ByteArray) (f0 a0 j0 : Int) (h1 : i64 f0) (h2 : i64 a0) (h3 : i64 j0) (g : Nat) (M : List Nat) (w0 : World) (hM : ∀ x ∈ M, x < w0.heap.size) (hc : i1a w0 g 0 [.int .i64 1, .int .i64 1, .int .i64 1, .slice none 0 0]) :
 M0a Tryz.prog 44 #[.string nm, .int .i64 f0, .int .i64 a0, .int .i64 j0, .pointer (some ⟨g, 0, none⟩)] w0 fun v w' => (∃ cs : List Value, v = .agg cs.toArray ∧ N0a M w' cs (n3b nm f0 a0 j0)) ∧ Below w0.heap.size w0 w' := by
 have S := St.refl w0;have i0 : i64 0 := by unfold i64; omega
 have i1 : i64 1 := by unfold i64; omega
 have i2 : i64 2 := by unfold i64; omega
 have i3 : i64 3 := by unfold i64; omega
 refine a0a Tryz.func44 rfl Tryz.ntmps44 rfl ?_;refine wO0 rfl ⟨⟩ (n0a S Y2b rfl rfl ?_);intro g9 w9 S9 X9 G9;refine lC0 rfl ⟨⟩ (m4b b0a [0, 1, 2, 3, 4, 5, 6, 7, 8, 9, 10, 11, 12, 13, 14, 15, 16, 17, 18, 19, 20] 21 (by kernel_rfl) (by kernel_rfl) (Cl _ _ _ _) (Cl.start S9) (fun i => if i = 15 then some (45, #[.int .i64 a0, .int .i64 1], eqQ (.agg #[.int .i64 2, .int .i64 1, .int .i64 a0, .slice none 0 0]), noQ) else none) ?_ _ rfl ?_)
 ·intro i f a Qp Qw hi;by_cases h0 : i = 15
  ·subst h0; cases hi; exact ⟨⟨_, rfl⟩, fun _ _ _ _ _ => trivial, fun w hC => (q6b _ _ _).mono fun u w' hr => ⟨⟨hr.1, trivial⟩, hC.later hr.2⟩⟩
  ·simp only [h0, if_false] at hi; cases hi
 refine g5a rfl rfl ?_;refine f1a (by conv => lhs; whnf) rfl ?_;refine d0a ?_;refine g5a rfl rfl ?_;refine H1a w1a rfl (fun w1 hw => hc.keep (hw.1.keep0 []) (by simp)) (by rfl) rfl ?_;refine d0a ?_;refine g5a rfl rfl ?_;refine H1a w1a rfl (fun w1 hw => hc.keep (hw.1.keep0 []) (by simp)) (by rfl) rfl ?_;refine d0a ?_;refine g5a rfl rfl ?_;refine H1a w1a rfl (fun w1 hw => hc.keep (hw.1.keep0 []) (by simp)) (by rfl) rfl ?_;refine d0a ?_;refine S3a rfl rfl rfl b1a (vs := [.agg _, .agg _, .agg _]) (cs := [_, _, _, _, _, _, _, _, _, _, _, _]) (by rfl) rfl rfl rfl rfl rfl ?_;intro G0 A0 t0;refine S3a rfl rfl rfl Y0a (vs := [.int .i64 _, .int .i64 _, .int .i64 _]) (cs := [_, _, _]) (by rfl) rfl rfl rfl rfl rfl ?_;intro H0 B0 u0;refine g5a rfl rfl ?_;refine H1a w1a rfl (fun w1 hw => hc.keep (hw.1.keep0 []) (by simp)) (by rfl) rfl ?_;refine d0a ?_;refine g5a rfl rfl ?_;refine f1a (v := .int .i64 _) rfl rfl ?_;refine d0a ?_;refine g5a rfl rfl ?_;refine H1a w1a rfl (fun w1 hw => hc.keep (hw.1.keep0 []) (by simp)) (by rfl) rfl ?_;refine d0a ?_;refine g5a rfl rfl ?_;refine h2a r3c (vs := [(0, .int .i64 _), (1, .agg _)]) (cs := [_, _, _, _, _]) rfl rfl rfl rfl ?_;refine d0a ?_;refine S3a rfl rfl rfl A8a (vs := [.agg _]) (cs := [_, _, _, _, _]) (by rfl) rfl rfl rfl rfl rfl ?_;intro I0 C0 v0;refine g5a rfl rfl ?_;refine h2a h3c (vs := [(0, .int .i64 _), (1, .int .i64 _), (2, .int .i64 _), (3, .agg _), (4, .slice _ _ _)]) (cs := [_, _, _, _, _, _, _, _, _, _, _]) rfl rfl rfl rfl ?_;refine d0a ?_;refine g5a rfl rfl ?_;refine H1a w1a rfl (fun w1 hw => hc.keep (hw.1.keep0 []) (by simp)) (by rfl) rfl ?_;refine d0a ?_;refine g5a rfl rfl ?_;refine f1a (v := .int .i64 _) rfl rfl ?_;refine d0a ?_;refine g5a rfl rfl ?_;refine f1a (v := .int .i64 _) rfl rfl ?_;refine d0a ?_;refine c6c y6b rfl rfl rfl rfl rfl ?_;refine g5a rfl rfl ?_;refine h2a r3c (vs := [(0, .int .i64 _), (1, .agg _)]) (cs := [_, _, _, _, _]) rfl rfl rfl rfl ?_;refine d0a ?_;refine S3a rfl rfl rfl A8a (vs := [.agg _]) (cs := [_, _, _, _, _]) (by rfl) rfl rfl rfl rfl rfl ?_;intro J0 D0 x0;refine g5a rfl rfl ?_;refine h2a h3c (vs := [(0, .int .i64 _), (1, .int .i64 _), (2, .int .i64 _), (3, .agg _), (4, .slice _ _ _)]) (cs := [_, _, _, _, _, _, _, _, _, _, _]) rfl rfl rfl rfl ?_;refine d0a ?_;refine S3a rfl rfl rfl j3c (vs := [.agg _, .agg _]) (cs := [_, _, _, _, _, _, _, _, _, _, _, _, _, _, _, _, _, _, _, _, _, _]) (by rfl) rfl rfl rfl rfl rfl ?_;intro K0 E0 y0;refine g5a rfl rfl ?_;refine h2a K6c (vs := [(0, .string _), (1, .int .i64 _), (2, .slice _ _ _), (3, .slice _ _ _), (4, .slice _ _ _)]) (cs := [_, _, _, _, _, _, _]) rfl rfl rfl rfl ?_;refine d0a ?_;refine N5b ?_;rintro L0 ⟨e0, _⟩ ⟨⟨⟨⟨⟨-, o0⟩, p0⟩, q0⟩, r0⟩, s0⟩;clear t0;replace e0 := e0.push_new S9 o0 A0;replace e0 := e0.push_more (L1 := [_]) S9 p0 B0 (by simpa [eq_comm] using u0);replace e0 := e0.push_more (L1 := [_, _]) S9 q0 C0 (by simpa [eq_comm] using v0);replace e0 := e0.push_more (L1 := [_, _, _]) S9 r0 D0 (by simpa [eq_comm] using x0);replace e0 := e0.push_more (L1 := [_, _, _, _]) S9 s0 E0 (by simpa [eq_comm] using y0);refine e0a (kk := 5) (vs := [_, _, _, _, _, _, _]) e0 k3b rfl rfl rfl rfl rfl rfl rfl ?_;intro b0 g0 z0;dsimp only [k0a, List.set] at g0;refine S0a ⟨rfl, ?_⟩;refine fR0 rfl ⟨⟩ ?_;have SF := g0;have d0 : RdE M b0 q3a [.int .i64 1, .int .i64 1, .int .i64 1, .slice none 0 0] := d3a i1 i1 i1;have n0 : RdE M b0 (A0c a0) [.int .i64 2, .int .i64 1, .int .i64 a0, .slice none 0 0] := d3a i2 i1 h2;have s1 : m5c M b0 (.slice (some ⟨I0, 0, none⟩) 1 1) [⟨f0, q3a⟩] := c4c (U0a hM (SF.new 2 rfl)) (SF.cells 2 rfl) rfl ⟨_, rfl, h1, d0⟩;have s2 : m5c M b0 (.slice (some ⟨J0, 0, none⟩) 1 1) [⟨j0, A0c a0⟩] := c4c (U0a hM (SF.new 1 rfl)) (SF.cells 1 rfl) rfl ⟨_, rfl, h3, n0⟩;have F0 : S6c M b0 (.slice (some ⟨G0, 0, none⟩) 3 3) [q3a, q3a, q3a] := T8c (c := [_, _, _, _]) (c2 := [_, _, _, _]) (c3 := [_, _, _, _]) (U0a hM (SF.new 4 rfl)) (SF.cells 4 rfl) rfl rfl rfl d0 d0 d0;have m1 : RdI M b0 (.slice (some ⟨H0, 0, none⟩) 3 3) [0, 0, 0] := w4a SF (k := 3) rfl (U0a hM (SF.new 3 rfl)) rfl (by omega) (by simp [i0]);have st : I8c M b0 (.slice (some ⟨K0, 0, none⟩) 2 2) [⟨3, 0, 1, q3a, [⟨f0, q3a⟩], false, 0, 0⟩, ⟨2, 1, 2, q3a, [⟨j0, A0c a0⟩], false, 0, 0⟩] := J6c (c := [_, _, _, _, _, _, _, _, _, _, _]) (c2 := [_, _, _, _, _, _, _, _, _, _, _]) (U0a hM (SF.new 0 rfl)) (SF.cells 0 rfl) rfl rfl ⟨_, _, _, _, _, rfl, i3, i0, i1, i0, i0, d0, s1⟩ ⟨_, _, _, _, _, rfl, i2, i1, i2, i0, i0, d0, s2⟩;exact r1a rfl E9b rfl (SF.cells 5 rfl) rfl ⟨⟨_, rfl, _, _, _, _, rfl, i3, F0, m1, st, z4a⟩, SF.fin⟩
theorem B2c (w0 : World) :
 M0a Tryz.prog 18 #[] w0 fun v w' => (∃ cs : List Value, v = .agg cs.toArray ∧ k1a [] w' K1a cs) ∧ Below w0.heap.size w0 w' := by
 have S := St.refl w0;have i0 : i64 0 := by unfold i64; omega
 have i1 : i64 1 := by unfold i64; omega
 have i2 : i64 2 := by unfold i64; omega
 have i3 : i64 3 := by unfold i64; omega
 have im : i64 (-1) := by unfold i64; omega
 refine a0a Tryz.func18 rfl Tryz.ntmps18 rfl ?_;refine wO0 rfl ⟨⟩ (n0a S m4c rfl rfl ?_);intro g0 w0 S0 X0 G0;refine lO0 rfl ⟨⟩ (g0a S0 k0b rfl rfl (B9a _ _ _) ?_);intro w3 S3 X3;refine n0a S3 S6a rfl rfl ?_;intro g1 w1 S1 X1 G1;refine e0a (kk := 0) (vs := [_, _, _, _]) S1 T5a rfl rfl rfl rfl rfl rfl rfl ?_;intro N0 d0 F0;dsimp only [k0a, List.set] at d0;refine lO0 rfl ⟨⟩ (F1a rfl rfl ?_);refine lC0 rfl ⟨⟩ (m4b b0a [0, 1, 2, 3, 4, 5, 6, 7, 8, 9, 10, 11, 12, 13, 14, 15] 16 (by kernel_rfl) (by kernel_rfl) (Cl _ _ _ _) (Cl.start d0) (fun i => if i = 11 then some (44, #[.string ⟨#[97]⟩, .int .i64 0, .int .i64 1, .int .i64 2, .pointer (some ⟨g1, 0, none⟩)], x2c, thQ [g0] (n3b ⟨#[97]⟩ 0 1 2)) else if i = 13 then some (44, #[.string ⟨#[98]⟩, .int .i64 1, .int .i64 0, .int .i64 3, .pointer (some ⟨g1, 0, none⟩)], x2c, thQ [g0] (n3b ⟨#[98]⟩ 1 0 3)) else none) ?_ _ rfl ?_)
 ·intro i f a Qp Qw hi;by_cases p0 : i = 11
  ·subst p0; cases hi; exact ⟨P0b, v6b _ _, fun w hC => (i3b ⟨#[97]⟩ 0 1 2 i0 i1 i2 g1 [g0] w (fun g hg => by rw [List.mem_singleton] at hg; subst hg; exact hC.1.lt 1 rfl) (hC.1.cells 0 rfl)).mono (fun u w' hr => ⟨⟨w8b hr.1, hr.1⟩, hC.later hr.2⟩)⟩
  by_cases q0 : i = 13
  ·subst q0; cases hi; exact ⟨P0b, v6b _ _, fun w hC => (i3b ⟨#[98]⟩ 1 0 3 i1 i0 i3 g1 [g0] w (fun g hg => by rw [List.mem_singleton] at hg; subst hg; exact hC.1.lt 1 rfl) (hC.1.cells 0 rfl)).mono (fun u w' hr => ⟨⟨w8b hr.1, hr.1⟩, hC.later hr.2⟩)⟩
  ·simp only [p0, q0, if_false] at hi; cases hi
 refine g5a rfl rfl ?_;refine h2a o1b (vs := [(0, .string _), (1, .int .i64 _), (3, .int .i64 _)]) (cs := [_, _, _, _, _, _]) rfl rfl rfl rfl ?_;refine d0a ?_;refine g5a rfl rfl ?_;refine h2a o1b (vs := [(0, .string _), (1, .int .i64 _), (3, .int .i64 _)]) (cs := [_, _, _, _, _, _]) rfl rfl rfl rfl ?_;refine d0a ?_;refine g5a rfl rfl ?_;refine h2a o1b (vs := [(0, .string _), (1, .int .i64 _), (2, .int .i64 _)]) (cs := [_, _, _, _, _, _]) rfl rfl rfl rfl ?_;refine d0a ?_;refine g5a rfl rfl ?_;refine h2a o1b (vs := [(0, .string _), (1, .int .i64 _), (2, .int .i64 _), (3, .int .i64 _)]) (cs := [_, _, _, _, _, _]) rfl rfl rfl rfl ?_;refine d0a ?_;refine S3a rfl rfl rfl r5a (vs := [.agg _, .agg _, .agg _, .agg _]) (cs := [_, _, _, _, _, _, _, _, _, _, _, _, _, _, _, _, _, _, _, _, _, _, _, _]) (by rfl) rfl rfl rfl rfl rfl ?_;intro g9 G9 L0;refine g5a rfl rfl ?_;refine H1a w1a rfl (fun w1 hw => hw.1.cells 0 rfl) rfl rfl ?_;refine d0a ?_;refine g5a rfl rfl ?_;refine H1a w1a rfl (fun w1 hw => hw.1.cells 0 rfl) rfl rfl ?_;refine d0a ?_;refine S3a rfl rfl rfl Y0a (vs := [.int .i64 _, .int .i64 _]) (cs := [_, _]) (by rfl) rfl rfl rfl rfl rfl ?_;intro H0 C0 y0;refine g5a rfl rfl ?_;refine h2a C6c (vs := [(0, .string _), (1, .string _), (2, .agg _), (3, .agg _), (4, .slice _ _ _)]) (cs := [_, _, _, _, _, _, _, _, _, _, _]) rfl rfl rfl rfl ?_;refine d0a ?_;refine S3a rfl rfl rfl d3c (vs := [.agg _]) (cs := [_, _, _, _, _, _, _, _, _, _, _]) (by rfl) rfl rfl rfl rfl rfl ?_;intro O0 D0 z0;refine g5a rfl rfl ?_;refine f1a (by conv => lhs; whnf) rfl ?_;refine d0a ?_;refine R1b (caps := #[.pointer (some ⟨g1, 0, none⟩)]) Y2c rfl rfl rfl rfl rfl rfl ?_;rintro Q0 ⟨a0, a1, a2, a3, a4, a5, a6, rfl⟩;refine g5a rfl rfl ?_;refine f1a (by conv => lhs; whnf) rfl ?_;refine d0a ?_;refine R1b (caps := #[.pointer (some ⟨g1, 0, none⟩)]) Y2c rfl rfl rfl rfl rfl rfl ?_;rintro R0 ⟨b0, b1, b2, b3, b4, b5, b6, rfl⟩;refine S3a rfl rfl rfl y5b (vs := [.agg _, .agg _]) (cs := [_, _, _, _, _, _, _, _, _, _, _, _, _, _]) (by rfl) rfl rfl rfl rfl rfl ?_;intro P0 E0 A0;refine g5a rfl rfl ?_;refine h2a D7c (vs := [(0, .slice _ _ _), (1, .slice _ _ _), (3, .slice _ _ _)]) (cs := [_, _, _, _]) rfl rfl rfl rfl ?_;refine d0a ?_;refine N5b ?_;rintro B0 ⟨e0, _⟩ ⟨⟨⟨⟨⟨⟨-, K0⟩, s0⟩, t0⟩, v0⟩, x0⟩, u0⟩;have n0 := w0a.refl [g0] B0;have o0 := w0a.refl [g0] B0;clear L0;replace e0 := e0.push_new d0 K0 G9;replace e0 := e0.push_more (L1 := [_]) d0 s0 C0 (by simpa [eq_comm] using y0);replace e0 := e0.push_more (L1 := [_, _]) d0 t0 D0 (by simpa [eq_comm] using z0);replace e0 := e0.push_more (L1 := [_, _, _]) d0 u0 E0 (by simpa [eq_comm] using A0);refine e0a (kk := 5) (vs := [_, _, _, _]) e0 K4c rfl rfl rfl rfl rfl rfl rfl ?_;intro j0 f0 h0;dsimp only [k0a, List.set] at f0;replace n0 := n0.fresh2 h0 (by first  | exact .inr (by simp));replace o0 := o0.fresh2 h0 (by first  | exact .inr (by simp));refine S0a ⟨rfl, ?_⟩;refine fR0 rfl ⟨⟩ ?_;have SF := f0;obtain ⟨ca, I0, hA⟩ := v0;obtain ⟨cb, J0, hB⟩ := x0;obtain rfl : [a0, a1, a2, a3, a4, a5, a6] = ca := by simpa using congrArg Array.toList (Value.agg.inj I0)
 obtain rfl : [b0, b1, b2, b3, b4, b5, b6] = cb := by simpa using congrArg Array.toList (Value.agg.inj J0)
 have r0 : RdE [] j0 q3a [.int .i64 1, .int .i64 1, .int .i64 1, .slice none 0 0] := d3a i1 i1 i1;have h1 := N0a.less (M' := []) (by simp) _ _ (N0a.keep n0 _ _ hA);have h2 := N0a.less (M' := []) (by simp) _ _ (N0a.keep o0 _ _ hB);have fr : RdI [] j0 (.slice (some ⟨H0, 0, none⟩) 2 2) [0, 1] := w4a SF (k := 2) rfl (by simp) rfl (by omega) (by simp [i0, i1]);refine r1a rfl y4a rfl (SF.cells 5 rfl) rfl ⟨⟨_, rfl, _, _, _, _, rfl, ?_, ?_, z4a, ?_⟩, SF.fin⟩
 ·exact J9c (c := [_, _, _, _, _, _]) (c2 := [_, _, _, _, _, _]) (c3 := [_, _, _, _, _, _]) (c4 := [_, _, _, _, _, _]) (by simp) (SF.cells 3 rfl) rfl rfl rfl rfl ⟨rfl, i1, i0, im, i0⟩ ⟨rfl, i1, i0, im, i0⟩ ⟨rfl, i1, i1, i0, i0⟩ ⟨rfl, i1, i1, i1, i0⟩
 ·exact c4c (by simp) (SF.cells 1 rfl) rfl ⟨_, _, _, _, _, _, _, _, _, rfl, r0, r0, fr⟩
 ·exact J6c (c := [_, _, _, _, _, _, _]) (c2 := [_, _, _, _, _, _, _]) (by simp) (SF.cells 0 rfl) rfl rfl h1 h2
theorem s8b (c : Int) (hc : i64 c) (M : List Nat) (w0 : World) (hM : ∀ x ∈ M, x < w0.heap.size) :
 M0a Tryz.prog 46 #[.int .i64 c] w0 fun v w' => (∃ cs : List Value, v = .agg cs.toArray ∧ RdE M w' (h5b c) cs) ∧ Below w0.heap.size w0 w' := by
 have S := St.refl w0;have i1 : i64 1 := by unfold i64; omega
 have i2 : i64 2 := by unfold i64; omega
 have i4 : i64 4 := by unfold i64; omega
 refine a0a Tryz.func46 rfl Tryz.ntmps46 rfl ?_;refine wO0 rfl ⟨⟩ (n0a S S6a rfl rfl ?_);intro g2 w2 S2 X2 G2;refine lO0 rfl ⟨⟩ (g0a S2 y6b rfl rfl (q6b _ _ _) ?_);intro w4 S4 X4;refine E0a S4 b1a (vs := [.agg _]) (cs := [_, _, _, _]) (by rfl) rfl rfl rfl rfl rfl rfl ?_;intro g5 w5 S5 X5 G5;refine j1a K3b (vs := [(0, .int .i64 _), (1, .int .i64 _), (3, .slice _ _ _)]) (cs := [_, _, _, _]) rfl rfl rfl rfl ?_;refine e0a (kk := 1) (vs := [_, _, _, _]) S5 T5a rfl rfl rfl rfl rfl rfl rfl ?_;intro d0 a0 b0;dsimp only [k0a, List.set] at a0;exact lR0 rfl ⟨⟩ (r1a rfl w1a rfl (a0.cells 1 rfl) rfl ⟨⟨_, rfl, j5c i4 i1 (U0a hM (a0.new 0 rfl)) (a0.cells 0 rfl) (d3a i2 i1 hc)⟩, a0.fin⟩)
theorem y1b (w0 : World) :
 M0a Tryz.prog 19 #[] w0 fun v w' => (∃ cs : List Value, v = .agg cs.toArray ∧ b4a [] w' cs t1b) ∧ Below w0.heap.size w0 w' := by
 have S := St.refl w0;have i0 : i64 0 := by unfold i64; omega
 have i1 : i64 1 := by unfold i64; omega
 have i2 : i64 2 := by unfold i64; omega
 have i3 : i64 3 := by unfold i64; omega
 have h0 : ∀ {w : World} {g t : Nat} {cs : List Value}, o0a w (g, t, cs) → ∀ x ∈ [g], x < w.heap.size := fun h x hx => by rw [List.mem_singleton] at hx; subst hx; exact h.lt
 refine a0a Tryz.func19 rfl Tryz.ntmps19 rfl ?_;refine wO0 rfl ⟨⟩ (n0a S b9c rfl rfl ?_);intro g0 w0 S0 X0 G0;refine lO0 rfl ⟨⟩ (s4a u3c rfl rfl rfl (s8b 2 i2 [g0] _ (h0 (S0.blk 0 rfl))) ?_);rintro v3 w3 ⟨⟨_, rfl, r3⟩, B3⟩;obtain ⟨_, _, _, rfl, -⟩ := r3.open_;have S3 := S0.later B3;refine lO0 rfl ⟨⟩ (s4a u3c rfl rfl rfl (s8b 3 i3 [g0] _ (h0 (S3.blk 0 rfl))) ?_);rintro v5 w5 ⟨⟨_, rfl, r5⟩, B5⟩;obtain ⟨_, _, _, rfl, -⟩ := r5.open_;have S5 := S3.later B5;replace r3 := RdE.keep (w0a.of_below B5) _ _ r3;refine g0a S5 y6b rfl rfl (q6b _ _ _) ?_;intro w6 S6 X6;replace r3 := RdE.keep (X6.of_nil) _ _ r3;replace r5 := RdE.keep (X6.of_nil) _ _ r5;refine g0a S6 y6b rfl rfl (q6b _ _ _) ?_;intro w7 S7 X7;replace r3 := RdE.keep (X7.of_nil) _ _ r3;replace r5 := RdE.keep (X7.of_nil) _ _ r5;refine E0a S7 b1a (vs := [.agg _, .agg _, .agg _, .agg _]) (cs := [_, _, _, _, _, _, _, _, _, _, _, _, _, _, _, _]) (by rfl) rfl rfl rfl rfl rfl rfl ?_;intro g8 w8 S8 X8 G8;replace r3 := RdE.keep (X8.of_nil) _ _ r3;replace r5 := RdE.keep (X8.of_nil) _ _ r5;have hL : RdL [g0] w8 (.slice (some ⟨g8, 0, none⟩) 4 4) [h5b 2, h5b 3, A0c 0, A0c 1] := k9c (ca := [_, _, _, _]) (cb := [_, _, _, _]) (cc := [_, _, _, _]) (cd := [_, _, _, _]) (fun hh => by rw [List.mem_singleton] at hh; exact S8.ne 0 1 rfl rfl (by decide) hh) (S8.cells 0 rfl) r3 r5 (d3a i2 i1 i0) (d3a i2 i1 i1);refine B0a S8 e7c rfl rfl (t1c [h5b 2, h5b 3, A0c 0, A0c 1] [g0] _ _ hL (h0 (S8.blk 1 rfl)) (by decide +kernel) (by decide +kernel) (by decide +kernel)) ?_;rintro v9 w9 ⟨_, rfl, r9⟩ S9 X9;obtain ⟨_, _, _, rfl, -⟩ := r9.open_;refine j1a I3b (vs := [(0, .int .i64 _), (1, .int .i64 _), (2, .agg _)]) (cs := [_, _, _, _, _, _]) rfl rfl rfl rfl ?_;refine e0a (kk := 1) (vs := [_, _, _, _, _, _]) S9 t9c rfl rfl rfl rfl rfl rfl rfl ?_;intro d0 a0 b0;dsimp only [k0a, List.set] at a0;replace r9 := RdE.keep (b0.mono (by simp)) _ _ r9;exact lR0 rfl ⟨⟩ (r1a rfl k4b rfl (a0.cells 1 rfl) rfl ⟨⟨_, rfl, _, rfl, RdE.less (by simp) _ _ r9, i1, i2⟩, a0.nil.fin⟩)
theorem U2b : (Z1a x8a)[0]? = some (X0a K1a) := by kernel_rfl
theorem D8b : (Z1a y8a)[0]? = some (X0a K1a) := by kernel_rfl
theorem L6c : ∀ y ∈ x8a, E2a y.conf t1b = false := fun y hy => by
 have := List.all_eq_true.1 t2c y hy;simpa using this
theorem q8c : y8a[31]? = some ⟨⟨[1, 1, 0, 0], [2, 2], [[], []]⟩, 24, ⟨1, -1, 1⟩⟩ := by kernel_rfl
theorem g2c {x : r0a} (h : (Z1a x8a)[0]? = some x) : X0a K1a = x := Option.some.inj (U2b.symm.trans h)
theorem u6c : (Z1a x8a).length = 13 := by kernel_rfl
theorem e6c : (Z1a y8a).length = 34 := by kernel_rfl
theorem T2c {P : Program} {N : Nat} {ops : Array Oper} {rest : List Oper} {C : World → Prop} {K : Env → Prop} {e : Env} {d : Nat} {t : TypeId} {p : String} {af : Array Edge} {x : Operand} {s f b0 n : Nat} {cs : Array Value} {ds : List Value} {fs gs : Array Field} {a0 : Field} (hu : P.underlying s = some (.struct fs)) (hf : fs[f]? = some a0) (ho : a0.offset = b0) (e0 : P.underlying a0.type = some (.struct gs)) (hz : Sz P a0.type n) (hx : ev e x = .agg cs) (f0 : (cs.toList.drop b0).take n = ds) (hd : Nat.ble (d + 1) N = true) (h : QL P N ops C rest K (upd e d (.agg ds.toArray))) :
 QL P N ops C (⟨some d, .field s x f, t, p, af, none⟩ :: rest) K e := by
 have d0 : ∀ w, (isAgg a0.type).run P w = .ok true w := fun w => by simp only [isAgg, Sem.run_bind, run_underlying e0, Result.andThen_ok]; rfl
 have he : cs.extract b0 (b0 + n) = ds.toArray := by
  subst f0;apply Array.ext';simp
 exact w3a rfl rfl hd (fun w _ => by simp [execOp, hx, Instr.field, run_underlying hu, hf, asAgg, part, d0, ho, hz w, he]) h
theorem A9c (w0 : World) (cs : List Value) (hI : InP K1a [] w0 cs) :
 M0a Tryz.prog 8 #[.agg cs.toArray, .int .i64 0, .int .i64 2000] w0 fun r w' => (∃ A c, r = .tuple #[.slice A 13 c, .int .i64 0] ∧ n9c [] w' (.slice A 13 c) (Z1a x8a)) ∧ Below w0.heap.size w0 w' :=
 (c6a K1a 0 (.inl rfl) 2000 (by omega) (by omega) [] w0 cs hI).mono fun r w' ⟨⟨v, l, a0, hr, hv, hd⟩, hb⟩ => by
   obtain ⟨rfl, rfl⟩ := (U7a S7a (by decide) hd).1 (by decide);obtain ⟨A, n, c, rfl⟩ := hv.form;obtain rfl : n = 13 := hv.len.1;exact ⟨⟨A, c, hr, hv⟩, hb⟩
theorem p9c (w0 : World) (cs : List Value) (hI : InP K1a [] w0 cs) :
 M0a Tryz.prog 8 #[.agg cs.toArray, .int .i64 1, .int .i64 2000] w0 fun r w' => (∃ A c, r = .tuple #[.slice A 34 c, .int .i64 0] ∧ n9c [] w' (.slice A 34 c) (Z1a y8a)) ∧ Below w0.heap.size w0 w' :=
 (c6a K1a 1 (.inr (.inl rfl)) 2000 (by omega) (by omega) [] w0 cs hI).mono fun r w' ⟨⟨v, l, a0, hr, hv, hd⟩, hb⟩ => by
   obtain ⟨rfl, rfl⟩ := (U7a A7a (by decide) hd).1 (by decide);obtain ⟨A, n, c, rfl⟩ := hv.form;obtain rfl : n = 34 := hv.len.1;exact ⟨⟨A, c, hr, hv⟩, hb⟩
theorem q6c (w0 : World) (cs : List Value) (hI : InP K1a [] w0 cs) :
 M0a Tryz.prog 8 #[.agg cs.toArray, .int .i64 1, .int .i64 33] w0 fun r w' => (∃ A n c, r = .tuple #[.slice A n c, .int .i64 2]) ∧ Below w0.heap.size w0 w' :=
 (c6a K1a 1 (.inr (.inl rfl)) 33 (by omega) (by omega) [] w0 cs hI).mono fun r w' ⟨⟨v, l, a0, hr, hv, hd⟩, hb⟩ => by
   obtain ⟨rfl, rfl⟩ := (U7a A7a (by decide) hd).2 (by decide);obtain ⟨A, n, c, rfl⟩ := hv.form;exact ⟨⟨A, n, c, hr⟩, hb⟩
theorem Z8c (w0 : World) (cs gs : List Value) (hI : InP K1a [] w0 cs) (hG : b4a [] w0 gs t1b) :
 M0a Tryz.prog 16 #[.agg cs.toArray, .int .i64 0, .agg gs.toArray, .int .i64 2000] w0 fun r w' => (∃ A n c, r = .tuple #[.slice A n c, .int .i64 4]) ∧ Below w0.heap.size w0 w' :=
 (b7a K1a 0 (.inl rfl) 2000 (by omega) (by omega) t1b [] w0 cs gs hI hG).mono fun r w' ⟨⟨v, l, a0, hr, hv, hd⟩, hb⟩ => by
   obtain rfl := j7b S7a (by decide) (by decide) N4c L6c hd;obtain ⟨A, n, c, rfl⟩ := hv.form;exact ⟨⟨A, n, c, hr⟩, hb⟩
theorem Q9c (w0 : World) (cs gs : List Value) (hI : InP K1a [] w0 cs) (hG : b4a [] w0 gs E6b) :
 M0a Tryz.prog 16 #[.agg cs.toArray, .int .i64 1, .agg gs.toArray, .int .i64 2000] w0 fun r w' => (∃ A c, r = .tuple #[.slice A 6 c, .int .i64 0]) ∧ Below w0.heap.size w0 w' :=
 (b7a K1a 1 (.inr (.inl rfl)) 2000 (by omega) (by omega) E6b [] w0 cs gs hI hG).mono fun r w' ⟨⟨v, l, a0, hr, hv, hd⟩, hb⟩ => by
   obtain ⟨rfl, rfl⟩ := t0b (k := 31) (acc := fun c => E2a c E6b) A7a (show 31 < 2000 from by omega) V5c q1c q8c N2c hd (show (D4a (y8a.take 32) 32 31).length ≤ 120 from by rw [A5b]; omega);obtain ⟨A, n, c, rfl⟩ := hv.form;obtain rfl : n = 6 := by rw [hv.len.1, List.length_reverse]; exact A5b
   exact ⟨⟨A, c, hr⟩, hb⟩
theorem d9c (w0 : World) (cs gs : List Value) (hI : InP K1a [] w0 cs) (hG : b4a [] w0 gs (S9a (-1))) :
 M0a Tryz.prog 16 #[.agg cs.toArray, .int .i64 0, .agg gs.toArray, .int .i64 1] w0 fun r w' => (∃ A c, r = .tuple #[.slice A 0 c, .int .i64 0]) ∧ Below w0.heap.size w0 w' :=
 (b7a K1a 0 (.inl rfl) 1 (by omega) (by omega) (S9a (-1)) [] w0 cs gs hI hG).mono fun r w' ⟨⟨v, l, a0, hr, hv, hd⟩, hb⟩ => by
   obtain ⟨rfl, rfl⟩ := t0b (k := 0) (acc := fun c => E2a c (S9a (-1))) S7a (by decide) z5c rfl rfl c2c hd (by rw [i6b]; decide);obtain ⟨A, n, c, rfl⟩ := hv.form;obtain rfl : n = 0 := by rw [hv.len.1, List.length_reverse]; exact i6b
   exact ⟨⟨A, c, hr⟩, hb⟩
theorem M9c (w0 : World) (cs gs : List Value) (hI : InP K1a [] w0 cs) (hG : b4a [] w0 gs (S9a 2)) :
 M0a Tryz.prog 16 #[.agg cs.toArray, .int .i64 0, .agg gs.toArray, .int .i64 2000] w0 fun r w' => (∃ A n c, r = .tuple #[.slice A n c, .int .i64 1]) ∧ Below w0.heap.size w0 w' :=
 (b7a K1a 0 (.inl rfl) 2000 (by omega) (by omega) (S9a 2) [] w0 cs gs hI hG).mono fun r w' ⟨⟨v, l, a0, hr, hv, hd⟩, hb⟩ => by
   obtain ⟨A, n, c, rfl⟩ := hv.form;rcases hd with ⟨_, rfl, _⟩ | ⟨_, _, _, _, _, _, _, h, _⟩ | ⟨h, _⟩ | ⟨h, _⟩
   ·exact ⟨⟨A, n, c, hr⟩, hb⟩
   all_goals (rw [A6c] at h; cases h)
theorem W7b (w0 : World) (hK : a3a [] w0) :
 M0a Tryz.prog 6 #[] w0 fun v w' => v = .bool true ∧ Below w0.heap.size w0 w' := by
 have S := St.refl w0;have i0 : i64 0 := by unfold i64; omega
 have i1 : i64 1 := by unfold i64; omega
 have i2 : i64 2 := by unfold i64; omega
 have im : i64 (-1) := by unfold i64; omega
 have l0 := u6c;have l1 := e6c;refine a0a Tryz.func6 rfl Tryz.ntmps6 rfl ?_;refine wO0 rfl ⟨⟩ (B0a S o7c rfl rfl (B2c _) ?_);rintro D2 u2 ⟨_, rfl, hP⟩ W1 C2;have KP := w0a.refl [] u2;obtain ⟨_, _, _, _, _, _, _, _, _, _, _, _, rfl, -⟩ := hP.open_;refine n0a W1 m4c rfl rfl ?_;intro g1 w1 S1 X1 G1;have S0 := Nat.le_trans KP.size G1;replace KP := KP.trans X1
 first | refine e0a (kk := 0) (vs := [_, _, _, _]) S1 K4c rfl rfl rfl rfl rfl rfl rfl ?_
 intro v2 o0 b1;dsimp only [k0a, List.set] at o0;replace KP := KP.fresh b1 (by first | exact S0);refine lO o0.k [.w 0] rfl ⟨⟨rfl,by rfl⟩,⟨⟩⟩ (B0a o0 O8b rfl rfl (A9c _ _ ⟨hP.keep KP, k3a, hK.keep (o0.keep0 []), by simp⟩) ?_);rintro E2 w2 ⟨_, _, rfl, hA⟩ U0 b2;replace KP := KP.trans b2;have KA := w0a.refl [] w2;refine lO U0.k [.w 0] rfl ⟨⟨rfl,by rfl⟩,⟨⟩⟩ (B0a U0 O8b rfl rfl (p9c _ _ ⟨hP.keep KP, k3a, hK.keep (U0.keep0 []), by simp⟩) ?_);rintro F2 x2 ⟨_, _, rfl, hB⟩ O1 P1;replace KP := KP.trans P1;replace KA := KA.trans P1;have KB := w0a.refl [] x2;refine lC0 rfl ⟨⟩ (D0a b0a [0, 1, 2, 3, 4, 5, 6, 7, 8, 9, 10, 11, 12, 13, 14, 15, 16, 17, 18, 19, 20, 21, 22, 23, 24, 25, 26, 27] [] [] (by kernel_rfl) rfl (Cl _ _ _ _) (Cl.start O1) ?_);refine qB0 rfl ⟨⟩ (fun g2 => by exfalso; omega) fun g2 => ?_;refine qB0 rfl ⟨⟩ (fun h2 => by exfalso; omega) fun h2 => ?_;refine qB0 rfl ⟨⟩ (fun j2 => by exfalso; omega) fun j2 => ?_;refine qB0 rfl ⟨⟩ (fun m2 => by exfalso; omega) fun m2 => ?_;obtain ⟨x0, d2, q2, _, I1, B1, _, F1, D1, L0⟩ := RdS.get ((RdS.keepW hA KA (g3a.keep KA))) (0) (by omega);obtain ⟨_, _, _, _, _, _, _, _, _, rfl, _, _, _, _, _, _, _, _, _⟩ := t0a.open_ L0;obtain ⟨x1, f2, r2, _, J1, C1, _, H1, E1, N0⟩ := RdS.get ((RdS.keepW hB KB (g3a.keep KB))) (0) (by omega);obtain ⟨_, _, _, _, _, _, _, _, _, rfl, _, _, _, _, _, _, _, _, _⟩ := t0a.open_ N0;refine qO ((O1.q.b E1).b D1) [.x d2 q2,.v 0,.x f2 r2,.v 1] rfl ⟨⟨rfl,H1⟩,⟨C1,by omega⟩,⟨rfl,F1⟩,⟨B1,by omega⟩,⟨⟩⟩ (F2a J7c rfl rfl (fun w1 S1 X1 => j3b (j2b x0 x1 [] _ _ _ (t0a.keep X1.of_nil L0) (t0a.keep X1.of_nil N0)) (decide_eq_true (Option.some.inj ((I1.symm.trans U2b).trans (J1.symm.trans D8b).symm)))) ?_);refine qD rfl ⟨⟩ ?_;rintro V2 ⟨Z1, T1⟩;replace KP := KP.trans T1;replace KA := KA.trans T1;refine lC0 rfl ⟨⟩ (G8b b0a (fun i => [0, 3, 4, 5, 6, 7].contains i) [0, 1, 2, 3, 4, 5, 6, 7] (by kernel_rfl) (by kernel_rfl) (Cl _ _ _ _) (Cl.start Z1) ?_);rintro W2 ⟨Y0, C0⟩;replace KP := KP.trans C0;replace KA := KA.trans C0;refine N1a ⟨Y0, C0⟩ rfl rfl rfl ?_;refine H1a y4a rfl (fun w1 hw => hw.1.cells 0 rfl) rfl rfl ?_;refine d0a ?_;refine T9a ⟨Y0, C0⟩ rfl rfl rfl rfl ?_;refine B0a Y0 G9b rfl rfl (y1b _) ?_;rintro G2 y2 ⟨_, rfl, hZ⟩ V0 d1;have q0 := C0.trans d1;replace KP := KP.trans d1;replace KA := KA.trans d1;have KZ := w0a.refl [] y2;obtain ⟨_, rfl, p2, -⟩ := id hZ;obtain ⟨_, _, _, rfl, -⟩ := id p2.open_;refine S0a ⟨rfl, ?_⟩;refine T9a ⟨V0, q0⟩ rfl rfl rfl rfl ?_;refine B0a V0 h6b rfl rfl (Z8c _ _ _ ⟨hP.keep KP, k3a, hK.keep (V0.keep0 []), by simp⟩ (hZ.keep KZ)) ?_;rintro H2 O2 ⟨_, _, _, rfl⟩ t0 f1;have a0 := q0.trans f1;replace KP := KP.trans f1;replace KA := KA.trans f1;refine S0a ⟨rfl, ?_⟩;refine N1a ⟨t0, a0⟩ rfl rfl rfl ?_;refine f1a (v := .tuple _) rfl rfl ?_;refine d0a ?_;refine N1a ⟨t0, a0⟩ rfl rfl rfl ?_;refine j2a rfl rfl rfl ?_;refine d0a ?_;refine N1a ⟨t0, a0⟩ rfl rfl rfl ?_;refine j2a rfl rfl rfl ?_;refine d0a ?_;refine N1a ⟨t0, a0⟩ rfl rfl rfl ?_;refine e3a (v := .slice _ _ _) rfl rfl ?_;refine d0a ?_;refine N1a ⟨t0, a0⟩ rfl rfl rfl ?_;refine e3a (v := .int .i64 _) rfl rfl ?_;refine d0a ?_;refine K5a ⟨t0, a0⟩ ?_;refine fC0 rfl ⟨⟩ (G8b b0a (fun i => [0, 2, 3, 5, 6, 7, 8, 9].contains i) [0, 1, 2, 3, 4, 5, 6, 7, 8, 9] (by kernel_rfl) (by kernel_rfl) (Cl _ _ _ _) (Cl.start t0) ?_);rintro X2 ⟨Z0, D0⟩;replace KP := KP.trans D0;replace KA := KA.trans D0;refine N1a ⟨Z0, D0⟩ rfl rfl rfl ?_;refine H1a y4a rfl (fun w1 hw => hw.1.cells 0 rfl) rfl rfl ?_;refine d0a ?_;refine T9a ⟨Z0, D0⟩ rfl rfl rfl rfl ?_;refine B0a Z0 G9b rfl rfl (y1b _) ?_;rintro I2 z2 ⟨_, rfl, hY⟩ A0 h1;have f0 := D0.trans h1;replace KP := KP.trans h1;replace KA := KA.trans h1;have KY := w0a.refl [] z2;obtain ⟨_, rfl, V1, -⟩ := id hY;obtain ⟨_, _, _, rfl, -⟩ := id V1.open_;refine S0a ⟨rfl, ?_⟩;refine N1a ⟨A0, f0⟩ rfl rfl rfl ?_;refine T2c Tryz.underlying55 rfl rfl Tryz.underlying53 T5a rfl rfl rfl ?_;refine d0a ?_;refine N1a ⟨A0, f0⟩ rfl rfl rfl ?_;refine h2a I3b (vs := [(0, .int .i64 _), (2, .agg _)]) (cs := [_, _, _, _, _, _]) rfl rfl rfl rfl ?_;refine d0a ?_;refine T9a ⟨A0, f0⟩ rfl rfl rfl rfl ?_;refine B0a A0 h6b rfl rfl (Q9c _ _ _ ⟨hP.keep KP, k3a, hK.keep (A0.keep0 []), by simp⟩ ⟨_, rfl, RdE.keep KY _ _ V1, im, i0⟩) ?_;rintro J2 P2 ⟨_, _, rfl⟩ u0 j1;have b0 := f0.trans j1;replace KP := KP.trans j1;replace KA := KA.trans j1;refine S0a ⟨rfl, ?_⟩;refine N1a ⟨u0, b0⟩ rfl rfl rfl ?_;refine f1a (v := .tuple _) rfl rfl ?_;refine d0a ?_;refine N1a ⟨u0, b0⟩ rfl rfl rfl ?_;refine j2a rfl rfl rfl ?_;refine d0a ?_;refine N1a ⟨u0, b0⟩ rfl rfl rfl ?_;refine j2a rfl rfl rfl ?_;refine d0a ?_;refine N1a ⟨u0, b0⟩ rfl rfl rfl ?_;refine e3a (v := .slice _ _ _) rfl rfl ?_;refine d0a ?_;refine N1a ⟨u0, b0⟩ rfl rfl rfl ?_;refine e3a (v := .int .i64 _) rfl rfl ?_;refine d0a ?_;refine K5a ⟨u0, b0⟩ ?_;refine fC0 rfl ⟨⟩ (G8b b0a (fun i => [0, 2, 4, 5, 6, 7, 8].contains i) [0, 1, 2, 3, 4, 5, 6, 7, 8] (by kernel_rfl) (by kernel_rfl) (Cl _ _ _ _) (Cl.start u0) ?_);rintro Y2 ⟨a1, E0⟩;replace KP := KP.trans E0;replace KA := KA.trans E0;refine N1a ⟨a1, E0⟩ rfl rfl rfl ?_;refine H1a y4a rfl (fun w1 hw => hw.1.cells 0 rfl) rfl rfl ?_;refine d0a ?_;refine T9a ⟨a1, E0⟩ rfl rfl rfl rfl ?_;refine g0a a1 k0b rfl rfl (B9a _ _ _) ?_;intro Q2 Q0 m1;have g0 := E0.trans m1;replace KP := KP.trans m1;replace KA := KA.trans m1;refine S0a ⟨rfl, ?_⟩;refine N1a ⟨Q0, g0⟩ rfl rfl rfl ?_;refine h2a I3b (vs := [(0, .int .i64 _), (2, .agg _)]) (cs := [_, _, _, _, _, _]) rfl rfl rfl rfl ?_;refine d0a ?_;refine T9a ⟨Q0, g0⟩ rfl rfl rfl rfl ?_;refine B0a Q0 h6b rfl rfl (d9c _ _ _ ⟨hP.keep KP, k3a, hK.keep (Q0.keep0 []), by simp⟩ ⟨_, rfl, d3a i1 i1 i1, im, i0⟩) ?_;rintro K2 R2 ⟨_, _, rfl⟩ p0 n1;have d0 := g0.trans n1;replace KP := KP.trans n1;replace KA := KA.trans n1;refine S0a ⟨rfl, ?_⟩;refine N1a ⟨p0, d0⟩ rfl rfl rfl ?_;refine f1a (v := .tuple _) rfl rfl ?_;refine d0a ?_;refine N1a ⟨p0, d0⟩ rfl rfl rfl ?_;refine j2a rfl rfl rfl ?_;refine d0a ?_;refine N1a ⟨p0, d0⟩ rfl rfl rfl ?_;refine j2a rfl rfl rfl ?_;refine d0a ?_;refine N1a ⟨p0, d0⟩ rfl rfl rfl ?_;refine e3a (v := .slice _ _ _) rfl rfl ?_;refine d0a ?_;refine N1a ⟨p0, d0⟩ rfl rfl rfl ?_;refine e3a (v := .int .i64 _) rfl rfl ?_;refine d0a ?_;refine K5a ⟨p0, d0⟩ ?_;refine fO p0.k [.w 0] rfl ⟨by omega,⟨rfl,by rfl⟩,⟨⟩⟩ (B0a p0 O8b rfl rfl (q6c _ _ ⟨hP.keep KP, k3a, hK.keep (p0.keep0 []), by simp⟩) ?_);rintro L2 S2 ⟨_, _, _, rfl⟩ W0 Q1;replace KP := KP.trans Q1;replace KA := KA.trans Q1;refine lO W0.k [.w 0] rfl ⟨⟨rfl,by rfl⟩,⟨⟩⟩ (g0a W0 O8b rfl rfl (U4b K1a 3 2000 rfl [] _ _ ⟨hP.keep KP, k3a, hK.keep (W0.keep0 []), by simp⟩) ?_);intro T2 Y1 R1;replace KP := KP.trans R1;replace KA := KA.trans R1;refine lC0 rfl ⟨⟩ (G8b b0a (fun i => [0, 2, 4, 5, 6, 7, 8].contains i) [0, 1, 2, 3, 4, 5, 6, 7, 8] (by kernel_rfl) (by kernel_rfl) (Cl _ _ _ _) (Cl.start Y1) ?_);rintro B2 ⟨v0, j0⟩;replace KP := KP.trans j0;replace KA := KA.trans j0;refine N1a ⟨v0, j0⟩ rfl rfl rfl ?_;refine H1a y4a rfl (fun w1 hw => hw.1.cells 0 rfl) rfl rfl ?_;refine d0a ?_;refine T9a ⟨v0, j0⟩ rfl rfl rfl rfl ?_;refine g0a v0 k0b rfl rfl (B9a _ _ _) ?_;intro U2 R0 o1;have h0 := j0.trans o1;replace KP := KP.trans o1;replace KA := KA.trans o1;refine S0a ⟨rfl, ?_⟩;refine N1a ⟨R0, h0⟩ rfl rfl rfl ?_;refine h2a I3b (vs := [(0, .int .i64 _), (2, .agg _)]) (cs := [_, _, _, _, _, _]) rfl rfl rfl rfl ?_;refine d0a ?_;refine T9a ⟨R0, h0⟩ rfl rfl rfl rfl ?_;refine B0a R0 h6b rfl rfl (M9c _ _ _ ⟨hP.keep KP, k3a, hK.keep (R0.keep0 []), by simp⟩ ⟨_, rfl, d3a i1 i1 i1, i2, i0⟩) ?_;rintro N2 A2 ⟨_, _, _, rfl⟩ n0 p1;have e0 := h0.trans p1;replace KP := KP.trans p1;replace KA := KA.trans p1;have U1 : InP K1a [] A2 _ := ⟨hP.keep KP, k3a, hK.keep (n0.keep0 []), by simp⟩;refine S0a ⟨rfl, ?_⟩;refine N1a ⟨n0, e0⟩ rfl rfl rfl ?_;refine f1a (v := .tuple _) rfl rfl ?_;refine d0a ?_;refine N1a ⟨n0, e0⟩ rfl rfl rfl ?_;refine j2a rfl rfl rfl ?_;refine d0a ?_;refine N1a ⟨n0, e0⟩ rfl rfl rfl ?_;refine j2a rfl rfl rfl ?_;refine d0a ?_;refine N1a ⟨n0, e0⟩ rfl rfl rfl ?_;refine e3a (v := .slice _ _ _) rfl rfl ?_;refine d0a ?_;refine N1a ⟨n0, e0⟩ rfl rfl rfl ?_;refine e3a (v := .int .i64 _) rfl rfl ?_;refine d0a ?_;refine K5a ⟨n0, e0⟩ ?_;refine fC0 rfl ⟨⟩ (D0a b0a [0, 1, 2, 3, 4, 5, 6, 7, 8, 9, 10, 11, 12, 13, 14, 15, 16, 17, 18, 19, 20, 21, 22, 23, 24, 25, 26, 27, 28, 29, 30, 31, 32, 33, 34, 35, 36, 37, 38, 39, 40, 41, 42, 43, 44, 45] [46] [47, 48, 49, 50] (by kernel_rfl) rfl (Cl _ _ _ _) (Cl.start n0) ?_);refine qB0 rfl ⟨⟩ (fun n2 => ?_) (fun n2 => by exfalso; omega);refine qB0 rfl ⟨⟩ (fun s1 => ?_) (fun s1 => by exfalso; omega);refine qB0 rfl ⟨⟩ (fun t1 => ?_) (fun t1 => by exfalso; omega);refine qB0 rfl ⟨⟩ (fun u1 => ?_) (fun u1 => by exfalso; omega);refine qB0 rfl ⟨⟩ (fun v1 => ?_) (fun v1 => by exfalso; omega);refine qB0 rfl ⟨⟩ (fun y1 => ?_) (fun y1 => by exfalso; omega);refine qB0 rfl ⟨⟩ (fun z1 => ?_) (fun z1 => by exfalso; omega);refine qB0 rfl ⟨⟩ (fun A1 => ?_) (fun A1 => by exfalso; omega);obtain ⟨y0, q1, K1, _, O0, F0, _, J0, H0, r0⟩ := RdS.get ((RdS.keepW hA KA (g3a.keep KA))) (0) (by omega);obtain ⟨_, _, _, _, _, _, _, _, _, rfl, _, _, _, _, _, _, _, _, _⟩ := t0a.open_ r0;refine qO (n0.q.b H0) [.w 0,.x q1 K1,.v 0] rfl ⟨⟨rfl,J0⟩,⟨F0,by omega⟩,⟨rfl,by rfl⟩,⟨⟩⟩ (F2a k0b rfl rfl (fun w1 S1 X1 => B9a _ _ _) ?_);refine qO0 rfl ⟨⟩ (h2a I3b (vs := [(0, .int .i64 _), (2, .agg _)]) (cs := [_, _, _, _, _, _]) rfl rfl rfl rfl ?_);refine qO0 rfl ⟨⟩ ?_;refine F2a m3c rfl rfl (fun w1 S1 X1 => j3b (L3b K1a y0 (S9a 1) [] _ _ _ _ (U1.keep X1.of_nil) (t0a.keep X1.of_nil r0) (by rw [← g2c O0]; exact R5a k3a) ⟨_, rfl, d3a i1 i1 i1, i1, i0⟩) (by rw [← g2c O0]; exact h1c)) ?_;obtain ⟨z0, r1, M1, _, P0, G0, _, K0, I0, s0⟩ := RdS.get ((RdS.keepW hA KA (g3a.keep KA))) (0) (by omega);obtain ⟨_, _, _, _, _, _, _, _, _, rfl, _, _, _, _, _, _, _, _, _⟩ := t0a.open_ s0;refine qN (n0.q.b I0) [.w 0,.x r1 M1,.v 0] rfl ⟨⟨rfl,K0⟩,⟨G0,by omega⟩,⟨rfl,by rfl⟩,⟨⟩⟩ (t5a ?_);refine g2b (_) rfl rfl G9b rfl (fun v w w' ⟨cs, h, hr⟩ k => ⟨cs, h, hr.keep k.of_nil⟩) (fun w1 S1 X1 => y1b _) ?_;refine q2a ?_;rintro N1 ⟨X0, B0⟩;rintro s2 ⟨_, rfl, hX⟩;dsimp only [K3a];have KX := w0a.refl [] N1;obtain ⟨_, rfl, o2, -⟩ := id hX;obtain ⟨_, _, _, rfl, -⟩ := id o2.open_;refine lO0 rfl ⟨⟩ ?_;refine g0a X0 m3c rfl rfl (G6b (L3b K1a z0 t1b [] _ _ _ _ (U1.keep B0.of_nil) (t0a.keep B0.of_nil s0) (by rw [← g2c P0]; exact R5a k3a) (hX.keep KX)) (by rw [← g2c P0]; exact A1c)) ?_;intro t2 T0 a2;exact lT rfl ⟨⟩ rfl ⟨rfl, T0.fin⟩
section
variable {P : Program} {r : Option Nat} {N : Nat} {D : List Deferred} {e : Env} {w : World} {ops : Array Oper} {rest : List Oper} {K : List Deferred → Env → World → Prop} {d : Nat} {t : TypeId} {p : String} {af : Array Edge} {x y : Operand} {xt yt : TypeId}
theorem E2c {k el : TypeId} {o : Option Nat} (ht : P.underlying xt = some (.map k el)) (hx : ev e x = .map o) (hy : ev e y = .map none) (hd : Nat.ble (d + 1) N = true)
 (h1 : ∀ g, o = some g → WL P r N ops rest K D (upd e d (.bool true)) w) (h2 : o = none → WL P r N ops rest K D (upd e d (.bool false)) w) :
 WL P r N ops (⟨some d, .binOp .neq xt x y yt, t, p, af, none⟩ :: rest) K D e w := by
 have hr : (execOp (ev e) ⟨some d, .binOp .neq xt x y yt, t, p, af, none⟩).run P w = .ok (.value (.bool (!o.isNone))) w := by
  simp only [execOp, hx, hy, Sem.run_bind, eqGuard_at_map, Sem.run_pure, Result.andThen_ok, run_neq_map_nil w xt k el o ht]
 cases o with
 | none => exact c1a rfl rfl hd (by simp) hr (h2 rfl)
 | some g => exact c1a rfl rfl hd (by simp) hr (h1 g rfl)
end
def x7a (l : List r0a) : List (Value × Value) := l.map fun c => (.string (G7b c), .bool true)
theorem o0b (l : List r0a) (c : r0a) : x7a (l ++ [c]) = x7a l ++ [(.string (G7b c), .bool true)] := by simp [x7a]
theorem B7b {l : List r0a} {k v : Value} (h : (k, v) ∈ x7a l) : v = .bool true := by
 obtain ⟨_, _, he⟩ := List.mem_map.1 h;exact (Prod.mk.inj he).2.symm
theorem d9b {p : f0a} (hp : a1a p) {l : List r0a} {k : Nat} {c : r0a} (hn : l.Nodup) (hf : ∀ x ∈ l, F3a p x) (hc : l[k]? = some c) : ∀ x ∈ x7a (l.take k), x.1 ≠ Value.string (G7b c) := by
 intro x hx he;obtain ⟨y, hy, rfl⟩ := List.mem_map.1 hx;have h1 : G7b y = G7b c := by injection he
 obtain ⟨i, hi, h2⟩ := List.getElem_of_mem hy;have a0 : i < k := by rw [List.length_take] at hi; omega
 have b0 := (List.getElem?_eq_some_iff.1 hc).1;rw [List.getElem_take] at h2;have d0 : y ∈ l := by rw [← h2]; exact List.getElem_mem _
 have h3 := b1c hp (hf y d0) (hf c (List.mem_of_getElem? hc)) h1;have h4 := (List.nodup_iff_pairwise_ne.1 hn);rw [List.pairwise_iff_getElem] at h4;have h5 := h4 i k (by omega) b0 a0;rw [h2] at h5;exact h5 (h3.trans (List.getElem?_eq_some_iff.1 hc).2.symm)
theorem H8b {l : List r0a} {c : r0a} (h : c ∈ l) (hn : ∀ x ∈ x7a l, x.1 ≠ Value.string (G7b c)) : False :=
 hn _ (List.mem_map.2 ⟨c, h, rfl⟩) rfl
theorem w7b {p : f0a} (hp : a1a p) {m : Int} (hm : m = 0 ∨ m = 1) (c : r0a) (h : I3a (Q5a p m) (X0a p) c) : I3a (Q5a p (m + 1)) (X0a p) c := by
 rcases hm with rfl | rfl
 ·exact X1c hp h
 ·exact i1c h
theorem G8a (p : f0a) (w0 : World) (cs : List Value) (hP : k1a [] w0 p cs) (hN : z3b p) (hK : a3a [] w0) :
 M0a Tryz.prog 4 #[.agg cs.toArray] w0 fun v w' => v = .bool true ∧ Below w0.heap.size w0 w' := by
 obtain ⟨Ac, nc, cc, Am, nm, cm, Al, nl, cl, At, nt, ct, rfl, -⟩ := hP.open_;have S := St.refl w0;refine a0a Tryz.func4 rfl Tryz.ntmps4 rfl ?_;refine wO0 rfl ⟨⟩ (j0a S (by conv => lhs; whnf) rfl ?_);intro g1 w1 S1 X1 G1;refine lO0 rfl ⟨⟩ (g0a S1 U8c rfl rfl (W7b _ (hK.keep (S1.keep0 []))) ?_);intro C1 q0 u1;refine lO q0.k [.w 0] rfl ⟨⟨rfl,rfl⟩,⟨⟩⟩ (k8b q0 s9c rfl rfl (U6b p [] _ _ (hP.keep (q0.keep0 [])) (by simp) hN) (fun f0 t1 r0 R0 => ?_) (fun t1 r0 R0 => ?_))
 ·refine lC0 rfl ⟨⟩ (wL (fun μ D ε w => D = [] ∧ ∃ m : Int, ∃ u : Option Nat, ∃ L0 : List r0a, (m + 1 = μ) ∧ (m ≤ 2) ∧ ((m = 2 ∧ u = none) ∨ (m ≠ 2 ∧ ∃ gm, u = some gm ∧ v2a Tryz.prog 9 w gm (x7a L0) ∧ p6a p (m + 1) 2000 L0 0)) ∧ St [] w0 w [(some g1, 27, [.slice Ac nc cc, .slice Am nm cm, .slice Al nl cl, .slice At nt ct])] ∧ Sl ε [(1, .pointer (some ⟨g1, 0, none⟩)), (3, .map u), (4, .int .i64 m)]) (μ := 3) ⟨rfl, 2, none, [], by omega, by omega, .inl ⟨rfl, rfl⟩, r0, rfl⟩ ?_);rintro μ D ε w ⟨rfl, m, u, L0, _, _, hU, S, eZ⟩;refine wK eZ ?_;have KU := w0a.refl [] w;refine wB0 rfl ⟨⟩ (fun W0 => ?_) fun W0 => ?_
  ·refine lO S.k [.w 0] rfl ⟨⟨rfl,rfl⟩,⟨⟩⟩ ?_;have o1 : m = 0 ∨ m = 1 ∨ m = 2 := by omega
   refine B0a S O8b rfl rfl (c6a p m o1 2000 (by omega) (by omega) [] _ _ ⟨hP.keep (S.keep0 []), f0, hK.keep (S.keep0 []), by simp⟩) ?_;rintro y1 K0 ⟨_, l, er, rfl, hA, hD⟩ o0 S0;replace KU := KU.trans S0;have KA := w0a.refl [] K0;obtain ⟨Av, nv, cv, rfl⟩ := hA.form;obtain ⟨_, -, _⟩ := hA.len;have i1 : m ≠ 2 → er = 0 ∧ ∀ c ∈ l, c ∈ L0 := fun q1 => by
    rcases hU with ⟨h, -⟩ | ⟨h, D0, -, -, h2⟩
    ·exact absurd h q1
    ·exact m5b h2 hD (w7b f0 (by omega))
   have j0 : ∀ gm, u = some gm → m ≠ 2 ∧ v2a Tryz.prog 9 K0 gm (x7a L0) := fun gm hg => by
    rcases hU with ⟨-, h⟩ | ⟨h2, D0, h, n1, -⟩
    ·rw [h] at hg; cases hg
    ·obtain rfl : D0 = gm := by rw [h] at hg; exact Option.some.inj hg
     exact ⟨h2, n1.keep KU (by simp)⟩
   have p1 := M3b hD;have x0 := v7b f0 hD;have v1 := j0b hD;refine lCn 7 o0.k [] rfl ⟨⟩ (wX (fun D ε w => D = [] ∧ (er = 0) ∧ (n9c [] w (.slice Av nv cv) l) ∧ (∀ gm, u = some gm → m ≠ 2 ∧ v2a Tryz.prog 9 w gm (x7a L0)) ∧ St [] w0 w [(some g1, 27, [.slice Ac nc cc, .slice Am nm cm, .slice Al nl cl, .slice At nt ct])] ∧ Sl ε [(1, .pointer (some ⟨g1, 0, none⟩)), (3, .map u), (4, .int .i64 m), (5, .slice Av nv cv), (6, .int .i64 er)]) ?_ ?_)
   ·refine wB0 rfl ⟨⟩ (fun X0 => ?_) fun X0 => ?_
    ·refine lB0 rfl ⟨⟩ (fun Y0 => ?_) fun Y0 => ?_
     ·refine lB0 rfl ⟨⟩ (fun Z0 => ?_) (fun Z0 => by exfalso; rcases V7a hD with h | ⟨h, -⟩ <;> omega);exact lT rfl ⟨⟩ rfl ⟨rfl, o0.fin⟩
     refine lP0 rfl ⟨⟩ ⟨rfl, ((by omega)), (RdS.keepW hA KA (g3a.keep KA)), ((fun gm hg => ⟨(j0 gm hg).1, (j0 gm hg).2.keep KA (by simp)⟩)), o0, rfl⟩
    refine lP0 rfl ⟨⟩ ⟨rfl, ((by omega)), (RdS.keepW hA KA (g3a.keep KA)), ((fun gm hg => ⟨(j0 gm hg).1, (j0 gm hg).2.keep KA (by simp)⟩)), o0, rfl⟩
   rintro D ε w ⟨rfl, hE, d1, H0, S, eZ⟩;refine wK eZ ?_;refine wB0 rfl ⟨⟩ (fun a1 => by exfalso; omega) fun a1 => ?_;refine lO0 rfl ⟨⟩ ?_;have F1 := S.size;obtain ⟨wc, x1⟩ : ∃ wc, wc = w := ⟨_, rfl⟩;refine e4a (k := 9) S rfl ?_;intro a0 C0 O0 s0 N0 n0;have r1 : ∀ gm, u = some gm → gm ≠ a0 := fun gm hg => by
    have := (H0 gm hg).2.lt; omega
   have m1 : ∀ gm, u = some gm → v2a Tryz.prog 9 C0 gm (x7a L0) := fun gm hg => (H0 gm hg).2.keep s0 (by simp);have f1 : RdS [a0] C0 3 (g3a [a0] C0) (.slice Av nv cv) l := by
    have I0 : ∀ x ∈ [a0], x ∈ ([] : List Nat) ∨ w.heap.size ≤ x := fun x hx => by rw [List.mem_singleton] at hx; subst hx; exact .inr N0
    have h1 : RdS [a0] w 3 (g3a [a0] w) (.slice Av nv cv) l := RdS.moreW d1 (by omega) I0 (fun _ _ => t0a.more I0);exact RdS.keepW h1 s0.of_nil (g3a.keep s0.of_nil)
   refine lC0 rfl ⟨⟩ (wL (fun μk D ε w => D = [] ∧ ∃ k : Nat, (k + μk = (l.length)) ∧ (v2a Tryz.prog 9 w a0 (x7a (l.take k))) ∧ (∀ gm, u = some gm → v2a Tryz.prog 9 w gm (x7a L0)) ∧ (RdS [a0] w 3 (g3a [a0] w) (.slice Av nv cv) l) ∧ St [] w0 w [(some g1, 27, [.slice Ac nc cc, .slice Am nm cm, .slice Al nl cl, .slice At nt ct])] ∧ Sl ε [(1, .pointer (some ⟨g1, 0, none⟩)), (3, .map u), (4, .int .i64 m), (7, .map (some a0)), (36, .slice Av nv cv), (37, .int .i64 nv), (38, .int .i64 k)]) (μ := (l.length)) ⟨rfl, 0, by omega, n0, m1, f1, O0, rfl⟩ ?_);rintro μk D ε w ⟨rfl, k, _, d0, j1, E0, S, eZ⟩;refine wK eZ ?_;have KW := w0a.refl [] w;refine wB0 rfl ⟨⟩ (fun b1 => ?_) fun b1 => ?_
   ·obtain ⟨c, V0, s1, _, g0, t0, _, y0, v0, e0⟩ := RdS.get (E0) (k) (by omega);obtain ⟨_, _, _, _, _, _, _, _, _, rfl, _, _, _, _, _, _, _, _, _⟩ := t0a.open_ e0;refine lO (S.k.b v0) [.x V0 s1,.v 0] rfl ⟨⟨rfl,y0⟩,⟨t0,by omega⟩,⟨⟩⟩ (n0a S U5a rfl rfl ?_);intro g9 w9 S9 X9 G9;have p0 := Nat.le_trans KW.size G9;replace KW := KW.trans X9;refine e0a (kk := 0) (vs := [_, _, _]) S9 S2a rfl rfl rfl rfl rfl rfl rfl ?_;intro J0 b0 h0;dsimp only [k0a, List.set] at b0;replace KW := KW.fresh h0 (by first | exact p0);refine lO b0.k [.w 0] rfl ⟨⟨rfl,by rfl⟩,⟨⟩⟩ (B0a b0 z7c rfl rfl (W9b p f0 c (x0 c (c0a g0)) [a0] _ _ (t0a.keep KW.of_nil e0)) ?_);rintro z1 D1 ⟨rfl, _⟩ P0 T0;replace KW := KW.trans T0;have i0 : keyOf Tryz.prog 9 (.string (G7b c)) = some (.string (G7b c).data.toList) := Go.WideMaps.keyOf_string_mk Tryz.underlying9 (by unfold G7b; rw [u8a]; unfold maxLen; omega);refine s7a P0 (Go.Maps.string_keyed Tryz.underlying9) Tryz.underlying50 (d0.keep KW (by simp)) rfl rfl rfl i0 (d9b f0 p1 x0 g0) (.inl (by omega)) ?_;intro wm Sm Xm Mm;have u0 : ∀ gm, u = some gm → v2a Tryz.prog 9 wm gm (x7a L0) := fun gm hg => ((j1 gm hg).keep KW (by simp)).keep Xm (by simpa using r1 gm hg);have F0 : RdS [a0] wm 3 (g3a [a0] wm) (.slice Av nv cv) l := RdS.keepW (RdS.keepW E0 KW.of_nil (g3a.keep KW.of_nil)) Xm (g3a.keep Xm);have KV := w0a.refl [] wm;have A0 := t0a.keep Xm (t0a.keep KW.of_nil e0);refine lOn 5 Sm.k [] rfl ⟨⟩ (E2c Tryz.underlying50 rfl rfl rfl (fun gm G0 => ?_) (fun G0 => ?_))
    ·refine lO Sm.k [.w 0] rfl ⟨⟨rfl,by rfl⟩,⟨⟩⟩ (B0a Sm z7c rfl rfl (W9b p f0 c (x0 c (c0a g0)) [a0] _ _ (t0a.keep KV.of_nil A0)) ?_);rintro A1 E1 ⟨rfl, _⟩ Q0 U0;replace KV := KV.trans U0;refine lO0 rfl ⟨⟩ ?_;subst G0;refine f3b (Go.Maps.string_keyed Tryz.underlying9) Tryz.underlying50 r9c ((u0 gm rfl).keep KV (by simp)) rfl rfl i0 rfl (fun B1 B0 => ?_) (fun z0 => (H8b ((i1 (j0 gm rfl).1).2 c (c0a g0)) z0).elim);obtain rfl := B7b B0;refine lP0 rfl ⟨by omega,⟨⟩⟩ ⟨μk - 1, by omega, rfl, (k + 1), (by omega), ?_, ?_, ?_, Q0.tail, rfl⟩
     ·rw [J0a g0, o0b]; exact Mm.keep KV (by simp)
     ·exact fun gm hg => (u0 gm hg).keep KV (by simp)
     ·exact RdS.keepW F0 KV.of_nil (g3a.keep KV.of_nil)
    refine lP0 rfl ⟨by omega,⟨⟩⟩ ⟨μk - 1, by omega, rfl, (k + 1), (by omega), ?_, ?_, ?_, Sm.tail, rfl⟩
    ·rw [J0a g0, o0b]; exact Mm.keep KV (by simp)
    ·exact fun gm hg => (u0 gm hg).keep KV (by simp)
    ·exact RdS.keepW F0 KV.of_nil (g3a.keep KV.of_nil)
   refine lP0 rfl ⟨by omega,⟨⟩⟩ ⟨μ - 1, by omega, rfl, (m - 1), (_), (l), (by omega), (by omega), ?_, S, rfl⟩;rw [List.take_of_length_le (by omega)] at d0;rw [hE] at hD;exact .inr ⟨by omega, a0, rfl, d0, by rw [show m - 1 + 1 = m by omega]; exact hD⟩
  exact lT rfl ⟨⟩ rfl ⟨rfl, S.fin⟩
 exact lT rfl ⟨⟩ rfl ⟨rfl, r0.fin⟩
end Go.Fw
