/-
  Part 5 of 8 of the proof of ExploreLimit: what it leans on. No conditions.
-/
import Derived.Test.YtepiknjglmmciaaGreatDoorZExploreLimit4
import Derived.StringKeys
set_option maxRecDepth 100000
set_option maxHeartbeats 4000000
namespace Go.Proofs.YtepiknjglmmciaaGreatDoor
end Go.Proofs.YtepiknjglmmciaaGreatDoor
namespace Go.Fw
open Go.Proofs.YtepiknjglmmciaaGreatDoor Go.Proofs Go.RowKit Go.ChangeShapes Go.WideShapes
section
variable {P : Program} {r : Option Nat} {N : Nat} {l : List Oper} {D : List Deferred} {C : World → Prop} {K : List Deferred → Env → World → Prop} {pur : Nat → Bool}
def T0b (e : Env) (d : Option Nat) (v : Value) : Env := match d with | some d => upd e d v | none => e
def X3b (N : Nat) (o : Oper) : Prop := ∀ d, o.dst = some d → d < N
theorem a4a {a : Act} (o : Oper) (v : Value) (h : X3b a.tmps.size o) : N0a (a.put o.dst v) = T0b (N0a a) o.dst v := by
 cases hd : o.dst with
 | none => rfl
 | some d => exact U0a v (h d hd)
theorem J4a (a : Act) (o : Oper) (v : Value) : (a.put o.dst v).tmps.size = a.tmps.size := by
 cases o.dst <;> simp [Act.put]
theorem w2a (a : Act) (o : Oper) (v : Value) : (a.put o.dst v).defers = a.defers := by
 cases o.dst <;> simp [Act.put]
theorem p7a {e : Env} {o : Oper} {v : Value} (hN : X3b N o) (hz : ∀ i, N ≤ i → e i = undef) : ∀ i, N ≤ i → T0b e o.dst v i = undef := by
 cases hd : o.dst with
 | none => exact hz
 | some d => exact H1a (hN d hd) hz
theorem p4a {o : Oper} {K1 : List Deferred → Env → World → Prop} {e e1 : Env} {w : World} (hN : X3b N o) (j0 : Op.isSelect o.op = false) (e0 : ∀ c, o.op ≠ .defer c) (hz : ∀ i, N ≤ i → e1 i = undef)
 (b0 : ∀ s ∈ Oper.looksAt l.toArray o, e s = e1 s) (h : WL P r N l.toArray [o] K1 D e1 w) : WL P r N l.toArray [o] (fun D' e' w' => ∃ v, e' = T0b e o.dst v ∧ K1 D' (T0b e1 o.dst v) w') D e w := by
 unfold WL at *;intro a Q hs hD he hK;obtain ⟨a1, i0, h0, f0⟩ := b6a e1 N D hz;have h1 := h a1 (fun ex a' w' => ex = .normal ∧ K1 a'.defers (N0a a') w') i0 h0 f0 (fun a' w' _ hk => ⟨rfl, hk⟩);have hw : Region.wanted o (yielded l.toArray a.tmps) = Region.wanted o (yielded l.toArray a1.tmps) := by rw [f1a, f1a, he, f0]; exact M0a b0
 have d0 : ∀ (v : Value) (w' : World), K1 (a1.put o.dst v).defers (N0a (a1.put o.dst v)) w' → Q .normal (a.put o.dst v) w' := by
  intro v w' hk;rw [a4a o v (by rw [i0]; exact hN), f0, w2a, h0] at hk;refine hK _ _ (by rw [J4a, hs]) ⟨v, by rw [a4a o v (by rw [hs]; exact hN), he], ?_⟩;rw [w2a, hD]; exact hk
 simp only [wpListIn] at h1 ⊢;rw [hw]
 split
 ·rename_i o0;simp only [o0, if_true] at h1;refine ⟨v0a _ _ _, ?_⟩;have h4 := h1.2;have n0 : Oper.semAt (fc r).round a.eval o = Oper.semAt (fc r).round a1.eval o := by
   rw [Oper.semAt_eq _ _ _ e0, Oper.semAt_eq _ _ _ e0, d2a, d2a, he, f0]; exact j1a j0 b0
  rw [n0]
  revert h4
  generalize (Oper.semAt (fc r).round a1.eval o).run P w = q0;intro h4;cases q0 with
  | ok x w' =>
    cases x with
    | value v => simp only [Oper.uponIn] at h4 ⊢; exact d0 v w' h4.2
    | skip => simp only [Oper.uponIn] at h4 ⊢; exact d0 undef w' h4.2
    | defer dd =>
      simp only [Oper.uponIn] at h4 ⊢;have hk := h4.2;have p0 : N0a ({ a1 with defers := dd :: a1.defers } : Act) = e1 := f0;have ee : N0a ({ a with defers := dd :: a.defers } : Act) = e := he;rw [a4a (a := { a1 with defers := dd :: a1.defers }) o undef (by rw [show ({ a1 with defers := dd :: a1.defers } : Act).tmps.size = N from i0]; exact hN), p0, w2a] at hk;refine hK _ _ (by rw [J4a]; exact hs) ⟨undef, by rw [a4a (a := { a with defers := dd :: a.defers }) o undef (by rw [show ({ a with defers := dd :: a.defers } : Act).tmps.size = N from hs]; exact hN), ee], ?_⟩;rw [w2a];show K1 (dd :: a.defers) _ _;rw [hD, ← h0]; exact hk
    | enter f args =>
      simp only [Oper.uponIn] at h4 ⊢;exact ⟨h4.1, CallsIn.mono h4.2 (fun en r0 hh => by
       cases en
       ·exact d0 _ _ hh.2
       ·exact absurd hh.1 (by simp)
       ·obtain ⟨a0, w0, hh⟩ := hh; exact absurd hh.1 (by simp))⟩
    | row s0 args => simp only [Oper.uponIn] at h4 ⊢; exact ⟨h4.1, RowsIn.mono h4.2 (fun _ _ hh => d0 _ _ hh.2)⟩
    | round l' f tmps g0 body =>
      simp only [Oper.uponIn] at h4 ⊢;exact ⟨h4.1, RoundIn.mono h4.2 (fun en r0 hh => by
       cases en
       ·exact d0 _ _ hh.2
       ·exact absurd hh.1 (by simp)
       ·obtain ⟨a0, w0, hh⟩ := hh; exact absurd hh.1 (by simp))⟩
    | _ => simp only [Oper.uponIn] at h4
  | halt x w' => cases x <;> simp only [Oper.uponIn] at h4 ⊢ <;> exact absurd h4.1 (by simp)
 ·rename_i o0;simp only [o0] at h1;exact ⟨v0a _ _ _, d0 undef w h1.2.2⟩
theorem K1c {o : Oper} {K1 : List Deferred → Env → World → Prop} {e : Env} {w : World} (hN : X3b N o) (hz : ∀ i, N ≤ i → e i = undef)
 (h : WL P r N l.toArray [o] K1 D e w) : ∃ D' v w', K1 D' (T0b e o.dst v) w' := by
 unfold WL at h;obtain ⟨a1, f0, g0, e0⟩ := b6a e N D hz;have h1 := h a1 (fun ex a' w' => ex = .normal ∧ K1 a'.defers (N0a a') w') f0 g0 e0 (fun a' w' _ hk => ⟨rfl, hk⟩);have b0 : ∀ (v : Value) (w' : World), K1 (a1.put o.dst v).defers (N0a (a1.put o.dst v)) w' → ∃ D' v w', K1 D' (T0b e o.dst v) w' := by
  intro v w' hk;rw [a4a o v (by rw [f0]; exact hN), e0] at hk;exact ⟨_, v, w', hk⟩
 simp only [wpListIn] at h1
 split at h1
 ·have h4 := h1.2
  revert h4
  generalize (Oper.semAt (fc r).round a1.eval o).run P w = h0;intro h4;cases h0 with
  | ok x w' =>
    cases x with
    | value v => simp only [Oper.uponIn] at h4; exact b0 v w' h4.2
    | skip => simp only [Oper.uponIn] at h4; exact b0 undef w' h4.2
    | defer dd =>
      simp only [Oper.uponIn] at h4;have hk := h4.2;rw [a4a (a := { a1 with defers := dd :: a1.defers }) o undef (by rw [show ({ a1 with defers := dd :: a1.defers } : Act).tmps.size = N from f0]; exact hN), show N0a ({ a1 with defers := dd :: a1.defers } : Act) = e from e0] at hk;exact ⟨_, _, _, hk⟩
    | enter f args =>
      simp only [Oper.uponIn] at h4;obtain ⟨en, w2, _, hR, _⟩ := h4.2.2 [] (room_wide _);cases en
      ·exact b0 _ _ hR.2
      ·exact absurd hR.1 (by simp)
      ·obtain ⟨a0, w0, hh⟩ := hR; exact absurd hh.1 (by simp)
    | row i0 args =>
      simp only [Oper.uponIn] at h4;obtain ⟨v, w2, hR, _⟩ := h4.2 default [] (room_wide _);exact b0 _ _ hR.2
    | round l' f tmps d0 body =>
      simp only [Oper.uponIn] at h4;obtain ⟨en, w2, hR, _⟩ := h4.2.2 default [] (room_wide _);cases en
      ·exact b0 _ _ hR.2
      ·exact absurd hR.1 (by simp)
      ·obtain ⟨a0, w0, hh⟩ := hR; exact absurd hh.1 (by simp)
    | _ => simp only [Oper.uponIn] at h4
  | halt x w' => cases x <;> simp only [Oper.uponIn] at h4 <;> exact absurd h4.1 (by simp)
 ·exact b0 undef w h1.2.2
def WN (P : Program) (r : Option Nat) (N : Nat) (l : List Oper) (C : World → Prop) (pur : Nat → Bool) (K : List Deferred → Env → World → Prop) (D : List Deferred) : List Nat → Env → World → Prop
 | [], e, w => C w ∧ K D e w
 | i :: rest, e, w => C w ∧ ∃ o, l[i]? = some o ∧ X3b N o ∧
  ((pur i = true ∧ ∃ d v, o.dst = some d ∧ PV P l C o e v ∧ WN P r N l C pur K D rest (upd e d v) w) ∨
   (pur i = false ∧ WL P r N l.toArray [o] (fun D' e' w' => D' = D ∧ WN P r N l C pur K D rest e' w') D e w))
theorem WN.inC {a0 : List Nat} {e : Env} {w : World} (h : WN P r N l C pur K D a0 e w) : C w := by cases a0 <;> exact h.1
def C0b (l : List Oper) (pur : Nat → Bool) (j i : Nat) : Bool :=
 match l[j]?, l[i]? with
 | some p, some q => (pur i || pur j) && (match p.dst, q.dst with
   | some c, some d => !(c == d) && !(Oper.looksAt l.toArray p).contains d && !(Oper.looksAt l.toArray q).contains c
   | some c, none => pur j && !(Oper.looksAt l.toArray q).contains c
   | none, some d => pur i && !(Oper.looksAt l.toArray p).contains d
   | _, _ => false)
 | _, _ => false
structure E9c (l : List Oper) (pur : Nat → Bool) (j i : Nat) (o1 o2 : Oper) : Prop where
 pur : pur i = true ∨ pur j = true
 dst : ∀ c d, o1.dst = some c → o2.dst = some d → c ≠ d
 p : ∀ d, o2.dst = some d → d ∉ Oper.looksAt l.toArray o1
 q : ∀ c, o1.dst = some c → c ∉ Oper.looksAt l.toArray o2
theorem J9a {j i : Nat} {p q : Oper} (h : C0b l pur j i = true) (hj : l[j]? = some p) (hi : l[i]? = some q) : E9c l pur j i p q := by
 unfold C0b at h;simp only [hj, hi, Bool.and_eq_true, Bool.or_eq_true] at h;obtain ⟨h1, h2⟩ := h;cases hc : p.dst with
 | none =>
   cases hd : q.dst with
   | none => simp [hc, hd] at h2
   | some d =>
     simp only [hc, hd, Bool.and_eq_true, Bool.not_eq_true', List.contains_eq_mem, decide_eq_false_iff_not] at h2;exact ⟨h1, fun c d h => (by rw [hc] at h; cases h), fun x hx => (by rw [hd] at hx; cases hx; exact h2.2), fun c h => (by rw [hc] at h; cases h)⟩
 | some c =>
   cases hd : q.dst with
   | none =>
     simp only [hc, hd, Bool.and_eq_true, Bool.not_eq_true', List.contains_eq_mem, decide_eq_false_iff_not] at h2;exact ⟨h1, fun c d _ h => (by rw [hd] at h; cases h), fun d h => (by rw [hd] at h; cases h), fun x hx => (by rw [hc] at hx; cases hx; exact h2.2)⟩
   | some d =>
     simp only [hc, hd, Bool.and_eq_true, Bool.not_eq_true', beq_eq_false_iff_ne, List.contains_eq_mem, decide_eq_false_iff_not] at h2;exact ⟨h1, fun x y hx hy => (by rw [hc] at hx; rw [hd] at hy; cases hx; cases hy; exact h2.1.1), fun x hx => (by rw [hd] at hx; cases hx; exact h2.1.2), fun x hx => (by rw [hc] at hx; cases hx; exact h2.2)⟩
theorem V7a {e : Env} {o : Oper} {u : Value} {s : Nat} {X : List Nat} (hc : ∀ c, o.dst = some c → c ∉ X) (hs : s ∈ X) : T0b e o.dst u s = e s := by
 cases hd : o.dst with
 | none => rfl
 | some c => exact A1a (hc c hd) hs
theorem R2b (e : Env) {p q : Oper} (u v : Value) (h : ∀ c d, p.dst = some c → q.dst = some d → c ≠ d) : T0b (T0b e p.dst u) q.dst v = T0b (T0b e q.dst v) p.dst u := by
 cases hc : p.dst with
 | none => rfl
 | some c =>
   cases hd : q.dst with
   | none => rfl
   | some d => exact t2a e u v (h c d hc hd)
theorem WN.first (a0 : m4a l = true) {i : Nat} {i0 : List Nat} : ∀ (f0 : List Nat) (e : Env) (w : World), (∀ j ∈ f0, C0b l pur j i = true) → (∀ i, N ≤ i → e i = undef) → WN P r N l C pur K D (f0 ++ i :: i0) e w →
 ∃ o, l[i]? = some o ∧ X3b N o ∧
  ((pur i = true ∧ ∃ d v, o.dst = some d ∧ PV P l C o e v ∧ WN P r N l C pur K D (f0 ++ i0) (upd e d v) w) ∨
   (pur i = false ∧ WL P r N l.toArray [o] (fun D' e' w' => D' = D ∧ ∃ v, e' = T0b e o.dst v ∧ WN P r N l C pur K D (f0 ++ i0) e' w') D e w)) := by
 intro f0
 induction f0 with
 | nil =>
   intro e w _ hz h;obtain ⟨hC, o, ho, hN, h⟩ := h;refine ⟨o, ho, hN, ?_⟩;rcases h with h | ⟨hp, h⟩
   ·exact .inl h
   ·refine .inr ⟨hp, ?_⟩;have h2 := p4a (e := e) (e1 := e) hN (B0a a0 ho).1 (B0a a0 ho).2 hz (fun _ _ => rfl) h;unfold WL at *;exact fun a Q hs hD he hK => h2 a Q hs hD he (fun a' w' o0 ⟨v, h1, h3, h4⟩ => hK a' w' o0 ⟨h3, v, h1, by rw [h1]; exact h4⟩)
 | cons q f0 ih =>
   intro e w j0 hz h;obtain ⟨hC, p, hp, e0, h⟩ := h;have hq := j0 q (by simp);have b0 : ∀ j ∈ f0, C0b l pur j i = true := fun j hj => j0 j (by simp [hj]);rcases h with ⟨n0, c, u, hc, hu, h⟩ | ⟨n0, h⟩
   ·obtain ⟨o, ho, hN, h2⟩ := ih (upd e c u) w b0 (H1a (e0 c hc) hz) h;have hI := J9a hq hp ho;refine ⟨o, ho, hN, ?_⟩;rcases h2 with ⟨g0, d, v, hd, hv, h2⟩ | ⟨g0, h2⟩
    ·refine .inl ⟨g0, d, v, hd, hv.congr (B0a a0 ho).1 (fun s hs => A1a (hI.q c hc) hs), hC, p, hp, e0, .inl ⟨n0, c, u, hc, hu.congr (B0a a0 hp).1 (fun s hs => (A1a (hI.p d hd) hs).symm), ?_⟩⟩;rw [← t2a _ _ _ (hI.dst c d hc hd)]; exact h2
    ·refine .inr ⟨g0, ?_⟩;have h3 := p4a (e := e) (e1 := upd e c u) hN (B0a a0 ho).1 (B0a a0 ho).2 (H1a (e0 c hc) hz) (fun s hs => (A1a (hI.q c hc) hs).symm) h2;unfold WL at *;refine fun a Q hs hD he hK => h3 a Q hs hD he (fun a' w' o0 hh => hK a' w' o0 ?_);obtain ⟨v, h1, h4, _, h5, h6⟩ := hh;refine ⟨h4, v, h1, ?_⟩;rw [h1];refine ⟨h6.inC, p, hp, e0, .inl ⟨n0, c, u, hc, hu.congr (B0a a0 hp).1 (fun s hs => (V7a hI.p hs).symm), ?_⟩⟩;have e1 : T0b (upd e c u) o.dst v = upd (T0b e o.dst v) c u := by
      have := R2b e (p := p) (q := o) u v hI.dst;rw [hc] at this; exact this
     rw [← e1]; exact h6
   ·have h0 := p4a (e := e) (e1 := e) e0 (B0a a0 hp).1 (B0a a0 hp).2 hz (fun _ _ => rfl) h;obtain ⟨_, u1, w1, _, t0, _, h1⟩ := K1c e0 hz h0;rw [← t0] at h1;obtain ⟨o, ho, hN, h2⟩ := ih (T0b e p.dst u1) w1 b0 (p7a e0 hz) h1;have hI := J9a hq hp ho;have g0 : pur i = true := by
     rcases hI.pur with h | h
     ·exact h
     ·rw [n0] at h; cases h
    rcases h2 with ⟨_, d, v0, hd, x0, _⟩ | ⟨d0, _⟩
    ·have p0 : PV P l C o e v0 := x0.congr (B0a a0 ho).1 (fun s hs => V7a hI.q hs);refine ⟨o, ho, hN, .inl ⟨g0, d, v0, hd, p0, hC, p, hp, e0, .inr ⟨n0, ?_⟩⟩⟩;have h3 := p4a (e := upd e d v0) (e1 := e) e0 (B0a a0 hp).1 (B0a a0 hp).2 hz (fun s hs => A1a (hI.p d hd) hs) h;unfold WL at *;refine fun a Q hs hD he hK => h3 a Q hs hD he (fun a' w' o0 hh => hK a' w' o0 ?_);obtain ⟨u, hu, q0, h4⟩ := hh;refine ⟨q0, ?_⟩;obtain ⟨o', s0, _, h5⟩ := ih (T0b e p.dst u) w' b0 (p7a e0 hz) h4;obtain rfl : o' = o := Option.some.inj (s0.symm.trans ho);rcases h5 with ⟨_, d', v, r0, hv, h5⟩ | ⟨d0, _⟩
     ·obtain rfl : d' = d := Option.some.inj (r0.symm.trans hd);have u0 : PV P l C o' e v := hv.congr (B0a a0 ho).1 (fun s hs => V7a hI.q hs);obtain rfl : v = v0 := PV.uniq hC u0 p0;have e1 : upd (T0b e p.dst u) d' v = T0b (upd e d' v) p.dst u := by
       have := R2b e (p := p) (q := o') u v hI.dst;rw [hd] at this; exact this
      rw [hu, ← e1]; exact h5
     ·rw [g0] at d0; cases d0
    ·rw [g0] at d0; cases d0
def S4b (l : List Oper) (pur : Nat → Bool) (x y : Nat) : List Nat → List Nat → Bool
 | _, [] => true
 | acc, i :: rest => (acc.all fun j => (W3a l i).contains j || C0b l pur j i || (j == x && i == y)) && S4b l pur x y (acc ++ [i]) rest
theorem x0b {x y : Nat} : ∀ (ix acc : List Nat), S4b l pur x y acc ix = true → ∀ (b0 : List Nat) (i : Nat) (a0 : List Nat), ix = b0 ++ i :: a0 → ∀ j ∈ acc ++ b0, j ∈ W3a l i ∨ C0b l pur j i = true ∨ (j = x ∧ i = y)
 | [], _, _, b0, i, a0, h => by simp at h
 | k :: ix, acc, h, b0, i, a0, he => by
   simp only [S4b, Bool.and_eq_true] at h;cases b0 with
   | nil =>
     simp at he;obtain ⟨rfl, -⟩ := he;intro j hj;rw [List.append_nil] at hj;have := List.all_eq_true.1 h.1 j hj;simp only [Bool.or_eq_true, List.contains_eq_mem, decide_eq_true_eq, Bool.and_eq_true, beq_iff_eq] at this;rcases this with (h | h) | h
     ·exact .inl h
     ·exact .inr (.inl h)
     ·exact .inr (.inr h)
   | cons q b0 =>
     simp at he;obtain ⟨rfl, he⟩ := he;intro j hj;exact x0b ix (acc ++ [k]) h.2 b0 i a0 he j (by simpa using hj)
def s5a (ix : List Nat) (f : Nat → Bool) : List Nat := ix.filter fun i => !f i
theorem Z6b {ix : List Nat} (d0 : ix.Nodup) (f : Nat → Bool) {i : Nat} (hi : i ∈ ix) (hf : f i = false) : ∃ b0 a0 P Q, ix = P ++ i :: Q ∧ s5a ix f = b0 ++ i :: a0 ∧ s5a ix (fun j => f j || j == i) = b0 ++ a0 ∧ ∀ j ∈ b0, j ∈ P ∧ f j = false := by
 obtain ⟨P, Q, rfl⟩ := List.append_of_mem hi;rw [List.nodup_append] at d0;obtain ⟨_, h2, h3⟩ := d0;rw [List.nodup_cons] at h2;refine ⟨P.filter fun j => !f j, Q.filter fun j => !f j, P, Q, rfl, ?_, ?_, ?_⟩
 ·unfold s5a; rw [List.filter_append, List.filter_cons]; simp [hf]
 ·unfold s5a; rw [List.filter_append, List.filter_cons];simp only [beq_self_eq_true, Bool.or_true, Bool.not_true, Bool.false_eq_true, if_false]
  congr 1
  ·apply List.filter_congr; intro j hj;have : (j == i) = false := by simp; exact fun e => h3 j hj i (by simp) e
   simp [this]
  ·apply List.filter_congr; intro j hj;have : (j == i) = false := by simp; exact fun e => h2.1 (e ▸ hj)
   simp [this]
 ·intro j hj; rw [List.mem_filter] at hj; exact ⟨hj.1, by simpa using hj.2⟩
def u5b : List Nat → Bool
 | [] => true
 | x :: l => !l.contains x && u5b l
theorem p9a : ∀ {l : List Nat}, u5b l = true → l.Nodup
 | [], _ => List.nodup_nil
 | x :: l, h => by
   simp only [u5b, Bool.and_eq_true, Bool.not_eq_true', List.contains_eq_mem, decide_eq_false_iff_not] at h;exact List.nodup_cons.2 ⟨h.1, p9a h.2⟩
def W5c (n : Nat) (ix : List Nat) : Bool := u5b ix && (List.range n).all (fun i => ix.contains i) && ix.all (fun i => decide (i < n))
def K7c (l : List Oper) (pur : Nat → Bool) (a c : Nat) (ixA ixB : List Nat) : Bool :=
 m4a l && ((List.range l.length).all fun i => (a1a l i).all fun j => decide (j < i)) && W5c l.length ixA && W5c l.length ixB && S4b l pur a c [] ixA && S4b l pur c a [] ixB &&
 ((List.range l.length).all fun i => pur i || i == a || i == c || ((W3a l i).contains a && (W3a l i).contains c)) && !(a == c) && !pur a && !pur c
theorem WN.step {ix : List Nat} {x y : Nat} (g0 : m4a l = true) (d0 : ix.Nodup) (f0 : S4b l pur x y [] ix = true) {f : Nat → Bool} (a0 : ∀ i, f i = true → ∀ j ∈ a1a l i, f j = true) {i : Nat} {o : Oper} (hi : i ∈ ix) (ho : l[i]? = some o) (b0 : f i = false)
 (h0 : ∀ j ∈ a1a l i, f j = true) (j0 : i = y → f x = true) {e : Env} {w : World} (hz : ∀ i, N ≤ i → e i = undef) (h : WN P r N l C pur K D (s5a ix f) e w) :
 X3b N o ∧ ((pur i = true ∧ ∃ d v, o.dst = some d ∧ PV P l C o e v ∧ WN P r N l C pur K D (s5a ix (fun j => f j || j == i)) (upd e d v) w) ∨
  (pur i = false ∧ WL P r N l.toArray [o] (fun D' e' w' => D' = D ∧ ∃ v, e' = T0b e o.dst v ∧ WN P r N l C pur K D (s5a ix (fun j => f j || j == i)) e' w') D e w)) := by
 obtain ⟨n0, _, A, B, h1, h2, h3, h4⟩ := Z6b d0 f hi b0;rw [h2] at h;have i0 : ∀ j ∈ W3a l i, f j = true := e3a a0 _ _ h0;obtain ⟨o', e0, hN, h5⟩ := WN.first g0 n0 e w (fun j hj => by
  obtain ⟨h6, h7⟩ := h4 j hj;rcases x0b ix [] f0 A i B h1 j (by simpa using h6) with h | h | ⟨h, h'⟩
  ·have := i0 j h; rw [h7] at this; cases this
  ·exact h
  ·subst h; have := j0 h'; rw [h7] at this; cases this) hz h
 obtain rfl : o' = o := Option.some.inj (e0.symm.trans ho);rw [h3];exact ⟨hN, h5⟩
theorem o6c {id : Nat} {n t : List Deferred → Env → World → Prop} {b : Nat → List Deferred → Env → World → Prop} {e : Env} {w : World} (hm : P.follows .mixedOrders = true) (pur : Nat → Bool) (a c : Nat) (a0 b0 : List Nat)
 (F0 : K7c l pur a c a0 b0 = true) (C : World → Prop) (hA : WN P r N l C pur n D a0 e w.drew) (hB : WN P r N l C pur n D b0 e w.drew) : W P r N (.region id l.toArray true) ⟨n, b, t⟩ D e w := by
 unfold K7c W5c at F0;simp only [Bool.and_eq_true, Bool.not_eq_true', beq_eq_false_iff_ne] at F0;obtain ⟨⟨⟨⟨⟨⟨⟨⟨⟨u0, I0⟩, ⟨e0, N0⟩, J0⟩, ⟨f0, O0⟩, K0⟩, D0⟩, E0⟩, P0⟩, R0⟩, _⟩, _⟩ := F0;have e0 := p9a e0;have f0 := p9a f0;have G0 : ∀ i, i < l.length → i ∈ a0 := fun i hi => by simpa using List.all_eq_true.1 N0 i (List.mem_range.2 hi)
 have inB : ∀ i, i < l.length → i ∈ b0 := fun i hi => by simpa using List.all_eq_true.1 O0 i (List.mem_range.2 hi)
 have hz : (∀ i, N ≤ i → e i = undef) → W P r N (.region id l.toArray true) ⟨n, b, t⟩ D e w := by
  intro hz;refine N9b hm I0 (fun f e w => (∀ i, N ≤ i → e i = undef) ∧ (∀ i, f i = true → ∀ j ∈ a1a l i, f j = true) ∧
   ((f a = false ∧ f c = false ∧ WN P r N l C pur n D (s5a a0 f) e w ∧ WN P r N l C pur n D (s5a b0 f) e w) ∨ (f a = true ∧ WN P r N l C pur n D (s5a a0 f) e w) ∨ (f c = true ∧ WN P r N l C pur n D (s5a b0 f) e w))) ⟨hz, by simp, .inl ⟨rfl, rfl, ?_, ?_⟩⟩ ?_ ?_
  ·have : s5a a0 (fun _ => false) = a0 := by unfold s5a; simp
   rw [this]; exact hA
  ·have : s5a b0 (fun _ => false) = b0 := by unfold s5a; simp
   rw [this]; exact hB
  ·rintro f e w i o ⟨hz, j0, hM⟩ ho C0 v0;have g0 : i < l.length := (List.getElem?_eq_some_iff.1 ho).1;have d0 : ∀ k, (f k || k == i) = true → ∀ j ∈ a1a l k, (f j || j == i) = true := by
    intro k hk j hj;simp only [Bool.or_eq_true, beq_iff_eq] at hk ⊢;rcases hk with hk | rfl
    ·exact .inl (j0 k hk j hj)
    ·exact .inl (v0 j hj)
   have V0 : ∀ j ∈ W3a l i, f j = true := e3a j0 _ _ v0;have one : ∀ (ix : List Nat) (x y : Nat) (J : (Nat → Bool) → Env → World → Prop), ix.Nodup → i ∈ ix → S4b l pur x y [] ix = true → (i = y → f x = true) → WN P r N l C pur n D (s5a ix f) e w →
    (∀ e' w', WN P r N l C pur n D (s5a ix (fun j => f j || j == i)) e' w' → J (fun j => f j || j == i) e' w') →
    WL P r N l.toArray [o] (fun D' e' w' => D' = D ∧ (∀ i, N ≤ i → e' i = undef) ∧ (∀ k, (f k || k == i) = true → ∀ j ∈ a1a l k, (f j || j == i) = true) ∧ J (fun j => f j || j == i) e' w') D e w := by
    intro ix x y J Q0 hi S0 W0 hw hJ;obtain ⟨hN, h5⟩ := WN.step u0 Q0 S0 j0 hi ho C0 v0 W0 hz hw;have x0 := hw.inC;rcases h5 with ⟨B0, d, v, hd, hv, h5⟩ | ⟨B0, h5⟩
    ·rcases hv with ⟨i0, hv⟩ | ⟨i0, rfl⟩
     ·unfold WL; intro a Q hs hD he hK;simp only [wpListIn];have h0 : Region.wanted o (yielded l.toArray a.tmps) = true := by rw [f1a, he]; exact i0
      simp only [h0, if_true];refine ⟨v0a _ _ _, ?_⟩;rw [Oper.semAt_eq _ _ _ (B0a u0 ho).2, d2a, he, hv w x0, Oper.uponIn_value];refine hK _ _ (by rw [J4a, hs]) ⟨by rw [w2a, hD], ?_⟩;rw [hd, U0a v (by rw [hs]; exact hN d hd), he];exact ⟨H1a (hN d hd) hz, d0, hJ _ _ h5⟩
     ·unfold WL; intro a Q hs hD he hK;simp only [wpListIn];have h0 : Region.wanted o (yielded l.toArray a.tmps) = false := by rw [f1a, he]; exact i0
      simp only [h0];refine ⟨v0a _ _ _, ?_⟩;refine hK _ _ (by rw [J4a, hs]) ⟨by rw [w2a, hD], ?_⟩;rw [hd, U0a undef (by rw [hs]; exact hN d hd), he];exact ⟨H1a (hN d hd) hz, d0, hJ _ _ h5⟩
    ·unfold WL at *;refine fun a Q hs hD he hK => h5 a Q hs hD he (fun a' w' T0 hh => hK a' w' T0 ?_);obtain ⟨H0, v, hv, h6⟩ := hh;exact ⟨H0, by rw [hv]; exact p7a hN hz, d0, hJ _ _ h6⟩
   rcases hM with ⟨q0, z0, o0, y0⟩ | ⟨q0, o0⟩ | ⟨z0, y0⟩
   ·by_cases n0 : i = a
    ·exact one a0 a c (fun f e w => (f a = false ∧ f c = false ∧ WN P r N l C pur n D (s5a a0 f) e w ∧ WN P r N l C pur n D (s5a b0 f) e w) ∨ (f a = true ∧ WN P r N l C pur n D (s5a a0 f) e w) ∨ (f c = true ∧ WN P r N l C pur n D (s5a b0 f) e w)) e0 (G0 i g0) D0 (fun h => absurd (n0.symm.trans h) R0) o0 (fun e' w' h => .inr (.inl ⟨by simp [n0], h⟩))
    by_cases A0 : i = c
    ·exact one b0 c a (fun f e w => (f a = false ∧ f c = false ∧ WN P r N l C pur n D (s5a a0 f) e w ∧ WN P r N l C pur n D (s5a b0 f) e w) ∨ (f a = true ∧ WN P r N l C pur n D (s5a a0 f) e w) ∨ (f c = true ∧ WN P r N l C pur n D (s5a b0 f) e w)) f0 (inB i g0) E0 (fun h => absurd h n0) y0 (fun e' w' h => .inr (.inr ⟨by simp [A0], h⟩))
    have B0 : pur i = true := by
     have := List.all_eq_true.1 P0 i (List.mem_range.2 g0);simp only [Bool.or_eq_true, beq_iff_eq, n0, A0, or_false, Bool.and_eq_true, List.contains_eq_mem, decide_eq_true_eq] at this;rcases this with h | h
     ·exact h
     ·have := V0 a h.1; rw [q0] at this; cases this
    obtain ⟨hN, h5⟩ := WN.step u0 e0 D0 j0 (G0 i g0) ho C0 v0 (fun h => absurd h A0) hz o0;obtain ⟨-, h6⟩ := WN.step u0 f0 E0 j0 (inB i g0) ho C0 v0 (fun h => absurd h n0) hz y0;have x0 := o0.inC;rcases h5 with ⟨_, d, v, hd, hv, h5⟩ | ⟨t0, _⟩
    rotate_left
    ·rw [B0] at t0; cases t0
    rcases h6 with ⟨_, d', v', L0, U0, h6⟩ | ⟨t0, _⟩
    rotate_left
    ·rw [B0] at t0; cases t0
    obtain rfl : d' = d := Option.some.inj (L0.symm.trans hd);obtain rfl : v' = v := PV.uniq x0 U0 hv;have r0 : (f a || a == i) = false := by simp [q0]; exact fun e => n0 e.symm
    have s0 : (f c || c == i) = false := by simp [z0]; exact fun e => A0 e.symm
    rcases hv with ⟨i0, hv⟩ | ⟨i0, rfl⟩
    ·unfold WL; intro a Q hs hD he hK;simp only [wpListIn];have h0 : Region.wanted o (yielded l.toArray a.tmps) = true := by rw [f1a, he]; exact i0
     simp only [h0, if_true];refine ⟨v0a _ _ _, ?_⟩;rw [Oper.semAt_eq _ _ _ (B0a u0 ho).2, d2a, he, hv w x0, Oper.uponIn_value];refine hK _ _ (by rw [J4a, hs]) ⟨by rw [w2a, hD], ?_⟩;rw [hd, U0a v' (by rw [hs]; exact hN d' hd), he];exact ⟨H1a (hN d' hd) hz, d0, .inl ⟨r0, s0, h5, h6⟩⟩
    ·unfold WL; intro a Q hs hD he hK;simp only [wpListIn];have h0 : Region.wanted o (yielded l.toArray a.tmps) = false := by rw [f1a, he]; exact i0
     simp only [h0];refine ⟨v0a _ _ _, ?_⟩;refine hK _ _ (by rw [J4a, hs]) ⟨by rw [w2a, hD], ?_⟩;rw [hd, U0a undef (by rw [hs]; exact hN d' hd), he];exact ⟨H1a (hN d' hd) hz, d0, .inl ⟨r0, s0, h5, h6⟩⟩
   ·exact one a0 a c (fun f e w => (f a = false ∧ f c = false ∧ WN P r N l C pur n D (s5a a0 f) e w ∧ WN P r N l C pur n D (s5a b0 f) e w) ∨ (f a = true ∧ WN P r N l C pur n D (s5a a0 f) e w) ∨ (f c = true ∧ WN P r N l C pur n D (s5a b0 f) e w)) e0 (G0 i g0) D0 (fun _ => q0) o0 (fun e' w' h => .inr (.inl ⟨by simp [q0], h⟩))
   ·exact one b0 c a (fun f e w => (f a = false ∧ f c = false ∧ WN P r N l C pur n D (s5a a0 f) e w ∧ WN P r N l C pur n D (s5a b0 f) e w) ∨ (f a = true ∧ WN P r N l C pur n D (s5a a0 f) e w) ∨ (f c = true ∧ WN P r N l C pur n D (s5a b0 f) e w)) f0 (inB i g0) E0 (fun _ => z0) y0 (fun e' w' h => .inr (.inr ⟨by simp [z0], h⟩))
  ·rintro f e w ⟨hz, j0, hM⟩ p0;have rA : s5a a0 f = [] := by
    unfold s5a; rw [List.filter_eq_nil_iff]; intro j hj; simp [p0 j (by simpa using List.all_eq_true.1 J0 j hj)]
   have rB : s5a b0 f = [] := by
    unfold s5a; rw [List.filter_eq_nil_iff]; intro j hj; simp [p0 j (by simpa using List.all_eq_true.1 K0 j hj)]
   rw [rA, rB] at hM;rcases hM with ⟨_, _, h, _⟩ | ⟨_, h⟩ | ⟨_, h⟩
   ·exact h.2
   ·exact h.2
   ·exact h.2
 unfold W at *;intro a hs hd he;refine hz (fun i hi => ?_) a hs hd he;rw [← he]; simp only [N0a, Array.getD_eq_getD_getElem?]; rw [Array.getElem?_eq_none (by omega)]; rfl
variable {e : Env} {w : World}
theorem i5b (hC : C w) (h : K D e w) : WN P r N l C pur K D [] e w := ⟨hC, h⟩
theorem H3a {i : Nat} {rest : List Nat} {o : Oper} (hC : C w) (ho : l[i]? = some o) (hp : pur i = true) (hv : r1c o.op = true) (h : QL P N l.toArray C [o] (fun e' => WN P r N l C pur K D rest e' w) e) : WN P r N l C pur K D (i :: rest) e w := by
 unfold QL at h;obtain ⟨pa, hl, hq, hk⟩ := h;obtain ⟨d, v, h1, h2, h3, h4⟩ := hq 0 o rfl;obtain rfl : pa = [(d, v)] := by
  match pa, hl, h1 with
  | [x], _, h1 => simpa using h1
 refine ⟨hC, o, ho, fun d' a0 => by rw [h2] at a0; cases a0; exact h3, .inl ⟨hp, d, v, h2, ?_, hk⟩⟩;rcases h4 with ⟨h5, h6⟩ | h5
 ·refine .inl ⟨h5, fun w hw => ?_⟩;rcases h6 w hw with h7 | ⟨f, args, h7, _⟩
  ·exact h7
  ·obtain ⟨_, b0⟩ := p6a hv h7; cases b0
 ·exact .inr h5
theorem d6b {i : Nat} {rest : List Nat} {o : Oper} (hC : C w) (ho : l[i]? = some o) (hp : pur i = false) (hN : (o.dst.all fun d => Nat.ble (d + 1) N) = true)
 (h : WL P r N l.toArray [o] (fun D' e' w' => D' = D ∧ WN P r N l C pur K D rest e' w') D e w) : WN P r N l C pur K D (i :: rest) e w :=
 ⟨hC, o, ho, fun d hd => by rw [hd] at hN; exact Nat.le_of_ble_eq_true (by simpa using hN), .inr ⟨hp, h⟩⟩
end
def Q5a (M : List Nat) (w : World) (cs : List Value) (x : v2a) : Prop := ∃ ys, cs = ys ++ [.int .i64 x.frm, .int .i64 x.ch.thread, .int .i64 x.ch.step, .int .i64 x.ch.cell] ∧ w0a M w x.conf ys ∧ i64 x.frm ∧ S1a [.int .i64 x.ch.thread, .int .i64 x.ch.step, .int .i64 x.ch.cell] x.ch
theorem Q5a.open_ {M : List Nat} {w : World} {cs : List Value} {x : v2a} (h : Q5a M w cs x) : ∃ Am nm cm Aa na ca Ab nb cb, cs = [.slice Am nm cm, .slice Aa na ca, .slice Ab nb cb, .int .i64 x.frm, .int .i64 x.ch.thread, .int .i64 x.ch.step, .int .i64 x.ch.cell] ∧ w0a M w x.conf [.slice Am nm cm, .slice Aa na ca, .slice Ab nb cb] ∧ i64 x.frm ∧ S1a [.int .i64 x.ch.thread, .int .i64 x.ch.step, .int .i64 x.ch.cell] x.ch := by
 obtain ⟨_, rfl, h1, h2, h3⟩ := h;obtain ⟨Am, nm, cm, Aa, na, ca, Ab, nb, cb, rfl, -⟩ := h1.open_;exact ⟨Am, nm, cm, Aa, na, ca, Ab, nb, cb, rfl, h1, h2, h3⟩
theorem Q5a.keep {M : List Nat} {w w' : World} {cs : List Value} {x : v2a} (hk : u0a M w w') (h : Q5a M w cs x) : Q5a M w' cs x := by
 obtain ⟨ys, h0, h1, h2⟩ := h;exact ⟨ys, h0, h1.keep hk, h2⟩
theorem Q5a.more {M M' : List Nat} {w : World} {cs : List Value} {x : v2a} (hM : ∀ g ∈ M', g ∈ M ∨ w.heap.size ≤ g) (h : Q5a M w cs x) : Q5a M' w cs x := by
 obtain ⟨ys, h0, h1, h2⟩ := h;exact ⟨ys, h0, h1.more hM, h2⟩
theorem O0b : d5a Q5a 7 where
 len h := by
  obtain ⟨Am, nm, cm, Aa, na, ca, Ab, nb, cb, rfl, -⟩ := h.open_; rfl
 one h u hu := by
  obtain ⟨Am, nm, cm, Aa, na, ca, Ab, nb, cb, rfl, -⟩ := h.open_;simp at hu; rcases hu with rfl | rfl | rfl | rfl | rfl | rfl | rfl <;> rfl
 keep hk h := h.keep hk
 more hM h := h.more hM
theorem S2b (ns : List Int) : (f4a ns).size = ns.length := by
 show (ns.foldl (fun r n => r.push (UInt8.ofNat n.toNat)) ByteArray.empty).data.size = _
 rw [← Array.length_toList, q4a, List.length_append, List.length_map];exact Nat.zero_add _
def e4b (V : List v2a) : List (Value × Value) := V.map fun x => (.string (B6b x.conf), .bool true)
theorem T6b (V : List v2a) (x : v2a) : e4b (V ++ [x]) = e4b V ++ [(.string (B6b x.conf), .bool true)] := by simp [e4b]
theorem a7b {V : List v2a} {k v : Value} (h : (k, v) ∈ e4b V) : v = .bool true := by
 obtain ⟨_, _, he⟩ := List.mem_map.1 h;exact (Prod.mk.inj he).2.symm
theorem U6b {p : f0a} {V : List v2a} {x : v2a} (hp : n1a p) (hV : ∀ y ∈ V, b4a p y.conf) (hx : b4a p x.conf) {v : Value} (h : (Value.string (B6b x.conf), v) ∈ e4b V) : G2a V x = V := by
 obtain ⟨y, hy, he⟩ := List.mem_map.1 h;have h1 : B6b y.conf = B6b x.conf := by injection (Prod.mk.inj he).1
 unfold G2a;rw [if_pos];exact List.mem_map.2 ⟨y, hy, p1c hp (hV y hy) hx h1⟩
theorem V6b {V : List v2a} {x : v2a} (h : ∀ y ∈ e4b V, y.1 ≠ Value.string (B6b x.conf)) : G2a V x = V ++ [x] := by
 unfold G2a;rw [if_neg];intro hh;obtain ⟨y, hy, he⟩ := List.mem_map.1 hh;refine h _ (List.mem_map.2 ⟨y, hy, rfl⟩) ?_;show Value.string (B6b y.conf) = _;rw [he]
theorem St.base (M : List Nat) (w : World) : St M w w [] := ⟨x0a.refl _ _, by simp, by simp⟩
theorem St.pushO {M : List Nat} {w0 w : World} {L : List Ent} (S : St M w0 w L) {G : Option Nat} {t : TypeId} {cs : List Value} (h0 : G = none → cs = []) (hg : ∀ g, G = some g → p0a w (g, t, cs)) (hM : ∀ g, G = some g → g ∈ M) (a0 : ∀ g, G = some g → ∀ b ∈ L, b.1 ≠ some g) : St M w0 w ((G, t, cs) :: L) := by
 cases G with
 | none => rw [h0 rfl]; exact S.nilEnt t
 | some g => exact S.push (hg g rfl) (.inr (hM g rfl)) (a0 g rfl)
theorem R1a.grow {α : Type} {R : List Nat → World → List Value → α → Prop} {size : Nat} (hL : d5a R size) {M M' Bs : List Nat} {w w' : World} {G : Option Nat} {cs : List Value} {v : Value} {l : List α} (h : R1a R size M w G cs v l) (hk : u0a Bs w w') (hB : ∀ g ∈ Bs, g ∈ G.toList ++ M) (hM : ∀ g ∈ M', g ∈ G.toList ++ M ∨ w.heap.size ≤ g) : R1a R size M' w' G cs v l := by
 obtain ⟨css, q1, q2, q3, q4⟩ := h;refine ⟨css, q1, q2, q3, fun i x hi => ?_⟩;obtain ⟨c, h5, h6⟩ := q4 i x hi;refine ⟨c, h5, ?_⟩;have h7 : R (Bs ++ (G.toList ++ M')) w c x := hL.more (fun g hg => by
  rcases List.mem_append.1 hg with hg | hg
  ·exact .inl (hB g hg)
  ·rcases List.mem_append.1 hg with hg | hg
   ·exact .inl (List.mem_append_left _ hg)
   ·exact hM g hg) h6
 exact hL.more (fun g hg => .inl (List.mem_append_right _ hg)) (hL.keep (hk.mono (fun g hg => List.mem_append_left _ hg)) h7)
theorem o1a {M : List Nat} {w w' : World} {b : Blk} (hk : u0a M w w') (hm : b.1 ∉ M) (h : p0a w b) : p0a w' b := by
 have := h.lt;unfold p0a at *; rw [hk.same _ this hm]; exact h
theorem T3b {α : Type} {R : List Nat → World → List Value → α → Prop} {size : Nat} {M : List Nat} {w : World} {cs : List Value} {v : Value} {l : List α} (h : R1a R size M w none cs v l) : l = [] := by
 obtain ⟨_, _, _, ⟨_, hr⟩, _⟩ := h;rcases hr with ⟨_, _, h0⟩ | ⟨g, a0, hg, _⟩
 ·exact List.length_eq_zero_iff.1 h0
 ·cases hg
theorem x0a.nilK {M : List Nat} {w w' : World} (h : x0a M w w') (k : u0a [] w w') : x0a [] w w' := ⟨h.os, h.tape, h.output, h.size, k.same⟩
theorem R1a.rdG {α : Type} {R : List Nat → World → List Value → α → Prop} {size : Nat} {M M' : List Nat} {w0 w : World} {L : List Ent} {k el : Nat} {G : Option Nat} {cs : List Value} {v : Value} {l : List α} (h : R1a R size M w G cs v l) (S : St M' w0 w L) (hk : L[k]? = some (G, el, cs)) (hM : ∀ g, G = some g → g ∉ M) (hl : l.length ≤ 1000000) : RdS M w size (R (G.toList ++ M) w) v l := by
 obtain ⟨css, h1, h2, ⟨_, hr⟩, h4⟩ := h;rcases hr with ⟨rfl, rfl, h0⟩ | ⟨g, b0, rfl, rfl, q1, q2, q3, q4⟩
 ·exact ⟨none, 0, 0, rfl, by omega, by omega, by unfold maxLen; omega, by omega, fun h => absurd h (by omega)⟩
 ·refine ⟨_, _, _, rfl, rfl, q1, q2, by omega, fun _ => ⟨g, 0, rfl, hM g rfl, fun i x hi => ?_⟩⟩;obtain ⟨c, h5, h6⟩ := h4 i x hi;refine ⟨c, h2 c (List.mem_of_getElem? h5), fun j u hj => ?_, h6⟩;have hf := N1c css i c h2 h5 j u hj;have a0 : i * size + j < l.length * size := by
   have := (List.getElem?_eq_some_iff.1 hf).1;rw [z3a css h2, h1] at this; exact this
  rw [← q4, List.getElem?_take, if_pos a0] at hf;have := S.cell k hk hf;simpa using this
theorem t5a {w : World} {g g' t t' : Nat} {cs a0 : List Value} (h : p0a w (g, t, cs)) (h' : p0a w (g', t', a0)) (ht : t ≠ t') : g ≠ g' := by
 rintro rfl;unfold p0a at h h';rw [h] at h';simp only [Option.some.injEq] at h';cases h';exact ht rfl
structure i7b (m : Int) (gseen gmap gP gY gS l : Nat) (c0 c1 c2 c3 : Value) (Bs M0 : List Nat) (w : World) (V : List v2a) (G : Option Nat) (cs : List Value) (v : Value) : Prop where
 seen : p0a w (gseen, 50, [.map (some gmap)])
 map : n3a Tryz.prog 9 w gmap (e4b V)
 ptr : p0a w (gP, 70, [.pointer (some ⟨gS, 0, none⟩)])
 yld : p0a w (gY, 140, [.func (.yield l) #[] #[]])
 blk : p0a w (gS, 73, [c0, c1, c2, c3, .int .i64 m, v])
 row : R1a Q5a 7 (gS :: gmap :: (Bs ++ M0)) w G cs v V
 rown : G = none → cs = []
 rowb : ∀ g, G = some g → p0a w (g, 107, cs)
 ne : ∀ g ∈ [gseen, gmap, gP, gY, gS] ++ G.toList, g ∉ Bs
section
variable {m : Int} {gseen gmap gP gY gS l : Nat} {c0 c1 c2 c3 : Value} {Bs M0 : List Nat} {w : World} {V : List v2a} {G : Option Nat} {cs : List Value} {v : Value}
theorem i7b.st (h : i7b m gseen gmap gP gY gS l c0 c1 c2 c3 Bs M0 w V G cs v) : St (gS :: gmap :: G.toList) w w [(some gS, 73, [c0, c1, c2, c3, .int .i64 m, v]), (G, 107, cs)] :=
 ((St.base _ w).pushO h.rown h.rowb (fun g hg => by rw [hg]; simp) (fun g hg b hb => by simp at hb)).push h.blk (.inr (by simp)) (fun b hb he => by
   simp only [List.mem_singleton] at hb; subst hb;exact t5a (h.rowb gS he) h.blk (by decide) rfl)
theorem i7b.lt (h : i7b m gseen gmap gP gY gS l c0 c1 c2 c3 Bs M0 w V G cs v) : ∀ g ∈ [gseen, gmap, gP, gY, gS] ++ G.toList, g < w.heap.size := by
 intro g hg;simp only [List.mem_append, List.mem_cons, List.not_mem_nil, or_false, Option.mem_toList] at hg;rcases hg with (rfl | rfl | rfl | rfl | rfl) | hg
 ·exact h.seen.lt
 ·exact h.map.lt
 ·exact h.ptr.lt
 ·exact h.yld.lt
 ·exact h.blk.lt
 ·exact (h.rowb g hg).lt
theorem i7b.keep (h : i7b m gseen gmap gP gY gS l c0 c1 c2 c3 Bs M0 w V G cs v) {a0 : List Nat} {w' : World} (hk : u0a Bs w w') (hB : ∀ g ∈ a0, g ∈ Bs ∨ w.heap.size ≤ g) : i7b m gseen gmap gP gY gS l c0 c1 c2 c3 a0 M0 w' V G cs v where
 seen := o1a hk (h.ne _ (by simp)) h.seen
 map := h.map.keep hk (h.ne _ (by simp))
 ptr := o1a hk (h.ne _ (by simp)) h.ptr
 yld := o1a hk (h.ne _ (by simp)) h.yld
 blk := o1a hk (h.ne _ (by simp)) h.blk
 row := h.row.grow O0b hk (fun g hg => by simp [hg]) (fun g hg => by
  simp only [List.mem_cons, List.mem_append] at hg ⊢;rcases hg with rfl | rfl | hg | hg
  ·simp
  ·simp
  ·rcases hB g hg with h1 | h1
   ·simp [h1]
   ·exact .inr h1
  ·simp [hg])
 rown := h.rown
 rowb := fun g hg => o1a hk (h.ne _ (by simp [hg])) (h.rowb g hg)
 ne := fun g hg hh => by
  rcases hB g hh with h1 | h1
  ·exact h.ne g hg h1
  ·have := h.lt g hg; omega
end
structure n7b (p : f0a) (m : Int) (l gS : Nat) (c0 c1 c2 c3 : Value) (B : Nat) (M0 : List Nat) (wb : World) (J : Nat → List Nat → List Nat → World → Prop) (Q : World → Prop) : Prop where
 own : ∀ k Bs Ts Ts' w w', J k Bs Ts w → (∀ g ∈ Ts, g ∉ Bs ∧ (g = gS ∨ wb.heap.size ≤ g)) → (∀ g ∈ Ts', g ∈ Ts ∨ w.heap.size ≤ g) → x0a Ts w w' → J k Bs Ts' w'
 lt : ∀ k Bs Ts w, J k Bs Ts w → ∀ g ∈ Bs, g < w.heap.size
 each : ∀ k Bs Ts w V v, J k Bs Ts w → (∀ g ∈ Ts, g ∉ Bs ∧ (g = gS ∨ wb.heap.size ≤ g)) → (∀ g ∈ Ts, g < w.heap.size) → N3a p m V → V.length = k + 1 → p0a w (gS, 73, [c0, c1, c2, c3, .int .i64 m, v]) → gS ∉ Bs → RdS (Bs ++ M0) w 7 (Q5a (Ts ++ (Bs ++ M0)) w) v V → wb.heap.size ≤ w.heap.size →
  Yld Tryz.prog l #[.int .i64 k] w fun r w' => (r = .bool true ∧ k < B ∧ ∃ Bs', J (k + 1) Bs' Ts w' ∧ u0a Bs w w' ∧ ∀ g ∈ Bs', g ∈ Bs ∨ w.heap.size ≤ g) ∨ (r = .bool false ∧ Q w')
theorem y0c (p : f0a) (m : Int) (hp : n1a p) (gseen gmap gP gY gS l : Nat) (c0 c1 c2 c3 : Value) (Bs M0 : List Nat) (B : Nat) (i1 : B ≤ 100000) (wb w0 : World) (J : Nat → List Nat → List Nat → World → Prop) (Q : World → Prop) (hJ : n7b p m l gS c0 c1 c2 c3 B M0 wb J Q) (V : List v2a) (G : Option Nat) (cs : List Value) (v : Value) (x : v2a) (xs : List Value)
 (hS : i7b m gseen gmap gP gY gS l c0 c1 c2 c3 Bs M0 w0 V G cs v) (hk : J V.length Bs (gS :: gmap :: G.toList) w0) (hX : Q5a (gS :: gmap :: (G.toList ++ (Bs ++ M0))) w0 xs x) (hV : ∀ y ∈ V, b4a p y.conf) (hx : b4a p x.conf) (y0 : N3a p m (G2a V x)) (hB : V.length ≤ B) (n0 : ∀ g ∈ gS :: gmap :: G.toList, g = gS ∨ wb.heap.size ≤ g) (d1 : wb.heap.size ≤ w0.heap.size) (O0 : ∀ g ∈ M0, g < w0.heap.size ∧ g ∉ G.toList) :
 K0a Tryz.prog 79 #[.agg xs.toArray, .pointer (some ⟨gseen, 0, none⟩), .pointer (some ⟨gP, 0, none⟩), .pointer (some ⟨gY, 0, none⟩)] w0 fun r w' => (r = .bool true ∧ ∃ p0 G' X0 v', i7b m gseen gmap gP gY gS l c0 c1 c2 c3 p0 M0 w' (G2a V x) G' X0 v' ∧ J (G2a V x).length p0 (gS :: gmap :: G'.toList) w' ∧ u0a (gS :: gmap :: (G.toList ++ Bs)) w0 w' ∧ (∀ g ∈ p0, g ∈ Bs ∨ w0.heap.size ≤ g) ∧ (∀ g ∈ G'.toList, g ∈ G.toList ∨ w0.heap.size ≤ g) ∧ (G2a V x).length ≤ B) ∨ (r = .bool false ∧ Q w') := by
 obtain ⟨_, _, _, _, _, _, _, _, _, rfl, Z0, _, _⟩ := hX.open_;have S := hS.st;have k1 := hS.seen.cell (o := 0) rfl;have k2 := hS.ptr.cell (o := 0) rfl;have k3 := hS.yld.cell (o := 0) rfl;have hG : ∀ g, G = some g → g ≠ gseen ∧ g ≠ gP ∧ g ≠ gY := fun g hg => ⟨t5a (hS.rowb g hg) hS.seen (by decide), t5a (hS.rowb g hg) hS.ptr (by decide), t5a (hS.rowb g hg) hS.yld (by decide)⟩
 have P0 : ∀ g ∈ gS :: gmap :: G.toList, g ∉ Bs ∧ (g = gS ∨ wb.heap.size ≤ g) := fun g hg => ⟨hS.ne g (by simp at hg ⊢; grind), n0 g hg⟩
 have f1 : gmap ∉ G.toList := fun hh => by simp only [Option.mem_toList] at hh; exact hS.map.ne (hS.rowb _ hh) rfl
 have n1 : gseen ∉ gS :: gmap :: G.toList := fun hh => by
  simp only [List.mem_cons, Option.mem_toList] at hh;rcases hh with hh | hh | hh
  ·exact t5a hS.seen hS.blk (by decide) hh
  ·exact hS.map.ne hS.seen hh.symm
  ·exact (hG _ hh).1 rfl
 have n2 : gP ∉ gS :: gmap :: G.toList := fun hh => by
  simp only [List.mem_cons, Option.mem_toList] at hh;rcases hh with hh | hh | hh
  ·exact t5a hS.ptr hS.blk (by decide) hh
  ·exact hS.map.ne hS.ptr hh.symm
  ·exact (hG _ hh).2.1 rfl
 have n3 : gY ∉ gS :: gmap :: G.toList := fun hh => by
  simp only [List.mem_cons, Option.mem_toList] at hh;rcases hh with hh | hh | hh
  ·exact t5a hS.yld hS.blk (by decide) hh
  ·exact hS.map.ne hS.yld hh.symm
  ·exact (hG _ hh).2.2 rfl
 refine a0a Tryz.func79 rfl Tryz.ntmps79 rfl ?_;refine wO0 rfl ⟨⟩ (j0a S (by conv => lhs; whnf) rfl ?_);intro g4 w4 S4 X4 G4;refine lO S4.k [.o 0] rfl ⟨rfl,⟨⟩⟩ ?_;refine t0a S4 Z6c rfl rfl (A6c p hp x.conf hx _ _ _ (Z0.keep (S4.keepM.mono (fun g hg => by simp at hg ⊢; grind)))) ?_;rintro v9 w9 ⟨rfl, _⟩ S9 X9;have t0 : keyOf Tryz.prog 9 (.string (B6b x.conf)) = some (.string (B6b x.conf).data.toList) := Go.WideMaps.keyOf_string_mk Tryz.underlying9 (by unfold B6b; rw [S2b]; unfold maxLen; omega);have u0 := (hS.map.keep X4 (by simp)).keep X9 (by simp);refine lO0 rfl ⟨⟩ (r0a Z8b rfl (by exact S9.oldM n1 k1) rfl ?_);refine lO0 rfl ⟨⟩ (M7b (Go.Maps.string_keyed Tryz.underlying9) Tryz.underlying50 p9c u0 rfl rfl t0 rfl (fun m1 x0 => ?_) (fun v0 => ?_));obtain rfl := a7b x0
 ·refine lR0 rfl ⟨⟩ (q0a rfl (by conv => lhs; whnf) ?_);rw [U6b hp hV hx x0];exact .inl ⟨rfl, Bs, G, cs, v, hS.keep ((X4.trans X9).mono (by simp)) (fun g hg => .inl hg), hJ.own V.length Bs _ _ w0 _ hk P0 (fun g hg => .inl hg) S9.below, (X4.trans X9).mono (by simp), fun g hg => .inl hg, fun g hg => .inl hg, hB⟩
 refine lO0 rfl ⟨⟩ (r0a Z8b rfl (by exact S9.oldM n1 k1) rfl ?_);refine lO0 rfl ⟨⟩ (z8a S9 (Go.Maps.string_keyed Tryz.underlying9) Tryz.underlying50 u0 rfl rfl rfl t0 v0 (.inr (by simp)) ?_);intro wm Sm Xm Mm;refine lC0 rfl ⟨⟩ (t0b b0a (fun i => [0, 1, 2, 3, 4, 5, 8, 9].contains i) [0, 1, 2, 3, 4, 5, 6, 7, 8, 9] 10 (by kernel_rfl) (by kernel_rfl) (clF (A := [_, _]) (R := [(G, 107, cs)]) Sm G.toList) _ rfl ?_);have g0 := Sm.drew;have J0 : u0a [] wm wm.drew := A2a _ _;generalize wm.drew = t1 at g0 J0 ⊢;have i0 : u0a (G.toList) _ _ := J0.of_nil;refine M1a ⟨(St.front (A := [_, _]) g0), i0⟩ rfl rfl rfl ?_;refine h0a s4a rfl (fun w1 hw => by exact hw.1.oldM n2 k2) rfl ?_;refine d0a ?_;refine M1a ⟨(St.front (A := [_, _]) g0), i0⟩ rfl rfl rfl ?_;refine h0a s4a rfl (fun w1 hw => by exact hw.1.oldM n2 k2) rfl ?_;refine d0a ?_;refine M1a ⟨(St.front (A := [_, _]) g0), i0⟩ rfl rfl rfl ?_;refine X2a rfl rfl ?_;refine d0a ?_;refine M1a ⟨(St.front (A := [_, _]) g0), i0⟩ rfl rfl rfl ?_;refine E0a W4b rfl rfl ?_;refine d0a ?_;refine M1a ⟨(St.front (A := [_, _]) g0), i0⟩ rfl rfl rfl ?_;refine h0a f7a rfl (fun w1 hw => by exact hw.1.cell 1 rfl rfl) rfl ?_;refine d0a ?_;refine M1a ⟨(St.front (A := [_, _]) g0), i0⟩ rfl rfl rfl ?_;refine F1a F5b rfl (fun w1 hw => hw.1.cells 0 rfl) rfl rfl ?_;refine d0a ?_;refine K9a ⟨(St.front (A := [_, _]) g0), i0⟩ rfl rfl rfl rfl ?_;refine G0a g0 q7b (vs := [.agg _]) (cs := [_, _, _, _, _, _, _]) (by rfl) rfl rfl rfl rfl rfl rfl ?_;intro h1 q1 q0 W0 g1;have b0 := i0.trans (W0.mono (by simp));refine R0a ⟨rfl, ?_⟩;refine K9a ⟨(St.front (A := [_, _, _]) q0).tail, b0⟩ rfl rfl rfl rfl ?_;have T0 := Mm.keep b0 f1;have F0 := hS.row.keep O0b (q0.keepM.mono (fun g hg => by simp at hg ⊢; grind));have a1 := (hX.more (M' := G.toList ++ (gS :: gmap :: (Bs ++ M0))) (fun g hg => by simp at hg ⊢; grind)).keep (q0.keepM.mono (fun g hg => by simp at hg ⊢; grind));refine z1a O0b (k := 3) (M2 := gS :: gmap :: (Bs ++ M0)) (e1 := x) q0 q7b (by decide) rfl F0 rfl rfl (q0.cells 0 rfl) a1 (by omega) rfl ?_;intro o1 o0 s0 r1 B0 e0 C0 S0;have A0 := B0.tail;have j0 := b0.trans C0;have U0 := T0.keep C0 (fun hh => by simp only [Option.mem_toList] at hh; exact hS.map.ne (hS.rowb _ hh) rfl);have u1 := b0.size;have v1 := C0.size;obtain ⟨H0, K0, rfl⟩ := e0.form;refine R0a ⟨rfl, ?_⟩;refine M1a ⟨(St.front (A := [_, _]) A0), j0⟩ rfl rfl rfl ?_;refine X2a rfl rfl ?_;refine d0a ?_;refine M1a ⟨(St.front (A := [_, _]) A0), j0⟩ rfl rfl rfl ?_;refine E0a W4b rfl rfl ?_;refine d0a ?_;refine v5a ⟨(St.front (A := [_, _]) A0), j0⟩ ?_;refine J0a (kk := 1) A0 B8c rfl (by conv => lhs; whnf) rfl rfl (by exact Nat.le_of_ble_eq_true rfl) ?_;intro R0 r0 h0;refine R0a ⟨rfl, ?_⟩;have zl : (V ++ [x]).length ≤ 100001 := by simp; omega
 have e1 : (((V ++ [x]).length : Nat) : Int) - 1 = (V.length : Nat) := by simp
 refine fC0 rfl ⟨⟩ (C0a b0a [0, 1, 2, 3, 4, 5, 6] [] [7, 8] (by kernel_rfl) rfl (Cl _ _ _ _) (Cl.start r0) ?_);refine h0a a9a rfl (fun w1 hw => by exact hw.1.oldM n3 k3) rfl ?_;refine h0a s4a rfl (fun w1 hw => by exact hw.1.oldM n2 k2) rfl ?_;refine qO0 rfl ⟨⟩ (h0a f7a rfl (fun w1 hw => by exact hw.1.cell 1 rfl rfl) rfl ?_);refine qD rfl ⟨by omega,⟨⟩⟩ ?_;rintro z0 ⟨f0, I0⟩;have eV := V6b v0;rw [eV] at y0 ⊢;have V0 := (U0.keep h0 (fun hh => by rw [List.mem_singleton] at hh; exact hS.map.ne hS.blk hh)).keep I0 (by simp);have G0 := e0.keep O0b ((h0.trans I0.of_nil).mono (fun g hg => by simp at hg ⊢; grind));have d0 : ∀ g ∈ o0.toList, g ∈ G.toList ∨ w0.heap.size ≤ g := fun g hg => by
  rcases S0 g hg with h | h
  ·exact .inl h
  ·right; have := Sm.size; omega
 have a0 : i7b m gseen gmap gP gY gS l c0 c1 c2 c3 Bs M0 z0 (V ++ [x]) o0 s0 (.slice H0 (V ++ [x]).length K0) := by
  refine ⟨o1a f0.keepM n1 hS.seen, by rw [T6b]; exact V0, o1a f0.keepM n2 hS.ptr, o1a f0.keepM n3 hS.yld, f0.blk 1 rfl, G0, ?_, fun g hg => f0.blk 2 (by rw [hg]; rfl), fun g hg hh => ?_⟩
  ·rintro rfl;exact absurd (T3b G0) (by simp)
  ·simp only [List.mem_append, Option.mem_toList] at hg;rcases hg with hg | hg
   ·exact hS.ne g (List.mem_append_left _ hg) hh
   ·rcases d0 g (by simpa using hg) with h | h
    ·exact hS.ne g (List.mem_append_right _ h) hh
    ·have := hJ.lt _ _ _ _ hk g hh; omega
 have D0 := hJ.own V.length Bs (gS :: gmap :: G.toList) (gS :: gmap :: o0.toList) w0 z0 hk P0 (fun g hg => by
  simp only [List.mem_cons] at hg ⊢;rcases hg with rfl | rfl | hg
  ·simp
  ·simp
  ·rcases d0 g hg with h | h
   ·simp [h]
   ·exact .inr h) f0.below
 have b1 : RdS (Bs ++ M0) z0 7 (Q5a ((gS :: gmap :: o0.toList) ++ (Bs ++ M0)) z0) (.slice H0 (V ++ [x]).length K0) (V ++ [x]) := by
  have E0 : ∀ g, o0 = some g → g ∉ gS :: gmap :: (Bs ++ M0) := fun g hg hh => by
   have Q0 := a0.rowb g hg;simp only [List.mem_cons, List.mem_append] at hh;rcases hh with rfl | rfl | hh | hh
   ·exact t5a Q0 a0.blk (by decide) rfl
   ·exact a0.map.ne Q0 rfl
   ·exact a0.ne g (by simp [hg]) hh
   ·rcases d0 g (by simp [hg]) with h | h
    ·exact (O0 g hh).2 h
    ·have := (O0 g hh).1; omega
  exact RdS.lessW (G0.rdG f0 (k := 2) rfl E0 (by simp; omega)) (fun g hg => by simp at hg ⊢; grind) (fun _ _ => Q5a.more (fun g hg => .inl (by simp at hg ⊢; grind)))
 have hY := hJ.each V.length Bs _ z0 (V ++ [x]) _ D0 (fun g hg => ⟨a0.ne g (by simp at hg ⊢; grind), by
  simp only [List.mem_cons] at hg;rcases hg with rfl | rfl | hg
  ·exact .inl rfl
  ·exact n0 _ (by simp)
  ·rcases d0 g hg with h | h
   ·exact n0 g (by simp only [List.mem_cons]; exact .inr (.inr h))
   ·right; omega⟩) (fun g hg => a0.lt g (by simp at hg ⊢; grind)) y0 (by simp) a0.blk (hS.ne _ (by simp)) b1 (Nat.le_trans d1 f0.size)
 rw [← e1] at hY;refine G3b rfl rfl rfl hY ?_;rintro p1 s1 (⟨rfl, j1, p0, Y0, N0, L0⟩ | ⟨rfl, hQ⟩)
 ·refine lR0 rfl ⟨⟩ (q0a rfl (by conv => lhs; whnf) ?_);refine .inl ⟨rfl, p0, o0, s0, _, a0.keep N0 L0, by simpa using Y0, ?_, fun g hg => ?_, d0, by simp; omega⟩
  ·exact ((f0.keepM.mono (fun g hg => by simp at hg ⊢; grind)).trans (N0.mono (fun g hg => by simp [hg])))
  ·rcases L0 g hg with h | h
   ·exact .inl h
   ·right; have := f0.size; omega
 refine lR0 rfl ⟨⟩ (q0a rfl (by conv => lhs; whnf) ?_);exact .inr ⟨rfl, hQ⟩
theorem St.callRow {M : List Nat} {w0 w w' : World} {L : List Ent} (S : St M w0 w L) {k t : Nat} {G G' : Option Nat} {cs a0 : List Value} (hk : L[k]? = some (G, t, cs)) (hB : x0a G.toList w w') (hb : ∀ g, G' = some g → p0a w' (g, t, a0)) (hf : ∀ g ∈ G'.toList, g ∈ G.toList ∨ w.heap.size ≤ g) : St M w0 w' (L.set k (G', t, a0)) := by
 have hg : ∀ g ∈ G.toList, w0.heap.size ≤ g ∨ g ∈ M := fun g hg => (S.own _ (List.mem_of_getElem? hk) g (by simpa using hg)).1;refine S.replace k hk ⟨hB.os.trans S.below.os, hB.tape.trans S.below.tape, hB.output.trans S.below.output, Nat.le_trans S.below.size hB.size, fun i hi hm => ?_⟩ (fun b b0 d0 => hB.block b b0 (fun hh => d0 (by simpa using hh))) (fun g he => ⟨?_, hb g he, ?_⟩)
 ·exact (hB.block i (Nat.lt_of_lt_of_le hi S.below.size) (fun hh => (hg i hh).elim (fun h => by omega) hm)).trans (S.below.block i hi hm)
 ·rcases hf g (by simp only [Option.mem_toList]; exact he) with h | h
  ·exact hg g h
  ·exact .inl (Nat.le_trans S.size h)
 ·rcases hf g (by simp only [Option.mem_toList]; exact he) with h | h
  ·exact .inl (by simpa using h)
  ·exact .inr h
theorem M6a (a b : List Int) (M : List Nat) (w0 : World) (va vb : Value) (hA : RdI M w0 va a) (hB : RdI M w0 vb b) :
 K0a Tryz.prog 37 #[va, vb] w0 fun v w' => v = .bool (decide (a = b)) ∧ Below w0.heap.size w0 w' := by
 obtain ⟨Aa, na, ca, rfl⟩ := hA.form;obtain ⟨_, -, _⟩ := hA.len;obtain ⟨Ab, nb, cb, rfl⟩ := hB.form;obtain ⟨_, -, _⟩ := hB.len;have S := St.refl w0;refine a0a Tryz.func37 rfl Tryz.ntmps37 rfl ?_;refine wB0 rfl ⟨⟩ (fun r0 => ?_) fun r0 => ?_
 ·refine lR0 rfl ⟨⟩ (q0a rfl (by conv => lhs; whnf) ?_);exact ⟨by rw [decide_eq_false (E2b (by omega))], S.fin⟩
 refine lC0 rfl ⟨⟩ (wL (fun μk D ε w => D = [] ∧ ∃ k : Nat, (k + μk = (a.length)) ∧ (s2b a b k) ∧ St [] w0 w [] ∧ Sl ε [(0, .slice Aa na ca), (1, .slice Ab nb cb), (5, .int .i64 k)]) (μ := (a.length)) ⟨rfl, 0, by omega, s2b.zero, S, rfl⟩ ?_);rintro μk D ε w ⟨rfl, k, _, he, S, eZ⟩;refine wK eZ (wB0 rfl ⟨⟩ (fun s0 => ?_) fun s0 => ?_)
 ·refine lC0 rfl ⟨⟩ (C0a b0a [0, 1, 2, 3, 4, 5, 6, 7, 8] [] [] (by kernel_rfl) rfl (Cl _ _ _ _) (Cl.start S) ?_);obtain ⟨x, p0, t0, _, j0, d0, _, _, f0, h0⟩ := RdS.get (hA) (k) (by omega);obtain ⟨rfl, _⟩ := id h0;obtain ⟨_, q0, u0, _, n0, e0, _, _, g0, i0⟩ := RdS.get (hB) (k) (by omega);obtain ⟨rfl, _⟩ := id i0;refine qB ((S.q.a g0).a f0) [.x p0 t0,.f 0 0,.x q0 u0,.f 1 0] rfl ⟨rfl,⟨e0,by omega⟩,rfl,⟨d0,by omega⟩,⟨⟩⟩ (fun b0 => ?_) fun b0 => ?_
  ·refine qD rfl ⟨⟩ ?_;rintro v0 ⟨a0, o0⟩;refine lR0 rfl ⟨⟩ (q0a rfl (by conv => lhs; whnf) ?_);exact ⟨by rw [decide_eq_false (d2b j0 n0 b0)], a0.fin⟩
  refine qD rfl ⟨⟩ ?_;rintro v0 ⟨a0, o0⟩;refine lP0 rfl ⟨by omega,⟨⟩⟩ ⟨μk - 1, by omega, rfl, (k + 1), (by omega), (he.succ j0 n0 b0), a0, rfl⟩
 refine lR0 rfl ⟨⟩ (q0a rfl (by conv => lhs; whnf) ?_);exact ⟨by rw [decide_eq_true (he.all (by omega) (by omega))], S.fin⟩
theorem J6a (c d : s0a) (M : List Nat) (w0 : World) (xs ys : List Value) (hX : w0a M w0 c xs) (hY : w0a M w0 d ys) :
 K0a Tryz.prog 12 #[.agg xs.toArray, .agg ys.toArray] w0 fun v w' => v = .bool (decide (c = d)) ∧ Below w0.heap.size w0 w' := by
 obtain ⟨Xm, xm, ym, Xa, xa, ya, Xb, xb, yb, rfl, P0, V1, e0, _, _, _, _, _, _⟩ := hX.open_;obtain ⟨Zm, zm, um, Za, za, ua, Zb, zb, ub, rfl, y1, W1, h0, _, _, _, _, _, _⟩ := hY.open_;have S := St.refl w0;refine a0a Tryz.func12 rfl Tryz.ntmps12 rfl ?_;refine wO0 rfl ⟨⟩ (j0a S (by conv => lhs; whnf) rfl ?_);intro g2 w2 S2 X2 G2;refine j0a S2 (by conv => lhs; whnf) rfl ?_;intro g3 w3 S3 X3 G3;refine lO S3.k [.o 1,.o 0] rfl ⟨rfl,rfl,⟨⟩⟩ (z0a S3 s5b rfl rfl (M6a c.mem d.mem M _ _ _ (P0.keep (S3.keep0 M)) (y1.keep (S3.keep0 M))) (fun z0 o2 i0 B1 => ?_) (fun z0 o2 i0 B1 => ?_))
 ·refine lO i0.k [.o 1,.o 0] rfl ⟨rfl,rfl,⟨⟩⟩ (z0a i0 s5b rfl rfl (M6a c.at_ d.at_ M _ _ _ (V1.keep (i0.keep0 M)) (W1.keep (i0.keep0 M))) (fun A0 p2 j0 C1 => ?_) (fun A0 p2 j0 C1 => ?_))
  ·refine lB j0.k [.o 1,.o 0] rfl ⟨rfl,rfl,⟨⟩⟩ (fun Q1 => ?_) fun Q1 => ?_
   ·refine lR0 rfl ⟨⟩ (q0a rfl (by conv => lhs; whnf) ?_);exact ⟨by rw [decide_eq_false (fun e : c = d => E2b (a := c.buf) (b := d.buf) (by omega) (by rw [e]))], j0.fin⟩
   refine lC0 rfl ⟨⟩ (wL (fun μk D ε w => D = [] ∧ ∃ k : Nat, (k + μk = (c.buf.length)) ∧ (s2b c.buf d.buf k) ∧ St [] w0 w [(some g3, 38, [.slice Zm zm um, .slice Za za ua, .slice Zb zb ub]), (some g2, 38, [.slice Xm xm ym, .slice Xa xa ya, .slice Xb xb yb])] ∧ Sl ε [(2, .pointer (some ⟨g2, 0, none⟩)), (3, .pointer (some ⟨g3, 0, none⟩)), (5, .int .i64 k)]) (μ := (c.buf.length)) ⟨rfl, 0, by omega, s2b.zero, j0, rfl⟩ ?_);rintro μk D ε w ⟨rfl, k, _, he, S, eZ⟩;refine wK eZ (wB S.k [.o 1] rfl ⟨rfl,⟨⟩⟩ (fun R1 => ?_) fun R1 => ?_)
   ·refine lC0 rfl ⟨⟩ (C0a b0a [0, 1, 2, 3, 4, 5, 6, 7, 8, 9, 10, 11, 12] [] [] (by kernel_rfl) rfl (Cl _ _ _ _) (Cl.start S) ?_);obtain ⟨b, E1, Y1, _, g0, D0, _, _, Q0, b1⟩ := RdS.get (e0) (k) (by omega);obtain ⟨_, _, _, rfl, _, _, _⟩ := x5a.open_ b1;obtain ⟨b', F1, Z1, _, b0, E0, _, _, R0, d1⟩ := RdS.get (h0) (k) (by omega);obtain ⟨_, _, _, rfl, _, _, _⟩ := x5a.open_ d1;refine qB ((S.q.a R0).a Q0) [.o 1,.x E1 Y1,.f 0 0,.o 0,.x F1 Z1,.f 1 0] rfl ⟨rfl,⟨E0,by omega⟩,rfl,rfl,⟨D0,by omega⟩,rfl,⟨⟩⟩ (fun T1 => ?_) fun T1 => ?_
    ·refine qD rfl ⟨⟩ ?_;rintro q2 ⟨y0, D1⟩;refine lR0 rfl ⟨⟩ (q0a rfl (by conv => lhs; whnf) ?_);exact ⟨by rw [decide_eq_false (fun e : c = d => d2b g0 b0 (E2b (by omega)) (by rw [e]))], y0.fin⟩
    refine qD rfl ⟨⟩ ?_;rintro q2 ⟨y0, D1⟩;refine lC0 rfl ⟨⟩ (wL (fun μj D ε w => D = [] ∧ ∃ j : Nat, (j + μj = (b.length)) ∧ (s2b b b' j) ∧ St [] w0 w [(some g3, 38, [.slice Zm zm um, .slice Za za ua, .slice Zb zb ub]), (some g2, 38, [.slice Xm xm ym, .slice Xa xa ya, .slice Xb xb yb])] ∧ Sl ε [(2, .pointer (some ⟨g2, 0, none⟩)), (3, .pointer (some ⟨g3, 0, none⟩)), (5, .int .i64 k), (6, .int .i64 j)]) (μ := (b.length)) ⟨rfl, 0, by omega, s2b.zero, y0, rfl⟩ ?_);rintro μj D ε w ⟨rfl, j, _, A1, S, eZ⟩;refine wK eZ ?_;obtain ⟨_, G1, a2, _, q1, F0, _, _, S0, f1⟩ := RdS.get (e0) (k) (by omega);obtain rfl := Option.some.inj (g0.symm.trans q1);obtain ⟨_, _, _, rfl, _, _, _⟩ := x5a.open_ f1;refine wB (S.k.a S0) [.o 1,.x G1 a2,.f 0 0] rfl ⟨rfl,⟨F0,by omega⟩,rfl,⟨⟩⟩ (fun U1 => ?_) fun U1 => ?_
    ·refine lC0 rfl ⟨⟩ (C0a b0a [0, 1, 2, 3, 4, 5, 6, 7, 8, 9, 10, 11, 12, 13, 14, 15, 16, 17, 18, 19, 20, 21, 22, 23, 24, 25, 26, 27, 28, 29, 30, 31, 32, 33, 34, 35, 36, 37, 38, 39, 40, 41] [] [] (by kernel_rfl) rfl (Cl _ _ _ _) (Cl.start S) ?_);obtain ⟨_, H1, b2, _, r1, G0, _, _, T0, g1⟩ := RdS.get (e0) (k) (by omega);obtain rfl := Option.some.inj (g0.symm.trans r1);obtain ⟨_, _, _, rfl, o0, _, _⟩ := x5a.open_ g1;obtain ⟨en, I1, d2, _, f0, H0, _, _, U0, h1⟩ := RdS.get (o0) (j) (by omega);obtain ⟨_, _, _, _, _, _, rfl, s0, _, _, _, _, _⟩ := W0a.open_ h1;obtain ⟨_, J1, f2, _, s1, I0, _, _, V0, i1⟩ := RdS.get (h0) (k) (by omega);obtain rfl := Option.some.inj (b0.symm.trans s1);obtain ⟨_, _, _, rfl, p0, _, _⟩ := x5a.open_ i1;obtain ⟨z1, K1, h2, _, a0, J0, _, _, W0, j1⟩ := RdS.get (p0) (j) (by omega);obtain ⟨_, _, _, _, _, _, rfl, t0, _, _, _, _, _⟩ := W0a.open_ j1;refine qO ((((S.q.a W0).a V0).a U0).a T0) [.o 1,.x H1 b2,.f 0 0,.x I1 d2,.f 1 0,.o 0,.x J1 f2,.f 2 0,.x K1 h2,.f 3 0] rfl ⟨rfl,⟨J0,by omega⟩,rfl,⟨I0,by omega⟩,rfl,rfl,⟨H0,by omega⟩,rfl,⟨G0,by omega⟩,rfl,⟨⟩⟩ (T1a s5b rfl rfl (fun w1 S1 X1 => M6a en.cells z1.cells M _ _ _ (s0.keep (S1.keep0 M)) (t0.keep (S1.keep0 M))) (fun B0 => ?_) fun B0 => ?_)
     ·obtain ⟨_, M1, i2, _, t1, K0, _, _, X0, m1⟩ := RdS.get (e0) (k) (by omega);obtain rfl := Option.some.inj (g0.symm.trans t1);obtain ⟨_, _, _, rfl, q0, _, _⟩ := x5a.open_ m1;obtain ⟨_, N1, j2, _, u1, L0, _, _, Y0, n1⟩ := RdS.get (q0) (j) (by omega);obtain rfl := Option.some.inj (f0.symm.trans u1);obtain ⟨_, _, _, _, _, _, rfl, _, u0, _, _, _, _⟩ := W0a.open_ n1;obtain ⟨_, O1, m2, _, v1, N0, _, _, Z0, o1⟩ := RdS.get (h0) (k) (by omega);obtain rfl := Option.some.inj (b0.symm.trans v1);obtain ⟨_, _, _, rfl, r0, _, _⟩ := x5a.open_ o1;obtain ⟨_, P1, n2, _, x1, O0, _, _, a1, p1⟩ := RdS.get (r0) (j) (by omega);obtain rfl := Option.some.inj (a0.symm.trans x1);obtain ⟨_, _, _, _, _, _, rfl, _, v0, _, _, _, _⟩ := W0a.open_ p1;refine qO ((((S.q.a a1).a Z0).a Y0).a X0) [.o 1,.x M1 i2,.f 0 0,.x N1 j2,.f 1 1,.o 0,.x O1 m2,.f 2 0,.x P1 n2,.f 3 1] rfl ⟨rfl,⟨O0,by omega⟩,rfl,⟨N0,by omega⟩,rfl,rfl,⟨L0,by omega⟩,rfl,⟨K0,by omega⟩,rfl,⟨⟩⟩ (T1a s5b rfl rfl (fun w1 S1 X1 => M6a en.values z1.values M _ _ _ (u0.keep (S1.keep0 M)) (v0.keep (S1.keep0 M))) (fun C0 => ?_) fun C0 => ?_)
      ·refine qD rfl ⟨⟩ ?_;rintro x0 ⟨d0, n0⟩;refine lP0 rfl ⟨by omega,⟨⟩⟩ ⟨μj - 1, by omega, rfl, (j + 1), (by omega), (A1.succ f0 a0 (F0a.ext' (of_decide_eq_true B0) (of_decide_eq_true C0))), d0, rfl⟩
      refine qD rfl ⟨⟩ ?_;rintro x0 ⟨d0, n0⟩;refine lR0 rfl ⟨⟩ (q0a rfl (by conv => lhs; whnf) ?_);exact ⟨by rw [decide_eq_false (fun e : c = d => d2b g0 b0 (d2b f0 a0 (fun e' => of_decide_eq_false C0 (by rw [e']))) (by rw [e]))], d0.fin⟩
     refine qD rfl ⟨⟩ ?_;rintro x0 ⟨d0, n0⟩;refine lR0 rfl ⟨⟩ (q0a rfl (by conv => lhs; whnf) ?_);exact ⟨by rw [decide_eq_false (fun e : c = d => d2b g0 b0 (d2b f0 a0 (fun e' => of_decide_eq_false B0 (by rw [e']))) (by rw [e]))], d0.fin⟩
    refine lP0 rfl ⟨by omega,⟨⟩⟩ ⟨μk - 1, by omega, rfl, (k + 1), (by omega), (he.succ g0 b0 (A1.all (by omega) (by omega))), S, rfl⟩
   refine lR0 rfl ⟨⟩ (q0a rfl (by conv => lhs; whnf) ?_);exact ⟨by rw [decide_eq_true (s0a.ext' (of_decide_eq_true z0) (of_decide_eq_true A0) (he.all (by omega) (by omega)))], S.fin⟩
  refine lR0 rfl ⟨⟩ (q0a rfl (by conv => lhs; whnf) ?_);exact ⟨by rw [decide_eq_false (fun e => of_decide_eq_false A0 (by rw [e]))], j0.fin⟩
 refine lR0 rfl ⟨⟩ (q0a rfl (by conv => lhs; whnf) ?_);exact ⟨by rw [decide_eq_false (fun e => of_decide_eq_false z0 (by rw [e]))], i0.fin⟩
theorem O9a (a b : List s0a) (M : List Nat) (w0 : World) (va vb : Value) (hA : d8c M w0 va a) (hB : d8c M w0 vb b) :
 K0a Tryz.prog 15 #[va, vb] w0 fun v w' => v = .bool (decide (a = b)) ∧ Below w0.heap.size w0 w' := by
 obtain ⟨Aa, na, ca, rfl⟩ := hA.form;obtain ⟨_, -, _⟩ := hA.len;obtain ⟨Ab, nb, cb, rfl⟩ := hB.form;obtain ⟨_, -, _⟩ := hB.len;have S := St.refl w0;refine a0a Tryz.func15 rfl Tryz.ntmps15 rfl ?_;refine wB0 rfl ⟨⟩ (fun t0 => ?_) fun t0 => ?_
 ·refine lR0 rfl ⟨⟩ (q0a rfl (by conv => lhs; whnf) ?_);exact ⟨by rw [decide_eq_false (E2b (by omega))], S.fin⟩
 refine lC0 rfl ⟨⟩ (wL (fun μk D ε w => D = [] ∧ ∃ k : Nat, (k + μk = (a.length)) ∧ (s2b a b k) ∧ St [] w0 w [] ∧ Sl ε [(0, .slice Aa na ca), (1, .slice Ab nb cb), (5, .int .i64 k)]) (μ := (a.length)) ⟨rfl, 0, by omega, s2b.zero, S, rfl⟩ ?_);rintro μk D ε w ⟨rfl, k, _, he, S, eZ⟩;refine wK eZ (wB0 rfl ⟨⟩ (fun u0 => ?_) fun u0 => ?_)
 ·refine lC0 rfl ⟨⟩ (C0a b0a [0, 1, 2, 3, 4, 5, 6, 7, 8, 9] [] [] (by kernel_rfl) rfl (Cl _ _ _ _) (Cl.start S) ?_);obtain ⟨x, r0, v0, _, o0, f0, _, j0, h0, a0⟩ := RdS.get (hA) (k) (by omega);obtain ⟨_, _, _, _, _, _, _, _, _, rfl, _, _, _, _, _, _, _, _, _⟩ := w0a.open_ a0;obtain ⟨y, s0, x0, _, p0, g0, _, n0, i0, b0⟩ := RdS.get (hB) (k) (by omega);obtain ⟨_, _, _, _, _, _, _, _, _, rfl, _, _, _, _, _, _, _, _, _⟩ := w0a.open_ b0;refine qO ((S.q.a i0).a h0) [.x r0 v0,.v 0,.x s0 x0,.v 1] rfl ⟨⟨rfl,n0⟩,⟨g0,by omega⟩,⟨rfl,j0⟩,⟨f0,by omega⟩,⟨⟩⟩ (T1a y2c rfl rfl (fun w1 S1 X1 => J6a x y M _ _ _ (w0a.keep (S1.keep0 M) a0) (w0a.keep (S1.keep0 M) b0)) (fun e0 => ?_) fun e0 => ?_)
  ·refine qD rfl ⟨⟩ ?_;rintro y0 ⟨d0, q0⟩;refine lP0 rfl ⟨by omega,⟨⟩⟩ ⟨μk - 1, by omega, rfl, (k + 1), (by omega), (he.succ o0 p0 (of_decide_eq_true e0)), d0, rfl⟩
  refine qD rfl ⟨⟩ ?_;rintro y0 ⟨d0, q0⟩;refine lR0 rfl ⟨⟩ (q0a rfl (by conv => lhs; whnf) ?_);exact ⟨by rw [decide_eq_false (d2b o0 p0 (of_decide_eq_false e0))], d0.fin⟩
 refine lR0 rfl ⟨⟩ (q0a rfl (by conv => lhs; whnf) ?_);exact ⟨by rw [decide_eq_true (he.all (by omega) (by omega))], S.fin⟩
theorem o2a (a b : List A0a) (M : List Nat) (w0 : World) (va vb : Value) (hA : B7b M w0 va a) (hB : B7b M w0 vb b) :
 K0a Tryz.prog 17 #[va, vb] w0 fun v w' => v = .bool (decide (a = b)) ∧ Below w0.heap.size w0 w' := by
 obtain ⟨Aa, na, ca, rfl⟩ := hA.form;obtain ⟨_, -, _⟩ := hA.len;obtain ⟨Ab, nb, cb, rfl⟩ := hB.form;obtain ⟨_, -, _⟩ := hB.len;have S := St.refl w0;refine a0a Tryz.func17 rfl Tryz.ntmps17 rfl ?_;refine wB0 rfl ⟨⟩ (fun t0 => ?_) fun t0 => ?_
 ·refine lR0 rfl ⟨⟩ (q0a rfl (by conv => lhs; whnf) ?_);exact ⟨by rw [decide_eq_false (E2b (by omega))], S.fin⟩
 refine lC0 rfl ⟨⟩ (wL (fun μk D ε w => D = [] ∧ ∃ k : Nat, (k + μk = (a.length)) ∧ (s2b a b k) ∧ St [] w0 w [] ∧ Sl ε [(0, .slice Aa na ca), (1, .slice Ab nb cb), (5, .int .i64 k)]) (μ := (a.length)) ⟨rfl, 0, by omega, s2b.zero, S, rfl⟩ ?_);rintro μk D ε w ⟨rfl, k, _, he, S, eZ⟩;refine wK eZ (wB0 rfl ⟨⟩ (fun u0 => ?_) fun u0 => ?_)
 ·refine lC0 rfl ⟨⟩ (C0a b0a [0, 1, 2, 3, 4, 5, 6, 7, 8] [] [] (by kernel_rfl) rfl (Cl _ _ _ _) (Cl.start S) ?_);obtain ⟨x, r0, v0, _, o0, d0, _, h0, f0, j0⟩ := RdS.get (hA) (k) (by omega);obtain ⟨rfl, _, _, _⟩ := id j0;obtain ⟨_, s0, x0, _, p0, e0, _, i0, g0, n0⟩ := RdS.get (hB) (k) (by omega);obtain ⟨rfl, _, _, _⟩ := id n0;refine qOn 8 ((S.q.a g0).a f0) [.x r0 v0,.v 0,.x s0 x0,.v 1] rfl ⟨⟨rfl,i0⟩,⟨e0,by omega⟩,⟨rfl,h0⟩,⟨d0,by omega⟩,⟨⟩⟩ (m7c R8a rfl rfl rfl (fun b0 => ?_) fun b0 => ?_)
  ·refine qD rfl ⟨⟩ ?_;rintro y0 ⟨a0, q0⟩;refine lR0 rfl ⟨⟩ (q0a rfl (by conv => lhs; whnf) ?_);exact ⟨by rw [decide_eq_false (d2b o0 p0 (fun e => b0 (by rw [e]; exact ⟨rfl, rfl, rfl⟩)))], a0.fin⟩
  refine qD rfl ⟨⟩ ?_;rintro y0 ⟨a0, q0⟩;refine lP0 rfl ⟨by omega,⟨⟩⟩ ⟨μk - 1, by omega, rfl, (k + 1), (by omega), (he.succ o0 p0 (A0a.ext' b0)), a0, rfl⟩
 refine lR0 rfl ⟨⟩ (q0a rfl (by conv => lhs; whnf) ?_);exact ⟨by rw [decide_eq_true (he.all (by omega) (by omega))], S.fin⟩
theorem InP.grow {p : f0a} {Bs0 M0 N : List Nat} {w0 w : World} {cs : List Value} (h : InP p (Bs0 ++ M0) w0 cs) (hK : u0a Bs0 w0 w) (hN : ∀ g ∈ N, g ∈ Bs0 ++ M0 ∨ w0.heap.size ≤ g) (a0 : ∀ g ∈ N, g < w.heap.size) : InP p N w cs := by
 have hm : ∀ g ∈ Bs0 ++ N, g ∈ Bs0 ++ M0 ∨ w0.heap.size ≤ g := fun g hg => by
  rcases List.mem_append.1 hg with h | h
  ·exact .inl (List.mem_append_left _ h)
  ·exact hN g h
 have hk : u0a (Bs0 ++ N) w0 w := hK.mono fun g hg => List.mem_append_left _ hg;exact ⟨((h.rd.more hm).keep hk).less fun g hg => List.mem_append_right _ hg, h.ok, ⟨fun hh => ((h.msk.more hm).keep hk).1 (List.mem_append_right _ hh), ((h.msk.more hm).keep hk).2⟩, a0⟩
theorem p4b {p : f0a} {m : Int} {c : s0a} (h : E6a (n6b p m) (m1a p) c) (h0 : m = 0) : V3a c := by
 subst h0;intro b hb;obtain ⟨_, h2⟩ := e3c h;obtain ⟨t, ht, rfl⟩ := List.getElem_of_mem hb;have := h2 t
 rwa [List.getD_eq_getElem?_getD, List.getElem?_eq_getElem ht] at this
theorem s6a {p : f0a} {m : Int} {c : s0a} (hm : m = 0 ∨ m = 1 ∨ m = 2) (h : E6a (n6b p m) (m1a p) c) : (m = 0 ∧ V3a c) ∨ m = 1 ∨ m = 2 := by
 rcases hm with h0 | h0 | h0
 ·exact .inl ⟨h0, p4b h h0⟩
 ·exact .inr (.inl h0)
 ·exact .inr (.inr h0)
theorem K5b {A A' M0 : List Nat} {n : Nat} (hA : ∀ g ∈ A', g ∈ A ∨ n ≤ g) : ∀ g ∈ A ++ (A' ++ M0), g ∈ A ++ M0 ∨ n ≤ g := fun g hg => by
 rcases List.mem_append.1 hg with h | h
 ·exact .inl (List.mem_append_left _ h)
 ·rcases List.mem_append.1 h with h | h
  ·rcases hA g h with h | h
   ·exact .inl (List.mem_append_left _ h)
   ·exact .inr h
  ·exact .inl (List.mem_append_right _ h)
theorem w0a.wide {A A' M0 : List Nat} {w w' : World} {c : s0a} {ys : List Value} (h : w0a (A ++ M0) w c ys) (hk : u0a A w w') (hA : ∀ g ∈ A', g ∈ A ∨ w.heap.size ≤ g) : w0a (A' ++ M0) w' c ys :=
 ((h.more (K5b hA)).keep (hk.mono (fun _ hg => List.mem_append_left _ hg))).less (fun _ hg => List.mem_append_right _ hg)
theorem B7b.wide {A A' M0 : List Nat} {w w' : World} {l : List A0a} {v : Value} (h : B7b (A ++ M0) w v l) (hk : u0a A w w') (hA : ∀ g ∈ A', g ∈ A ∨ w.heap.size ≤ g) : B7b (A' ++ M0) w' v l :=
 ((RdS.more h (by omega) (K5b hA)).keep (hk.mono (fun _ hg => List.mem_append_left _ hg))).less (fun _ hg => List.mem_append_right _ hg)
theorem InP.wide {p : f0a} {A A' M0 : List Nat} {w w' : World} {cs : List Value} (h : InP p (A ++ M0) w cs) (hk : u0a A w w') (hA : ∀ g ∈ A', g ∈ A ∨ w.heap.size ≤ g) (a0 : ∀ g ∈ A', g < w'.heap.size) : InP p (A' ++ M0) w' cs :=
 h.grow hk (fun g hg => by
  rcases List.mem_append.1 hg with h | h
  ·rcases hA g h with h | h
   ·exact .inl (List.mem_append_left _ h)
   ·exact .inr h
  ·exact .inl (List.mem_append_right _ h)) (fun g hg => by
  rcases List.mem_append.1 hg with h1 | h1
  ·exact a0 g h1
  ·exact Nat.lt_of_lt_of_le (h.lt g (List.mem_append_right _ h1)) hk.size)
abbrev J8a (gS gmap : Nat) (G : Option Nat) (Bs : List Nat) : List Nat := gS :: gmap :: (G.toList ++ Bs)
structure V1b (p : f0a) (m : Int) (gseen gmap gP gY gS l : Nat) (c0 c1 c2 c3 : Value) (Bs0 M0 : List Nat) (B : Nat) (w0 : World) (J : Nat → List Nat → List Nat → World → Prop) (V : List v2a) (Bs : List Nat) (G : Option Nat) (cs : List Value) (v : Value) (w : World) : Prop where
 srch : i7b m gseen gmap gP gY gS l c0 c1 c2 c3 Bs M0 w V G cs v
 j : J V.length Bs (gS :: gmap :: G.toList) w
 le : V.length ≤ B
 gnew : ∀ g ∈ gmap :: G.toList, w0.heap.size ≤ g
 bnew : ∀ g ∈ Bs, g ∈ Bs0 ∨ w0.heap.size ≤ g
 prog : InP p (J8a gS gmap G Bs ++ M0) w [c0, c1, c2, c3]
 vis : N3a p m V
 old : w0.heap.size ≤ w.heap.size
 m0 : ∀ g ∈ M0, g < w0.heap.size
section
variable {p : f0a} {m : Int} {gseen gmap gP gY gS l : Nat} {c0 c1 c2 c3 : Value} {Bs0 M0 : List Nat} {B : Nat} {w0 : World} {J : Nat → List Nat → List Nat → World → Prop} {Q : World → Prop} {V : List v2a} {Bs : List Nat} {G : Option Nat} {cs : List Value} {v : Value} {w w' : World}
theorem V1b.ts (h : V1b p m gseen gmap gP gY gS l c0 c1 c2 c3 Bs0 M0 B w0 J V Bs G cs v w) : ∀ g ∈ gS :: gmap :: G.toList, g ∉ Bs ∧ (g = gS ∨ w0.heap.size ≤ g) := fun g hg => ⟨h.srch.ne g (by simp at hg ⊢; grind), by
 rcases List.mem_cons.1 hg with rfl | hg
 ·exact .inl rfl
 ·exact .inr (h.gnew g hg)⟩
theorem V1b.later (h : V1b p m gseen gmap gP gY gS l c0 c1 c2 c3 Bs0 M0 B w0 J V Bs G cs v w) (hJ : n7b p m l gS c0 c1 c2 c3 B M0 w0 J Q) (hB : x0a [] w w') : V1b p m gseen gmap gP gY gS l c0 c1 c2 c3 Bs0 M0 B w0 J V Bs G cs v w' :=
 have hk : u0a [] w w' := ⟨hB.size, hB.block⟩
 ⟨h.srch.keep hk.of_nil (fun _ hg => .inl hg), hJ.own _ _ _ _ _ _ h.j h.ts (fun _ hg => .inl hg) ⟨hB.os, hB.tape, hB.output, hB.size, fun k a0 _ => hB.block k a0 (by simp)⟩, h.le, h.gnew, h.bnew, h.prog.keep hk.of_nil, h.vis, Nat.le_trans h.old hB.size, h.m0⟩
theorem V1b.good (h : V1b p m gseen gmap gP gY gS l c0 c1 c2 c3 Bs0 M0 B w0 J V Bs G cs v w) : ∀ y ∈ V, b4a p y.conf := fun _ hy => R4a h.prog.ok (C9a h.vis hy)
theorem V1b.rd (h : V1b p m gseen gmap gP gY gS l c0 c1 c2 c3 Bs0 M0 B w0 J V Bs G cs v w) (hB : B ≤ 100000) : RdS (gS :: gmap :: (Bs ++ M0)) w 7 (Q5a (J8a gS gmap G Bs ++ M0) w) v V := by
 refine (fun hh : RdS (gS :: gmap :: (Bs ++ M0)) w 7 (Q5a (G.toList ++ (gS :: gmap :: (Bs ++ M0))) w) v V => hh.mono fun _ _ hr => hr.more (fun g hg => .inl (by simp only [J8a, List.mem_cons, List.mem_append] at hg ⊢; grind))) ?_;refine R1a.rdG h.srch.row h.srch.st (k := 1) rfl (fun g hg hh => ?_) (by have := h.le; omega);have hb := h.srch.rowb g hg;simp only [List.mem_cons, List.mem_append] at hh;rcases hh with rfl | rfl | hh | hh
 ·exact t5a hb h.srch.blk (by decide) rfl
 ·exact h.srch.map.ne hb rfl
 ·exact h.srch.ne g (by simp [hg]) hh
 ·have h1 := h.m0 g hh;have h2 := h.gnew g (by simp [hg]);omega
theorem y5b {a0 : List Nat} {G' : Option Nat} {n : Nat} (hB : ∀ g ∈ a0, g ∈ Bs ∨ n ≤ g) (hG : ∀ g ∈ G'.toList, g ∈ G.toList ∨ n ≤ g) : ∀ g ∈ J8a gS gmap G' a0, g ∈ J8a gS gmap G Bs ∨ n ≤ g := fun g hg => by
 simp only [J8a, List.mem_cons, List.mem_append] at hg ⊢;rcases hg with rfl | rfl | hg | hg
 ·simp
 ·simp
 ·rcases hG g hg with h | h
  ·simp [h]
  ·exact .inr h
 ·rcases hB g hg with h | h
  ·simp [h]
  ·exact .inr h
theorem V1b.next (h : V1b p m gseen gmap gP gY gS l c0 c1 c2 c3 Bs0 M0 B w0 J V Bs G cs v w) (hJ : n7b p m l gS c0 c1 c2 c3 B M0 w0 J Q) {V' : List v2a} {a0 : List Nat} {G' : Option Nat} {b0 : List Value} {v' : Value} (hS : i7b m gseen gmap gP gY gS l c0 c1 c2 c3 a0 M0 w' V' G' b0 v') (hj : J V'.length a0 (gS :: gmap :: G'.toList) w') (hK : u0a (J8a gS gmap G Bs) w w') (hB : ∀ g ∈ a0, g ∈ Bs ∨ w.heap.size ≤ g) (hG : ∀ g ∈ G'.toList, g ∈ G.toList ∨ w.heap.size ≤ g) (d0 : V'.length ≤ B) (hv : N3a p m V') :
 V1b p m gseen gmap gP gY gS l c0 c1 c2 c3 Bs0 M0 B w0 J V' a0 G' b0 v' w' where
 srch := hS
 j := hj
 le := d0
 gnew := fun g hg => by
  rcases List.mem_cons.1 hg with rfl | hg
  ·exact h.gnew _ (by simp)
  ·rcases hG g hg with h1 | h1
   ·exact h.gnew g (List.mem_cons_of_mem _ h1)
   ·exact Nat.le_trans h.old h1
 bnew := fun g hg => by
  rcases hB g hg with h1 | h1
  ·exact h.bnew g h1
  ·exact .inr (Nat.le_trans h.old h1)
 prog := h.prog.wide hK (y5b hB hG) (fun g hg => by
  simp only [J8a, List.mem_cons, List.mem_append] at hg;rcases hg with rfl | rfl | hg | hg
  ·exact hS.lt _ (by simp)
  ·exact hS.lt _ (by simp)
  ·exact hS.lt _ (by simp only [List.mem_append]; exact .inr hg)
  ·exact hJ.lt _ _ _ _ hj g hg)
 vis := hv
 old := Nat.le_trans h.old hK.size
 m0 := h.m0
theorem V1b.found (h : V1b p m gseen gmap gP gY gS l c0 c1 c2 c3 Bs0 M0 B w0 J V Bs G cs v w) (hJ : n7b p m l gS c0 c1 c2 c3 B M0 w0 J Q) (d0 : B ≤ 100000) {x : v2a} {xs : List Value} (hX : Q5a (J8a gS gmap G Bs ++ M0) w xs x) (hx : b4a p x.conf) (hv : N3a p m (G2a V x)) :
 K0a Tryz.prog 79 #[.agg xs.toArray, .pointer (some ⟨gseen, 0, none⟩), .pointer (some ⟨gP, 0, none⟩), .pointer (some ⟨gY, 0, none⟩)] w fun r w' => (r = .bool true ∧ ∃ a0 G' b0 v', V1b p m gseen gmap gP gY gS l c0 c1 c2 c3 Bs0 M0 B w0 J (G2a V x) a0 G' b0 v' w' ∧ u0a (J8a gS gmap G Bs) w w' ∧ ∀ g ∈ J8a gS gmap G' a0, g ∈ J8a gS gmap G Bs ∨ w.heap.size ≤ g) ∨ (r = .bool false ∧ Q w') :=
 (y0c p m h.prog.ok gseen gmap gP gY gS l c0 c1 c2 c3 Bs M0 B d0 w0 w J Q hJ V G cs v x xs h.srch h.j (hX.more (fun g hg => .inl (by simpa [J8a, List.append_assoc] using hg))) h.good hx hv h.le (fun g hg => by
   rcases List.mem_cons.1 hg with rfl | hg
   ·exact .inl rfl
   ·exact .inr (h.gnew g hg)) h.old (fun g hg => ⟨Nat.lt_of_lt_of_le (h.m0 g hg) h.old, fun hh => by have h1 := h.m0 g hg; have h2 := h.gnew g (by simp [hh]); omega⟩)).mono fun r w' hr => by
   rcases hr with ⟨rfl, a0, G', b0, v', h1, h2, h3, h4, h5, h6⟩ | hr
   ·exact .inl ⟨rfl, a0, G', b0, v', h.next hJ h1 h2 h3 h4 h5 h6 hv, h3, y5b h4 h5⟩
   ·exact .inr hr
end
theorem O7a {w : World} {gS : Nat} {c0 c1 c2 c3 u v : Value} (h : p0a w (gS, 73, [c0, c1, c2, c3, u, v])) : g1a w gS 0 [c0, c1, c2, c3] := fun j v hj => by
 rw [Nat.zero_add];refine h.cell (o := j) ?_
 match j, hj with
 | 0, hj => exact hj
 | 1, hj => exact hj
 | 2, hj => exact hj
 | 3, hj => exact hj
 | j + 4, hj => simp at hj
theorem c9a (p : f0a) (c : s0a) (m : Int) (x : A0a) (hm : (m = 0 ∧ V3a c) ∨ m = 1 ∨ m = 2) (hx : x ∈ I0a p m c) (M : List Nat) (w0 : World) (cs xs : List Value) (hI : InP p M w0 cs) (hX : w0a M w0 c xs) (hf : b4a p c) :
 K0a Tryz.prog 83 #[.agg cs.toArray, .int .i64 m, .agg xs.toArray, .agg #[.int .i64 x.thread, .int .i64 x.step, .int .i64 x.cell]] w0 fun v w' => (∃ ys, v = .tuple #[.agg ys.toArray, .int .i64 0] ∧ w0a M w' (doC p m c x) ys) ∧ Below w0.heap.size w0 w' := by
 have := c7b p c m x hm M w0 cs xs hI hX hf;rw [M8a hx] at this; exact this
theorem y4c (p : f0a) (m : Int) (hm : m = 0 ∨ m = 1 ∨ m = 2) (gP gS l : Nat) (c0 c1 c2 c3 : Value) (Bs0 M0 : List Nat) (B : Nat) (T0 : B ≤ 100000) (w0 : World) (J : Nat → List Nat → List Nat → World → Prop) (Q : World → Prop) (hI : InP p (gS :: (Bs0 ++ M0)) w0 [c0, c1, c2, c3])
 (J0 : p0a w0 (gP, 70, [.pointer (some ⟨gS, 0, none⟩)])) (C0 : p0a w0 (gS, 73, [c0, c1, c2, c3, .int .i64 m, .slice none 0 0])) (f2 : gP ∉ Bs0) (C1 : gS ∉ Bs0) (hJ : n7b p m l gS c0 c1 c2 c3 B M0 w0 J Q) (A1 : J 0 Bs0 [gS] w0) :
 K0a Tryz.prog 78 #[.func (.yield l) #[] #[], .pointer (some ⟨gP, 0, none⟩)] w0 fun _ w' => (∃ N Bs, (M2a p m N).length ≤ N ∧ (M2a p m N).length ≤ B ∧ ∃ Ts, (∀ g ∈ Ts, g ∉ Bs ∧ (g = gS ∨ w0.heap.size ≤ g)) ∧ J (M2a p m N).length Bs Ts w') ∨ Q w' := by
 have S := St.refl w0;have hp := hI.ok;have k1 := J0.cell (o := 0) rfl;have d2 := O7a C0;have a2 : ∀ g ∈ Bs0, g < w0.heap.size := hJ.lt _ _ _ _ A1;refine a0a Tryz.func78 rfl Tryz.ntmps78 rfl ?_;refine wO0 rfl ⟨⟩ (h6a S (v := .func _ _ _) rfl rfl rfl ?_);intro g2 w2 S2 X2 G2;refine lO0 rfl ⟨⟩ (L4a (k := 9) S2 rfl ?_);intro p0 D2 Q1 x2 P1 h0;refine n0a Q1 h9c rfl rfl ?_;intro g3 w3 S3 X3 G3;replace h0 := h0.keep X3 (List.not_mem_nil);refine J0a (kk := 0) S3 t8c rfl (by conv => lhs; whnf) rfl rfl (by exact Nat.le_of_ble_eq_true rfl) ?_;intro n1 s0 Q0;replace h0 := h0.keep Q0 (fun hh => by rw [List.mem_singleton] at hh; exact h0.ne (S3.blk 0 rfl) hh);refine lO0 rfl ⟨⟩ (D1a rfl rfl ?_);refine lO0 rfl ⟨⟩ (r0a s4a rfl (by exact s0.old k1) rfl ?_);refine lO0 rfl ⟨⟩ (t1a w4a rfl (d2.keep (s0.keep0 []) (by simp)) (by rfl) rfl ?_);have E0 : w0.heap.size ≤ p0 := Nat.le_trans S2.size P1;have z1 : InP p (J8a gS p0 none Bs0 ++ M0) n1 [c0, c1, c2, c3] := InP.grow (Bs0 := []) (M0 := gS :: (Bs0 ++ M0)) hI (s0.keep0 []) (fun g hg => by
  simp only [J8a, Option.toList_none, List.nil_append, List.cons_append, List.mem_cons] at hg ⊢;rcases hg with rfl | rfl | hg
  ·simp
  ·exact .inr E0
  ·exact .inl (.inr hg)) (fun g hg => by
  simp only [J8a, Option.toList_none, List.nil_append, List.cons_append, List.mem_cons] at hg;have := s0.size;rcases hg with rfl | rfl | hg
  ·have := C0.lt; simp at this; omega
  ·exact h0.lt
  ·have := hI.lt g (List.mem_cons_of_mem _ hg); omega)
 refine t0a s0 k7c rfl rfl (m3b p _ _ _ z1) ?_;rintro z2 q2 ⟨xs, rfl, hx⟩ q0 p1;replace h0 := h0.keep p1 (List.not_mem_nil);obtain ⟨Ym, u2, zm, Ya, s2, za, Yb, t2, zb, rfl, -⟩ := hx.open_;refine h1a N8b (vs := [(0, .agg _), (1, .int .i64 _)]) (cs := [_, _, _, _, _, _, _]) rfl rfl rfl rfl ?_;have O1 : V1b p m g3 p0 gP g2 gS l c0 c1 c2 c3 Bs0 M0 B w0 J [] Bs0 none [] (.slice none 0 0) q2 := by
  refine ⟨⟨q0.blk 0 rfl, h0, o1a (q0.keep0 []) (by simp) J0, q0.blk 1 rfl, o1a (q0.keep0 []) (by simp) C0, R1a.nil, fun _ => rfl, fun g hg => (by cases hg), fun g hg hh => ?_⟩, hJ.own 0 Bs0 [gS] _ w0 _ A1 (fun g hg => by rw [List.mem_singleton] at hg; subst hg; exact ⟨C1, .inl rfl⟩) (fun g hg => by simp only [Option.toList_none, List.mem_cons, List.not_mem_nil, or_false] at hg ⊢; rcases hg with rfl | rfl; exact .inl rfl; exact .inr E0) ⟨q0.below.os, q0.below.tape, q0.below.output, q0.below.size, fun k hk _ => q0.below.block k hk (by simp)⟩, Nat.zero_le _, fun g hg => ?_, fun g hg => .inl hg, z1.keep (p1.of_nil), ⟨0, List.nil_prefix⟩, q0.size, fun g hg => hI.lt g (by simp [hg])⟩
  ·have h1 := a2 g hh;have h2 : w0.heap.size ≤ g3 := by simpa using q0.new 0 rfl
   have h3 : w0.heap.size ≤ g2 := by simpa using q0.new 1 rfl
   simp only [List.mem_append, List.mem_cons, List.not_mem_nil, or_false, Option.toList_none] at hg;rcases hg with rfl | rfl | rfl | rfl | rfl
   ·omega
   ·omega
   ·exact f2 hh
   ·omega
   ·exact C1 hh
  ·simp only [Option.toList_none, List.mem_cons, List.not_mem_nil, or_false] at hg;subst hg; exact E0
 have E1 : G2a [] (⟨m1a p, -1, ⟨0, 0, 0⟩⟩ : v2a) = M2a p m 0 := by simp [G2a, M2a, m8c]
 have i0 : i64 0 := by unfold i64; omega
 refine y4a b3c rfl rfl rfl (O1.found hJ T0 (x := ⟨m1a p, -1, ⟨0, 0, 0⟩⟩) (xs := [.slice Ym u2 zm, .slice Ya s2 za, .slice Yb t2 zb, .int .i64 (-1), .int .i64 0, .int .i64 0, .int .i64 0]) ⟨_, rfl, hx, by unfold i64; simp only; omega, S1a.of i0 i0 i0⟩ (P5a hp) (by rw [E1]; exact ⟨0, List.prefix_refl _⟩)) ?_;rw [E1];rintro A2 E2 (⟨rfl, M1, G1, W1, v1, O2, K2, F2⟩ | ⟨rfl, V0⟩)
 ·refine lC0 rfl ⟨⟩ (wL (fun μo D ε w => D = [] ∧ ∃ i : Nat, ∃ V : List v2a, ∃ Bs : List Nat, ∃ G : Option Nat, ∃ cs : List Value, ∃ v : Value, (i + μo = B) ∧ (V = M2a p m i) ∧ (V1b p m g3 p0 gP g2 gS l c0 c1 c2 c3 Bs0 M0 B w0 J V Bs G cs v w) ∧ ε 1 = .pointer (some ⟨gP, 0, none⟩) ∧ ε 4 = .func (.func 79) #[] #[.pointer (some ⟨g3, 0, none⟩), .pointer (some ⟨gP, 0, none⟩), .pointer (some ⟨g2, 0, none⟩)] ∧ ε 5 = .int .i64 i) (μ := B) ⟨rfl, 0, _, M1, G1, W1, v1, by omega, rfl, O2, rfl, rfl, rfl⟩ ?_);rintro μo D ε w ⟨rfl, i, V, Bs, G, cs, v, _, hV, hO, e1, e4, e5⟩;refine o0a 1 e1 (o0a 4 e4 (o0a 5 e5 ?_));clear e1 e4 e5;replace S := St.refl w;obtain ⟨_, _, rfl⟩ := hO.srch.row.form;have nP : gP ∉ ([] : List Nat) := by simp
  have nS : gS ∉ ([] : List Nat) := by simp
  have cP := hO.srch.ptr.cell (o := 0) rfl;have cM := hO.srch.blk.cell (o := 4) rfl;have cV := hO.srch.blk.cell (o := 5) rfl;have cR : g1a w gS 0 [c0, c1, c2, c3] := O7a hO.srch.blk;have i2 := hO.le;refine wO0 rfl ⟨⟩ (r0a s4a rfl (by exact S.oldM nP cP) rfl ?_);refine lO0 rfl ⟨⟩ (r0a f7a rfl (by exact S.oldM nS cV) rfl ?_);refine lB0 rfl ⟨⟩ (fun Y1 => ?_) fun Y1 => ?_
  ·refine lO0 rfl ⟨⟩ (r0a s4a rfl (by exact S.oldM nP cP) rfl ?_);refine lO0 rfl ⟨⟩ (r0a f7a rfl (by exact S.oldM nS cV) rfl ?_);obtain ⟨y, U1, n2, _, m1, R0, _, _, a1, i1⟩ := RdS.get ((hO.rd T0)) (i) (by omega);obtain ⟨_, rfl, B0, -, -⟩ := i1;obtain ⟨Xm, xm, ym, Xa, xa, ya, Xb, xb, yb, rfl, -⟩ := B0.open_;refine lO S.k [.x U1 n2] rfl ⟨⟨R0,by omega⟩,⟨⟩⟩ (t1a k1a rfl (g1a.sub a1 0 3) rfl rfl ?_);refine n0a S c6a rfl rfl ?_;intro g6 w6 S6 X6 G6
   first | refine e0a (kk := 0) (vs := [_, _, _]) S6 b3a rfl rfl rfl rfl rfl rfl rfl ?_
   intro r2 G0 T1;dsimp only [m0a, List.set] at G0;refine lC0 rfl ⟨⟩ (k8b b0a (fun i => [0, 1, 2, 3, 4, 5, 6, 7, 8, 11].contains i) [0, 1, 2, 3, 4, 5, 6, 7, 8, 9, 10, 11] (by kernel_rfl) (by kernel_rfl) (Cl _ _ _ _) (Cl.start G0) ?_);rintro J2 ⟨o0, u0⟩;refine M1a ⟨o0, u0⟩ rfl rfl rfl ?_;refine h0a s4a rfl (fun w1 hw => by exact hw.1.oldM nP cP) rfl ?_;refine d0a ?_;refine M1a ⟨o0, u0⟩ rfl rfl rfl ?_;refine X2a rfl rfl ?_;refine d0a ?_;refine M1a ⟨o0, u0⟩ rfl rfl rfl ?_;refine E0a W0b rfl rfl ?_;refine d0a ?_;refine M1a ⟨o0, u0⟩ rfl rfl rfl ?_;refine F1a w4a rfl (fun w1 hw => cR.keep hw.1.keepM (by simp)) (by rfl) rfl ?_;refine d0a ?_;refine M1a ⟨o0, u0⟩ rfl rfl rfl ?_;refine h0a s4a rfl (fun w1 hw => by exact hw.1.oldM nP cP) rfl ?_;refine d0a ?_;refine M1a ⟨o0, u0⟩ rfl rfl rfl ?_;refine X2a rfl rfl ?_;refine d0a ?_;refine M1a ⟨o0, u0⟩ rfl rfl rfl ?_;refine E0a X0b rfl rfl ?_;refine d0a ?_;refine M1a ⟨o0, u0⟩ rfl rfl rfl ?_;refine h0a D0a rfl (fun w1 hw => by exact hw.1.oldM nS cM) rfl ?_;refine d0a ?_;refine M1a ⟨o0, u0⟩ rfl rfl rfl ?_;refine F1a k1a rfl (fun w1 hw => hw.1.cells 0 rfl) rfl rfl ?_;refine d0a ?_;refine K9a ⟨o0, u0⟩ rfl rfl rfl rfl ?_;have A0 := C9a hO.vis (c0a m1);refine t0a o0 C7c rfl rfl (t8a p y.conf m (s6a hm A0) (J8a gS p0 G Bs ++ M0) _ _ _ (hO.prog.keep (o0.keep0 _)) (B0.keep (o0.keep0 _)) (R4a hp A0)) ?_;rintro B2 H2 hE y0 R1;have t0 := u0.trans R1;obtain ⟨Ae, ne, ce, rfl⟩ := hE.form;obtain ⟨_, -, _⟩ := hE.len;refine R0a ⟨rfl, ?_⟩;refine K9a ⟨y0, t0⟩ rfl rfl rfl rfl ?_;refine x6c t3a.slT rfl rfl ?_;refine R0a ⟨rfl, ?_⟩;refine M1a ⟨y0, t0⟩ rfl rfl rfl ?_;refine d1a (v := .int .i64 _) rfl rfl ?_;refine d0a ?_;refine v5a ⟨y0, t0⟩ ?_;refine fC0 rfl ⟨⟩ ?_;refine wL (fun μ D ε w => D = [] ∧ ∃ j : Nat, ∃ V2 : List v2a, ∃ v0 : List Nat, ∃ G2 : Option Nat, ∃ cs2 : List Value, ∃ v2 : Value, (j + μ = (I0a p m y.conf).length) ∧ (V2 = p0b p m i y.conf V ((I0a p m y.conf).take j)) ∧ (V1b p m g3 p0 gP g2 gS l c0 c1 c2 c3 Bs0 M0 B w0 J V2 v0 G2 cs2 v2 w) ∧ (p0a w (g6, 38, [.slice Xm xm ym, .slice Xa xa ya, .slice Xb xb yb])) ∧ (g6 ∉ J8a gS p0 G2 v0) ∧ (w0a (J8a gS p0 G2 v0 ++ M0) w y.conf [.slice Xm xm ym, .slice Xa xa ya, .slice Xb xb yb]) ∧ (B7b (J8a gS p0 G2 v0 ++ M0) w (.slice Ae ne ce) (I0a p m y.conf)) ∧ ε 1 = .pointer (some ⟨gP, 0, none⟩) ∧ ε 4 = .func (.func 79) #[] #[.pointer (some ⟨g3, 0, none⟩), .pointer (some ⟨gP, 0, none⟩), .pointer (some ⟨g2, 0, none⟩)] ∧ ε 5 = .int .i64 i ∧ ε 6 = .pointer (some ⟨g6, 0, none⟩) ∧ ε 48 = .slice Ae ne ce ∧ ε 49 = .int .i64 ne ∧ ε 50 = .int .i64 j) (μ := (I0a p m y.conf).length) ⟨rfl, 0, _, Bs, G, cs, _, by omega, rfl, hO.later hJ y0.below, y0.blk 0 rfl, fun hh => (by have := hO.prog.lt g6 (List.mem_append_left _ hh); omega), B0.keep (y0.keep0 _), hE, rfl, rfl, rfl, rfl, rfl, rfl, rfl⟩ ?_;rintro μ D ε w ⟨rfl, j, V2, v0, G2, cs2, v2, _, B1, x0, Z0, n6, X0, y1, e1, e4, e5, e6, s1, t1, u1⟩;refine o0a 1 e1 (o0a 4 e4 (o0a 5 e5 (o0a 6 e6 (o0a 48 s1 (o0a 49 t1 (o0a 50 u1 ?_))))));clear e1 e4 e5 e6 s1 t1 u1;obtain ⟨wb, m2⟩ : ∃ wb, wb = w := ⟨_, rfl⟩;subst m2;replace y0 : St [g6] wb wb [(some g6, 38, [.slice Xm xm ym, .slice Xa xa ya, .slice Xb xb yb])] := St.borrow1 Z0;have L0 : gP ∉ [g6] := fun hh => t5a x0.srch.ptr Z0 (by decide) (List.mem_singleton.1 hh);have N0 : gS ∉ [g6] := fun hh => t5a x0.srch.blk Z0 (by decide) (List.mem_singleton.1 hh);have K0 := x0.srch.ptr.cell (o := 0) rfl;have q1 := x0.srch.blk.cell (o := 4) rfl;have r1 := O7a x0.srch.blk;have KW := u0a.refl [] wb;have g1 : ∀ g ∈ J8a gS p0 G2 v0 ++ M0, g < wb.heap.size := x0.prog.lt;refine wB0 rfl ⟨⟩ (fun Z1 => ?_) fun Z1 => ?_
   ·obtain ⟨x, V1, o2, _, D0, S0, _, f1, b1, j1⟩ := RdS.get ((RdS.keepW y1 (KW.mono (by simp)) (fun _ _ h => h))) (j) (by omega);obtain ⟨rfl, H1, I1, J1⟩ := j1;refine lO (y0.k.b b1) [.x V1 o2,.v 0] rfl ⟨⟨rfl,f1⟩,⟨S0,by omega⟩,⟨⟩⟩ (n0a y0 Y3c rfl rfl ?_);intro g8 w8 S8 X8 G8;have O0 := Nat.le_trans KW.size G8;replace KW := KW.trans X8;refine e0a (kk := 0) (vs := [_, _, _]) S8 D3b rfl rfl rfl rfl rfl rfl rfl ?_;intro f0 j0 H0;dsimp only [m0a, List.set] at j0;replace KW := KW.fresh H0 (by first | exact O0);refine lCn 2 j0.k [] rfl ⟨⟩ (wX (fun D ε w => D = [] ∧ ∃ g9 : Nat, ∃ g8 : Nat, ∃ zs : List Value, ∃ x : A0a, (u0a [] wb w) ∧ ((I0a p m y.conf)[j]? = some x) ∧ (w0a (J8a gS p0 G2 v0 ++ M0) w (doC p m y.conf x) zs) ∧ (i64 x.thread ∧ i64 x.step ∧ i64 x.cell) ∧ St [g6] wb w [(some g9, 38, zs), (some g8, 44, [.int .i64 x.thread, .int .i64 x.step, .int .i64 x.cell]), (some g6, 38, [.slice Xm xm ym, .slice Xa xa ya, .slice Xb xb yb])] ∧ Sl ε [(1, .pointer (some ⟨gP, 0, none⟩)), (4, .func (.func 79) #[] #[.pointer (some ⟨g3, 0, none⟩), .pointer (some ⟨gP, 0, none⟩), .pointer (some ⟨g2, 0, none⟩)]), (5, .int .i64 i), (6, .pointer (some ⟨g6, 0, none⟩)), (8, .pointer (some ⟨g8, 0, none⟩)), (9, .pointer (some ⟨g9, 0, none⟩)), (10, .int .i64 0), (48, .slice Ae ne ce), (49, .int .i64 ne), (50, .int .i64 j)]) ?_ ?_)
    ·have D1 := c0a D0;refine o6c b0a (fun i => [0, 1, 2, 3, 4, 5, 6, 7, 8, 9, 11, 12, 13, 16].contains i) 14 10 [14, 0, 1, 2, 3, 4, 5, 6, 7, 8, 9, 10, 11, 12, 13, 15, 16] [0, 1, 2, 3, 4, 5, 6, 7, 8, 9, 10, 14, 11, 12, 13, 15, 16] (by kernel_rfl) (y9c j0) ?_ ?_
     ·have d0 := j0.drew;have n0 : u0a [] f0 f0.drew := A2a _ _;generalize f0.drew = o1 at d0 n0 ⊢;replace KW := KW.trans n0;have a0 := n0;refine d6b ⟨d0, a0⟩ rfl rfl rfl ?_;refine n0a d0 c6a rfl rfl ?_;intro g9 w9 S9 X9 G9;have r0 := Nat.le_trans KW.size G9;have g0 := Nat.le_trans a0.size G9;replace KW := KW.trans X9;replace a0 := a0.trans X9;refine R0a ⟨rfl, ?_⟩;refine H3a ⟨S9.tail, a0⟩ rfl rfl rfl ?_;refine h0a s4a rfl (fun w1 hw => by exact hw.1.oldM L0 K0) rfl ?_;refine d0a ?_;refine H3a ⟨S9.tail, a0⟩ rfl rfl rfl ?_;refine X2a rfl rfl ?_;refine d0a ?_;refine H3a ⟨S9.tail, a0⟩ rfl rfl rfl ?_;refine E0a W0b rfl rfl ?_;refine d0a ?_;refine H3a ⟨S9.tail, a0⟩ rfl rfl rfl ?_;refine F1a w4a rfl (fun w1 hw => r1.keep hw.1.keepM N0) (by rfl) rfl ?_;refine d0a ?_;refine H3a ⟨S9.tail, a0⟩ rfl rfl rfl ?_;refine h0a s4a rfl (fun w1 hw => by exact hw.1.oldM L0 K0) rfl ?_;refine d0a ?_;refine H3a ⟨S9.tail, a0⟩ rfl rfl rfl ?_;refine X2a rfl rfl ?_;refine d0a ?_;refine H3a ⟨S9.tail, a0⟩ rfl rfl rfl ?_;refine E0a X0b rfl rfl ?_;refine d0a ?_;refine H3a ⟨S9.tail, a0⟩ rfl rfl rfl ?_;refine h0a D0a rfl (fun w1 hw => by exact hw.1.oldM N0 q1) rfl ?_;refine d0a ?_;refine H3a ⟨S9.tail, a0⟩ rfl rfl rfl ?_;refine F1a k1a rfl (fun w1 hw => hw.1.cells 1 rfl) rfl rfl ?_;refine d0a ?_;refine H3a ⟨S9.tail, a0⟩ rfl rfl rfl ?_;refine F1a R5a rfl (fun w1 hw => hw.1.cells 0 rfl) rfl rfl ?_;refine d0a ?_;refine d6b ⟨S9.tail, a0⟩ rfl rfl rfl ?_;refine t0a S9 Y2c rfl rfl (c9a p y.conf m x (s6a hm A0) D1 (g9 :: (J8a gS p0 G2 v0 ++ M0)) _ _ _ (InP.grow (Bs0 := []) x0.prog KW (fun g hg => by rcases List.mem_cons.1 hg with rfl | hg; exact .inr r0; exact .inl hg) (fun g hg => by rcases List.mem_cons.1 hg with rfl | hg; exact S9.lt 0 rfl; have := g1 g hg; have := KW.size; omega)) ((X0.more (fun g hg => by rcases List.mem_cons.1 hg with rfl | hg; exact .inr r0; exact .inl hg)).keep KW.of_nil) (R4a hp A0)) ?_;rintro p2 K1 ⟨zs, rfl, hz⟩ z0 I0;replace KW := KW.trans I0;replace a0 := a0.trans I0;obtain ⟨Ua, ua, va, Ub, ub, vb, Uc, uc, vc, rfl, -⟩ := hz.open_;refine R0a ⟨rfl, ?_⟩;refine H3a ⟨z0.tail, a0⟩ rfl rfl rfl ?_;refine d1a (v := .tuple _) rfl rfl ?_;refine d0a ?_;refine H3a ⟨z0.tail, a0⟩ rfl rfl rfl ?_;refine m2a rfl rfl rfl ?_;refine d0a ?_;refine H3a ⟨z0.tail, a0⟩ rfl rfl rfl ?_;refine m2a rfl rfl rfl ?_;refine d0a ?_;refine d6b ⟨z0.tail, a0⟩ rfl rfl rfl ?_;refine e0a (kk := 0) (vs := [_, _, _]) z0 b3a rfl rfl rfl rfl rfl rfl rfl ?_;intro F0 b0 e0;dsimp only [m0a, List.set] at b0;replace KW := KW.fresh e0 (by exact r0);replace a0 := a0.fresh e0 (by exact g0);replace hz := hz.keep (e0.mono (by simp));refine R0a ⟨rfl, ?_⟩;refine H3a ⟨b0.tail, a0⟩ rfl rfl rfl ?_;refine g3a (v := .int .i64 _) rfl rfl ?_;refine d0a ?_;refine i5b ⟨b0.tail, a0⟩ ?_;refine fP0 rfl ⟨⟩ ⟨rfl, (g9), (g8), (_), (x), (KW), (D0), ((by exact hz.less (fun _ hg => List.mem_cons_of_mem _ hg))), (⟨H1, I1, J1⟩), b0, rfl⟩
     have d0 := j0.drew;have n0 : u0a [] f0 f0.drew := A2a _ _;generalize f0.drew = o1 at d0 n0 ⊢;replace KW := KW.trans n0;have a0 := n0;refine H3a ⟨d0, a0⟩ rfl rfl rfl ?_;refine h0a s4a rfl (fun w1 hw => by exact hw.1.oldM L0 K0) rfl ?_;refine d0a ?_;refine H3a ⟨d0, a0⟩ rfl rfl rfl ?_;refine X2a rfl rfl ?_;refine d0a ?_;refine H3a ⟨d0, a0⟩ rfl rfl rfl ?_;refine E0a W0b rfl rfl ?_;refine d0a ?_;refine H3a ⟨d0, a0⟩ rfl rfl rfl ?_;refine F1a w4a rfl (fun w1 hw => r1.keep hw.1.keepM N0) (by rfl) rfl ?_;refine d0a ?_;refine H3a ⟨d0, a0⟩ rfl rfl rfl ?_;refine h0a s4a rfl (fun w1 hw => by exact hw.1.oldM L0 K0) rfl ?_;refine d0a ?_;refine H3a ⟨d0, a0⟩ rfl rfl rfl ?_;refine X2a rfl rfl ?_;refine d0a ?_;refine H3a ⟨d0, a0⟩ rfl rfl rfl ?_;refine E0a X0b rfl rfl ?_;refine d0a ?_;refine H3a ⟨d0, a0⟩ rfl rfl rfl ?_;refine h0a D0a rfl (fun w1 hw => by exact hw.1.oldM N0 q1) rfl ?_;refine d0a ?_;refine H3a ⟨d0, a0⟩ rfl rfl rfl ?_;refine F1a k1a rfl (fun w1 hw => hw.1.cells 1 rfl) rfl rfl ?_;refine d0a ?_;refine H3a ⟨d0, a0⟩ rfl rfl rfl ?_;refine F1a R5a rfl (fun w1 hw => hw.1.cells 0 rfl) rfl rfl ?_;refine d0a ?_;refine d6b ⟨d0, a0⟩ rfl rfl rfl ?_;refine t0a d0 Y2c rfl rfl (c9a p y.conf m x (s6a hm A0) D1 (J8a gS p0 G2 v0 ++ M0) _ _ _ (x0.prog.keep (KW.mono (by simp))) (X0.keep (KW.mono (by simp))) (R4a hp A0)) ?_;rintro p2 K1 ⟨zs, rfl, hz⟩ z0 I0;replace KW := KW.trans I0;replace a0 := a0.trans I0;obtain ⟨Ua, ua, va, Ub, ub, vb, Uc, uc, vc, rfl, -⟩ := hz.open_;have KZ := u0a.refl [] K1;refine R0a ⟨rfl, ?_⟩;refine d6b ⟨z0, a0⟩ rfl rfl rfl ?_;refine n0a z0 c6a rfl rfl ?_;intro g9 w9 S9 X9 G9;have r0 := Nat.le_trans KW.size G9;have g0 := Nat.le_trans a0.size G9;have P0 := Nat.le_trans KZ.size G9;replace KW := KW.trans X9;replace a0 := a0.trans X9;replace KZ := KZ.trans X9;refine R0a ⟨rfl, ?_⟩;refine H3a ⟨S9.tail, a0⟩ rfl rfl rfl ?_;refine d1a (v := .tuple _) rfl rfl ?_;refine d0a ?_;refine H3a ⟨S9.tail, a0⟩ rfl rfl rfl ?_;refine m2a rfl rfl rfl ?_;refine d0a ?_;refine H3a ⟨S9.tail, a0⟩ rfl rfl rfl ?_;refine m2a rfl rfl rfl ?_;refine d0a ?_;refine d6b ⟨S9.tail, a0⟩ rfl rfl rfl ?_;refine e0a (kk := 0) (vs := [_, _, _]) S9 b3a rfl rfl rfl rfl rfl rfl rfl ?_;intro F0 b0 e0;dsimp only [m0a, List.set] at b0;replace KW := KW.fresh e0 (by exact r0);replace a0 := a0.fresh e0 (by exact g0);replace KZ := KZ.fresh e0 (by exact P0);refine R0a ⟨rfl, ?_⟩;refine H3a ⟨b0.tail, a0⟩ rfl rfl rfl ?_;refine g3a (v := .int .i64 _) rfl rfl ?_;refine d0a ?_;refine i5b ⟨b0.tail, a0⟩ ?_;refine fP0 rfl ⟨⟩ ⟨rfl, (g9), (g8), (_), (x), (KW), (D0), ((by exact hz.keep KZ.of_nil)), (⟨H1, I1, J1⟩), b0, rfl⟩
    rintro D ε w ⟨rfl, g9, g8, zs, x, KW, D0, hz, ih, S, eZ⟩;refine wK eZ ?_;obtain ⟨Ua, ua, va, Ub, ub, vb, Uc, uc, vc, rfl, -⟩ := hz.open_;refine wB0 rfl ⟨⟩ (fun x1 => ?_) (fun x1 => by exact absurd rfl x1);refine lO S.k [.w 0,.w 1] rfl ⟨⟨rfl,rfl⟩,⟨rfl,by rfl⟩,⟨⟩⟩ (h1a N8b (vs := [(0, .agg _), (1, .int .i64 _), (2, .agg _)]) (cs := [_, _, _, _, _, _, _]) rfl rfl rfl rfl ?_);refine lO0 rfl ⟨⟩ ?_;have d1 := c0a D0;have y2 := (List.getElem?_eq_some_iff.1 D0).1;have O3 := x0.later hJ (S.below.nilK KW);have b2 := hV ▸ m1;have F1 : G2a V2 ⟨doC p m y.conf x, i, x⟩ = p0b p m i y.conf V ((I0a p m y.conf).take (j + 1)) := by rw [T0a D0, P8b, B1]
    have j2 : N3a p m (G2a V2 ⟨doC p m y.conf x, i, x⟩) := ⟨i + 1, by rw [F1, hV]; exact Z9b b2 (j + 1)⟩;have Zb := KW.size;refine y4a b3c rfl rfl rfl (O3.found hJ T0 (x := ⟨doC p m y.conf x, i, x⟩) (xs := [.slice Ua ua va, .slice Ub ub vb, .slice Uc uc vc, .int .i64 i, .int .i64 x.thread, .int .i64 x.step, .int .i64 x.cell]) ⟨_, rfl, hz, by unfold i64; simp only; omega, S1a.of ih.1 ih.2.1 ih.2.2⟩ (n5b hp (R4a hp A0) d1) j2) ?_;rintro C2 I2 (⟨rfl, N1, G4, X1, v4, O4, K4, F4⟩ | ⟨rfl, W0⟩)
    ·refine lP0 rfl ⟨by omega,⟨⟩⟩ ?_;have U0 := B7b.wide (RdS.keep y1 (KW.mono (by simp))) K4 F4;have Y0 := (X0.keep (KW.mono (by simp))).wide K4 F4;exact ⟨μ - 1, by omega, rfl, j + 1, _, N1, G4, X1, v4, by omega, F1, O4, o1a K4 n6 (S.blk 2 rfl), fun hh => (by
      rcases F4 g6 hh with h | h
      ·exact n6 h
      ·have := S.lt 2 rfl; omega), Y0, U0, rfl, rfl, rfl, rfl, rfl, rfl, rfl⟩
    refine lR0 rfl ⟨⟩ (I1a rfl ?_);exact .inr W0
   refine lP0 rfl ⟨by omega,⟨⟩⟩ ⟨μo - 1, by omega, rfl, i + 1, V2, v0, G2, cs2, v2, by omega, ?_, x0, rfl, rfl, rfl⟩;rw [B1, List.take_of_length_le (by omega), hV, q3b (hV ▸ m1)]
  refine lF0 rfl ⟨⟩ (I1a rfl ?_);exact .inl ⟨i, Bs, by rw [← hV]; omega, by rw [← hV]; exact i2, _, hO.ts, by rw [← hV]; exact hO.j⟩
 refine lR0 rfl ⟨⟩ (I1a rfl ?_);exact .inr V0
section
variable {P : Program} {r : Option Nat} {N : Nat} {D : List Deferred} {e : Env} {w : World}
theorem G4c {l p N : Nat} {rc : Loop} {x : Value} {a0 body : Code} {R : Value → World → Prop} (hl : w.heap[l]? = some (.loop rc)) (hr : rc.state = .ready) (hN : rc.tmps.size = N) (f0 : N0a { tmps := rc.tmps, defers := [] } = e) (b0 : rc.params = #[p]) (has : rc.assign = a0) (e0 : rc.body = body) (hp : Nat.ble (p + 1) N = true)
 (h : W P (some l) N a0 ⟨fun D e w1 => w1.heap[l]? = some (.loop rc) ∧
   W P (some l) N body ⟨fun _ _ w3 => H4a l none R w3, fun id _ _ w3 => H4a l (some (.exit id)) R w3, fun _ _ w3 => H4a l (some .ret) R w3⟩ D e (w1.putObj l (.loop { rc with state := .busy })),
   fun _ _ _ _ => False, fun _ _ _ => False⟩ [] (upd e p x) w) : Yld P l #[x] w R := by
 subst f0 has e0;have h0 := Nat.le_of_ble_eq_true hp;refine ⟨rc, hl, by simp [b0], ?_⟩;have hz : (rc.params.zip #[x]).foldl (fun tmps (t, a) => tmps.setIfInBounds t a) rc.tmps = rc.tmps.setIfInBounds p x := by rw [b0]; simp
 rw [hz];refine roundIn_of_wpIn (F := Fence.wide) trivial ?_;unfold W at h;have he : N0a { tmps := rc.tmps.setIfInBounds p x, defers := [] } = upd (N0a { tmps := rc.tmps, defers := [] }) p x := by
  have h1 := U0a (a := { tmps := rc.tmps, defers := [] }) (d := p) x (by simp; omega);simp only [Act.put] at h1;rw [← h1]
 refine wpIn_mono (h { tmps := rc.tmps.setIfInBounds p x, defers := [] } (by simp [hN]) rfl he) fun ex a w1 hq => ?_;cases ex with
 | normal =>
   obtain ⟨hs, g0, hb⟩ := hq;refine ⟨_, run_beginRound g0 hr, wpIn_mono (hb a hs rfl rfl) fun ex a w3 hq => ?_⟩;cases ex with
   | normal => obtain ⟨_, d0, h3, hR⟩ := hq; exact ⟨_, _, run_endRound none h3, _, rfl, hR⟩
   | ret => obtain ⟨_, d0, h3, hR⟩ := hq; exact ⟨_, _, run_endRound (some .ret) h3, _, rfl, hR⟩
   | exit id => obtain ⟨_, d0, h3, hR⟩ := hq; exact ⟨_, _, run_endRound (some (.exit id)) h3, _, rfl, hR⟩
   | goto l => exact hq.elim
   | panic c => exact hq.elim
   | outgrown => exact hq.elim
 | exit id => exact hq.2
 | ret => exact hq.2
 | goto l => exact hq.elim
 | panic c => exact hq.elim
 | outgrown => exact hq.elim
end
theorem x0a.stepM {M Ms : List Nat} {w0 w w' : World} (h : x0a M w0 w) (k : x0a Ms w w') (hM : ∀ g ∈ Ms, w0.heap.size ≤ g) : x0a M w0 w' :=
 ⟨k.os.trans h.os, k.tape.trans h.tape, k.output.trans h.output, Nat.le_trans h.size k.size, fun i hi hm => (k.block i (Nat.lt_of_lt_of_le hi h.size) (fun hh => by have := hM i hh; omega)).trans (h.block i hi hm)⟩
theorem y6b {A N M : List Nat} {w w' : World} {v : Value} {V : List v2a} (h : RdS (A ++ M) w 7 (Q5a (A ++ M) w) v V) (hk : u0a A w w') (hN : ∀ g ∈ N, g ∈ A ++ M ∨ w.heap.size ≤ g) : RdS N w' 7 (Q5a N w') v V := by
 have hm : ∀ g ∈ A ++ N, g ∈ A ++ M ∨ w.heap.size ≤ g := fun g hg => by
  rcases List.mem_append.1 hg with h | h
  ·exact .inl (List.mem_append_left _ h)
  ·exact hN g h
 have a0 : u0a (A ++ N) w w' := hk.mono (fun g hg => List.mem_append_left _ hg);have h1 : RdS (A ++ N) w 7 (Q5a (A ++ N) w) v V := RdS.moreW h (by omega) hm (fun _ _ => Q5a.more hm);have h2 : RdS (A ++ N) w' 7 (Q5a (A ++ N) w') v V := RdS.keepW h1 a0 (fun _ _ => Q5a.keep a0);exact RdS.lessW h2 (fun g hg => List.mem_append_right _ hg) (fun _ _ => Q5a.more (fun g hg => .inl (List.mem_append_right _ hg)))
theorem NC.keepW {w w' : World} {rs : List (Nat × Obj)} (h : NC w rs) {Gs : List Nat} (k : u0a Gs w w') (hg : ∀ x ∈ rs, x.1 ∉ Gs) : NC w' rs := fun x hx =>
 ⟨(k.same x.1 (h.lt x hx) (hg x hx)).trans (h x hx).1, (h x hx).2⟩
theorem St.keepsW {M : List Nat} {w0 w w' : World} {L : List Ent} (S : St M w0 w L) {Ws : List Nat} (hB : x0a Ws w w') (h1 : ∀ g ∈ Ws, g < w0.heap.size → g ∈ M) (h2 : ∀ b ∈ L, ∀ g, b.1 = some g → g ∉ Ws) : St M w0 w' L :=
 S.keeps ⟨hB.os.trans S.below.os, hB.tape.trans S.below.tape, hB.output.trans S.below.output, Nat.le_trans S.below.size hB.size, fun k hk hm => (hB.block k (Nat.lt_of_lt_of_le hk S.below.size) (fun hh => hm (h1 k hh hk))).trans (S.below.block k hk hm)⟩
  (fun b hb g hg => hB.block g (S.own b hb g hg).2.lt (h2 b hb g hg))
section
variable {P : Program} {fn : Func} {R : Value → World → Prop} {D : List Deferred} {e : Env} {w : World}
theorem o9a {a1 t1 a2 t2 g1 g2 : Nat} {v1 v2 : Value} (h : fn.results = #[.cell a1 t1, .cell a2 t2]) (o1 : One P t1) (o2 : One P t2) (e1 : e a1 = .pointer (some ⟨g1, 0, none⟩)) (e2 : e a2 = .pointer (some ⟨g2, 0, none⟩))
 (rs : List Nat) (hD : D = rs.map Z6a) (hn : rs.Nodup) (hO : NC w (c7a rs)) (a0 : w.cell? ⟨g1, 0, none⟩ = some v1) (b0 : w.cell? ⟨g2, 0, none⟩ = some v2) (d0 : g1 ∉ rs) (e0 : g2 ∉ rs) (hR : ∀ w', x0a rs w w' → R (.tuple #[v1, v2]) w') : V5a P fn R D e w :=
 ⟨rs, hD, hn, hO, fun w' hb _ tmps he => by
  have hk : u0a rs w w' := ⟨hb.size, hb.block⟩;have c1 := hk.cell (a := ⟨g1, 0, none⟩) d0 a0;have c2 := hk.cell (a := ⟨g2, 0, none⟩) e0 b0;subst he;simp only [N0a, Array.getD_eq_getD_getElem?] at e1 e2;have h1 : (loadVar t1 ⟨g1, 0, none⟩).run P w' = .ok v1 w' := by rw [o1 w']; simp [load, Sem.run, c1]
  have h2 : (loadVar t2 ⟨g2, 0, none⟩).run P w' = .ok v2 w' := by rw [o2 w']; simp [load, Sem.run, c2]
  exact ⟨_, by simp [results, h, asAddr, e1, e2, h1, h2], hR w' hb⟩⟩
end
theorem U6c (gS : Nat) (w0 : World) :
 K0a Tryz.prog 54 #[.pointer (some ⟨gS, 0, none⟩)] w0 fun v w' => (∃ gP, v = .func (.func 78) #[] #[.pointer (some ⟨gP, 0, none⟩)] ∧ w0.heap.size ≤ gP ∧ p0a w' (gP, 70, [.pointer (some ⟨gS, 0, none⟩)])) ∧ Below w0.heap.size w0 w' := by
 have S := St.refl w0;refine a0a Tryz.func54 rfl Tryz.ntmps54 rfl ?_;refine wO0 rfl ⟨⟩ (h6a S (v := .pointer _) rfl rfl rfl ?_);intro g1 w1 S1 X1 G1;refine lO0 rfl ⟨⟩ (D1a rfl rfl ?_);refine lR0 rfl ⟨⟩ (q0a rfl (by conv => lhs; whnf) ?_);exact ⟨⟨g1, rfl, by simpa using S1.new 0 rfl, S1.blk 0 rfl⟩, S1.fin⟩
structure Acc (p : f0a) (m : Int) (gS : Nat) (f : FuncId) (caps : List Value) (Bs0 M0 : List Nat) (wf : World) (acc : s0a → Bool) (J0 : Nat → List Nat → List Nat → World → Prop) : Prop where
 has : Has Tryz.prog f
 start : J0 0 Bs0 [gS] wf
 own : ∀ k Bs Ts Ts' w w', J0 k Bs Ts w → (∀ g ∈ Ts, g ∉ Bs ∧ (g = gS ∨ wf.heap.size ≤ g)) → (∀ g ∈ Ts', g ∈ Ts ∨ w.heap.size ≤ g) → u0a Ts w w' → J0 k Bs Ts' w'
 lt : ∀ k Bs Ts w, J0 k Bs Ts w → ∀ g ∈ Bs, g < w.heap.size
 call : ∀ k Bs Ts w V y ys, J0 k Bs Ts w → (∀ g ∈ Ts, g ∉ Bs ∧ (g = gS ∨ wf.heap.size ≤ g)) → N3a p m V → V.length = k + 1 → V[k]? = some y → w0a (Ts ++ (Bs ++ M0)) w y.conf ys → wf.heap.size ≤ w.heap.size → k < 100000 →
  K0a Tryz.prog f (Value.agg ys.toArray :: caps).toArray w fun r w' => r = .bool (acc y.conf) ∧ ∃ Bs', J0 (k + 1) Bs' Ts w' ∧ x0a Bs w w' ∧ ∀ g ∈ Bs', g ∈ Bs ∨ w.heap.size ≤ g
structure d9c (gS : Nat) (wf : World) (Bs N Ts : List Nat) : Prop where
 sub : ∀ g ∈ N, g ∈ Ts
 ok : ∀ g ∈ Ts, g ∉ Bs ∧ (g = gS ∨ wf.heap.size ≤ g)
def g6a (p : f0a) (m : Int) (limit gS : Nat) (c0 c1 c2 c3 : Value) (N M : List Nat) (wf : World) (acc : s0a → Bool) (J0 : Nat → List Nat → List Nat → World → Prop) (w : World) (i err : Int) : Prop :=
 (err = 0 ∧ ∃ (k : Nat) (V : List v2a) (v : Value) (Bs Ts : List Nat), i = k ∧ N3a p m V ∧ V.length = k + 1 ∧ k < limit ∧ (∀ j y, j < k → V[j]? = some y → acc y.conf = false) ∧ (∃ y, V[k]? = some y ∧ acc y.conf = true) ∧ d9c gS wf Bs N Ts ∧
   p0a w (gS, 73, [c0, c1, c2, c3, .int .i64 m, v]) ∧ RdS (Bs ++ M) w 7 (Q5a (Bs ++ M) w) v V ∧ J0 (k + 1) Bs Ts w) ∨
 (err = 2 ∧ ∃ V, N3a p m V ∧ V.length = limit + 1 ∧ ∀ j y, j < limit → V[j]? = some y → acc y.conf = false) ∨
 (err = 4 ∧ ∃ n Bs Ts, (M2a p m n).length ≤ n ∧ (M2a p m n).length ≤ limit ∧ (∀ y ∈ M2a p m n, acc y.conf = false) ∧ d9c gS wf Bs N Ts ∧ J0 (M2a p m n).length Bs Ts w)
theorem g6a.keep {p : f0a} {m : Int} {a0 gS : Nat} {c0 c1 c2 c3 : Value} {N A M Bs0 M0 : List Nat} {acc : s0a → Bool} {J0 : Nat → List Nat → List Nat → World → Prop} {w w' wf : World} {i b0 : Int} {f : FuncId} {caps : List Value} (hA : Acc p m gS f caps Bs0 M0 wf acc J0)
 (h : g6a p m a0 gS c0 c1 c2 c3 N M wf acc J0 w i b0) (hk : u0a A w w') (h1 : ∀ g ∈ A, g ∈ N ∧ g ∈ M) (h2 : gS ∉ A) : g6a p m a0 gS c0 c1 c2 c3 N M wf acc J0 w' i b0 := by
 rcases h with ⟨he, k, V, v, Bs, Ts, q1, q2, q3, q4, q5, q6, q7, q8, q9, e0⟩ | h | ⟨he, n, Bs, Ts, q1, q2, q3, q4, q5⟩
 ·have d0 : u0a (Bs ++ M) w w' := hk.mono (fun g hg => List.mem_append_right _ (h1 g hg).2);exact .inl ⟨he, k, V, v, Bs, Ts, q1, q2, q3, q4, q5, q6, q7, o1a hk h2 q8, RdS.keepW q9 d0 (fun _ _ => Q5a.keep d0), hA.own _ _ Ts Ts _ _ e0 q7.ok (fun g hg => .inl hg) (hk.mono fun g hg => q7.sub g (h1 g hg).1)⟩
 ·exact .inr (.inl h)
 ·exact .inr (.inr ⟨he, n, Bs, Ts, q1, q2, q3, q4, hA.own _ _ Ts Ts _ _ q5 q4.ok (fun g hg => .inl hg) (hk.mono fun g hg => q4.sub g (h1 g hg).1)⟩)
theorem g6a.less {p : f0a} {m : Int} {a0 gS : Nat} {c0 c1 c2 c3 : Value} {N N' M M' : List Nat} {acc : s0a → Bool} {J0 : Nat → List Nat → List Nat → World → Prop} {w wf : World} {i b0 : Int}
 (h : g6a p m a0 gS c0 c1 c2 c3 N M wf acc J0 w i b0) (hN : ∀ g ∈ N', g ∈ N) (hM : ∀ g ∈ M', g ∈ M) : g6a p m a0 gS c0 c1 c2 c3 N' M' wf acc J0 w i b0 := by
 rcases h with ⟨he, k, V, v, Bs, Ts, q1, q2, q3, q4, q5, q6, q7, q8, q9, d0⟩ | h | ⟨he, n, Bs, Ts, q1, q2, q3, q4, q5⟩
 ·have hB : ∀ g ∈ Bs ++ M', g ∈ Bs ++ M := fun g hg => by
   rcases List.mem_append.1 hg with h | h
   ·exact List.mem_append_left _ h
   ·exact List.mem_append_right _ (hM g h)
  exact .inl ⟨he, k, V, v, Bs, Ts, q1, q2, q3, q4, q5, q6, ⟨fun g hg => q7.sub g (hN g hg), q7.ok⟩, q8, RdS.lessW q9 hB (fun _ _ => Q5a.more (fun g hg => .inl (hB g hg))), d0⟩
 ·exact .inr (.inl h)
 ·exact .inr (.inr ⟨he, n, Bs, Ts, q1, q2, q3, ⟨fun g hg => q4.sub g (hN g hg), q4.ok⟩, q5⟩)
theorem X5b (p : f0a) (m : Int) (hm : m = 0 ∨ m = 1 ∨ m = 2) (a0 gS : Nat) (o1 : a0 ≤ 100000) (c0 c1 c2 c3 : Value) (f : FuncId) (caps : List Value) (Bs0 M0 : List Nat) (w0 : World) (acc : s0a → Bool) (J0 : Nat → List Nat → List Nat → World → Prop) (hI : InP p (gS :: (Bs0 ++ M0)) w0 [c0, c1, c2, c3])
 (P0 : p0a w0 (gS, 73, [c0, c1, c2, c3, .int .i64 m, .slice none 0 0])) (I1 : gS ∉ Bs0) (hA : Acc p m gS f caps Bs0 M0 w0 acc J0) :
 K0a Tryz.prog 25 #[.pointer (some ⟨gS, 0, none⟩), .int .i64 a0, .func (.func f) #[] caps.toArray] w0 fun v w' => (∃ i t0, v = .tuple #[.int .i64 i, .int .i64 t0] ∧ g6a p m a0 gS c0 c1 c2 c3 [] M0 w0 acc J0 w' i t0) ∧ x0a (gS :: Bs0) w0 w' := by
 have S := St.base (gS :: Bs0) w0;have K0 := u0a.refl [] w0;have hp := hI.ok;refine F6a Tryz.func25 rfl Tryz.ntmps25 rfl (wI ?_);refine wO0 rfl ⟨⟩ (h6a S (v := .pointer _) rfl rfl rfl ?_);intro g3 w3 S3 X3 G3;replace K0 := K0.trans X3;refine h6a S3 (v := .int .i64 _) rfl rfl rfl ?_;intro g4 w4 S4 X4 G4;replace K0 := K0.trans X4;refine h6a S4 (v := .func _ _ _) rfl rfl rfl ?_;intro g5 w5 S5 X5 G5;replace K0 := K0.trans X5;refine n0a S5 p8c rfl rfl ?_;intro g6 w6 S6 X6 G6;replace K0 := K0.trans X6;refine n0a S6 n7c rfl rfl ?_;intro g7 w7 S7 X7 G7;replace K0 := K0.trans X7;refine lO S7.k [.o 4] rfl ⟨rfl,⟨⟩⟩ (t0a S7 W6c rfl rfl (U6c gS _) ?_);rintro C2 h0 ⟨gP, rfl, P1, f2⟩ r0 Q1;replace K0 := K0.trans Q1;have J2 : w0.heap.size ≤ gP := Nat.le_trans S7.size P1;have H2 : w0.heap.size ≤ g6 ∧ g6 < h0.heap.size := ⟨by have := S5.size; omega, r0.lt 1 rfl⟩;have I2 : w0.heap.size ≤ g7 ∧ g7 < h0.heap.size := ⟨by have := S6.size; omega, r0.lt 0 rfl⟩;have G2 : w0.heap.size ≤ g5 ∧ g5 < h0.heap.size := ⟨by have := S4.size; omega, r0.lt 2 rfl⟩;have F2 : w0.heap.size ≤ g4 ∧ g4 < h0.heap.size := ⟨by have := S3.size; omega, r0.lt 3 rfl⟩;have E2 : w0.heap.size ≤ g3 ∧ g3 < h0.heap.size := ⟨by omega, r0.lt 4 rfl⟩;refine lC0 rfl ⟨⟩ (wJ ?_);have Y1 : p0a h0 (gS, 73, [c0, c1, c2, c3, .int .i64 m, .slice none 0 0]) := o1a K0 (by simp) P0;have Zw := r0.size;have lS := P0.lt;simp only at lS;refine w6a (vs := fun y => #[y, _]) f6c rfl (fun _ => rfl) (fun rc wi t1 N1 r2 m1 p2 has g2 i2 hl hB z2 => ?_);obtain ⟨l, M1⟩ : ∃ l, l = h0.heap.size + 1 := ⟨_, rfl⟩;obtain ⟨mk, p1⟩ : ∃ mk, mk = h0.heap.size := ⟨_, rfl⟩;have V0 := m6a (NC.nil (w := h0)) i2 hl hB;rw [← M1, ← p1] at V0;rw [← M1] at hl ⊢;have Si := r0.later hB;have Ki : u0a [] h0 wi := u0a.of_below hB;have A1 := K0.trans Ki;have G0 : ∀ g ∈ Bs0, g < w0.heap.size := hA.lt _ _ _ _ hA.start;have E1 := o1a Ki (by simp) Y1;have y0 := o1a Ki (by simp) f2;have d0 : ∀ x ∈ [(mk, Obj.deferred (some []))], x.1 ≠ l := fun x hx => by
  rw [List.mem_singleton] at hx; subst hx; show mk ≠ l; omega
 have a2 : ∀ g ∈ l :: mk :: g6 :: [g7], w0.heap.size ≤ g ∧ g < wi.heap.size := fun g hg => by
  simp only [List.mem_cons, List.not_mem_nil, or_false] at hg;rcases hg with rfl | rfl | rfl | rfl <;> omega
 have n0 : ∀ (Ba Ts : List Nat), (∀ g ∈ Ba, g ∈ Bs0 ∨ wi.heap.size ≤ g) → (∀ g ∈ Ts, g ∉ l :: mk :: Ba ∧ (g = gS ∨ wi.heap.size ≤ g)) → ∀ g ∈ l :: mk :: g6 :: g7 :: Ts, g ∉ Ba ∧ (g = gS ∨ w0.heap.size ≤ g) := fun Ba Ts f0 hT g hg => by
  by_cases hh : g ∈ l :: mk :: g6 :: [g7]
  ·have h1 := a2 g hh;refine ⟨fun h2 => ?_, .inr h1.1⟩;rcases f0 g h2 with h | h
   ·have := G0 g h; omega
   ·omega
  ·have h1 := hT g (by simp only [List.mem_cons, List.not_mem_nil, or_false] at hg hh; grind);exact ⟨fun h2 => h1.1 (by simp [h2]), h1.2.imp id (fun h => by omega)⟩
 have V1 : J0 0 Bs0 (l :: mk :: g6 :: g7 :: [gS]) wi := hA.own 0 Bs0 [gS] _ w0 wi hA.start (fun g hg => by rw [List.mem_singleton] at hg; subst hg; exact ⟨I1, .inl rfl⟩) (fun g hg => by
  simp only [List.mem_cons, List.not_mem_nil, or_false] at hg ⊢;rcases hg with rfl | rfl | rfl | rfl | rfl
  ·right; omega
  ·right; omega
  ·right; omega
  ·right; omega
  ·left; rfl) A1.of_nil
 have U1 : InP p (gS :: ((l :: mk :: Bs0) ++ ([g6, g7] ++ M0))) wi [c0, c1, c2, c3] := InP.grow (Bs0 := []) hI A1 (fun g hg => by
  simp only [List.cons_append, List.nil_append, List.mem_cons, List.mem_append] at hg ⊢;rcases hg with rfl | rfl | rfl | hg | rfl | rfl | hg
  ·simp
  ·right; omega
  ·right; omega
  ·simp [hg]
  ·right; omega
  ·right; omega
  ·simp [hg]) (fun g hg => by
  simp only [List.cons_append, List.nil_append, List.mem_cons, List.mem_append] at hg;rcases hg with rfl | rfl | rfl | hg | rfl | rfl | hg
  ·omega
  ·omega
  ·omega
  ·have := G0 g hg; omega
  ·omega
  ·omega
  ·have := hI.lt g (by simp [hg]); omega)
 have g1 : ∀ b ∈ ([(some g7, 31, [.int .i64 0]), (some g6, 3, [.int .i64 0]), (some g5, 76, [.func (.func f) #[] caps.toArray]), (some g4, 3, [.int .i64 a0]), (some g3, 70, [.pointer (some ⟨gS, 0, none⟩)])] : List Ent), ∀ g, b.1 = some g → ∀ Ws : List Nat, (∀ g ∈ Ws, g = gS ∨ wi.heap.size ≤ g) → g ∉ Ws := fun b hb g hg Ws hW hh => by
  have h1 := (Si.own b hb g hg).2;rcases hW g hh with rfl | h2
  ·simp only [List.mem_cons, List.not_mem_nil, or_false] at hb;rcases hb with rfl | rfl | rfl | rfl | rfl <;> exact t5a h1 E1 (by decide) rfl
  ·have := h1.lt; simp at this; omega
 have o0 : ∀ b ∈ ([(some g7, 31, [.int .i64 0]), (some g6, 3, [.int .i64 0]), (some g5, 76, [.func (.func f) #[] caps.toArray]), (some g4, 3, [.int .i64 a0]), (some g3, 70, [.pointer (some ⟨gS, 0, none⟩)])] : List Ent), ∀ g, b.1 = some g → w0.heap.size ≤ g ∧ g < wi.heap.size := fun b hb g hg => by
  simp only [List.mem_cons, List.not_mem_nil, or_false] at hb;rcases hb with rfl | rfl | rfl | rfl | rfl <;> (simp only [Option.some.injEq] at hg; subst hg; omega)
 refine K0a.mono (y4c p m hm gP gS l c0 c1 c2 c3 (l :: mk :: Bs0) ([g6, g7] ++ M0) a0 o1 wi (fun k Bs Ts w => ∃ Ba, Bs = l :: mk :: Ba ∧ k ≤ a0 ∧ J0 k Ba (l :: mk :: g6 :: g7 :: Ts) w ∧ NC w [(l, .loop rc), (mk, .deferred (some []))] ∧ St (gS :: Bs0) w0 w [(some g7, 31, [.int .i64 0]), (some g6, 3, [.int .i64 0]), (some g5, 76, [.func (.func f) #[] caps.toArray]), (some g4, 3, [.int .i64 a0]), (some g3, 70, [.pointer (some ⟨gS, 0, none⟩)])] ∧ (∀ g ∈ Ba, g ∈ Bs0 ∨ wi.heap.size ≤ g) ∧ ∀ V, N3a p m V → ∀ j y, j < k → V[j]? = some y → acc y.conf = false) (fun w => ∃ i t0, NC w [(l, .loop { rc with state := .done, pending := some .ret }), (mk, .deferred (some []))] ∧ St (gS :: Bs0) w0 w [(some g7, 31, [.int .i64 t0]), (some g6, 3, [.int .i64 i]), (some g5, 76, [.func (.func f) #[] caps.toArray]), (some g4, 3, [.int .i64 a0]), (some g3, 70, [.pointer (some ⟨gS, 0, none⟩)])] ∧ g6a p m a0 gS c0 c1 c2 c3 [l, mk, g6, g7] ([l, mk, g6, g7] ++ M0) w0 acc J0 w i t0) U1 y0 E1 (fun hh => ?_) (fun hh => ?_) ⟨?_, ?_, fun k Bs Ts w V v hJ L0 b2 e0 S0 Q0 n1 q2 A2 => ?_⟩ ⟨Bs0, rfl, Nat.zero_le _, V1, V0, Si, fun g hg => .inl hg, fun V _ j y hj => absurd hj (by omega)⟩) ?_
 ·simp only [List.mem_cons] at hh;have := y0.lt;rcases hh with rfl | rfl | hh
  ·have h1 := (V0 (gP, .loop rc) (by simp)).1;unfold p0a at y0; rw [y0] at h1; cases h1
  ·have h1 := (V0 (gP, .deferred (some [])) (by simp)).1;unfold p0a at y0; rw [y0] at h1; cases h1
  ·have := G0 gP hh; omega
 ·simp only [List.mem_cons] at hh;rcases hh with hh | hh | hh
  ·omega
  ·omega
  ·exact I1 hh
 ·rintro k Bs Ws y2 w w' ⟨Ba, rfl, hk, hj, hO, S3, f0, q0⟩ hW d2 f1;have H1 : ∀ g ∈ Ws, g = gS ∨ wi.heap.size ≤ g := fun g hg => (hW g hg).2;exact ⟨Ba, rfl, hk, hA.own k Ba _ _ w w' hj (n0 Ba Ws f0 hW) (fun g hg => by
   simp only [List.mem_cons] at hg ⊢;rcases hg with rfl | rfl | rfl | rfl | hg
   ·simp
   ·simp
   ·simp
   ·simp
   ·rcases d2 g hg with h | h
    ·simp [h]
    ·exact .inr h) ((u0a.of_belowM f1).mono (fun g hg => by simp [hg])), hO.keepW (u0a.of_belowM f1) (fun x hx hh => by
   simp only [List.mem_cons, List.not_mem_nil, or_false] at hx;rcases hx with rfl | rfl
   ·exact (hW _ hh).1 (by simp)
   ·exact (hW _ hh).1 (by simp)), S3.keepsW f1 (fun g hg o2 => (H1 g hg).elim (fun h => by simp [h]) (fun h => by omega)) (fun b hb g hg => g1 b hb g hg Ws H1), f0, q0⟩
 ·rintro k Bs Ts w ⟨Ba, rfl, hk, hj, hO, S3, f0, q0⟩ g hg;simp only [List.mem_cons] at hg;rcases hg with rfl | rfl | hg
  ·exact hO.lt (g, .loop rc) (by simp)
  ·exact hO.lt (g, .deferred (some [])) (by simp)
  ·exact hA.lt k Ba _ w hj g hg
 ·obtain ⟨Ba, rfl, hk, hj, g0, S3, f0, q0⟩ := hJ;have z3 := S3.size;have x1 : ∀ g, w0.heap.size ≤ g → g < wi.heap.size → g ∉ Ba := fun g h1 h2 hh => by
   rcases f0 g hh with h | h
   ·have := G0 g h; omega
   ·omega
  refine G4c (g0 (l, .loop rc) (by simp)).1 t1 r2 m1 p2 has g2 rfl ?_;refine wI ?_;refine wF0 rfl ⟨⟩ ?_;refine ⟨(g0 (l, .loop rc) (by simp)).1, ?_⟩;have Sb := S3.putObj (.loop { rc with state := .busy }) g0 (List.mem_cons_self) (.inl (by omega));have b0 := g0.put (o' := .loop { rc with state := .busy }) d0 (by simp);have Kw : u0a [l] w (w.putObj l (.loop { rc with state := .busy })) := L1a w l (.loop { rc with state := .busy });generalize w.putObj l (.loop { rc with state := .busy }) = wb at Sb b0 Kw ⊢;have D1 := o1a Kw (by simp; omega) Q0;have W0 : RdS (l :: mk :: (Ba ++ ([g6, g7] ++ M0))) wb 7 (Q5a (Ts ++ (l :: mk :: (Ba ++ ([g6, g7] ++ M0)))) wb) v V := RdS.keepW q2 (Kw.mono (by simp)) (fun _ _ => Q5a.keep (Kw.mono (by simp)));have I0 := n0 Ba Ts f0 L0;have j2 := hA.own k Ba _ _ w wb hj I0 (fun g hg => .inl hg) (Kw.mono (by simp));obtain ⟨Av, nv, cv, rfl⟩ := W0.form;obtain ⟨_, -, _⟩ := W0.len;have cV := D1.cell (o := 5) rfl;refine wI ?_;refine wO0 rfl ⟨⟩ (r0a D0a rfl (by exact Sb.cell 3 rfl rfl) rfl ?_);refine lB0 rfl ⟨⟩ (fun R1 => ?_) fun R1 => ?_
  ·refine lO0 rfl ⟨⟩ (J0a (kk := 1) Sb C1b rfl (by conv => lhs; whnf) rfl rfl (by exact Nat.le_of_ble_eq_true rfl) ?_);intro s2 z0 a1;replace b0 := by exact b0.keepS a1 (Sb.blk 1 rfl)
   refine J0a (kk := 0) z0 E7a rfl (by conv => lhs; whnf) rfl rfl (by exact Nat.le_of_ble_eq_true rfl) ?_;intro y1 Y0 b1;replace b0 := by exact b0.keepS b1 (z0.blk 0 rfl)
   refine lR0 rfl ⟨⟩ ?_;refine ⟨{ rc with state := .busy }, (b0 (l, _) (by simp)).1, .inr ⟨rfl, ?_⟩⟩;have H0 := b0.put (o' := .loop { rc with state := .done, pending := some .ret }) d0 (by simp);have Sn := Y0.putObj (.loop { rc with state := .done, pending := some .ret }) b0 (List.mem_cons_self) (.inl (by omega));have Kx := L1a y1 l (.loop { rc with state := .done, pending := some .ret });exact ⟨_, _, H0, Sn, .inr (.inl ⟨rfl, V, e0, by omega, fun j y hj hy => q0 V e0 j y (by omega) hy⟩)⟩
  refine lC0 rfl ⟨⟩ (C0a b0a [0, 1, 2, 3, 4, 5, 6, 7, 8] [] [9] (by kernel_rfl) rfl (Cl _ _ _ _) (Cl.start Sb) ?_);refine h0a W2c rfl (fun w1 hw => by exact hw.1.cell 2 rfl rfl) rfl ?_;refine h0a s4a rfl (fun w1 hw => by exact hw.1.cell 4 rfl rfl) rfl ?_;refine qO0 rfl ⟨⟩ (h0a f7a rfl (fun w1 hw => by exact hw.2.cell List.not_mem_nil cV) rfl ?_);obtain ⟨y, C1, O1, _, u1, d1, _, _, j1, q1⟩ := RdS.get (W0) (k) (by omega);obtain ⟨_, rfl, N0, -, -⟩ := q1;obtain ⟨Xm, xm, ym, Xa, xa, ya, Xb, xb, yb, rfl, -⟩ := N0.open_;refine qO Sb.q [.x C1 O1] rfl ⟨⟨d1,by omega⟩,⟨⟩⟩ (F1a k1a rfl (fun w1 hw => (show g1a wb C1 (O1 + k * 7) [.slice Xm xm ym, .slice Xa xa ya, .slice Xb xb yb] from g1a.sub j1 0 3).keep hw.2 List.not_mem_nil) rfl rfl ?_);refine qD rfl ⟨⟩ ?_;rintro w2 ⟨B1, j0⟩;replace b0 := b0.keep j0;have R0 := hA.call k Ba _ w2 V y _ (hA.own k Ba _ _ _ _ j2 I0 (fun g hg => .inl hg) j0.of_nil) I0 e0 S0 u1 ((N0.more (fun g hg => by simp only [List.mem_append, List.mem_cons] at hg ⊢; grind)).keep j0.of_nil) (by have := B1.size; omega) (by omega);refine y4a hA.has rfl rfl rfl R0 ?_;rintro D2 x0 ⟨rfl, i0, J1, u0, T0⟩;have Wz := u0.size;have Wx := j0.size;have Ww := Kw.size;replace b0 := b0.keepW (u0a.of_belowM u0) (fun x hx hh => by
   simp only [List.mem_cons, List.not_mem_nil, or_false] at hx;rcases hx with rfl | rfl
   ·exact x1 l (by omega) (by omega) hh
   ·exact x1 mk (by omega) (by omega) hh)
  have X0 := B1.keepsW u0 (fun g hg o2 => (f0 g hg).elim (fun h => by simp [h]) (fun h => by omega)) (fun b hb g hg hh => x1 g (o0 b hb g hg).1 (o0 b hb g hg).2 hh);have v0 : ∀ g ∈ i0, g ∈ Bs0 ∨ wi.heap.size ≤ g := fun g hg => by
   rcases T0 g hg with h | h
   ·exact f0 g h
   ·right; omega
  have B2 : ∀ g, w0.heap.size ≤ g → g < wi.heap.size → g ∉ i0 := fun g h1 h2 hh => by
   rcases v0 g hh with h | h
   ·have := G0 g h; omega
   ·omega
  have F1 := n0 i0 Ts v0 (fun g hg => ⟨fun hh => by
   simp only [List.mem_cons] at hh;rcases hh with hh | hh | hh
   ·exact (L0 g hg).1 (by simp [hh])
   ·exact (L0 g hg).1 (by simp [hh])
   ·rcases T0 g hh with h | h
    ·exact (L0 g hg).1 (by simp [h])
    ·have := b2 g hg; omega, (L0 g hg).2⟩)
  have Z1 : d9c gS w0 i0 [l, mk, g6, g7] (l :: mk :: g6 :: g7 :: Ts) := ⟨fun g hg => by simp at hg ⊢; grind, F1⟩;have KR := u0a.refl [g6, g7] x0;cases O0 : acc y.conf
  ·refine lF0 rfl ⟨⟩ ?_;refine ⟨{ rc with state := .busy }, (b0 (l, _) (by simp)).1, .inl ⟨rfl, ?_⟩⟩;have H0 := b0.put (o' := .loop rc) d0 (by simp);have Sn := X0.putObj (.loop rc) b0 (List.mem_cons_self) (.inl (by omega));have Kn := L1a x0 l (.loop rc);rw [g1b t1 N1];refine ⟨by omega, l :: mk :: i0, ⟨i0, rfl, by omega, hA.own _ _ _ _ _ _ J1 F1 (fun g hg => .inl hg) (Kn.mono (by simp)), H0, Sn, v0, fun V' G1 j y' hj v1 => ?_⟩, ?_, fun g hg => ?_⟩
   ·by_cases m2 : j < k
    ·exact q0 V' G1 j y' m2 v1
    ·obtain rfl : j = k := by omega
     have hl := (List.getElem?_eq_some_iff.1 v1).1;obtain rfl := Option.some.inj ((M3a (e0.cmp G1 (by omega)) u1).symm.trans v1);exact O0
   ·exact (((Kw.mono (by simp)).trans j0.of_nil).trans ((u0a.of_belowM u0).mono (fun g hg => by simp [hg]))).trans (Kn.mono (by simp))
   ·simp only [List.mem_cons] at hg ⊢;rcases hg with rfl | rfl | hg
    ·exact .inl (.inl rfl)
    ·exact .inl (.inr (.inl rfl))
    ·rcases T0 g hg with h | h
     ·exact .inl (.inr (.inr h))
     ·right; omega
  refine lO0 rfl ⟨⟩ (J0a (kk := 1) X0 C1b rfl (by conv => lhs; whnf) rfl rfl (by exact Nat.le_of_ble_eq_true rfl) ?_);intro t2 A0 C0;replace KR := KR.fresh2 C0 (by exact .inr (by simp));replace b0 := by exact b0.keepS C0 (X0.blk 1 rfl)
  refine J0a (kk := 0) A0 E7a rfl (by conv => lhs; whnf) rfl rfl (by exact Nat.le_of_ble_eq_true rfl) ?_;intro z1 Z0 D0;replace KR := KR.fresh2 D0 (by exact .inr (by simp));replace b0 := by exact b0.keepS D0 (A0.blk 0 rfl)
  refine lR0 rfl ⟨⟩ ?_;refine ⟨{ rc with state := .busy }, (b0 (l, _) (by simp)).1, .inr ⟨rfl, ?_⟩⟩;have H0 := b0.put (o' := .loop { rc with state := .done, pending := some .ret }) d0 (by simp);have Sn := Z0.putObj (.loop { rc with state := .done, pending := some .ret }) b0 (List.mem_cons_self) (.inl (by omega));have Kx := L1a z1 l (.loop { rc with state := .done, pending := some .ret });have i1 : p0a x0 (gS, 73, [c0, c1, c2, c3, .int .i64 m, .slice Av nv cv]) := o1a (u0a.of_belowM u0) (fun hh => n1 (by simp only [List.mem_cons]; exact .inr (.inr hh))) (o1a j0 (by simp) D1);have n2 : u0a (l :: mk :: (Ba ++ ([g6, g7] ++ M0))) wb x0 := (j0.of_nil).trans ((u0a.of_belowM u0).mono (fun g hg => by simp [hg]));have s1 : RdS ((l :: mk :: Ba) ++ ([g6, g7] ++ M0)) wb 7 (Q5a ((l :: mk :: Ba) ++ ([g6, g7] ++ M0)) wb) (.slice Av nv cv) V := RdS.mono (show RdS ((l :: mk :: Ba) ++ ([g6, g7] ++ M0)) wb 7 (Q5a (Ts ++ (l :: mk :: (Ba ++ ([g6, g7] ++ M0)))) wb) (.slice Av nv cv) V from W0) (fun _ _ hr => Q5a.more (fun g hg => .inl (by simp at hg ⊢; grind)) hr);have r1 : RdS (i0 ++ ([l, mk, g6, g7] ++ M0)) x0 7 (Q5a (i0 ++ ([l, mk, g6, g7] ++ M0)) x0) (.slice Av nv cv) V := y6b (A := l :: mk :: Ba) s1 ((j0.of_nil).trans ((u0a.of_belowM u0).mono (fun g hg => by simp [hg]))) (fun g hg => ?_)
  ·exact ⟨_, _, H0, Sn, g6a.keep hA (A := [l, g6, g7]) (w := x0) (.inl ⟨rfl, k, V, _, i0, l :: mk :: g6 :: g7 :: Ts, rfl, e0, S0, by omega, fun j y hj hy => q0 V e0 j y hj hy, ⟨y, u1, O0⟩, Z1, i1, r1, J1⟩) ((KR.mono (by simp)).trans (Kx.mono (by simp))) (fun g hg => by simp only [List.mem_cons, List.not_mem_nil, or_false] at hg; rcases hg with rfl | rfl | rfl <;> exact ⟨by simp, by simp⟩) (by simp; omega)⟩
  ·simp only [List.mem_append, List.mem_cons, List.not_mem_nil, or_false] at hg ⊢;rcases hg with hg | (rfl | rfl | rfl | rfl) | hg
   ·rcases T0 g hg with h | h
    ·simp [h]
    ·right; have := j0.size; omega
   ·simp
   ·simp
   ·simp
   ·simp
   ·simp [hg]
 rintro v w3 (⟨N3, x2, W1, X1, Ts, I0, Ba, rfl, hk, hj, g0, S3, f0, q0⟩ | ⟨i, t0, g0, S3, hF⟩)
 rotate_left
 ·refine ⟨{ rc with state := .done, pending := some .ret }, (g0 (l, _) List.mem_cons_self).1, by simp, .inr ⟨rfl, ?_⟩⟩;have Sa := S3.putObj (.loop { rc with state := .exhausted, pending := some .ret }) g0 (List.mem_cons_self) (.inl (by omega));have p0 := (g0.put (o' := .loop { rc with state := .exhausted, pending := some .ret }) d0 (by simp)).tail;have Ka := L1a w3 l (.loop { rc with state := .exhausted, pending := some .ret });have U0 := hF.keep hA (A := [l]) Ka (fun g hg => by rw [List.mem_singleton] at hg; subst hg; exact ⟨by simp, by simp⟩) (by simp; omega);exact o9a rfl D0a q9b rfl rfl [mk] (by rw [p1]; rfl) (by simp) p0 (Sa.cell 1 rfl rfl) (Sa.cell 0 rfl rfl) (by simp; omega) (by simp; omega) (fun w' hb => ⟨⟨i, t0, rfl, (U0.keep hA (A := [mk]) (u0a.of_belowM hb) (fun g hg => by rw [List.mem_singleton] at hg; subst hg; exact ⟨by simp, by simp⟩) (by simp; omega)).less (by simp) (fun g hg => by simp [hg])⟩, x0a.stepM Sa.below hb (fun g hg => by rw [List.mem_singleton] at hg; omega)⟩)
 refine ⟨rc, (g0 (l, .loop rc) (by simp)).1, by rw [t1]; simp, .inl ⟨N1, ?_⟩⟩;have Sa := S3.putObj (.loop { rc with state := .exhausted }) g0 (List.mem_cons_self) (.inl (by omega));have p0 := (g0.put (o' := .loop { rc with state := .exhausted }) d0 (by simp)).tail;have Ka := L1a w3 l (.loop { rc with state := .exhausted });have T1 : g6a p m a0 gS c0 c1 c2 c3 [l, mk, g6, g7] ([l, mk, g6, g7] ++ M0) w0 acc J0 w3 0 4 := .inr (.inr ⟨rfl, N3, Ba, l :: mk :: g6 :: g7 :: Ts, W1, X1, fun y hy => by
  obtain ⟨j, K1, rfl⟩ := List.getElem_of_mem hy;exact q0 _ ⟨N3, List.prefix_refl _⟩ j _ K1 (List.getElem?_eq_getElem K1), ⟨fun g hg => by simp at hg ⊢; grind, n0 Ba Ts f0 I0⟩, hj⟩)
 have U0 := T1.keep hA (A := [l]) Ka (fun g hg => by rw [List.mem_singleton] at hg; subst hg; exact ⟨by simp, by simp⟩) (by simp; omega);generalize w3.putObj l (.loop { rc with state := .exhausted }) = wa at Sa p0 U0 ⊢;have KA := u0a.refl [g6, g7] wa;refine fO0 rfl ⟨⟩ (J0a (kk := 1) Sa C1b rfl (by conv => lhs; whnf) rfl rfl (by exact Nat.le_of_ble_eq_true rfl) ?_);intro u2 B0 E0;replace KA := KA.fresh2 E0 (by exact .inr (by simp));replace p0 := by exact p0.keepS E0 (Sa.blk 1 rfl)
 refine J0a (kk := 0) B0 E7a rfl (by conv => lhs; whnf) rfl rfl (by exact Nat.le_of_ble_eq_true rfl) ?_;intro v2 s0 F0;replace KA := KA.fresh2 F0 (by exact .inr (by simp));replace p0 := by exact p0.keepS F0 (B0.blk 0 rfl)
 refine lR0 rfl ⟨⟩ ?_;exact o9a rfl D0a q9b rfl rfl [mk] (by rw [p1]; rfl) (by simp) p0 (s0.cell 1 rfl rfl) (s0.cell 0 rfl rfl) (by simp; omega) (by simp; omega) (fun w' hb => ⟨⟨0, 4, rfl, ((U0.keep hA (A := [g6, g7]) KA (fun g hg => by simp only [List.mem_cons, List.not_mem_nil, or_false] at hg; rcases hg with rfl | rfl <;> exact ⟨by simp, by simp⟩) (by simp; omega)).keep hA (A := [mk]) (u0a.of_belowM hb) (fun g hg => by rw [List.mem_singleton] at hg; subst hg; exact ⟨by simp, by simp⟩) (by simp; omega)).less (by simp) (fun g hg => by simp [hg])⟩, x0a.stepM s0.below hb (fun g hg => by rw [List.mem_singleton] at hg; omega)⟩)
def L5b (p : f0a) (m : Int) (limit : Nat) (l : List s0a) (err : Int) : Prop :=
 (err = 0 ∧ ∃ n, (M2a p m n).length ≤ n ∧ (M2a p m n).length ≤ limit ∧ l = b2a (M2a p m n)) ∨ (err = 2 ∧ l = [] ∧ ∃ V, N3a p m V ∧ V.length = limit + 1)
theorem Q7b (p : f0a) (m : Int) (n : Nat) : N3a p m (M2a p m n) := ⟨n, List.prefix_refl _⟩
theorem y9a {p : f0a} {m : Int} {n k : Nat} (h1 : (M2a p m n).length ≤ n) (h2 : (M2a p m k).length ≤ k) : M2a p m n = M2a p m k :=
 List.IsPrefix.eq_of_length_le ((Q7b p m n).done h2) ((Q7b p m k).done h1).length_le
theorem C2b {p : f0a} {m : Int} {a b : Nat} {x y : List s0a} {e f : Int} (ha : L5b p m a x e) (hb : L5b p m b y f) (a0 : a ≤ b) : (e = 0 → f = 0 ∧ x = y ∧ x.length ≤ a) ∧ (f = 0 → (e = 0 ↔ y.length ≤ a)) := by
 refine ⟨fun he => ?_, fun hf => ⟨fun he => ?_, fun hy => ?_⟩⟩
 ·rcases ha with ⟨_, n, h1, h2, rfl⟩ | ⟨h, _⟩
  ·rcases hb with ⟨hf, k, h3, h4, rfl⟩ | ⟨_, _, V, hV, hl⟩
   ·exact ⟨hf, by rw [y9a h1 h3], by rw [List.length_map]; exact h2⟩
   ·have := (hV.done h1).length_le; omega
  ·omega
 ·rcases ha with ⟨_, n, h1, h2, rfl⟩ | ⟨h, _⟩
  ·rcases hb with ⟨hf, k, h3, h4, rfl⟩ | ⟨h, _⟩
   ·rw [List.length_map, y9a h3 h1]; exact h2
   ·omega
  ·omega
 ·rcases ha with ⟨he, _⟩ | ⟨he, _, V, hV, hl⟩
  ·exact he
  ·rcases hb with ⟨hf, k, h3, h4, rfl⟩ | ⟨h, _⟩
   ·have := (hV.done h3).length_le;rw [List.length_map] at hy; omega
   ·omega
def B4a (V : List v2a) : Nat → Nat → List A0a
 | 0, _ => []
 | n + 1, i => match V[i]? with
   | some y => if 0 ≤ y.frm then y.ch :: B4a V n y.frm.toNat else []
   | none => []
def P9b (p : f0a) (m : Int) (aim : Bool) (acc : s0a → Bool) (limit : Nat) (v : List A0a) (h : Int) : Prop :=
 (aim = false ∧ h = 1 ∧ v = []) ∨
 (∃ (k : Nat) (V : List v2a), N3a p m V ∧ V.length = k + 1 ∧ k < limit ∧ (∀ j y, j < k → V[j]? = some y → acc y.conf = false) ∧ (∃ y, V[k]? = some y ∧ acc y.conf = true) ∧
   aim = true ∧ ((120 < (B4a V (k + 1) k).length ∧ h = 2 ∧ v = []) ∨ ((B4a V (k + 1) k).length ≤ 120 ∧ h = 0 ∧ v = (B4a V (k + 1) k).reverse))) ∨
 (aim = true ∧ h = 2 ∧ v = [] ∧ ∃ V, N3a p m V ∧ V.length = limit + 1 ∧ ∀ j y, j < limit → V[j]? = some y → acc y.conf = false) ∨
 (aim = true ∧ h = 4 ∧ v = [] ∧ ∃ n, (M2a p m n).length ≤ n ∧ (M2a p m n).length ≤ limit ∧ ∀ y ∈ M2a p m n, acc y.conf = false)
theorem u3a {p : f0a} {m : Int} {b0 : Bool} {acc : s0a → Bool} {a b : Nat} {v w : List A0a} {h i : Int} (ha : P9b p m b0 acc a v h) (hb : P9b p m b0 acc b w i) (d0 : a ≤ b) : h = 2 ∨ (h = i ∧ v = w) := by
 rcases ha with ⟨a1, rfl, rfl⟩ | ⟨k, V, q1, q2, q3, q4, ⟨y, q5, q6⟩, a1, q7⟩ | ⟨_, rfl, _⟩ | ⟨a1, rfl, rfl, n, q1, q2, q3⟩
 ·rcases hb with ⟨_, rfl, rfl⟩ | ⟨_, _, _, _, _, _, _, a2, _⟩ | ⟨a2, _⟩ | ⟨a2, _⟩
  ·exact .inr ⟨rfl, rfl⟩
  all_goals (rw [a1] at a2; cases a2)
 ·rcases hb with ⟨a2, _⟩ | ⟨k', V', r1, r2, r3, r4, ⟨y', r5, r6⟩, _, r7⟩ | ⟨_, rfl, _, W, r1, r2, r3⟩ | ⟨_, rfl, _, n, r1, r2, r3⟩
  ·rw [a1] at a2; cases a2
  ·have hk : k = k' := by
    rcases Nat.lt_trichotomy k k' with a0 | he | a0
    ·have h1 := r4 k y a0 (M3a (q1.cmp r1 (by omega)) q5);rw [q6] at h1; cases h1
    ·exact he
    ·have h1 := q4 k' y' a0 (M3a (r1.cmp q1 (by omega)) r5);rw [r6] at h1; cases h1
   subst hk;have hV : V = V' := List.IsPrefix.eq_of_length_le (q1.cmp r1 (by omega)) (by omega);subst hV;rcases q7 with ⟨_, rfl, _⟩ | ⟨s1, rfl, rfl⟩
   ·exact .inl rfl
   ·rcases r7 with ⟨s2, _⟩ | ⟨_, rfl, rfl⟩
    ·omega
    ·exact .inr ⟨rfl, rfl⟩
  ·have h1 := r3 k y (by omega) (M3a (q1.cmp r1 (by omega)) q5);rw [q6] at h1; cases h1
  ·have h1 := r3 y (List.mem_of_getElem? (M3a (q1.done r1) q5));rw [q6] at h1; cases h1
 ·exact .inl rfl
 ·rcases hb with ⟨a2, _⟩ | ⟨k', V', r1, r2, r3, r4, ⟨y', r5, r6⟩, _, r7⟩ | ⟨_, rfl, _, W, r1, r2, r3⟩ | ⟨_, rfl, rfl, n', r1, r2, r3⟩
  ·rw [a1] at a2; cases a2
  ·have h1 := q3 y' (List.mem_of_getElem? (M3a (r1.done q1) r5));rw [r6] at h1; cases h1
  ·have := (r1.done q1).length_le; omega
  ·exact .inr ⟨rfl, rfl⟩
theorem V6a (p : f0a) (M : List Nat) (w0 : World) (cs : List Value) (hI : InP p M w0 cs) :
 K0a Tryz.prog 48 #[.agg cs.toArray] w0 fun v w' => v = .bool true ∧ Below w0.heap.size w0 w' := by
 obtain ⟨_, _, _, _, _, _, _, _, _, _, _, _, rfl, _, _, _, _, _, _, _, _, _, _, _, _⟩ := hI.rd.open_;have S := St.refl w0;refine a0a Tryz.func48 rfl Tryz.ntmps48 rfl ?_;refine wO0 rfl ⟨⟩ (j0a S (by conv => lhs; whnf) rfl ?_);intro g1 w1 S1 X1 G1;refine lO S1.k [.w 0] rfl ⟨⟨rfl,by rfl⟩,⟨⟩⟩ (g0a S1 H9b rfl rfl (d9a p M _ _ (hI.keep (S1.keep0 M)).rd hI.ok (hI.keep (S1.keep0 M)).msk (hI.keep (S1.keep0 M)).lt) ?_);intro w8 S8 X8;refine lB0 rfl ⟨⟩ (fun a0 => ?_) (fun a0 => by exfalso; omega);exact lT rfl ⟨⟩ rfl ⟨rfl, S8.fin⟩
def L2a (m lim : Int) : Bool := (m == 0 || m == 1 || m == 2) && (decide (1 ≤ lim) && decide (lim ≤ 20000))
theorem Z7a (p : f0a) (m f0 : Int) (M : List Nat) (w0 : World) (cs : List Value) (hI : InP p M w0 cs) :
 K0a Tryz.prog 24 #[.agg cs.toArray, .int .i64 m, .int .i64 f0] w0 fun v w' => v = .bool (L2a m f0) ∧ Below w0.heap.size w0 w' := by
 obtain ⟨_, _, _, _, _, _, _, _, _, _, _, _, rfl, _, _, _, _, _, _, _, _, _, _, _, _⟩ := hI.rd.open_;have S := St.refl w0;refine a0a Tryz.func24 rfl Tryz.ntmps24 rfl ?_;refine wO0 rfl ⟨⟩ (j0a S (by conv => lhs; whnf) rfl ?_);intro g3 w3 S3 X3 G3;refine lB0 rfl ⟨⟩ (fun h8 => ?_) fun h8 => ?_
 ·refine lB0 rfl ⟨⟩ (fun h0 => ?_) fun h0 => ?_
  ·refine lB0 rfl ⟨⟩ (fun i0 => ?_) fun i0 => ?_
   ·refine lR0 rfl ⟨⟩ (q0a rfl (by conv => lhs; whnf) ?_)
    (refine ⟨?_, S3.fin⟩; unfold L2a; simp_all <;> omega)
   refine lB0 rfl ⟨⟩ (fun b0 => ?_) fun b0 => ?_
   ·refine lB0 rfl ⟨⟩ (fun d0 => ?_) fun d0 => ?_
    ·refine lO S3.k [.w 0] rfl ⟨⟨rfl,by rfl⟩,⟨⟩⟩ (g0a S3 v5b rfl rfl (V6a p M _ _ (hI.keep (S3.keep0 M))) ?_);intro g0 a0 e0;refine lR0 rfl ⟨⟩ (q0a rfl (by conv => lhs; whnf) ?_)
     (refine ⟨?_, a0.fin⟩; unfold L2a; simp_all <;> omega)
    refine lR0 rfl ⟨⟩ (q0a rfl (by conv => lhs; whnf) ?_)
    (refine ⟨?_, S3.fin⟩; unfold L2a; simp_all <;> omega)
   refine lR0 rfl ⟨⟩ (q0a rfl (by conv => lhs; whnf) ?_)
   (refine ⟨?_, S3.fin⟩; unfold L2a; simp_all <;> omega)
  refine lB0 rfl ⟨⟩ (fun b0 => ?_) fun b0 => ?_
  ·refine lB0 rfl ⟨⟩ (fun d0 => ?_) fun d0 => ?_
   ·refine lO S3.k [.w 0] rfl ⟨⟨rfl,by rfl⟩,⟨⟩⟩ (g0a S3 v5b rfl rfl (V6a p M _ _ (hI.keep (S3.keep0 M))) ?_);intro g0 a0 e0;refine lR0 rfl ⟨⟩ (q0a rfl (by conv => lhs; whnf) ?_)
    (refine ⟨?_, a0.fin⟩; unfold L2a; simp_all <;> omega)
   refine lR0 rfl ⟨⟩ (q0a rfl (by conv => lhs; whnf) ?_)
   (refine ⟨?_, S3.fin⟩; unfold L2a; simp_all <;> omega)
  refine lR0 rfl ⟨⟩ (q0a rfl (by conv => lhs; whnf) ?_)
  (refine ⟨?_, S3.fin⟩; unfold L2a; simp_all <;> omega)
 refine lB0 rfl ⟨⟩ (fun b0 => ?_) fun b0 => ?_
 ·refine lB0 rfl ⟨⟩ (fun d0 => ?_) fun d0 => ?_
  ·refine lO S3.k [.w 0] rfl ⟨⟨rfl,by rfl⟩,⟨⟩⟩ (g0a S3 v5b rfl rfl (V6a p M _ _ (hI.keep (S3.keep0 M))) ?_);intro g0 a0 e0;refine lR0 rfl ⟨⟩ (q0a rfl (by conv => lhs; whnf) ?_)
   (refine ⟨?_, a0.fin⟩; unfold L2a; simp_all <;> omega)
  refine lR0 rfl ⟨⟩ (q0a rfl (by conv => lhs; whnf) ?_)
  (refine ⟨?_, S3.fin⟩; unfold L2a; simp_all <;> omega)
 refine lR0 rfl ⟨⟩ (q0a rfl (by conv => lhs; whnf) ?_)
 (refine ⟨?_, S3.fin⟩; unfold L2a; simp_all <;> omega)
theorem U7b (gl : Nat) (M2 : List Nat) (w0 : World) (G : Option Nat) (cs : List Value) (v : Value) (l : List s0a) (c : s0a) (ys : List Value) (hb : p0a w0 (gl, 30, [v])) (d0 : R1a M4a 3 (gl :: M2) w0 G cs v l) (h0 : G = none → cs = []) (i0 : ∀ g, G = some g → p0a w0 (g, 38, cs)) (hX : w0a (G.toList ++ (gl :: M2)) w0 c ys) (hl : l.length ≤ 100000) :
 K0a Tryz.prog 26 #[.agg ys.toArray, .pointer (some ⟨gl, 0, none⟩)] w0 fun r w' => r = .bool false ∧ ∃ G' f0 v', p0a w' (gl, 30, [v']) ∧ R1a M4a 3 (gl :: M2) w' G' f0 v' (l ++ [c]) ∧ (G' = none → f0 = []) ∧ (∀ g, G' = some g → p0a w' (g, 38, f0)) ∧ x0a (gl :: G.toList) w0 w' ∧ ∀ g ∈ G'.toList, g ∈ G.toList ∨ w0.heap.size ≤ g := by
 obtain ⟨_, _, _, _, _, _, _, _, _, rfl, -⟩ := hX.open_;have S : St (gl :: G.toList) w0 w0 [(some gl, 30, [v]), (G, 38, cs)] := ((St.base _ w0).pushO h0 i0 (fun g hg => by rw [hg]; simp) (fun g hg b hb => by simp at hb)).push hb (.inr (by simp)) (fun b g0 he => by
  simp only [List.mem_singleton] at g0; subst g0;exact t5a (i0 gl he) hb (by decide) rfl)
 obtain ⟨_, _, rfl⟩ := d0.form;refine a0a Tryz.func26 rfl Tryz.ntmps26 rfl ?_;refine wO0 rfl ⟨⟩ (j0a S (by conv => lhs; whnf) rfl ?_);intro g2 w2 S2 X2 G2;refine lO0 rfl ⟨⟩ (r0a y8b rfl (by exact S2.cell 1 rfl rfl) rfl ?_);refine lO S2.k [.w 0] rfl ⟨⟨rfl,by rfl⟩,⟨⟩⟩ (G0a S2 x7b (vs := [.agg _]) (cs := [_, _, _]) (by rfl) rfl rfl rfl rfl rfl rfl ?_);intro g6 w6 S6 X6 G6;have z7 := S6.size;refine z1a K8a (k := 3) (M2 := gl :: M2) (e1 := c) S6 x7b (by decide) rfl (d0.keep K8a (S6.keepM.mono (fun g hg => by simp at hg ⊢; grind))) rfl rfl (S6.cells 0 rfl) (w0a.keep (S6.keepM.mono (fun g hg => by simp at hg ⊢; grind)) hX) (by omega) rfl ?_;intro v7 G7 n0 w7 S7 a0 X7 F7;obtain ⟨_, _, rfl⟩ := a0.form;have KS := u0a.refl [gl] w7;refine J0a (kk := 2) S7 O8c rfl (by conv => lhs; whnf) rfl rfl (by exact Nat.le_of_ble_eq_true rfl) ?_;intro o0 b0 e0;replace KS := KS.fresh2 e0 (by first  | exact .inr (by simp));refine lR0 rfl ⟨⟩ (q0a rfl (by conv => lhs; whnf) ?_)
 (have j0 := a0.keep K8a (KS.mono (fun g hg => by simp at hg ⊢; grind)); exact ⟨rfl, G7, n0, _, b0.blk 2 rfl, j0, fun h => by subst h; exact absurd (T3b j0) (by simp), fun g hg => b0.blk 3 (by rw [hg]; rfl), b0.below, fun g hg => (F7 g hg).imp id (fun h => by omega)⟩)
def R5b (p : f0a) (m : Int) (gl : Nat) (M0 : List Nat) (wf : World) (k : Nat) (Bs Ts : List Nat) (w : World) : Prop :=
 ∃ G cs v V, Bs = gl :: G.toList ∧ V.length = k ∧ N3a p m V ∧ p0a w (gl, 30, [v]) ∧ R1a M4a 3 (gl :: (Ts ++ M0)) w G cs v (b2a V) ∧ (G = none → cs = []) ∧ (∀ g, G = some g → p0a w (g, 38, cs)) ∧ ∀ g ∈ G.toList, wf.heap.size ≤ g
theorem M8b (p : f0a) (m : Int) (gS gl : Nat) (M0 : List Nat) (wf : World) (hb : p0a wf (gl, 30, [.slice none 0 0])) : Acc p m gS 26 [.pointer (some ⟨gl, 0, none⟩)] [gl] M0 wf (fun _ => false) (R5b p m gl M0 wf) where
 has := d7c
 start := ⟨none, [], _, [], rfl, rfl, ⟨0, List.nil_prefix⟩, hb, R1a.nil, fun _ => rfl, fun g hg => (by cases hg), fun g hg => by simp at hg⟩
 own := by
  rintro k Bs Ts e0 w w' ⟨G, cs, v, V, rfl, h1, h2, h3, h4, h5, h6, h7⟩ hT d0 hk;refine ⟨G, cs, v, V, rfl, h1, h2, o1a hk (fun hh => (hT gl hh).1 (by simp)) h3, h4.grow K8a hk (fun g hg => by simp [hg]) (fun g hg => ?_), h5, fun g hg => o1a hk (fun hh => (hT g hh).1 (by simp [hg])) (h6 g hg), h7⟩;simp only [List.mem_cons, List.mem_append] at hg ⊢;rcases hg with rfl | hg | hg
  ·simp
  ·rcases d0 g hg with h | h
   ·simp [h]
   ·exact .inr h
  ·simp [hg]
 lt := by
  rintro k Bs Ts w ⟨G, cs, v, V, rfl, h1, h2, h3, h4, h5, h6, h7⟩ g hg;simp only [List.mem_cons, Option.mem_toList] at hg;rcases hg with rfl | hg
  ·exact h3.lt
  ·exact (h6 g hg).lt
 call := by
  rintro k Bs Ts w V y ys ⟨G, cs, v, V', rfl, h1, h2, h3, h4, h5, h6, h7⟩ hT hv hl hy hX hw hk;have hV : V = V' ++ [y] := by
   obtain ⟨t, ht⟩ := h2.cmp hv (by omega);have a0 : t.length = 1 := by have := congrArg List.length ht; simp at this; omega
   obtain ⟨_, rfl⟩ := List.length_eq_one_iff.1 a0;subst ht;rw [List.getElem?_append_right (by omega), h1, Nat.sub_self] at hy;simp at hy; rw [hy]
  have e1 : b2a V = b2a V' ++ [y.conf] := by rw [hV]; simp [b2a]
  refine (U7b gl (Ts ++ M0) w G cs v (b2a V') y.conf ys h3 h4 h5 h6 (hX.less (fun g hg => by simp only [List.mem_cons, List.mem_append] at hg ⊢; grind)) (by simp [b2a]; omega)).mono fun r w' hr => ?_;obtain ⟨rfl, G', b0, v', q1, q2, q3, q4, q5, q6⟩ := hr;refine ⟨rfl, gl :: G'.toList, ⟨G', b0, v', V, rfl, hl, hv, q1, by rw [e1]; exact q2, q3, q4, fun g hg => ?_⟩, q5, fun g hg => ?_⟩
  ·rcases q6 g hg with h | h
   ·exact h7 g h
   ·omega
  ·rcases List.mem_cons.1 hg with rfl | hg
   ·exact .inl (by simp)
   ·rcases q6 g hg with h | h
    ·exact .inl (by simp [h])
    ·exact .inr h
theorem R5b.rd {p : f0a} {m : Int} {gl k : Nat} {M0 Bs Ts : List Nat} {wf w : World} (h : R5b p m gl M0 wf k Bs Ts w) (hT : ∀ g ∈ Ts, g ∉ Bs) (hM : ∀ g ∈ M0, g < wf.heap.size) (hk : k ≤ 100000) :
 ∃ v V, V.length = k ∧ N3a p m V ∧ p0a w (gl, 30, [v]) ∧ RdS M0 w 3 (M4a M0 w) v (b2a V) := by
 obtain ⟨G, cs, v, V, rfl, h1, h2, h3, h4, h5, h6, h7⟩ := h;refine ⟨v, V, h1, h2, h3, ?_⟩;have S : St (gl :: G.toList) w w [(G, 38, cs)] := (St.base _ w).pushO h5 h6 (fun g hg => by rw [hg]; simp) (fun g hg b hb => by simp at hb);exact RdS.lessW (h4.rdG S (k := 0) rfl (fun g hg hh => by
  simp only [List.mem_cons, List.mem_append] at hh;rcases hh with rfl | hh | hh
  ·exact t5a (h6 g hg) h3 (by decide) rfl
  ·exact hT g hh (by simp [hg])
  ·have := hM g hh; have := h7 g (by simp [hg]); omega) (by simp [b2a]; omega)) (fun g hg => by simp [hg]) (fun _ _ h => w0a.less (fun g hg => by simp [hg]) h)
theorem I4a (p : f0a) (m : Int) (hm : m = 0 ∨ m = 1 ∨ m = 2) (n : Nat) (h1 : 1 ≤ n) (h2 : n ≤ 20000) (M : List Nat) (w0 : World) (cs : List Value) (hI : InP p M w0 cs) :
 K0a Tryz.prog 8 #[.agg cs.toArray, .int .i64 m, .int .i64 n] w0 fun r w' => (∃ v l e0, r = .tuple #[v, .int .i64 e0] ∧ RdS M w' 3 (M4a M w') v l ∧ L5b p m n l e0) ∧ Below w0.heap.size w0 w' := by
 obtain ⟨_, _, _, _, _, _, _, _, _, _, _, _, rfl, _, _, _, _, _, _, _, _, _, _, _, _⟩ := hI.rd.open_;have S := St.refl w0;have s0 : L2a m n = true := by rcases hm with rfl | rfl | rfl <;> (simp [L2a]; omega)
 refine a0a Tryz.func8 rfl Tryz.ntmps8 rfl ?_;refine wO0 rfl ⟨⟩ (j0a S (by conv => lhs; whnf) rfl ?_);intro g3 w3 S3 X3 G3;refine lO S3.k [.w 0] rfl ⟨⟨rfl,by rfl⟩,⟨⟩⟩ (g0a S3 a8b rfl rfl (s0 ▸ Z7a p m n M _ _ (hI.keep (S3.keep0 M))) ?_);intro A0 p0 u0;refine lO0 rfl ⟨⟩ (n0a p0 b9c rfl rfl ?_);intro g8 w8 S8 X8 G8;refine lO S8.k [.w 1] rfl ⟨⟨rfl,by rfl⟩,⟨⟩⟩ (h1a S2c (vs := [(0, .agg _), (1, .int .i64 _)]) (cs := [_, _, _, _, _, _]) rfl rfl rfl rfl ?_);refine j0a S8 (by conv => lhs; whnf) rfl ?_;intro d0 b0 a0 v0 t0;refine lO0 rfl ⟨⟩ (D1a rfl rfl ?_);have z8 : w0.heap.size ≤ g8 ∧ g8 < b0.heap.size := ⟨by simpa using a0.new 1 rfl, a0.lt 1 rfl⟩;have B0 : w0.heap.size ≤ d0 ∧ d0 < b0.heap.size := ⟨by simpa using a0.new 0 rfl, a0.lt 0 rfl⟩;have i0 : InP p (d0 :: ([g8] ++ M)) b0 _ := InP.grow (Bs0 := []) (M0 := M) hI (a0.keep0 []) (fun g hg => by
  simp only [List.cons_append, List.nil_append, List.mem_cons] at hg ⊢;rcases hg with rfl | rfl | hg
  ·right; omega
  ·right; omega
  ·exact .inl hg) (fun g hg => by
  simp only [List.cons_append, List.nil_append, List.mem_cons] at hg;have := a0.size;rcases hg with rfl | rfl | hg
  ·omega
  ·omega
  ·have := hI.lt g hg; omega)
 have g0 : d0 ∉ [g8] := fun hh => t5a (a0.blk 0 rfl) (a0.blk 1 rfl) (by decide) (List.mem_singleton.1 hh);obtain ⟨wb, y0⟩ : ∃ wb, wb = b0 := ⟨_, rfl⟩;have j0 := M8b p m d0 g8 M b0 (a0.blk 1 rfl);refine y4a r2c rfl rfl rfl (X5b p m hm n d0 (by omega) _ _ _ _ 26 [.pointer (some ⟨g8, 0, none⟩)] [g8] M b0 (fun _ => false) (R5b p m g8 M b0) i0 (a0.blk 0 rfl) g0 j0) ?_;rintro z0 n0 ⟨⟨_, e0, rfl, hF⟩, h0⟩;have f0 := (a0.tail.tail).keepsW h0 (fun g hg x0 => by simp at hg; omega) (fun b hb g hg hh => by
  have o0 := (a0.own b (List.mem_cons_of_mem _ (List.mem_cons_of_mem _ hb)) g hg).2;simp only [List.mem_cons, List.not_mem_nil, or_false] at hh hb;subst hb;rcases hh with rfl | rfl
  ·exact t5a o0 (a0.blk 0 rfl) (by decide) rfl
  ·exact t5a o0 (a0.blk 1 rfl) (by decide) rfl)
 refine lB0 rfl ⟨⟩ (fun r0 => ?_) fun r0 => ?_
 ·refine lR0 rfl ⟨⟩ (i3b rfl (by conv => lhs; whnf) (by conv => lhs; whnf) ?_);refine ⟨⟨_, [], _, rfl, u4a, .inr ⟨?_, rfl, ?_⟩⟩, f0.fin⟩
  ·omega
  ·rcases hF with ⟨he, _⟩ | ⟨_, V, q1, q2, _⟩ | ⟨he, _⟩
   ·omega
   ·exact ⟨V, q1, q2⟩
   ·omega
 refine lO0 rfl ⟨⟩ ?_;obtain ⟨k, v, q1, q2, q3, q4, rfl⟩ : ∃ k v, (M2a p m k).length ≤ k ∧ (M2a p m k).length ≤ n ∧ p0a n0 (g8, 30, [v]) ∧ RdS M n0 3 (M4a M n0) v (b2a (M2a p m k)) ∧ e0 = 4 := by
  rcases hF with ⟨_, _, _, _, _, _, _, _, _, _, _, ⟨y, _, hy⟩, _⟩ | ⟨he, _⟩ | ⟨he, k, Bs, Ts, q1, q2, q3, q4, q5⟩
  ·cases hy
  ·omega
  ·obtain ⟨v, V, r1, r2, r3, r4⟩ := q5.rd (fun g hg => (q4.ok g hg).1) (fun g hg => by have := hI.lt g hg; have := f0.size; omega) (by omega);obtain rfl := List.IsPrefix.eq_of_length (r2.done q1) r1;exact ⟨k, v, q1, q2, r3, r4, he⟩
 obtain ⟨_, _, _, rfl⟩ := q4.form;have q0 := q3.cell (o := 0) rfl;refine r0a y8b rfl (by exact q0) rfl ?_;exact lT2 rfl ⟨⟩ rfl ⟨⟨_, _, _, rfl, q4, .inl ⟨rfl, k, q1, q2, rfl⟩⟩, f0.fin⟩
theorem t4b (p : f0a) (m : Int) (n : Int) (b0 : L2a m n = false) (M : List Nat) (w0 : World) (cs : List Value) (hI : InP p M w0 cs) :
 K0a Tryz.prog 8 #[.agg cs.toArray, .int .i64 m, .int .i64 n] w0 fun r w' => r = .tuple #[.slice none 0 0, .int .i64 1] ∧ Below w0.heap.size w0 w' := by
 obtain ⟨_, _, _, _, _, _, _, _, _, _, _, _, rfl, _, _, _, _, _, _, _, _, _, _, _, _⟩ := hI.rd.open_;have S := St.refl w0;refine a0a Tryz.func8 rfl Tryz.ntmps8 rfl ?_;refine wO0 rfl ⟨⟩ (j0a S (by conv => lhs; whnf) rfl ?_);intro g3 w3 S3 X3 G3;refine lO S3.k [.w 0] rfl ⟨⟨rfl,by rfl⟩,⟨⟩⟩ (g0a S3 a8b rfl rfl (b0 ▸ Z7a p m n M _ _ (hI.keep (S3.keep0 M))) ?_);intro e0 a0 d0;exact lT2 rfl ⟨⟩ rfl ⟨rfl, a0.fin⟩
def Raw (size : Nat) (cs x : List Value) : Prop := cs = x ∧ x.length = size ∧ ∀ u ∈ x, u.oneCell' = true
theorem U5c (size : Nat) : d5a (fun (_ : List Nat) (_ : World) => Raw size) size where
 len h := by rw [h.1]; exact h.2.1
 one h u hu := by rw [h.1] at hu; exact h.2.2 u hu
 keep _ h := h
 more _ h := h
abbrev g5b (size : Nat) (w0 : World) (G : Option Nat) (cs : List Value) (v : Value) (css : List (List Value)) : Prop := R1a (fun _ _ => Raw size) size [] w0 G cs v css
section
variable {size : Nat}
theorem c6b {u : Value} : ∀ (css : List (List Value)) (i j : Nat) (c : List Value), (∀ x ∈ css, x.length = size) → css[i]? = some c → j < size → css.flatten.set (i * size + j) u = (css.set i (c.set j u)).flatten
 | [], i, j, c, _, hi, _ => by simp at hi
 | x :: css, 0, j, c, hl, hi, hj => by
   simp at hi; subst hi;have hx := hl x (by simp);rw [List.flatten_cons, Nat.zero_mul, Nat.zero_add, List.set_append_left _ _ (by omega)];simp
 | x :: css, i + 1, j, c, hl, hi, hj => by
   have hx := hl x (by simp);have := c6b (u := u) css i j c (fun y hy => hl y (by simp [hy])) (by simpa using hi) hj;rw [List.flatten_cons, List.set_append_right _ _ (by rw [Nat.add_mul]; omega), List.set_cons_succ, List.flatten_cons, ← this]
   congr 2
   rw [Nat.add_mul]; omega
theorem P8a : ∀ (us : List Value) (css : List (List Value)) (i j : Nat) (c : List Value), (∀ x ∈ css, x.length = size) → css[i]? = some c → j + us.length ≤ size → m0a css.flatten (i * size + j) us = (css.set i (m0a c j us)).flatten
 | [], css, i, j, c, _, hi, _ => by rw [m0a, m0a, a6b hi]
 | u :: us, css, i, j, c, hl, hi, hj => by
   have b0 := (List.getElem?_eq_some_iff.1 hi).1;have a0 := hl c (List.mem_of_getElem? hi);simp only [List.length_cons] at hj;rw [m0a, c6b css i j c hl hi (by omega), show i * size + j + 1 = i * size + (j + 1) by omega];rw [P8a us (css.set i (c.set j u)) i (j + 1) (c.set j u) (fun x hx => by
    rcases List.mem_or_eq_of_mem_set hx with h | h
    ·exact hl x h
    ·rw [h, List.length_set]; exact a0) (by rw [List.getElem?_set_self b0]) (by omega)]
   rw [List.set_set, m0a]
theorem p8a : ∀ (us cs : List Value) (o n : Nat), (m0a cs o us).take n = m0a (cs.take n) o us
 | [], _, _, _ => rfl
 | u :: us, cs, o, n => by rw [m0a, p8a us, m0a, List.take_set]
theorem z0b : ∀ (us cs : List Value) (o : Nat), (∀ u ∈ cs, u.oneCell' = true) → (∀ u ∈ us, u.oneCell' = true) → ∀ u ∈ m0a cs o us, u.oneCell' = true
 | [], _, _, h, _ => h
 | v :: us, cs, o, h, h2 => by
   rw [m0a];refine z0b us _ _ (fun u hu => ?_) (fun u hu => h2 u (by simp [hu]));rcases List.mem_or_eq_of_mem_set hu with hu | rfl
   ·exact h u hu
   ·exact h2 u (by simp)
theorem g5b.put {w0 : World} {G : Option Nat} {cs us c : List Value} {v : Value} {css : List (List Value)} {i j o : Nat} (h : g5b size w0 G cs v css) (hi : css[i]? = some c) (ho : o = i * size + j) (hj : j + us.length ≤ size) (h1 : ∀ u ∈ us, u.oneCell' = true) : g5b size w0 G (m0a cs o us) v (css.set i (m0a c j us)) := by
 subst ho;obtain ⟨xs, _, q2, ⟨_, hr⟩, q4⟩ := h;have hx : xs = css := by
  refine List.ext_getElem? fun k => ?_;cases hk : css[k]? with
  | none => rw [List.getElem?_eq_none_iff] at hk ⊢; omega
  | some x => obtain ⟨y, h5, h6⟩ := q4 k x hk; rw [h5, h6.1]
 subst hx;have g0 := (List.getElem?_eq_some_iff.1 hi).1;have e0 : ∀ u ∈ c, u.oneCell' = true := by
  obtain ⟨y, h5, h6⟩ := q4 i c hi;exact h6.2.2
 have d0 := q2 c (List.mem_of_getElem? hi);have f0 : (m0a c j us).length = size := by rw [Y3a]; exact d0
 have a0 : ∀ x ∈ xs.set i (m0a c j us), x.length = size := fun x hx => by
  rcases List.mem_or_eq_of_mem_set hx with h | rfl
  ·exact q2 x h
  ·exact f0
 refine ⟨xs.set i (m0a c j us), rfl, a0, ⟨?_, ?_⟩, fun k x hk => ?_⟩
 ·rw [z3a _ a0]
 ·rcases hr with ⟨rfl, rfl, h0⟩ | ⟨g, b0, rfl, rfl, r1, r2, r3, r4⟩
  ·omega
  ·refine .inr ⟨g, b0, rfl, by rw [List.length_set], by rw [List.length_set]; exact r1, r2, by rw [Y3a]; exact r3, ?_⟩;rw [p8a, List.length_set, r4, P8a us xs i j c q2 hi hj]
 ·refine ⟨x, hk, rfl, ?_, ?_⟩
  ·exact a0 x (List.mem_of_getElem? hk)
  ·rcases List.mem_or_eq_of_mem_set (List.mem_of_getElem? hk) with h | rfl
   ·obtain ⟨n, hn⟩ := List.getElem?_of_mem h;obtain ⟨y, h5, h6⟩ := q4 n x hn;exact h6.2.2
   ·exact z0b us c j e0 h1
theorem g5b.len {w0 : World} {G : Option Nat} {cs : List Value} {A : Option Addr} {n c : Nat} {css : List (List Value)} (h : g5b size w0 G cs (.slice A n c) css) : n = css.length := by
 obtain ⟨_, _, he⟩ := h.form;simp only [Value.slice.injEq] at he;exact he.2.1
theorem g5b.at {w0 : World} {G : Option Nat} {cs : List Value} {A : Option Addr} {n c : Nat} {css : List (List Value)} (h : g5b size w0 G cs (.slice A n c) css) (h0 : 0 < n) : ∃ g, G = some g ∧ A = some ⟨g, 0, none⟩ := by
 have hn := h.len;obtain ⟨_, _, _, ⟨_, hr⟩, _⟩ := h;rcases hr with ⟨rfl, he, h5⟩ | ⟨g, a0, rfl, he, -⟩
 ·omega
 ·simp only [Value.slice.injEq] at he;exact ⟨g, rfl, he.1⟩
theorem g5b.cap {w0 : World} {G : Option Nat} {cs : List Value} {v : Value} {css : List (List Value)} (h : g5b size w0 G cs v css) : css.length * size ≤ cs.length ∨ css = [] := by
 obtain ⟨_, _, _, ⟨_, hr⟩, _⟩ := h;rcases hr with ⟨rfl, he, h5⟩ | ⟨g, a0, rfl, he, r1, r2, r3, r4⟩
 ·exact .inr (List.length_eq_zero_iff.1 h5)
 ·left; rw [r3]; exact Nat.mul_le_mul_right _ r1
theorem g5b.rd {α : Type} {R : List Value → α → Prop} {M M' : List Nat} {w0 w : World} {L : List Ent} {k el : Nat} {G : Option Nat} {cs : List Value} {v : Value} {css : List (List Value)} {l : List α} (h : g5b size w0 G cs v css) (S : St M' w0 w L) (hk : L[k]? = some (G, el, cs)) (hM : ∀ g, G = some g → g ∉ M) (hl : l.length ≤ 1000000) (b0 : css.length = l.length)
 (he : ∀ (i : Nat) (x : α), l[i]? = some x → ∃ c, css[i]? = some c ∧ R c x) : RdS M w size R v l := by
 obtain ⟨A, n, c, rfl, _, h2, h3, h4, h5⟩ := R1a.rd (M := M) (U5c size) (w := w) (show R1a (fun _ _ => Raw size) size M w G cs v css from h) S hk hM (by omega);refine ⟨A, n, c, rfl, by omega, h2, h3, h4, fun hp => ?_⟩;obtain ⟨b, o, hA, hb, a0⟩ := h5 hp;refine ⟨b, o, hA, hb, fun i x hi => ?_⟩;obtain ⟨y, h6, h7⟩ := he i x hi;obtain ⟨z, z1, z2, z3⟩ := a0 i y h6;exact ⟨z, z1, z2, by rw [z3.1]; exact h7⟩
end
theorem n8a : ∀ (us a r : List Value), r.length = us.length → m0a (a ++ r) a.length us = a ++ us
 | [], a, [], _ => rfl
 | [], _, _ :: _, h => by simp at h
 | _ :: _, _, [], h => by simp at h
 | u :: us, a, x :: r, h => by
   have := n8a us (a ++ [u]) r (by simpa using h);rw [m0a, List.set_append_right _ _ (Nat.le_refl _), Nat.sub_self, List.set_cons_zero];simpa using this
theorem R1a.toRaw {α : Type} {R0 : List Value → α → Prop} {size : Nat} {w0 : World} {G : Option Nat} {cs : List Value} {v : Value} {l : List α} (hL : d5a (fun (_ : List Nat) (_ : World) => R0) size) (h : R1a (fun _ _ => R0) size [] w0 G cs v l) :
 ∃ css, g5b size w0 G cs v css ∧ css.length = l.length ∧ ∀ (i : Nat) (x : α), l[i]? = some x → ∃ c, css[i]? = some c ∧ R0 c x := by
 obtain ⟨css, q1, q2, q3, q4⟩ := h;refine ⟨css, ⟨css, rfl, q2, by rw [q1]; exact q3, fun i x hi => ⟨x, hi, rfl, q2 x (List.mem_of_getElem? hi), fun u hu => ?_⟩⟩, q1, q4⟩;have a0 := (List.getElem?_eq_some_iff.1 hi).1;obtain ⟨c, h5, h6⟩ := q4 i _ (List.getElem?_eq_getElem (by omega));obtain rfl : x = c := Option.some.inj (hi.symm.trans h5);exact hL.one (M := []) (w := w0) h6 u hu
theorem g5b.toRow {α : Type} {R0 : List Value → α → Prop} {size : Nat} {w0 : World} {G : Option Nat} {cs : List Value} {v : Value} {css : List (List Value)} {l : List α} (h : g5b size w0 G cs v css) (hl : css.length = l.length) (he : ∀ (i : Nat) (x : α), l[i]? = some x → ∃ c, css[i]? = some c ∧ R0 c x) : R1a (fun _ _ => R0) size [] w0 G cs v l := by
 obtain ⟨xs, _, q2, q3, q4⟩ := h;refine ⟨xs, by omega, q2, by rw [← hl]; exact q3, fun i x hi => ?_⟩;obtain ⟨c, h5, h6⟩ := he i x hi;obtain ⟨c', h7, h8⟩ := q4 i c h5;exact ⟨c', h7, by rw [h8.1]; exact h6⟩
theorem R1a.put {α : Type} {R0 : List Value → α → Prop} {size : Nat} {w0 : World} {G : Option Nat} {cs us : List Value} {v : Value} {l : List α} {i o : Nat} {x y : α} (hL : d5a (fun (_ : List Nat) (_ : World) => R0) size) (h : R1a (fun _ _ => R0) size [] w0 G cs v l) (hi : l[i]? = some x) (ho : o = i * size) (hy : R0 us y) : R1a (fun _ _ => R0) size [] w0 G (m0a cs o us) v (l.set i y) := by
 obtain ⟨_, h1, h2, h3⟩ := h.toRaw hL;obtain ⟨c, h4, h5⟩ := h3 i x hi;have e0 : us.length = size := hL.len (M := []) (w := w0) hy;have d0 : c.length = size := hL.len (M := []) (w := w0) h5;have hp := h1.put h4 (us := us) (j := 0) (o := o) (by omega) (by omega) (hL.one (M := []) (w := w0) hy);rw [show m0a c 0 us = us from n8a us [] c (by omega)] at hp;refine hp.toRow (by simp [h2]) (fun k z hz => ?_);have b0 := (List.getElem?_eq_some_iff.1 h4).1;have a0 := (List.getElem?_eq_some_iff.1 hi).1;by_cases hk : i = k
 ·subst hk;rw [List.getElem?_set_self a0] at hz;obtain rfl := Option.some.inj hz;exact ⟨us, List.getElem?_set_self b0, hy⟩
 ·rw [List.getElem?_set_ne hk] at hz ⊢;exact h3 k z hz
theorem R1a.at {α : Type} {R : List Nat → World → List Value → α → Prop} {size : Nat} {M : List Nat} {w0 : World} {G : Option Nat} {cs : List Value} {A : Option Addr} {n c : Nat} {l : List α} (h : R1a R size M w0 G cs (.slice A n c) l) (h0 : 0 < l.length) : ∃ g, G = some g ∧ A = some ⟨g, 0, none⟩ ∧ l.length * size ≤ cs.length := by
 obtain ⟨_, _, _, ⟨_, hr⟩, _⟩ := h;rcases hr with ⟨rfl, he, h5⟩ | ⟨g, a0, rfl, he, r1, r2, r3, r4⟩
 ·omega
 ·simp only [Value.slice.injEq] at he;exact ⟨g, rfl, he.1, by rw [r3]; exact Nat.mul_le_mul_right _ r1⟩
def G1b {α : Type} (l cur : List α) (i : Nat) : Prop := cur.length = l.length ∧ ∀ q, q < l.length → cur[q]? = if q < i ∨ l.length - i ≤ q then l[l.length - 1 - q]? else l[q]?
theorem G1b.zero {α : Type} {l : List α} : G1b l l 0 := ⟨rfl, fun q hq => by rw [if_neg (by omega)]⟩
theorem G1b.all {α : Type} {l a0 : List α} {i : Nat} (h : G1b l a0 i) (hi : (l.length : Int) - 1 - i ≤ i) : a0 = l.reverse := by
 refine List.ext_getElem? fun q => ?_;by_cases hq : q < l.length
 ·rw [h.2 q hq, List.getElem?_reverse hq]
  split
  ·rfl
  ·rw [show l.length - 1 - q = q by omega]
 ·rw [List.getElem?_eq_none (by rw [h.1]; omega), List.getElem?_eq_none (by simp; omega)]
theorem G1b.next {α : Type} {l a0 : List α} {i j : Nat} {x y : α} (h : G1b l a0 i) (hj : j + 1 + i = l.length) (e0 : i < j) (hx : a0[i]? = some x) (hy : a0[j]? = some y) : G1b l ((a0.set i y).set j x) (i + 1) := by
 refine ⟨by simp [h.1], fun q hq => ?_⟩;have b0 := h.2 i (by omega);have d0 := h.2 j (by omega);rw [if_neg (by omega)] at b0 d0;rw [hx] at b0;rw [hy] at d0;have hl := h.1;by_cases h1 : j = q
 ·subst h1;rw [List.getElem?_set_self (by simp; omega), if_pos (by omega), show l.length - 1 - j = i by omega, b0]
 ·rw [List.getElem?_set_ne h1];by_cases h2 : i = q
  ·subst h2;rw [List.getElem?_set_self (by omega), if_pos (by omega), show l.length - 1 - i = j by omega, d0]
  ·rw [List.getElem?_set_ne h2, h.2 q hq];by_cases h3 : q < i ∨ l.length - i ≤ q
   ·rw [if_pos h3, if_pos (by omega)]
   ·rw [if_neg h3, if_neg (by omega)]
theorem w6b (w0 : World) (G : Option Nat) (cs : List Value) (v : Value) (l : List A0a) (t0 : R1a (fun _ _ => S1a) 3 [] w0 G cs v l) (h0 : G = none → cs = []) (hb : ∀ g, G = some g → p0a w0 (g, 44, cs)) (hl : l.length ≤ 100000) :
 K0a Tryz.prog 43 #[v] w0 fun _ w' => ∃ f0, R1a (fun _ _ => S1a) 3 [] w' G f0 v l.reverse ∧ (∀ g, G = some g → p0a w' (g, 44, f0)) ∧ x0a G.toList w0 w' := by
 have S : St G.toList w0 w0 [(G, 44, cs)] := (St.base _ w0).pushO h0 hb (fun g hg => by rw [hg]; simp) (fun g hg b hb => by simp at hb);obtain ⟨Av, cv, rfl⟩ := t0.form;refine a0a Tryz.func43 rfl Tryz.ntmps43 rfl ?_;refine wC0 rfl ⟨by omega,⟨⟩⟩ (wL (fun μi D ε w => D = [] ∧ ∃ i : Nat, ∃ j : Int, ∃ r0 : List A0a, ∃ f0 : List Value, (i + μi = (l.length)) ∧ (j = (l.length : Int) - 1 - i) ∧ (G1b l r0 i) ∧ (R1a (fun _ _ => S1a) 3 [] w0 G f0 (.slice Av l.length cv) r0) ∧ St G.toList w0 w [(G, 44, f0)] ∧ Sl ε [(0, .slice Av l.length cv), (2, .int .i64 i), (3, .int .i64 j)]) (μ := (l.length)) ⟨rfl, 0, (l.length : Int) - 1, l, cs, by omega, by omega, G1b.zero, t0, S, rfl⟩ ?_);rintro μi D ε w ⟨rfl, i, j, r0, f0, _, _, o0, a0, S, eZ⟩;refine wK eZ (wB0 rfl ⟨⟩ (fun h9 => ?_) fun h9 => ?_)
 ·refine lCn 5 S.k [] rfl ⟨⟩ (wX (fun D ε w => D = [] ∧ ∃ z0 : List Value, ∃ c1 : A0a, ∃ c2 : A0a, (r0[i]? = some c1) ∧ (r0[j.toNat]? = some c2) ∧ (R1a (fun _ _ => S1a) 3 [] w0 G z0 (.slice Av l.length cv) ((r0.set i c2).set j.toNat c1)) ∧ ((i : Int) < j) ∧ St G.toList w0 w [(G, 44, z0)] ∧ Sl ε [(0, .slice Av l.length cv), (2, .int .i64 i), (3, .int .i64 j)]) ?_ ?_)
  ·obtain ⟨q, rfl⟩ : ∃ q : Nat, j = (q : Int) := ⟨j.toNat, by omega⟩;have X0 := o0.1;obtain ⟨g, rfl, rfl, _⟩ := a0.at (by omega);have v0 := R1a.rd (M := []) (w := w) V1a a0 S (k := 0) rfl (fun _ _ => by simp) (by omega);refine wC0 rfl ⟨⟩ (o6c b0a (fun i => [0, 1, 2, 3, 4, 5, 6, 8, 9, 10, 12, 14].contains i) 7 11 [0, 1, 2, 3, 4, 5, 6, 7, 8, 9, 10, 11, 12, 13, 14, 15] [0, 1, 2, 3, 4, 5, 6, 8, 9, 10, 11, 7, 12, 13, 14, 15] (by kernel_rfl) (fun _ => True) ?_ ?_)
   ·have s0 := S.drew;have e0 : u0a [] w w.drew := A2a _ _;generalize w.drew = W0 at s0 e0 ⊢;have N0 : u0a ([g]) _ _ := e0.of_nil;refine H3a trivial rfl rfl rfl ?_;refine d1a (v := .slice _ _ _) rfl rfl ?_;refine d0a ?_;refine H3a trivial rfl rfl rfl ?_;refine d1a (v := .int .i64 _) rfl rfl ?_;refine d0a ?_;refine H3a trivial rfl rfl rfl ?_;refine d1a (v := .slice _ _ _) rfl rfl ?_;refine d0a ?_;refine H3a trivial rfl rfl rfl ?_;refine d1a (v := .int .i64 _) rfl rfl ?_;refine d0a ?_;refine H3a trivial rfl rfl rfl ?_;refine d1a (v := .slice _ _ _) rfl rfl ?_;refine d0a ?_;refine H3a trivial rfl rfl rfl ?_;refine d1a (v := .int .i64 _) rfl rfl ?_;refine d0a ?_;refine H3a trivial rfl rfl rfl ?_;obtain ⟨y, O0, S0, Q0, q0, g0, A0, C0, j0, b0⟩ := RdS.get (v0) (q) (by omega);obtain ⟨rfl, E0, G0, I0⟩ := id b0;refine k0a t3a.slT rfl (by rfl) rfl (by omega) (by omega) rfl ?_;refine d0a ?_;refine d6b trivial rfl rfl rfl ?_;cases g0;refine t1a R5a rfl (j0.keep e0 List.not_mem_nil) rfl rfl ?_;refine R0a ⟨rfl, ?_⟩;refine H3a trivial rfl rfl rfl ?_;refine d1a (v := .slice _ _ _) rfl rfl ?_;refine d0a ?_;refine H3a trivial rfl rfl rfl ?_;refine d1a (v := .int .i64 _) rfl rfl ?_;refine d0a ?_;refine H3a trivial rfl rfl rfl ?_;obtain ⟨x, P0, T0, R0, p0, i0, B0, D0, n0, d0⟩ := RdS.get (v0) (i) (by omega);obtain ⟨rfl, F0, H0, J0⟩ := id d0;refine k0a t3a.slT rfl (by rfl) rfl (by omega) (by omega) rfl ?_;refine d0a ?_;refine d6b trivial rfl rfl rfl ?_;cases i0;refine t1a R5a rfl (n0.keep e0 List.not_mem_nil) rfl rfl ?_;refine R0a ⟨rfl, ?_⟩;refine H3a trivial rfl rfl rfl ?_;refine k0a t3a.slT rfl (by rfl) rfl (by omega) (by omega) rfl ?_;refine d0a ?_;refine d6b trivial rfl rfl rfl ?_;refine e0a (kk := 0) (vs := [.int .i64 y.thread, .int .i64 y.step, .int .i64 y.cell]) s0 D3b rfl rfl rfl rfl rfl rfl (by rw [Nat.ble_eq]; omega) ?_;intro U0 x0 K0;refine R0a ⟨rfl, ?_⟩;refine H3a trivial rfl rfl rfl ?_;refine k0a t3a.slT rfl (by rfl) rfl (by omega) (by omega) rfl ?_;refine d0a ?_;refine d6b trivial rfl rfl rfl ?_;refine e0a (kk := 0) (vs := [.int .i64 x.thread, .int .i64 x.step, .int .i64 x.cell]) x0 D3b rfl rfl rfl rfl rfl rfl (by rw [Nat.ble_eq]; simp only [Y3a]; omega) ?_;intro V0 y0 L0;refine R0a ⟨rfl, ?_⟩;refine i5b trivial ?_;refine fP0 rfl ⟨⟩ ⟨rfl, (_), (x), (y), (p0), ((by simpa using q0)), ?_, (h9), y0, rfl⟩;exact R1a.put V1a (R1a.put V1a a0 p0 (by simp) b0) (y := x) (x := y) (by simpa [List.getElem?_set_ne (show i ≠ q by omega)] using q0) (by simp) d0
   have s0 := S.drew;have e0 : u0a [] w w.drew := A2a _ _;generalize w.drew = W0 at s0 e0 ⊢;have N0 : u0a ([g]) _ _ := e0.of_nil;refine H3a trivial rfl rfl rfl ?_;refine d1a (v := .slice _ _ _) rfl rfl ?_;refine d0a ?_;refine H3a trivial rfl rfl rfl ?_;refine d1a (v := .int .i64 _) rfl rfl ?_;refine d0a ?_;refine H3a trivial rfl rfl rfl ?_;refine d1a (v := .slice _ _ _) rfl rfl ?_;refine d0a ?_;refine H3a trivial rfl rfl rfl ?_;refine d1a (v := .int .i64 _) rfl rfl ?_;refine d0a ?_;refine H3a trivial rfl rfl rfl ?_;refine d1a (v := .slice _ _ _) rfl rfl ?_;refine d0a ?_;refine H3a trivial rfl rfl rfl ?_;refine d1a (v := .int .i64 _) rfl rfl ?_;refine d0a ?_;refine H3a trivial rfl rfl rfl ?_;obtain ⟨y, O0, S0, Q0, q0, g0, A0, C0, j0, b0⟩ := RdS.get (v0) (q) (by omega);obtain ⟨rfl, E0, G0, I0⟩ := id b0;refine k0a t3a.slT rfl (by rfl) rfl (by omega) (by omega) rfl ?_;refine d0a ?_;refine H3a trivial rfl rfl rfl ?_;refine d1a (v := .slice _ _ _) rfl rfl ?_;refine d0a ?_;refine H3a trivial rfl rfl rfl ?_;refine d1a (v := .int .i64 _) rfl rfl ?_;refine d0a ?_;refine H3a trivial rfl rfl rfl ?_;obtain ⟨x, P0, T0, R0, p0, i0, B0, D0, n0, d0⟩ := RdS.get (v0) (i) (by omega);obtain ⟨rfl, F0, H0, J0⟩ := id d0;refine k0a t3a.slT rfl (by rfl) rfl (by omega) (by omega) rfl ?_;refine d0a ?_;refine d6b trivial rfl rfl rfl ?_;cases i0;refine t1a R5a rfl (n0.keep e0 List.not_mem_nil) rfl rfl ?_;refine R0a ⟨rfl, ?_⟩;refine d6b trivial rfl rfl rfl ?_;cases g0;refine t1a R5a rfl (j0.keep e0 List.not_mem_nil) rfl rfl ?_;refine R0a ⟨rfl, ?_⟩;refine H3a trivial rfl rfl rfl ?_;refine k0a t3a.slT rfl (by rfl) rfl (by omega) (by omega) rfl ?_;refine d0a ?_;refine d6b trivial rfl rfl rfl ?_;refine e0a (kk := 0) (vs := [.int .i64 y.thread, .int .i64 y.step, .int .i64 y.cell]) s0 D3b rfl rfl rfl rfl rfl rfl (by rw [Nat.ble_eq]; omega) ?_;intro U0 x0 K0;refine R0a ⟨rfl, ?_⟩;refine H3a trivial rfl rfl rfl ?_;refine k0a t3a.slT rfl (by rfl) rfl (by omega) (by omega) rfl ?_;refine d0a ?_;refine d6b trivial rfl rfl rfl ?_;refine e0a (kk := 0) (vs := [.int .i64 x.thread, .int .i64 x.step, .int .i64 x.cell]) x0 D3b rfl rfl rfl rfl rfl rfl (by rw [Nat.ble_eq]; simp only [Y3a]; omega) ?_;intro V0 y0 L0;refine R0a ⟨rfl, ?_⟩;refine i5b trivial ?_;refine fP0 rfl ⟨⟩ ⟨rfl, (_), (x), (y), (p0), ((by simpa using q0)), ?_, (h9), y0, rfl⟩;exact R1a.put V1a (R1a.put V1a a0 p0 (by simp) b0) (y := x) (x := y) (by simpa [List.getElem?_set_ne (show i ≠ q by omega)] using q0) (by simp) d0
  rintro D ε w ⟨rfl, z0, c1, c2, p0, q0, u0, _, S, eZ⟩;refine wK eZ (wP0 rfl ⟨by omega,by omega,⟨⟩⟩ ?_);refine ⟨μi - 1, by omega, rfl, (i + 1), (j - 1), (_), (_), (by omega), (by omega), (o0.next (by omega) (by omega) p0 q0), (u0), S, rfl⟩
 refine lF0 rfl ⟨⟩ (I1a rfl ?_);obtain rfl := o0.all (by omega);exact ⟨f0, a0, fun g hg => S.blk 0 (by rw [hg]; rfl), S.below⟩
structure B3a where
 thread : Int
 point : Int
 expr : E
def L3a (M : List Nat) (w : World) (cs : List Value) (g : B3a) : Prop := ∃ es, cs = .int .i64 g.thread :: .int .i64 g.point :: es ∧ RdE M w g.expr es ∧ i64 g.thread ∧ i64 g.point
theorem L3a.keep {M : List Nat} {w w' : World} {cs : List Value} {g : B3a} (hk : u0a M w w') (h : L3a M w cs g) : L3a M w' cs g := by
 obtain ⟨es, h1, h2, h3⟩ := h;exact ⟨es, h1, RdE.keep hk _ _ h2, h3⟩
theorem L3a.more {M M' : List Nat} {w : World} {cs : List Value} {g : B3a} (hM : ∀ x ∈ M', x ∈ M ∨ w.heap.size ≤ x) (h : L3a M w cs g) : L3a M' w cs g := by
 obtain ⟨es, h1, h2, h3⟩ := h;exact ⟨es, h1, RdE.more hM _ _ h2, h3⟩
def m5a (p : f0a) (g : B3a) : Bool := decide (-1 ≤ g.thread) && (decide (g.thread < p.threads.length) && ((decide (g.thread < 0) || (match p.threads[g.thread.toNat]? with | some th => decide (0 ≤ g.point) && decide (g.point < th.points) | none => true)) && (g.expr.valid p.cells false && g.expr.w == 1)))
theorem o4b {p : f0a} {g : B3a} (h : g.thread < -1 ∨ (p.threads.length : Int) ≤ g.thread) : m5a p g = false := by
 unfold m5a;rcases h with h | h
 ·rw [decide_eq_false (by omega)]; rfl
 ·rw [decide_eq_false (p := g.thread < p.threads.length) (by omega)]; simp
theorem H7b {p : f0a} {g : B3a} {th : Q0a} (h0 : 0 ≤ g.thread) (a0 : p.threads[g.thread.toNat]? = some th) (h : g.point < 0 ∨ th.points ≤ g.point) : m5a p g = false := by
 unfold m5a;simp only [a0];rw [decide_eq_false (p := g.thread < 0) (by omega)];rcases h with h | h
 ·rw [decide_eq_false (p := 0 ≤ g.point) (by omega)]; simp
 ·rw [decide_eq_false (p := g.point < th.points) (by omega)]; simp
theorem v4c {p : f0a} {g : B3a} (h0 : 0 ≤ g.thread) (h2 : g.thread < p.threads.length) (h : g.point < 0) : m5a p g = false :=
 H7b h0 (List.getElem?_eq_getElem (by omega)) (.inl h)
theorem d1b {p : f0a} {g : B3a} (h1 : -1 ≤ g.thread) (h2 : g.thread < p.threads.length) (h0 : g.thread < 0) : m5a p g = (g.expr.valid p.cells false && g.expr.w == 1) := by
 unfold m5a;rw [decide_eq_true h1, decide_eq_true h2, decide_eq_true h0]; simp
theorem N1b {p : f0a} {g : B3a} {th : Q0a} (h0 : 0 ≤ g.thread) (h2 : g.thread < p.threads.length) (a0 : p.threads[g.thread.toNat]? = some th) (h3 : 0 ≤ g.point) (h4 : g.point < th.points) : m5a p g = (g.expr.valid p.cells false && g.expr.w == 1) := by
 unfold m5a;simp only [a0];rw [decide_eq_true (p := -1 ≤ g.thread) (by omega), decide_eq_true h2, decide_eq_true h3, decide_eq_true h4]; simp
def E2a (c : s0a) (g : B3a) : Bool := c.buf.all List.isEmpty && ((decide (g.thread < 0) || (match c.at_[g.thread.toNat]? with | some n => n == g.point | none => true)) && g.expr.evl c.mem c.mem == 1)
theorem D8b (c : s0a) : dec (V3a c) = c.buf.all List.isEmpty := by
 unfold dec;rw [Bool.eq_iff_iff, @decide_eq_true_iff _ (Classical.propDecidable _)];simp [V3a]
theorem k3b {a b : Int} (h : a = b) : (a == b) = true := by simp [h]
theorem d0b {a b : Int} (h : a ≠ b) : (a == b) = false := by simp [h]
theorem w5c {c : s0a} {g : B3a} (h : c.buf.all List.isEmpty = false) : E2a c g = false := by unfold E2a; rw [h]; rfl
theorem K0c {c : s0a} {g : B3a} {n : Int} (h0 : 0 ≤ g.thread) (hn : c.at_[g.thread.toNat]? = some n) (a0 : n ≠ g.point) : E2a c g = false := by
 unfold E2a;simp only [hn];rw [decide_eq_false (p := g.thread < 0) (by omega), beq_eq_false_iff_ne.2 a0]; simp
theorem p3b {c : s0a} {g : B3a} {n : Int} (h : c.buf.all List.isEmpty = true) (hn : c.at_[g.thread.toNat]? = some n) (a0 : n = g.point) : E2a c g = (g.expr.evl c.mem c.mem == 1) := by
 unfold E2a;simp only [hn];rw [h, a0]; simp
theorem n2b {c : s0a} {g : B3a} (h : c.buf.all List.isEmpty = true) (h0 : g.thread < 0) : E2a c g = (g.expr.evl c.mem c.mem == 1) := by
 unfold E2a;rw [h, decide_eq_true h0]; simp
theorem R8b (p : f0a) (g : B3a) (M : List Nat) (w0 : World) (cs gs : List Value) (hI : InP p M w0 cs) (hG : L3a M w0 gs g) :
 K0a Tryz.prog 40 #[.agg cs.toArray, .agg gs.toArray] w0 fun v w' => v = .bool (m5a p g) ∧ Below w0.heap.size w0 w' := by
 obtain ⟨_, _, _, _, _, _, _, _, _, _, _, _, rfl, hC, _, _, v0, _, _, _, _, _, _, _, _⟩ := hI.rd.open_;obtain ⟨_, rfl, hE, _, g2⟩ := hG;obtain ⟨_, _, _, rfl, _, _, _, -⟩ := id hE.open_;have S := St.refl w0;refine a0a Tryz.func40 rfl Tryz.ntmps40 rfl ?_;refine wO0 rfl ⟨⟩ (j0a S (by conv => lhs; whnf) rfl ?_);intro g2 w2 S2 X2 G2;refine j0a S2 (by conv => lhs; whnf) rfl ?_;intro g3 w3 S3 X3 G3;refine lB S3.k [.o 0] rfl ⟨rfl,⟨⟩⟩ (fun h7 => ?_) fun h7 => ?_
 ·refine lR0 rfl ⟨⟩ (q0a rfl (by conv => lhs; whnf) ?_);exact ⟨by rw [o4b (by omega)], S3.fin⟩
 refine lB S3.k [.o 0,.o 1] rfl ⟨rfl,rfl,⟨⟩⟩ (fun r0 => ?_) fun r0 => ?_
 ·refine lR0 rfl ⟨⟩ (q0a rfl (by conv => lhs; whnf) ?_);exact ⟨by rw [o4b (by omega)], S3.fin⟩
 refine lC0 rfl ⟨⟩ (C0a b0a [0, 1, 2, 3, 4, 5, 6, 7, 8, 9, 10, 11, 12, 13, 14, 15, 16, 17, 18, 19] [] [] (by kernel_rfl) rfl (Cl _ _ _ _) (Cl.start S3) ?_);refine qB S3.q [.o 0] rfl ⟨rfl,⟨⟩⟩ (fun s0 => ?_) fun s0 => ?_
 ·refine qB S3.q [.o 0] rfl ⟨rfl,⟨⟩⟩ (fun t0 => ?_) fun t0 => ?_
  ·refine qD rfl ⟨⟩ ?_;rintro p0 ⟨a0, g0⟩;refine lR0 rfl ⟨⟩ (q0a rfl (by conv => lhs; whnf) ?_);exact ⟨by rw [v4c (by omega) (by omega) (by omega)], a0.fin⟩
  obtain ⟨_, q0, x0, _, e0, i0, _, _, j0, n0⟩ := RdS.get (v0) (g.thread.toNat) (by omega);obtain ⟨_, _, _, _, _, _, _, _, _, _, _, _, rfl, _, _, _, _, _, _, _, _, _, _, _, _, _⟩ := L0a.open_ n0;refine qB (S3.q.a j0) [.o 0,.o 1,.o 0,.x q0 x0,.f 0 1] rfl ⟨rfl,⟨i0,by omega⟩,rfl,rfl,rfl,⟨⟩⟩ (fun u0 => ?_) fun u0 => ?_
  ·refine qD rfl ⟨⟩ ?_;rintro p0 ⟨a0, g0⟩;refine lR0 rfl ⟨⟩ (q0a rfl (by conv => lhs; whnf) ?_);exact ⟨by rw [H7b (by omega) e0 (by omega)], a0.fin⟩
  refine qD rfl ⟨⟩ ?_;rintro p0 ⟨a0, g0⟩;refine lO a0.k [.o 0,.o 1] rfl ⟨rfl,rfl,⟨⟩⟩ (z0a a0 n7a rfl rfl (J2a g.expr M _ _ _ p.cells false (RdE.keep (a0.keep0 M) _ _ hE) (hC.keep (a0.keep0 M)) (hI.keep (a0.keep0 M)).msk) (fun d0 o0 b0 f0 => ?_) (fun d0 o0 b0 f0 => ?_))
  ·refine lB b0.k [.o 0] rfl ⟨rfl,⟨⟩⟩ (fun h0 => ?_) fun h0 => ?_
   ·refine lR0 rfl ⟨⟩ (q0a rfl (by conv => lhs; whnf) ?_);exact ⟨by rw [N1b (by omega) (by omega) e0 (by omega) (by omega), d0]; simp_all, b0.fin⟩
   refine lR0 rfl ⟨⟩ (q0a rfl (by conv => lhs; whnf) ?_);exact ⟨by rw [N1b (by omega) (by omega) e0 (by omega) (by omega), d0]; simp_all, b0.fin⟩
  refine lR0 rfl ⟨⟩ (q0a rfl (by conv => lhs; whnf) ?_);exact ⟨by rw [N1b (by omega) (by omega) e0 (by omega) (by omega), d0]; simp_all, b0.fin⟩
 refine qD rfl ⟨⟩ ?_;rintro p0 ⟨a0, g0⟩;refine lO a0.k [.o 0,.o 1] rfl ⟨rfl,rfl,⟨⟩⟩ (z0a a0 n7a rfl rfl (J2a g.expr M _ _ _ p.cells false (RdE.keep (a0.keep0 M) _ _ hE) (hC.keep (a0.keep0 M)) (hI.keep (a0.keep0 M)).msk) (fun d0 o0 b0 f0 => ?_) (fun d0 o0 b0 f0 => ?_))
 ·refine lB b0.k [.o 0] rfl ⟨rfl,⟨⟩⟩ (fun h0 => ?_) fun h0 => ?_
  ·refine lR0 rfl ⟨⟩ (q0a rfl (by conv => lhs; whnf) ?_);exact ⟨by rw [d1b (by omega) (by omega) (by omega), d0]; simp_all, b0.fin⟩
  refine lR0 rfl ⟨⟩ (q0a rfl (by conv => lhs; whnf) ?_);exact ⟨by rw [d1b (by omega) (by omega) (by omega), d0]; simp_all, b0.fin⟩
 refine lR0 rfl ⟨⟩ (q0a rfl (by conv => lhs; whnf) ?_);exact ⟨by rw [d1b (by omega) (by omega) (by omega), d0]; simp_all, b0.fin⟩
theorem w5b (c : s0a) (g : B3a) (M : List Nat) (w0 : World) (xs gs : List Value) (hX : w0a M w0 c xs) (hG : L3a M w0 gs g) (hK : a3a M w0) (v0 : g.thread < c.at_.length) :
 K0a Tryz.prog 42 #[.agg xs.toArray, .agg gs.toArray] w0 fun v w' => v = .bool (E2a c g) ∧ Below w0.heap.size w0 w' := by
 obtain ⟨_, _, _, _, _, _, _, _, _, rfl, b0, s0, _, _, _, _, _, _, _⟩ := id hX.open_;obtain ⟨_, rfl, hE, _, g2⟩ := hG;obtain ⟨_, _, _, rfl, _, _, _, -⟩ := id hE.open_;have S := St.refl w0;refine a0a Tryz.func42 rfl Tryz.ntmps42 rfl ?_;refine wO0 rfl ⟨⟩ (j0a S (by conv => lhs; whnf) rfl ?_);intro g2 w2 S2 X2 G2;refine j0a S2 (by conv => lhs; whnf) rfl ?_;intro g3 w3 S3 X3 G3;refine lC0 rfl ⟨⟩ (C0a b0a [0, 1, 2, 3, 4, 5, 6, 7, 8, 9, 10, 11, 12, 13, 14, 15, 16, 17, 18] [] [] (by kernel_rfl) rfl (Cl _ _ _ _) (Cl.start S3) ?_);refine qO S3.q [.w 1] rfl ⟨⟨rfl,by rfl⟩,⟨⟩⟩ (T1a H6c rfl rfl (fun w1 S1 X1 => D8b c ▸ P0c c M _ _ (hX.keep (S1.keep0 M))) (fun h6 => ?_) fun h6 => ?_)
 ·refine qB S3.q [.o 0] rfl ⟨rfl,⟨⟩⟩ (fun q0 => ?_) fun q0 => ?_
  ·obtain ⟨_, p0, t0, _, j0, g0, _, _, h0, i0⟩ := RdS.get (s0) (g.thread.toNat) (by omega);obtain ⟨rfl, _⟩ := id i0;refine qB (S3.q.a h0) [.o 1,.o 0,.x p0 t0,.f 0 0,.o 0] rfl ⟨rfl,rfl,⟨g0,by omega⟩,rfl,rfl,⟨⟩⟩ (fun r0 => ?_) fun r0 => ?_
   ·refine qD rfl ⟨⟩ ?_;rintro n0 ⟨a0, f0⟩;refine lR0 rfl ⟨⟩ (q0a rfl (by conv => lhs; whnf) ?_);exact ⟨by rw [K0c (by omega) j0 (by omega)], a0.fin⟩
   refine qD rfl ⟨⟩ ?_;rintro n0 ⟨a0, f0⟩;refine lO a0.k [.o 0,.o 1,.o 1] rfl ⟨rfl,rfl,rfl,⟨⟩⟩ (g0a a0 j0b rfl rfl (s7a g.expr M _ _ _ _ c.mem c.mem (RdE.keep (a0.keep0 M) _ _ hE) (hK.keep (a0.keep0 M)) (b0.keep (a0.keep0 M)) (b0.keep (a0.keep0 M))) ?_);intro u0 e0 o0;refine lB0 rfl ⟨⟩ (fun d0 => ?_) fun d0 => ?_
   ·refine lR0 rfl ⟨⟩ (q0a rfl (by conv => lhs; whnf) ?_);exact ⟨by rw [p3b h6 j0 (by omega), k3b d0], e0.fin⟩
   refine lR0 rfl ⟨⟩ (q0a rfl (by conv => lhs; whnf) ?_);exact ⟨by rw [p3b h6 j0 (by omega), d0b d0], e0.fin⟩
  refine qD rfl ⟨⟩ ?_;rintro n0 ⟨a0, f0⟩;refine lO a0.k [.o 0,.o 1,.o 1] rfl ⟨rfl,rfl,rfl,⟨⟩⟩ (g0a a0 j0b rfl rfl (s7a g.expr M _ _ _ _ c.mem c.mem (RdE.keep (a0.keep0 M) _ _ hE) (hK.keep (a0.keep0 M)) (b0.keep (a0.keep0 M)) (b0.keep (a0.keep0 M))) ?_);intro u0 e0 o0;refine lB0 rfl ⟨⟩ (fun d0 => ?_) fun d0 => ?_
  ·refine lR0 rfl ⟨⟩ (q0a rfl (by conv => lhs; whnf) ?_);exact ⟨by rw [n2b h6 (by omega), k3b d0], e0.fin⟩
  refine lR0 rfl ⟨⟩ (q0a rfl (by conv => lhs; whnf) ?_);exact ⟨by rw [n2b h6 (by omega), d0b d0], e0.fin⟩
 refine qD rfl ⟨⟩ ?_;rintro n0 ⟨a0, f0⟩;refine lR0 rfl ⟨⟩ (q0a rfl (by conv => lhs; whnf) ?_);exact ⟨by rw [w5c h6], a0.fin⟩
theorem B8b {w : World} {g t : Nat} {cs : List Value} (h : p0a w (g, t, cs)) : g1a w g 0 cs := fun j v hj => by
 rw [Nat.zero_add]; exact h.cell hj
theorem L3a.less {M M' : List Nat} {w : World} {cs : List Value} {g : B3a} (hM : ∀ x ∈ M', x ∈ M) (h : L3a M w cs g) : L3a M' w cs g := h.more fun x hx => .inl (hM x hx)
theorem S8a {p : f0a} {g : B3a} (h : m5a p g = true) : g.thread < p.threads.length := by
 rcases Int.lt_or_le g.thread p.threads.length with h1 | h1
 ·exact h1
 ·rw [o4b (.inr h1)] at h; cases h
theorem G7a {V : List v2a} (hV : N5a V) : ∀ (n i : Nat), i < n → B4a V n i = B4a V (i + 1) i
 | 0, i, h => absurd h (by omega)
 | n + 1, i, h => by
   show (match V[i]? with | some y => if 0 ≤ y.frm then y.ch :: B4a V n y.frm.toNat else [] | none => []) = (match V[i]? with | some y => if 0 ≤ y.frm then y.ch :: B4a V i y.frm.toNat else [] | none => [])
   rcases hy : V[i]? with _ | y
   ·rfl
   ·simp only
    split
    ·rename_i h0;rcases hV.one i y hy with ⟨_, h1⟩ | ⟨_, h1⟩
     ·omega
     ·rw [G7a hV n _ (by omega), G7a hV i _ (by omega)]
    ·rfl
termination_by n => n
theorem C6b {V : List v2a} (hV : N5a V) {i : Nat} {y : v2a} (hy : V[i]? = some y) (h0 : 0 ≤ y.frm) : B4a V (i + 1) i = y.ch :: B4a V (y.frm.toNat + 1) y.frm.toNat := by
 show (match V[i]? with | some y => if 0 ≤ y.frm then y.ch :: B4a V i y.frm.toNat else [] | none => []) = _
 rw [hy]; simp only; rw [if_pos h0];rcases hV.one i y hy with ⟨_, h1⟩ | ⟨_, h1⟩
 ·omega
 ·rw [G7a hV i _ (by omega)]
theorem T7b {V : List v2a} {i : Nat} {y : v2a} (hy : V[i]? = some y) (h0 : ¬ 0 ≤ y.frm) : B4a V (i + 1) i = [] := by
 show (match V[i]? with | some y => if 0 ≤ y.frm then y.ch :: B4a V i y.frm.toNat else [] | none => []) = _
 rw [hy]; simp only; rw [if_neg h0]
theorem g9a {w0 w1 w2 : World} (h : Below w0.heap.size w0 w1) (k : Below w1.heap.size w1 w2) : Below w0.heap.size w0 w2 := ((x0a.of (M := []) h).trans (x0a.of k)).nil
theorem z1c (c : s0a) (g : B3a) (gg : Nat) (M : List Nat) (w0 : World) (xs gs : List Value) (hX : w0a M w0 c xs) (hb : p0a w0 (gg, 55, gs)) (hG : L3a M w0 gs g) (hK : a3a M w0) (a0 : g.thread < c.at_.length) :
 K0a Tryz.prog 41 #[.agg xs.toArray, .pointer (some ⟨gg, 0, none⟩)] w0 fun v w' => v = .bool (E2a c g) ∧ Below w0.heap.size w0 w' := by
 obtain ⟨_, _, _, _, _, _, _, _, _, rfl, -⟩ := id hX.open_;obtain ⟨_, rfl, hE, _, g2⟩ := id hG;obtain ⟨_, _, _, rfl, _, _, _, -⟩ := id hE.open_;have b0 := B8b hb;have S := St.refl w0;refine a0a Tryz.func41 rfl Tryz.ntmps41 rfl ?_;refine wO0 rfl ⟨⟩ (j0a S (by conv => lhs; whnf) rfl ?_);intro g2 w2 S2 X2 G2;refine lO S2.k [.w 0] rfl ⟨⟨rfl,by rfl⟩,⟨⟩⟩ (t1a Q3b rfl (b0.keep (S2.keep0 []) (by simp)) (by rfl) rfl ?_);refine g0a S2 p2c rfl rfl (w5b c g M _ _ _ (hX.keep (S2.keep0 M)) (hG.keep (S2.keep0 M)) (hK.keep (S2.keep0 M)) a0) ?_;intro w6 S6 X6;exact lT rfl ⟨⟩ rfl ⟨rfl, S6.fin⟩
theorem u1c (p : f0a) (m : Int) (g : B3a) (gS gg : Nat) (M0 : List Nat) (wf : World) (cs gs : List Value) (hI : InP p (gS :: M0) wf cs) (hb : p0a wf (gg, 55, gs)) (hG : L3a (gS :: M0) wf gs g) (d0 : gg ≠ gS) (e0 : g.thread < p.threads.length) :
 Acc p m gS 41 [.pointer (some ⟨gg, 0, none⟩)] [] M0 wf (fun c => E2a c g) (fun _ Bs _ w => Bs = [] ∧ u0a [gS] wf w) where
 has := Y7c
 start := ⟨rfl, u0a.refl _ _⟩
 own := by
  rintro k Bs Ts f0 w w' ⟨rfl, hk⟩ hT g0 b0;refine ⟨rfl, Nat.le_trans hk.size b0.size, fun i hi hn => ?_⟩;rw [b0.same i (Nat.lt_of_lt_of_le hi hk.size) (fun hh => by
   rcases (hT i hh).2 with rfl | h
   ·exact hn (by simp)
   ·omega)]
  exact hk.same i hi hn
 lt := by
  rintro k Bs Ts w ⟨rfl, hk⟩ x hx;cases hx
 call := by
  rintro k Bs Ts w V y ys ⟨rfl, hk⟩ hT hv hl hy hX hw h0;have hf : b4a p y.conf := R4a hI.ok (C9a hv (List.mem_of_getElem? hy));have a0 : u0a (gS :: M0) wf w := hk.mono (by simp);refine (z1c y.conf g gg M0 w ys gs (hX.less (fun x hx => by simp [hx])) (o1a hk (by simpa using d0) hb) ((hG.keep a0).less (fun x hx => by simp [hx])) ⟨fun hh => (hI.keep a0).msk.1 (List.mem_cons_of_mem _ hh), (hI.keep a0).msk.2⟩ (by rw [hf.nat]; exact e0)).mono fun r w' hr => ?_;obtain ⟨rfl, hB⟩ := hr;exact ⟨rfl, [], ⟨rfl, hk.trans (u0a.of_below hB).of_nil⟩, x0a.of hB, fun x hx => (by cases hx)⟩
theorem N1a (p : f0a) (m : Int) (hm : m = 0 ∨ m = 1 ∨ m = 2) (n : Nat) (h1 : 1 ≤ n) (h2 : n ≤ 20000) (g : B3a) (M : List Nat) (w0 : World) (cs gs : List Value) (hI : InP p M w0 cs) (hG : L3a M w0 gs g) :
 K0a Tryz.prog 16 #[.agg cs.toArray, .int .i64 m, .agg gs.toArray, .int .i64 n] w0 fun r w' => (∃ v l y0, r = .tuple #[v, .int .i64 y0] ∧ B7b M w' v l ∧ P9b p m (m5a p g) (fun c => E2a c g) n l y0) ∧ Below w0.heap.size w0 w' := by
 obtain ⟨_, _, _, _, _, _, _, _, _, _, _, _, rfl, _, _, _, _, _, _, _, _, _, _, _, _⟩ := hI.rd.open_;obtain ⟨_, rfl, hE, _, _⟩ := id hG;obtain ⟨_, _, _, rfl, _, _, _, -⟩ := id hE.open_;have S := St.refl w0;have v1 : L2a m n = true := by rcases hm with rfl | rfl | rfl <;> (simp [L2a]; omega)
 refine a0a Tryz.func16 rfl Tryz.ntmps16 rfl ?_;refine wO0 rfl ⟨⟩ (j0a S (by conv => lhs; whnf) rfl ?_);intro g4 w4 S4 X4 G4;refine j0a S4 (by conv => lhs; whnf) rfl ?_;intro g6 w6 S6 X6 G6;refine lO S6.k [.w 1] rfl ⟨⟨rfl,by rfl⟩,⟨⟩⟩ (g0a S6 a8b rfl rfl (v1 ▸ Z7a p m n M _ _ (hI.keep (S6.keep0 M))) ?_);intro P1 u0 G1;refine lO u0.k [.w 1,.w 0] rfl ⟨⟨rfl,by rfl⟩,⟨rfl,by rfl⟩,⟨⟩⟩ (z0a u0 F2c rfl rfl (R8b p g M _ _ _ (hI.keep (u0.keep0 M)) (hG.keep (u0.keep0 M))) (fun i0 A1 v0 m1 => ?_) (fun i0 A1 v0 m1 => ?_))
 ·refine lO v0.k [.w 1] rfl ⟨⟨rfl,by rfl⟩,⟨⟩⟩ (h1a S2c (vs := [(0, .agg _), (1, .int .i64 _)]) (cs := [_, _, _, _, _, _]) rfl rfl rfl rfl ?_);refine j0a v0 (by conv => lhs; whnf) rfl ?_;intro a0 q0 e0 H1 D1;refine lO0 rfl ⟨⟩ (D1a rfl rfl ?_);have T1 : w0.heap.size ≤ a0 ∧ a0 < q0.heap.size := ⟨by simpa using e0.new 0 rfl, e0.lt 0 rfl⟩;have t0 : InP p (a0 :: M) q0 _ := InP.grow (Bs0 := []) (M0 := M) hI (e0.keep0 []) (fun x hx => by
   simp only [List.nil_append, List.mem_cons] at hx ⊢;rcases hx with rfl | hx
   ·right; omega
   ·exact .inl hx) (fun x hx => by
   simp only [List.mem_cons] at hx;have := e0.size;rcases hx with rfl | hx
   ·omega
   ·have := hI.lt x hx; omega)
  have H0 : L3a (a0 :: M) q0 _ g := L3a.less (M := a0 :: M) (fun _ h => h) ((L3a.more (M' := a0 :: M) (fun x hx => by
   rcases List.mem_cons.1 hx with rfl | hx
   ·right; omega
   ·exact .inl hx) hG).keep (e0.keep0 _))
  have U0 : g6 ≠ a0 := t5a (e0.blk 1 rfl) (e0.blk 0 rfl) (by decide);have P0 := u1c p m g a0 g6 M q0 _ _ t0 (e0.blk 1 rfl) H0 U0 (S8a i0);have u1 := e0.below;refine y4a r2c rfl rfl rfl (X5b p m hm n a0 (by omega) _ _ _ _ 41 [.pointer (some ⟨g6, 0, none⟩)] [] M q0 (fun c => E2a c g) (fun _ Bs _ w1 => Bs = [] ∧ u0a [a0] q0 w1) t0 (e0.blk 0 rfl) (by simp) P0) ?_;rintro M1 r0 ⟨⟨i, y0, rfl, hF⟩, F0⟩;have z0 : Below w0.heap.size w0 r0 := (x0a.stepM (Ms := [a0]) u1 F0 (fun x hx => by rw [List.mem_singleton] at hx; omega)).nil;have a1 := (St.refl r0).nilEnt 44;refine lB0 rfl ⟨⟩ (fun d1 => ?_) fun d1 => ?_
  ·refine lR0 rfl ⟨⟩ (i3b rfl (by conv => lhs; whnf) (by conv => lhs; whnf) ?_);refine ⟨⟨_, [], _, rfl, u4a, ?_⟩, g9a z0 a1.fin⟩;rcases hF with ⟨he, _⟩ | ⟨he, V, q1, q2, q3⟩ | ⟨he, k, _, _, q1, q2, q3, _⟩
   ·exact absurd he d1
   ·exact .inr (.inr (.inl ⟨i0, he, rfl, V, q1, q2, q3⟩))
   ·exact .inr (.inr (.inr ⟨i0, he, rfl, k, q1, q2, q3⟩))
  obtain ⟨k, V, v, Bs, _, rfl, hv, g1, f1, i1, ⟨yk, j1, f0⟩, -, J0, K0, -⟩ := (hF.resolve_right (fun h => by rcases h with h | h <;> omega)).2;obtain rfl : y0 = 0 := by omega
  have b0 : RdS M r0 7 (Q5a M r0) v V := RdS.lessW K0 (fun x hx => by simp [hx]) (fun _ _ => Q5a.more (fun x hx => .inl (by simp [hx])));obtain ⟨_, _, _, rfl⟩ := b0.form;obtain ⟨_, -, _⟩ := b0.len;have A0 := hv.from
  have cS := J0.cell (o := 5) rfl;refine lC0 rfl ⟨⟩ (wL (fun μ D ε w => D = [] ∧ ∃ i : Int, ∃ l : List A0a, ∃ G : Option Nat, ∃ s0 : List Value, ∃ v2 : Value, (i + 1 ≤ μ) ∧ (0 ≤ i) ∧ (i ≤ k) ∧ (l ++ B4a V (i.toNat + 1) i.toNat = B4a V (k + 1) k) ∧ (l.length + i ≤ k) ∧ (R1a (fun _ _ => S1a) 3 [] r0 G s0 v2 l) ∧ (G = none → s0 = []) ∧ St [] r0 w [(G, 44, s0)] ∧ Sl ε [(10, .pointer (some ⟨a0, 0, none⟩)), (11, .int .i64 i), (13, v2)]) (μ := k + 1) ⟨rfl, (k : Int), [], none, [], .slice none 0 0, by omega, by omega, by omega, by simp, by simp, R1a.nil, fun _ => rfl, a1, rfl⟩ ?_);rintro μ D ε w ⟨rfl, i, l, G, s0, v2, _, _, _, g0, _, n0, h0, S, eZ⟩;refine wK eZ (wO0 rfl ⟨⟩ ?_);refine r0a f7a rfl (by exact S.old cS) rfl ?_;obtain ⟨y, n1, x1, _, p0, C0, _, _, R0, V0⟩ := RdS.get (b0) (i.toNat) (by omega);obtain ⟨_, rfl, L0, _, _⟩ := V0;obtain ⟨_, _, _, _, _, _, _, _, _, rfl, -⟩ := L0.open_;refine lB (S.k.a R0) [.x n1 x1,.f 0 3] rfl ⟨rfl,⟨C0,by omega⟩,⟨⟩⟩ (fun s1 => ?_) fun s1 => ?_
  ·refine lOn 8 S.k [] rfl ⟨⟩ (w1a (by conv => lhs; whnf) rfl ?_);refine lO0 rfl ⟨⟩ (r0a f7a rfl (by exact S.old cS) rfl ?_);obtain ⟨_, p1, z1, _, Z0, E0, _, _, T0, X0⟩ := RdS.get (b0) (i.toNat) (by omega);obtain rfl := Option.some.inj (p0.symm.trans Z0);obtain ⟨_, rfl, O0, _, I0⟩ := X0;obtain ⟨_, _, _, _, _, _, _, _, _, rfl, -⟩ := O0.open_;refine lO S.k [.x p1 z1] rfl ⟨⟨E0,by omega⟩,⟨⟩⟩ (t1a R5a rfl ((g1a.sub T0 4 3).keep (S.keep0 []) List.not_mem_nil) rfl rfl ?_);refine G0a S t3a (vs := [.agg _]) (cs := [_, _, _]) (by rfl) rfl rfl rfl rfl rfl rfl ?_;intro K1 Q1 b1 I1 E1;refine z1a V1a (k := 1) (M2 := []) (e1 := y.ch) b1 t3a (by decide) rfl n0 rfl rfl (b1.cells 0 rfl) I0 (by omega) rfl ?_;intro N1 F1 r1 R1 B0 d0 J1 C1;refine b1a (by conv => lhs; whnf) rfl ?_;refine lO0 rfl ⟨⟩ (r0a f7a rfl (by exact B0.old cS) rfl ?_);obtain ⟨_, o1, y1, _, Y0, D0, _, _, S0, W0⟩ := RdS.get (b0) (i.toNat) (by omega);obtain rfl := Option.some.inj (p0.symm.trans Y0);obtain ⟨_, rfl, N0, _, _⟩ := W0;obtain ⟨_, _, _, _, _, _, _, _, _, rfl, -⟩ := N0.open_;refine lP (B0.k.a S0) [.x o1 y1,.f 0 3] rfl ⟨rfl,⟨D0,by omega⟩,⟨⟩⟩ ?_;refine ⟨μ - 1, by omega, rfl, (y.frm), (l ++ [y.ch]), (_), (_), (_), (by have := A0.one i.toNat y p0; omega), (by omega), (by have := A0.one i.toNat y p0; omega), (by rw [← g0, C6b A0 p0 (by omega)]; simp), (by have := A0.one i.toNat y p0; simp; omega), (d0), (fun h => by subst h; exact absurd (T3b d0) (by simp)), B0.tail, rfl⟩
  have j0 : l = B4a V (k + 1) k := by rw [← g0, T7b p0 (by omega)]; simp
  obtain ⟨_, _, rfl⟩ := n0.form;refine lOn 8 S.k [] rfl ⟨⟩ (w1a (v := .slice _ _ _) rfl rfl ?_);refine lB0 rfl ⟨⟩ (fun t1 => ?_) fun t1 => ?_
  ·refine lR0 rfl ⟨⟩ (i3b rfl (by conv => lhs; whnf) (by conv => lhs; whnf) ?_);exact ⟨⟨_, [], _, rfl, u4a, .inr (.inl ⟨k, V, hv, g1, f1, i1, ⟨yk, j1, f0⟩, i0, .inl ⟨by rw [← j0]; omega, rfl, rfl⟩⟩)⟩, g9a z0 S.fin⟩
  refine lOn 7 S.k [] rfl ⟨⟩ (w1a (v := .slice _ _ _) rfl rfl ?_);refine U2a n6c rfl rfl (w6b _ G s0 _ l n0 h0 (fun x hx => S.blk 0 (by rw [hx]; rfl)) (by omega)) ?_;rintro O1 B1 ⟨_, o0, Q0, G0⟩;have x0 := S.callRow (k := 0) (G' := G) rfl G0 Q0 (fun x hx => .inl hx);refine lOn 4 x0.k [] rfl ⟨⟩ (w1a (v := .slice _ _ _) rfl rfl ?_);refine b1a (v := .slice _ _ _) rfl rfl ?_;refine lR0 rfl ⟨⟩ (i3b rfl (by conv => lhs; whnf) (by conv => lhs; whnf) ?_);refine ⟨⟨_, l.reverse, _, rfl, ?_, .inr (.inl ⟨k, V, hv, g1, f1, i1, ⟨yk, j1, f0⟩, i0, .inr ⟨by rw [← j0]; omega, rfl, by rw [j0]⟩⟩)⟩, g9a z0 x0.fin⟩;refine R1a.rd (M := M) (w := B1) V1a o0 x0 (k := 0) rfl (fun x hx hh => ?_) (by simp; omega);have h3 := (x0.own _ (List.mem_cons_self) x (by rw [hx])).1;have h4 := hI.lt x hh;have h5 := z0.size;rcases h3 with h3 | h3
  ·omega
  ·cases h3
 refine lR0 rfl ⟨⟩ (i3b rfl (by conv => lhs; whnf) (by conv => lhs; whnf) ?_);exact ⟨⟨_, [], _, rfl, u4a, .inl ⟨i0, rfl, rfl⟩⟩, v0.fin⟩
theorem h2b (p : f0a) (c : s0a) (g : B3a) (M : List Nat) (w0 : World) (cs xs gs : List Value) (hI : InP p M w0 cs) (hX : w0a M w0 c xs) (hf : b4a p c) (hG : L3a M w0 gs g) :
 K0a Tryz.prog 21 #[.agg cs.toArray, .agg xs.toArray, .agg gs.toArray] w0 fun v w' => v = .bool (m5a p g && E2a c g) ∧ Below w0.heap.size w0 w' := by
 obtain ⟨_, _, _, _, _, _, _, _, _, _, _, _, rfl, _, _, _, _, _, _, _, _, _, _, _, _⟩ := hI.rd.open_;obtain ⟨_, _, _, _, _, _, _, _, _, rfl, _, _, _, _, _, _, _, _, _⟩ := id hX.open_;obtain ⟨_, rfl, hE, _, _⟩ := id hG;obtain ⟨_, _, _, rfl, _, _, _, -⟩ := id hE.open_;have S := St.refl w0;have f1 := hf.mem.len;have f2 := hf.nat;have f3 := hf.nbuf;refine a0a Tryz.func21 rfl Tryz.ntmps21 rfl ?_;refine wO0 rfl ⟨⟩ (j0a S (by conv => lhs; whnf) rfl ?_);intro g3 w3 S3 X3 G3;refine j0a S3 (by conv => lhs; whnf) rfl ?_;intro g4 w4 S4 X4 G4;refine j0a S4 (by conv => lhs; whnf) rfl ?_;intro g5 w5 S5 X5 G5;refine lO S5.k [.w 2] rfl ⟨⟨rfl,by rfl⟩,⟨⟩⟩ (g0a S5 v5b rfl rfl (V6a p M _ _ (hI.keep (S5.keep0 M))) ?_);intro w8 S8 X8;refine lO S8.k [.w 2,.w 0] rfl ⟨⟨rfl,by rfl⟩,⟨rfl,by rfl⟩,⟨⟩⟩ (z0a S8 F2c rfl rfl (R8b p g M _ _ _ (hI.keep (S8.keep0 M)) (hG.keep (S8.keep0 M))) (fun b0 i0 a0 e0 => ?_) (fun b0 i0 a0 e0 => ?_))
 ·refine lB a0.k [.o 1,.o 2] rfl ⟨rfl,rfl,⟨⟩⟩ (fun f0 => by exfalso; omega) fun f0 => ?_;refine lB a0.k [.o 1,.o 2] rfl ⟨rfl,rfl,⟨⟩⟩ (fun g0 => by exfalso; omega) fun g0 => ?_;refine lB a0.k [.o 1,.o 2] rfl ⟨rfl,rfl,⟨⟩⟩ (fun h0 => by exfalso; omega) fun h0 => ?_;refine lO a0.k [.w 1,.w 0] rfl ⟨⟨rfl,by rfl⟩,⟨rfl,by rfl⟩,⟨⟩⟩ ?_;refine g0a a0 p2c rfl rfl (w5b c g M _ _ _ (hX.keep (a0.keep0 M)) (hG.keep (a0.keep0 M)) (hI.keep (a0.keep0 M)).msk (by rw [f2]; exact S8a b0)) ?_;intro n0 d0 j0;refine lR0 rfl ⟨⟩ (q0a rfl (by conv => lhs; whnf) ?_);exact ⟨by rw [b0]; rfl, d0.fin⟩
 refine lR0 rfl ⟨⟩ (q0a rfl (by conv => lhs; whnf) ?_);exact ⟨by rw [b0]; rfl, a0.fin⟩
def E0b (s : ByteArray) : Bool := decide (1 ≤ s.size) && decide (s.size ≤ 64) && s.data.toList.all fun b => decide (33 ≤ b.toNat) && decide (b.toNat ≤ 126)
theorem N6a {s : ByteArray} (h : E0b s = true) : D6a s := by
 simp only [E0b, Bool.and_eq_true, decide_eq_true_eq, List.all_eq_true] at h;refine ⟨h.1.1, h.1.2, fun i hi => ?_⟩;exact h.2 s[i] (by rw [ByteArray.getElem_eq_getElem_data]; simp)
def inB (i : Int) (n : Nat) : Bool := decide (0 ≤ i) && decide (i < n)
theorem g8a {i : Int} {n : Nat} (h : inB i n = true) : u2a i n := by simpa [inB, u2a] using h
def Y2b (cells : List e2a) (e : E) (sh : Bool) (t : Int) : Bool := (e.sup 3 ++ e.sup 2).all fun x => (decide (B1a cells x ≠ -1) || sh) && (decide (B1a cells x < 0) || decide (B1a cells x = t))
theorem T6a {cells : List e2a} {e : E} {sh : Bool} {t : Int} (h : Y2b cells e sh t = true) : P4a cells e sh t := fun x hx => by
 have := List.all_eq_true.1 h x hx;simp only [Bool.and_eq_true, Bool.or_eq_true, decide_eq_true_eq] at this;exact ⟨fun e => this.1.resolve_left (fun h => h e), fun e => this.2.resolve_left (by omega)⟩
def f0b (cells : List e2a) (e : E) (pair : Bool) (t : Int) : Bool := e.valid cells pair && decide (e.w = 1) && Y2b cells e true t
theorem S6a {cells : List e2a} {e : E} {a0 : Bool} {t : Int} (h : f0b cells e a0 t = true) : d7a cells e a0 t := by
 simp only [f0b, Bool.and_eq_true, decide_eq_true_eq] at h;exact ⟨h.1.1, h.1.2, T6a h.2⟩
def O8a : List Int → Bool
 | [] => true
 | x :: l => (l.all fun y => decide (x < y)) && O8a l
theorem B7a : ∀ {l : List Int}, O8a l = true → z5a l
 | [], _ => List.Pairwise.nil
 | x :: l, h => by
   simp only [O8a, Bool.and_eq_true, List.all_eq_true, decide_eq_true_eq] at h;exact List.Pairwise.cons h.1 (B7a h.2)
def pwB {α : Type} (r : α → α → Bool) : List α → Bool
 | [] => true
 | x :: l => l.all (r x) && pwB r l
theorem o0b {α : Type} {r : α → α → Bool} {R : α → α → Prop} (hr : ∀ a b, r a b = true → R a b) : ∀ {l : List α}, pwB r l = true → l.Pairwise R
 | [], _ => List.Pairwise.nil
 | x :: l, h => by
   simp only [pwB, Bool.and_eq_true, List.all_eq_true] at h;exact List.Pairwise.cons (fun y hy => hr _ _ (h.1 y hy)) (o0b hr h.2)
def J3b (e : E) : Bool := decide (e.op = 0) && decide (e.w = 0) && decide (e.n = 0) && e.kids.isEmpty
theorem I6b {e : E} (h : J3b e = true) : e.absent := by
 simp only [J3b, Bool.and_eq_true, decide_eq_true_eq, List.isEmpty_iff] at h;exact ⟨h.1.1.1, h.1.1.2, h.1.2, h.2⟩
def H8c (e : E) : Bool := decide (e.op = 1) && decide (e.w = 1) && decide (e.n = 1) && e.kids.isEmpty
theorem p4c {e : E} (h : H8c e = true) : e = ⟨1, 1, 1, []⟩ := by
 simp only [H8c, Bool.and_eq_true, decide_eq_true_eq, List.isEmpty_iff] at h;cases e; simp_all
def ifB (c : Prop) [Decidable c] (b : Bool) : Bool := !decide c || b
theorem H6a {c : Prop} [Decidable c] {b : Bool} (h : ifB c b = true) (hc : c) : b = true := by simpa [ifB, hc] using h
def s4c (p : f0a) (t : Int) (s : v1a) : Bool :=
 Y2b p.cells s.guard (decide (s.kind = 4)) t &&
 ((List.range s.set.length).all fun i => match s.set[i]? with | some a => ifB (0 < i ∨ s.kind ≠ 2) (Y2b p.cells a.to (decide (s.kind = 4)) t) | none => true) &&
 (s.set.all fun a => decide (B1a p.cells a.cell = t ∨ B1a p.cells a.cell = -1)) &&
 ifB (s.kind = 1) (s.set.all fun a => decide (B1a p.cells a.cell = t)) &&
 ifB (s.kind = 2) (match s.set with | [] => false | a :: l => decide (B1a p.cells a.cell = t ∧ Y9a p.cells a.cell = false ∧ a.to.op = 2 ∧ B1a p.cells a.to.n = -1 ∧ Y9a p.cells a.to.n = false) && l.all fun b => decide (B1a p.cells b.cell = t ∧ Y9a p.cells b.cell = true)) &&
 ifB (s.kind = 3) (match s.set with | [] => false | a :: l => decide (B1a p.cells a.cell = -1 ∧ Y9a p.cells a.cell = false) && l.all fun b => decide (Y9a p.cells b.cell = true)) &&
 ifB (5 ≤ s.kind) (s.set.isEmpty && H8c s.guard) &&
 ifB (6 ≤ s.kind) (inB s.target p.threads.length && decide (s.target ≠ t)) &&
 ifB (s.kind = 6) (match p.threads[s.target.toNat]? with | some u => u.asleep | none => true)
theorem s0c {p : f0a} {t : Int} {s : v1a} (h : s4c p t s = true) : r2b p t s := by
 simp only [s4c, Bool.and_eq_true] at h;obtain ⟨⟨⟨⟨⟨⟨⟨⟨a1, a2⟩, a3⟩, a4⟩, a5⟩, a6⟩, a7⟩, a8⟩, a9⟩ := h;refine ⟨T6a a1, fun i hi hc => ?_, fun a ha => of_decide_eq_true (List.all_eq_true.1 a3 a ha), fun hk a ha => of_decide_eq_true (List.all_eq_true.1 (H6a a4 hk) a ha), fun hk => ?_, fun hk => ?_, fun hk => ?_, fun hk => ?_, fun hk u hu => ?_⟩
 ·have := List.all_eq_true.1 a2 i (List.mem_range.2 hi);rw [List.getElem?_eq_getElem hi] at this;exact T6a (H6a this hc)
 ·have := H6a a5 hk
  split at this
  ·cases this
  ·rename_i a l hs;rw [Bool.and_eq_true] at this;obtain ⟨b1, b2, b3, b4, b5⟩ := of_decide_eq_true this.1;exact ⟨a, l, hs, b1, b2, b3, b4, b5, fun b hb => of_decide_eq_true (List.all_eq_true.1 this.2 b hb)⟩
 ·have := H6a a6 hk
  split at this
  ·cases this
  ·rename_i a l hs;rw [Bool.and_eq_true] at this;obtain ⟨b1, b2⟩ := of_decide_eq_true this.1;exact ⟨a, l, hs, b1, b2, fun b hb => of_decide_eq_true (List.all_eq_true.1 this.2 b hb)⟩
 ·have := H6a a7 hk;rw [Bool.and_eq_true, List.isEmpty_iff] at this;exact ⟨this.1, p4c this.2⟩
 ·have := H6a a8 hk;rw [Bool.and_eq_true] at this;exact ⟨g8a this.1, of_decide_eq_true this.2⟩
 ·have := H6a a9 hk;rw [hu] at this; exact this
def stepB (p : f0a) (t : Int) (points : Int) (s : v1a) : Bool :=
 decide (1 ≤ s.kind ∧ s.kind ≤ 7) && decide (0 ≤ s.frm ∧ s.frm < points - 1) && decide (0 ≤ s.to ∧ s.to < points) && inB s.module_ p.modules.length && ifB (s.release = true) (decide (s.kind = 3)) &&
 ifB (s.target ≠ 0) (decide (s.kind = 6 ∨ s.kind = 7)) && (s.guard.valid p.cells false && decide (s.guard.w = 1)) &&
 (s.set.all fun a => inB a.cell p.cells.length && a.to.valid p.cells false && decide (a.to.w = wAt p.cells a.cell)) && pwB (fun a b => decide (a.cell ≠ b.cell)) s.set && s4c p t s
theorem A0c {p : f0a} {t points : Int} {s : v1a} (h : stepB p t points s = true) : m7a p t points s := by
 simp only [stepB, Bool.and_eq_true] at h;obtain ⟨⟨⟨⟨⟨⟨⟨⟨⟨a1, a2⟩, a3⟩, a4⟩, a5⟩, a6⟩, a7, b0⟩, a8⟩, a9⟩, a0⟩ := h;refine ⟨of_decide_eq_true a1, of_decide_eq_true a2, of_decide_eq_true a3, g8a a4, fun hr => of_decide_eq_true (H6a a5 hr), fun hr => of_decide_eq_true (H6a a6 hr), ⟨a7, of_decide_eq_true b0⟩, fun a ha => ?_, o0b (fun a b h => of_decide_eq_true h) a9, s0c a0⟩;have := List.all_eq_true.1 a8 a ha;simp only [Bool.and_eq_true] at this;exact ⟨g8a this.1.1, this.1.2, of_decide_eq_true this.2⟩
def y3c (p : f0a) (t points : Int) (l : r4b) : Bool := decide (0 ≤ l.head ∧ l.head < points) && O8a l.body && (l.body.all fun x => decide (0 ≤ x ∧ x < points ∧ x ≠ l.head)) && (l.variant.valid p.cells false && Y2b p.cells l.variant true t)
theorem Y0c {p : f0a} {t points : Int} {l : r4b} (h : y3c p t points l = true) : A9b p t points l := by
 simp only [y3c, Bool.and_eq_true] at h;obtain ⟨⟨⟨a1, a2⟩, a3⟩, a4, a5⟩ := h;exact ⟨of_decide_eq_true a1, B7a a2, fun x hx => of_decide_eq_true (List.all_eq_true.1 a3 x hx), a4, T6a a5⟩
def u4b (p : f0a) (t : Nat) (x : Q0a) : Bool :=
 E0b x.name && decide (1 ≤ x.points ∧ x.points ≤ 48) && decide (x.steps.length ≤ 64) && decide (x.loops.length ≤ 8) && decide ((x.asserts.length : Int) = x.points) && decide ((x.modules.length : Int) = x.points) &&
 (x.modules.all fun m => inB m p.modules.length) && (x.asserts.all fun e => f0b p.cells e false t) && (x.steps.all fun s => stepB p t x.points s) && (x.loops.all fun l => y3c p t x.points l)
theorem X6b {p : f0a} {t : Nat} {x : Q0a} (h : u4b p t x = true) : W5a p t x := by
 simp only [u4b, Bool.and_eq_true] at h;obtain ⟨⟨⟨⟨⟨⟨⟨⟨⟨a1, a2⟩, a3⟩, a4⟩, a5⟩, a6⟩, a7⟩, a8⟩, a9⟩, a0⟩ := h;exact ⟨N6a a1, of_decide_eq_true a2, of_decide_eq_true a3, of_decide_eq_true a4, of_decide_eq_true a5, of_decide_eq_true a6, fun m hm => g8a (List.all_eq_true.1 a7 m hm), fun m hm => S6a (List.all_eq_true.1 a8 m hm),
  fun m hm => A0c (List.all_eq_true.1 a9 m hm), fun m hm => Y0c (List.all_eq_true.1 a0 m hm)⟩
def X3c (p : f0a) (c : e2a) : Bool := E0b c.name && decide (1 ≤ c.w ∧ c.w ≤ 8) && decide (0 ≤ c.init ∧ c.init < W4a c.w.toNat) && decide (-1 ≤ c.thread ∧ c.thread < p.threads.length) && inB c.module_ p.modules.length
theorem w1c {p : f0a} {c : e2a} (h : X3c p c = true) : W5b p c := by
 simp only [X3c, Bool.and_eq_true] at h;obtain ⟨⟨⟨⟨a1, a2⟩, a3⟩, a4⟩, a5⟩ := h;exact ⟨N6a a1, of_decide_eq_true a2, of_decide_eq_true a3, of_decide_eq_true a4, g8a a5⟩
def R8c (p : f0a) (m : e4a) : Bool := E0b m.name && E0b m.owner && (J3b m.rely || f0b p.cells m.rely true (-1)) && f0b p.cells m.guar true (-1) && (m.frame.all fun x => inB x p.cells.length && decide (B1a p.cells x = -1)) && O8a m.frame
theorem z4c {p : f0a} {m : e4a} (h : R8c p m = true) : i2c p m := by
 simp only [R8c, Bool.and_eq_true, Bool.or_eq_true] at h;obtain ⟨⟨⟨⟨⟨a1, a2⟩, a3⟩, a4⟩, a5⟩, a6⟩ := h;refine ⟨N6a a1, N6a a2, a3.imp I6b S6a, S6a a4, fun x hx => ?_, B7a a6⟩;have := List.all_eq_true.1 a5 x hx;rw [Bool.and_eq_true] at this;exact ⟨g8a this.1, of_decide_eq_true this.2⟩
def G5c (p : f0a) (l : F4b) : Bool := inB l.cell p.cells.length && decide (B1a p.cells l.cell = -1 ∧ wAt p.cells l.cell = 1 ∧ Y9a p.cells l.cell = false) && inB l.module_ p.modules.length && f0b p.cells l.inv false (-1)
theorem D0c {p : f0a} {l : F4b} (h : G5c p l = true) : U5b p l := by
 simp only [G5c, Bool.and_eq_true] at h;obtain ⟨⟨⟨a1, a2⟩, a3⟩, a4⟩ := h;exact ⟨⟨g8a a1, of_decide_eq_true a2⟩, g8a a3, S6a a4⟩
def V6c (p : f0a) : Bool :=
 decide (p.cells.length ≤ 32) && decide (p.modules.length ≤ 6) && decide (p.locks.length ≤ 4) && decide (p.threads.length ≤ 4) &&
 p.cells.all (X3c p) && pwB (fun a b => decide (a.name ≠ b.name)) p.cells && p.modules.all (R8c p) && pwB (fun a b => decide (a.name ≠ b.name)) p.modules && p.locks.all (G5c p) && pwB (fun a b => decide (a.cell ≠ b.cell)) p.locks &&
 ((List.range p.threads.length).all fun t => match p.threads[t]? with | some x => u4b p t x | none => true) && pwB (fun a b => decide (a.name ≠ b.name)) p.threads
theorem I1c {p : f0a} (h : V6c p = true) : n1a p := by
 simp only [V6c, Bool.and_eq_true] at h;obtain ⟨⟨⟨⟨⟨⟨⟨⟨⟨⟨⟨a1, a2⟩, a3⟩, a4⟩, a5⟩, a6⟩, a7⟩, a8⟩, a9⟩, a0⟩, b0⟩, d0⟩ := h;refine ⟨of_decide_eq_true a1, of_decide_eq_true a2, of_decide_eq_true a3, of_decide_eq_true a4, fun c hc => w1c (List.all_eq_true.1 a5 c hc), o0b (fun _ _ h => of_decide_eq_true h) a6, fun c hc => z4c (List.all_eq_true.1 a7 c hc),
  o0b (fun _ _ h => of_decide_eq_true h) a8, fun c hc => D0c (List.all_eq_true.1 a9 c hc), o0b (fun _ _ h => of_decide_eq_true h) a0, fun t ht => ?_, o0b (fun _ _ h => of_decide_eq_true h) d0⟩
 have := List.all_eq_true.1 b0 t (List.mem_range.2 ht);rw [List.getElem?_eq_getElem ht] at this;exact X6b this
theorem L0c (n wd : Int) (hn : i64 n) (hw : i64 wd) (M : List Nat) (w0 : World) :
 K0a Tryz.prog 20 #[.int .i64 n, .int .i64 wd] w0 fun v w' => (∃ cs : List Value, v = .agg cs.toArray ∧ RdE M w' ⟨1, wd, n, []⟩ cs) ∧ Below w0.heap.size w0 w' := by
 have S := St.refl w0;refine a0a Tryz.func20 rfl Tryz.ntmps20 rfl ?_;refine wO0 rfl ⟨⟩ (n0a S e7a rfl rfl ?_);intro g4 w4 S4 X4 G4;refine lO0 rfl ⟨⟩ (h1a u3b (vs := [(0, .int .i64 _), (1, .int .i64 _), (2, .int .i64 _)]) (cs := [_, _, _, _]) rfl rfl rfl rfl ?_)
 first | refine e0a (kk := 0) (vs := [_, _, _, _]) S4 O5a rfl rfl rfl rfl rfl rfl rfl ?_
 intro d0 a0 b0;dsimp only [m0a, List.set] at a0;refine lR0 rfl ⟨⟩ ?_;exact p1a rfl u1a rfl (a0.cells 0 rfl) rfl ⟨⟨_, rfl, k3a (by unfold i64; omega) hw hn⟩, a0.fin⟩
def r8c (a b : E) : E := ⟨5, 1, 0, [a, b]⟩
theorem E5c {M : List Nat} {w : World} {op wd : Int} {a : E} {ca : List Value} {g : Nat} (h1 : i64 op) (h2 : i64 wd) (hg : g ∉ M) (hc : g1a w g 0 ca) (ha : RdE M w a ca) :
 RdE M w ⟨op, wd, 0, [a]⟩ [.int .i64 op, .int .i64 wd, .int .i64 0, .slice (some ⟨g, 0, none⟩) 1 1] := by
 rw [RdE];refine ⟨_, 1, 1, rfl, h1, h2, by unfold i64; simp, rfl, Nat.le_refl _, by unfold maxLen; omega, by omega, fun _ => ⟨g, 0, rfl, hg, fun i hi => ?_⟩⟩;have a0 : i < 1 := hi;obtain rfl : i = 0 := by omega
 exact ⟨ca, by simpa using hc, ha⟩
theorem H5c {M M' : List Nat} {w w' : World} {op wd n : Int} {cs : List Value} (h : RdE M w ⟨op, wd, n, []⟩ cs) : RdE M' w' ⟨op, wd, n, []⟩ cs := by
 rw [RdE] at h ⊢;obtain ⟨A, k, c, h1, h2, h3, h4, h5, h6, h7, h8, _⟩ := h;exact ⟨A, k, c, h1, h2, h3, h4, h5, h6, h7, h8, fun hk => absurd hk (by simp at h5; omega)⟩
def RdL (M : List Nat) (w : World) (v : Value) (l : List E) : Prop := RdE M w ⟨0, 0, 0, l⟩ [.int .i64 0, .int .i64 0, .int .i64 0, v]
theorem RdL.open_ {M : List Nat} {w : World} {v : Value} {l : List E} (h : RdL M w v l) : ∃ A n c, v = .slice A n c ∧ n = l.length ∧ n ≤ c ∧ c ≤ maxLen ∧ n ≤ 140737488355328 ∧
 (0 < n → ∃ b o, A = some ⟨b, o, none⟩ ∧ b ∉ M ∧ ∀ (i : Nat) (h : i < l.length), ∃ a0, g1a w b (o + i * 4) a0 ∧ RdE M w l[i] a0) := by
 obtain ⟨A, n, c, h1, -, -, -, h2, h3, h4, h5, h6⟩ := RdE.open_ h;cases h1;exact ⟨A, n, c, rfl, h2, h3, h4, h5, h6⟩
theorem RdL.at {M : List Nat} {w : World} {A : Option Addr} {n c : Nat} {l : List E} (h : RdL M w (.slice A n c) l) : n = l.length ∧ n ≤ c ∧ c ≤ maxLen ∧ n ≤ 140737488355328 ∧
 (0 < n → ∃ b o, A = some ⟨b, o, none⟩ ∧ b ∉ M ∧ ∀ (i : Nat) (h : i < l.length), ∃ a0, g1a w b (o + i * 4) a0 ∧ RdE M w l[i] a0) := by
 obtain ⟨A, n, c, h1, h2⟩ := h.open_;cases h1; exact h2
theorem RdL.made {M : List Nat} {w : World} {A : Option Addr} {n c : Nat} {l : List E} (h2 : n = l.length) (h3 : n ≤ c) (h4 : c ≤ maxLen) (h5 : n ≤ 140737488355328)
 (h6 : 0 < n → ∃ b o, A = some ⟨b, o, none⟩ ∧ b ∉ M ∧ ∀ (i : Nat) (h : i < l.length), ∃ a0, g1a w b (o + i * 4) a0 ∧ RdE M w l[i] a0) : RdL M w (.slice A n c) l := by
 unfold RdL; rw [RdE];exact ⟨A, n, c, rfl, by unfold i64; simp, by unfold i64; simp, by unfold i64; simp, h2, h3, h4, h5, h6⟩
theorem RdL.keep {M : List Nat} {w w' : World} {v : Value} {l : List E} (h : RdL M w v l) (hk : u0a M w w') : RdL M w' v l := RdE.keep hk _ _ h
theorem RdL.more {M M' : List Nat} {w : World} {v : Value} {l : List E} (h : RdL M w v l) (hM : ∀ g ∈ M', g ∈ M ∨ w.heap.size ≤ g) : RdL M' w v l := RdE.more hM _ _ h
def e6a : List E → E
 | [] => ⟨1, 1, 1, []⟩
 | e :: es => es.foldl r8c e
theorem H9a (l : List E) (k : Nat) (hk : k < l.length) : e6a (l.take (k + 1)) = if k = 0 then l[k] else r8c (e6a (l.take k)) l[k] := by
 cases l with
 | nil => simp at hk
 | cons e es =>
   cases k with
   | zero => simp [e6a]
   | succ k =>
     have a0 : k < es.length := by simpa using hk
     simp only [List.take_succ_cons, e6a, List.getElem_cons_succ];rw [if_neg (by omega), List.take_add_one, List.getElem?_eq_getElem a0, Option.toList_some, List.foldl_append];rfl
theorem u7a (a b : List E) : E.cnts (a ++ b) = E.cnts a + E.cnts b := by
 induction a with
 | nil => simp [E.cnts]
 | cons x xs ih => simp only [List.cons_append, E.cnts, ih]; omega
theorem f1b (l : List E) (k : Nat) (hk : k < l.length) : E.cnts (l.take (k + 1)) = E.cnts (l.take k) + l[k].cnt ∧ E.cnts (l.take (k + 1)) ≤ E.cnts l := by
 have h1 : E.cnts (l.take (k + 1)) = E.cnts (l.take k) + l[k].cnt := by
  rw [List.take_add_one, List.getElem?_eq_getElem hk, Option.toList_some, u7a]; simp [E.cnts]
 have h2 := u7a (l.take (k + 1)) (l.drop (k + 1));rw [List.take_append_drop] at h2;exact ⟨h1, by omega⟩
theorem b6b (n wd : Int) (w0 : World) : K0a Tryz.prog 45 #[.int .i64 n, .int .i64 wd] w0 fun v w' => v = .agg #[.int .i64 2, .int .i64 wd, .int .i64 n, .slice none 0 0] ∧ Below w0.heap.size w0 w' := by
 have S := St.refl w0;refine a0a Tryz.func45 rfl Tryz.ntmps45 rfl ?_;refine wO0 rfl ⟨⟩ (n0a S e7a rfl rfl ?_);intro g4 w4 S4 X4 G4;refine lO0 rfl ⟨⟩ (h1a u3b (vs := [(0, .int .i64 _), (1, .int .i64 _), (2, .int .i64 _)]) (cs := [_, _, _, _]) rfl rfl rfl rfl ?_)
 first | refine e0a (kk := 0) (vs := [_, _, _, _]) S4 O5a rfl rfl rfl rfl rfl rfl rfl ?_
 intro d0 a0 b0;dsimp only [m0a, List.set] at a0;exact lR0 rfl ⟨⟩ (p1a rfl u1a rfl (a0.cells 0 rfl) rfl ⟨rfl, a0.fin⟩)
theorem F6c (op wd : Int) (ho : i64 op) (hw : i64 wd) (a b : E) (ca cb : List Value) (M : List Nat) (w0 : World) (hM : ∀ g ∈ M, g < w0.heap.size) (ha : RdE M w0 a ca) (hb : RdE M w0 b cb) :
 K0a Tryz.prog 95 #[.int .i64 op, .int .i64 wd, .agg ca.toArray, .agg cb.toArray] w0 fun v w' => (∃ cs : List Value, v = .agg cs.toArray ∧ RdE M w' ⟨op, wd, 0, [a, b]⟩ cs) ∧ Below w0.heap.size w0 w' := by
 have S := St.refl w0;obtain ⟨_, _, _, rfl, -⟩ := ha.open_;obtain ⟨_, _, _, rfl, -⟩ := hb.open_;refine a0a Tryz.func95 rfl Tryz.ntmps95 rfl ?_;refine wO0 rfl ⟨⟩ (j0a S (by conv => lhs; whnf) rfl ?_);intro g6 w6 S6 X6 G6;refine j0a S6 (by conv => lhs; whnf) rfl ?_;intro g7 w7 S7 X7 G7;refine n0a S7 e7a rfl rfl ?_;intro g8 w8 S8 X8 G8;refine lO S8.k [.w 2,.w 1] rfl ⟨⟨rfl,by rfl⟩,⟨rfl,by rfl⟩,⟨⟩⟩ (G0a S8 Y0a (vs := [.agg _, .agg _]) (cs := [_, _, _, _, _, _, _, _]) (by rfl) rfl rfl rfl rfl rfl rfl ?_);intro h0 i0 b0 g0 f0;refine h1a u3b (vs := [(0, .int .i64 _), (1, .int .i64 _), (3, .slice _ _ _)]) (cs := [_, _, _, _]) rfl rfl rfl rfl ?_;refine e0a (kk := 1) (vs := [_, _, _, _]) b0 O5a rfl rfl rfl rfl rfl rfl rfl ?_;intro e0 a0 d0;dsimp only [m0a, List.set] at a0;refine lR0 rfl ⟨⟩ (p1a rfl u1a rfl (a0.cells 1 rfl) rfl ⟨⟨_, rfl, T4c ho hw (fun hm => ?_) (a0.cells 0 rfl) (RdE.keep (a0.keep0 M) _ _ ha) (RdE.keep (a0.keep0 M) _ _ hb)⟩, a0.fin⟩);have h1 := hM _ hm;have h2 := a0.new 0 rfl;simp at h2; omega
theorem F7c (e : E) (n wd : Int) (M : List Nat) (w0 : World) (cs : List Value) (hR : RdE M w0 e cs) (ho : e.op ≠ 1) :
 K0a Tryz.prog 94 #[.agg cs.toArray, .int .i64 n, .int .i64 wd] w0 fun v w' => v = .bool false ∧ Below w0.heap.size w0 w' := by
 obtain ⟨_, k, _, rfl, -⟩ := hR.open_;have S := St.refl w0;refine a0a Tryz.func94 rfl Tryz.ntmps94 rfl ?_;refine wO0 rfl ⟨⟩ (j0a S (by conv => lhs; whnf) rfl ?_);intro g3 w3 S3 X3 G3;refine lB S3.k [.o 0] rfl ⟨rfl,⟨⟩⟩ (fun h9 => by exfalso; omega) fun h9 => ?_;exact lT rfl ⟨⟩ rfl ⟨rfl, S3.fin⟩
theorem m0b (e : E) (M : List Nat) (w0 : World) (cs : List Value) (hR : RdE M w0 e cs) (hw : e.wf = true) :
 K0a Tryz.prog 62 #[.agg cs.toArray] w0 fun v w' => v = .bool true ∧ Below w0.heap.size w0 w' := by
 have h := r9a e M w0 cs hR
 rwa [hw] at h
theorem e2c (e : E) (M : List Nat) (w0 : World) (cs : List Value) (hR : RdE M w0 e cs) (hc : e.cnt ≤ 600) :
 K0a Tryz.prog 39 #[.agg cs.toArray, .int .i64 601] w0 fun v w' => v = .int .i64 (e.cnt : Int) ∧ Below w0.heap.size w0 w' := by
 have h := N3b e M w0 cs 601 hR (by unfold i64; omega);have he : e.size 601 = (e.cnt : Int) := by rw [E.size_eq e 601 (by omega)]; omega
 rwa [he] at h
theorem y7b (l : List E) (M : List Nat) (w0 : World) (vl : Value) (hL : RdL M w0 vl l) (hM : ∀ g ∈ M, g < w0.heap.size) (P0 : ∀ e ∈ l, e.wf = true ∧ e.w = 1 ∧ e.op ≠ 1) (v1 : E.cnts l + l.length ≤ 600) (C0 : (e6a l).wf = true) :
 K0a Tryz.prog 67 #[vl, .int .i64 5, .int .i64 1] w0 fun v w' => (∃ cs : List Value, v = .agg cs.toArray ∧ RdE M w' (e6a l) cs) ∧ Below w0.heap.size w0 w' := by
 obtain ⟨A, n, c, rfl, _, _, _, _, n1⟩ := hL.open_;have S := St.refl w0;refine a0a Tryz.func67 rfl Tryz.ntmps67 rfl ?_;refine wO0 rfl ⟨⟩ (n0a S e7a rfl rfl ?_);intro g6 w6 S6 X6 G6;refine lC0 rfl ⟨⟩ (wL (fun μ D ε w => D = [] ∧ ∃ k : Nat, (k + μ = l.length) ∧ St [] w0 w [(some g6, 53, [.int .i64 0, .int .i64 0, .int .i64 0, .slice none 0 0])] ∧ ε 0 = .slice A n c ∧ ε 1 = .int .i64 5 ∧ ε 2 = .int .i64 1 ∧ ε 6 = .pointer (some ⟨g6, 0, none⟩) ∧ ε 7 = .bool false ∧ ε 8 = .int .i64 k) (μ := l.length) ⟨rfl, 0, by omega, S6, rfl, rfl, rfl, rfl, rfl, rfl⟩ ?_);rintro μ D ε w ⟨rfl, k, hk, S, e0, e1, e2, e6, e7, e8⟩;refine o0a 0 e0 (o0a 1 e1 (o0a 2 e2 (o0a 6 e6 (o0a 7 e7 (o0a 8 e8 ?_)))));clear e0 e1 e2 e6 e7 e8;refine wB0 rfl ⟨⟩ (fun b1 => ?_) fun b1 => ?_
 ·refine lO0 rfl ⟨⟩ ?_;have h0 : k < l.length := by omega
  obtain ⟨b, o, hA, O0, E0⟩ := n1 (by omega);obtain ⟨ck, B0, G0⟩ := E0 k h0;obtain ⟨Ak, nk, qk, rfl, -⟩ := G0.open_;have m1 := B0 1 _ rfl;obtain ⟨e1, e2, e3⟩ := P0 l[k] (List.getElem_mem h0);refine y0a Y0a.slT rfl (by assumption) rfl (by omega) (by omega) rfl ?_;refine lO0 rfl ⟨⟩ (r0a D0a rfl (by exact S.old m1) rfl ?_);refine lB0 rfl ⟨⟩ (fun N0 => by exfalso; exact N0 e2) (fun N0 => ?_);refine lO0 rfl ⟨⟩ (y0a Y0a.slT rfl (by assumption) rfl (by omega) (by omega) rfl ?_);refine lO0 rfl ⟨⟩ (t1a u1a rfl (B0.keep (S.keep0 M) O0) (by rfl) rfl ?_);refine lO0 rfl ⟨⟩ (g0a S V5b rfl rfl (m0b l[k] M _ _ (RdE.keep (S.keep0 M) _ _ G0) e1) ?_);intro A1 y0 r1;refine lO0 rfl ⟨⟩ (y0a Y0a.slT rfl (by assumption) rfl (by omega) (by omega) rfl ?_);refine lO0 rfl ⟨⟩ (t1a u1a rfl (B0.keep (y0.keep0 M) O0) (by rfl) rfl ?_);refine lO0 rfl ⟨by omega,⟨⟩⟩ (g0a y0 D2c rfl rfl (F7c l[k] _ _ M _ _ (RdE.keep (y0.keep0 M) _ _ G0) e3) ?_);intro B1 U0 s1;exact lP0 rfl ⟨by omega,⟨⟩⟩ ⟨μ - 1, by omega, rfl, k + 1, by omega, U0, rfl, rfl, rfl, rfl, rfl, rfl⟩
 refine lO0 rfl ⟨⟩ ?_;refine t0a S a0b rfl rfl (L0c 1 1 (by unfold i64; omega) (by unfold i64; omega) [] _) ?_;rintro y1 C1 ⟨_, rfl, Q0⟩ V0 t1;obtain ⟨_, _, _, rfl, -⟩ := Q0.open_;refine n0a V0 e7a rfl rfl ?_;intro g9 w9 S9 X9 G9;refine e0a (kk := 0) (vs := [_, _, _, _]) S9 O5a rfl rfl rfl rfl rfl rfl rfl ?_;intro q0 a0 I0;dsimp only [m0a, List.set] at a0;refine lCn 8 a0.k [] rfl ⟨⟩ ?_;have i1 : ∀ g ∈ g6 :: g9 :: M, g ∈ M ∨ w0.heap.size ≤ g := by
  intro g hg; simp at hg;rcases hg with rfl | rfl | hg
  ·right; simpa using a0.new 1 rfl
  ·right; simpa using a0.new 0 rfl
  ·exact .inl hg
 have h1 := hL.more i1;obtain ⟨-, -, -, -, F0⟩ := h1.at;have u1 : ∀ g ∈ g6 :: g9 :: M, g < q0.heap.size := by
  intro g hg; simp at hg;rcases hg with rfl | rfl | hg
  ·exact a0.lt 1 rfl
  ·exact a0.lt 0 rfl
  ·have := hM g hg; have := a0.size; omega
 obtain ⟨wq, x1⟩ : ∃ wq, wq = q0 := ⟨_, rfl⟩;refine wC0 rfl ⟨⟩ (wL (fun μ D ε w => D = [] ∧ ∃ k : Nat, ∃ co : List Value, ∃ r0 : E, (k + μ = l.length) ∧ (r0 = e6a (l.take k)) ∧ (RdE (g6 :: g9 :: M) w r0 co) ∧ St [] w0 w [(some g9, 53, co), (some g6, 53, [.int .i64 0, .int .i64 0, .int .i64 0, .slice none 0 0])] ∧ ε 0 = .slice A n c ∧ ε 1 = .int .i64 5 ∧ ε 2 = .int .i64 1 ∧ ε 6 = .pointer (some ⟨g6, 0, none⟩) ∧ ε 9 = .pointer (some ⟨g9, 0, none⟩) ∧ ε 10 = .bool (decide (k = 0)) ∧ ε 11 = .int .i64 ((E.cnts (l.take k) + (k - 1) : Nat) : Int) ∧ ε 12 = .int .i64 k) (μ := l.length) ⟨rfl, 0, _, ⟨1, 1, 1, []⟩, by omega, rfl, H5c Q0, a0, rfl, rfl, rfl, rfl, rfl, rfl, rfl, rfl⟩ ?_);rintro μ D ε w ⟨rfl, k, co, r0, hk, n0, ro, S, e0, e1, e2, e6, e9, J0, K0, L0⟩;refine o0a 0 e0 (o0a 1 e1 (o0a 2 e2 (o0a 6 e6 (o0a 9 e9 (o0a 10 J0 (o0a 11 K0 (o0a 12 L0 ?_)))))));clear e0 e1 e2 e6 e9 J0 K0 L0;obtain ⟨_, _, _, rfl, -⟩ := ro.open_;have o1 : E.cnts (l.take k) ≤ E.cnts l := by
  have h2 := u7a (l.take k) (l.drop k);rw [List.take_append_drop] at h2; omega
 refine wB0 rfl ⟨⟩ (fun d1 => ?_) fun d1 => ?_
 ·refine lB0 rfl ⟨⟩ (fun f1 => ?_) (fun f1 => by exfalso; omega);refine lO0 rfl ⟨⟩ ?_;have h0 : k < l.length := by omega
  obtain ⟨b, o, hA, i0, E0⟩ := F0 (by omega);obtain ⟨ck, j0, g0⟩ := E0 k h0;obtain ⟨Ak, nk, qk, rfl, -⟩ := g0.open_;obtain ⟨e1, e2, e3⟩ := P0 l[k] (List.getElem_mem h0);have j1 : l[k].cnt ≤ 600 := by obtain ⟨c1, c2⟩ := f1b l k h0; omega
  refine y0a Y0a.slT rfl (by assumption) rfl (by omega) (by omega) rfl ?_;refine t1a u1a rfl (j0.keep (S.keep0 (g6 :: g9 :: M)) i0) (by rfl) rfl ?_;refine lO0 rfl ⟨⟩ (g0a S D2c rfl rfl (F7c l[k] _ _ (g6 :: g9 :: M) _ _ (RdE.keep (S.keep0 _) _ _ g0) e3) ?_);intro D1 z0 X0;replace ro := RdE.keep (X0.of_nil) _ _ ro;refine lO0 rfl ⟨⟩ (y0a Y0a.slT rfl (by assumption) rfl (by omega) (by omega) rfl ?_);refine t1a u1a rfl (j0.keep (z0.keep0 (g6 :: g9 :: M)) i0) (by rfl) rfl ?_;refine g0a z0 j5b rfl rfl (e2c l[k] (g6 :: g9 :: M) _ _ (RdE.keep (z0.keep0 _) _ _ g0) j1) ?_;intro E1 s0 Y0;replace ro := RdE.keep (Y0.of_nil) _ _ ro;refine lOn 6 s0.k [] rfl ⟨by omega,⟨⟩⟩ ?_;cases v0 : decide (k = 0)
  ·refine w1a (v := .bool _) rfl rfl ?_;refine lC0 rfl ⟨⟩ (C0a b0a [0, 1, 2, 3, 4, 5] [] [6, 7] (by kernel_rfl) rfl (Cl _ _ _ _) (Cl.start s0) ?_);refine qO s0.q [.w 0] rfl ⟨⟨rfl,by rfl⟩,⟨⟩⟩ (k0a Y0a.slT rfl (by assumption) rfl (by omega) (by omega) rfl ?_);refine F1a u1a rfl (fun w1 hw => j0.keep (hw.1.keep0 (g6 :: g9 :: M)) i0) (by rfl) rfl ?_;refine qD rfl ⟨⟩ ?_;rintro q1 ⟨f0, A0⟩;replace ro := RdE.keep (A0.of_nil) _ _ ro;refine t0a f0 z6c rfl rfl (F6c 5 1 (by unfold i64; omega) (by unfold i64; omega) r0 l[k] _ _ (g6 :: g9 :: M) _ (fun g hg => by simp at hg; rcases hg with rfl | rfl | hg; exact f0.lt 1 rfl; exact f0.lt 0 rfl; have := hM g hg; have := f0.size; omega) ro (RdE.keep (f0.keep0 _) _ _ g0)) ?_;rintro z1 F1 ⟨_, rfl, x0⟩ W0 Z0;replace ro := RdE.keep (Z0.of_nil) _ _ ro;obtain ⟨_, _, _, rfl, -⟩ := x0.open_;refine e0a (kk := 0) (vs := [_, _, _, _]) W0 O5a rfl rfl rfl rfl rfl rfl rfl ?_;intro S0 o0 p0;dsimp only [m0a, List.set] at o0;replace ro := RdE.keep (p0.mono (by simp)) _ _ ro;replace x0 := RdE.keep (p0.mono (by simp)) _ _ x0;refine lP0 rfl ⟨by omega,by omega,⟨⟩⟩ ?_;have hs := H9a l k h0;have ct := f1b l k h0;have D0 : ¬ k = 0 := of_decide_eq_false v0;rw [if_neg D0] at hs;exact ⟨μ - 1, by omega, rfl, k + 1, _, r8c r0 l[k], by omega, by rw [hs, n0], x0, o0, rfl, rfl, rfl, rfl, rfl, congrArg Value.bool (by simp), congrArg (Value.int .i64) (by omega), rfl⟩
  refine w1a (v := .bool _) rfl rfl ?_;refine lO0 rfl ⟨⟩ (y0a Y0a.slT rfl (by assumption) rfl (by omega) (by omega) rfl ?_);refine t1a u1a rfl (j0.keep (s0.keep0 (g6 :: g9 :: M)) i0) (by rfl) rfl ?_;refine e0a (kk := 0) (vs := [_, _, _, _]) s0 O5a rfl rfl rfl rfl rfl rfl rfl ?_;intro R0 b0 t0;dsimp only [m0a, List.set] at b0;replace ro := RdE.keep (t0.mono (by simp)) _ _ ro;refine lP0 rfl ⟨by omega,⟨⟩⟩ ?_;have hs := H9a l k h0;have ct := f1b l k h0;have D0 : k = 0 := of_decide_eq_true v0;rw [if_pos D0] at hs;exact ⟨μ - 1, by omega, rfl, k + 1, _, l[k], by omega, hs.symm, RdE.keep (b0.keep0 _) _ _ g0, b0, rfl, rfl, rfl, rfl, rfl, congrArg Value.bool (by simp), congrArg (Value.int .i64) (by omega), rfl⟩
 have p1 : l.take k = l := List.take_of_length_le (by omega);rw [p1] at n0;refine lB0 rfl ⟨⟩ (fun g1 => by exfalso; omega) fun g1 => ?_;refine lO S.k [.w 0] rfl ⟨⟨rfl,by rfl⟩,⟨⟩⟩ ?_;refine g0a S V5b rfl rfl (m0b r0 (g6 :: g9 :: M) _ _ ro (by rw [n0]; exact C0)) ?_;intro G1 H0 a1;replace ro := RdE.keep (a1.of_nil) _ _ ro;refine lO H0.k [.w 0] rfl ⟨⟨rfl,by rfl⟩,⟨⟩⟩ (e0a (kk := 1) (vs := [_, _, _, _]) H0 O5a rfl rfl rfl rfl rfl rfl rfl ?_);intro T0 d0 u0;dsimp only [m0a, List.set] at d0;replace ro := RdE.keep (u0.mono (by simp)) _ _ ro;refine lR0 rfl ⟨⟩ (p1a rfl u1a rfl (d0.cells 1 rfl) rfl ⟨⟨_, rfl, ?_⟩, d0.nil.fin⟩);rw [← n0]; exact RdE.more (fun g hg => .inl (by simp [hg])) _ _ ro
theorem w0c (l : List E) (M : List Nat) (w0 : World) (vl : Value) (hL : RdL M w0 vl l) (hM : ∀ g ∈ M, g < w0.heap.size) (f0 : ∀ e ∈ l, e.wf = true ∧ e.w = 1 ∧ e.op ≠ 1) (g0 : E.cnts l + l.length ≤ 600) (d0 : (e6a l).wf = true) :
 K0a Tryz.prog 47 #[vl] w0 fun v w' => (∃ cs : List Value, v = .agg cs.toArray ∧ RdE M w' (e6a l) cs) ∧ Below w0.heap.size w0 w' := by
 obtain ⟨_, _, _, rfl, -⟩ := hL.open_;have S := St.refl w0;refine a0a Tryz.func47 rfl Tryz.ntmps47 rfl ?_;refine wO0 rfl ⟨⟩ (n0a S e7a rfl rfl ?_);intro g2 w2 S2 X2 G2;refine lO0 rfl ⟨⟩ ?_;have e0 : ∀ g ∈ g2 :: M, g ∈ M ∨ w0.heap.size ≤ g := by
  intro g hg; rcases List.mem_cons.1 hg with rfl | hg
  ·exact .inr G2
  ·exact .inl hg
 refine t0a S2 G6c rfl rfl (y7b l (g2 :: M) _ _ ((hL.more e0).keep (S2.keep0 _)) (fun g hg => by rcases List.mem_cons.1 hg with rfl | hg; exact S2.lt 0 rfl; have := hM g hg; have := S2.size; omega) f0 g0 d0) ?_;rintro v4 w4 ⟨_, rfl, r4⟩ S4 X4;obtain ⟨_, _, _, rfl, -⟩ := r4.open_
 first | refine e0a (kk := 0) (vs := [_, _, _, _]) S4 O5a rfl rfl rfl rfl rfl rfl rfl ?_
 intro h0 a0 b0;dsimp only [m0a, List.set] at a0;replace r4 := RdE.keep (b0.mono (by simp)) _ _ r4;exact lR0 rfl ⟨⟩ (p1a rfl u1a rfl (a0.cells 0 rfl) rfl ⟨⟨_, rfl, RdE.more (fun g hg => .inl (by simp [hg])) _ _ r4⟩, a0.nil.fin⟩)
instance : DecidableEq v2a := fun a b => if h : a.conf = b.conf ∧ a.frm = b.frm ∧ a.ch = b.ch then isTrue (by cases a; cases b; simp_all) else isFalse (fun e => h (by subst e; exact ⟨rfl, rfl, rfl⟩))
def q3a : E := ⟨1, 1, 1, []⟩
def L7b (n : Int) : E := ⟨2, 1, n, []⟩
def K3b (n : Int) : E := ⟨4, 1, 0, [L7b n]⟩
def K2b (nm : ByteArray) (mine other loc : Int) : Q0a := ⟨nm, 3, [q3a, q3a, q3a], [0, 0, 0], [⟨3, 0, 1, q3a, [⟨mine, q3a⟩], false, 0, 0⟩, ⟨2, 1, 2, q3a, [⟨loc, L7b other⟩], false, 0, 0⟩], [], false⟩
def J1a : f0a :=
 ⟨[⟨⟨#[77, 46, 120]⟩, 1, 0, -1, false, 0⟩, ⟨⟨#[77, 46, 121]⟩, 1, 0, -1, false, 0⟩, ⟨⟨#[97, 46, 114]⟩, 1, 1, 0, false, 0⟩, ⟨⟨#[98, 46, 115]⟩, 1, 1, 1, false, 0⟩],
  [⟨⟨#[77]⟩, ⟨#[65, 110, 110]⟩, q3a, q3a, [0, 1]⟩], [], [K2b ⟨#[97]⟩ 0 1 2, K2b ⟨#[98]⟩ 1 0 3]⟩
theorem f3a : n1a J1a := I1c (by kernel_rfl)
def Z7c : E := e6a [K3b 2, K3b 3, L7b 0, L7b 1]
def y1b : B3a := ⟨1, 2, Z7c⟩
def K6b : B3a := ⟨-1, 0, Z7c⟩
def G9a (t : Int) : B3a := ⟨t, 0, q3a⟩
def k8a : List v2a := [⟨⟨[0,0,1,1],[0,0],[[],[]]⟩,-1,⟨0,0,0⟩⟩,
⟨⟨[1,0,1,1],[1,0],[[],[]]⟩,0,⟨0,0,0⟩⟩,
⟨⟨[0,1,1,1],[0,1],[[],[]]⟩,0,⟨1,0,0⟩⟩,
⟨⟨[1,0,0,1],[2,0],[[],[]]⟩,1,⟨0,1,0⟩⟩,
⟨⟨[1,1,1,1],[1,1],[[],[]]⟩,1,⟨1,0,0⟩⟩,
⟨⟨[0,1,1,0],[0,2],[[],[]]⟩,2,⟨1,1,0⟩⟩,
⟨⟨[1,1,0,1],[2,1],[[],[]]⟩,3,⟨1,0,0⟩⟩,
⟨⟨[1,1,1,1],[2,1],[[],[]]⟩,4,⟨0,1,0⟩⟩,
⟨⟨[1,1,1,1],[1,2],[[],[]]⟩,4,⟨1,1,0⟩⟩,
⟨⟨[1,1,1,0],[1,2],[[],[]]⟩,5,⟨0,0,0⟩⟩,
⟨⟨[1,1,0,1],[2,2],[[],[]]⟩,6,⟨1,1,0⟩⟩,
⟨⟨[1,1,1,1],[2,2],[[],[]]⟩,7,⟨1,1,0⟩⟩,
⟨⟨[1,1,1,0],[2,2],[[],[]]⟩,9,⟨0,1,0⟩⟩]
def o8a : List v2a := [⟨⟨[0,0,1,1],[0,0],[[],[]]⟩,-1,⟨0,0,0⟩⟩,
⟨⟨[0,0,1,1],[1,0],[[⟨[0],[1]⟩],[]]⟩,0,⟨0,0,0⟩⟩,
⟨⟨[0,0,1,1],[0,1],[[],[⟨[1],[1]⟩]]⟩,0,⟨1,0,0⟩⟩,
⟨⟨[0,0,0,1],[2,0],[[⟨[0],[1]⟩],[]]⟩,1,⟨0,1,0⟩⟩,
⟨⟨[1,0,1,1],[1,0],[[],[]]⟩,1,⟨0,-1,0⟩⟩,
⟨⟨[0,0,1,1],[1,1],[[⟨[0],[1]⟩],[⟨[1],[1]⟩]]⟩,1,⟨1,0,0⟩⟩,
⟨⟨[0,0,1,0],[0,2],[[],[⟨[1],[1]⟩]]⟩,2,⟨1,1,0⟩⟩,
⟨⟨[0,1,1,1],[0,1],[[],[]]⟩,2,⟨1,-1,1⟩⟩,
⟨⟨[1,0,0,1],[2,0],[[],[]]⟩,3,⟨0,-1,0⟩⟩,
⟨⟨[0,0,0,1],[2,1],[[⟨[0],[1]⟩],[⟨[1],[1]⟩]]⟩,3,⟨1,0,0⟩⟩,
⟨⟨[1,0,1,1],[1,1],[[],[⟨[1],[1]⟩]]⟩,4,⟨1,0,0⟩⟩,
⟨⟨[0,0,1,0],[1,2],[[⟨[0],[1]⟩],[⟨[1],[1]⟩]]⟩,5,⟨1,1,0⟩⟩,
⟨⟨[0,1,1,1],[1,1],[[⟨[0],[1]⟩],[]]⟩,5,⟨1,-1,1⟩⟩,
⟨⟨[0,1,1,0],[0,2],[[],[]]⟩,6,⟨1,-1,1⟩⟩,
⟨⟨[1,0,0,1],[2,1],[[],[⟨[1],[1]⟩]]⟩,8,⟨1,0,0⟩⟩,
⟨⟨[0,0,0,0],[2,2],[[⟨[0],[1]⟩],[⟨[1],[1]⟩]]⟩,9,⟨1,1,0⟩⟩,
⟨⟨[0,1,0,1],[2,1],[[⟨[0],[1]⟩],[]]⟩,9,⟨1,-1,1⟩⟩,
⟨⟨[1,0,1,1],[1,2],[[],[⟨[1],[1]⟩]]⟩,10,⟨1,1,0⟩⟩,
⟨⟨[1,1,1,1],[1,1],[[],[]]⟩,10,⟨1,-1,1⟩⟩,
⟨⟨[1,0,1,0],[1,2],[[],[⟨[1],[1]⟩]]⟩,11,⟨0,-1,0⟩⟩,
⟨⟨[0,1,1,0],[1,2],[[⟨[0],[1]⟩],[]]⟩,11,⟨1,-1,1⟩⟩,
⟨⟨[0,1,1,1],[2,1],[[⟨[0],[1]⟩],[]]⟩,12,⟨0,1,0⟩⟩,
⟨⟨[1,0,0,1],[2,2],[[],[⟨[1],[1]⟩]]⟩,14,⟨1,1,0⟩⟩,
⟨⟨[1,1,0,1],[2,1],[[],[]]⟩,14,⟨1,-1,1⟩⟩,
⟨⟨[1,0,0,0],[2,2],[[],[⟨[1],[1]⟩]]⟩,15,⟨0,-1,0⟩⟩,
⟨⟨[0,1,0,0],[2,2],[[⟨[0],[1]⟩],[]]⟩,15,⟨1,-1,1⟩⟩,
⟨⟨[1,1,1,1],[1,2],[[],[]]⟩,17,⟨1,-1,1⟩⟩,
⟨⟨[1,1,1,1],[2,1],[[],[]]⟩,18,⟨0,1,0⟩⟩,
⟨⟨[1,1,1,0],[1,2],[[],[]]⟩,19,⟨1,-1,1⟩⟩,
⟨⟨[0,1,1,0],[2,2],[[⟨[0],[1]⟩],[]]⟩,20,⟨0,1,0⟩⟩,
⟨⟨[1,1,0,1],[2,2],[[],[]]⟩,22,⟨1,-1,1⟩⟩,
⟨⟨[1,1,0,0],[2,2],[[],[]]⟩,24,⟨1,-1,1⟩⟩,
⟨⟨[1,1,1,1],[2,2],[[],[]]⟩,26,⟨0,1,0⟩⟩,
⟨⟨[1,1,1,0],[2,2],[[],[]]⟩,28,⟨0,1,0⟩⟩]
def n8c (p : f0a) (m : Int) (W : List v2a) : Nat → Nat → Nat → Bool
 | 0, n, k => decide (n = k) && decide (k = W.length)
 | f + 1, n, k => match W[n]? with
   | some v => decide (n < k) && (decide (p0b p m n v.conf (W.take k) (I0a p m v.conf) = W.take (p0b p m n v.conf (W.take k) (I0a p m v.conf)).length) && n8c p m W f (n + 1) (p0b p m n v.conf (W.take k) (I0a p m v.conf)).length)
   | none => false
theorem J4b {p : f0a} {m : Int} {W : List v2a} : ∀ (f n k : Nat), M2a p m n = W.take k → n8c p m W f n k = true → M2a p m (n + f) = W ∧ n + f = W.length
 | 0, n, k, hb, h => by
   simp only [n8c, Bool.and_eq_true, decide_eq_true_eq] at h;obtain ⟨rfl, rfl⟩ := h;exact ⟨by rw [Nat.add_zero, hb, List.take_length], by omega⟩
 | f + 1, n, k, hb, h => by
   rw [n8c] at h;rcases hv : W[n]? with _ | v
   ·rw [hv] at h; cases h
   ·rw [hv] at h;simp only [Bool.and_eq_true, decide_eq_true_eq] at h;obtain ⟨h1, h2, h3⟩ := h;have hn : (M2a p m n)[n]? = some v := by rw [hb, List.getElem?_take, if_pos h1, hv]
    obtain ⟨q1, q2⟩ := J4b f (n + 1) _ (by rw [q3b hn, hb]; exact h2) h3;rw [show n + (f + 1) = n + 1 + f by omega];exact ⟨q1, q2⟩
theorem W7a : M2a J1a 0 13 = k8a := (J4b 13 0 1 (by decide +kernel) (by kernel_rfl)).1
theorem v7a : M2a J1a 1 34 = o8a := (J4b 34 0 1 (by decide +kernel) (by kernel_rfl)).1
theorem N7a {p : f0a} {m : Int} {n a0 : Nat} {W : List v2a} {l : List s0a} {b0 : Int} (hW : M2a p m n = W) (hn : W.length ≤ n) (h : L5b p m a0 l b0) : (W.length ≤ a0 → b0 = 0 ∧ l = b2a W) ∧ (a0 < W.length → b0 = 2 ∧ l = []) := by
 subst hW;rcases h with ⟨rfl, k, h1, h2, rfl⟩ | ⟨rfl, rfl, V, hV, hl⟩
 ·rw [y9a h1 hn] at h2 ⊢;exact ⟨fun _ => ⟨rfl, rfl⟩, fun h => by omega⟩
 ·have := (hV.done hn).length_le;exact ⟨fun h => by omega, fun _ => ⟨rfl, rfl⟩⟩
theorem E6b {p : f0a} {m : Int} {b0 : Bool} {acc : s0a → Bool} {n a0 : Nat} {W : List v2a} {v : List A0a} {h : Int} (hW : M2a p m n = W) (hn : W.length ≤ n) (hl : W.length ≤ a0) (ha : b0 = true) (d0 : ∀ y ∈ W, acc y.conf = false) (hf : P9b p m b0 acc a0 v h) : h = 4 := by
 subst hW;rcases hf with ⟨h1, _⟩ | ⟨k, V, q1, q2, q3, q4, ⟨y, q5, q6⟩, _⟩ | ⟨_, _, _, V, q1, q2, _⟩ | ⟨_, h1, _⟩
 ·rw [ha] at h1; cases h1
 ·have := d0 y (List.mem_of_getElem? (M3a (q1.done hn) q5));rw [q6] at this; cases this
 ·have := (q1.done hn).length_le; omega
 ·exact h1
theorem G0b {p : f0a} {m : Int} {g0 : Bool} {acc : s0a → Bool} {n a0 k : Nat} {W : List v2a} {v : List A0a} {h : Int} {y : v2a} (hW : M2a p m n = W) (hk : k < a0) (ha : g0 = true) (j0 : (W.take k).all (fun y => !acc y.conf) = true) (hy : W[k]? = some y) (b0 : acc y.conf = true) (hf : P9b p m g0 acc a0 v h) :
 (B4a (W.take (k + 1)) (k + 1) k).length ≤ 120 → h = 0 ∧ v = (B4a (W.take (k + 1)) (k + 1) k).reverse := by
 have hV : N3a p m W := ⟨n, by rw [hW]; exact List.prefix_refl _⟩;have n0 := (List.getElem?_eq_some_iff.1 hy).1;have f0 : ∀ j x, j < k → W[j]? = some x → acc x.conf = false := fun j x hj hx => by
  have := List.all_eq_true.1 j0 x (List.mem_of_getElem? (by rw [List.getElem?_take, if_pos hj]; exact hx));simpa using this
 intro hp;rcases hf with ⟨h1, _⟩ | ⟨k', V, q1, q2, q3, q4, ⟨x, q5, q6⟩, _, q7⟩ | ⟨_, _, _, V, q1, q2, q3⟩ | ⟨_, _, _, j, q1, q2, q3⟩
 ·rw [ha] at h1; cases h1
 ·have i0 : k' = k := by
   rcases Nat.lt_trichotomy k' k with e0 | he | e0
   ·have h1 := f0 k' x e0 (M3a (q1.cmp hV (by omega)) q5);rw [q6] at h1; cases h1
   ·exact he
   ·have d0 : V.length ≤ W.length ∨ W.length ≤ V.length := by omega
    have h1 : V[k]? = some y := by
     rcases d0 with h | h
     ·obtain ⟨t, rfl⟩ := q1.cmp hV h
      rwa [List.getElem?_append_left (by omega)] at hy
     ·exact M3a (hV.cmp q1 h) hy
    have h2 := q4 k y e0 h1;rw [b0] at h2; cases h2
  subst i0;have h0 : V = W.take (k' + 1) := by
   have := q1.cmp hV (by omega);rw [List.prefix_iff_eq_take.1 this, q2]
  subst h0;rcases q7 with ⟨q8, _⟩ | ⟨_, h1, h2⟩
  ·omega
  ·exact ⟨h1, h2⟩
 ·have d0 : V.length ≤ W.length ∨ W.length ≤ V.length := by omega
  have h1 : V[k]? = some y := by
   rcases d0 with h | h
   ·obtain ⟨t, rfl⟩ := q1.cmp hV h
    rwa [List.getElem?_append_left (by omega)] at hy
   ·exact M3a (hV.cmp q1 h) hy
  have h2 := q3 k y hk h1;rw [b0] at h2; cases h2
 ·have h2 := q3 y (List.mem_of_getElem? (M3a (hV.done q1) hy));rw [b0] at h2; cases h2
theorem f2c : k8a.all (fun y => !E2a y.conf y1b) = true := by kernel_rfl
theorem Y1c : (o8a.take 31).all (fun y => !E2a y.conf K6b) = true := by kernel_rfl
theorem V1c : E2a ⟨[1, 1, 0, 0], [2, 2], [[], []]⟩ K6b = true := by kernel_rfl
theorem H5b : (B4a (o8a.take 32) 32 31).length = 6 := by kernel_rfl
theorem e6b : (B4a (k8a.take 1) 1 0).length = 0 := by kernel_rfl
theorem M0c : E2a (m1a J1a) (G9a (-1)) = true := by kernel_rfl
theorem E4c : m5a J1a y1b = true := by kernel_rfl
theorem t4c : m5a J1a K6b = true := by kernel_rfl
theorem Q4c : m5a J1a (G9a (-1)) = true := by kernel_rfl
theorem K4c : m5a J1a (G9a 2) = false := by kernel_rfl
theorem q0c : (m5a J1a (G9a 1) && E2a (m1a J1a) (G9a 1)) = true := by kernel_rfl
theorem b2c : (m5a J1a y1b && E2a (m1a J1a) y1b) = false := by kernel_rfl
def q7c (p : f0a) (m : Int) (c : s0a) : List A0a → List s0a
 | [] => []
 | x :: l => if x ∈ I0a p m c then doC p m c x :: q7c p m (doC p m c x) l else []
def f8c (p : f0a) (m : Int) (run : List A0a) : List s0a := m1a p :: q7c p m (m1a p) run
structure N2c (p : f0a) (m : Int) (run : List A0a) (l : Nat) (Bs0 M0 : List Nat) (w0 : World) (J : Nat → Nat → List Nat → World → Prop) (Q : World → Prop) : Prop where
 start : ∀ g5 w, w0.heap.size ≤ g5 → Below w0.heap.size w0 w → J g5 0 Bs0 w
 own : ∀ g5 k Bs w w', w0.heap.size ≤ g5 → g5 ∉ Bs → J g5 k Bs w → x0a [g5] w w' → J g5 k Bs w'
 lt : ∀ g5 k Bs w, J g5 k Bs w → ∀ g ∈ Bs, g < w.heap.size
 each : ∀ g5 k Bs w c ys (err : Int), w0.heap.size ≤ g5 → g5 < w.heap.size → g5 ∉ Bs → J g5 k Bs w → u0a Bs0 w0 w → ((err = 0 ∧ (f8c p m run)[k]? = some c) ∨ (err = 110 ∧ k = (f8c p m run).length ∧ (f8c p m run).length ≤ run.length ∧ c = ⟨[], [], []⟩)) → w0a (g5 :: (Bs ++ M0)) w c ys →
  Yld Tryz.prog l #[.agg ys.toArray, .int .i64 err] w fun v w' => (err = 0 ∧ v = .bool true ∧ ∃ Bs', J g5 (k + 1) Bs' w' ∧ u0a Bs w w' ∧ ∀ g ∈ Bs', g ∈ Bs ∨ w.heap.size ≤ g) ∨ (err = 110 ∧ v = .bool false ∧ Q w')
section
variable {p : f0a} {m : Int} {run : List A0a} {l : Nat} {Bs0 M0 : List Nat} {w0 : World} {J : Nat → Nat → List Nat → World → Prop} {Q : World → Prop}
theorem N2c.round (h : N2c p m run l Bs0 M0 w0 J Q) : ∀ g5 k Bs w c ys, w0.heap.size ≤ g5 → g5 < w.heap.size → g5 ∉ Bs → J g5 k Bs w → u0a Bs0 w0 w → (f8c p m run)[k]? = some c → w0a (g5 :: (Bs ++ M0)) w c ys → Yld Tryz.prog l #[.agg ys.toArray, .int .i64 0] w fun v w' => v = .bool true ∧ ∃ a0, J g5 (k + 1) a0 w' ∧ u0a Bs w w' ∧ ∀ g ∈ a0, g ∈ Bs ∨ w.heap.size ≤ g :=
 fun g5 k Bs w c ys h1 h2 h3 h4 h5 h6 h7 => (h.each g5 k Bs w c ys 0 h1 h2 h3 h4 h5 (.inl ⟨rfl, h6⟩) h7).mono fun v w' hh => by
  rcases hh with ⟨_, hh⟩ | ⟨hh, _⟩
  ·exact hh
  ·omega
end
theorem w0a.grow {c : s0a} {ys : List Value} {g5 : Nat} {Bs a0 M0 : List Nat} {w w' : World} (h : w0a (g5 :: (Bs ++ M0)) w c ys) (hk : u0a Bs w w') (hb : ∀ g ∈ a0, g ∈ Bs ∨ w.heap.size ≤ g) : w0a (g5 :: (a0 ++ M0)) w' c ys := by
 have h1 : w0a (Bs ++ (g5 :: (a0 ++ M0))) w c ys := h.more fun g hg => by
  simp only [List.mem_append, List.mem_cons] at hg ⊢;rcases hg with hg | rfl | hg | hg
  ·exact .inl (.inr (.inl hg))
  ·exact .inl (.inl rfl)
  ·rcases hb g hg with h | h
   ·exact .inl (.inr (.inl h))
   ·exact .inr h
  ·exact .inl (.inr (.inr hg))
 exact (h1.keep (hk.mono fun g hg => List.mem_append_left _ hg)).less fun g hg => List.mem_append_right _ hg
theorem St.other {M : List Nat} {w0 w w' : World} {L : List Ent} (S : St M w0 w L) {g : Nat} (hb : x0a [g] w w') (hg : w0.heap.size ≤ g) (hn : g ∉ B8a L) : St M w0 w' L := by
 refine ⟨⟨hb.os.trans S.below.os, hb.tape.trans S.below.tape, hb.output.trans S.below.output, Nat.le_trans S.below.size hb.size, fun k hk hm => ?_⟩, fun b hm x hx => ?_, S.apart⟩
 ·rw [hb.block k (Nat.lt_of_lt_of_le hk S.below.size) (by rw [List.mem_singleton]; omega)];exact S.below.block k hk hm
 ·obtain ⟨h1, h2⟩ := S.own b hm x hx;refine ⟨h1, ?_⟩;have a0 := h2.lt;unfold p0a at *;rw [hb.block x a0 (by rw [List.mem_singleton]; rintro rfl; exact hn (x3a.2 ⟨b, hm, hx⟩))];exact h2
section
variable {P : Program} {r : Option Nat} {N : Nat} {D : List Deferred} {e : Env} {w : World} {ops : Array Oper} {rest : List Oper} {K : List Deferred → Env → World → Prop}
variable {d : Nat} {t : TypeId} {p : String} {af : Array Edge} {x y : Operand} {xt yt : TypeId} {kd : IntKind} {a b : Int} {C : World → Prop} {Kq : Env → Prop}
theorem X1c (w : World) (h0 : 0 ≤ a) (h1 : 0 < b) : (Op.intDiv .rem kd a b).run P w = .ok (.int kd (a % b)) w := by
 have hb : b ≠ 0 := by omega
 have ht : a.tmod b = a % b := Int.tmod_eq_emod_of_nonneg h0;simp [Op.intDiv, hb, ht]
theorem C3c (hx : ev e x = .int kd a) (hy : ev e y = .int kd b) (h0 : 0 ≤ a) (h1 : 0 < b) (hd : Nat.ble (d + 1) N = true) (h : WL P r N ops rest K D (upd e d (.int kd (a % b))) w) :
 WL P r N ops (⟨some d, .binOp .rem xt x y yt, t, p, af, none⟩ :: rest) K D e w :=
 Z0a rfl rfl hd (by simp) (by simp [execOp, hx, hy, eqGuard, binOp, X1c w h0 h1]) h
end
section
variable {α : Type} {M : List Nat} {w : World} {size : Nat} {R : List Value → α → Prop} {g : Nat}
theorem R1b {css : List (List Value)} {l : List α} {n : Nat} (hg : g ∉ M) (hc : g1a w g 0 css.flatten) (hn : n = l.length) (hl : css.length = l.length) (a0 : l.length ≤ 1000000) (h4 : ∀ x ∈ css, x.length = size) (hR : ∀ (i : Nat) (x : α), l[i]? = some x → ∃ c, css[i]? = some c ∧ R c x) : RdS M w size R (.slice (some ⟨g, 0, none⟩) n n) l := by
 subst hn;refine ⟨_, _, _, rfl, rfl, Nat.le_refl _, by unfold maxLen; omega, by omega, fun _ => ⟨g, 0, rfl, hg, fun i x hi => ?_⟩⟩;obtain ⟨c, h5, h6⟩ := hR i x hi;exact ⟨c, h4 c (List.mem_of_getElem? h5), fun j u hj => by simpa using hc _ u (N1c css i c h4 h5 j u hj), h6⟩
theorem J5c {c : List Value} {x : α} (hg : g ∉ M) (hc : g1a w g 0 c) (h4 : c.length = size) (hr : R c x) : RdS M w size R (.slice (some ⟨g, 0, none⟩) 1 1) [x] :=
 R1b (css := [c]) hg (by simpa using hc) rfl rfl (by simp) (by simpa using h4) (fun i y hi => by
  match i, hi with
  | 0, hi => cases hi; exact ⟨c, rfl, hr⟩)
theorem z7c {c c2 : List Value} {x x2 : α} (hg : g ∉ M) (hc : g1a w g 0 (c ++ c2)) (h4 : c.length = size) (h5 : c2.length = size) (hr : R c x) (a0 : R c2 x2) : RdS M w size R (.slice (some ⟨g, 0, none⟩) 2 2) [x, x2] :=
 R1b (css := [c, c2]) hg (by simpa using hc) rfl rfl (by simp) (by simpa using ⟨h4, h5⟩) (fun i y hi => by
  match i, hi with
  | 0, hi => cases hi; exact ⟨c, rfl, hr⟩
  | 1, hi => cases hi; exact ⟨c2, rfl, a0⟩)
theorem K8c {c c2 c3 : List Value} {x x2 x3 : α} (hg : g ∉ M) (hc : g1a w g 0 (c ++ (c2 ++ c3))) (h4 : c.length = size) (h5 : c2.length = size) (h6 : c3.length = size) (hr : R c x) (a0 : R c2 x2) (b0 : R c3 x3) : RdS M w size R (.slice (some ⟨g, 0, none⟩) 3 3) [x, x2, x3] :=
 R1b (css := [c, c2, c3]) hg (by simpa using hc) rfl rfl (by simp) (by simpa using ⟨h4, h5, h6⟩) (fun i y hi => by
  match i, hi with
  | 0, hi => cases hi; exact ⟨c, rfl, hr⟩
  | 1, hi => cases hi; exact ⟨c2, rfl, a0⟩
  | 2, hi => cases hi; exact ⟨c3, rfl, b0⟩)
end
theorem d3a {P : Program} {f : FuncId} {args : Array Value} {w : World} {b : Bool} (h : K0a P f args w fun v w' => v = .bool b ∧ Below w.heap.size w w') (hb : b = true) : K0a P f args w fun v w' => v = .bool true ∧ Below w.heap.size w w' := by
 subst hb; exact h
theorem b7b {P : Program} {f : FuncId} {args : Array Value} {w : World} {b : Bool} (h : K0a P f args w fun v w' => v = .bool b ∧ Below w.heap.size w w') (hb : b = false) : K0a P f args w fun v w' => v = .bool false ∧ Below w.heap.size w w' := by
 subst hb; exact h
def M1c : Value → Prop := fun u => ∃ a0 a1 a2 a3 a4 a5 a6, u = .agg #[a0, a1, a2, a3, a4, a5, a6]
def thQ (M : List Nat) (t : Q0a) : Value → World → Prop := fun u w => ∃ cs : List Value, u = .agg cs.toArray ∧ L0a M w cs t
theorem c0b : ∃ u, M1c u := ⟨_, undef, undef, undef, undef, undef, undef, undef, rfl⟩
theorem E5b (M : List Nat) (t : Q0a) : ∀ u w w', u0a [] w w' → thQ M t u w → thQ M t u w' := fun _ _ _ k ⟨cs, h, hr⟩ => ⟨cs, h, L0a.keep k.of_nil _ _ hr⟩
theorem z7b {M : List Nat} {t : Q0a} {u : Value} {w : World} (h : thQ M t u w) : M1c u := by
 obtain ⟨_, rfl, hr⟩ := h;obtain ⟨_, _, _, _, rfl, -⟩ := hr;exact ⟨_, _, _, _, _, _, _, rfl⟩
theorem e9c {M : List Nat} {w : World} {a b c d : E} {ca cb cc cd : List Value} {g : Nat} (hg : g ∉ M) (hc : g1a w g 0 (ca ++ (cb ++ (cc ++ cd)))) (ha : RdE M w a ca) (hb : RdE M w b cb) (a0 : RdE M w c cc) (hd : RdE M w d cd) : RdL M w (.slice (some ⟨g, 0, none⟩) 4 4) [a, b, c, d] := by
 have la := ha.length;have lb := hb.length;have lc := a0.length;refine RdL.made rfl (by omega) (by unfold maxLen; omega) (by omega) (fun _ => ⟨g, 0, rfl, hg, fun i hi => ?_⟩);have b0 : i < 4 := hi;rcases (show i = 0 ∨ i = 1 ∨ i = 2 ∨ i = 3 by omega) with rfl | rfl | rfl | rfl
 ·refine ⟨ca, fun j v hj => ?_, ha⟩;have hl : j < ca.length := (List.getElem?_eq_some_iff.1 hj).1;have := hc j v (by rw [List.getElem?_append_left hl]; exact hj);simpa using this
 ·refine ⟨cb, fun j v hj => ?_, hb⟩;have hl : j < cb.length := (List.getElem?_eq_some_iff.1 hj).1;have := hc (4 + j) v (by rw [List.getElem?_append_right (by omega), List.getElem?_append_left (by omega), la]; simpa using hj);simpa using this
 ·refine ⟨cc, fun j v hj => ?_, a0⟩;have hl : j < cc.length := (List.getElem?_eq_some_iff.1 hj).1;have := hc (8 + j) v (by rw [List.getElem?_append_right (by omega), List.getElem?_append_right (by omega), List.getElem?_append_left (by omega), la, lb, show 8 + j - 4 - 4 = j by omega]; exact hj);simpa using this
 ·refine ⟨cd, fun j v hj => ?_, hd⟩;have := hc (12 + j) v (by rw [List.getElem?_append_right (by omega), List.getElem?_append_right (by omega), List.getElem?_append_right (by omega), la, lb, lc, show 12 + j - 4 - 4 - 4 = j by omega]; exact hj);simpa using this
theorem Y8c {α : Type} {M : List Nat} {w : World} {size : Nat} {R : List Value → α → Prop} {g : Nat} {c c2 c3 c4 : List Value} {x x2 x3 x4 : α} (hg : g ∉ M) (hc : g1a w g 0 (c ++ (c2 ++ (c3 ++ c4)))) (h4 : c.length = size) (h5 : c2.length = size) (h6 : c3.length = size) (h7 : c4.length = size) (hr : R c x) (a0 : R c2 x2) (b0 : R c3 x3) (d0 : R c4 x4) : RdS M w size R (.slice (some ⟨g, 0, none⟩) 4 4) [x, x2, x3, x4] :=
 R1b (css := [c, c2, c3, c4]) hg (by simpa using hc) rfl rfl (by simp) (by simpa using ⟨h4, h5, h6, h7⟩) (fun i y hi => by
  match i, hi with
  | 0, hi => cases hi; exact ⟨c, rfl, hr⟩
  | 1, hi => cases hi; exact ⟨c2, rfl, a0⟩
  | 2, hi => cases hi; exact ⟨c3, rfl, b0⟩
  | 3, hi => cases hi; exact ⟨c4, rfl, d0⟩)
theorem h3b (nm : ByteArray) (f0 a0 j0 : Int) (h1 : i64 f0) (h2 : i64 a0) (h3 : i64 j0) (g : Nat) (M : List Nat) (w0 : World) (hM : ∀ x ∈ M, x < w0.heap.size) (hc : g1a w0 g 0 [.int .i64 1, .int .i64 1, .int .i64 1, .slice none 0 0]) :
 K0a Tryz.prog 44 #[.string nm, .int .i64 f0, .int .i64 a0, .int .i64 j0, .pointer (some ⟨g, 0, none⟩)] w0 fun v w' => (∃ cs : List Value, v = .agg cs.toArray ∧ L0a M w' cs (K2b nm f0 a0 j0)) ∧ Below w0.heap.size w0 w' := by
 have S := St.refl w0;have i0 : i64 0 := by unfold i64; omega
 have i1 : i64 1 := by unfold i64; omega
 have i2 : i64 2 := by unfold i64; omega
 have i3 : i64 3 := by unfold i64; omega
 refine a0a Tryz.func44 rfl Tryz.ntmps44 rfl ?_;refine wO0 rfl ⟨⟩ (n0a S e3b rfl rfl ?_);intro g9 w9 S9 X9 G9;refine lC0 rfl ⟨⟩ (I3b b0a [0, 1, 2, 3, 4, 5, 6, 7, 8, 9, 10, 11, 12, 13, 14, 15, 16, 17, 18, 19, 20] 21 (by kernel_rfl) (by kernel_rfl) (Cl _ _ _ _) (Cl.start S9) (fun i => if i = 15 then some (45, #[.int .i64 a0, .int .i64 1], eqQ (.agg #[.int .i64 2, .int .i64 1, .int .i64 a0, .slice none 0 0]), noQ) else none) ?_ _ rfl ?_)
 ·intro i f a Qp Qw hi;by_cases h0 : i = 15
  ·subst h0; cases hi; exact ⟨⟨_, rfl⟩, fun _ _ _ _ _ => trivial, fun w hC => (b6b _ _ _).mono fun u w' hr => ⟨⟨hr.1, trivial⟩, hC.later hr.2⟩⟩
  ·simp only [h0, if_false] at hi; cases hi
 refine j5a rfl rfl ?_;refine d1a (by conv => lhs; whnf) rfl ?_;refine d0a ?_;refine j5a rfl rfl ?_;refine F1a u1a rfl (fun w1 hw => hc.keep (hw.1.keep0 []) (by simp)) (by rfl) rfl ?_;refine d0a ?_;refine j5a rfl rfl ?_;refine F1a u1a rfl (fun w1 hw => hc.keep (hw.1.keep0 []) (by simp)) (by rfl) rfl ?_;refine d0a ?_;refine j5a rfl rfl ?_;refine F1a u1a rfl (fun w1 hw => hc.keep (hw.1.keep0 []) (by simp)) (by rfl) rfl ?_;refine d0a ?_;refine T3a rfl rfl rfl Y0a (vs := [.agg _, .agg _, .agg _]) (cs := [_, _, _, _, _, _, _, _, _, _, _, _]) (by rfl) rfl rfl rfl rfl rfl ?_;intro G0 A0 t0;refine T3a rfl rfl rfl V0a (vs := [.int .i64 _, .int .i64 _, .int .i64 _]) (cs := [_, _, _]) (by rfl) rfl rfl rfl rfl rfl ?_;intro H0 B0 u0;refine j5a rfl rfl ?_;refine F1a u1a rfl (fun w1 hw => hc.keep (hw.1.keep0 []) (by simp)) (by rfl) rfl ?_;refine d0a ?_;refine j5a rfl rfl ?_;refine d1a (v := .int .i64 _) rfl rfl ?_;refine d0a ?_;refine j5a rfl rfl ?_;refine F1a u1a rfl (fun w1 hw => hc.keep (hw.1.keep0 []) (by simp)) (by rfl) rfl ?_;refine d0a ?_;refine j5a rfl rfl ?_;refine g2a a3c (vs := [(0, .int .i64 _), (1, .agg _)]) (cs := [_, _, _, _, _]) rfl rfl rfl rfl ?_;refine d0a ?_;refine T3a rfl rfl rfl q8a (vs := [.agg _]) (cs := [_, _, _, _, _]) (by rfl) rfl rfl rfl rfl rfl ?_;intro I0 C0 v0;refine j5a rfl rfl ?_;refine g2a d3c (vs := [(0, .int .i64 _), (1, .int .i64 _), (2, .int .i64 _), (3, .agg _), (4, .slice _ _ _)]) (cs := [_, _, _, _, _, _, _, _, _, _, _]) rfl rfl rfl rfl ?_;refine d0a ?_;refine j5a rfl rfl ?_;refine F1a u1a rfl (fun w1 hw => hc.keep (hw.1.keep0 []) (by simp)) (by rfl) rfl ?_;refine d0a ?_;refine j5a rfl rfl ?_;refine d1a (v := .int .i64 _) rfl rfl ?_;refine d0a ?_;refine j5a rfl rfl ?_;refine d1a (v := .int .i64 _) rfl rfl ?_;refine d0a ?_;refine c5c B5b rfl rfl rfl rfl rfl ?_;refine j5a rfl rfl ?_;refine g2a a3c (vs := [(0, .int .i64 _), (1, .agg _)]) (cs := [_, _, _, _, _]) rfl rfl rfl rfl ?_;refine d0a ?_;refine T3a rfl rfl rfl q8a (vs := [.agg _]) (cs := [_, _, _, _, _]) (by rfl) rfl rfl rfl rfl rfl ?_;intro J0 D0 x0;refine j5a rfl rfl ?_;refine g2a d3c (vs := [(0, .int .i64 _), (1, .int .i64 _), (2, .int .i64 _), (3, .agg _), (4, .slice _ _ _)]) (cs := [_, _, _, _, _, _, _, _, _, _, _]) rfl rfl rfl rfl ?_;refine d0a ?_;refine T3a rfl rfl rfl P2c (vs := [.agg _, .agg _]) (cs := [_, _, _, _, _, _, _, _, _, _, _, _, _, _, _, _, _, _, _, _, _, _]) (by rfl) rfl rfl rfl rfl rfl ?_;intro K0 E0 y0;refine j5a rfl rfl ?_;refine g2a a8c (vs := [(0, .string _), (1, .int .i64 _), (2, .slice _ _ _), (3, .slice _ _ _), (4, .slice _ _ _)]) (cs := [_, _, _, _, _, _, _]) rfl rfl rfl rfl ?_;refine d0a ?_;refine S5b ?_;rintro L0 ⟨e0, _⟩ ⟨⟨⟨⟨⟨-, o0⟩, p0⟩, q0⟩, r0⟩, s0⟩;clear t0;replace e0 := e0.push_new S9 o0 A0;replace e0 := e0.push_more (L1 := [_]) S9 p0 B0 (by simpa [eq_comm] using u0);replace e0 := e0.push_more (L1 := [_, _]) S9 q0 C0 (by simpa [eq_comm] using v0);replace e0 := e0.push_more (L1 := [_, _, _]) S9 r0 D0 (by simpa [eq_comm] using x0);replace e0 := e0.push_more (L1 := [_, _, _, _]) S9 s0 E0 (by simpa [eq_comm] using y0);refine e0a (kk := 5) (vs := [_, _, _, _, _, _, _]) e0 z3b rfl rfl rfl rfl rfl rfl rfl ?_;intro b0 g0 z0;dsimp only [m0a, List.set] at g0;refine R0a ⟨rfl, ?_⟩;refine fR0 rfl ⟨⟩ ?_;have SF := g0;have d0 : RdE M b0 q3a [.int .i64 1, .int .i64 1, .int .i64 1, .slice none 0 0] := k3a i1 i1 i1;have n0 : RdE M b0 (L7b a0) [.int .i64 2, .int .i64 1, .int .i64 a0, .slice none 0 0] := k3a i2 i1 h2;have s1 : i3c M b0 (.slice (some ⟨I0, 0, none⟩) 1 1) [⟨f0, q3a⟩] := J5c (S0a hM (SF.new 2 rfl)) (SF.cells 2 rfl) rfl ⟨_, rfl, h1, d0⟩;have s2 : i3c M b0 (.slice (some ⟨J0, 0, none⟩) 1 1) [⟨j0, L7b a0⟩] := J5c (S0a hM (SF.new 1 rfl)) (SF.cells 1 rfl) rfl ⟨_, rfl, h3, n0⟩;have F0 : P6c M b0 (.slice (some ⟨G0, 0, none⟩) 3 3) [q3a, q3a, q3a] := K8c (c := [_, _, _, _]) (c2 := [_, _, _, _]) (c3 := [_, _, _, _]) (S0a hM (SF.new 4 rfl)) (SF.cells 4 rfl) rfl rfl rfl d0 d0 d0;have m1 : RdI M b0 (.slice (some ⟨H0, 0, none⟩) 3 3) [0, 0, 0] := E4a SF (k := 3) rfl (S0a hM (SF.new 3 rfl)) rfl (by omega) (by simp [i0]);have st : e8c M b0 (.slice (some ⟨K0, 0, none⟩) 2 2) [⟨3, 0, 1, q3a, [⟨f0, q3a⟩], false, 0, 0⟩, ⟨2, 1, 2, q3a, [⟨j0, L7b a0⟩], false, 0, 0⟩] := z7c (c := [_, _, _, _, _, _, _, _, _, _, _]) (c2 := [_, _, _, _, _, _, _, _, _, _, _]) (S0a hM (SF.new 0 rfl)) (SF.cells 0 rfl) rfl rfl ⟨_, _, _, _, _, rfl, i3, i0, i1, i0, i0, d0, s1⟩ ⟨_, _, _, _, _, rfl, i2, i1, i2, i0, i0, d0, s2⟩;exact p1a rfl E8b rfl (SF.cells 5 rfl) rfl ⟨⟨_, rfl, _, _, _, _, rfl, i3, F0, m1, st, u4a⟩, SF.fin⟩
theorem m2c (w0 : World) :
 K0a Tryz.prog 18 #[] w0 fun v w' => (∃ cs : List Value, v = .agg cs.toArray ∧ i1a [] w' J1a cs) ∧ Below w0.heap.size w0 w' := by
 have S := St.refl w0;have i0 : i64 0 := by unfold i64; omega
 have i1 : i64 1 := by unfold i64; omega
 have i2 : i64 2 := by unfold i64; omega
 have i3 : i64 3 := by unfold i64; omega
 have im : i64 (-1) := by unfold i64; omega
 refine a0a Tryz.func18 rfl Tryz.ntmps18 rfl ?_;refine wO0 rfl ⟨⟩ (n0a S J4c rfl rfl ?_);intro g0 w0 S0 X0 G0;refine lO0 rfl ⟨⟩ (g0a S0 a0b rfl rfl (z9a _ _ _) ?_);intro w3 S3 X3;refine n0a S3 e7a rfl rfl ?_;intro g1 w1 S1 X1 G1;refine e0a (kk := 0) (vs := [_, _, _, _]) S1 O5a rfl rfl rfl rfl rfl rfl rfl ?_;intro N0 d0 F0;dsimp only [m0a, List.set] at d0;refine lO0 rfl ⟨⟩ (D1a rfl rfl ?_);refine lC0 rfl ⟨⟩ (I3b b0a [0, 1, 2, 3, 4, 5, 6, 7, 8, 9, 10, 11, 12, 13, 14, 15] 16 (by kernel_rfl) (by kernel_rfl) (Cl _ _ _ _) (Cl.start d0) (fun i => if i = 11 then some (44, #[.string ⟨#[97]⟩, .int .i64 0, .int .i64 1, .int .i64 2, .pointer (some ⟨g1, 0, none⟩)], M1c, thQ [g0] (K2b ⟨#[97]⟩ 0 1 2)) else if i = 13 then some (44, #[.string ⟨#[98]⟩, .int .i64 1, .int .i64 0, .int .i64 3, .pointer (some ⟨g1, 0, none⟩)], M1c, thQ [g0] (K2b ⟨#[98]⟩ 1 0 3)) else none) ?_ _ rfl ?_)
 ·intro i f a Qp Qw hi;by_cases p0 : i = 11
  ·subst p0; cases hi; exact ⟨c0b, E5b _ _, fun w hC => (h3b ⟨#[97]⟩ 0 1 2 i0 i1 i2 g1 [g0] w (fun g hg => by rw [List.mem_singleton] at hg; subst hg; exact hC.1.lt 1 rfl) (hC.1.cells 0 rfl)).mono (fun u w' hr => ⟨⟨z7b hr.1, hr.1⟩, hC.later hr.2⟩)⟩
  by_cases q0 : i = 13
  ·subst q0; cases hi; exact ⟨c0b, E5b _ _, fun w hC => (h3b ⟨#[98]⟩ 1 0 3 i1 i0 i3 g1 [g0] w (fun g hg => by rw [List.mem_singleton] at hg; subst hg; exact hC.1.lt 1 rfl) (hC.1.cells 0 rfl)).mono (fun u w' hr => ⟨⟨z7b hr.1, hr.1⟩, hC.later hr.2⟩)⟩
  ·simp only [p0, q0, if_false] at hi; cases hi
 refine j5a rfl rfl ?_;refine g2a s1b (vs := [(0, .string _), (1, .int .i64 _), (3, .int .i64 _)]) (cs := [_, _, _, _, _, _]) rfl rfl rfl rfl ?_;refine d0a ?_;refine j5a rfl rfl ?_;refine g2a s1b (vs := [(0, .string _), (1, .int .i64 _), (3, .int .i64 _)]) (cs := [_, _, _, _, _, _]) rfl rfl rfl rfl ?_;refine d0a ?_;refine j5a rfl rfl ?_;refine g2a s1b (vs := [(0, .string _), (1, .int .i64 _), (2, .int .i64 _)]) (cs := [_, _, _, _, _, _]) rfl rfl rfl rfl ?_;refine d0a ?_;refine j5a rfl rfl ?_;refine g2a s1b (vs := [(0, .string _), (1, .int .i64 _), (2, .int .i64 _), (3, .int .i64 _)]) (cs := [_, _, _, _, _, _]) rfl rfl rfl rfl ?_;refine d0a ?_;refine T3a rfl rfl rfl p5a (vs := [.agg _, .agg _, .agg _, .agg _]) (cs := [_, _, _, _, _, _, _, _, _, _, _, _, _, _, _, _, _, _, _, _, _, _, _, _]) (by rfl) rfl rfl rfl rfl rfl ?_;intro g9 G9 L0;refine j5a rfl rfl ?_;refine F1a u1a rfl (fun w1 hw => hw.1.cells 0 rfl) rfl rfl ?_;refine d0a ?_;refine j5a rfl rfl ?_;refine F1a u1a rfl (fun w1 hw => hw.1.cells 0 rfl) rfl rfl ?_;refine d0a ?_;refine T3a rfl rfl rfl V0a (vs := [.int .i64 _, .int .i64 _]) (cs := [_, _]) (by rfl) rfl rfl rfl rfl rfl ?_;intro H0 C0 y0;refine j5a rfl rfl ?_;refine g2a X5c (vs := [(0, .string _), (1, .string _), (2, .agg _), (3, .agg _), (4, .slice _ _ _)]) (cs := [_, _, _, _, _, _, _, _, _, _, _]) rfl rfl rfl rfl ?_;refine d0a ?_;refine T3a rfl rfl rfl x2c (vs := [.agg _]) (cs := [_, _, _, _, _, _, _, _, _, _, _]) (by rfl) rfl rfl rfl rfl rfl ?_;intro O0 D0 z0;refine j5a rfl rfl ?_;refine d1a (by conv => lhs; whnf) rfl ?_;refine d0a ?_;refine Q0b (caps := #[.pointer (some ⟨g1, 0, none⟩)]) G2c rfl rfl rfl rfl rfl rfl ?_;rintro Q0 ⟨a0, a1, a2, a3, a4, a5, a6, rfl⟩;refine j5a rfl rfl ?_;refine d1a (by conv => lhs; whnf) rfl ?_;refine d0a ?_;refine Q0b (caps := #[.pointer (some ⟨g1, 0, none⟩)]) G2c rfl rfl rfl rfl rfl rfl ?_;rintro R0 ⟨b0, b1, b2, b3, b4, b5, b6, rfl⟩;refine T3a rfl rfl rfl T5b (vs := [.agg _, .agg _]) (cs := [_, _, _, _, _, _, _, _, _, _, _, _, _, _]) (by rfl) rfl rfl rfl rfl rfl ?_;intro P0 E0 A0;refine j5a rfl rfl ?_;refine g2a Q7c (vs := [(0, .slice _ _ _), (1, .slice _ _ _), (3, .slice _ _ _)]) (cs := [_, _, _, _]) rfl rfl rfl rfl ?_;refine d0a ?_;refine S5b ?_;rintro B0 ⟨e0, _⟩ ⟨⟨⟨⟨⟨⟨-, K0⟩, s0⟩, t0⟩, v0⟩, x0⟩, u0⟩;have n0 := u0a.refl [g0] B0;have o0 := u0a.refl [g0] B0;clear L0;replace e0 := e0.push_new d0 K0 G9;replace e0 := e0.push_more (L1 := [_]) d0 s0 C0 (by simpa [eq_comm] using y0);replace e0 := e0.push_more (L1 := [_, _]) d0 t0 D0 (by simpa [eq_comm] using z0);replace e0 := e0.push_more (L1 := [_, _, _]) d0 u0 E0 (by simpa [eq_comm] using A0);refine e0a (kk := 5) (vs := [_, _, _, _]) e0 O4c rfl rfl rfl rfl rfl rfl rfl ?_;intro j0 f0 h0;dsimp only [m0a, List.set] at f0;replace n0 := n0.fresh2 h0 (by first  | exact .inr (by simp));replace o0 := o0.fresh2 h0 (by first  | exact .inr (by simp));refine R0a ⟨rfl, ?_⟩;refine fR0 rfl ⟨⟩ ?_;have SF := f0;obtain ⟨ca, I0, hA⟩ := v0;obtain ⟨cb, J0, hB⟩ := x0;obtain rfl : [a0, a1, a2, a3, a4, a5, a6] = ca := by simpa using congrArg Array.toList (Value.agg.inj I0)
 obtain rfl : [b0, b1, b2, b3, b4, b5, b6] = cb := by simpa using congrArg Array.toList (Value.agg.inj J0)
 have r0 : RdE [] j0 q3a [.int .i64 1, .int .i64 1, .int .i64 1, .slice none 0 0] := k3a i1 i1 i1;have h1 := L0a.less (M' := []) (by simp) _ _ (L0a.keep n0 _ _ hA);have h2 := L0a.less (M' := []) (by simp) _ _ (L0a.keep o0 _ _ hB);have fr : RdI [] j0 (.slice (some ⟨H0, 0, none⟩) 2 2) [0, 1] := E4a SF (k := 2) rfl (by simp) rfl (by omega) (by simp [i0, i1]);refine p1a rfl w4a rfl (SF.cells 5 rfl) rfl ⟨⟨_, rfl, _, _, _, _, rfl, ?_, ?_, u4a, ?_⟩, SF.fin⟩
 ·exact Y8c (c := [_, _, _, _, _, _]) (c2 := [_, _, _, _, _, _]) (c3 := [_, _, _, _, _, _]) (c4 := [_, _, _, _, _, _]) (by simp) (SF.cells 3 rfl) rfl rfl rfl rfl ⟨rfl, i1, i0, im, i0⟩ ⟨rfl, i1, i0, im, i0⟩ ⟨rfl, i1, i1, i0, i0⟩ ⟨rfl, i1, i1, i1, i0⟩
 ·exact J5c (by simp) (SF.cells 1 rfl) rfl ⟨_, _, _, _, _, _, _, _, _, rfl, r0, r0, fr⟩
 ·exact z7c (c := [_, _, _, _, _, _, _]) (c2 := [_, _, _, _, _, _, _]) (by simp) (SF.cells 0 rfl) rfl rfl h1 h2
theorem T8b (c : Int) (hc : i64 c) (M : List Nat) (w0 : World) (hM : ∀ x ∈ M, x < w0.heap.size) :
 K0a Tryz.prog 46 #[.int .i64 c] w0 fun v w' => (∃ cs : List Value, v = .agg cs.toArray ∧ RdE M w' (K3b c) cs) ∧ Below w0.heap.size w0 w' := by
 have S := St.refl w0;have i1 : i64 1 := by unfold i64; omega
 have i2 : i64 2 := by unfold i64; omega
 have i4 : i64 4 := by unfold i64; omega
 refine a0a Tryz.func46 rfl Tryz.ntmps46 rfl ?_;refine wO0 rfl ⟨⟩ (n0a S e7a rfl rfl ?_);intro g2 w2 S2 X2 G2;refine lO0 rfl ⟨⟩ (g0a S2 B5b rfl rfl (b6b _ _ _) ?_);intro w4 S4 X4;refine G0a S4 Y0a (vs := [.agg _]) (cs := [_, _, _, _]) (by rfl) rfl rfl rfl rfl rfl rfl ?_;intro g5 w5 S5 X5 G5;refine h1a u3b (vs := [(0, .int .i64 _), (1, .int .i64 _), (3, .slice _ _ _)]) (cs := [_, _, _, _]) rfl rfl rfl rfl ?_;refine e0a (kk := 1) (vs := [_, _, _, _]) S5 O5a rfl rfl rfl rfl rfl rfl rfl ?_;intro d0 a0 b0;dsimp only [m0a, List.set] at a0;exact lR0 rfl ⟨⟩ (p1a rfl u1a rfl (a0.cells 1 rfl) rfl ⟨⟨_, rfl, E5c i4 i1 (S0a hM (a0.new 0 rfl)) (a0.cells 0 rfl) (k3a i2 i1 hc)⟩, a0.fin⟩)
theorem h1b (w0 : World) :
 K0a Tryz.prog 19 #[] w0 fun v w' => (∃ cs : List Value, v = .agg cs.toArray ∧ L3a [] w' cs y1b) ∧ Below w0.heap.size w0 w' := by
 have S := St.refl w0;have i0 : i64 0 := by unfold i64; omega
 have i1 : i64 1 := by unfold i64; omega
 have i2 : i64 2 := by unfold i64; omega
 have i3 : i64 3 := by unfold i64; omega
 have h0 : ∀ {w : World} {g t : Nat} {cs : List Value}, p0a w (g, t, cs) → ∀ x ∈ [g], x < w.heap.size := fun h x hx => by rw [List.mem_singleton] at hx; subst hx; exact h.lt
 refine a0a Tryz.func19 rfl Tryz.ntmps19 rfl ?_;refine wO0 rfl ⟨⟩ (n0a S Z8c rfl rfl ?_);intro g0 w0 S0 X0 G0;refine lO0 rfl ⟨⟩ (y4a X2c rfl rfl rfl (T8b 2 i2 [g0] _ (h0 (S0.blk 0 rfl))) ?_);rintro v3 w3 ⟨⟨_, rfl, r3⟩, B3⟩;obtain ⟨_, _, _, rfl, -⟩ := r3.open_;have S3 := S0.later B3;refine lO0 rfl ⟨⟩ (y4a X2c rfl rfl rfl (T8b 3 i3 [g0] _ (h0 (S3.blk 0 rfl))) ?_);rintro v5 w5 ⟨⟨_, rfl, r5⟩, B5⟩;obtain ⟨_, _, _, rfl, -⟩ := r5.open_;have S5 := S3.later B5;replace r3 := RdE.keep (u0a.of_below B5) _ _ r3;refine g0a S5 B5b rfl rfl (b6b _ _ _) ?_;intro w6 S6 X6;replace r3 := RdE.keep (X6.of_nil) _ _ r3;replace r5 := RdE.keep (X6.of_nil) _ _ r5;refine g0a S6 B5b rfl rfl (b6b _ _ _) ?_;intro w7 S7 X7;replace r3 := RdE.keep (X7.of_nil) _ _ r3;replace r5 := RdE.keep (X7.of_nil) _ _ r5;refine G0a S7 Y0a (vs := [.agg _, .agg _, .agg _, .agg _]) (cs := [_, _, _, _, _, _, _, _, _, _, _, _, _, _, _, _]) (by rfl) rfl rfl rfl rfl rfl rfl ?_;intro g8 w8 S8 X8 G8;replace r3 := RdE.keep (X8.of_nil) _ _ r3;replace r5 := RdE.keep (X8.of_nil) _ _ r5;have hL : RdL [g0] w8 (.slice (some ⟨g8, 0, none⟩) 4 4) [K3b 2, K3b 3, L7b 0, L7b 1] := e9c (ca := [_, _, _, _]) (cb := [_, _, _, _]) (cc := [_, _, _, _]) (cd := [_, _, _, _]) (fun hh => by rw [List.mem_singleton] at hh; exact S8.ne 0 1 rfl rfl (by decide) hh) (S8.cells 0 rfl) r3 r5 (k3a i2 i1 i0) (k3a i2 i1 i1);refine t0a S8 g6c rfl rfl (w0c [K3b 2, K3b 3, L7b 0, L7b 1] [g0] _ _ hL (h0 (S8.blk 1 rfl)) (by decide +kernel) (by decide +kernel) (by decide +kernel)) ?_;rintro v9 w9 ⟨_, rfl, r9⟩ S9 X9;obtain ⟨_, _, _, rfl, -⟩ := r9.open_;refine h1a X1b (vs := [(0, .int .i64 _), (1, .int .i64 _), (2, .agg _)]) (cs := [_, _, _, _, _, _]) rfl rfl rfl rfl ?_;refine e0a (kk := 1) (vs := [_, _, _, _, _, _]) S9 U8c rfl rfl rfl rfl rfl rfl rfl ?_;intro d0 a0 b0;dsimp only [m0a, List.set] at a0;replace r9 := RdE.keep (b0.mono (by simp)) _ _ r9;exact lR0 rfl ⟨⟩ (p1a rfl Q3b rfl (a0.cells 1 rfl) rfl ⟨⟨_, rfl, _, rfl, RdE.less (by simp) _ _ r9, i1, i2⟩, a0.nil.fin⟩)
theorem x3b : (b2a k8a)[0]? = some (m1a J1a) := by kernel_rfl
theorem b9b : (b2a o8a)[0]? = some (m1a J1a) := by kernel_rfl
theorem M7c : ∀ y ∈ k8a, E2a y.conf y1b = false := fun y hy => by
 have := List.all_eq_true.1 f2c y hy;simpa using this
theorem E7c : o8a[31]? = some ⟨⟨[1, 1, 0, 0], [2, 2], [[], []]⟩, 24, ⟨1, -1, 1⟩⟩ := by kernel_rfl
theorem k0c {x : s0a} (h : (b2a k8a)[0]? = some x) : m1a J1a = x := Option.some.inj (x3b.symm.trans h)
theorem N5c : (b2a k8a).length = 13 := by kernel_rfl
theorem V5c : (b2a o8a).length = 34 := by kernel_rfl
theorem g1c {P : Program} {N : Nat} {ops : Array Oper} {rest : List Oper} {C : World → Prop} {K : Env → Prop} {e : Env} {d : Nat} {t : TypeId} {p : String} {af : Array Edge} {x : Operand} {s f b0 n : Nat} {cs : Array Value} {ds : List Value} {fs gs : Array Field} {a0 : Field} (hu : P.underlying s = some (.struct fs)) (hf : fs[f]? = some a0) (ho : a0.offset = b0) (e0 : P.underlying a0.type = some (.struct gs)) (hz : Sz P a0.type n) (hx : ev e x = .agg cs) (f0 : (cs.toList.drop b0).take n = ds) (hd : Nat.ble (d + 1) N = true) (h : QL P N ops C rest K (upd e d (.agg ds.toArray))) :
 QL P N ops C (⟨some d, .field s x f, t, p, af, none⟩ :: rest) K e := by
 have d0 : ∀ w, (isAgg a0.type).run P w = .ok true w := fun w => by simp only [isAgg, Sem.run_bind, run_underlying e0, Result.andThen_ok]; rfl
 have he : cs.extract b0 (b0 + n) = ds.toArray := by
  subst f0;apply Array.ext';simp
 exact m3a rfl rfl hd (fun w _ => by simp [execOp, hx, Instr.field, run_underlying hu, hf, asAgg, part, d0, ho, hz w, he]) h
theorem y8c (w0 : World) (cs : List Value) (hI : InP J1a [] w0 cs) :
 K0a Tryz.prog 8 #[.agg cs.toArray, .int .i64 0, .int .i64 2000] w0 fun r w' => (∃ A c, r = .tuple #[.slice A 13 c, .int .i64 0] ∧ d8c [] w' (.slice A 13 c) (b2a k8a)) ∧ Below w0.heap.size w0 w' :=
 (I4a J1a 0 (.inl rfl) 2000 (by omega) (by omega) [] w0 cs hI).mono fun r w' ⟨⟨v, l, a0, hr, hv, hd⟩, hb⟩ => by
   obtain ⟨rfl, rfl⟩ := (N7a W7a (by decide) hd).1 (by decide);obtain ⟨A, n, c, rfl⟩ := hv.form;obtain rfl : n = 13 := hv.len.1;exact ⟨⟨A, c, hr, hv⟩, hb⟩
theorem W8c (w0 : World) (cs : List Value) (hI : InP J1a [] w0 cs) :
 K0a Tryz.prog 8 #[.agg cs.toArray, .int .i64 1, .int .i64 2000] w0 fun r w' => (∃ A c, r = .tuple #[.slice A 34 c, .int .i64 0] ∧ d8c [] w' (.slice A 34 c) (b2a o8a)) ∧ Below w0.heap.size w0 w' :=
 (I4a J1a 1 (.inr (.inl rfl)) 2000 (by omega) (by omega) [] w0 cs hI).mono fun r w' ⟨⟨v, l, a0, hr, hv, hd⟩, hb⟩ => by
   obtain ⟨rfl, rfl⟩ := (N7a v7a (by decide) hd).1 (by decide);obtain ⟨A, n, c, rfl⟩ := hv.form;obtain rfl : n = 34 := hv.len.1;exact ⟨⟨A, c, hr, hv⟩, hb⟩
theorem Y4c (w0 : World) (cs : List Value) (hI : InP J1a [] w0 cs) :
 K0a Tryz.prog 8 #[.agg cs.toArray, .int .i64 1, .int .i64 33] w0 fun r w' => (∃ A n c, r = .tuple #[.slice A n c, .int .i64 2]) ∧ Below w0.heap.size w0 w' :=
 (I4a J1a 1 (.inr (.inl rfl)) 33 (by omega) (by omega) [] w0 cs hI).mono fun r w' ⟨⟨v, l, a0, hr, hv, hd⟩, hb⟩ => by
   obtain ⟨rfl, rfl⟩ := (N7a v7a (by decide) hd).2 (by decide);obtain ⟨A, n, c, rfl⟩ := hv.form;exact ⟨⟨A, n, c, hr⟩, hb⟩
theorem v8c (w0 : World) (cs gs : List Value) (hI : InP J1a [] w0 cs) (hG : L3a [] w0 gs y1b) :
 K0a Tryz.prog 16 #[.agg cs.toArray, .int .i64 0, .agg gs.toArray, .int .i64 2000] w0 fun r w' => (∃ A n c, r = .tuple #[.slice A n c, .int .i64 4]) ∧ Below w0.heap.size w0 w' :=
 (N1a J1a 0 (.inl rfl) 2000 (by omega) (by omega) y1b [] w0 cs gs hI hG).mono fun r w' ⟨⟨v, l, a0, hr, hv, hd⟩, hb⟩ => by
   obtain rfl := E6b W7a (by decide) (by decide) E4c M7c hd;obtain ⟨A, n, c, rfl⟩ := hv.form;exact ⟨⟨A, n, c, hr⟩, hb⟩
theorem q8c (w0 : World) (cs gs : List Value) (hI : InP J1a [] w0 cs) (hG : L3a [] w0 gs K6b) :
 K0a Tryz.prog 16 #[.agg cs.toArray, .int .i64 1, .agg gs.toArray, .int .i64 2000] w0 fun r w' => (∃ A c, r = .tuple #[.slice A 6 c, .int .i64 0]) ∧ Below w0.heap.size w0 w' :=
 (N1a J1a 1 (.inr (.inl rfl)) 2000 (by omega) (by omega) K6b [] w0 cs gs hI hG).mono fun r w' ⟨⟨v, l, a0, hr, hv, hd⟩, hb⟩ => by
   obtain ⟨rfl, rfl⟩ := G0b (k := 31) (acc := fun c => E2a c K6b) v7a (show 31 < 2000 from by omega) t4c Y1c E7c V1c hd (show (B4a (o8a.take 32) 32 31).length ≤ 120 from by rw [H5b]; omega);obtain ⟨A, n, c, rfl⟩ := hv.form;obtain rfl : n = 6 := by rw [hv.len.1, List.length_reverse]; exact H5b
   exact ⟨⟨A, c, hr⟩, hb⟩
theorem x8c (w0 : World) (cs gs : List Value) (hI : InP J1a [] w0 cs) (hG : L3a [] w0 gs (G9a (-1))) :
 K0a Tryz.prog 16 #[.agg cs.toArray, .int .i64 0, .agg gs.toArray, .int .i64 1] w0 fun r w' => (∃ A c, r = .tuple #[.slice A 0 c, .int .i64 0]) ∧ Below w0.heap.size w0 w' :=
 (N1a J1a 0 (.inl rfl) 1 (by omega) (by omega) (G9a (-1)) [] w0 cs gs hI hG).mono fun r w' ⟨⟨v, l, a0, hr, hv, hd⟩, hb⟩ => by
   obtain ⟨rfl, rfl⟩ := G0b (k := 0) (acc := fun c => E2a c (G9a (-1))) W7a (by decide) Q4c rfl rfl M0c hd (by rw [e6b]; decide);obtain ⟨A, n, c, rfl⟩ := hv.form;obtain rfl : n = 0 := by rw [hv.len.1, List.length_reverse]; exact e6b
   exact ⟨⟨A, c, hr⟩, hb⟩
theorem X8c (w0 : World) (cs gs : List Value) (hI : InP J1a [] w0 cs) (hG : L3a [] w0 gs (G9a 2)) :
 K0a Tryz.prog 16 #[.agg cs.toArray, .int .i64 0, .agg gs.toArray, .int .i64 2000] w0 fun r w' => (∃ A n c, r = .tuple #[.slice A n c, .int .i64 1]) ∧ Below w0.heap.size w0 w' :=
 (N1a J1a 0 (.inl rfl) 2000 (by omega) (by omega) (G9a 2) [] w0 cs gs hI hG).mono fun r w' ⟨⟨v, l, a0, hr, hv, hd⟩, hb⟩ => by
   obtain ⟨A, n, c, rfl⟩ := hv.form;rcases hd with ⟨_, rfl, _⟩ | ⟨_, _, _, _, _, _, _, h, _⟩ | ⟨h, _⟩ | ⟨h, _⟩
   ·exact ⟨⟨A, n, c, hr⟩, hb⟩
   all_goals (rw [K4c] at h; cases h)
theorem j8b (w0 : World) (hK : a3a [] w0) :
 K0a Tryz.prog 6 #[] w0 fun v w' => v = .bool true ∧ Below w0.heap.size w0 w' := by
 have S := St.refl w0;have i0 : i64 0 := by unfold i64; omega
 have i1 : i64 1 := by unfold i64; omega
 have i2 : i64 2 := by unfold i64; omega
 have im : i64 (-1) := by unfold i64; omega
 have l0 := N5c;have l1 := V5c;refine a0a Tryz.func6 rfl Tryz.ntmps6 rfl ?_;refine wO0 rfl ⟨⟩ (t0a S I7c rfl rfl (m2c _) ?_);rintro D2 u2 ⟨_, rfl, hP⟩ W1 C2;have KP := u0a.refl [] u2;obtain ⟨_, _, _, _, _, _, _, _, _, _, _, _, rfl, -⟩ := hP.open_;refine n0a W1 J4c rfl rfl ?_;intro g1 w1 S1 X1 G1;have S0 := Nat.le_trans KP.size G1;replace KP := KP.trans X1
 first | refine e0a (kk := 0) (vs := [_, _, _, _]) S1 O4c rfl rfl rfl rfl rfl rfl rfl ?_
 intro v2 o0 b1;dsimp only [m0a, List.set] at o0;replace KP := KP.fresh b1 (by first | exact S0);refine lO o0.k [.w 0] rfl ⟨⟨rfl,by rfl⟩,⟨⟩⟩ (t0a o0 R6b rfl rfl (y8c _ _ ⟨hP.keep KP, f3a, hK.keep (o0.keep0 []), by simp⟩) ?_);rintro E2 w2 ⟨_, _, rfl, hA⟩ U0 b2;replace KP := KP.trans b2;have KA := u0a.refl [] w2;refine lO U0.k [.w 0] rfl ⟨⟨rfl,by rfl⟩,⟨⟩⟩ (t0a U0 R6b rfl rfl (W8c _ _ ⟨hP.keep KP, f3a, hK.keep (U0.keep0 []), by simp⟩) ?_);rintro F2 x2 ⟨_, _, rfl, hB⟩ O1 P1;replace KP := KP.trans P1;replace KA := KA.trans P1;have KB := u0a.refl [] x2;refine lC0 rfl ⟨⟩ (C0a b0a [0, 1, 2, 3, 4, 5, 6, 7, 8, 9, 10, 11, 12, 13, 14, 15, 16, 17, 18, 19, 20, 21, 22, 23, 24, 25, 26, 27] [] [] (by kernel_rfl) rfl (Cl _ _ _ _) (Cl.start O1) ?_);refine qB0 rfl ⟨⟩ (fun g2 => by exfalso; omega) fun g2 => ?_;refine qB0 rfl ⟨⟩ (fun h2 => by exfalso; omega) fun h2 => ?_;refine qB0 rfl ⟨⟩ (fun j2 => by exfalso; omega) fun j2 => ?_;refine qB0 rfl ⟨⟩ (fun m2 => by exfalso; omega) fun m2 => ?_;obtain ⟨x0, d2, q2, _, I1, B1, _, F1, D1, L0⟩ := RdS.get ((RdS.keepW hA KA (M4a.keep KA))) (0) (by omega);obtain ⟨_, _, _, _, _, _, _, _, _, rfl, _, _, _, _, _, _, _, _, _⟩ := w0a.open_ L0;obtain ⟨x1, f2, r2, _, J1, C1, _, H1, E1, N0⟩ := RdS.get ((RdS.keepW hB KB (M4a.keep KB))) (0) (by omega);obtain ⟨_, _, _, _, _, _, _, _, _, rfl, _, _, _, _, _, _, _, _, _⟩ := w0a.open_ N0;refine qO ((O1.q.b E1).b D1) [.x d2 q2,.v 0,.x f2 r2,.v 1] rfl ⟨⟨rfl,H1⟩,⟨C1,by omega⟩,⟨rfl,F1⟩,⟨B1,by omega⟩,⟨⟩⟩ (F2a y2c rfl rfl (fun w1 S1 X1 => d3a (J6a x0 x1 [] _ _ _ (w0a.keep X1.of_nil L0) (w0a.keep X1.of_nil N0)) (decide_eq_true (Option.some.inj ((I1.symm.trans x3b).trans (J1.symm.trans b9b).symm)))) ?_);refine qD rfl ⟨⟩ ?_;rintro V2 ⟨Z1, T1⟩;replace KP := KP.trans T1;replace KA := KA.trans T1;refine lC0 rfl ⟨⟩ (k8b b0a (fun i => [0, 3, 4, 5, 6, 7].contains i) [0, 1, 2, 3, 4, 5, 6, 7] (by kernel_rfl) (by kernel_rfl) (Cl _ _ _ _) (Cl.start Z1) ?_);rintro W2 ⟨Y0, C0⟩;replace KP := KP.trans C0;replace KA := KA.trans C0;refine M1a ⟨Y0, C0⟩ rfl rfl rfl ?_;refine F1a w4a rfl (fun w1 hw => hw.1.cells 0 rfl) rfl rfl ?_;refine d0a ?_;refine K9a ⟨Y0, C0⟩ rfl rfl rfl rfl ?_;refine t0a Y0 c0c rfl rfl (h1b _) ?_;rintro G2 y2 ⟨_, rfl, hZ⟩ V0 d1;have q0 := C0.trans d1;replace KP := KP.trans d1;replace KA := KA.trans d1;have KZ := u0a.refl [] y2;obtain ⟨_, rfl, p2, -⟩ := id hZ;obtain ⟨_, _, _, rfl, -⟩ := id p2.open_;refine R0a ⟨rfl, ?_⟩;refine K9a ⟨V0, q0⟩ rfl rfl rfl rfl ?_;refine t0a V0 R3a rfl rfl (v8c _ _ _ ⟨hP.keep KP, f3a, hK.keep (V0.keep0 []), by simp⟩ (hZ.keep KZ)) ?_;rintro H2 O2 ⟨_, _, _, rfl⟩ t0 f1;have a0 := q0.trans f1;replace KP := KP.trans f1;replace KA := KA.trans f1;refine R0a ⟨rfl, ?_⟩;refine M1a ⟨t0, a0⟩ rfl rfl rfl ?_;refine d1a (v := .tuple _) rfl rfl ?_;refine d0a ?_;refine M1a ⟨t0, a0⟩ rfl rfl rfl ?_;refine m2a rfl rfl rfl ?_;refine d0a ?_;refine M1a ⟨t0, a0⟩ rfl rfl rfl ?_;refine m2a rfl rfl rfl ?_;refine d0a ?_;refine M1a ⟨t0, a0⟩ rfl rfl rfl ?_;refine g3a (v := .slice _ _ _) rfl rfl ?_;refine d0a ?_;refine M1a ⟨t0, a0⟩ rfl rfl rfl ?_;refine g3a (v := .int .i64 _) rfl rfl ?_;refine d0a ?_;refine v5a ⟨t0, a0⟩ ?_;refine fC0 rfl ⟨⟩ (k8b b0a (fun i => [0, 2, 3, 5, 6, 7, 8, 9].contains i) [0, 1, 2, 3, 4, 5, 6, 7, 8, 9] (by kernel_rfl) (by kernel_rfl) (Cl _ _ _ _) (Cl.start t0) ?_);rintro X2 ⟨Z0, D0⟩;replace KP := KP.trans D0;replace KA := KA.trans D0;refine M1a ⟨Z0, D0⟩ rfl rfl rfl ?_;refine F1a w4a rfl (fun w1 hw => hw.1.cells 0 rfl) rfl rfl ?_;refine d0a ?_;refine K9a ⟨Z0, D0⟩ rfl rfl rfl rfl ?_;refine t0a Z0 c0c rfl rfl (h1b _) ?_;rintro I2 z2 ⟨_, rfl, hY⟩ A0 h1;have f0 := D0.trans h1;replace KP := KP.trans h1;replace KA := KA.trans h1;have KY := u0a.refl [] z2;obtain ⟨_, rfl, V1, -⟩ := id hY;obtain ⟨_, _, _, rfl, -⟩ := id V1.open_;refine R0a ⟨rfl, ?_⟩;refine M1a ⟨A0, f0⟩ rfl rfl rfl ?_;refine g1c Tryz.underlying55 rfl rfl Tryz.underlying53 O5a rfl rfl rfl ?_;refine d0a ?_;refine M1a ⟨A0, f0⟩ rfl rfl rfl ?_;refine g2a X1b (vs := [(0, .int .i64 _), (2, .agg _)]) (cs := [_, _, _, _, _, _]) rfl rfl rfl rfl ?_;refine d0a ?_;refine K9a ⟨A0, f0⟩ rfl rfl rfl rfl ?_;refine t0a A0 R3a rfl rfl (q8c _ _ _ ⟨hP.keep KP, f3a, hK.keep (A0.keep0 []), by simp⟩ ⟨_, rfl, RdE.keep KY _ _ V1, im, i0⟩) ?_;rintro J2 P2 ⟨_, _, rfl⟩ u0 j1;have b0 := f0.trans j1;replace KP := KP.trans j1;replace KA := KA.trans j1;refine R0a ⟨rfl, ?_⟩;refine M1a ⟨u0, b0⟩ rfl rfl rfl ?_;refine d1a (v := .tuple _) rfl rfl ?_;refine d0a ?_;refine M1a ⟨u0, b0⟩ rfl rfl rfl ?_;refine m2a rfl rfl rfl ?_;refine d0a ?_;refine M1a ⟨u0, b0⟩ rfl rfl rfl ?_;refine m2a rfl rfl rfl ?_;refine d0a ?_;refine M1a ⟨u0, b0⟩ rfl rfl rfl ?_;refine g3a (v := .slice _ _ _) rfl rfl ?_;refine d0a ?_;refine M1a ⟨u0, b0⟩ rfl rfl rfl ?_;refine g3a (v := .int .i64 _) rfl rfl ?_;refine d0a ?_;refine v5a ⟨u0, b0⟩ ?_;refine fC0 rfl ⟨⟩ (k8b b0a (fun i => [0, 2, 4, 5, 6, 7, 8].contains i) [0, 1, 2, 3, 4, 5, 6, 7, 8] (by kernel_rfl) (by kernel_rfl) (Cl _ _ _ _) (Cl.start u0) ?_);rintro Y2 ⟨a1, E0⟩;replace KP := KP.trans E0;replace KA := KA.trans E0;refine M1a ⟨a1, E0⟩ rfl rfl rfl ?_;refine F1a w4a rfl (fun w1 hw => hw.1.cells 0 rfl) rfl rfl ?_;refine d0a ?_;refine K9a ⟨a1, E0⟩ rfl rfl rfl rfl ?_;refine g0a a1 a0b rfl rfl (z9a _ _ _) ?_;intro Q2 Q0 m1;have g0 := E0.trans m1;replace KP := KP.trans m1;replace KA := KA.trans m1;refine R0a ⟨rfl, ?_⟩;refine M1a ⟨Q0, g0⟩ rfl rfl rfl ?_;refine g2a X1b (vs := [(0, .int .i64 _), (2, .agg _)]) (cs := [_, _, _, _, _, _]) rfl rfl rfl rfl ?_;refine d0a ?_;refine K9a ⟨Q0, g0⟩ rfl rfl rfl rfl ?_;refine t0a Q0 R3a rfl rfl (x8c _ _ _ ⟨hP.keep KP, f3a, hK.keep (Q0.keep0 []), by simp⟩ ⟨_, rfl, k3a i1 i1 i1, im, i0⟩) ?_;rintro K2 R2 ⟨_, _, rfl⟩ p0 n1;have d0 := g0.trans n1;replace KP := KP.trans n1;replace KA := KA.trans n1;refine R0a ⟨rfl, ?_⟩;refine M1a ⟨p0, d0⟩ rfl rfl rfl ?_;refine d1a (v := .tuple _) rfl rfl ?_;refine d0a ?_;refine M1a ⟨p0, d0⟩ rfl rfl rfl ?_;refine m2a rfl rfl rfl ?_;refine d0a ?_;refine M1a ⟨p0, d0⟩ rfl rfl rfl ?_;refine m2a rfl rfl rfl ?_;refine d0a ?_;refine M1a ⟨p0, d0⟩ rfl rfl rfl ?_;refine g3a (v := .slice _ _ _) rfl rfl ?_;refine d0a ?_;refine M1a ⟨p0, d0⟩ rfl rfl rfl ?_;refine g3a (v := .int .i64 _) rfl rfl ?_;refine d0a ?_;refine v5a ⟨p0, d0⟩ ?_;refine fO p0.k [.w 0] rfl ⟨by omega,⟨rfl,by rfl⟩,⟨⟩⟩ (t0a p0 R6b rfl rfl (Y4c _ _ ⟨hP.keep KP, f3a, hK.keep (p0.keep0 []), by simp⟩) ?_);rintro L2 S2 ⟨_, _, _, rfl⟩ W0 Q1;replace KP := KP.trans Q1;replace KA := KA.trans Q1;refine lO W0.k [.w 0] rfl ⟨⟨rfl,by rfl⟩,⟨⟩⟩ (g0a W0 R6b rfl rfl (t4b J1a 3 2000 rfl [] _ _ ⟨hP.keep KP, f3a, hK.keep (W0.keep0 []), by simp⟩) ?_);intro T2 Y1 R1;replace KP := KP.trans R1;replace KA := KA.trans R1;refine lC0 rfl ⟨⟩ (k8b b0a (fun i => [0, 2, 4, 5, 6, 7, 8].contains i) [0, 1, 2, 3, 4, 5, 6, 7, 8] (by kernel_rfl) (by kernel_rfl) (Cl _ _ _ _) (Cl.start Y1) ?_);rintro B2 ⟨v0, j0⟩;replace KP := KP.trans j0;replace KA := KA.trans j0;refine M1a ⟨v0, j0⟩ rfl rfl rfl ?_;refine F1a w4a rfl (fun w1 hw => hw.1.cells 0 rfl) rfl rfl ?_;refine d0a ?_;refine K9a ⟨v0, j0⟩ rfl rfl rfl rfl ?_;refine g0a v0 a0b rfl rfl (z9a _ _ _) ?_;intro U2 R0 o1;have h0 := j0.trans o1;replace KP := KP.trans o1;replace KA := KA.trans o1;refine R0a ⟨rfl, ?_⟩;refine M1a ⟨R0, h0⟩ rfl rfl rfl ?_;refine g2a X1b (vs := [(0, .int .i64 _), (2, .agg _)]) (cs := [_, _, _, _, _, _]) rfl rfl rfl rfl ?_;refine d0a ?_;refine K9a ⟨R0, h0⟩ rfl rfl rfl rfl ?_;refine t0a R0 R3a rfl rfl (X8c _ _ _ ⟨hP.keep KP, f3a, hK.keep (R0.keep0 []), by simp⟩ ⟨_, rfl, k3a i1 i1 i1, i2, i0⟩) ?_;rintro N2 A2 ⟨_, _, _, rfl⟩ n0 p1;have e0 := h0.trans p1;replace KP := KP.trans p1;replace KA := KA.trans p1;have U1 : InP J1a [] A2 _ := ⟨hP.keep KP, f3a, hK.keep (n0.keep0 []), by simp⟩;refine R0a ⟨rfl, ?_⟩;refine M1a ⟨n0, e0⟩ rfl rfl rfl ?_;refine d1a (v := .tuple _) rfl rfl ?_;refine d0a ?_;refine M1a ⟨n0, e0⟩ rfl rfl rfl ?_;refine m2a rfl rfl rfl ?_;refine d0a ?_;refine M1a ⟨n0, e0⟩ rfl rfl rfl ?_;refine m2a rfl rfl rfl ?_;refine d0a ?_;refine M1a ⟨n0, e0⟩ rfl rfl rfl ?_;refine g3a (v := .slice _ _ _) rfl rfl ?_;refine d0a ?_;refine M1a ⟨n0, e0⟩ rfl rfl rfl ?_;refine g3a (v := .int .i64 _) rfl rfl ?_;refine d0a ?_;refine v5a ⟨n0, e0⟩ ?_;refine fC0 rfl ⟨⟩ (C0a b0a [0, 1, 2, 3, 4, 5, 6, 7, 8, 9, 10, 11, 12, 13, 14, 15, 16, 17, 18, 19, 20, 21, 22, 23, 24, 25, 26, 27, 28, 29, 30, 31, 32, 33, 34, 35, 36, 37, 38, 39, 40, 41, 42, 43, 44, 45] [46] [47, 48, 49, 50] (by kernel_rfl) rfl (Cl _ _ _ _) (Cl.start n0) ?_);refine qB0 rfl ⟨⟩ (fun n2 => ?_) (fun n2 => by exfalso; omega);refine qB0 rfl ⟨⟩ (fun s1 => ?_) (fun s1 => by exfalso; omega);refine qB0 rfl ⟨⟩ (fun t1 => ?_) (fun t1 => by exfalso; omega);refine qB0 rfl ⟨⟩ (fun u1 => ?_) (fun u1 => by exfalso; omega);refine qB0 rfl ⟨⟩ (fun v1 => ?_) (fun v1 => by exfalso; omega);refine qB0 rfl ⟨⟩ (fun y1 => ?_) (fun y1 => by exfalso; omega);refine qB0 rfl ⟨⟩ (fun z1 => ?_) (fun z1 => by exfalso; omega);refine qB0 rfl ⟨⟩ (fun A1 => ?_) (fun A1 => by exfalso; omega);obtain ⟨y0, q1, K1, _, O0, F0, _, J0, H0, r0⟩ := RdS.get ((RdS.keepW hA KA (M4a.keep KA))) (0) (by omega);obtain ⟨_, _, _, _, _, _, _, _, _, rfl, _, _, _, _, _, _, _, _, _⟩ := w0a.open_ r0;refine qO (n0.q.b H0) [.w 0,.x q1 K1,.v 0] rfl ⟨⟨rfl,J0⟩,⟨F0,by omega⟩,⟨rfl,by rfl⟩,⟨⟩⟩ (F2a a0b rfl rfl (fun w1 S1 X1 => z9a _ _ _) ?_);refine qO0 rfl ⟨⟩ (g2a X1b (vs := [(0, .int .i64 _), (2, .agg _)]) (cs := [_, _, _, _, _, _]) rfl rfl rfl rfl ?_);refine qO0 rfl ⟨⟩ ?_;refine F2a O2c rfl rfl (fun w1 S1 X1 => d3a (h2b J1a y0 (G9a 1) [] _ _ _ _ (U1.keep X1.of_nil) (w0a.keep X1.of_nil r0) (by rw [← k0c O0]; exact P5a f3a) ⟨_, rfl, k3a i1 i1 i1, i1, i0⟩) (by rw [← k0c O0]; exact q0c)) ?_;obtain ⟨z0, r1, M1, _, P0, G0, _, K0, I0, s0⟩ := RdS.get ((RdS.keepW hA KA (M4a.keep KA))) (0) (by omega);obtain ⟨_, _, _, _, _, _, _, _, _, rfl, _, _, _, _, _, _, _, _, _⟩ := w0a.open_ s0;refine qN (n0.q.b I0) [.w 0,.x r1 M1,.v 0] rfl ⟨⟨rfl,K0⟩,⟨G0,by omega⟩,⟨rfl,by rfl⟩,⟨⟩⟩ (u5a ?_);refine F1b (_) rfl rfl c0c rfl (fun v w w' ⟨cs, h, hr⟩ k => ⟨cs, h, hr.keep k.of_nil⟩) (fun w1 S1 X1 => h1b _) ?_;refine r2a ?_;rintro N1 ⟨X0, B0⟩;rintro s2 ⟨_, rfl, hX⟩;dsimp only [I3a];have KX := u0a.refl [] N1;obtain ⟨_, rfl, o2, -⟩ := id hX;obtain ⟨_, _, _, rfl, -⟩ := id o2.open_;refine lO0 rfl ⟨⟩ ?_;refine g0a X0 O2c rfl rfl (b7b (h2b J1a z0 y1b [] _ _ _ _ (U1.keep B0.of_nil) (w0a.keep B0.of_nil s0) (by rw [← k0c P0]; exact P5a f3a) (hX.keep KX)) (by rw [← k0c P0]; exact b2c)) ?_;intro t2 T0 a2;exact lT rfl ⟨⟩ rfl ⟨rfl, T0.fin⟩
section
variable {P : Program} {r : Option Nat} {N : Nat} {D : List Deferred} {e : Env} {w : World} {ops : Array Oper} {rest : List Oper} {K : List Deferred → Env → World → Prop} {d : Nat} {t : TypeId} {p : String} {af : Array Edge} {x y : Operand} {a b : Int} {kd : IntKind} {ts : Array TypeId}
theorem m6c (hx : ev e x = .int kd a) (hy : ev e y = .int kd b) (hd : Nat.ble (d + 1) N = true) (h : WL P r N ops rest K D (upd e d (.int kd (min a b))) w) :
 WL P r N ops (⟨some d, .call { callee := .builtin .min, args := #[x, y], argTypes := ts }, t, p, af, none⟩ :: rest) K D e w := by
 have h1 : (if b < a then b else a) = min a b := by rw [Int.min_def]; split <;> split <;> omega
 exact Z0a rfl rfl hd (by simp) (by simp [execOp, resolve, invoke, builtin, run_min_int2, hx, hy, h1]) h
theorem w7c (hx : ev e x = .int kd a) (hy : ev e y = .int kd b) (hd : Nat.ble (d + 1) N = true) (h : WL P r N ops rest K D (upd e d (.int kd (max a b))) w) :
 WL P r N ops (⟨some d, .call { callee := .builtin .max, args := #[x, y], argTypes := ts }, t, p, af, none⟩ :: rest) K D e w := by
 have h1 : (if b > a then b else a) = max a b := by rw [Int.max_def]; split <;> split <;> omega
 exact Z0a rfl rfl hd (by simp) (by simp [execOp, resolve, invoke, builtin, run_max_int2, hx, hy, h1]) h
end
theorem Z8a (p : f0a) (m : Int) (hm : 0 ≤ m ∧ m ≤ 255) (g : B3a) (a b : Int) (ha : 0 ≤ a ∧ a ≤ 65535) (hb : 0 ≤ b ∧ b ≤ 65535) (w0 : World) (cs gs : List Value) (hP : i1a [] w0 p cs) (hN : v3b p) (hG : L3a [] w0 gs g) (hK : a3a [] w0) :
 K0a Tryz.prog 5 #[.agg cs.toArray, .int .u8 m, .agg gs.toArray, .int .u16 a, .int .u16 b] w0 fun v w' => v = .bool true ∧ Below w0.heap.size w0 w' := by
 obtain ⟨_, _, _, _, _, _, _, _, _, _, _, _, rfl, -⟩ := hP.open_;obtain ⟨_, rfl, hE, _, _⟩ := id hG;obtain ⟨_, _, _, rfl, _, _, _, -⟩ := id hE.open_;have S := St.refl w0;refine a0a Tryz.func5 rfl Tryz.ntmps5 rfl ?_;refine wO0 rfl ⟨⟩ (j0a S (by conv => lhs; whnf) rfl ?_);intro g5 w5 S5 X5 G5;refine j0a S5 (by conv => lhs; whnf) rfl ?_;intro g7 w7 S7 X7 G7;refine lO0 rfl ⟨⟩ (g0a S7 f9c rfl rfl (j8b _ (hK.keep (S7.keep0 []))) ?_);intro b1 C0 W0;refine lO0 rfl ⟨⟩ (v9a Tryz.underlying5 Tryz.underlying3 rfl rfl ?_);rw [g4a (by unfold i64; omega)];refine C3c rfl rfl (by omega) (by omega) rfl ?_;obtain ⟨k3, P0⟩ : ∃ k, k = m % 3 := ⟨_, rfl⟩;rw [← P0];have q0 : k3 = 0 ∨ k3 = 1 ∨ k3 = 2 := by omega
 refine lO C0.k [.w 1] rfl ⟨⟨rfl,by rfl⟩,⟨⟩⟩ (f9b C0 c9c rfl rfl (W6b p [] _ _ (hP.keep (C0.keep0 [])) (by simp) hN) (fun p0 S0 A0 F0 => ?_) (fun S0 A0 F0 => ?_))
 ·refine lO A0.k [.o 0] rfl ⟨rfl,⟨⟩⟩ (z0a A0 w2c rfl rfl (f5b g.expr [] _ _ 400 (RdE.keep (A0.keep0 []) _ _ hE) (by omega) (by omega)) (fun I0 T0 z0 G0 => ?_) (fun I0 T0 z0 G0 => ?_))
  ·refine lO0 rfl ⟨⟩ (m6c rfl rfl rfl ?_);refine v9a Tryz.underlying56 Tryz.underlying3 rfl rfl ?_;rw [g4a (by unfold i64; omega)];refine C3c rfl rfl (by omega) (by omega) rfl ?_;refine lO0 rfl ⟨by omega,⟨⟩⟩ (w7c rfl rfl rfl ?_);refine v9a Tryz.underlying56 Tryz.underlying3 rfl rfl ?_;rw [g4a (by unfold i64; omega)];refine C3c rfl rfl (by omega) (by omega) rfl ?_;refine lO0 rfl ⟨by omega,⟨⟩⟩ (m6c rfl rfl rfl ?_);obtain ⟨n1, Q0⟩ : ∃ n : Nat, min (1 + min a b % 2000) (1 + max a b % 2000) = (n : Int) := ⟨(min (1 + min a b % 2000) (1 + max a b % 2000)).toNat, by omega⟩;rw [Q0];refine lO0 rfl ⟨⟩ (w7c rfl rfl rfl ?_);obtain ⟨n2, R0⟩ : ∃ n : Nat, max (1 + min a b % 2000) (1 + max a b % 2000) = (n : Int) := ⟨(max (1 + min a b % 2000) (1 + max a b % 2000)).toNat, by omega⟩;rw [R0];have q1 : 1 ≤ n1 ∧ n1 ≤ 2000 := by omega
   have q2 : 1 ≤ n2 ∧ n2 ≤ 2000 := by omega
   have q3 : n1 ≤ n2 := by omega
   refine lO z0.k [.w 1] rfl ⟨⟨rfl,by rfl⟩,⟨⟩⟩ (t0a z0 R6b rfl rfl (I4a p k3 q0 n1 (by omega) (by omega) [] _ _ ⟨hP.keep (z0.keep0 []), p0, hK.keep (z0.keep0 []), by simp⟩) ?_);rintro Z0 U0 ⟨_, lx, _, rfl, hA, N0⟩ B0 X0;have KA := u0a.refl [] U0;obtain ⟨_, _, _, rfl⟩ := hA.form;obtain ⟨_, -, _⟩ := hA.len;refine lO B0.k [.w 1] rfl ⟨⟨rfl,by rfl⟩,⟨⟩⟩ (t0a B0 R6b rfl rfl (I4a p k3 q0 n2 (by omega) (by omega) [] _ _ ⟨hP.keep (B0.keep0 []), p0, hK.keep (B0.keep0 []), by simp⟩) ?_);rintro a1 V0 ⟨_, ly, _, rfl, hB, O0⟩ n0 H0;replace KA := KA.trans H0;have KB := u0a.refl [] V0;obtain ⟨_, _, _, rfl⟩ := hB.form;obtain ⟨_, -, _⟩ := hB.len;obtain ⟨w1, w2⟩ := C2b N0 O0 q3;refine lB0 rfl ⟨⟩ (fun J0 => ?_) fun J0 => ?_
   ·refine lB0 rfl ⟨⟩ (fun K0 => by exact absurd (w1 (by omega)).1 (by omega)) (fun K0 => ?_);refine lO0 rfl ⟨⟩ (g0a n0 f7c rfl rfl (d3a (O9a lx ly [] _ _ _ (RdS.keepW hA KA (M4a.keep KA)) (RdS.keepW hB KB (M4a.keep KB))) (decide_eq_true (w1 (by omega)).2.1)) ?_);intro d1 o0 Y0;refine lB0 rfl ⟨⟩ (fun L0 => by have := (w1 (by omega)).2.2; omega) (fun L0 => ?_);refine lB0 rfl ⟨⟩ (fun D0 => ?_) fun D0 => ?_
    ·refine lB0 rfl ⟨⟩ (fun E0 => ?_) fun E0 => ?_
     ·refine lB0 rfl ⟨⟩ (fun y0 => ?_) fun y0 => ?_
      ·refine lO o0.k [.w 1,.w 0] rfl ⟨⟨rfl,by rfl⟩,⟨rfl,by rfl⟩,⟨⟩⟩ (t0a o0 R3a rfl rfl (N1a p k3 q0 n1 (by omega) (by omega) g [] _ _ _ ⟨hP.keep (o0.keep0 []), p0, hK.keep (o0.keep0 []), by simp⟩ (hG.keep (o0.keep0 []))) ?_);rintro u0 i0 ⟨vv, lv, hr, rfl, hV, s0⟩ a0 r0;have KV := u0a.refl [] i0;obtain ⟨Av, nv, cv, rfl⟩ := hV.form;refine lO a0.k [.w 1,.w 0] rfl ⟨⟨rfl,by rfl⟩,⟨rfl,by rfl⟩,⟨⟩⟩ (t0a a0 R3a rfl rfl (N1a p k3 q0 n2 (by omega) (by omega) g [] _ _ _ ⟨hP.keep (a0.keep0 []), p0, hK.keep (a0.keep0 []), by simp⟩ (hG.keep (a0.keep0 []))) ?_);rintro v0 j0 ⟨vu, lu, ir, rfl, hU, t0⟩ b0 h0;replace KV := KV.trans h0;have KU := u0a.refl [] j0;obtain ⟨Au, nu, cu, rfl⟩ := hU.form;have w3 := u3a s0 t0 q3;refine lB0 rfl ⟨⟩ (fun d0 => ?_) fun d0 => ?_
       ·exact lT rfl ⟨⟩ rfl ⟨rfl, b0.fin⟩
       refine lB0 rfl ⟨⟩ (fun e0 => ?_) (fun e0 => by exfalso; rcases w3 with h | ⟨h, -⟩; exact d0 h; exact e0 h);refine lO0 rfl ⟨⟩ (g0a b0 i0b rfl rfl (d3a (o2a lv lu [] _ _ _ (RdS.keepW hV KV (fun _ _ h => h)) (RdS.keepW hU KU (fun _ _ h => h))) (decide_eq_true (w3.resolve_left (by omega)).2)) ?_);intro x0 g0 f0;replace KV := KV.trans f0;replace KU := KU.trans f0;exact lT rfl ⟨⟩ rfl ⟨rfl, g0.fin⟩
      refine lR0 rfl ⟨⟩ (q0a rfl (by conv => lhs; whnf) ?_);exfalso;have w4 := w2 (by omega);omega
     refine lB0 rfl ⟨⟩ (fun y0 => ?_) fun y0 => ?_
     ·refine lR0 rfl ⟨⟩ (q0a rfl (by conv => lhs; whnf) ?_);exfalso;have w4 := w2 (by omega);omega
     refine lO o0.k [.w 1,.w 0] rfl ⟨⟨rfl,by rfl⟩,⟨rfl,by rfl⟩,⟨⟩⟩ (t0a o0 R3a rfl rfl (N1a p k3 q0 n1 (by omega) (by omega) g [] _ _ _ ⟨hP.keep (o0.keep0 []), p0, hK.keep (o0.keep0 []), by simp⟩ (hG.keep (o0.keep0 []))) ?_);rintro u0 i0 ⟨vv, lv, hr, rfl, hV, s0⟩ a0 r0;have KV := u0a.refl [] i0;obtain ⟨Av, nv, cv, rfl⟩ := hV.form;refine lO a0.k [.w 1,.w 0] rfl ⟨⟨rfl,by rfl⟩,⟨rfl,by rfl⟩,⟨⟩⟩ (t0a a0 R3a rfl rfl (N1a p k3 q0 n2 (by omega) (by omega) g [] _ _ _ ⟨hP.keep (a0.keep0 []), p0, hK.keep (a0.keep0 []), by simp⟩ (hG.keep (a0.keep0 []))) ?_);rintro v0 j0 ⟨vu, lu, ir, rfl, hU, t0⟩ b0 h0;replace KV := KV.trans h0;have KU := u0a.refl [] j0;obtain ⟨Au, nu, cu, rfl⟩ := hU.form;have w3 := u3a s0 t0 q3;refine lB0 rfl ⟨⟩ (fun d0 => ?_) fun d0 => ?_
     ·exact lT rfl ⟨⟩ rfl ⟨rfl, b0.fin⟩
     refine lB0 rfl ⟨⟩ (fun e0 => ?_) (fun e0 => by exfalso; rcases w3 with h | ⟨h, -⟩; exact d0 h; exact e0 h);refine lO0 rfl ⟨⟩ (g0a b0 i0b rfl rfl (d3a (o2a lv lu [] _ _ _ (RdS.keepW hV KV (fun _ _ h => h)) (RdS.keepW hU KU (fun _ _ h => h))) (decide_eq_true (w3.resolve_left (by omega)).2)) ?_);intro x0 g0 f0;replace KV := KV.trans f0;replace KU := KU.trans f0;exact lT rfl ⟨⟩ rfl ⟨rfl, g0.fin⟩
    refine lO o0.k [.w 1,.w 0] rfl ⟨⟨rfl,by rfl⟩,⟨rfl,by rfl⟩,⟨⟩⟩ (t0a o0 R3a rfl rfl (N1a p k3 q0 n1 (by omega) (by omega) g [] _ _ _ ⟨hP.keep (o0.keep0 []), p0, hK.keep (o0.keep0 []), by simp⟩ (hG.keep (o0.keep0 []))) ?_);rintro u0 i0 ⟨vv, lv, hr, rfl, hV, s0⟩ a0 r0;have KV := u0a.refl [] i0;obtain ⟨Av, nv, cv, rfl⟩ := hV.form;refine lO a0.k [.w 1,.w 0] rfl ⟨⟨rfl,by rfl⟩,⟨rfl,by rfl⟩,⟨⟩⟩ (t0a a0 R3a rfl rfl (N1a p k3 q0 n2 (by omega) (by omega) g [] _ _ _ ⟨hP.keep (a0.keep0 []), p0, hK.keep (a0.keep0 []), by simp⟩ (hG.keep (a0.keep0 []))) ?_);rintro v0 j0 ⟨vu, lu, ir, rfl, hU, t0⟩ b0 h0;replace KV := KV.trans h0;have KU := u0a.refl [] j0;obtain ⟨Au, nu, cu, rfl⟩ := hU.form;have w3 := u3a s0 t0 q3;refine lB0 rfl ⟨⟩ (fun d0 => ?_) fun d0 => ?_
    ·exact lT rfl ⟨⟩ rfl ⟨rfl, b0.fin⟩
    refine lB0 rfl ⟨⟩ (fun e0 => ?_) (fun e0 => by exfalso; rcases w3 with h | ⟨h, -⟩; exact d0 h; exact e0 h);refine lO0 rfl ⟨⟩ (g0a b0 i0b rfl rfl (d3a (o2a lv lu [] _ _ _ (RdS.keepW hV KV (fun _ _ h => h)) (RdS.keepW hU KU (fun _ _ h => h))) (decide_eq_true (w3.resolve_left (by omega)).2)) ?_);intro x0 g0 f0;replace KV := KV.trans f0;replace KU := KU.trans f0;exact lT rfl ⟨⟩ rfl ⟨rfl, g0.fin⟩
   refine lB0 rfl ⟨⟩ (fun D0 => ?_) fun D0 => ?_
   ·refine lB0 rfl ⟨⟩ (fun E0 => ?_) fun E0 => ?_
    ·refine lB0 rfl ⟨⟩ (fun y0 => ?_) fun y0 => ?_
     ·refine lO n0.k [.w 1,.w 0] rfl ⟨⟨rfl,by rfl⟩,⟨rfl,by rfl⟩,⟨⟩⟩ (t0a n0 R3a rfl rfl (N1a p k3 q0 n1 (by omega) (by omega) g [] _ _ _ ⟨hP.keep (n0.keep0 []), p0, hK.keep (n0.keep0 []), by simp⟩ (hG.keep (n0.keep0 []))) ?_);rintro u0 i0 ⟨vv, lv, hr, rfl, hV, s0⟩ a0 r0;have KV := u0a.refl [] i0;obtain ⟨Av, nv, cv, rfl⟩ := hV.form;refine lO a0.k [.w 1,.w 0] rfl ⟨⟨rfl,by rfl⟩,⟨rfl,by rfl⟩,⟨⟩⟩ (t0a a0 R3a rfl rfl (N1a p k3 q0 n2 (by omega) (by omega) g [] _ _ _ ⟨hP.keep (a0.keep0 []), p0, hK.keep (a0.keep0 []), by simp⟩ (hG.keep (a0.keep0 []))) ?_);rintro v0 j0 ⟨vu, lu, ir, rfl, hU, t0⟩ b0 h0;replace KV := KV.trans h0;have KU := u0a.refl [] j0;obtain ⟨Au, nu, cu, rfl⟩ := hU.form;have w3 := u3a s0 t0 q3;refine lB0 rfl ⟨⟩ (fun d0 => ?_) fun d0 => ?_
      ·exact lT rfl ⟨⟩ rfl ⟨rfl, b0.fin⟩
      refine lB0 rfl ⟨⟩ (fun e0 => ?_) (fun e0 => by exfalso; rcases w3 with h | ⟨h, -⟩; exact d0 h; exact e0 h);refine lO0 rfl ⟨⟩ (g0a b0 i0b rfl rfl (d3a (o2a lv lu [] _ _ _ (RdS.keepW hV KV (fun _ _ h => h)) (RdS.keepW hU KU (fun _ _ h => h))) (decide_eq_true (w3.resolve_left (by omega)).2)) ?_);intro x0 g0 f0;replace KV := KV.trans f0;replace KU := KU.trans f0;exact lT rfl ⟨⟩ rfl ⟨rfl, g0.fin⟩
     refine lR0 rfl ⟨⟩ (q0a rfl (by conv => lhs; whnf) ?_);exfalso;have w4 := w2 (by omega);omega
    refine lB0 rfl ⟨⟩ (fun y0 => ?_) fun y0 => ?_
    ·refine lR0 rfl ⟨⟩ (q0a rfl (by conv => lhs; whnf) ?_);exfalso;have w4 := w2 (by omega);omega
    refine lO n0.k [.w 1,.w 0] rfl ⟨⟨rfl,by rfl⟩,⟨rfl,by rfl⟩,⟨⟩⟩ (t0a n0 R3a rfl rfl (N1a p k3 q0 n1 (by omega) (by omega) g [] _ _ _ ⟨hP.keep (n0.keep0 []), p0, hK.keep (n0.keep0 []), by simp⟩ (hG.keep (n0.keep0 []))) ?_);rintro u0 i0 ⟨vv, lv, hr, rfl, hV, s0⟩ a0 r0;have KV := u0a.refl [] i0;obtain ⟨Av, nv, cv, rfl⟩ := hV.form;refine lO a0.k [.w 1,.w 0] rfl ⟨⟨rfl,by rfl⟩,⟨rfl,by rfl⟩,⟨⟩⟩ (t0a a0 R3a rfl rfl (N1a p k3 q0 n2 (by omega) (by omega) g [] _ _ _ ⟨hP.keep (a0.keep0 []), p0, hK.keep (a0.keep0 []), by simp⟩ (hG.keep (a0.keep0 []))) ?_);rintro v0 j0 ⟨vu, lu, ir, rfl, hU, t0⟩ b0 h0;replace KV := KV.trans h0;have KU := u0a.refl [] j0;obtain ⟨Au, nu, cu, rfl⟩ := hU.form;have w3 := u3a s0 t0 q3;refine lB0 rfl ⟨⟩ (fun d0 => ?_) fun d0 => ?_
    ·exact lT rfl ⟨⟩ rfl ⟨rfl, b0.fin⟩
    refine lB0 rfl ⟨⟩ (fun e0 => ?_) (fun e0 => by exfalso; rcases w3 with h | ⟨h, -⟩; exact d0 h; exact e0 h);refine lO0 rfl ⟨⟩ (g0a b0 i0b rfl rfl (d3a (o2a lv lu [] _ _ _ (RdS.keepW hV KV (fun _ _ h => h)) (RdS.keepW hU KU (fun _ _ h => h))) (decide_eq_true (w3.resolve_left (by omega)).2)) ?_);intro x0 g0 f0;replace KV := KV.trans f0;replace KU := KU.trans f0;exact lT rfl ⟨⟩ rfl ⟨rfl, g0.fin⟩
   refine lO n0.k [.w 1,.w 0] rfl ⟨⟨rfl,by rfl⟩,⟨rfl,by rfl⟩,⟨⟩⟩ (t0a n0 R3a rfl rfl (N1a p k3 q0 n1 (by omega) (by omega) g [] _ _ _ ⟨hP.keep (n0.keep0 []), p0, hK.keep (n0.keep0 []), by simp⟩ (hG.keep (n0.keep0 []))) ?_);rintro u0 i0 ⟨vv, lv, hr, rfl, hV, s0⟩ a0 r0;have KV := u0a.refl [] i0;obtain ⟨Av, nv, cv, rfl⟩ := hV.form;refine lO a0.k [.w 1,.w 0] rfl ⟨⟨rfl,by rfl⟩,⟨rfl,by rfl⟩,⟨⟩⟩ (t0a a0 R3a rfl rfl (N1a p k3 q0 n2 (by omega) (by omega) g [] _ _ _ ⟨hP.keep (a0.keep0 []), p0, hK.keep (a0.keep0 []), by simp⟩ (hG.keep (a0.keep0 []))) ?_);rintro v0 j0 ⟨vu, lu, ir, rfl, hU, t0⟩ b0 h0;replace KV := KV.trans h0;have KU := u0a.refl [] j0;obtain ⟨Au, nu, cu, rfl⟩ := hU.form;have w3 := u3a s0 t0 q3;refine lB0 rfl ⟨⟩ (fun d0 => ?_) fun d0 => ?_
   ·exact lT rfl ⟨⟩ rfl ⟨rfl, b0.fin⟩
   refine lB0 rfl ⟨⟩ (fun e0 => ?_) (fun e0 => by exfalso; rcases w3 with h | ⟨h, -⟩; exact d0 h; exact e0 h);refine lO0 rfl ⟨⟩ (g0a b0 i0b rfl rfl (d3a (o2a lv lu [] _ _ _ (RdS.keepW hV KV (fun _ _ h => h)) (RdS.keepW hU KU (fun _ _ h => h))) (decide_eq_true (w3.resolve_left (by omega)).2)) ?_);intro x0 g0 f0;exact lT rfl ⟨⟩ rfl ⟨rfl, g0.fin⟩
  exact lT rfl ⟨⟩ rfl ⟨rfl, z0.fin⟩
 exact lT rfl ⟨⟩ rfl ⟨rfl, A0.fin⟩
section
variable {H : Type} {enc : TypeId × Value → H} {W : World} {base : Nat} {sp : Nat → Bool} {held : Bool}
theorem v8b {P : Program} {t t' n0 t3 t4 : TypeId} {args : Array Value} {ds : List (DataW H)} {ps : List MemPlace} (h : DataW.TrodAll enc P W base sp held [t, t', n0, t3, t4] args.toList ds ps) :
 ∃ v v' i0 v3 v4 d d' g0 d3 d4 p p' h0 p3 p4, args = #[v, v', i0, v3, v4] ∧ ds = [d, d', g0, d3, d4] ∧ ps = p ++ p' ++ h0 ++ p3 ++ p4 ∧ DataW.Trod enc P W base sp held t v d p ∧ DataW.Trod enc P W base sp held t' v' d' p' ∧ DataW.Trod enc P W base sp held n0 i0 g0 h0 ∧ DataW.Trod enc P W base sp held t3 v3 d3 p3 ∧ DataW.Trod enc P W base sp held t4 v4 d4 p4 := by
 obtain ⟨v, _, d, _, p, _, _, rfl, rfl, hd, f0⟩ := trodAll_cons h;obtain ⟨v', _, d', _, p', _, rfl, rfl, rfl, o0, b0⟩ := trodAll_cons f0;obtain ⟨i0, _, g0, _, h0, _, rfl, rfl, rfl, j0, a0⟩ := trodAll_cons b0;obtain ⟨v3, _, d3, _, p3, _, rfl, rfl, rfl, p0, d0⟩ := trodAll_cons a0;obtain ⟨v4, _, d4, _, p4, _, rfl, rfl, rfl, q0, e0⟩ := trodAll_cons d0;obtain ⟨rfl, rfl, rfl⟩ := trodAll_nil e0;exact ⟨v, v', i0, v3, v4, d, d', g0, d3, d4, p, p', h0, p3, p4, by cases args; simp_all, rfl, by simp, hd, o0, j0, p0, q0⟩
theorem o6a : Tryz.prog.cellsOf 55 = 6 := by kernel_rfl
theorem z9b {fuel : Nat} {cs : List Value} {x : DataW H × List MemPlace} (h : DataW.trod enc Tryz.prog W base sp held fuel 55 cs = some x) (hw : o3a Tryz.prog 55 x.1) : ∃ c, L3a [] W cs c := by
 obtain ⟨_, _, _, hx, hl, b0, a0⟩ := DataW.trod_struct Tryz.underlying55 h;rw [hx] at hw;rw [o6a] at hl;obtain ⟨_, t0, -⟩ := H0a 0 3 0 b0 a0 Tryz.underlying55 hw rfl;obtain ⟨_, t1, -⟩ := H0a 1 3 1 b0 a0 Tryz.underlying55 hw rfl;obtain ⟨_, t2, w2⟩ := H0a 2 53 2 b0 a0 Tryz.underlying55 hw rfl;simp only [i9a, C1a] at t0 t1 t2;obtain ⟨_, _, _, _, _, _, rfl⟩ := h8c hl;simp only [List.drop_succ_cons, List.drop_zero, List.take_succ_cons, List.take_zero] at t0 t1 t2;obtain ⟨m0, e0, -, f0⟩ := DataW.trod_int Tryz.underlying3 t0;obtain ⟨m1, e1, -, f1⟩ := DataW.trod_int Tryz.underlying3 t1;obtain ⟨x2, h2⟩ := G3a _ _ _ t2 w2;cases e0; cases e1;exact ⟨⟨m0, m1, x2⟩, _, rfl, h2, V2a f0, V2a f1⟩
end
end Go.Fw
