/-
  Part 3 of 9 of the proof of MonitorBlame: what it leans on. No conditions.
-/
import Derived.Test.YtjjmdcnmeommbaaGreatDoorZMonitorBlame2
import Derived.StringKeys
import Derived.Test.YtjjmdcnmeommbaaGreatDoorRows
import Derived.ProofKit
import Derived.LaidMore
import Derived.OpenShut
import Derived.Carry
import Derived.SizedLaws
import Derived.Stop.Joined
import Derived.Test.YtjjmdcnmeommbaaGreatDoorTie
import Derived.Test.YtjjmdcnmeommbaaGreatDoorCards
import Derived.SevenTiedAt
set_option maxRecDepth 100000
namespace Go.Fw
open Go.RowKit
def RdP (M : List Nat) (w : World) (e : E) (b o : Nat) : Prop := b ∉ M ∧ ∃ cs, v1a w b o cs ∧ RdE M w e cs
theorem RdP.keep {M : List Nat} {w w' : World} {e : E} {b o : Nat} (h : RdP M w e b o) (hk : G0a M w w') : RdP M w' e b o := by
 obtain ⟨h1, cs, h2, h3⟩ := h
 exact ⟨h1, cs, h2.keep hk h1, RdE.keep hk _ _ h3⟩
theorem RdP.more {M M' : List Nat} {w : World} {e : E} {b o : Nat} (h : RdP M w e b o) (hM : ∀ g ∈ M', g ∈ M ∨ w.heap.size ≤ g) : RdP M' w e b o := by
 obtain ⟨h1, cs, h2, h3⟩ := h
 refine ⟨fun hh => ?_, cs, h2, RdE.more hM _ _ h3⟩
 rcases hM b hh with h | h
 ·exact h1 h
 ·have hl := h3.length
  have := World.block_lt_of_cell? w _ (h2 0 cs[0] (List.getElem?_eq_getElem (by omega)))
  simp at this; omega
theorem RdP.less {M M' : List Nat} {w : World} {e : E} {b o : Nat} (h : RdP M w e b o) (hM : ∀ g ∈ M', g ∈ M) : RdP M' w e b o := by
 obtain ⟨h1, cs, h2, h3⟩ := h
 exact ⟨fun hh => h1 (hM b hh), cs, h2, RdE.less hM _ _ h3⟩
theorem RdP.kid {M : List Nat} {w : World} {e : E} {b o : Nat} (hb : b ∉ M) (hkk : ∀ (i : Nat) (h : i < e.kids.length), ∃ cs', v1a w b (o + i * 4) cs' ∧ RdE M w e.kids[i] cs') (i : Nat) (hi : i < e.kids.length) : RdP M w e.kids[i] b (o + i * 4) := by
 obtain ⟨cs, h1, h2⟩ := hkk i hi
 exact ⟨hb, cs, h1, h2⟩
theorem RdP.open_ {M : List Nat} {w : World} {e : E} {b o : Nat} (h : RdP M w e b o) : b ∉ M ∧ i64 e.op ∧ i64 e.w ∧ i64 e.n ∧ w.cell? ⟨b, o, none⟩ = some (.int .i64 e.op) ∧ w.cell? ⟨b, o + 1, none⟩ = some (.int .i64 e.w) ∧ w.cell? ⟨b, o + 2, none⟩ = some (.int .i64 e.n) ∧
 ∃ A n c, w.cell? ⟨b, o + 3, none⟩ = some (.slice A n c) ∧ n = e.kids.length ∧ n ≤ c ∧ c ≤ maxLen ∧ n ≤ 140737488355328 ∧
 (0 < n → ∃ b o, A = some ⟨b, o, none⟩ ∧ b ∉ M ∧ ∀ (i : Nat) (h : i < e.kids.length), ∃ cs', v1a w b (o + i * 4) cs' ∧ RdE M w e.kids[i] cs') ∧ RdE M w e [.int .i64 e.op, .int .i64 e.w, .int .i64 e.n, .slice A n c] := by
 obtain ⟨h1, _, h2, h3⟩ := h
 obtain ⟨A, n, c, rfl, o1, o2, o3, h4, h5, h6, h7, h8⟩ := h3.open_
 exact ⟨h1, o1, o2, o3, h2 0 _ rfl, h2 1 _ rfl, h2 2 _ rfl, A, n, c, h2 3 _ rfl, h4, h5, h6, h7, h8, h3⟩
def e3a (M : List Nat) (w : World) : Prop := 0 ∉ M ∧ ∀ i : Nat, i ≤ 8 → w.cell? ⟨0, i, none⟩ = some (.int .i64 (C4a i - 1))
theorem e3a.keep {M : List Nat} {w w' : World} (h : e3a M w) (hk : G0a M w w') : e3a M w' := ⟨h.1, fun i hi => hk.cell (a := ⟨0, i, none⟩) h.1 (h.2 i hi)⟩
theorem e3a.more {M M' : List Nat} {w : World} (h : e3a M w) (hM : ∀ g ∈ M', g ∈ M ∨ w.heap.size ≤ g) : e3a M' w := by
 refine ⟨fun hh => ?_, h.2⟩
 rcases hM _ hh with h' | h'
 ·exact h.1 h'
 ·have := World.block_lt_of_cell? w _ (h.2 0 (by omega))
  simp at this; omega
theorem e3a.at {M : List Nat} {w : World} (h : e3a M w) {x : Int} (h0 : 0 ≤ x) (h8 : x ≤ 8) : w.cell? ⟨0, 0 + x.toNat * 1, none⟩ = some (.int .i64 (C4a x.toNat - 1)) := by
 have := h.2 x.toNat (by omega)
 simpa using this
theorem St.ne {M : List Nat} {w0 w : World} {L : List Ent} (S : St M w0 w L) (i j : Nat) {g g' t t' : Nat} {cs cs' : List Value} (hi : L[i]? = some (some g, t, cs)) (hj : L[j]? = some (some g', t', cs')) (hij : i < j) : g ≠ g' := by
 obtain ⟨h1, e1⟩ := List.getElem?_eq_some_iff.1 hi
 obtain ⟨h2, e2⟩ := List.getElem?_eq_some_iff.1 hj
 have := List.pairwise_iff_getElem.1 S.apart i j h1 h2 hij g (by rw [e1])
 rw [e2] at this
 exact fun h => this (by rw [h])
def T9a (e : E) (ws : List Int) : Bool := decide (e.kids.length = ws.length ∧ ∀ j, j < ws.length → e.kw j = ws.getD j 0)
theorem c7b {e : E} {a : Int} : T9a e [a] = true ↔ e.kids.length = 1 ∧ e.kw 0 = a := by
 simp only [T9a, decide_eq_true_eq, List.length_cons, List.length_nil]
 constructor
 ·rintro ⟨h1, h2⟩; exact ⟨h1, by simpa using h2 0 (by omega)⟩
 ·rintro ⟨h1, h2⟩; exact ⟨h1, fun j hj => by obtain rfl : j = 0 := by omega
                                             simpa using h2⟩
theorem K3a {e : E} {a b : Int} : T9a e [a, b] = true ↔ e.kids.length = 2 ∧ e.kw 0 = a ∧ e.kw 1 = b := by
 simp only [T9a, decide_eq_true_eq, List.length_cons, List.length_nil]
 constructor
 ·rintro ⟨h1, h2⟩; exact ⟨h1, by simpa using h2 0 (by omega), by simpa using h2 1 (by omega)⟩
 ·rintro ⟨h1, h2, h3⟩
  refine ⟨h1, fun j hj => ?_⟩
  rcases (show j = 0 ∨ j = 1 by omega) with rfl | rfl
  ·simpa using h2
  ·simpa using h3
theorem g9b {e : E} {a b c : Int} : T9a e [a, b, c] = true ↔ e.kids.length = 3 ∧ e.kw 0 = a ∧ e.kw 1 = b ∧ e.kw 2 = c := by
 simp only [T9a, decide_eq_true_eq, List.length_cons, List.length_nil]
 constructor
 ·rintro ⟨h1, h2⟩; exact ⟨h1, by simpa using h2 0 (by omega), by simpa using h2 1 (by omega), by simpa using h2 2 (by omega)⟩
 ·rintro ⟨h1, h2, h3, h4⟩
  refine ⟨h1, fun j hj => ?_⟩
  rcases (show j = 0 ∨ j = 1 ∨ j = 2 by omega) with rfl | rfl | rfl
  ·simpa using h2
  ·simpa using h3
  ·simpa using h4
theorem x4a {w0 w : World} {L : List Ent} {k g el n : Nat} {M M' : List Nat} {l : List Int} (S : St M' w0 w L) (hk : L[k]? = some (some g, el, l.map (Value.int .i64))) (hM : g ∉ M) (hn : n = l.length) (hb : n ≤ 140737488355328) (hl : ∀ x ∈ l, i64 x) : RdI M w (.slice (some ⟨g, 0, none⟩) n n) l :=
 S.rd1 hk hM hn hb fun i x hi => ⟨.int .i64 x, by simp [hi], rfl, hl x (List.mem_of_getElem? hi)⟩
end Go.Fw
namespace Go.Proofs.YtjjmdcnmeommbaaGreatDoor
open Go.Fw Go.RowKit
theorem N5a (e : E) (M : List Nat) (w0 : World) (v0 v1 v2 : Value) (A : Option Addr) (n c : Nat) (vw : Value) (ws : List Int) (hR : RdE M w0 e [v0, v1, v2, .slice A n c]) (hW : RdI M w0 vw ws) :
 R0a Tryz.prog 142 #[.slice A n c, vw] w0 fun v w' => v = .bool (T9a e ws) ∧ Below w0.heap.size w0 w' := by
 obtain ⟨A', n', c', heq, _, _, _, _, _, _, _, hks⟩ := hR.open_
 obtain ⟨rfl, rfl, rfl, rfl, rfl, rfl⟩ : v0 = .int .i64 e.op ∧ v1 = .int .i64 e.w ∧ v2 = .int .i64 e.n ∧ A = A' ∧ n = n' ∧ c = c' := by simpa using heq
 clear heq
 obtain ⟨Aw, nw, cw, rfl⟩ := hW.form
 obtain ⟨_, _, _, _, hew⟩ := hW.at
 have S := St.refl w0
 refine a0a Tryz.func142 rfl Tryz.ntmps142 rfl ?_
 refine wB0 rfl ⟨⟩ (fun h11 => ?_) fun h11 => ?_
 ·refine lT rfl ⟨⟩ rfl ⟨congrArg Value.bool ?_, S.fin⟩
  unfold T9a
  exact (decide_eq_false (fun h => by have := h.1; omega)).symm
 refine lC0 rfl ⟨⟩ (wL (fun μ D ε w => D = [] ∧ ∃ k : Nat, (k + μ = ws.length) ∧ (∀ (j : Nat), j < k → e.kw j = ws.getD j 0) ∧ St [] w0 w [] ∧ ε 0 = .slice A n c ∧ ε 12 = .slice Aw nw cw ∧ ε 13 = .int .i64 nw ∧ ε 14 = .int .i64 k) (μ := ws.length) ⟨rfl, 0, by omega, fun j h => absurd h (by omega), S, rfl, rfl, rfl, rfl⟩ ?_)
 rintro μ D ε w ⟨rfl, k, _, hs, S, e0, e12, e13, e14⟩
 refine i0a 0 e0 (i0a 12 e12 (i0a 13 e13 (i0a 14 e14 ?_)))
 clear e0 e12 e13 e14
 refine wB0 rfl ⟨⟩ (fun h15 => ?_) fun h15 => ?_
 ·refine lO0 rfl ⟨⟩ ?_
  have hlt : k < ws.length := by omega
  obtain ⟨bw, ow, _, _, hee⟩ := hew (by omega)
  obtain ⟨_, _, hcw2, hcw3⟩ := hee k ws[k] (List.getElem?_eq_getElem hlt)
  have hcw' : w0.cell? ⟨bw, ow + k * 1, none⟩ = some (.int .i64 ws[k]) := hcw2 0 _ (by rw [hcw3.1]; rfl)
  refine x0a d1a.slT rfl (by assumption) rfl (by omega) (by omega) rfl ?_
  refine s0a A0a rfl (by exact S.old hcw') rfl ?_
  refine lO0 rfl ⟨⟩ ?_
  obtain ⟨b, o, _, _, hkk⟩ := hks (by omega)
  have hck' : w0.cell? ⟨b, o + k * 4 + 1, none⟩ = some (.int .i64 (e.kw k)) := A1a hkk k (by omega)
  refine x0a z1a.slT rfl (by assumption) rfl (by omega) (by omega) rfl ?_
  refine lO0 rfl ⟨⟩ (s0a A0a rfl (by exact S.old hck') rfl ?_)
  refine lB0 rfl ⟨⟩ (fun h25 => ?_) fun h25 => ?_
  ·refine lT rfl ⟨⟩ rfl ⟨congrArg Value.bool ?_, S.fin⟩
   unfold T9a
   exact (decide_eq_false (fun h => h25 (by have := h.2 k hlt; simpa [hlt] using this))).symm
  refine lP0 rfl ⟨by omega,⟨⟩⟩ ⟨μ - 1, by omega, rfl, k + 1, by omega, fun j h => ?_, S, rfl, rfl, rfl, rfl⟩
  by_cases hjk : j = k
  ·subst hjk; simpa [hlt] using h25
  ·exact hs j (by omega)
 refine lT rfl ⟨⟩ rfl ⟨congrArg Value.bool ?_, S.fin⟩
 unfold T9a
 exact (decide_eq_true ⟨by omega, fun j hj => hs j (by omega)⟩).symm
set_option maxHeartbeats 4000000 in
theorem I7b (e : E) (M : List Nat) (w0 : World) (b o : Nat) (hR : RdP M w0 e b o) (hK : e3a M w0) :
 R0a Tryz.prog 79 #[.pointer (some ⟨b, o, none⟩)] w0 fun v w' => v = .bool e.shapeB ∧ Below w0.heap.size w0 w' := by
 obtain ⟨_, _, o2, _, c0, c1, c2, _, _, _, c3, _, _, _, _, hks, hRE⟩ := hR.open_
 have S := St.refl w0
 refine a0a Tryz.func79 rfl Tryz.ntmps79 rfl ?_
 refine wO0 rfl ⟨⟩ (s0a A0a rfl (by exact S.old c1) rfl ?_)
 refine lB0 rfl ⟨⟩ (fun h7 => ?_) fun h7 => ?_
 ·refine lR0 rfl ⟨⟩ (q0a rfl (by conv => lhs; whnf) ?_)
  exact ⟨by exact SN (by omega), S.fin⟩
 refine lO0 rfl ⟨⟩ (s0a A0a rfl (by exact S.old c1) rfl ?_)
 refine lB0 rfl ⟨⟩ (fun h13 => ?_) fun h13 => ?_
 ·refine lR0 rfl ⟨⟩ (q0a rfl (by conv => lhs; whnf) ?_)
  exact ⟨by exact SN (by omega), S.fin⟩
 refine lO0 rfl ⟨⟩ (s0a A0a rfl (by exact S.old c0) rfl ?_)
 refine lB0 rfl ⟨⟩ (fun h20 => ?_) fun h20 => ?_
 ·refine lC0 rfl ⟨⟩ (u0a b0a [0, 1, 2, 3, 4, 5, 6, 7, 8, 9, 10, 11, 12, 13, 14, 15, 16, 17, 18, 19, 20, 21, 22, 23, 24, 25, 26] [] [] (by kernel_rfl) rfl (Cl _ _ _ _) (Cl.start S) ?_)
  refine qO0 rfl ⟨⟩ (j0a c2a rfl (fun w1 hw => by exact hw.1.old c3) rfl ?_)
  refine qB0 rfl ⟨⟩ (fun h26 => ?_) fun h26 => ?_
  ·refine qO0 rfl ⟨⟩ (j0a A0a rfl (fun w1 hw => by exact hw.1.old c2) rfl ?_)
   refine qB0 rfl ⟨⟩ (fun h32 => ?_) fun h32 => ?_
   ·refine qO0 rfl ⟨⟩ (j0a A0a rfl (fun w1 hw => by exact hw.1.old c2) rfl ?_)
    refine qO0 rfl ⟨⟩ (j0a A0a rfl (fun w1 hw => by exact hw.1.old c1) rfl ?_)
    refine qO0 rfl ⟨⟩ (V3a o1b rfl rfl (by omega) (by omega) rfl ?_)
    refine qO0 rfl ⟨⟩ (j0a A0a rfl (fun w1 hw => by exact hw.1.old (hK.at (by omega) (by omega))) rfl ?_)
    refine qB0 rfl ⟨⟩ (fun h45 => ?_) fun h45 => ?_
    ·refine qD rfl ⟨⟩ ?_
     rintro wR5 ⟨SR5, XR5⟩
     refine lR0 rfl ⟨⟩ (q0a rfl (by conv => lhs; whnf) ?_)
     exact ⟨by exact ST1 (by omega) (by omega), SR5.fin⟩
    refine qD rfl ⟨⟩ ?_
    rintro wR5 ⟨SR5, XR5⟩
    refine lR0 rfl ⟨⟩ (q0a rfl (by conv => lhs; whnf) ?_)
    exact ⟨by exact SF1 (by omega) (by omega), SR5.fin⟩
   refine qD rfl ⟨⟩ ?_
   rintro wR5 ⟨SR5, XR5⟩
   refine lR0 rfl ⟨⟩ (q0a rfl (by conv => lhs; whnf) ?_)
   exact ⟨by exact SF1 (by omega) (by omega), SR5.fin⟩
  refine qD rfl ⟨⟩ ?_
  rintro wR5 ⟨SR5, XR5⟩
  refine lR0 rfl ⟨⟩ (q0a rfl (by conv => lhs; whnf) ?_)
  exact ⟨by exact SF1 (by omega) (by omega), SR5.fin⟩
 refine lB0 rfl ⟨⟩ (fun h48 => ?_) fun h48 => ?_
 ·refine lO0 rfl ⟨⟩ (s0a c2a rfl (by exact S.old c3) rfl ?_)
  refine lB0 rfl ⟨⟩ (fun h55 => ?_) fun h55 => ?_
  ·refine lO0 rfl ⟨⟩ (s0a A0a rfl (by exact S.old c2) rfl ?_)
   refine lB0 rfl ⟨⟩ (fun h61 => ?_) fun h61 => ?_
   ·refine lO0 rfl ⟨⟩ (s0a A0a rfl (by exact S.old c2) rfl ?_)
    refine lB0 rfl ⟨⟩ (fun h68 => ?_) fun h68 => ?_
    ·refine lR0 rfl ⟨⟩ (q0a rfl (by conv => lhs; whnf) ?_)
     exact ⟨by exact ST2 (by omega) (by omega), S.fin⟩
    refine lR0 rfl ⟨⟩ (q0a rfl (by conv => lhs; whnf) ?_)
    exact ⟨by exact SF2 (by omega) (by omega), S.fin⟩
   refine lR0 rfl ⟨⟩ (q0a rfl (by conv => lhs; whnf) ?_)
   exact ⟨by exact SF2 (by omega) (by omega), S.fin⟩
  refine lR0 rfl ⟨⟩ (q0a rfl (by conv => lhs; whnf) ?_)
  exact ⟨by exact SF2 (by omega) (by omega), S.fin⟩
 refine lB0 rfl ⟨⟩ (fun h49 => ?_) fun h49 => ?_
 ·refine lO0 rfl ⟨⟩ (s0a c2a rfl (by exact S.old c3) rfl ?_)
  refine lB0 rfl ⟨⟩ (fun h55 => ?_) fun h55 => ?_
  ·refine lO0 rfl ⟨⟩ (s0a A0a rfl (by exact S.old c2) rfl ?_)
   refine lB0 rfl ⟨⟩ (fun h61 => ?_) fun h61 => ?_
   ·refine lO0 rfl ⟨⟩ (s0a A0a rfl (by exact S.old c2) rfl ?_)
    refine lB0 rfl ⟨⟩ (fun h68 => ?_) fun h68 => ?_
    ·refine lR0 rfl ⟨⟩ (q0a rfl (by conv => lhs; whnf) ?_)
     exact ⟨by exact ST2 (by omega) (by omega), S.fin⟩
    refine lR0 rfl ⟨⟩ (q0a rfl (by conv => lhs; whnf) ?_)
    exact ⟨by exact SF2 (by omega) (by omega), S.fin⟩
   refine lR0 rfl ⟨⟩ (q0a rfl (by conv => lhs; whnf) ?_)
   exact ⟨by exact SF2 (by omega) (by omega), S.fin⟩
  refine lR0 rfl ⟨⟩ (q0a rfl (by conv => lhs; whnf) ?_)
  exact ⟨by exact SF2 (by omega) (by omega), S.fin⟩
 refine lO0 rfl ⟨⟩ (s0a A0a rfl (by exact S.old c2) rfl ?_)
 refine lB0 rfl ⟨⟩ (fun h74 => ?_) fun h74 => ?_
 ·refine lR0 rfl ⟨⟩ (q0a rfl (by conv => lhs; whnf) ?_)
  exact ⟨by exact X5a (fun ⟨x1, x2, x3⟩ => by omega), S.fin⟩
 refine lO0 rfl ⟨⟩ (s0a A0a rfl (by exact S.old c0) rfl ?_)
 refine lB0 rfl ⟨⟩ (fun h80 => ?_) fun h80 => ?_
 ·refine lC0 rfl ⟨⟩ (u0a b0a [0, 1, 2, 3, 4, 5, 6, 7] [8] [9, 10] (by kernel_rfl) rfl (Cl _ _ _ _) (Cl.start S) ?_)
  refine qO0 rfl ⟨⟩ (j0a c2a rfl (fun w1 hw => by exact hw.1.old c3) rfl ?_)
  refine qO0 rfl ⟨⟩ (j0a A0a rfl (fun w1 hw => by exact hw.1.old c1) rfl ?_)
  refine qN0 rfl ⟨⟩ (c3a ?_)
  refine J3a rfl rfl d1a (vs := [.int .i64 _]) (cs := [_]) (by rfl) rfl rfl rfl rfl rfl ?_
  refine y1a ?_
  rintro wR13 ⟨SR13, _⟩
  intro g89 hg89 G89 ng89
  dsimp only [x3a]
  clear ng89
  replace SR13 := SR13.push_new S hg89 G89
  refine r0a SR13 Y5a rfl rfl (N5a e [] _ _ _ _ _ _ _ _ [e.w] (RdE.less (by simp) _ _ (RdE.keep (SR13.keep0 M) _ _ hRE)) (x4a (k := 0) SR13 rfl (by simp) rfl (by omega) (by simpa using o2))) (fun h90 w90 S90 X90 => ?_) (fun h90 w90 S90 X90 => ?_)
  ·refine lR0 rfl ⟨⟩ (q0a rfl (by conv => lhs; whnf) ?_)
   exact ⟨by exact ST4 (by omega) (by have := c7b.1 h90; omega), S90.fin⟩
  refine lR0 rfl ⟨⟩ (q0a rfl (by conv => lhs; whnf) ?_)
  exact ⟨by exact SF4 (by omega) (fun g => by rw [c7b.2 (by omega)] at h90; cases h90), S90.fin⟩
 refine lB0 rfl ⟨⟩ (fun h92 => ?_) fun h92 => ?_
 ·refine lC0 rfl ⟨⟩ (u0a b0a [0, 1, 2, 3, 4, 5, 6, 7, 8, 9, 10, 11] [12] [13, 14] (by kernel_rfl) rfl (Cl _ _ _ _) (Cl.start S) ?_)
  refine qO0 rfl ⟨⟩ (j0a c2a rfl (fun w1 hw => by exact hw.1.old c3) rfl ?_)
  refine qO0 rfl ⟨⟩ (j0a A0a rfl (fun w1 hw => by exact hw.1.old c1) rfl ?_)
  refine qO0 rfl ⟨⟩ (j0a A0a rfl (fun w1 hw => by exact hw.1.old c1) rfl ?_)
  refine qN0 rfl ⟨⟩ (c3a ?_)
  refine J3a rfl rfl d1a (vs := [.int .i64 _, .int .i64 _]) (cs := [_, _]) (by rfl) rfl rfl rfl rfl rfl ?_
  refine y1a ?_
  rintro wR20 ⟨SR20, XR20⟩
  intro g110 hg110 G110 ng110
  dsimp only [x3a]
  clear ng110
  replace SR20 := SR20.push_new S hg110 G110
  refine r0a SR20 Y5a rfl rfl (N5a e [] _ _ _ _ _ _ _ _ [e.w, e.w] (RdE.less (by simp) _ _ (RdE.keep (SR20.keep0 M) _ _ hRE)) (x4a (k := 0) SR20 rfl (by simp) rfl (by omega) (by simpa using o2))) (fun h111 w111 S111 X111 => ?_) (fun h111 w111 S111 X111 => ?_)
  ·refine lR0 rfl ⟨⟩ (q0a rfl (by conv => lhs; whnf) ?_)
   exact ⟨by exact ST5 (by omega) (by have := K3a.1 h111; omega), S111.fin⟩
  refine lR0 rfl ⟨⟩ (q0a rfl (by conv => lhs; whnf) ?_)
  exact ⟨by exact SF5 (by omega) (fun g => by rw [K3a.2 (by omega)] at h111; cases h111), S111.fin⟩
 refine lB0 rfl ⟨⟩ (fun h93 => ?_) fun h93 => ?_
 ·refine lC0 rfl ⟨⟩ (u0a b0a [0, 1, 2, 3, 4, 5, 6, 7, 8, 9, 10, 11] [12] [13, 14] (by kernel_rfl) rfl (Cl _ _ _ _) (Cl.start S) ?_)
  refine qO0 rfl ⟨⟩ (j0a c2a rfl (fun w1 hw => by exact hw.1.old c3) rfl ?_)
  refine qO0 rfl ⟨⟩ (j0a A0a rfl (fun w1 hw => by exact hw.1.old c1) rfl ?_)
  refine qO0 rfl ⟨⟩ (j0a A0a rfl (fun w1 hw => by exact hw.1.old c1) rfl ?_)
  refine qN0 rfl ⟨⟩ (c3a ?_)
  refine J3a rfl rfl d1a (vs := [.int .i64 _, .int .i64 _]) (cs := [_, _]) (by rfl) rfl rfl rfl rfl rfl ?_
  refine y1a ?_
  rintro wR20 ⟨SR20, XR20⟩
  intro g110 hg110 G110 ng110
  dsimp only [x3a]
  clear ng110
  replace SR20 := SR20.push_new S hg110 G110
  refine r0a SR20 Y5a rfl rfl (N5a e [] _ _ _ _ _ _ _ _ [e.w, e.w] (RdE.less (by simp) _ _ (RdE.keep (SR20.keep0 M) _ _ hRE)) (x4a (k := 0) SR20 rfl (by simp) rfl (by omega) (by simpa using o2))) (fun h111 w111 S111 X111 => ?_) (fun h111 w111 S111 X111 => ?_)
  ·refine lR0 rfl ⟨⟩ (q0a rfl (by conv => lhs; whnf) ?_)
   exact ⟨by exact ST5 (by omega) (by have := K3a.1 h111; omega), S111.fin⟩
  refine lR0 rfl ⟨⟩ (q0a rfl (by conv => lhs; whnf) ?_)
  exact ⟨by exact SF5 (by omega) (fun g => by rw [K3a.2 (by omega)] at h111; cases h111), S111.fin⟩
 refine lB0 rfl ⟨⟩ (fun h94 => ?_) fun h94 => ?_
 ·refine lC0 rfl ⟨⟩ (u0a b0a [0, 1, 2, 3, 4, 5, 6, 7, 8, 9, 10, 11] [12] [13, 14] (by kernel_rfl) rfl (Cl _ _ _ _) (Cl.start S) ?_)
  refine qO0 rfl ⟨⟩ (j0a c2a rfl (fun w1 hw => by exact hw.1.old c3) rfl ?_)
  refine qO0 rfl ⟨⟩ (j0a A0a rfl (fun w1 hw => by exact hw.1.old c1) rfl ?_)
  refine qO0 rfl ⟨⟩ (j0a A0a rfl (fun w1 hw => by exact hw.1.old c1) rfl ?_)
  refine qN0 rfl ⟨⟩ (c3a ?_)
  refine J3a rfl rfl d1a (vs := [.int .i64 _, .int .i64 _]) (cs := [_, _]) (by rfl) rfl rfl rfl rfl rfl ?_
  refine y1a ?_
  rintro wR20 ⟨SR20, XR20⟩
  intro g110 hg110 G110 ng110
  dsimp only [x3a]
  clear ng110
  replace SR20 := SR20.push_new S hg110 G110
  refine r0a SR20 Y5a rfl rfl (N5a e [] _ _ _ _ _ _ _ _ [e.w, e.w] (RdE.less (by simp) _ _ (RdE.keep (SR20.keep0 M) _ _ hRE)) (x4a (k := 0) SR20 rfl (by simp) rfl (by omega) (by simpa using o2))) (fun h111 w111 S111 X111 => ?_) (fun h111 w111 S111 X111 => ?_)
  ·refine lR0 rfl ⟨⟩ (q0a rfl (by conv => lhs; whnf) ?_)
   exact ⟨by exact ST5 (by omega) (by have := K3a.1 h111; omega), S111.fin⟩
  refine lR0 rfl ⟨⟩ (q0a rfl (by conv => lhs; whnf) ?_)
  exact ⟨by exact SF5 (by omega) (fun g => by rw [K3a.2 (by omega)] at h111; cases h111), S111.fin⟩
 refine lB0 rfl ⟨⟩ (fun h95 => ?_) fun h95 => ?_
 ·refine lC0 rfl ⟨⟩ (u0a b0a [0, 1, 2, 3, 4, 5, 6, 7, 8, 9, 10, 11] [12] [13, 14] (by kernel_rfl) rfl (Cl _ _ _ _) (Cl.start S) ?_)
  refine qO0 rfl ⟨⟩ (j0a c2a rfl (fun w1 hw => by exact hw.1.old c3) rfl ?_)
  refine qO0 rfl ⟨⟩ (j0a A0a rfl (fun w1 hw => by exact hw.1.old c1) rfl ?_)
  refine qO0 rfl ⟨⟩ (j0a A0a rfl (fun w1 hw => by exact hw.1.old c1) rfl ?_)
  refine qN0 rfl ⟨⟩ (c3a ?_)
  refine J3a rfl rfl d1a (vs := [.int .i64 _, .int .i64 _]) (cs := [_, _]) (by rfl) rfl rfl rfl rfl rfl ?_
  refine y1a ?_
  rintro wR20 ⟨SR20, XR20⟩
  intro g110 hg110 G110 ng110
  dsimp only [x3a]
  clear ng110
  replace SR20 := SR20.push_new S hg110 G110
  refine r0a SR20 Y5a rfl rfl (N5a e [] _ _ _ _ _ _ _ _ [e.w, e.w] (RdE.less (by simp) _ _ (RdE.keep (SR20.keep0 M) _ _ hRE)) (x4a (k := 0) SR20 rfl (by simp) rfl (by omega) (by simpa using o2))) (fun h111 w111 S111 X111 => ?_) (fun h111 w111 S111 X111 => ?_)
  ·refine lR0 rfl ⟨⟩ (q0a rfl (by conv => lhs; whnf) ?_)
   exact ⟨by exact ST5 (by omega) (by have := K3a.1 h111; omega), S111.fin⟩
  refine lR0 rfl ⟨⟩ (q0a rfl (by conv => lhs; whnf) ?_)
  exact ⟨by exact SF5 (by omega) (fun g => by rw [K3a.2 (by omega)] at h111; cases h111), S111.fin⟩
 refine lB0 rfl ⟨⟩ (fun h96 => ?_) fun h96 => ?_
 ·refine lC0 rfl ⟨⟩ (u0a b0a [0, 1, 2, 3, 4, 5, 6, 7, 8, 9, 10, 11] [12] [13, 14] (by kernel_rfl) rfl (Cl _ _ _ _) (Cl.start S) ?_)
  refine qO0 rfl ⟨⟩ (j0a c2a rfl (fun w1 hw => by exact hw.1.old c3) rfl ?_)
  refine qO0 rfl ⟨⟩ (j0a A0a rfl (fun w1 hw => by exact hw.1.old c1) rfl ?_)
  refine qO0 rfl ⟨⟩ (j0a A0a rfl (fun w1 hw => by exact hw.1.old c1) rfl ?_)
  refine qN0 rfl ⟨⟩ (c3a ?_)
  refine J3a rfl rfl d1a (vs := [.int .i64 _, .int .i64 _]) (cs := [_, _]) (by rfl) rfl rfl rfl rfl rfl ?_
  refine y1a ?_
  rintro wR20 ⟨SR20, XR20⟩
  intro g110 hg110 G110 ng110
  dsimp only [x3a]
  clear ng110
  replace SR20 := SR20.push_new S hg110 G110
  refine r0a SR20 Y5a rfl rfl (N5a e [] _ _ _ _ _ _ _ _ [e.w, e.w] (RdE.less (by simp) _ _ (RdE.keep (SR20.keep0 M) _ _ hRE)) (x4a (k := 0) SR20 rfl (by simp) rfl (by omega) (by simpa using o2))) (fun h111 w111 S111 X111 => ?_) (fun h111 w111 S111 X111 => ?_)
  ·refine lR0 rfl ⟨⟩ (q0a rfl (by conv => lhs; whnf) ?_)
   exact ⟨by exact ST5 (by omega) (by have := K3a.1 h111; omega), S111.fin⟩
  refine lR0 rfl ⟨⟩ (q0a rfl (by conv => lhs; whnf) ?_)
  exact ⟨by exact SF5 (by omega) (fun g => by rw [K3a.2 (by omega)] at h111; cases h111), S111.fin⟩
 refine lB0 rfl ⟨⟩ (fun h97 => ?_) fun h97 => ?_
 ·refine lC0 rfl ⟨⟩ (u0a b0a [0, 1, 2, 3, 4, 5, 6, 7, 8, 9, 10, 11] [12] [13, 14] (by kernel_rfl) rfl (Cl _ _ _ _) (Cl.start S) ?_)
  refine qO0 rfl ⟨⟩ (j0a c2a rfl (fun w1 hw => by exact hw.1.old c3) rfl ?_)
  refine qO0 rfl ⟨⟩ (j0a A0a rfl (fun w1 hw => by exact hw.1.old c1) rfl ?_)
  refine qO0 rfl ⟨⟩ (j0a A0a rfl (fun w1 hw => by exact hw.1.old c1) rfl ?_)
  refine qN0 rfl ⟨⟩ (c3a ?_)
  refine J3a rfl rfl d1a (vs := [.int .i64 _, .int .i64 _]) (cs := [_, _]) (by rfl) rfl rfl rfl rfl rfl ?_
  refine y1a ?_
  rintro wR20 ⟨SR20, XR20⟩
  intro g110 hg110 G110 ng110
  dsimp only [x3a]
  clear ng110
  replace SR20 := SR20.push_new S hg110 G110
  refine r0a SR20 Y5a rfl rfl (N5a e [] _ _ _ _ _ _ _ _ [e.w, e.w] (RdE.less (by simp) _ _ (RdE.keep (SR20.keep0 M) _ _ hRE)) (x4a (k := 0) SR20 rfl (by simp) rfl (by omega) (by simpa using o2))) (fun h111 w111 S111 X111 => ?_) (fun h111 w111 S111 X111 => ?_)
  ·refine lR0 rfl ⟨⟩ (q0a rfl (by conv => lhs; whnf) ?_)
   exact ⟨by exact ST5 (by omega) (by have := K3a.1 h111; omega), S111.fin⟩
  refine lR0 rfl ⟨⟩ (q0a rfl (by conv => lhs; whnf) ?_)
  exact ⟨by exact SF5 (by omega) (fun g => by rw [K3a.2 (by omega)] at h111; cases h111), S111.fin⟩
 refine lB0 rfl ⟨⟩ (fun h113 => ?_) fun h113 => ?_
 ·refine lC0 rfl ⟨⟩ (u0a b0a [0, 1, 2, 3, 4, 5, 6, 7, 8, 9, 10, 11, 12, 13, 14, 15, 16, 17, 18, 19, 20, 21, 22, 23, 24, 25, 26, 27, 28, 29, 30] [] [] (by kernel_rfl) rfl (Cl _ _ _ _) (Cl.start S) ?_)
  refine qO0 rfl ⟨⟩ (j0a A0a rfl (fun w1 hw => by exact hw.1.old c1) rfl ?_)
  refine qB0 rfl ⟨⟩ (fun h120 => ?_) fun h120 => ?_
  ·refine qO0 rfl ⟨⟩ (j0a c2a rfl (fun w1 hw => by exact hw.1.old c3) rfl ?_)
   refine qB0 rfl ⟨⟩ (fun h127 => ?_) fun h127 => ?_
   ·refine qO0 rfl ⟨⟩ (j0a c2a rfl (fun w1 hw => by exact hw.1.old c3) rfl ?_)
    refine qO0 rfl ⟨⟩ ?_
    obtain ⟨bk, ok, hA, hbkM, hkk⟩ := hks (by omega)
    have hk0 := A1a hkk 0 (by omega)
    have hk1 := A1a hkk 1 (by omega)
    refine p0a z1a.slT rfl (by assumption) rfl (by omega) (by omega) rfl ?_
    refine qO0 rfl ⟨⟩ (j0a A0a rfl (fun w1 hw => by exact hw.1.old hk0) rfl ?_)
    refine qO0 rfl ⟨⟩ (j0a c2a rfl (fun w1 hw => by exact hw.1.old c3) rfl ?_)
    refine qO0 rfl ⟨⟩ (p0a z1a.slT rfl (by assumption) rfl (by omega) (by omega) rfl ?_)
    refine qO0 rfl ⟨⟩ (j0a A0a rfl (fun w1 hw => by exact hw.1.old hk1) rfl ?_)
    refine qB0 rfl ⟨⟩ (fun h144 => ?_) fun h144 => ?_
    ·refine qD rfl ⟨⟩ ?_
     rintro wR24 ⟨SR24, XR24⟩
     refine lR0 rfl ⟨⟩ (q0a rfl (by conv => lhs; whnf) ?_)
     exact ⟨by exact v5c (by omega) (by omega), SR24.fin⟩
    refine qD rfl ⟨⟩ ?_
    rintro wR24 ⟨SR24, XR24⟩
    refine lR0 rfl ⟨⟩ (q0a rfl (by conv => lhs; whnf) ?_)
    exact ⟨by exact q2b (by omega) (by omega), SR24.fin⟩
   refine qD rfl ⟨⟩ ?_
   rintro wR24 ⟨SR24, XR24⟩
   refine lR0 rfl ⟨⟩ (q0a rfl (by conv => lhs; whnf) ?_)
   exact ⟨by exact q2b (by omega) (by omega), SR24.fin⟩
  refine qD rfl ⟨⟩ ?_
  rintro wR24 ⟨SR24, XR24⟩
  refine lR0 rfl ⟨⟩ (q0a rfl (by conv => lhs; whnf) ?_)
  exact ⟨by exact q2b (by omega) (by omega), SR24.fin⟩
 refine lB0 rfl ⟨⟩ (fun h114 => ?_) fun h114 => ?_
 ·refine lC0 rfl ⟨⟩ (u0a b0a [0, 1, 2, 3, 4, 5, 6, 7, 8, 9, 10, 11, 12, 13, 14, 15, 16, 17, 18, 19, 20, 21, 22, 23, 24, 25, 26, 27, 28, 29, 30] [] [] (by kernel_rfl) rfl (Cl _ _ _ _) (Cl.start S) ?_)
  refine qO0 rfl ⟨⟩ (j0a A0a rfl (fun w1 hw => by exact hw.1.old c1) rfl ?_)
  refine qB0 rfl ⟨⟩ (fun h120 => ?_) fun h120 => ?_
  ·refine qO0 rfl ⟨⟩ (j0a c2a rfl (fun w1 hw => by exact hw.1.old c3) rfl ?_)
   refine qB0 rfl ⟨⟩ (fun h127 => ?_) fun h127 => ?_
   ·refine qO0 rfl ⟨⟩ (j0a c2a rfl (fun w1 hw => by exact hw.1.old c3) rfl ?_)
    refine qO0 rfl ⟨⟩ ?_
    obtain ⟨bk, ok, hA, hbkM, hkk⟩ := hks (by omega)
    have hk0 := A1a hkk 0 (by omega)
    have hk1 := A1a hkk 1 (by omega)
    refine p0a z1a.slT rfl (by assumption) rfl (by omega) (by omega) rfl ?_
    refine qO0 rfl ⟨⟩ (j0a A0a rfl (fun w1 hw => by exact hw.1.old hk0) rfl ?_)
    refine qO0 rfl ⟨⟩ (j0a c2a rfl (fun w1 hw => by exact hw.1.old c3) rfl ?_)
    refine qO0 rfl ⟨⟩ (p0a z1a.slT rfl (by assumption) rfl (by omega) (by omega) rfl ?_)
    refine qO0 rfl ⟨⟩ (j0a A0a rfl (fun w1 hw => by exact hw.1.old hk1) rfl ?_)
    refine qB0 rfl ⟨⟩ (fun h144 => ?_) fun h144 => ?_
    ·refine qD rfl ⟨⟩ ?_
     rintro wR24 ⟨SR24, XR24⟩
     refine lR0 rfl ⟨⟩ (q0a rfl (by conv => lhs; whnf) ?_)
     exact ⟨by exact v5c (by omega) (by omega), SR24.fin⟩
    refine qD rfl ⟨⟩ ?_
    rintro wR24 ⟨SR24, XR24⟩
    refine lR0 rfl ⟨⟩ (q0a rfl (by conv => lhs; whnf) ?_)
    exact ⟨by exact q2b (by omega) (by omega), SR24.fin⟩
   refine qD rfl ⟨⟩ ?_
   rintro wR24 ⟨SR24, XR24⟩
   refine lR0 rfl ⟨⟩ (q0a rfl (by conv => lhs; whnf) ?_)
   exact ⟨by exact q2b (by omega) (by omega), SR24.fin⟩
  refine qD rfl ⟨⟩ ?_
  rintro wR24 ⟨SR24, XR24⟩
  refine lR0 rfl ⟨⟩ (q0a rfl (by conv => lhs; whnf) ?_)
  exact ⟨by exact q2b (by omega) (by omega), SR24.fin⟩
 refine lB0 rfl ⟨⟩ (fun h115 => ?_) fun h115 => ?_
 ·refine lC0 rfl ⟨⟩ (u0a b0a [0, 1, 2, 3, 4, 5, 6, 7, 8, 9, 10, 11, 12, 13, 14, 15, 16, 17, 18, 19, 20, 21, 22, 23, 24, 25, 26, 27, 28, 29, 30] [] [] (by kernel_rfl) rfl (Cl _ _ _ _) (Cl.start S) ?_)
  refine qO0 rfl ⟨⟩ (j0a A0a rfl (fun w1 hw => by exact hw.1.old c1) rfl ?_)
  refine qB0 rfl ⟨⟩ (fun h120 => ?_) fun h120 => ?_
  ·refine qO0 rfl ⟨⟩ (j0a c2a rfl (fun w1 hw => by exact hw.1.old c3) rfl ?_)
   refine qB0 rfl ⟨⟩ (fun h127 => ?_) fun h127 => ?_
   ·refine qO0 rfl ⟨⟩ (j0a c2a rfl (fun w1 hw => by exact hw.1.old c3) rfl ?_)
    refine qO0 rfl ⟨⟩ ?_
    obtain ⟨bk, ok, hA, hbkM, hkk⟩ := hks (by omega)
    have hk0 := A1a hkk 0 (by omega)
    have hk1 := A1a hkk 1 (by omega)
    refine p0a z1a.slT rfl (by assumption) rfl (by omega) (by omega) rfl ?_
    refine qO0 rfl ⟨⟩ (j0a A0a rfl (fun w1 hw => by exact hw.1.old hk0) rfl ?_)
    refine qO0 rfl ⟨⟩ (j0a c2a rfl (fun w1 hw => by exact hw.1.old c3) rfl ?_)
    refine qO0 rfl ⟨⟩ (p0a z1a.slT rfl (by assumption) rfl (by omega) (by omega) rfl ?_)
    refine qO0 rfl ⟨⟩ (j0a A0a rfl (fun w1 hw => by exact hw.1.old hk1) rfl ?_)
    refine qB0 rfl ⟨⟩ (fun h144 => ?_) fun h144 => ?_
    ·refine qD rfl ⟨⟩ ?_
     rintro wR24 ⟨SR24, XR24⟩
     refine lR0 rfl ⟨⟩ (q0a rfl (by conv => lhs; whnf) ?_)
     exact ⟨by exact v5c (by omega) (by omega), SR24.fin⟩
    refine qD rfl ⟨⟩ ?_
    rintro wR24 ⟨SR24, XR24⟩
    refine lR0 rfl ⟨⟩ (q0a rfl (by conv => lhs; whnf) ?_)
    exact ⟨by exact q2b (by omega) (by omega), SR24.fin⟩
   refine qD rfl ⟨⟩ ?_
   rintro wR24 ⟨SR24, XR24⟩
   refine lR0 rfl ⟨⟩ (q0a rfl (by conv => lhs; whnf) ?_)
   exact ⟨by exact q2b (by omega) (by omega), SR24.fin⟩
  refine qD rfl ⟨⟩ ?_
  rintro wR24 ⟨SR24, XR24⟩
  refine lR0 rfl ⟨⟩ (q0a rfl (by conv => lhs; whnf) ?_)
  exact ⟨by exact q2b (by omega) (by omega), SR24.fin⟩
 refine lB0 rfl ⟨⟩ (fun h147 => ?_) fun h147 => ?_
 ·refine lC0 rfl ⟨⟩ (u0a b0a [0, 1, 2, 3, 4, 5, 6, 7, 8, 9, 10, 11] [12] [13, 14] (by kernel_rfl) rfl (Cl _ _ _ _) (Cl.start S) ?_)
  refine qO0 rfl ⟨⟩ (j0a c2a rfl (fun w1 hw => by exact hw.1.old c3) rfl ?_)
  refine qO0 rfl ⟨⟩ (j0a A0a rfl (fun w1 hw => by exact hw.1.old c1) rfl ?_)
  refine qO0 rfl ⟨⟩ (j0a A0a rfl (fun w1 hw => by exact hw.1.old c1) rfl ?_)
  refine qN0 rfl ⟨⟩ (c3a ?_)
  refine J3a rfl rfl d1a (vs := [.int .i64 _, .int .i64 _, .int .i64 _]) (cs := [_, _, _]) (by rfl) rfl rfl rfl rfl rfl ?_
  refine y1a ?_
  rintro wR26 ⟨SR26, _⟩
  intro g160 hg160 G160 ng160
  dsimp only [x3a]
  clear ng160
  replace SR26 := SR26.push_new S hg160 G160
  refine r0a SR26 Y5a rfl rfl (N5a e [] _ _ _ _ _ _ _ _ [1, e.w, e.w] (RdE.less (by simp) _ _ (RdE.keep (SR26.keep0 M) _ _ hRE)) (x4a (k := 0) SR26 rfl (by simp) rfl (by omega) (by simpa [i64] using o2))) (fun h161 w161 S161 X161 => ?_) (fun h161 w161 S161 X161 => ?_)
  ·refine lR0 rfl ⟨⟩ (q0a rfl (by conv => lhs; whnf) ?_)
   exact ⟨by exact z8c (by omega) (by have := g9b.1 h161; omega), S161.fin⟩
  refine lR0 rfl ⟨⟩ (q0a rfl (by conv => lhs; whnf) ?_)
  exact ⟨by exact B6c (by omega) (fun g => by rw [g9b.2 (by omega)] at h161; cases h161), S161.fin⟩
 refine lR0 rfl ⟨⟩ (q0a rfl (by conv => lhs; whnf) ?_)
 exact ⟨by exact SN (by omega), S.fin⟩
theorem z7b (ks : List E) (k : Nat) (h : k < ks.length) : E.cnts (ks.take (k + 1)) = E.cnts (ks.take k) + ks[k].cnt := by
 induction ks generalizing k with
 | nil => simp at h
 | cons x xs ih =>
   cases k with
   | zero => simp [E.cnts]
   | succ k => simp only [List.take_succ_cons, E.cnts, List.getElem_cons_succ]; rw [ih k (by simpa using h)]; omega
theorem L3b (ks : List E) (k : Nat) : E.cnts (ks.take k) ≤ E.cnts ks := by
 induction ks generalizing k with
 | nil => simp [E.cnts]
 | cons x xs ih =>
   cases k with
   | zero => simp [E.cnts]
   | succ k => simp only [List.take_succ_cons, E.cnts]; have := ih k; omega
def Q3b (e : E) (depth : Int) (cnt : Nat) : Bool := decide (cnt + e.cnt ≤ 600) && e.good (41 - depth)
theorem n0c : ∀ (e : E) (M : List Nat) (w0 : World) (b o : Nat) (depth : Int) (cnt gc gv : Nat), RdP M w0 e b o → e3a M w0 → gc ∈ M → gv ∉ M → w0a w0 (gc, 3, [.int .i64 (cnt : Int)]) →
 w0.cell? ⟨gv, 0, none⟩ = some (.func (.func 78) #[] #[.pointer (some ⟨gc, 0, none⟩), .pointer (some ⟨gv, 0, none⟩)]) → cnt ≤ 600 → 1 ≤ depth → depth ≤ 41 →
 R0a Tryz.prog 78 #[.pointer (some ⟨b, o, none⟩), .int .i64 depth, .pointer (some ⟨gc, 0, none⟩), .pointer (some ⟨gv, 0, none⟩)] w0 fun v w' =>
  ∃ cnt' : Nat, N0a [gc] w0 w' ∧ w0a w' (gc, 3, [.int .i64 (cnt' : Int)]) ∧ v = .bool (Q3b e depth cnt) ∧ (Q3b e depth cnt = true → cnt' = cnt + e.cnt) := by
 intro e
 induction e using E.induct with
 | _ e ih =>
 intro M w0 b o depth cnt gc gv hR hK hgc hgv hblk hvc hcnt hd1 hd2
 obtain ⟨hbM, _, _, _, _, _, _, _, n, _, c3, _, _, _, _, hks, _⟩ := hR.open_
 have S := St.borrow1 hblk
 have hsub : ∀ g ∈ [gc], g ∈ M := fun g hg => by simp at hg; subst hg; exact hgc
 have hb' : b ∉ [gc] := fun h => hbM (hsub b h)
 have hv' : gv ∉ [gc] := fun h => hgv (hsub gv h)
 have hgd := E.good_def e (41 - depth)
 have hce := E.cnt_def e
 have hfalse : ∀ k ∈ e.kids, k.good (41 - (depth + 1)) = false → E.goods e.kids (41 - depth - 1) = false := fun k hk hf => by
  cases hg : E.goods e.kids (41 - depth - 1) with
  | false => rfl
  | true => rw [show 41 - (depth + 1) = 41 - depth - 1 by omega, (E.goods_iff _ _).1 hg k hk] at hf; cases hf
 refine a0a Tryz.func78 rfl Tryz.ntmps78 rfl ?_
 refine wO0 rfl ⟨⟩ (s0a A0a rfl (by exact S.cell 0 rfl rfl) rfl ?_)
 refine lO0 rfl ⟨by omega,⟨⟩⟩ ?_
 first | refine v0a (kk := 0) S q7a rfl (by conv => lhs; whnf) rfl rfl (by exact Nat.le_of_ble_eq_true rfl) ?_
 intro w1_2 S1_2 X1_2
 refine lO0 rfl ⟨⟩ (s0a A0a rfl (by exact S1_2.cell 0 rfl rfl) rfl ?_)
 refine lB0 rfl ⟨⟩ (fun h11 => ?_) fun h11 => ?_
 ·refine lR0 rfl ⟨⟩ (q0a rfl (by conv => lhs; whnf) ?_)
  have hvf : Q3b e depth cnt = false := by
   unfold Q3b; rw [hgd]
   rw [decide_eq_false (show ¬ cnt + e.cnt ≤ 600 by omega)]; rfl
  exact ⟨cnt + 1, S1_2.below, S1_2.blk 0 rfl, by rw [hvf], fun h => by rw [hvf] at h; cases h⟩
 refine lB0 rfl ⟨⟩ (fun h14 => ?_) fun h14 => ?_
 ·refine lR0 rfl ⟨⟩ (q0a rfl (by conv => lhs; whnf) ?_)
  have hvf : Q3b e depth cnt = false := by
   unfold Q3b; rw [hgd]
   simp [show ¬ 1 ≤ 41 - depth by omega]; done
  exact ⟨cnt + 1, S1_2.below, S1_2.blk 0 rfl, by rw [hvf], fun h => by rw [hvf] at h; cases h⟩
 refine lO0 rfl ⟨⟩ (r0a S1_2 X6c rfl rfl (I7b _ M _ _ _ (hR.keep (S1_2.keepM.mono hsub)) (hK.keep (S1_2.keepM.mono hsub))) (fun h18 w18 S18 X18 => ?_) (fun h18 w18 S18 X18 => ?_))
 ·refine lO0 rfl ⟨⟩ (s0a c2a rfl (by exact S18.oldM hb' c3) rfl ?_)
  refine lC0 rfl ⟨⟩ ?_
  refine wL (fun μ D ε w => D = [] ∧ ∃ k : Nat, (k + μ = e.kids.length) ∧ (∀ (j : Nat) (h : j < e.kids.length), j < k → e.kids[j].good (41 - depth - 1) = true) ∧ (cnt + 1 + E.cnts (e.kids.take k) ≤ 600) ∧ St [gc] w0 w [(some gc, 3, [.int .i64 ((cnt + 1 + E.cnts (e.kids.take k) : Nat) : Int)])] ∧ ε 0 = .pointer (some ⟨b, o, none⟩) ∧ ε 1 = .int .i64 depth ∧ ε 2 = .pointer (some ⟨gc, 0, none⟩) ∧ ε 3 = .pointer (some ⟨gv, 0, none⟩) ∧ ε 25 = .int .i64 n ∧ ε 26 = .int .i64 k) (μ := e.kids.length) ⟨rfl, 0, by omega, fun j _ h => absurd h (by omega), by simp [E.cnts]; omega, by simpa [E.cnts] using S18, rfl, rfl, rfl, rfl, rfl, rfl⟩ ?_
  rintro μ D ε w ⟨rfl, k, hk, hs, hs2, S, e0, e1, e2, e3, e25, e26⟩
  refine i0a 0 e0 (i0a 1 e1 (i0a 2 e2 (i0a 3 e3 (i0a 25 e25 (i0a 26 e26 ?_)))))
  clear e0 e1 e2 e3 e25 e26
  refine wB0 rfl ⟨⟩ (fun h27 => ?_) fun h27 => ?_
  ·refine lC0 rfl ⟨⟩ (u0a b0a [0, 1, 2, 3, 4, 5, 6, 7, 8] [] [9, 10] (by kernel_rfl) rfl (Cl _ _ _ _) (Cl.start S) ?_)
   refine j0a u9b rfl (fun w1 hw => by exact hw.1.oldM hv' hvc) rfl ?_
   refine qO0 rfl ⟨⟩ (j0a c2a rfl (fun w1 hw => by exact hw.1.oldM hb' c3) rfl ?_)
   refine qO0 rfl ⟨⟩ ?_
   have hlt : k < e.kids.length := by omega
   obtain ⟨bk, ok, _, hbkM, hkk⟩ := hks (by omega)
   have hct := z7b e.kids k hlt
   have hcl := L3b e.kids (k + 1)
   refine p0a z1a.slT rfl (by assumption) rfl (by omega) (by omega) rfl ?_
   refine qD rfl ⟨by omega,⟨⟩⟩ ?_
   rintro wR7 ⟨SR7, _⟩
   refine Z1b N1c rfl rfl rfl (ih _ (List.getElem_mem hlt) M _ bk (ok + k * 4) _ _ gc gv ((RdP.kid hbkM hkk k hlt).keep (SR7.keepM.mono hsub)) (hK.keep (SR7.keepM.mono hsub)) hgc hgv (SR7.blk 0 rfl) (SR7.oldM hv' hvc) hs2 (by omega) (by omega)) ?_
   rintro v38 w38 ⟨cnt', B38, hb38, rfl, hi38⟩
   have S38 := SR7.changed1 0 rfl B38 hb38
   dsimp only [List.set] at S38
   cases hv38 : Q3b e.kids[k] (depth + 1) (cnt + 1 + E.cnts (e.kids.take k))
   ·refine lR0 rfl ⟨⟩ (q0a rfl (by conv => lhs; whnf) ?_)
    have hvf : Q3b e depth cnt = false := by
     unfold Q3b at hv38 ⊢; rw [hgd]
     by_cases hq : cnt + 1 + E.cnts (e.kids.take k) + e.kids[k].cnt ≤ 600
     ·rw [decide_eq_true hq] at hv38; simp only [Bool.true_and] at hv38; rw [hfalse _ (List.getElem_mem hlt) hv38]; simp
     ·rw [decide_eq_false (by omega)]; rfl
    exact ⟨cnt', S38.below, S38.blk 0 rfl, by rw [hvf], fun h => by rw [hvf] at h; cases h⟩
   refine lP0 rfl ⟨by omega,⟨⟩⟩ ?_
   have hcc := hi38 hv38
   unfold Q3b at hv38
   simp only [Bool.and_eq_true, decide_eq_true_eq] at hv38
   refine ⟨μ - 1, by omega, rfl, k + 1, by omega, fun j hj h => ?_, by omega, by rw [hct, ← Nat.add_assoc, ← hcc]; exact S38, rfl, rfl, rfl, rfl, rfl, rfl⟩
   by_cases hjk : j = k
   ·subst hjk; rw [show 41 - depth - 1 = 41 - (depth + 1) by omega]; exact hv38.2
   ·exact hs j hj (by omega)
  refine lR0 rfl ⟨⟩ (q0a rfl (by conv => lhs; whnf) ?_)
  obtain rfl : k = e.kids.length := by omega
  rw [List.take_length] at hs2 S
  have hvt : Q3b e depth cnt = true := by
   unfold Q3b; rw [hgd, decide_eq_true (by omega), (E.goods_iff _ _).2 (fun x hx => by obtain ⟨j, hj, rfl⟩ := List.getElem_of_mem hx; exact hs j hj (by omega))]
   simp [h18, show 1 ≤ 41 - depth by omega]
  exact ⟨_, S.below, S.blk 0 rfl, by rw [hvt], fun _ => by omega⟩
 refine lR0 rfl ⟨⟩ (q0a rfl (by conv => lhs; whnf) ?_)
 have hvf : Q3b e depth cnt = false := by
  unfold Q3b; rw [hgd]
  simp [h18]; done
 exact ⟨cnt + 1, S18.below, S18.blk 0 rfl, by rw [hvf], fun h => by rw [hvf] at h; cases h⟩
theorem n5a (e : E) (M : List Nat) (w0 : World) (cs : List Value) (hR : RdE M w0 e cs) (hK : e3a M w0) :
 R0a Tryz.prog 46 #[.agg cs.toArray] w0 fun v w' => v = .bool e.wf ∧ Below w0.heap.size w0 w' := by
 obtain ⟨_, _, _, rfl, _, _, _, _, _, _, _, _⟩ := hR.open_
 have S := St.refl w0
 refine a0a Tryz.func46 rfl Tryz.ntmps46 rfl ?_
 refine wO0 rfl ⟨⟩ (m0a S (by conv => lhs; whnf) rfl ?_)
 intro g1 w1 S1 X1 G1
 refine lO0 rfl ⟨⟩ (h0a S1 d8c rfl rfl ?_)
 intro g3 w3 S3 X3 G3
 refine v0a (kk := 0) S3 q7a rfl (by conv => lhs; whnf) rfl rfl (by exact Nat.le_of_ble_eq_true rfl) ?_
 intro w1_1 S1_1 X1_1
 refine lO0 rfl ⟨⟩ (h0a S1_1 C5c rfl rfl ?_)
 intro g4 w4 S4 X4 G4
 refine lO0 rfl ⟨⟩ (f2a rfl rfl ?_)
 refine v0a (kk := 0) S4 S5c rfl (by conv => lhs; whnf) rfl rfl (by exact Nat.le_of_ble_eq_true rfl) ?_
 intro w3_1 S3_1 X3_1
 refine lO S3_1.k [.o 0] rfl ⟨rfl,⟨⟩⟩ ?_
 have hM' : ∀ g ∈ [g3] , g ∈ M ∨ w0.heap.size ≤ g := fun g hg => by
  simp at hg; subst hg; right; have := S3_1.new 1 rfl; simp at this; exact this
 refine Z1b N1c rfl rfl rfl (n0c e [g3] _ g1 0 1 0 g3 g4 ?_ ?_ (by simp) ?_ (S3_1.blk 1 rfl) (S3_1.cell 0 rfl rfl) (by omega) (by omega) (by omega)) ?_
 ·exact ⟨by simpa using (S3_1.ne 1 2 rfl rfl (by omega)).symm, _, S3_1.cells 2 rfl, RdE.keep (S3_1.keep0 _) _ _ (RdE.more hM' _ _ hR)⟩
 ·exact (hK.more hM').keep (S3_1.keep0 _)
 ·simpa using S3_1.ne 0 1 rfl rfl (by omega)
 rintro v7 w7 ⟨_, B7, hb7, rfl, -⟩
 have S7 := S3_1.changed1 1 rfl B7 hb7
 refine lR0 rfl ⟨⟩ (q0a rfl (by conv => lhs; whnf) ?_)
 refine ⟨?_, S7.fin⟩
 unfold Q3b E.wf
 simp
end Go.Proofs.YtjjmdcnmeommbaaGreatDoor
namespace Go.Fw
open Go.RowKit
def a3a (op a b c : Int) : Int :=
 if op = 4 then w5c (-1) a else if op = 5 then A6b a b else if op = 6 then bor a b else if op = 7 then w5c a b else if op = 9 then wr (a + wr (0 - b)) else if op = 8 then wr (a + b) else
 if op = 10 then wr (a * b) else if op = 11 then (if a = b then 1 else 0) else if op = 13 then (if a = b then 1 else if a < b then 1 else 0) else if op = 12 then (if a < b then 1 else 0) else
 if op = 14 then (if a = 1 then b else c) else 0
mutual
def E.val (old now : List Int) : E → Int
 | ⟨op, w, n, ks⟩ => if op = 1 then n else if op = 2 then A6b (now.getD n.toNat 0) (C4a w.toNat - 1) else if op = 3 then A6b (old.getD n.toNat 0) (C4a w.toNat - 1) else
  A6b (a3a op ((E.vals old now ks).getD 0 0) ((E.vals old now ks).getD 1 0) ((E.vals old now ks).getD 2 0)) (C4a w.toNat - 1)
def E.vals (old now : List Int) : List E → List Int
 | [] => []
 | k :: ks => E.val old now k :: E.vals old now ks
end
theorem E.vals_map (old now : List Int) (ks : List E) : E.vals old now ks = ks.map (E.val old now) := by
 induction ks with
 | nil => simp [E.vals]
 | cons k ks ih => simp [E.vals, ih]
theorem E.val_def (old now : List Int) (e : E) : e.val old now = if e.op = 1 then e.n else if e.op = 2 then A6b (now.getD e.n.toNat 0) (C4a e.w.toNat - 1) else if e.op = 3 then A6b (old.getD e.n.toNat 0) (C4a e.w.toNat - 1) else
 A6b (a3a e.op ((e.kids.map (E.val old now)).getD 0 0) ((e.kids.map (E.val old now)).getD 1 0) ((e.kids.map (E.val old now)).getD 2 0)) (C4a e.w.toNat - 1) := by
 cases e; simp only [E.val, E.vals_map]
def E.evl (old now : List Int) (e : E) : Int := if e.wf then e.val old now else 0
def a6c (vs : List Int) (k : Nat) : List Value := [.int .i64 ((vs.take k).getD 0 0), .int .i64 ((vs.take k).getD 1 0), .int .i64 ((vs.take k).getD 2 0)]
@[simp] theorem B7c (vs : List Int) (k : Nat) : (a6c vs k).length = 3 := rfl
theorem E0c (vs : List Int) (k : Nat) (h3 : vs.length ≤ 3) (h : k < vs.length) : (a6c vs k).set k (.int .i64 (vs.getD k 0)) = a6c vs (k + 1) := by
 unfold a6c
 match vs, h3 with
 | [], _ => simp at h
 | [a], _ => obtain rfl : k = 0 := by simp at h; omega
             simp
 | [a, b], _ => rcases (show k = 0 ∨ k = 1 by simp at h; omega) with rfl | rfl <;> simp
 | [a, b, c], _ => rcases (show k = 0 ∨ k = 1 ∨ k = 2 by simp at h; omega) with rfl | rfl | rfl <;> simp
 | a :: b :: c :: d :: l, h => simp at h
end Go.Fw
namespace Go.Proofs.YtjjmdcnmeommbaaGreatDoor
open Go.Fw Go.RowKit
theorem s0b (M : List Nat) (w0 : World) (v : Value) (l : List Int) (i : Int) (hR : RdI M w0 v l) (h0 : 0 ≤ i) :
 R0a Tryz.prog 80 #[v, .int .i64 i] w0 fun v w' => v = .int .i64 (l.getD i.toNat 0) ∧ Below w0.heap.size w0 w' := by
 obtain ⟨_, _, _, rfl⟩ := hR.form
 obtain ⟨_, _, _, _, hel⟩ := hR.at
 have S := St.refl w0
 refine a0a Tryz.func80 rfl Tryz.ntmps80 rfl ?_
 refine wB0 rfl ⟨⟩ (fun h8 => ?_) fun h8 => ?_
 ·refine lO0 rfl ⟨⟩ ?_
  obtain ⟨b, o, _, _, hee⟩ := hel (by omega)
  have hlt : i.toNat < l.length := by omega
  obtain ⟨_, _, hck2, hck3⟩ := hee i.toNat l[i.toNat] (List.getElem?_eq_getElem hlt)
  have hcb : w0.cell? ⟨b, o + i.toNat * 1, none⟩ = some (.int .i64 l[i.toNat]) := hck2 0 _ (by rw [hck3.1]; rfl)
  refine x0a d1a.slT rfl (by assumption) rfl (by omega) (by omega) rfl ?_
  refine s0a A0a rfl (by first | exact S.old hcb) rfl ?_
  refine lR0 rfl ⟨⟩ (q0a rfl (by conv => lhs; whnf) ?_)
  refine ⟨?_, S.fin⟩; simp [hlt]; done
 refine lR0 rfl ⟨⟩ (q0a rfl (by conv => lhs; whnf) ?_)
 refine ⟨?_, S.fin⟩; simp [show l.length ≤ i.toNat by omega]; done
theorem i6a (z : Bool) (w0 : World) : R0a Tryz.prog 143 #[.bool z] w0 fun v w' => v = .int .i64 (if z = true then 1 else 0) ∧ Below w0.heap.size w0 w' := by
 have S := St.refl w0
 cases z
 ·refine a0a Tryz.func143 rfl Tryz.ntmps143 rfl ?_
  refine wR0 rfl ⟨⟩ (q0a rfl (by conv => lhs; whnf) ?_)
  exact ⟨by simp, S.fin⟩
 ·refine a0a Tryz.func143 rfl Tryz.ntmps143 rfl ?_
  refine wR0 rfl ⟨⟩ (q0a rfl (by conv => lhs; whnf) ?_)
  exact ⟨by simp, S.fin⟩
theorem O0c (op a b c : Int) (w0 : World) : R0a Tryz.prog 81 #[.int .i64 op, .agg #[.int .i64 a, .int .i64 b, .int .i64 c]] w0 fun v w' => v = .int .i64 (a3a op a b c) ∧ Below w0.heap.size w0 w' := by
 have S := St.refl w0
 refine a0a Tryz.func81 rfl Tryz.ntmps81 rfl ?_
 refine wO0 rfl ⟨⟩ (m0a S (by conv => lhs; whnf) rfl ?_)
 intro g3 w3 S3 X3 G3
 refine lC0 rfl ⟨⟩ (u0a b0a [0, 1, 2, 3, 4, 5] [] [] (by kernel_rfl) rfl (Cl _ _ _ _) (Cl.start S3) ?_)
 refine V3a R1b rfl rfl (by omega) (by omega) rfl ?_
 refine j0a A0a rfl (fun w1 hw => by first | exact hw.1.cell 0 rfl rfl) rfl ?_
 refine V3a R1b rfl rfl (by omega) (by omega) rfl ?_
 refine j0a A0a rfl (fun w1 hw => by first | exact hw.1.cell 0 rfl rfl) rfl ?_
 refine qD rfl ⟨⟩ ?_
 rintro wR1 ⟨SR1, _⟩
 refine lB0 rfl ⟨⟩ (fun h13 => ?_) fun h13 => ?_
 ·refine lT rfl ⟨⟩ rfl ⟨congrArg (Value.int .i64) ?_, SR1.fin⟩
  unfold a3a
  rw [if_pos h13]
 refine lB0 rfl ⟨⟩ (fun h15 => ?_) fun h15 => ?_
 ·refine lT rfl ⟨⟩ rfl ⟨congrArg (Value.int .i64) ?_, SR1.fin⟩
  unfold a3a
  rw [if_neg h13, if_pos h15]
 refine lB0 rfl ⟨⟩ (fun h17 => ?_) fun h17 => ?_
 ·refine lT rfl ⟨⟩ rfl ⟨congrArg (Value.int .i64) ?_, SR1.fin⟩
  unfold a3a
  rw [if_neg h13, if_neg h15, if_pos h17]
 refine lB0 rfl ⟨⟩ (fun h19 => ?_) fun h19 => ?_
 ·refine lT rfl ⟨⟩ rfl ⟨congrArg (Value.int .i64) ?_, SR1.fin⟩
  unfold a3a
  rw [if_neg h13, if_neg h15, if_neg h17, if_pos h19]
 refine lB0 rfl ⟨⟩ (fun h21 => ?_) fun h21 => ?_
 ·refine lOn 8 SR1.k [] rfl ⟨⟩ (m6c rfl rfl ?_)
  refine lOn 9 SR1.k [] rfl ⟨⟩ (H1c rfl rfl rfl ?_)
  refine lT rfl ⟨⟩ rfl ⟨congrArg (Value.int .i64) ?_, SR1.fin⟩
  unfold a3a
  rw [if_neg h13, if_neg h15, if_neg h17, if_neg h19, if_pos h21]
 refine lB0 rfl ⟨⟩ (fun h23 => ?_) fun h23 => ?_
 ·refine lOn 11 SR1.k [] rfl ⟨⟩ (H1c rfl rfl rfl ?_)
  refine lT rfl ⟨⟩ rfl ⟨congrArg (Value.int .i64) ?_, SR1.fin⟩
  unfold a3a
  rw [if_neg h13, if_neg h15, if_neg h17, if_neg h19, if_neg h21, if_pos h23]
 refine lB0 rfl ⟨⟩ (fun h25 => ?_) fun h25 => ?_
 ·refine lOn 11 SR1.k [] rfl ⟨⟩ (N5c rfl rfl rfl ?_)
  refine lT rfl ⟨⟩ rfl ⟨congrArg (Value.int .i64) ?_, SR1.fin⟩
  unfold a3a
  rw [if_neg h13, if_neg h15, if_neg h17, if_neg h19, if_neg h21, if_neg h23, if_pos h25]
 refine lB0 rfl ⟨⟩ (fun h27 => ?_) fun h27 => ?_
 ·refine lB0 rfl ⟨⟩ (fun h55 => ?_) fun h55 => ?_
  ·refine f0a SR1 x7a rfl rfl (i6a _ _) ?_
   intro w56 S56 X56
   refine lT rfl ⟨⟩ rfl ⟨congrArg (Value.int .i64) ?_, S56.fin⟩
   unfold a3a
   rw [if_neg h13, if_neg h15, if_neg h17, if_neg h19, if_neg h21, if_neg h23, if_neg h25, if_pos h27]; simp [h55]; done
  refine f0a SR1 x7a rfl rfl (i6a _ _) ?_
  intro w56 S56 X56
  refine lT rfl ⟨⟩ rfl ⟨congrArg (Value.int .i64) ?_, S56.fin⟩
  unfold a3a
  rw [if_neg h13, if_neg h15, if_neg h17, if_neg h19, if_neg h21, if_neg h23, if_neg h25, if_pos h27]; simp [h55]; done
 refine lB0 rfl ⟨⟩ (fun h29 => ?_) fun h29 => ?_
 ·refine lB0 rfl ⟨⟩ (fun h59 => ?_) fun h59 => ?_
  ·refine lT rfl ⟨⟩ rfl ⟨congrArg (Value.int .i64) ?_, SR1.fin⟩
   unfold a3a
   rw [if_neg h13, if_neg h15, if_neg h17, if_neg h19, if_neg h21, if_neg h23, if_neg h25, if_neg h27, if_pos h29]; (simp [h59]; done)
  refine lB0 rfl ⟨⟩ (fun h62 => ?_) fun h62 => ?_
  ·refine f0a SR1 x7a rfl rfl (i6a _ _) ?_
   intro w63 S63 X63
   refine lT rfl ⟨⟩ rfl ⟨congrArg (Value.int .i64) ?_, S63.fin⟩
   unfold a3a
   rw [if_neg h13, if_neg h15, if_neg h17, if_neg h19, if_neg h21, if_neg h23, if_neg h25, if_neg h27, if_pos h29]; (simp [h59, h62]; done)
  refine f0a SR1 x7a rfl rfl (i6a _ _) ?_
  intro w63 S63 X63
  refine lT rfl ⟨⟩ rfl ⟨congrArg (Value.int .i64) ?_, S63.fin⟩
  unfold a3a
  rw [if_neg h13, if_neg h15, if_neg h17, if_neg h19, if_neg h21, if_neg h23, if_neg h25, if_neg h27, if_pos h29]; (simp [h59, h62]; done)
 refine lB0 rfl ⟨⟩ (fun h31 => ?_) fun h31 => ?_
 ·refine lB0 rfl ⟨⟩ (fun h62 => ?_) fun h62 => ?_
  ·refine f0a SR1 x7a rfl rfl (i6a _ _) ?_
   intro w63 S63 X63
   refine lT rfl ⟨⟩ rfl ⟨congrArg (Value.int .i64) ?_, S63.fin⟩
   unfold a3a
   rw [if_neg h13, if_neg h15, if_neg h17, if_neg h19, if_neg h21, if_neg h23, if_neg h25, if_neg h27, if_neg h29, if_pos h31]; (simp [h62]; done)
  refine f0a SR1 x7a rfl rfl (i6a _ _) ?_
  intro w63 S63 X63
  refine lT rfl ⟨⟩ rfl ⟨congrArg (Value.int .i64) ?_, S63.fin⟩
  unfold a3a
  rw [if_neg h13, if_neg h15, if_neg h17, if_neg h19, if_neg h21, if_neg h23, if_neg h25, if_neg h27, if_neg h29, if_pos h31]; (simp [h62]; done)
 refine lB0 rfl ⟨⟩ (fun h33 => ?_) fun h33 => ?_
 ·refine lB0 rfl ⟨⟩ (fun h65 => ?_) fun h65 => ?_
  ·refine lT rfl ⟨⟩ rfl ⟨congrArg (Value.int .i64) ?_, SR1.fin⟩
   unfold a3a
   rw [if_neg h13, if_neg h15, if_neg h17, if_neg h19, if_neg h21, if_neg h23, if_neg h25, if_neg h27, if_neg h29, if_neg h31, if_pos h33]; simp [h65]; done
  refine lO0 rfl ⟨⟩ (k6a R1b rfl rfl (by omega) (by omega) rfl ?_)
  refine s0a A0a rfl (by first | exact SR1.cell 0 rfl rfl) rfl ?_
  refine lT rfl ⟨⟩ rfl ⟨congrArg (Value.int .i64) ?_, SR1.fin⟩
  unfold a3a
  rw [if_neg h13, if_neg h15, if_neg h17, if_neg h19, if_neg h21, if_neg h23, if_neg h25, if_neg h27, if_neg h29, if_neg h31, if_pos h33]; simp [h65]; done
 refine lT rfl ⟨⟩ rfl ⟨congrArg (Value.int .i64) ?_, SR1.fin⟩
 unfold a3a
 rw [if_neg h13, if_neg h15, if_neg h17, if_neg h19, if_neg h21, if_neg h23, if_neg h25, if_neg h27, if_neg h29, if_neg h31, if_neg h33]
theorem y0c : ∀ (e : E) (M : List Nat) (w0 : World) (b o : Nat) (vo vn : Value) (old now : List Int) (lim : Int), RdP M w0 e b o → e3a M w0 → RdI M w0 vo old → RdI M w0 vn now → e.good lim = true →
 R0a Tryz.prog 47 #[.pointer (some ⟨b, o, none⟩), vo, vn] w0 fun v w' => v = .int .i64 (e.val old now) ∧ Below w0.heap.size w0 w' := by
 intro e
 induction e using E.induct with
 | _ e ih =>
 intro M w0 b o vo vn old now lim hR hK hO hN hg
 obtain ⟨_, _, _, _, c0, c1, c2, _, n, _, c3, _, _, _, _, hks, _⟩ := hR.open_
 obtain ⟨Ao, no, co, rfl⟩ := hO.form
 obtain ⟨An, nn, cn, rfl⟩ := hN.form
 rw [E.good_def] at hg
 simp only [Bool.and_eq_true] at hg
 have hsh : e.Shape := of_decide_eq_true hg.1.2
 have hkg : ∀ k ∈ e.kids, k.good (lim - 1) = true := (E.goods_iff _ _).1 hg.2
 clear hg
 have hov : (e.op = 3 ∨ e.op = 2) → 0 ≤ e.n ∧ e.n < 32 := fun h => by
  have := (i5a (by omega)).1 hsh; omega
 have har := n7a hsh
 have har2 := A2a e.op
 have S := St.refl w0
 have hval := E.val_def old now e
 refine a0a Tryz.func47 rfl Tryz.ntmps47 rfl ?_
 refine wO0 rfl ⟨⟩ (s0a A0a rfl (by exact S.old c0) rfl ?_)
 refine lB0 rfl ⟨⟩ (fun h14 => ?_) fun h14 => ?_
 ·refine lO0 rfl ⟨⟩ (s0a A0a rfl (by exact S.old c2) rfl ?_)
  refine lT rfl ⟨⟩ rfl ⟨congrArg (Value.int .i64) ?_, S.fin⟩
  rw [hval]
  rw [if_pos h14]
 refine lB0 rfl ⟨⟩ (fun h20 => ?_) fun h20 => ?_
 ·refine lC0 rfl ⟨⟩ (u0a b0a [0, 1, 2, 3, 4, 5, 6, 7, 8, 9, 10, 11, 12, 13] [] [] (by kernel_rfl) rfl (Cl _ _ _ _) (Cl.start S) ?_)
  refine K1a (by conv => lhs; whnf) rfl ?_
  refine qO0 rfl ⟨⟩ (j0a A0a rfl (fun w1 hw => by exact hw.1.old c2) rfl ?_)
  refine T1a C1c rfl rfl (fun w1 S1 X1 => s0b M _ _ _ _ (RdS.keep (by assumption) (S1.keep0 M)) (by omega)) ?_
  refine qO0 rfl ⟨⟩ (j0a A0a rfl (fun w1 hw => by exact hw.1.old c1) rfl ?_)
  refine V3a o1b rfl rfl (by omega) (by omega) rfl ?_
  refine j0a A0a rfl (fun w1 hw => by exact hw.1.old (hK.at (by omega) (by omega))) rfl ?_
  refine qD rfl ⟨⟩ ?_
  rintro wR5 ⟨SR5, _⟩
  refine lT rfl ⟨⟩ rfl ⟨congrArg (Value.int .i64) ?_, SR5.fin⟩
  rw [hval]
  rw [if_neg h14, if_pos h20]
 refine lB0 rfl ⟨⟩ (fun h35 => ?_) fun h35 => ?_
 ·refine lC0 rfl ⟨⟩ (u0a b0a [0, 1, 2, 3, 4, 5, 6, 7, 8, 9, 10, 11, 12, 13] [] [] (by kernel_rfl) rfl (Cl _ _ _ _) (Cl.start S) ?_)
  refine K1a (by conv => lhs; whnf) rfl ?_
  refine qO0 rfl ⟨⟩ (j0a A0a rfl (fun w1 hw => by exact hw.1.old c2) rfl ?_)
  refine T1a C1c rfl rfl (fun w1 S1 X1 => s0b M _ _ _ _ (RdS.keep (by assumption) (S1.keep0 M)) (by omega)) ?_
  refine qO0 rfl ⟨⟩ (j0a A0a rfl (fun w1 hw => by exact hw.1.old c1) rfl ?_)
  refine V3a o1b rfl rfl (by omega) (by omega) rfl ?_
  refine j0a A0a rfl (fun w1 hw => by exact hw.1.old (hK.at (by omega) (by omega))) rfl ?_
  refine qD rfl ⟨⟩ ?_
  rintro wR7 ⟨SR7, _⟩
  refine lT rfl ⟨⟩ rfl ⟨congrArg (Value.int .i64) ?_, SR7.fin⟩
  rw [hval]
  rw [if_neg h14, if_neg h20, if_pos h35]
 refine lO0 rfl ⟨⟩ (h0a S I5c rfl rfl ?_)
 intro g7 w7 S7 X7 G7
 refine lO0 rfl ⟨⟩ (s0a c2a rfl (by exact S7.old c3) rfl ?_)
 refine lC0 rfl ⟨⟩ (wL (fun μ D ε w => D = [] ∧ ∃ k : Nat, (k + μ = e.kids.length) ∧ St [] w0 w [(some g7, 149, a6c (e.kids.map (E.val old now)) k)] ∧ ε 0 = .pointer (some ⟨b, o, none⟩) ∧ ε 1 = .slice Ao no co ∧ ε 2 = .slice An nn cn ∧ ε 7 = .pointer (some ⟨g7, 0, none⟩) ∧ ε 53 = .int .i64 n ∧ ε 54 = .int .i64 k) (μ := e.kids.length) ⟨rfl, 0, by omega, by exact S7, rfl, rfl, rfl, rfl, rfl, rfl⟩ ?_)
 rintro μ D ε w ⟨rfl, k, _, S, e0, e1, e2, e7, e53, e54⟩
 refine i0a 0 e0 (i0a 1 e1 (i0a 2 e2 (i0a 7 e7 (i0a 53 e53 (i0a 54 e54 ?_)))))
 clear e0 e1 e2 e7 e53 e54
 refine wB0 rfl ⟨⟩ (fun h55 => ?_) fun h55 => ?_
 ·refine lO0 rfl ⟨⟩ (s0a c2a rfl (by exact S.old c3) rfl ?_)
  refine lO0 rfl ⟨⟩ ?_
  have hlt : k < e.kids.length := by omega
  obtain ⟨bk, ok, _, hbkM, hkk⟩ := hks (by omega)
  refine x0a z1a.slT rfl (by assumption) rfl (by omega) (by omega) rfl ?_
  refine lO0 rfl ⟨⟩ (f0a S c2c rfl rfl (ih _ (List.getElem_mem hlt) M _ bk (ok + k * 4) _ _ old now _ ((RdP.kid hbkM hkk k hlt).keep (S.keep0 M)) (hK.keep (S.keep0 M)) (hO.keep (S.keep0 M)) (hN.keep (S.keep0 M)) (hkg _ (List.getElem_mem hlt))) ?_)
  intro w66 S66 X66
  refine k6a R1b rfl rfl (by omega) (by omega) rfl ?_
  first | refine v0a (kk := 0) S66 q7a rfl (by conv => lhs; whnf) rfl rfl (by (simp; omega)) ?_
  intro w12_11 S12_11 X12_11
  refine lP0 rfl ⟨by omega,⟨⟩⟩ ⟨μ - 1, by omega, rfl, k + 1, by omega, ?_, rfl, rfl, rfl, rfl, rfl, rfl⟩
  have h3 : (e.kids.map (E.val old now)).length ≤ 3 := by rw [List.length_map]; omega
  have hx := E0c (e.kids.map (E.val old now)) k h3 (by simpa using hlt)
  rw [← hx]
  simpa [hlt] using S12_11
 refine lC0 rfl ⟨⟩ (u0a b0a [0, 1, 2, 3, 4, 5, 6, 7, 8, 9, 10, 11, 12, 13] [] [] (by kernel_rfl) rfl (Cl _ _ _ _) (Cl.start S) ?_)
 refine qO0 rfl ⟨⟩ (j0a A0a rfl (fun w1 hw => by exact hw.1.old c0) rfl ?_)
 refine qO S.q [.w 0] rfl ⟨⟨rfl,by rfl⟩,⟨⟩⟩ (T1a e7c rfl rfl (fun w1 S1 X1 => O0c _ _ _ _ _) ?_)
 refine qO0 rfl ⟨⟩ (j0a A0a rfl (fun w1 hw => by exact hw.1.old c1) rfl ?_)
 refine V3a o1b rfl rfl (by omega) (by omega) rfl ?_
 refine j0a A0a rfl (fun w1 hw => by exact hw.1.old (hK.at (by omega) (by omega))) rfl ?_
 refine qD rfl ⟨⟩ ?_
 rintro wR14 ⟨SR14, _⟩
 refine lT rfl ⟨⟩ rfl ⟨congrArg (Value.int .i64) ?_, SR14.fin⟩
 rw [hval]
 obtain rfl : k = e.kids.length := by omega
 rw [if_neg h14, if_neg h20, if_neg h35]
 have h3 : (e.kids.map (E.val old now)).take e.kids.length = e.kids.map (E.val old now) := List.take_of_length_le (by simp)
 rw [h3]
theorem Y3a (e : E) (M : List Nat) (w0 : World) (cs : List Value) (vo vn : Value) (old now : List Int) (hR : RdE M w0 e cs) (hK : e3a M w0) (hO : RdI M w0 vo old) (hN : RdI M w0 vn now) :
 R0a Tryz.prog 23 #[.agg cs.toArray, vo, vn] w0 fun v w' => v = .int .i64 (e.evl old now) ∧ Below w0.heap.size w0 w' := by
 obtain ⟨_, _, _, rfl, _, _, _, _, _, _, _, _⟩ := hR.open_
 obtain ⟨_, _, _, rfl⟩ := hO.form
 obtain ⟨_, _, _, rfl⟩ := hN.form
 have S := St.refl w0
 refine a0a Tryz.func23 rfl Tryz.ntmps23 rfl ?_
 refine wO0 rfl ⟨⟩ (m0a S (by conv => lhs; whnf) rfl ?_)
 intro g3 w3 S3 X3 G3
 refine lO S3.k [.w 0] rfl ⟨⟨rfl,by rfl⟩,⟨⟩⟩ (r0a S3 k8b rfl rfl (n5a e M _ _ (RdE.keep (S3.keep0 M) _ _ hR) (hK.keep (S3.keep0 M))) (fun h8 w8 S8 X8 => ?_) (fun h8 w8 S8 X8 => ?_))
 ·refine lO0 rfl ⟨⟩ ?_
  refine f0a S8 c2c rfl rfl (y0c e [] _ g3 0 _ _ old now 40 ⟨by simp, _, S8.cells 0 rfl, RdE.less (by simp) _ _ (RdE.keep (S8.keep0 M) _ _ hR)⟩ ((hK.keep (S8.keep0 M)).more (by simp)) ((hO.keep (S8.keep0 M)).less (by simp)) ((hN.keep (S8.keep0 M)).less (by simp)) (by unfold E.wf at h8; simp only [Bool.and_eq_true] at h8; exact h8.2)) ?_
  intro w12 S12 X12
  refine lT rfl ⟨⟩ rfl ⟨congrArg (Value.int .i64) ?_, S12.fin⟩
  unfold E.evl
  simp [h8]
 refine lT rfl ⟨⟩ rfl ⟨congrArg (Value.int .i64) ?_, S8.fin⟩
 unfold E.evl
 simp [h8]
end Go.Proofs.YtjjmdcnmeommbaaGreatDoor
namespace Go.Fw
open Go.RowKit
section
variable {σ : Type}
mutual
def E.lf (step : E → σ → σ) : E → σ → σ
 | ⟨op, w, n, ks⟩, s => E.lfs step ks (if ks.length = 0 then step ⟨op, w, n, ks⟩ s else s)
def E.lfs (step : E → σ → σ) : List E → σ → σ
 | [], s => s
 | k :: ks, s => E.lfs step ks (E.lf step k s)
end
theorem E.lf_def (step : E → σ → σ) (e : E) (s : σ) : e.lf step s = E.lfs step e.kids (if e.kids.length = 0 then step e s else s) := by cases e; simp only [E.lf]
theorem N0a.mono {M M' : List Nat} {w w' : World} (h : N0a M w w') (hs : ∀ g ∈ M, g ∈ M') : N0a M' w w' := ⟨h.os, h.tape, h.output, h.size, fun i hi hm => h.block i hi fun hh => hm (hs i hh)⟩
theorem St.more0 {M : List Nat} {w0 w w' : World} (S : St M w0 w []) (h : N0a M w w') : St M w0 w' [] :=
 S.changed (G := M) (L' := []) h (fun _ hg => .inr hg) rfl (by simp)
end
end Go.Fw
namespace Go.Proofs.YtjjmdcnmeommbaaGreatDoor
open Go.Fw Go.RowKit
theorem K3b {σ : Type} (M : List Nat) (Inv : σ → World → Prop) (step : E → σ → σ) (f : FuncId) (caps : Array Value) (hf : Has Tryz.prog f)
 (hstep : ∀ (e : E) (s : σ) (w : World) (b o : Nat), e.Shape → e.kids.length = 0 → RdP M w e b o → Inv s w →
   R0a Tryz.prog f (.pointer (some ⟨b, o, none⟩) :: caps.toList).toArray w fun _ w' => Inv (step e s) w' ∧ N0a M w w') :
 ∀ (e : E) (w0 : World) (b o : Nat) (s : σ) (lim : Int), RdP M w0 e b o → Inv s w0 → e.good lim = true →
 R0a Tryz.prog 166 #[.pointer (some ⟨b, o, none⟩), .func (.func f) #[] caps] w0 fun _ w' => Inv (e.lf step s) w' ∧ N0a M w0 w' := by
 intro e
 induction e using E.induct with
 | _ e ih =>
 intro w0 b o s lim hR hI hg
 obtain ⟨hbM, _, _, _, _, _, _, _, n, _, c3, _, _, _, _, hks, _⟩ := hR.open_
 rw [E.good_def] at hg
 simp only [Bool.and_eq_true] at hg
 have hsh : e.Shape := of_decide_eq_true hg.1.2
 have hkg : ∀ k ∈ e.kids, k.good (lim - 1) = true := (E.goods_iff _ _).1 hg.2
 clear hg
 have S : St M w0 w0 [] := ⟨N0a.refl _ _, by simp, by simp⟩
 have hlf := E.lf_def step e s
 refine a0a Tryz.func166 rfl Tryz.ntmps166 rfl ?_
 refine wX (fun D ε w => D = [] ∧ ∃ s1 : σ, (Inv s1 w) ∧ (s1 = if e.kids.length = 0 then step e s else s) ∧ St M w0 w [] ∧ ε 0 = .pointer (some ⟨b, o, none⟩) ∧ ε 1 = .func (.func f) #[] caps) ?_ ?_
 ·refine wO0 rfl ⟨⟩ (s0a c2a rfl (by first | exact S.oldM hbM c3) rfl ?_)
  refine lB0 rfl ⟨⟩ (fun h10 => ?_) fun h10 => ?_
  ·refine lO0 rfl ⟨⟩ (Z1b hf rfl rfl rfl (hstep e s _ b o hsh (by omega) (hR.keep S.keepM) hI) ?_)
   rintro v13 w13 ⟨I13, B13⟩
   have S13 := S.more0 B13
   exact lP0 rfl ⟨⟩ ⟨rfl, _, I13, by rw [if_pos (by omega)], S13, rfl, rfl⟩
  exact lP0 rfl ⟨⟩ ⟨rfl, _, hI, by rw [if_neg (by omega)], S, rfl, rfl⟩
 rintro D ε w ⟨rfl, s1, hI1, hs1, S, e0, e1⟩
 refine i0a 0 e0 (i0a 1 e1 ?_)
 clear e0 e1
 rw [← hs1] at hlf
 refine wO0 rfl ⟨⟩ (s0a c2a rfl (by first | exact S.oldM hbM c3) rfl ?_)
 refine lC0 rfl ⟨⟩ (wL (fun μ D ε w => D = [] ∧ ∃ k : Nat, ∃ s2 : σ, (k + μ = e.kids.length) ∧ (Inv s2 w) ∧ (E.lfs step e.kids s1 = E.lfs step (e.kids.drop k) s2) ∧ St M w0 w [] ∧ ε 0 = .pointer (some ⟨b, o, none⟩) ∧ ε 1 = .func (.func f) #[] caps ∧ ε 18 = .int .i64 n ∧ ε 19 = .int .i64 k) (μ := e.kids.length) ⟨rfl, 0, s1, by omega, hI1, rfl, S, rfl, rfl, rfl, rfl⟩ ?_)
 rintro μ D ε w ⟨rfl, k, s2, _, hI2, hs2, S, e0, e1, e18, e19⟩
 refine i0a 0 e0 (i0a 1 e1 (i0a 18 e18 (i0a 19 e19 ?_)))
 clear e0 e1 e18 e19
 refine wB0 rfl ⟨⟩ (fun h20 => ?_) fun h20 => ?_
 ·refine lO0 rfl ⟨⟩ (s0a c2a rfl (by first | exact S.oldM hbM c3) rfl ?_)
  refine lO0 rfl ⟨⟩ ?_
  have hlt : k < e.kids.length := by omega
  obtain ⟨bk, ok, _, hbkM, hkk⟩ := hks (by omega)
  have hdr : e.kids.drop k = e.kids[k] :: e.kids.drop (k + 1) := List.drop_eq_getElem_cons hlt
  rw [hdr] at hs2
  simp only [E.lfs] at hs2
  refine x0a z1a.slT rfl (by assumption) rfl (by omega) (by omega) rfl ?_
  refine lO0 rfl ⟨⟩ (f3a N4b rfl rfl (ih _ (List.getElem_mem hlt) _ bk (ok + k * 4) s2 _ ((RdP.kid hbkM hkk k hlt).keep S.keepM) hI2 (hkg _ (List.getElem_mem hlt))) ?_)
  rintro v29 w29 ⟨I29, B29⟩
  have S29 := S.more0 B29
  exact lP0 rfl ⟨by omega,⟨⟩⟩ ⟨μ - 1, by omega, rfl, k + 1, _, by omega, I29, hs2, S29, rfl, rfl, rfl, rfl⟩
 refine lF0 rfl ⟨⟩ (U1a rfl ?_)
 obtain rfl : k = e.kids.length := by omega
 rw [List.drop_length] at hs2
 simp only [E.lfs] at hs2
 rw [hlf, hs2]
 exact ⟨hI2, S.below⟩
def C7c (M : List Nat) (gc gp gg : Nat) (vc : Value) (cells : List h2a) (pair : Bool) (s : Bool) (w : World) : Prop :=
 gc ∉ M ∧ gp ∉ M ∧ w.cell? ⟨gc, 0, none⟩ = some vc ∧ w.cell? ⟨gp, 0, none⟩ = some (.bool pair) ∧ w0a w (gg, 4, [.bool s]) ∧ q3c M w vc cells
theorem w8b (M : List Nat) (gc gp gg : Nat) (vc : Value) (cells : List h2a) (pair : Bool) (hgg : gg ∈ M) (e : E) (s : Bool) (w0 : World) (b o : Nat) (hsh : e.Shape) (hlf : e.kids.length = 0) (hR : RdP M w0 e b o) (hI : C7c M gc gp gg vc cells pair s w0) :
 R0a Tryz.prog 167 #[.pointer (some ⟨b, o, none⟩), .pointer (some ⟨gc, 0, none⟩), .pointer (some ⟨gp, 0, none⟩), .pointer (some ⟨gg, 0, none⟩)] w0 fun _ w' => C7c M gc gp gg vc cells pair (s && decide (e.OverN cells pair)) w' ∧ N0a M w0 w' := by
 obtain ⟨hgc, hgp, hcc, hcp, hblk, hC⟩ := hI
 obtain ⟨hbM, _, _, _, c0, c1, c2, _, n, _, _, _, _, hm, _, _, _⟩ := hR.open_
 obtain ⟨Ac, nc, cc, rfl, _, _, _, _, hcs⟩ := id hC
 have har := n7a hsh
 have har2 := A2a e.op
 have hov : (e.op = 3 ∨ e.op = 2) → 0 ≤ e.n ∧ e.n < 32 := fun h => by
  have := (i5a (by omega)).1 hsh; omega
 have S := St.borrow1 hblk
 have hsub : ∀ g ∈ [gg], g ∈ M := fun g hg => by simp at hg; subst hg; exact hgg
 have hb' : b ∉ [gg] := fun h => hbM (hsub b h)
 have hc' : gc ∉ [gg] := fun h => hgc (hsub gc h)
 have hp' : gp ∉ [gg] := fun h => hgp (hsub gp h)
 have fin : ∀ (z : Bool) (w' : World), St [gg] w0 w' [(some gg, 4, [.bool z])] → z = (s && decide (e.OverN cells pair)) → C7c M gc gp gg (.slice Ac nc cc) cells pair (s && decide (e.OverN cells pair)) w' ∧ N0a M w0 w' := by
  intro z w' S' hz
  subst hz
  exact ⟨⟨hgc, hgp, S'.oldM hc' hcc, S'.oldM hp' hcp, S'.blk 0 rfl, hC.keep (S'.keepM.mono hsub)⟩, S'.below.mono hsub⟩
 obtain ⟨pr, hpr⟩ : ∃ pr, pr = pair := ⟨_, rfl⟩
 have hcp2 := hcp
 rw [← hpr] at hcp2
 refine a0a Tryz.func167 rfl Tryz.ntmps167 rfl ?_
 refine wC0 rfl ⟨⟩ (u0a b0a [0, 1, 2, 3, 4, 5, 6, 7, 8, 9, 10, 11, 12, 13, 14, 15, 16, 17, 18, 19, 20, 21, 22, 23, 24, 25, 26, 27, 28, 29, 30, 31, 32, 33, 34, 35, 36, 37, 38, 39] [] [] (by kernel_rfl) rfl (Cl _ _ _ _) (Cl.start S) ?_)
 refine qO0 rfl ⟨⟩ (j0a A0a rfl (fun w1 hw => by exact hw.1.oldM hb' c0) rfl ?_)
 refine qB0 rfl ⟨⟩ (fun h9 => ?_) fun h9 => ?_
 ·refine qO0 rfl ⟨⟩ (j0a A0a rfl (fun w1 hw => by exact hw.1.oldM hb' c2) rfl ?_)
  refine qO0 rfl ⟨⟩ (j0a O9a rfl (fun w1 hw => by exact hw.1.oldM hc' hcc) rfl ?_)
  refine qB0 rfl ⟨⟩ (fun h17 => ?_) fun h17 => ?_
  ·refine qD rfl ⟨⟩ ?_
   rintro wR0 ⟨SR0, XR0⟩
   refine lO0 rfl ⟨⟩ ?_
   first | refine v0a (kk := 0) SR0 U0c rfl (by conv => lhs; whnf) rfl rfl (by exact Nat.le_of_ble_eq_true rfl) ?_
   intro w1_0 S1_0 X1_0
   refine lF0 rfl ⟨⟩ (U1a rfl ?_)
   refine fin _ _ S1_0 ?_; rw [decide_eq_false (show ¬ e.OverN cells pair from fun h => by have := h.2 (by omega); omega)]; simp; done
  refine qO0 rfl ⟨⟩ (j0a O9a rfl (fun w1 hw => by exact hw.1.oldM hc' hcc) rfl ?_)
  refine qO0 rfl ⟨⟩ (j0a A0a rfl (fun w1 hw => by exact hw.1.oldM hb' c2) rfl ?_)
  refine qO0 rfl ⟨⟩ ?_
  obtain ⟨bc, oc, _, hbc, hce⟩ := hcs (by omega)
  obtain ⟨m, hm⟩ := Int.eq_ofNat_of_zero_le (show 0 ≤ e.n by omega)
  have hml : m < cells.length := by omega
  have hbc' : bc ∉ [gg] := fun h => hbc (hsub bc h)
  obtain ⟨_, _, hcw', hrc⟩ := hce m cells[m] (List.getElem?_eq_getElem hml)
  have hcw : w0.cell? ⟨bc, oc + e.n.toNat * 6 + 1, none⟩ = some (.int .i64 (wAt cells e.n)) := by
   rw [hm]; have := hcw' 1 (.int .i64 cells[m].w) (by rw [hrc.1]; rfl)
   simpa [wAt, hml] using this
  refine p0a q5a.slT rfl (by assumption) rfl (by omega) (by omega) rfl ?_
  refine qO0 rfl ⟨⟩ (j0a A0a rfl (fun w1 hw => by exact hw.1.oldM hbc' hcw) rfl ?_)
  refine qO0 rfl ⟨⟩ (j0a A0a rfl (fun w1 hw => by exact hw.1.oldM hb' c1) rfl ?_)
  refine qB0 rfl ⟨⟩ (fun h31 => ?_) fun h31 => ?_
  ·refine qD rfl ⟨⟩ ?_
   rintro wR0 ⟨SR0, XR0⟩
   refine lO0 rfl ⟨⟩ ?_
   first | refine v0a (kk := 0) SR0 U0c rfl (by conv => lhs; whnf) rfl rfl (by exact Nat.le_of_ble_eq_true rfl) ?_
   intro w1_0 S1_0 X1_0
   refine lF0 rfl ⟨⟩ (U1a rfl ?_)
   refine fin _ _ S1_0 ?_; rw [decide_eq_false (show ¬ e.OverN cells pair from fun h => by have := h.2 (by omega); omega)]; simp; done
  refine qO0 rfl ⟨⟩ (j0a A0a rfl (fun w1 hw => by exact hw.1.oldM hb' c0) rfl ?_)
  refine qB0 rfl ⟨⟩ (fun h38 => ?_) fun h38 => ?_
  ·refine qO0 rfl ⟨⟩ ?_
   rcases (Bool.eq_false_or_eq_true (pr)).symm with hb40 | hb40
   ·refine j0a F2a rfl (fun w1 hw => by exact (hw.1.oldM hp' (hcp2.trans (by rw [hb40]))).trans (congrArg (fun b => some (Value.bool b)) hb40)) rfl ?_
    refine qD rfl ⟨⟩ ?_
    rintro wR0 ⟨SR0, XR0⟩
    refine lO0 rfl ⟨⟩ ?_
    first | refine v0a (kk := 0) SR0 U0c rfl (by conv => lhs; whnf) rfl rfl (by exact Nat.le_of_ble_eq_true rfl) ?_
    intro w1_0 S1_0 X1_0
    refine lF0 rfl ⟨⟩ (U1a rfl ?_)
    refine fin _ _ S1_0 ?_; rw [decide_eq_false (show ¬ e.OverN cells pair from fun h => by have := h.1 (by omega); rw [← hpr, hb40] at this; cases this)]; simp; done
   refine j0a F2a rfl (fun w1 hw => by exact (hw.1.oldM hp' (hcp2.trans (by rw [hb40]))).trans (congrArg (fun b => some (Value.bool b)) hb40)) rfl ?_
   refine qD rfl ⟨⟩ ?_
   rintro wR0 ⟨SR0, XR0⟩
   refine lF0 rfl ⟨⟩ (U1a rfl ?_)
   refine fin _ _ SR0 ?_; rw [decide_eq_true (show e.OverN cells pair from ⟨fun h => by rw [← hpr, hb40], fun h => by omega⟩)]; simp; done
  refine qD rfl ⟨⟩ ?_
  rintro wR0 ⟨SR0, XR0⟩
  refine lF0 rfl ⟨⟩ (U1a rfl ?_)
  refine fin _ _ SR0 ?_; rw [decide_eq_true (show e.OverN cells pair from ⟨fun h => absurd h (by omega), fun h => by omega⟩)]; simp; done
 refine qD rfl ⟨⟩ ?_
 rintro wR0 ⟨SR0, XR0⟩
 refine lF0 rfl ⟨⟩ (U1a rfl ?_)
 refine fin _ _ SR0 ?_; rw [decide_eq_true (show e.OverN cells pair from ⟨fun h => absurd h (by omega), fun h => by omega⟩)]; simp; done
theorem Q3c (cells : List h2a) (pair : Bool) : ∀ (e : E) (s : Bool) (lim : Int), e.good lim = true → e.lf (fun e s => s && decide (e.OverN cells pair)) s = (s && e.over cells pair) := by
 intro e
 induction e using E.induct with
 | _ e ih =>
   intro s lim hg
   rw [E.good_def] at hg
   simp only [Bool.and_eq_true] at hg
   have hsh : e.Shape := of_decide_eq_true hg.1.2
   have hkg : ∀ k ∈ e.kids, k.good (lim - 1) = true := (E.goods_iff _ _).1 hg.2
   have har := n7a hsh
   have har2 := A2a e.op
   have key : ∀ (ks : List E), (∀ k ∈ ks, ∀ (s : Bool) (lim : Int), k.good lim = true → k.lf (fun e s => s && decide (e.OverN cells pair)) s = (s && k.over cells pair)) → (∀ k ∈ ks, k.good (lim - 1) = true) →
    ∀ s : Bool, E.lfs (fun e s => s && decide (e.OverN cells pair)) ks s = (s && E.overs cells pair ks) := by
    intro ks
    induction ks with
    | nil => intro _ _ s; simp [E.lfs, E.overs]
    | cons k ks ih2 =>
      intro h1 h2 s
      simp only [E.lfs, E.overs]
      rw [ih2 (fun k' hk' => h1 k' (by simp [hk'])) (fun k' hk' => h2 k' (by simp [hk'])), h1 k (by simp) _ (lim - 1) (h2 k (by simp)), Bool.and_assoc]
   rw [E.lf_def, key e.kids ih hkg, E.over_def]
   by_cases h0 : e.kids.length = 0
   ·rw [if_pos h0, Bool.and_assoc]
   ·rw [if_neg h0, decide_eq_true (show e.OverN cells pair by unfold E.OverN; omega)]; simp
theorem v3a (e : E) (M : List Nat) (w0 : World) (cs : List Value) (vc : Value) (cells : List h2a) (pair : Bool) (hR : RdE M w0 e cs) (hC : q3c M w0 vc cells) (hK : e3a M w0) :
 R0a Tryz.prog 132 #[.agg cs.toArray, vc, .bool pair] w0 fun v w' => v = .bool (e.valid cells pair) ∧ Below w0.heap.size w0 w' := by
 obtain ⟨_, _, _, rfl, _, _, _, _, _, _, _, _⟩ := hR.open_
 obtain ⟨Ac, nc, cc, rfl⟩ := hC.form
 have S := St.refl w0
 refine a0a Tryz.func132 rfl Tryz.ntmps132 rfl ?_
 refine wO0 rfl ⟨⟩ (m0a S (by conv => lhs; whnf) rfl ?_)
 intro g3 w3 S3 X3 G3
 refine G9a S3 (v := .slice _ _ _) rfl rfl rfl ?_
 intro g4 w4 S4 X4 G4
 refine G9a S4 (v := .bool _) rfl rfl rfl ?_
 intro g5 w5 S5 X5 G5
 refine lO S5.k [.w 2] rfl ⟨⟨rfl,by rfl⟩,⟨⟩⟩ (r0a S5 k8b rfl rfl (n5a e M _ _ (RdE.keep (S5.keep0 M) _ _ hR) (hK.keep (S5.keep0 M))) (fun h9 w9 S9 X9 => ?_) (fun h9 w9 S9 X9 => ?_))
 ·refine lO0 rfl ⟨⟩ (h0a S9 F8c rfl rfl ?_)
  intro g7 w7 S7 X7 G7
  refine v0a (kk := 0) S7 U0c rfl (by conv => lhs; whnf) rfl rfl (by exact Nat.le_of_ble_eq_true rfl) ?_
  intro w3_1 S3_1 X3_1
  refine lO0 rfl ⟨⟩ (f2a rfl rfl ?_)
  have hM' : ∀ g ∈ [g7] , g ∈ M ∨ w0.heap.size ≤ g := fun g hg => by
   simp at hg; subst hg; right; have := S3_1.new 0 rfl; simp at this; exact this
  have hgood : e.good 40 = true := by unfold E.wf at h9; simp only [Bool.and_eq_true] at h9; exact h9.2
  refine f3a N4b rfl rfl (K3b [g7] (C7c [g7] g4 g5 g7 (.slice Ac nc cc) cells pair) (fun e s => s && decide (e.OverN cells pair)) _ _ h5c (fun e s w b o h1 h2 h3 h4 => w8b [g7] g4 g5 g7 _ cells pair (by simp) e s w b o h1 h2 h3 h4) e _ g3 0 true 40
   ⟨by simpa using (S3_1.ne 0 3 rfl rfl (by omega)).symm, _, S3_1.cells 3 rfl, RdE.keep (S3_1.keep0 _) _ _ (RdE.more hM' _ _ hR)⟩
   ⟨by simpa using (S3_1.ne 0 2 rfl rfl (by omega)).symm, by simpa using (S3_1.ne 0 1 rfl rfl (by omega)).symm, S3_1.cell 2 rfl rfl, S3_1.cell 1 rfl rfl, S3_1.blk 0 rfl, (hC.more (by omega) hM').keep (S3_1.keep0 _)⟩ hgood) ?_
  rintro v12 w12 ⟨⟨-, -, -, -, I12, -⟩, B12⟩
  have S12 := S3_1.changed1 0 rfl B12 I12
  rw [Q3c cells pair e true 40 hgood] at S12
  dsimp only [List.set] at S12
  refine lR S12.k [.o 0] rfl ⟨rfl,⟨⟩⟩ (q0a rfl (by conv => lhs; whnf) ?_)
  refine ⟨congrArg Value.bool ?_, S12.fin⟩
  unfold E.valid
  simp [h9]
 refine lT rfl ⟨⟩ rfl ⟨congrArg Value.bool ?_, S9.fin⟩
 unfold E.valid
 simp [h9]
end Go.Proofs.YtjjmdcnmeommbaaGreatDoor
namespace Go.Proofs.YtjjmdcnmeommbaaGreatDoor
open Go.Fw Go.RowKit
theorem C9b {M : List Nat} {w : World} : RdI M w (.slice none 0 0) [] := ⟨none, 0, 0, rfl, rfl, Nat.le_refl _, by unfold maxLen; omega, by omega, fun h => absurd h (by omega)⟩
def t5c (g1 g2 : Nat) (s : List Bool × List Bool) (w : World) : Prop :=
 s.1.length = 32 ∧ s.2.length = 32 ∧ w0a w (g1, 235, s.1.map Value.bool) ∧ w0a w (g2, 235, s.2.map Value.bool)
def a6a (e : E) (s : List Bool × List Bool) : List Bool × List Bool := (if e.op = 3 then s.1.set e.n.toNat true else s.1, if e.op = 2 then s.2.set e.n.toNat true else s.2)
theorem B4b (g1 g2 : Nat) (hne : g1 ≠ g2) (e : E) (s : List Bool × List Bool) (w0 : World) (b o : Nat) (hsh : e.Shape) (hR : RdP [g1, g2] w0 e b o) (hI : t5c g1 g2 s w0) :
 R0a Tryz.prog 202 #[.pointer (some ⟨b, o, none⟩), .pointer (some ⟨g1, 0, none⟩), .pointer (some ⟨g2, 0, none⟩)] w0 fun _ w' => t5c g1 g2 (a6a e s) w' ∧ N0a [g1, g2] w0 w' := by
 obtain ⟨l1, l2, hb1, hb2⟩ := hI
 obtain ⟨_, _⟩ := s
 dsimp only at l1 l2 hb1 hb2
 obtain ⟨hbM, _, _, _, c0, _, c2, _, n, _, _, _, _, _, _, _, _⟩ := hR.open_
 have hov : (e.op = 3 ∨ e.op = 2) → 0 ≤ e.n ∧ e.n < 32 := fun h => by
  have := (i5a (by omega)).1 hsh; omega
 have S := St.borrow2 hb1 hb2 hne
 refine a0a Tryz.func202 rfl Tryz.ntmps202 rfl ?_
 refine wO0 rfl ⟨⟩ (s0a A0a rfl (by exact S.oldM hbM c0) rfl ?_)
 refine lB0 rfl ⟨⟩ (fun h9 => ?_) fun h9 => ?_
 ·refine lO0 rfl ⟨⟩ (s0a A0a rfl (by exact S.oldM hbM c2) rfl ?_)
  refine k6a Y1b rfl rfl (by omega) (by omega) rfl ?_
  refine v0a (kk := 0) S U0c rfl (by conv => lhs; whnf) rfl rfl (by (simp; omega)) ?_
  intro w2_5 S2_5 X2_5
  refine lF0 rfl ⟨⟩ (U1a rfl ?_)
  refine ⟨?_, S2_5.below⟩
  unfold t5c a6a
  refine ⟨by dsimp only; split <;> simp [l1], by dsimp only; split <;> simp [l2], ?_, ?_⟩
  ·have hh := S2_5.blk 0 rfl
   simpa [h9, List.map_set] using hh; done
  ·have hh := S2_5.blk 1 rfl
   simpa [h9, List.map_set] using hh; done
 refine lB0 rfl ⟨⟩ (fun h16 => ?_) fun h16 => ?_
 ·refine lO0 rfl ⟨⟩ (s0a A0a rfl (by exact S.oldM hbM c2) rfl ?_)
  refine k6a Y1b rfl rfl (by omega) (by omega) rfl ?_
  refine v0a (kk := 1) S U0c rfl (by conv => lhs; whnf) rfl rfl (by (simp; omega)) ?_
  intro w4_5 S4_5 X4_5
  refine lF0 rfl ⟨⟩ (U1a rfl ?_)
  refine ⟨?_, S4_5.below⟩
  unfold t5c a6a
  refine ⟨by dsimp only; split <;> simp [l1], by dsimp only; split <;> simp [l2], ?_, ?_⟩
  ·have hh := S4_5.blk 0 rfl
   simpa [h9, List.map_set] using hh; done
  ·have hh := S4_5.blk 1 rfl
   simpa [h9, h16, List.map_set] using hh; done
 refine lF0 rfl ⟨⟩ (U1a rfl ?_)
 refine ⟨?_, S.below⟩
 unfold t5c a6a
 refine ⟨by dsimp only; split <;> simp [l1], by dsimp only; split <;> simp [l2], ?_, ?_⟩
 ·have hh := S.blk 0 rfl
  simpa [h9, List.map_set] using hh; done
 ·have hh := S.blk 1 rfl
  simpa [h9, h16, List.map_set] using hh; done
theorem p0b (M : List Nat) (w0 : World) (bs : List Bool) (hlen : bs.length = 32) (hM : ∀ g ∈ M, g < w0.heap.size) :
 R0a Tryz.prog 203 #[.agg (bs.map Value.bool).toArray] w0 fun v' w' => RdI M w' v' (a5a bs) ∧ Below w0.heap.size w0 w' := by
 have S := (St.refl w0).nilEnt 3
 have hlm : (bs.map Value.bool).length = 32 := by simpa using hlen
 refine a0a Tryz.func203 rfl Tryz.ntmps203 rfl ?_
 refine wO0 rfl ⟨⟩ (m0a S (by conv => lhs; whnf) rfl ?_)
 intro g1 w1 S1 X1 G1
 refine lC S1.k [.w 0] rfl ⟨⟨rfl,by assumption⟩,⟨⟩⟩ (wL (fun μ D ε w => D = [] ∧ ∃ k : Nat, ∃ G : Option Nat, ∃ cs : List Value, ∃ v : Value, (k + μ = 32) ∧ (E3a G 1 (H2a bs k).length cs v ((H2a bs k).map (Value.int .i64))) ∧ St [] w0 w [(G, 3, cs)] ∧ ε 3 = v ∧ ε 6 = .agg (bs.map Value.bool).toArray ∧ ε 7 = .int .i64 k) (μ := 32) ⟨rfl, 0, none, [], _, by omega, E3a.nil 1, S1.tail, rfl, rfl, rfl⟩ ?_)
 rintro μ D ε w ⟨rfl, k, G, cs, v, _, hrow, S, e3, e6, e7⟩
 refine i0a 3 e3 (i0a 6 e6 (i0a 7 e7 ?_))
 clear e3 e6 e7
 refine wB0 rfl ⟨⟩ (fun h8 => ?_) fun h8 => ?_
 ·refine lO0 rfl ⟨⟩ ?_
  have hlt : k < bs.length := by omega
  have hel : ((bs.map Value.bool).toArray)[((k : Nat) : Int).toNat]? = some (.bool bs[k]) := by simp [hlt]
  have hgd : bs.getD k false = bs[k] := by simp [hlt]
  have hml := E2a bs k
  cases hb10 : bs[k]
  ·have hlt : k < bs.length := by omega
   have hel : ((bs.map Value.bool).toArray)[((k : Nat) : Int).toNat]? = some (.bool bs[k]) := by simp [hlt]
   have hgd : bs.getD k false = bs[k] := by simp [hlt]
   have hml := E2a bs k
   refine p4b Y1b rfl rfl (by omega) (by omega) (hel.trans (by rw [hb10])) rfl ?_
   refine lP0 rfl ⟨by omega,⟨⟩⟩ ⟨μ - 1, by omega, rfl, k + 1, G, cs, v, by omega, ?_, S, rfl, rfl, rfl⟩
   rw [T3a, hgd, hb10]; simpa using hrow
  have hlt : k < bs.length := by omega
  have hel : ((bs.map Value.bool).toArray)[((k : Nat) : Int).toNat]? = some (.bool bs[k]) := by simp [hlt]
  have hgd : bs.getD k false = bs[k] := by simp [hlt]
  have hml := E2a bs k
  refine p4b Y1b rfl rfl (by omega) (by omega) (hel.trans (by rw [hb10])) rfl ?_
  refine lOn 11 S.k [] rfl ⟨⟩ (B0a (by conv => lhs; whnf) rfl ?_)
  refine lO0 rfl ⟨⟩ (H0a S d1a (vs := [.int .i64 _]) (cs := [_]) (by rfl) rfl rfl rfl rfl rfl rfl ?_)
  intro g14 w14 S14 X14 G14
  refine f1b (k := 1) S14 d1a rfl hrow rfl rfl (S14.cells 0 rfl) rfl (by simp [Value.oneCell']) (by omega) (by omega) rfl ?_
  intro v15 G15 cs15 w15 S15' hrow15 X15
  have S15 := S15'.tail
  refine O0a (by conv => lhs; whnf) rfl ?_
  refine lP0 rfl ⟨by omega,⟨⟩⟩ ⟨μ - 1, by omega, rfl, k + 1, G15, cs15, v15, by omega, ?_, S15, rfl, rfl, rfl⟩
  rw [T3a, hgd, hb10]; simpa using hrow15
 refine lOn 8 S.k [] rfl ⟨⟩ (B0a (by conv => lhs; whnf) rfl ?_)
 refine O0a (by conv => lhs; whnf) rfl ?_
 refine lR0 rfl ⟨⟩ (q0a rfl (by conv => lhs; whnf) ?_)
 obtain rfl : k = 32 := by omega
 have hmm : H2a bs 32 = a5a bs := by unfold a5a; rw [hlen]
 rw [hmm] at hrow
 refine ⟨hrow.rdI (k := 0) S rfl hM (fun x hx => ?_) ?_, S.nil.fin⟩
 ·obtain ⟨_, rfl, _, _⟩ := (B5a _ _ _).1 hx; unfold i64; omega
 ·have := E2a bs bs.length; unfold a5a; omega
theorem d6c : ∀ (e : E) (a1 a2 : List Bool) (lim : Int), e.good lim = true → e.lf a6a (a1, a2) = (e.mark 3 a1, e.mark 2 a2) := by
 intro e
 induction e using E.induct with
 | _ e ih =>
   intro a1 a2 lim hg
   rw [E.good_def] at hg
   simp only [Bool.and_eq_true] at hg
   have hsh : e.Shape := of_decide_eq_true hg.1.2
   have hkg : ∀ k ∈ e.kids, k.good (lim - 1) = true := (E.goods_iff _ _).1 hg.2
   have har := n7a hsh
   have har2 := A2a e.op
   have key : ∀ (ks : List E), (∀ k ∈ ks, ∀ (a1 a2 : List Bool) (lim : Int), k.good lim = true → k.lf a6a (a1, a2) = (k.mark 3 a1, k.mark 2 a2)) → (∀ k ∈ ks, k.good (lim - 1) = true) →
    ∀ a1 a2 : List Bool, E.lfs a6a ks (a1, a2) = (E.markAll 3 ks a1, E.markAll 2 ks a2) := by
    intro ks
    induction ks with
    | nil => intro _ _ a1 a2; simp [E.lfs, E.markAll]
    | cons k ks ih2 =>
      intro h1 h2 a1 a2
      simp only [E.lfs, E.markAll]
      rw [h1 k (by simp) _ _ (lim - 1) (h2 k (by simp)), ih2 (fun k' hk' => h1 k' (by simp [hk'])) (fun k' hk' => h2 k' (by simp [hk']))]
   rw [E.lf_def, E.mark_def, E.mark_def]
   by_cases h0 : e.kids.length = 0
   ·rw [if_pos h0]; exact key e.kids ih hkg _ _
   ·rw [if_neg h0, if_neg (by omega), if_neg (by omega)]; exact key e.kids ih hkg _ _
theorem R2b (e : E) (M : List Nat) (w0 : World) (cs : List Value) (hR : RdE M w0 e cs) (hK : e3a M w0) (hM : ∀ g ∈ M, g < w0.heap.size) :
 R0a Tryz.prog 168 #[.agg cs.toArray] w0 fun v w' => (∃ a b, v = .tuple #[a, b] ∧ RdI M w' a (e.sup 3) ∧ RdI M w' b (e.sup 2)) ∧ Below w0.heap.size w0 w' := by
 obtain ⟨_, _, _, rfl, _, _, _, _, _, _, _, _⟩ := hR.open_
 have S := St.refl w0
 refine a0a Tryz.func168 rfl Tryz.ntmps168 rfl ?_
 refine wO0 rfl ⟨⟩ (m0a S (by conv => lhs; whnf) rfl ?_)
 intro g1 w1 S1 X1 G1
 refine lO S1.k [.w 0] rfl ⟨⟨rfl,by rfl⟩,⟨⟩⟩ (r0a S1 k8b rfl rfl (n5a e M _ _ (RdE.keep (S1.keep0 M) _ _ hR) (hK.keep (S1.keep0 M))) (fun h7 w7 S7 X7 => ?_) (fun h7 w7 S7 X7 => ?_))
 ·refine lO0 rfl ⟨⟩ (h0a S7 D1c rfl rfl ?_)
  intro g4 w4 S4 X4 G4
  refine h0a S4 D1c rfl rfl ?_
  intro g5 w5 S5 X5 G5
  refine lO0 rfl ⟨⟩ (f2a rfl rfl ?_)
  have hM' : ∀ g ∈ [g4, g5] , g ∈ M ∨ w0.heap.size ≤ g := fun g hg => by
   simp at hg; rcases hg with rfl | rfl
   ·right; have := S5.new 1 rfl; simp at this; exact this
   ·right; have := S5.new 0 rfl; simp at this; exact this
  have hgood : e.good 40 = true := by unfold E.wf at h7; simp only [Bool.and_eq_true] at h7; exact h7.2
  have hne := (S5.ne 0 1 rfl rfl (by omega)).symm
  refine f3a N4b rfl rfl (K3b [g4, g5] (t5c g4 g5) a6a _ _ O4c (fun e s w b o h1 _ h3 h4 => B4b g4 g5 hne e s w b o h1 h3 h4) e _ g1 0 (List.replicate 32 false, List.replicate 32 false) 40
   ⟨by simpa using ⟨(S5.ne 1 2 rfl rfl (by omega)).symm, (S5.ne 0 2 rfl rfl (by omega)).symm⟩, _, S5.cells 2 rfl, RdE.keep (S5.keep0 _) _ _ (RdE.more hM' _ _ hR)⟩
   ⟨rfl, rfl, S5.blk 1 rfl, S5.blk 0 rfl⟩ hgood) ?_
  rintro v10 w10 ⟨⟨-, -, I1, I2⟩, B10⟩
  rw [d6c e _ _ 40 hgood] at I1 I2
  dsimp only at I1 I2
  have S10 := S5.changed2 1 0 rfl rfl B10 I1 I2
  dsimp only [List.set] at S10
  have q1 : (e.mark 3 (List.replicate 32 false)).length = 32 := by rw [E.mark_len]; simp
  have q2 : (e.mark 2 (List.replicate 32 false)).length = 32 := by rw [E.mark_len]; simp
  have q1' : ((e.mark 3 (List.replicate 32 false)).map Value.bool).length = 32 := by simpa using q1
  have q2' : ((e.mark 2 (List.replicate 32 false)).map Value.bool).length = 32 := by simpa using q2
  refine lC0 rfl ⟨⟩ (u0a b0a [0, 2] [1] [3, 4, 5] (by kernel_rfl) rfl (Cl _ _ _ _) (Cl.start S10) ?_)
  refine qN S10.q [.w 1,.w 0] rfl ⟨⟨rfl,by assumption⟩,⟨rfl,by assumption⟩,⟨⟩⟩ (c3a ?_)
  refine W5b (fun v w => RdI M w v (a5a (e.mark 3 (List.replicate 32 false)))) rfl rfl h8b rfl (fun v w w' h hk => h.keep hk.of_nil) (fun w1 S1 X1 => p0b M _ _ q1 (fun g hg => Nat.lt_of_lt_of_le (hM g hg) S1.size)) ?_
  refine y1a ?_
  rintro wR5 ⟨SR5, _⟩
  rintro v12 r12
  dsimp only [x3a]
  refine M0a SR5 h8b rfl rfl (p0b M _ _ q2 (fun g hg => Nat.lt_of_lt_of_le (hM g hg) SR5.size)) ?_
  rintro v14 w14 r14 S14 X14
  replace r12 := r12.keep (X14.of_nil)
  refine O0a (by conv => lhs; whnf) rfl ?_
  refine O0a (by conv => lhs; whnf) rfl ?_
  refine lR0 rfl ⟨⟩ (M2a rfl (by conv => lhs; whnf) (by conv => lhs; whnf) ?_)
  refine ⟨⟨_, _, rfl, ?_⟩, S14.fin⟩
  unfold E.sup
  rw [if_pos h7, if_pos h7]; exact ⟨r12, r14⟩
 refine lR0 rfl ⟨⟩ (M2a rfl (by conv => lhs; whnf) (by conv => lhs; whnf) ?_)
 refine ⟨⟨_, _, rfl, ?_⟩, S7.fin⟩
 unfold E.sup
 rw [if_neg (by simp [h7]), if_neg (by simp [h7])]; exact ⟨C9b, C9b⟩
end Go.Proofs.YtjjmdcnmeommbaaGreatDoor
namespace Go.Fw
open Go.RowKit
theorem G0a.fresh {a b c : World} {g : Nat} (h : G0a [] a b) (k : G0a [g] b c) (hg : a.heap.size ≤ g) : G0a [] a c :=
 ⟨Nat.le_trans h.size k.size, fun i hi hm => (k.same i (Nat.lt_of_lt_of_le hi h.size) (fun hh => by rw [List.mem_singleton] at hh; omega)).trans (h.same i hi hm)⟩
def shQ (p : e0a) (c : Int) : Bool := decide ((0 ≤ c ∧ c < p.cells.length) ∧ w1a p.cells c = -1)
def z8a (p : e0a) (t : Int) (c : Int) : Bool := decide ((0 ≤ c ∧ c < p.cells.length) ∧ w1a p.cells c = t)
def Y0b (p : e0a) (t : Int) (c : Int) : Bool := shQ p c || z8a p t c
def X2a (e : E) (q : Int → Bool) : Bool := (e.sup 3).all q && (e.sup 2).all q
theorem K8a {cells : List h2a} {pair : Bool} {e : E} (h : e.valid cells pair = true) : ∀ x ∈ e.sup 3 ++ e.sup 2, 0 ≤ x ∧ x < cells.length := fun x hx => by
 obtain ⟨hwf, hgd, hov⟩ := e5a h
 rcases List.mem_append.1 hx with hx | hx
 ·have h1 := (Q0b hwf (.inr rfl) x).1 hx
  have h2 := S5a (.inr rfl) e 40 hgd hov x h1.2.2
  omega
 ·have h1 := (Q0b hwf (.inl rfl) x).1 hx
  have h2 := S5a (.inl rfl) e 40 hgd hov x h1.2.2
  omega
theorem V7a {e : E} {q : Int → Bool} : X2a e q = true ↔ ∀ x ∈ e.sup 3 ++ e.sup 2, q x = true := by
 simp only [X2a, Bool.and_eq_true, List.all_eq_true, List.mem_append]
 exact ⟨fun h x hx => hx.elim (h.1 x) (h.2 x), fun h => ⟨fun x hx => h x (.inl hx), fun x hx => h x (.inr hx)⟩⟩
theorem e1a.thr {p : e0a} (hp : e1a p) {x : Int} (h0 : 0 ≤ x) (h1 : x < p.cells.length) : -1 ≤ w1a p.cells x := by
 obtain ⟨i, rfl⟩ := Int.eq_ofNat_of_zero_le h0
 have hi : i < p.cells.length := by omega
 have := (hp.cells _ (List.getElem_mem hi)).thread
 rw [f1a (c := p.cells[i]) (by simp [hi])]
 omega
theorem E5b {p : e0a} (hp : e1a p) {e : E} {pair : Bool} (hv : e.valid p.cells pair = true) (h : A5a p.cells e true (-1)) : X2a e (shQ p) = true := V7a.2 fun x hx => by
 have h1 := K8a hv x hx
 have h2 := h x hx
 have h3 := hp.thr h1.1 h1.2
 exact decide_eq_true ⟨h1, by omega⟩
theorem y7a {p : e0a} (hp : e1a p) {e : E} {pair : Bool} {t : Int} (hv : e.valid p.cells pair = true) (h : A5a p.cells e false t) : X2a e (z8a p t) = true := V7a.2 fun x hx => by
 have h1 := K8a hv x hx
 have h2 := h x hx
 have h3 := hp.thr h1.1 h1.2
 have h4 : w1a p.cells x ≠ -1 := fun hh => by have := h2.1 hh; cases this
 exact decide_eq_true ⟨h1, by omega⟩
theorem v1b {p : e0a} (hp : e1a p) {e : E} {pair : Bool} {t : Int} (hv : e.valid p.cells pair = true) (h : A5a p.cells e true t) : X2a e (Y0b p t) = true := V7a.2 fun x hx => by
 have h1 := K8a hv x hx
 have h2 := h x hx
 have h3 := hp.thr h1.1 h1.2
 unfold Y0b shQ z8a
 rw [Bool.or_eq_true, decide_eq_true_eq, decide_eq_true_eq]
 by_cases h5 : w1a p.cells x = -1
 ·exact .inl ⟨h1, h5⟩
 ·exact .inr ⟨h1, by omega⟩
end Go.Fw
namespace Go.Proofs.YtjjmdcnmeommbaaGreatDoor
open Go.Fw Go.RowKit
theorem n2a (i n : Int) (w0 : World) : R0a Tryz.prog 121 #[.int .i64 i, .int .i64 n] w0 fun v w' => v = .bool (decide (0 ≤ i ∧ i < n)) ∧ Below w0.heap.size w0 w' := by
 have S := St.refl w0
 refine a0a Tryz.func121 rfl Tryz.ntmps121 rfl ?_
 refine wB0 rfl ⟨⟩ (fun h6 => ?_) fun h6 => ?_
 ·refine lB0 rfl ⟨⟩ (fun h10 => ?_) fun h10 => ?_
  ·refine lT rfl ⟨⟩ rfl ?_
   exact ⟨congrArg Value.bool (by (rw [decide_eq_true]; omega)), S.fin⟩
  refine lT rfl ⟨⟩ rfl ?_
  exact ⟨congrArg Value.bool (by (rw [decide_eq_false]; omega)), S.fin⟩
 refine lT rfl ⟨⟩ rfl ?_
 exact ⟨congrArg Value.bool (by (rw [decide_eq_false]; omega)), S.fin⟩
theorem X6a (s : ByteArray) (w0 : World) (hs : A6a s) : R0a Tryz.prog 120 #[.string s] w0 fun v w' => v = .bool true ∧ Below w0.heap.size w0 w' := by
 have S := St.refl w0
 have h1 := hs.1
 have h2 := hs.2.1
 refine a0a Tryz.func120 rfl Tryz.ntmps120 rfl ?_
 refine wO0 rfl ⟨⟩ (i0b Tryz.underlying9 rfl rfl ?_)
 refine lB0 rfl ⟨⟩ (fun h6 => by exfalso; omega) fun h6 => ?_
 refine lO0 rfl ⟨⟩ (i0b Tryz.underlying9 rfl rfl ?_)
 refine lB0 rfl ⟨⟩ (fun h10 => by exfalso; omega) fun h10 => ?_
 refine lO0 rfl ⟨⟩ (i0b Tryz.underlying9 rfl rfl ?_)
 refine lC0 rfl ⟨⟩ (wL (fun μk D ε w => D = [] ∧ ∃ k : Nat, (k + μk = (s.size)) ∧ St [] w0 w [] ∧ Sl ε [(0, .string s), (13, .int .i64 s.size), (14, .int .i64 k)]) (μ := (s.size)) ⟨rfl, 0, by omega, S, rfl⟩ ?_)
 rintro μk D ε w ⟨rfl, k, _, S, eZ⟩
 refine wK eZ (wB0 rfl ⟨⟩ (fun h15 => ?_) fun h15 => ?_)
 ·refine lO0 rfl ⟨⟩ ?_
  have h3 := hs.2.2 k (by omega)
  refine t8a Tryz.underlying9 rfl rfl (by omega) (by omega) rfl ?_
  refine lB0 rfl ⟨⟩ (fun h20 => by exfalso; simp only [Int.toNat_natCast] at h20; omega) (fun h20 => ?_)
  refine lO0 rfl ⟨⟩ (t8a Tryz.underlying9 rfl rfl (by omega) (by omega) rfl ?_)
  refine lB0 rfl ⟨⟩ (fun h25 => by exfalso; simp only [Int.toNat_natCast] at h25; omega) (fun h25 => ?_)
  refine lP0 rfl ⟨by omega,⟨⟩⟩ ⟨μk - 1, by omega, rfl, (k + 1), (by omega), S, rfl⟩
 exact lT rfl ⟨⟩ rfl ⟨rfl, S.fin⟩
theorem q6b (e : E) (M : List Nat) (w0 : World) (cs : List Value) (hR : RdE M w0 e cs) : R0a Tryz.prog 123 #[.agg cs.toArray] w0 fun v w' => v = .bool (dec e.absent) ∧ Below w0.heap.size w0 w' := by
 obtain ⟨_, _, _, rfl, hn, _, _, _, _⟩ := hR.cells
 have S := St.refl w0
 refine a0a Tryz.func123 rfl Tryz.ntmps123 rfl ?_
 refine wO0 rfl ⟨⟩ (m0a S (by conv => lhs; whnf) rfl ?_)
 intro g1 w1 S1 X1 G1
 refine lB S1.k [.o 0] rfl ⟨rfl,⟨⟩⟩ (fun h5 => ?_) fun h5 => ?_
 ·refine lB S1.k [.o 0] rfl ⟨rfl,⟨⟩⟩ (fun h9 => ?_) fun h9 => ?_
  ·refine lB S1.k [.o 0] rfl ⟨rfl,⟨⟩⟩ (fun h14 => ?_) fun h14 => ?_
   ·refine lB S1.k [.o 0] rfl ⟨rfl,⟨⟩⟩ (fun h20 => ?_) fun h20 => ?_
    ·refine lR0 rfl ⟨⟩ (q0a rfl (by conv => lhs; whnf) ?_)
     exact ⟨F8a ⟨by omega, by omega, by omega, List.length_eq_zero_iff.1 (by omega)⟩, S1.fin⟩
    refine lR0 rfl ⟨⟩ (q0a rfl (by conv => lhs; whnf) ?_)
    refine ⟨w2a (fun h => ?_), S1.fin⟩; obtain ⟨a1, a2, a3, a4⟩ := h; rw [a4] at hn; simp at hn; omega
   refine lR0 rfl ⟨⟩ (q0a rfl (by conv => lhs; whnf) ?_)
   refine ⟨w2a (fun h => ?_), S1.fin⟩; obtain ⟨a1, a2, a3, a4⟩ := h; rw [a4] at hn; simp at hn; omega
  refine lR0 rfl ⟨⟩ (q0a rfl (by conv => lhs; whnf) ?_)
  refine ⟨w2a (fun h => ?_), S1.fin⟩; obtain ⟨a1, a2, a3, a4⟩ := h; rw [a4] at hn; simp at hn; omega
 refine lR0 rfl ⟨⟩ (q0a rfl (by conv => lhs; whnf) ?_)
 refine ⟨w2a (fun h => ?_), S1.fin⟩; obtain ⟨a1, a2, a3, a4⟩ := h; rw [a4] at hn; simp at hn; omega
theorem m5a (M : List Nat) (w0 : World) (v : Value) (l : List Int) (hR : RdI M w0 v l) (hr : F5a l) : R0a Tryz.prog 126 #[v] w0 fun v w' => v = .bool true ∧ Below w0.heap.size w0 w' := by
 obtain ⟨A, n, c, rfl⟩ := hR.form
 obtain ⟨_, _, _⟩ := hR.len
 have S := St.refl w0
 refine a0a Tryz.func126 rfl Tryz.ntmps126 rfl ?_
 refine wC0 rfl ⟨⟩ (wL (fun μk D ε w => D = [] ∧ ∃ k : Nat, (k + μk = max (l.length) 1) ∧ (1 ≤ k) ∧ St [] w0 w [] ∧ Sl ε [(0, .slice A n c), (3, .int .i64 k)]) (μ := (max (l.length) 1 - 1)) ⟨rfl, 1, by omega, by omega, S, rfl⟩ ?_)
 rintro μk D ε w ⟨rfl, k, _, _, S, eZ⟩
 refine wK eZ (wB0 rfl ⟨⟩ (fun h7 => ?_) fun h7 => ?_)
 ·refine lC0 rfl ⟨⟩ (u0a b0a [0, 1, 2, 3, 4, 5, 6, 7, 8, 9] [] [] (by kernel_rfl) rfl (Cl _ _ _ _) (Cl.start S) ?_)
  obtain ⟨_, b12, p12, _, hxy, hA12, _, _, hc12, hr12⟩ := RdS.get (hR) (k) (by omega)
  obtain ⟨rfl, _⟩ := id hr12
  obtain ⟨x, b17, p17, _, hxx, hA17, _, _, hc17, hr17⟩ := RdS.get (hR) (k - 1) (by omega)
  obtain ⟨rfl, _⟩ := id hr17
  have e17 : ((k : Int) - 1).toNat = k - 1 := by omega
  rw [← e17] at hc17
  have hxy2 := i9b hr hxx hxy (by omega)
  refine qB ((S.q.a hc17).a hc12) [.x b12 p12,.f 0 0,.x b17 p17,.f 1 0] rfl ⟨rfl,⟨hA17,by omega⟩,by omega,rfl,⟨hA12,by omega⟩,⟨⟩⟩ (fun h19 => by exfalso; omega) fun h19 => ?_
  refine qD rfl ⟨⟩ ?_
  rintro wR4 ⟨SR4, _⟩
  refine lP0 rfl ⟨by omega,⟨⟩⟩ ⟨μk - 1, by omega, rfl, (k + 1), (by omega), (by omega), SR4, rfl⟩
 exact lT rfl ⟨⟩ rfl ⟨rfl, S.fin⟩
theorem x2b (M : List Nat) (w0 : World) (v vf : Value) (l : List Int) (q : Int → Bool) (hR : RdI M w0 v l) (hp : p2a Tryz.prog M w0 vf q) :
 R0a Tryz.prog 193 #[v, vf] w0 fun v w' => (∃ n, v = .int .i64 n ∧ (0 ≤ n ↔ l.any q = true)) ∧ Below w0.heap.size w0 w' := by
 obtain ⟨A, n, c, rfl⟩ := hR.form
 obtain ⟨_, _, _⟩ := hR.len
 have S := St.refl w0
 refine a0a Tryz.func193 rfl Tryz.ntmps193 rfl ?_
 refine wC0 rfl ⟨⟩ (wL (fun μk D ε w => D = [] ∧ ∃ k : Nat, (k + μk = (l.length)) ∧ (r1a (l) k (fun x => q x = false)) ∧ St [] w0 w [] ∧ Sl ε [(0, .slice A n c), (1, vf), (7, .int .i64 n), (8, .int .i64 k)]) (μ := (l.length)) ⟨rfl, 0, by omega, r1a.zero, S, rfl⟩ ?_)
 rintro μk D ε w ⟨rfl, k, _, ha, S, eZ⟩
 refine wK eZ (wB0 rfl ⟨⟩ (fun h9 => ?_) fun h9 => ?_)
 ·refine lOn 16 S.k [] rfl ⟨⟩ (B0a (by conv => lhs; whnf) rfl ?_)
  obtain ⟨x, b14, p14, _, hxx, hA14, _, _, hc14, hr14⟩ := RdS.get (hR) (k) (by omega)
  obtain ⟨rfl, i114⟩ := id hr14
  refine lO (S.k.a hc14) [.x b14 p14,.f 0 0] rfl ⟨rfl,⟨hA14,by omega⟩,⟨⟩⟩ (W1b S (hp.keep (S.keep0 M)) rfl rfl (i114) rfl (fun h16 w16 S16 X16 => ?_) (fun h16 w16 S16 X16 => ?_))
  ·exact lT rfl ⟨⟩ rfl ⟨⟨_, rfl, ⟨fun _ => List.any_eq_true.2 ⟨x, d0a hxx, h16⟩, fun _ => by omega⟩⟩, S16.fin⟩
  refine lP0 rfl ⟨by omega,⟨⟩⟩ ⟨μk - 1, by omega, rfl, (k + 1), (by omega), (ha.succ hxx (h16)), S16, rfl⟩
 refine lT rfl ⟨⟩ rfl ?_
 refine ⟨⟨_, rfl, ⟨fun h => by omega, fun h => ?_⟩⟩, S.fin⟩; obtain ⟨x, h1, h2⟩ := List.any_eq_true.1 h; rw [ha.all (by omega) x h1] at h2; cases h2
theorem s9a (M : List Nat) (w0 : World) (v vf : Value) (l : List Int) (q : Int → Bool) (hR : RdI M w0 v l) (hp : p2a Tryz.prog M w0 vf q) :
 R0a Tryz.prog 161 #[v, vf] w0 fun v w' => v = .bool (l.any q) ∧ Below w0.heap.size w0 w' := by
 obtain ⟨_, _, _, rfl⟩ := hR.form
 have S := St.refl w0
 refine a0a Tryz.func161 rfl Tryz.ntmps161 rfl ?_
 refine wOn 8 S.k [] rfl ⟨⟩ (B0a (by conv => lhs; whnf) rfl ?_)
 refine M0a S j3c rfl rfl (x2b M _ _ _ l q (hR.keep (S.keep0 M)) (hp.keep (S.keep0 M))) ?_
 rintro v7 w7 ⟨_, rfl, hm⟩ S7 X7
 refine lB0 rfl ⟨⟩ (fun h8 => ?_) fun h8 => ?_
 ·refine lR0 rfl ⟨⟩ (q0a rfl (by conv => lhs; whnf) ?_)
  exact ⟨by rw [hm.1 (by omega)], S7.fin⟩
 refine lT rfl ⟨⟩ rfl ?_
 refine ⟨congrArg Value.bool ?_, S7.fin⟩; cases hq : l.any q with | false => rfl | true => exact absurd (hm.2 hq) (by omega)
theorem c6b (g : Nat) (c : Int) (M : List Nat) (w0 : World) (vf : Value) (q : Int → Bool) (hc : w0.cell? ⟨g, 0, none⟩ = some vf) (hp : p2a Tryz.prog M w0 vf q) (hi : i64 c) :
 R0a Tryz.prog 162 #[.int .i64 c, .pointer (some ⟨g, 0, none⟩)] w0 fun v w' => v = .bool (!q c) ∧ Below w0.heap.size w0 w' := by
 have S := St.refl w0
 refine a0a Tryz.func162 rfl Tryz.ntmps162 rfl ?_
 refine wO0 rfl ⟨⟩ (s0a F1b rfl (by first | exact S.old hc) rfl ?_)
 refine lO0 rfl ⟨⟩ (W1b S (hp.keep (S.keep0 M)) rfl rfl (hi) rfl (fun h6 w6 S6 X6 => ?_) (fun h6 w6 S6 X6 => ?_))
 ·refine lR0 rfl ⟨⟩ (q0a rfl (by conv => lhs; whnf) ?_)
  exact ⟨by rw [h6], S6.fin⟩
 refine lR0 rfl ⟨⟩ (q0a rfl (by conv => lhs; whnf) ?_)
 exact ⟨by rw [h6], S6.fin⟩
theorem Z0a {M : List Nat} {w : World} {g : Nat} (hM : ∀ g ∈ M, g < w.heap.size) (h : w.heap.size ≤ g ∨ g ∈ ([] : List Nat)) : g ∉ M := fun hh => by
 rcases h with h | h
 ·have := hM g hh; omega
 ·cases h
theorem E5a (M : List Nat) (w0 : World) (v vf : Value) (l : List Int) (q : Int → Bool) (hR : RdI M w0 v l) (hp : p2a Tryz.prog M w0 vf q) (hM : ∀ g ∈ M, g < w0.heap.size) :
 R0a Tryz.prog 127 #[v, vf] w0 fun v w' => v = .bool (l.all q) ∧ Below w0.heap.size w0 w' := by
 obtain ⟨_, _, c, rfl⟩ := hR.form
 obtain ⟨_, _, _, rfl, _, _⟩ := id hp
 have S := St.refl w0
 refine a0a Tryz.func127 rfl Tryz.ntmps127 rfl ?_
 refine wO0 rfl ⟨⟩ (G9a S (v := .func _ _ _) rfl rfl rfl ?_)
 intro g3 w3 S3 X3 G3
 refine lO0 rfl ⟨⟩ (f2a rfl rfl ?_)
 refine r0a S3 t3c rfl rfl (s9a M _ _ _ l (fun c => !q c) (hR.keep (S3.keep0 M)) ⟨162, #[], _, rfl, z4c, fun w' hk c hc => c6b g3 c M w' _ q (hk.cell (a := ⟨g3, 0, none⟩) (Z0a hM (S3.new 0 rfl)) (S3.cell 0 rfl rfl)) (hp.keep ((S3.keep0 M).trans hk)) hc⟩) (fun h7 w7 S7 X7 => ?_) (fun h7 w7 S7 X7 => ?_)
 ·refine lT rfl ⟨⟩ rfl ⟨congrArg Value.bool ?_, S7.fin⟩
  have h8 : l.all q = !(l.any fun c => !q c) := by simp [List.all_eq_not_any_not]
  rw [h8, h7] <;> rfl
 refine lT rfl ⟨⟩ rfl ⟨congrArg Value.bool ?_, S7.fin⟩
 have h8 : l.all q = !(l.any fun c => !q c) := by simp [List.all_eq_not_any_not]
 rw [h8, h7] <;> rfl
theorem M4a (p : e0a) (M : List Nat) (w0 : World) (cs : List Value) (c : Int) (hP : o1a M w0 p cs) :
 R0a Tryz.prog 125 #[.agg cs.toArray, .int .i64 c] w0 fun v w' => v = .bool (shQ p c) ∧ Below w0.heap.size w0 w' := by
 obtain ⟨_, _, _, _, _, _, _, _, _, _, _, _, rfl, hC, _, _, _, _, _, _, _, _, _, _, _⟩ := hP.open_
 have S := St.refl w0
 refine a0a Tryz.func125 rfl Tryz.ntmps125 rfl ?_
 refine wO0 rfl ⟨⟩ (m0a S (by conv => lhs; whnf) rfl ?_)
 intro g2 w2 S2 X2 G2
 refine lO S2.k [.o 0] rfl ⟨rfl,⟨⟩⟩ (r0a S2 V2a rfl rfl (n2a _ _ _) (fun h10 w10 S10 X10 => ?_) (fun h10 w10 S10 X10 => ?_))
 ·have h11 := of_decide_eq_true h10
  obtain ⟨x, b16, p16, _, hxx, hA16, _, _, hc16, hr16⟩ := RdS.get (hC) (c.toNat) (by omega)
  obtain ⟨rfl, _, _, _, _⟩ := K2a.open_ hr16
  refine lB (S10.k.a hc16) [.o 0,.x b16 p16,.f 0 3] rfl ⟨rfl,⟨hA16,by omega⟩,rfl,⟨⟩⟩ (fun h19 => ?_) fun h19 => ?_
  ·refine lT rfl ⟨⟩ rfl ⟨congrArg Value.bool ?_, S10.fin⟩
   unfold shQ
   rw [decide_eq_true]; exact ⟨by omega, by rw [f1a hxx]; omega⟩
  refine lT rfl ⟨⟩ rfl ⟨congrArg Value.bool ?_, S10.fin⟩
  unfold shQ
  rw [decide_eq_false]; intro hh; rw [f1a hxx] at hh; omega
 refine lT rfl ⟨⟩ rfl ⟨congrArg Value.bool ?_, S10.fin⟩
 unfold shQ
 rw [decide_eq_false]; intro hh; have := of_decide_eq_false h10; omega
theorem u3a {p : e0a} {M : List Nat} {w : World} {cs : List Value} (hP : o1a M w p cs) : p2a Tryz.prog M w (.func (.func 125) #[.agg cs.toArray] #[]) (shQ p) :=
 ⟨_, _, _, rfl, M8a, fun w' hk c _ => M4a p M w' cs c (hP.keep hk)⟩
theorem h3c (p : e0a) (t c : Int) (g g' : Nat) (M : List Nat) (w0 : World) (cs : List Value) (hP : o1a M w0 p cs) (hg : v1a w0 g 0 cs) (hg' : w0.cell? ⟨g', 0, none⟩ = some (.int .i64 t)) :
 R0a Tryz.prog 194 #[.int .i64 c, .pointer (some ⟨g, 0, none⟩), .pointer (some ⟨g', 0, none⟩)] w0 fun v w' => v = .bool (z8a p t c) ∧ Below w0.heap.size w0 w' := by
 obtain ⟨_, _, _, _, _, _, _, _, _, _, _, _, rfl, hC, _, _, _, _, _, _, _, _, _, _, _⟩ := hP.open_
 have S := St.refl w0
 refine a0a Tryz.func194 rfl Tryz.ntmps194 rfl ?_
 refine wC0 rfl ⟨⟩ (u0a b0a [0, 1, 2, 3, 4, 5, 6, 7, 8, 9, 10, 11, 12, 13, 14, 15, 16, 17] [] [] (by kernel_rfl) rfl (Cl _ _ _ _) (Cl.start S) ?_)
 refine qO0 rfl ⟨⟩ (j0a O9a rfl (fun w1 hw => by exact hw.1.old (hg _ _ rfl)) rfl ?_)
 refine qO0 rfl ⟨⟩ (S1a V2a rfl rfl (fun w1 S1 X1 => n2a _ _ _) (fun h10 => ?_) fun h10 => ?_)
 ·refine qO0 rfl ⟨⟩ (j0a O9a rfl (fun w1 hw => by exact hw.1.old (hg _ _ rfl)) rfl ?_)
  have h11 := of_decide_eq_true h10
  obtain ⟨x, b16, p16, _, hxx, hA16, _, _, hc16, hr16⟩ := RdS.get (hC) (c.toNat) (by omega)
  obtain ⟨rfl, _, _, _, _⟩ := K2a.open_ hr16
  refine qO (S.q.a hc16) [.x b16 p16,.f 0 3] rfl ⟨rfl,⟨hA16,by omega⟩,⟨⟩⟩ (j0a A0a rfl (fun w1 hw => by exact hw.1.old hg') rfl ?_)
  refine qB0 rfl ⟨⟩ (fun h20 => ?_) fun h20 => ?_
  ·refine qD rfl ⟨⟩ ?_
   rintro wR1 ⟨SR1, XR1⟩
   refine lT rfl ⟨⟩ rfl ⟨congrArg Value.bool ?_, SR1.fin⟩
   unfold z8a
   rw [decide_eq_true]; exact ⟨by omega, by rw [f1a hxx]; omega⟩
  refine qD rfl ⟨⟩ ?_
  rintro wR1 ⟨SR1, XR1⟩
  refine lT rfl ⟨⟩ rfl ⟨congrArg Value.bool ?_, SR1.fin⟩
  unfold z8a
  rw [decide_eq_false]; intro hh; rw [f1a hxx] at hh; omega
 refine qD rfl ⟨⟩ ?_
 rintro wR1 ⟨SR1, XR1⟩
 refine lT rfl ⟨⟩ rfl ⟨congrArg Value.bool ?_, SR1.fin⟩
 unfold z8a
 rw [decide_eq_false]; intro hh; have := of_decide_eq_false h10; omega
theorem E1b (p : e0a) (t : Int) (M : List Nat) (w0 : World) (cs : List Value) (hP : o1a M w0 p cs) (hM : ∀ g ∈ M, g < w0.heap.size) :
 R0a Tryz.prog 163 #[.agg cs.toArray, .int .i64 t] w0 fun v w' => p2a Tryz.prog M w' v (z8a p t) ∧ Below w0.heap.size w0 w' := by
 obtain ⟨_, _, _, _, _, _, _, _, _, _, _, _, rfl, _, _, _, _, _, _, _, _, _, _, _, _⟩ := hP.open_
 have S := St.refl w0
 refine a0a Tryz.func163 rfl Tryz.ntmps163 rfl ?_
 refine wO0 rfl ⟨⟩ (m0a S (by conv => lhs; whnf) rfl ?_)
 intro g2 w2 S2 X2 G2
 refine G9a S2 (v := .int .i64 _) rfl rfl rfl ?_
 intro g3 w3 S3 X3 G3
 refine lO0 rfl ⟨⟩ (f2a rfl rfl ?_)
 refine lR0 rfl ⟨⟩ (q0a rfl (by conv => lhs; whnf) ?_)
 exact ⟨⟨_, _, _, rfl, e5c, fun w' hk c _ => h3c p t c g2 g3 M w' _ (hP.keep ((S3.keep0 M).trans hk)) ((S3.cells 1 rfl).keep hk (Z0a hM (S3.new 1 rfl))) (hk.cell (a := ⟨g3, 0, none⟩) (Z0a hM (S3.new 0 rfl)) (S3.cell 0 rfl rfl))⟩, S3.fin⟩
theorem R4b (p : e0a) (t c : Int) (g g' : Nat) (M : List Nat) (w0 : World) (cs : List Value) (vf : Value) (hP : o1a M w0 p cs) (hg : v1a w0 g 0 cs) (hg' : w0.cell? ⟨g', 0, none⟩ = some vf) (hp : p2a Tryz.prog M w0 vf (z8a p t)) (hc : i64 c) :
 R0a Tryz.prog 164 #[.int .i64 c, .pointer (some ⟨g, 0, none⟩), .pointer (some ⟨g', 0, none⟩)] w0 fun v w' => v = .bool (Y0b p t c) ∧ Below w0.heap.size w0 w' := by
 obtain ⟨_, _, _, _, _, _, _, _, _, _, _, _, rfl, _, _, _, _, _, _, _, _, _, _, _, _⟩ := hP.open_
 have S := St.refl w0
 refine a0a Tryz.func164 rfl Tryz.ntmps164 rfl ?_
 refine wO0 rfl ⟨⟩ ?_
 first | refine a1a x1b rfl ((fun j v hj => S.old (hg j v hj))) (by rfl) rfl ?_
 refine lO0 rfl ⟨⟩ (r0a S M8a rfl rfl (M4a p M _ _ _ (hP.keep (S.keep0 M))) (fun h7 w7 S7 X7 => ?_) (fun h7 w7 S7 X7 => ?_))
 ·refine lT rfl ⟨⟩ rfl ⟨congrArg Value.bool ?_, S7.fin⟩
  unfold Y0b
  rw [h7] <;> rfl
 refine lO0 rfl ⟨⟩ (s0a F1b rfl (by first | exact S7.old hg') rfl ?_)
 refine lO0 rfl ⟨⟩ (W1b S7 (hp.keep (S7.keep0 M)) rfl rfl (hc) rfl (fun h11 w11 S11 X11 => ?_) (fun h11 w11 S11 X11 => ?_))
 ·refine lT rfl ⟨⟩ rfl ⟨congrArg Value.bool ?_, S11.fin⟩
  unfold Y0b
  rw [h7, h11] <;> rfl
 refine lT rfl ⟨⟩ rfl ⟨congrArg Value.bool ?_, S11.fin⟩
 unfold Y0b
 rw [h7, h11] <;> rfl
theorem v6a (p : e0a) (t : Int) (M : List Nat) (w0 : World) (cs : List Value) (hP : o1a M w0 p cs) (hM : ∀ g ∈ M, g < w0.heap.size) :
 R0a Tryz.prog 129 #[.agg cs.toArray, .int .i64 t] w0 fun v w' => p2a Tryz.prog M w' v (Y0b p t) ∧ Below w0.heap.size w0 w' := by
 obtain ⟨_, _, _, _, _, _, _, _, _, _, _, _, rfl, _, _, _, _, _, _, _, _, _, _, _, _⟩ := hP.open_
 have S := St.refl w0
 refine a0a Tryz.func129 rfl Tryz.ntmps129 rfl ?_
 refine wO0 rfl ⟨⟩ (m0a S (by conv => lhs; whnf) rfl ?_)
 intro g2 w2 S2 X2 G2
 refine lO S2.k [.w 0] rfl ⟨⟨rfl,by rfl⟩,⟨⟩⟩ ?_
 refine M0a S2 G1b rfl rfl (E1b p t M _ _ (hP.keep (S2.keep0 M)) (fun g hg => by have := hM g hg; have := S2.size; omega)) ?_
 rintro v8 w8 hp8 S8 X8
 obtain ⟨_, _, _, rfl, _, _⟩ := id hp8
 refine h0a S8 T1c rfl rfl ?_
 intro g5 w5 S5 X5 G5
 refine v0a (kk := 0) S5 K1c rfl (by conv => lhs; whnf) rfl rfl (by exact Nat.le_of_ble_eq_true rfl) ?_
 intro w1_4 S1_4 X1_4
 refine lO0 rfl ⟨⟩ (f2a rfl rfl ?_)
 refine lR0 rfl ⟨⟩ (q0a rfl (by conv => lhs; whnf) ?_)
 exact ⟨⟨_, _, _, rfl, y3c, fun w' hk c hc => R4b p t c g2 g5 M w' _ _ (hP.keep ((S1_4.keep0 M).trans hk)) ((S1_4.cells 1 rfl).keep hk (Z0a hM (S1_4.new 1 rfl))) (hk.cell (a := ⟨g5, 0, none⟩) (Z0a hM (S1_4.new 0 rfl)) (S1_4.cell 0 rfl rfl)) (hp8.keep ((G0a.fresh X5 X1_4 G5).of_nil.trans hk)) hc⟩, S1_4.fin⟩
theorem h6a (e : E) (M : List Nat) (w0 : World) (es : List Value) (vf : Value) (q : Int → Bool) (hR : RdE M w0 e es) (hp : p2a Tryz.prog M w0 vf q) (hK : e3a M w0) (hM : ∀ g ∈ M, g < w0.heap.size) :
 R0a Tryz.prog 133 #[.agg es.toArray, vf] w0 fun v w' => v = .bool (X2a e q) ∧ Below w0.heap.size w0 w' := by
 obtain ⟨_, _, _, rfl, _, _, _, _, _⟩ := hR.cells
 obtain ⟨_, _, _, rfl, _, _⟩ := id hp
 have S := St.refl w0
 have hM' : ∀ w' : World, w0.heap.size ≤ w'.heap.size → ∀ g ∈ M, g < w'.heap.size := fun w' h g hg => by have := hM g hg; omega
 refine a0a Tryz.func133 rfl Tryz.ntmps133 rfl ?_
 refine wO0 rfl ⟨⟩ (m0a S (by conv => lhs; whnf) rfl ?_)
 intro g2 w2 S2 X2 G2
 refine lO S2.k [.w 0] rfl ⟨⟨rfl,by rfl⟩,⟨⟩⟩ (M0a S2 x3c rfl rfl (R2b e M _ _ (RdE.keep (S2.keep0 M) _ _ hR) (hK.keep (S2.keep0 M)) (hM' _ S2.size)) ?_)
 rintro v9 w9 ⟨_, _, rfl, ra, rb⟩ S9 X9
 obtain ⟨_, _, _, rfl⟩ := ra.form
 obtain ⟨_, _, _, rfl⟩ := rb.form
 refine lOn 10 S9.k [] rfl ⟨⟩ (B0a (by conv => lhs; whnf) rfl ?_)
 refine r0a S9 F7a rfl rfl (E5a M _ _ _ _ q ra (hp.keep (S9.keep0 M)) (hM' _ S9.size)) (fun h14 w14 S14 X14 => ?_) (fun h14 w14 S14 X14 => ?_)
 ·replace ra := ra.keep (X14.of_nil)
  replace rb := rb.keep (X14.of_nil)
  refine lOn 2 S14.k [] rfl ⟨⟩ (I3a rfl rfl rfl ?_)
  refine B0a (by conv => lhs; whnf) rfl ?_
  refine lO0 rfl ⟨⟩ (r0a S14 F7a rfl rfl (E5a M _ _ _ _ q rb (hp.keep (S14.keep0 M)) (hM' _ S14.size)) (fun h18 w18 S18 X18 => ?_) (fun h18 w18 S18 X18 => ?_))
  ·replace ra := ra.keep (X18.of_nil)
   refine lT rfl ⟨⟩ rfl ⟨congrArg Value.bool ?_, S18.fin⟩
   unfold X2a
   rw [h14, h18] <;> rfl
  refine lT rfl ⟨⟩ rfl ⟨congrArg Value.bool ?_, S18.fin⟩
  unfold X2a
  rw [h14, h18] <;> rfl
 refine lT rfl ⟨⟩ rfl ⟨congrArg Value.bool ?_, S14.fin⟩
 unfold X2a
 rw [h14] <;> rfl
theorem J8a (p : e0a) (e : E) (M : List Nat) (w0 : World) (cs es : List Value) (pair : Bool) (vf : Value) (q : Int → Bool) (hP : o1a M w0 p cs) (hR : RdE M w0 e es) (hp : p2a Tryz.prog M w0 vf q) (hK : e3a M w0) (hM : ∀ g ∈ M, g < w0.heap.size)
 (hw : e.w = 1) (hv : e.valid p.cells pair = true) (hs : X2a e q = true) :
 R0a Tryz.prog 124 #[.agg cs.toArray, .agg es.toArray, .bool pair, vf] w0 fun v w' => v = .bool true ∧ Below w0.heap.size w0 w' := by
 obtain ⟨_, _, _, _, _, _, _, _, _, _, _, _, rfl, hC, _, _, _, _, _, _, _, _, _, _, _⟩ := hP.open_
 obtain ⟨_, _, _, rfl, _, _, _, _, _⟩ := hR.cells
 obtain ⟨_, _, _, rfl, _, _⟩ := id hp
 have S := St.refl w0
 have hM' : ∀ w' : World, w0.heap.size ≤ w'.heap.size → ∀ g ∈ M, g < w'.heap.size := fun w' h g hg => by have := hM g hg; omega
 refine a0a Tryz.func124 rfl Tryz.ntmps124 rfl ?_
 refine wO0 rfl ⟨⟩ (m0a S (by conv => lhs; whnf) rfl ?_)
 intro g4 w4 S4 X4 G4
 refine m0a S4 (by conv => lhs; whnf) rfl ?_
 intro g5 w5 S5 X5 G5
 refine lB S5.k [.o 0] rfl ⟨rfl,⟨⟩⟩ (fun h11 => ?_) (fun h11 => by exfalso; omega)
 refine lO S5.k [.w 0,.o 1] rfl ⟨rfl,⟨rfl,by rfl⟩,⟨⟩⟩ (f0a S5 H6a rfl rfl (hv ▸ v3a e M _ _ _ p.cells pair (RdE.keep (S5.keep0 M) _ _ hR) (hC.keep (S5.keep0 M)) (hK.keep (S5.keep0 M))) ?_)
 intro w18 S18 X18
 refine lOn 3 S18.k [.w 0] rfl ⟨⟨rfl,by rfl⟩,⟨⟩⟩ (I3a rfl rfl rfl ?_)
 refine B0a (by conv => lhs; whnf) rfl ?_
 refine lO0 rfl ⟨⟩ (f0a S18 Q7a rfl rfl (hs ▸ h6a e M _ _ _ q (RdE.keep (S18.keep0 M) _ _ hR) (hp.keep (S18.keep0 M)) (hK.keep (S18.keep0 M)) (hM' _ S18.size)) ?_)
 intro w23 S23 X23
 exact lT rfl ⟨⟩ rfl ⟨rfl, S23.fin⟩
theorem V5a (p : e0a) (M : List Nat) (w0 : World) (cs : List Value) (c : Int) (hP : o1a M w0 p cs) (h0 : 0 ≤ c) (h1 : c < p.cells.length) :
 R0a Tryz.prog 210 #[.agg cs.toArray, .int .i64 c] w0 fun v w' => v = .bool (g0b p.cells c) ∧ Below w0.heap.size w0 w' := by
 obtain ⟨_, _, _, _, _, _, _, _, _, _, _, _, rfl, hC, _, _, _, _, _, _, _, _, _, _, _⟩ := hP.open_
 have S := St.refl w0
 refine a0a Tryz.func210 rfl Tryz.ntmps210 rfl ?_
 refine wO0 rfl ⟨⟩ (m0a S (by conv => lhs; whnf) rfl ?_)
 intro g2 w2 S2 X2 G2
 obtain ⟨x, b9, p9, _, hxx, hA9, _, _, hc9, hr9⟩ := RdS.get (hC) (c.toNat) (by omega)
 obtain ⟨rfl, _, _, _, _⟩ := K2a.open_ hr9
 refine lR (S2.k.a hc9) [.o 0,.x b9 p9,.f 0 4] rfl ⟨rfl,⟨hA9,by omega⟩,rfl,⟨⟩⟩ (q0a rfl (by conv => lhs; whnf) ?_)
 exact ⟨by rw [h5a hxx], S2.fin⟩
end Go.Proofs.YtjjmdcnmeommbaaGreatDoor
namespace Go.Fw
open Go.RowKit
theorem G6a (n : Nat) : C4a n = ((2 ^ n : Nat) : Int) := by
 induction n with
 | zero => rfl
 | succ n ih => simp only [C4a, ih, Nat.pow_succ]; omega
theorem g6b (a : Int) (h0 : 0 ≤ a) (h1 : a < 9223372036854775808) : IntKind.i64.wrap a = a := by
 unfold IntKind.wrap
 have hm : a % (2 ^ IntKind.i64.bits : Int) = a := Int.emod_eq_of_lt h0 (by simp [IntKind.bits]; omega)
 simp only [hm]
 rw [if_neg]
 simp [IntKind.bits, IntKind.signed]; omega
theorem b7b (a : Int) (n : Nat) (hn : n ≤ 62) : A6b a (C4a n - 1) = a % C4a n := by
 have h2 : (2 : Nat) ^ n ≤ 2 ^ 62 := Nat.pow_le_pow_right (by omega) hn
 have hpos : 0 < (2 : Nat) ^ n := Nat.pow_pos (by omega)
 rw [G6a]
 have e1 : (((2 ^ n : Nat) : Int) - 1) = ((2 ^ n - 1 : Nat) : Int) := by omega
 have key : (BitVec.ofInt 64 a &&& BitVec.ofInt 64 (((2 ^ n : Nat) : Int) - 1)).toNat = (a % ((2 ^ n : Nat) : Int)).toNat := by
  rw [BitVec.toNat_and, e1, BitVec.ofInt_natCast, BitVec.toNat_ofNat, BitVec.toNat_ofInt]
  rw [Nat.mod_eq_of_lt (show 2 ^ n - 1 < 2 ^ 64 by omega), Nat.and_two_pow_sub_one_eq_mod]
  have hd : ((2 ^ n : Nat) : Int) ∣ ((2 ^ 64 : Nat) : Int) := Int.natCast_dvd_natCast.2 (Nat.pow_dvd_pow 2 (by omega))
  have h64 : 0 ≤ a % ((2 ^ 64 : Nat) : Int) := Int.emod_nonneg _ (by decide)
  have hn0 : 0 ≤ a % ((2 ^ n : Nat) : Int) := Int.emod_nonneg _ (by omega)
  have : (((a % ((2 ^ 64 : Nat) : Int)).toNat % 2 ^ n : Nat) : Int) = ((a % ((2 ^ n : Nat) : Int)).toNat : Int) := by
   rw [Int.natCast_emod, Int.toNat_of_nonneg h64, Int.toNat_of_nonneg hn0, Int.emod_emod_of_dvd _ hd]
  omega
 have hb : A6b a (((2 ^ n : Nat) : Int) - 1) = IntKind.i64.wrap ((BitVec.ofInt 64 a &&& BitVec.ofInt 64 (((2 ^ n : Nat) : Int) - 1)).toNat : Int) := rfl
 rw [hb, key]
 have hn0 : 0 ≤ a % ((2 ^ n : Nat) : Int) := Int.emod_nonneg _ (by omega)
 have hn1 : a % ((2 ^ n : Nat) : Int) < ((2 ^ n : Nat) : Int) := Int.emod_lt_of_pos _ (by omega)
 rw [Int.toNat_of_nonneg hn0]
 exact g6b _ hn0 (by omega)
end Go.Fw
namespace Go.Fw
open Go.RowKit
theorem e1a.thread {p : e0a} (hp : e1a p) {k : Nat} {x : U0a} (hx : p.threads[k]? = some x) : c7a p k x := by
 obtain ⟨h, rfl⟩ := List.getElem?_eq_some_iff.1 hx
 exact hp.threads k h
theorem V0c {a : Int} (h0 : 0 ≤ a) (h1 : a < 18446744073709551616) : IntKind.u64.wrap a = a := by
 unfold IntKind.wrap
 have hm : a % (2 ^ IntKind.u64.bits : Int) = a := Int.emod_eq_of_lt h0 (by simp [IntKind.bits]; omega)
 simp only [hm]
 rw [if_neg]
 simp [IntKind.bits, IntKind.signed]
def v4a (l : List Value) : List (Value × Value) := l.map fun x => (x, .agg #[])
theorem z7a (l : List Value) (x : Value) : v4a (l ++ [x]) = v4a l ++ [(x, .agg #[])] := by simp [v4a]
theorem L4a {l : List Value} {x : Value} (h : x ∉ l) : ∀ y ∈ v4a l, y.1 ≠ x := fun y hy e => by
 obtain ⟨_, hz, rfl⟩ := List.mem_map.1 hy
 simp only at e
 subst e
 exact h hz
theorem W3a {α : Type} {l : List α} {k : Nat} {x : α} {f : α → Value} (hp : l.Pairwise fun a b => f a ≠ f b) (hx : l[k]? = some x) : f x ∉ (l.take k).map f := fun hm => by
 obtain ⟨_, hy, he⟩ := List.mem_map.1 hm
 obtain ⟨j, _, rfl⟩ := List.mem_take_iff_getElem.1 hy
 obtain ⟨hk, rfl⟩ := List.getElem?_eq_some_iff.1 hx
 exact (List.pairwise_iff_getElem.1 hp) j k _ hk (by omega) he
end Go.Fw
namespace Go.Proofs.YtjjmdcnmeommbaaGreatDoor
open Go.Fw Go.RowKit
theorem I6b (p : e0a) (M : List Nat) (w0 : World) (cs : List Value) (hP : o1a M w0 p cs) (hp : e1a p) :
 R0a Tryz.prog 70 #[.agg cs.toArray] w0 fun v w' => v = .tuple #[.int .i64 0, .int .i64 (-1)] ∧ Below w0.heap.size w0 w' := by
 obtain ⟨Ac, nc, cc, Am, nm, cm, Al, nl, cl, At, nt, ct, rfl, _, _, _, hTh, _, _, _, _, _, _, _, _⟩ := hP.open_
 have S := St.refl w0
 have q1 := hp.ncells
 have q2 := hp.nmodules
 have q3 := hp.nlocks
 have q4 := hp.nthreads
 refine a0a Tryz.func70 rfl Tryz.ntmps70 rfl ?_
 refine wO0 rfl ⟨⟩ (m0a S (by conv => lhs; whnf) rfl ?_)
 intro g1 w1 S1 X1 G1
 refine lO S1.k [.w 0] rfl ⟨⟨rfl,rfl⟩,⟨⟩⟩ (h0a S1 H5c rfl rfl ?_)
 intro g4 w4 S4 X4 G4
 refine c0a (kk := 0) (vs := [_, _, _, _]) S4 s6c rfl rfl rfl rfl rfl rfl rfl ?_
 intro w1_3 S1_3 X1_3
 dsimp only [k0a, List.set] at S1_3
 refine lB S1_3.k [.o 0] rfl ⟨rfl,⟨⟩⟩ (fun h12 => by exfalso; omega) fun h12 => ?_
 refine lB S1_3.k [.o 0] rfl ⟨rfl,⟨⟩⟩ (fun h17 => by exfalso; omega) fun h17 => ?_
 refine lB S1_3.k [.o 0] rfl ⟨rfl,⟨⟩⟩ (fun h23 => by exfalso; omega) fun h23 => ?_
 refine lB S1_3.k [.o 0] rfl ⟨rfl,⟨⟩⟩ (fun h29 => by exfalso; omega) fun h29 => ?_
 refine lC S1_3.k [.o 0] rfl ⟨rfl,⟨⟩⟩ (wL (fun μk D ε w => D = [] ∧ ∃ k : Nat, (k + μk = (p.threads.length)) ∧ St [] w0 w [(some g4, 27, [.slice Ac nc cc, .slice Am nm cm, .slice Al nl cl, .slice At nt ct]), (some g1, 138, [.slice Ac nc cc, .slice Am nm cm, .slice Al nl cl, .slice At nt ct])] ∧ Sl ε [(32, .slice At nt ct), (33, .int .i64 nt), (34, .int .i64 k)]) (μ := (p.threads.length)) ⟨rfl, 0, by omega, S1_3, rfl⟩ ?_)
 rintro μk D ε w ⟨rfl, k, _, S, eZ⟩
 refine wK eZ (wB0 rfl ⟨⟩ (fun h35 => ?_) fun h35 => ?_)
 ·obtain ⟨x, b37, p37, _, hxx, hA37, _, hl37, hc37, hr37⟩ := RdS.get (hTh) (k) (by omega)
  obtain ⟨_, _, _, _, _, _, _, _, _, _, _, _, rfl, _, _, _, _, _, _, _, _, _, _, _, _, _⟩ := I0a.open_ hr37
  have hx1 := hp.thread hxx
  have q5 := hx1.points
  have q6 := hx1.nsteps
  have q7 := hx1.nloops
  refine lO (S.k.a hc37) [.x b37 p37,.v 0] rfl ⟨⟨rfl,hl37⟩,⟨hA37,by omega⟩,⟨⟩⟩ (h0a S k2b rfl rfl ?_)
  intro g6 w6 S6 X6 G6
  refine lO0 rfl ⟨⟩ (c0a (kk := 0) (vs := [_, _, _, _, _, _, _]) S6 R0b rfl rfl rfl rfl rfl rfl rfl ?_)
  intro w6_5 S6_5 X6_5
  dsimp only [k0a, List.set] at S6_5
  refine lB S6_5.k [.o 0] rfl ⟨rfl,⟨⟩⟩ (fun h41 => by exfalso; omega) fun h41 => ?_
  refine lB S6_5.k [.o 0] rfl ⟨rfl,⟨⟩⟩ (fun h46 => by exfalso; omega) fun h46 => ?_
  refine lB S6_5.k [.o 0] rfl ⟨rfl,⟨⟩⟩ (fun h52 => by exfalso; omega) fun h52 => ?_
  refine lP0 rfl ⟨by omega,⟨⟩⟩ ⟨μk - 1, by omega, rfl, (k + 1), (by omega), S6_5.tail, rfl⟩
 refine lR0 rfl ⟨⟩ (M2a rfl (by conv => lhs; whnf) (by conv => lhs; whnf) ?_)
 exact ⟨rfl, S.fin⟩
theorem y8a (b : Nat) (l : List Value) (s : ByteArray) (w0 : World) (hm : z3a Tryz.prog 9 w0 b (v4a l)) (hs : s.size ≤ 140737488355328) (hnew : Value.string s ∉ l) :
 R0a Tryz.prog 122 #[.map (some b), .string s] w0 fun v w' => v = .bool false ∧ N0a [b] w0 w' ∧ z3a Tryz.prog 9 w' b (v4a (l ++ [.string s])) := by
 have S := St.reflM [b] w0
 have hk : keyOf Tryz.prog 9 (.string s) = some (.string s.data.toList) := Go.WideMaps.keyOf_string_mk Tryz.underlying9 (by unfold maxLen; omega)
 refine a0a Tryz.func122 rfl Tryz.ntmps122 rfl ?_
 refine wO0 rfl ⟨⟩ (z9a (Go.Maps.string_keyed Tryz.underlying9) Tryz.underlying142 x0b hm rfl rfl hk rfl (fun v hv => absurd rfl (L4a hnew _ hv)) (fun _ => ?_))
 refine lO0 rfl ⟨⟩ (h0a S x0b rfl rfl ?_)
 intro g5 w5 S5 X5 G5
 replace hm := hm.keep X5 (List.not_mem_nil)
 first | refine c0a (kk := 0) (vs := []) S5 V8b rfl rfl rfl rfl rfl rfl rfl ?_
 intro w1_7 S1_7 X1_7
 dsimp only [k0a, List.set] at S1_7
 replace hm := hm.keep X1_7 (fun hh => by rw [List.mem_singleton] at hh; first | exact hm.ne (S5.blk 0 rfl) hh)
 refine lO0 rfl ⟨⟩ (i1a b4b (vs := []) (cs := []) rfl rfl rfl rfl ?_)
 refine J1b S1_7 (Go.Maps.string_keyed Tryz.underlying9) Tryz.underlying142 hm rfl rfl rfl hk (L4a hnew) (.inr (by simp)) ?_
 intro wm Sm Xm Mm
 refine lT rfl ⟨⟩ rfl ?_
 exact ⟨rfl, Sm.below, by rw [z7a]; exact Mm⟩
theorem K7b (p : e0a) (M : List Nat) (w0 : World) (cs : List Value) (hP : o1a M w0 p cs) (hp : e1a p) :
 R0a Tryz.prog 71 #[.agg cs.toArray] w0 fun v w' => v = .int .i64 0 ∧ Below w0.heap.size w0 w' := by
 obtain ⟨Ac, nc, cc, Am, nm, cm, Al, nl, cl, At, nt, ct, rfl, hC, _, _, _, _, _, _, _, _, _, _, _⟩ := hP.open_
 have S := St.refl w0
 have hdis : p.cells.Pairwise fun a b => Value.string a.name ≠ .string b.name := hp.cellNames.imp fun h e => h (by injection e)
 refine a0a Tryz.func71 rfl Tryz.ntmps71 rfl ?_
 refine wO0 rfl ⟨⟩ (m0a S (by conv => lhs; whnf) rfl ?_)
 intro g1 w1 S1 X1 G1
 refine lO0 rfl ⟨⟩ (W5a (k := 9) S1 rfl ?_)
 intro g6 w6 S6 X6 G6 Mp6
 have hg6 : w0.heap.size ≤ g6 := by have := S1.size; omega
 refine lC S6.k [.o 0] rfl ⟨rfl,⟨⟩⟩ (wL (fun μk D ε w => D = [] ∧ ∃ k : Nat, (k + μk = (p.cells.length)) ∧ (z3a Tryz.prog 9 w g6 (v4a ((p.cells.take k).map fun c => .string c.name))) ∧ St [] w0 w [(some g1, 138, [.slice Ac nc cc, .slice Am nm cm, .slice Al nl cl, .slice At nt ct])] ∧ Sl ε [(1, .pointer (some ⟨g1, 0, none⟩)), (3, .map (some g6)), (9, .slice Ac nc cc), (10, .int .i64 nc), (11, .int .i64 k)]) (μ := (p.cells.length)) ⟨rfl, 0, by omega, (by simpa [v4a] using Mp6), S6, rfl⟩ ?_)
 rintro μk D ε w ⟨rfl, k, _, Mp6, S, eZ⟩
 refine wK eZ (wB0 rfl ⟨⟩ (fun h12 => ?_) fun h12 => ?_)
 ·obtain ⟨x, b13, p13, _, hxx, hA13, _, hl13, hc13, hr13⟩ := RdS.get (hC) (k) (by omega)
  obtain ⟨rfl, _, _, _, _⟩ := K2a.open_ hr13
  have q1 := hp.cells x (d0a hxx)
  have q2 := q1.w
  have q3 := q1.init
  have q4 := q1.thread
  refine lO (S.k.a hc13) [.x b13 p13,.v 0] rfl ⟨⟨rfl,hl13⟩,⟨hA13,by omega⟩,⟨⟩⟩ (h0a S i4c rfl rfl ?_)
  intro g5 w5 S5 X5 G5
  replace Mp6 := Mp6.keep X5 (List.not_mem_nil)
  refine c0a (kk := 0) (vs := [_, _, _, _, _, _]) S5 G4c rfl rfl rfl rfl rfl rfl rfl ?_
  intro w4_3 S4_3 X4_3
  dsimp only [k0a, List.set] at S4_3
  replace Mp6 := Mp6.keep X4_3 (fun hh => by rw [List.mem_singleton] at hh; exact Mp6.ne (S5.blk 0 rfl) hh)
  refine lO S4_3.k [.o 0] rfl ⟨rfl,⟨⟩⟩ (f0a S4_3 m1b rfl rfl (X6a _ _ q1.name) ?_)
  intro w18 S18 X18
  replace Mp6 := Mp6.keep X18 (List.not_mem_nil)
  refine lB S18.k [.o 0] rfl ⟨rfl,⟨⟩⟩ (fun h22 => by exfalso; omega) fun h22 => ?_
  refine lB S18.k [.o 0] rfl ⟨rfl,⟨⟩⟩ (fun h25 => by exfalso; omega) fun h25 => ?_
  refine lO S18.k [.o 0,.o 0] rfl ⟨rfl,rfl,⟨⟩⟩ (x7b Tryz.underlying3 Tryz.underlying176 rfl rfl ?_)
  rw [V0c (by omega) (by omega), show x.w = ((x.w.toNat : Nat) : Int) by omega]
  refine N4c (n := x.w.toNat) rfl (by rfl) (by omega) rfl ?_
  refine f0a S18 V2a rfl rfl ((show decide (0 ≤ x.init ∧ x.init < ((2 ^ x.w.toNat : Nat) : Int)) = true from decide_eq_true (by rw [← G6a]; exact q3)) ▸ n2a _ _ _) ?_
  intro w32 S32 X32
  replace Mp6 := Mp6.keep X32 (List.not_mem_nil)
  refine lB S32.k [.o 0] rfl ⟨rfl,⟨⟩⟩ (fun h37 => ?_) fun h37 => ?_
  ·refine lO S32.k [.o 0,.o 1] rfl ⟨rfl,rfl,⟨⟩⟩ (f0a S32 V2a rfl rfl ((show decide (0 ≤ x.thread ∧ x.thread < (nt : Int)) = true from decide_eq_true (by omega)) ▸ n2a _ _ _) ?_)
   intro w45 S45 X45
   replace Mp6 := Mp6.keep X45 (List.not_mem_nil)
   refine lO S45.k [.o 0,.o 1] rfl ⟨rfl,rfl,⟨⟩⟩ ?_
   refine f0a S45 V2a rfl rfl ((show decide (0 ≤ x.module_ ∧ x.module_ < (nm : Int)) = true from decide_eq_true (by have := q1.mod; unfold L2a at this; omega)) ▸ n2a _ _ _) ?_
   intro w54 S54 X54
   replace Mp6 := Mp6.keep X54 (List.not_mem_nil)
   refine lO S54.k [.o 0] rfl ⟨rfl,⟨⟩⟩ ?_
   have hnew := W3a hdis hxx
   have hsz : x.name.size ≤ 140737488355328 := by have := q1.name.2.1; omega
   refine f3a U1b rfl rfl (y8a g6 _ x.name _ Mp6 hsz hnew) ?_
   rintro v60 w60 ⟨rfl, B60, M60⟩
   have S60 := S54.turned Mp6 (.inl hg6) B60
   refine lP0 rfl ⟨by omega,⟨⟩⟩ ?_
   refine ⟨μk - 1, by omega, rfl, (k + 1), (by omega), ((by rw [g1a hxx, List.map_append]; exact M60)), S60.tail, rfl⟩
  refine lO S32.k [.o 0,.o 1] rfl ⟨rfl,rfl,⟨⟩⟩ ?_
  refine f0a S32 V2a rfl rfl ((show decide (0 ≤ x.module_ ∧ x.module_ < (nm : Int)) = true from decide_eq_true (by have := q1.mod; unfold L2a at this; omega)) ▸ n2a _ _ _) ?_
  intro w54 S54 X54
  replace Mp6 := Mp6.keep X54 (List.not_mem_nil)
  refine lO S54.k [.o 0] rfl ⟨rfl,⟨⟩⟩ ?_
  have hnew := W3a hdis hxx
  have hsz : x.name.size ≤ 140737488355328 := by have := q1.name.2.1; omega
  refine f3a U1b rfl rfl (y8a g6 _ x.name _ Mp6 hsz hnew) ?_
  rintro v60 w60 ⟨rfl, B60, M60⟩
  have S60 := S54.turned Mp6 (.inl hg6) B60
  refine lP0 rfl ⟨by omega,⟨⟩⟩ ?_
  refine ⟨μk - 1, by omega, rfl, (k + 1), (by omega), ((by rw [g1a hxx, List.map_append]; exact M60)), S60.tail, rfl⟩
 exact lT rfl ⟨⟩ rfl ⟨rfl, S.fin⟩
theorem j5b (p : e0a) (M : List Nat) (w0 : World) (cs : List Value) (hP : o1a M w0 p cs) (hp : e1a p) (hK : e3a M w0) (hM : ∀ g ∈ M, g < w0.heap.size) :
 R0a Tryz.prog 72 #[.agg cs.toArray] w0 fun v w' => v = .int .i64 0 ∧ Below w0.heap.size w0 w' := by
 obtain ⟨Ac, nc, cc, Am, nm, cm, Al, nl, cl, At, nt, ct, rfl, _, hMo, _, _, _, _, _, _, _, _, _, _⟩ := hP.open_
 have S := St.refl w0
 have hM' : ∀ w' : World, w0.heap.size ≤ w'.heap.size → ∀ g ∈ M, g < w'.heap.size := fun w' h g hg => by have := hM g hg; omega
 have hdis : p.modules.Pairwise fun a b => Value.string a.name ≠ .string b.name := hp.moduleNames.imp fun h e => h (by injection e)
 refine a0a Tryz.func72 rfl Tryz.ntmps72 rfl ?_
 refine wO0 rfl ⟨⟩ (m0a S (by conv => lhs; whnf) rfl ?_)
 intro g1 w1 S1 X1 G1
 refine lO0 rfl ⟨⟩ (W5a (k := 9) S1 rfl ?_)
 intro g6 w6 S6 X6 G6 Mp6
 have hg6 : w0.heap.size ≤ g6 := by have := S1.size; omega
 refine lC S6.k [.o 0] rfl ⟨rfl,⟨⟩⟩ (wL (fun μk D ε w => D = [] ∧ ∃ k : Nat, (k + μk = (p.modules.length)) ∧ (z3a Tryz.prog 9 w g6 (v4a ((p.modules.take k).map fun c => .string c.name))) ∧ St [] w0 w [(some g1, 138, [.slice Ac nc cc, .slice Am nm cm, .slice Al nl cl, .slice At nt ct])] ∧ Sl ε [(1, .pointer (some ⟨g1, 0, none⟩)), (3, .map (some g6)), (9, .slice Am nm cm), (10, .int .i64 nm), (11, .int .i64 k)]) (μ := (p.modules.length)) ⟨rfl, 0, by omega, (by simpa [v4a] using Mp6), S6, rfl⟩ ?_)
 rintro μk D ε w ⟨rfl, k, _, Mp6, S, eZ⟩
 refine wK eZ (wB0 rfl ⟨⟩ (fun h12 => ?_) fun h12 => ?_)
 ·obtain ⟨x, b13, p13, _, hxx, hA13, _, hl13, hc13, hr13⟩ := RdS.get (hMo) (k) (by omega)
  obtain ⟨_, _, _, _, _, _, _, _, _, rfl, hR13, hG13, hF13, _, _⟩ := c1a.open_ hr13
  have q1 := hp.modules x (d0a hxx)
  refine lO (S.k.a hc13) [.x b13 p13,.v 0] rfl ⟨⟨rfl,hl13⟩,⟨hA13,by omega⟩,⟨⟩⟩ (h0a S k4c rfl rfl ?_)
  intro g5 w5 S5 X5 G5
  replace Mp6 := Mp6.keep X5 (List.not_mem_nil)
  refine c0a (kk := 0) (vs := [_, _, _, _, _, _, _, _, _, _, _]) S5 G3c rfl rfl rfl rfl rfl rfl rfl ?_
  intro w4_3 S4_3 X4_3
  dsimp only [k0a, List.set] at S4_3
  replace Mp6 := Mp6.keep X4_3 (fun hh => by rw [List.mem_singleton] at hh; exact Mp6.ne (S5.blk 0 rfl) hh)
  refine lO S4_3.k [.o 0] rfl ⟨rfl,⟨⟩⟩ (f0a S4_3 m1b rfl rfl (X6a _ _ q1.name) ?_)
  intro w18 S18 X18
  replace Mp6 := Mp6.keep X18 (List.not_mem_nil)
  refine lO S18.k [.o 0] rfl ⟨rfl,⟨⟩⟩ (f0a S18 m1b rfl rfl (X6a _ _ q1.owner) ?_)
  intro w22 S22 X22
  replace Mp6 := Mp6.keep X22 (List.not_mem_nil)
  refine lO S22.k [.o 0] rfl ⟨rfl,⟨⟩⟩ ?_
  have hnew := W3a hdis hxx
  have hsz : x.name.size ≤ 140737488355328 := by have := q1.name.2.1; omega
  refine f3a U1b rfl rfl (y8a g6 _ x.name _ Mp6 hsz hnew) ?_
  rintro v28 w28 ⟨rfl, B28, M28⟩
  have S28 := S22.turned Mp6 (.inl hg6) B28
  clear Mp6
  have Mp6 := M28
  refine lO S28.k [.o 0] rfl ⟨rfl,⟨⟩⟩ (r0a S28 i5c rfl rfl (q6b x.rely M _ _ (RdE.keep (S28.keep0 M) _ _ hR13)) (fun h32 w32 S32 X32 => ?_) (fun h32 w32 S32 X32 => ?_))
  ·replace Mp6 := Mp6.keep X32 (List.not_mem_nil)
   refine lO S32.k [.w 1,.o 0,.w 1] rfl ⟨⟨rfl,rfl⟩,rfl,⟨rfl,rfl⟩,⟨⟩⟩ (m2a rfl rfl rfl ?_)
   refine f0a S32 X8a rfl rfl (J8a p x.guar M _ _ _ true _ (shQ p) (hP.keep (S32.keep0 M)) (RdE.keep (S32.keep0 M) _ _ hG13) (u3a (hP.keep (S32.keep0 M))) (hK.keep (S32.keep0 M)) (hM' _ S32.size) q1.guar.2.1 q1.guar.1 (E5b hp q1.guar.1 q1.guar.2.2)) ?_
   intro w48 S48 X48
   replace Mp6 := Mp6.keep X48 (List.not_mem_nil)
   refine lO S48.k [.o 0] rfl ⟨rfl,⟨⟩⟩ (f0a S48 h4b rfl rfl (m5a M _ _ _ (hF13.keep (S48.keep0 M)) q1.up) ?_)
   intro w53 S53 X53
   replace Mp6 := Mp6.keep X53 (List.not_mem_nil)
   refine lO S53.k [.o 0,.w 1] rfl ⟨⟨rfl,rfl⟩,rfl,⟨⟩⟩ (m2a rfl rfl rfl ?_)
   refine f0a S53 F7a rfl rfl ((show x.frame.all (shQ p) = true from List.all_eq_true.2 fun z hz => decide_eq_true (q1.frame z hz)) ▸ E5a M _ _ _ x.frame (shQ p) (hF13.keep (S53.keep0 M)) (u3a (hP.keep (S53.keep0 M))) (hM' _ S53.size)) ?_
   intro w59 S59 X59
   replace Mp6 := Mp6.keep X59 (List.not_mem_nil)
   refine lP0 rfl ⟨by omega,⟨⟩⟩ ?_
   refine ⟨μk - 1, by omega, rfl, (k + 1), (by omega), ((by rw [g1a hxx, List.map_append]; exact Mp6)), S59.tail, rfl⟩
  replace Mp6 := Mp6.keep X32 (List.not_mem_nil)
  refine lO S32.k [.w 1,.o 0,.w 1] rfl ⟨⟨rfl,rfl⟩,rfl,⟨rfl,rfl⟩,⟨⟩⟩ (m2a rfl rfl rfl ?_)
  refine lO0 rfl ⟨⟩ ?_
  have ht40 := q1.rely.resolve_left (r1b h32)
  refine f0a S32 X8a rfl rfl (J8a p x.rely M _ _ _ true _ (shQ p) (hP.keep (S32.keep0 M)) (RdE.keep (S32.keep0 M) _ _ hR13) (u3a (hP.keep (S32.keep0 M))) (hK.keep (S32.keep0 M)) (hM' _ S32.size) ht40.2.1 ht40.1 (E5b hp ht40.1 ht40.2.2)) ?_
  intro w40 S40 X40
  replace Mp6 := Mp6.keep X40 (List.not_mem_nil)
  refine lO S40.k [.w 1,.o 0,.w 1] rfl ⟨⟨rfl,rfl⟩,rfl,⟨rfl,rfl⟩,⟨⟩⟩ (m2a rfl rfl rfl ?_)
  refine f0a S40 X8a rfl rfl (J8a p x.guar M _ _ _ true _ (shQ p) (hP.keep (S40.keep0 M)) (RdE.keep (S40.keep0 M) _ _ hG13) (u3a (hP.keep (S40.keep0 M))) (hK.keep (S40.keep0 M)) (hM' _ S40.size) q1.guar.2.1 q1.guar.1 (E5b hp q1.guar.1 q1.guar.2.2)) ?_
  intro w48 S48 X48
  replace Mp6 := Mp6.keep X48 (List.not_mem_nil)
  refine lO S48.k [.o 0] rfl ⟨rfl,⟨⟩⟩ (f0a S48 h4b rfl rfl (m5a M _ _ _ (hF13.keep (S48.keep0 M)) q1.up) ?_)
  intro w53 S53 X53
  replace Mp6 := Mp6.keep X53 (List.not_mem_nil)
  refine lO S53.k [.o 0,.w 1] rfl ⟨⟨rfl,rfl⟩,rfl,⟨⟩⟩ (m2a rfl rfl rfl ?_)
  refine f0a S53 F7a rfl rfl ((show x.frame.all (shQ p) = true from List.all_eq_true.2 fun z hz => decide_eq_true (q1.frame z hz)) ▸ E5a M _ _ _ x.frame (shQ p) (hF13.keep (S53.keep0 M)) (u3a (hP.keep (S53.keep0 M))) (hM' _ S53.size)) ?_
  intro w59 S59 X59
  replace Mp6 := Mp6.keep X59 (List.not_mem_nil)
  refine lP0 rfl ⟨by omega,⟨⟩⟩ ?_
  refine ⟨μk - 1, by omega, rfl, (k + 1), (by omega), ((by rw [g1a hxx, List.map_append]; exact Mp6)), S59.tail, rfl⟩
 exact lT rfl ⟨⟩ rfl ⟨rfl, S.fin⟩
theorem E1c {x : Int} (h : i64 x) : keyOf Tryz.prog 3 (.int .i64 x) = some (.int .i64 x) := Go.Maps.keyOf_int_mk Tryz.underlying3 (by unfold i64 at h; simp [Lit.wf, IntKind.min, IntKind.max, IntKind.signed, IntKind.bits]; omega)
theorem J8b (p : e0a) (M : List Nat) (w0 : World) (cs : List Value) (hP : o1a M w0 p cs) (hp : e1a p) (hK : e3a M w0) (hM : ∀ g ∈ M, g < w0.heap.size) :
 R0a Tryz.prog 73 #[.agg cs.toArray] w0 fun v w' => v = .int .i64 0 ∧ Below w0.heap.size w0 w' := by
 obtain ⟨Ac, nc, cc, Am, nm, cm, Al, nl, cl, At, nt, ct, rfl, hC, _, hLk, _, _, _, _, _, _, _, _, _⟩ := hP.open_
 have S := St.refl w0
 have hM' : ∀ w' : World, w0.heap.size ≤ w'.heap.size → ∀ g ∈ M, g < w'.heap.size := fun w' h g hg => by have := hM g hg; omega
 have hdis : p.locks.Pairwise fun a b => Value.int .i64 a.cell ≠ .int .i64 b.cell := hp.lockCells.imp fun h e => h (by injection e)
 refine a0a Tryz.func73 rfl Tryz.ntmps73 rfl ?_
 refine wO0 rfl ⟨⟩ (m0a S (by conv => lhs; whnf) rfl ?_)
 intro g1 w1 S1 X1 G1
 refine lO0 rfl ⟨⟩ (W5a (k := 3) S1 rfl ?_)
 intro g8 w8 S8 X8 G8 Mp8
 have hg8 : w0.heap.size ≤ g8 := by have := S1.size; omega
 refine lC S8.k [.o 0] rfl ⟨rfl,⟨⟩⟩ (wL (fun μk D ε w => D = [] ∧ ∃ k : Nat, (k + μk = (p.locks.length)) ∧ (z3a Tryz.prog 3 w g8 (v4a ((p.locks.take k).map fun c => .int .i64 c.cell))) ∧ St [] w0 w [(some g1, 138, [.slice Ac nc cc, .slice Am nm cm, .slice Al nl cl, .slice At nt ct])] ∧ Sl ε [(1, .pointer (some ⟨g1, 0, none⟩)), (3, .map (some g8)), (11, .slice Al nl cl), (12, .int .i64 nl), (13, .int .i64 k)]) (μ := (p.locks.length)) ⟨rfl, 0, by omega, (by simpa [v4a] using Mp8), S8, rfl⟩ ?_)
 rintro μk D ε w ⟨rfl, k, _, Mp8, S, eZ⟩
 refine wK eZ (wB0 rfl ⟨⟩ (fun h14 => ?_) fun h14 => ?_)
 ·obtain ⟨x, b15, p15, _, hxx, hA15, _, hl15, hc15, hr15⟩ := RdS.get (hLk) (k) (by omega)
  obtain ⟨_, _, _, rfl, i115, _, hE15⟩ := d4a.open_ hr15
  have q1 := hp.locks x (d0a hxx)
  have q2 := q1.cell
  have q3 := q2.1
  unfold L2a at q3
  refine lO (S.k.a hc15) [.x b15 p15,.v 0] rfl ⟨⟨rfl,hl15⟩,⟨hA15,by omega⟩,⟨⟩⟩ (h0a S q2c rfl rfl ?_)
  intro g5 w5 S5 X5 G5
  replace Mp8 := Mp8.keep X5 (List.not_mem_nil)
  refine c0a (kk := 0) (vs := [_, _, _, _, _, _]) S5 p4c rfl rfl rfl rfl rfl rfl rfl ?_
  intro w4_3 S4_3 X4_3
  dsimp only [k0a, List.set] at S4_3
  replace Mp8 := Mp8.keep X4_3 (fun hh => by rw [List.mem_singleton] at hh; exact Mp8.ne (S5.blk 0 rfl) hh)
  refine lO S4_3.k [.w 1,.o 0] rfl ⟨rfl,⟨rfl,rfl⟩,⟨⟩⟩ (f0a S4_3 M8a rfl rfl ((show shQ p x.cell = true from decide_eq_true ⟨q3, q2.2.1⟩) ▸ M4a p M _ _ _ (hP.keep (S4_3.keep0 M))) ?_)
  intro w20 S20 X20
  replace Mp8 := Mp8.keep X20 (List.not_mem_nil)
  obtain ⟨c, b28, p28, _, hxc, hA28, _, _, hc28, hr28⟩ := RdS.get (hC) (x.cell.toNat) (by omega)
  obtain ⟨rfl, _, _, _, _⟩ := K2a.open_ hr28
  have q4 := q2.2.2.1
  rw [i9a q3.1 hxc] at q4
  refine lB (S20.k.a hc28) [.o 1,.o 0,.x b28 p28,.f 0 1] rfl ⟨rfl,⟨hA28,by omega⟩,rfl,rfl,⟨⟩⟩ (fun h31 => by exfalso; omega) fun h31 => ?_
  obtain ⟨_, b39, p39, _, hx39, hA39, _, _, hc39, hr39⟩ := RdS.get (hC) (x.cell.toNat) (by omega)
  obtain rfl := Option.some.inj (hxc.symm.trans hx39)
  obtain ⟨rfl, _, _, _, _⟩ := K2a.open_ hr39
  refine lO S20.k [.o 1,.o 0,.x b39 p39] rfl ⟨⟨hA39,by omega⟩,rfl,rfl,⟨⟩⟩ ?_
  refine s0a F2a rfl (v := .bool false) (by have h4 := S20.old (hc39 4 _ rfl); rw [← h5a hxc, q2.2.2.2] at h4; exact h4) rfl ?_
  refine lO S20.k [.o 0] rfl ⟨rfl,⟨⟩⟩ ?_
  have hk47 := E1c i115
  have hnew := W3a hdis hxx
  refine z9a (Go.Maps.int_keyed Tryz.underlying3) Tryz.underlying181 x0b Mp8 rfl rfl hk47 rfl (fun v hv => absurd rfl (L4a hnew _ hv)) (fun _ => ?_)
  refine lO0 rfl ⟨⟩ (h0a S20 x0b rfl rfl ?_)
  intro g6 w6 S6 X6 G6
  replace Mp8 := Mp8.keep X6 (List.not_mem_nil)
  refine c0a (kk := 0) (vs := []) S6 V8b rfl rfl rfl rfl rfl rfl rfl ?_
  intro w7_8 S7_8 X7_8
  dsimp only [k0a, List.set] at S7_8
  replace Mp8 := Mp8.keep X7_8 (fun hh => by rw [List.mem_singleton] at hh; exact Mp8.ne (S6.blk 0 rfl) hh)
  refine lO S7_8.k [.o 1,.o 2] rfl ⟨rfl,rfl,⟨⟩⟩ ?_
  refine f0a S7_8 V2a rfl rfl ((show decide (0 ≤ x.module_ ∧ x.module_ < (nm : Int)) = true from decide_eq_true (by have := q1.mod; unfold L2a at this; omega)) ▸ n2a _ _ _) ?_
  intro w58 S58 X58
  replace Mp8 := Mp8.keep X58 (List.not_mem_nil)
  refine lO S58.k [.o 1] rfl ⟨rfl,⟨⟩⟩ (i1a b4b (vs := []) (cs := []) rfl rfl rfl rfl ?_)
  refine J1b (key := .int .i64 x.cell) (v := .agg #[]) S58 (Go.Maps.int_keyed Tryz.underlying3) Tryz.underlying181 Mp8 rfl rfl rfl hk47 (L4a hnew) (.inl hg8) ?_
  intro wm Sm Xm Mm
  clear Mp8
  have Mp8 := Mm
  refine lO Sm.k [.w 2,.o 1,.w 2] rfl ⟨⟨rfl,rfl⟩,rfl,⟨rfl,rfl⟩,⟨⟩⟩ (m2a rfl rfl rfl ?_)
  refine f0a Sm X8a rfl rfl (J8a p x.inv M _ _ _ false _ (shQ p) (hP.keep (Sm.keep0 M)) (RdE.keep (Sm.keep0 M) _ _ hE15) (u3a (hP.keep (Sm.keep0 M))) (hK.keep (Sm.keep0 M)) (hM' _ Sm.size) q1.inv.2.1 q1.inv.1 (E5b hp q1.inv.1 q1.inv.2.2)) ?_
  intro w70 S70 X70
  replace Mp8 := Mp8.keep X70 (List.not_mem_nil)
  refine lP0 rfl ⟨by omega,⟨⟩⟩ ?_
  refine ⟨μk - 1, by omega, rfl, (k + 1), (by omega), ((by rw [g1a hxx, List.map_append, List.map_singleton, z7a]; exact Mp8)), S70.tail.tail, rfl⟩
 exact lT rfl ⟨⟩ rfl ⟨rfl, S.fin⟩
end Go.Proofs.YtjjmdcnmeommbaaGreatDoor
namespace Go.Fw
open Go.RowKit
section
variable {P : Program} {r : Option Nat} {N : Nat} {l : List Oper} {D : List Deferred} {C : World → Prop} {K : List Deferred → Env → World → Prop}
def D3b (l : List Oper) (pur : Nat → Bool) (m : Nat) : Bool :=
 X4a l && ((List.range l.length).all fun i => (n1a l i).all fun j => decide (j < i)) && ((List.range m).all fun i => (List.range i).all fun j => (o4a l i).contains j || P8a l pur j i) && ((List.range m).all fun j => (o4a l m).contains j) && decide (l.length = m + 1)
abbrev H8c {M : List Nat} {w0 w : World} {L : List Ent} (_ : St M w0 w L) : World → Prop := Cl M w0 w L
def j7a (m : Nat) (f : Nat → Bool) : List Nat := (List.range m).filter fun i => !f i
theorem E8a {m : Nat} (f : Nat → Bool) {i : Nat} (hi : i < m) (hf : f i = false) : ∃ pre post, j7a m f = pre ++ i :: post ∧ j7a m (fun j => f j || j == i) = pre ++ post ∧ ∀ j ∈ pre, j < i ∧ f j = false := by
 have hr : List.range m = List.range i ++ i :: (List.range' (i + 1) (m - (i + 1))) := by
  have h1 : m = i + (m - i) := by omega
  have h2 : m - i = (m - (i + 1)) + 1 := by omega
  rw [List.range_eq_range', List.range_eq_range', show List.range' 0 m = List.range' 0 (i + ((m - (i + 1)) + 1)) by rw [← h2, ← h1], ← List.range'_append_1]
  simp [List.range'_succ]
 refine ⟨(List.range i).filter fun j => !f j, (List.range' (i + 1) (m - (i + 1))).filter fun j => !f j, ?_, ?_, ?_⟩
 ·unfold j7a; rw [hr, List.filter_append, List.filter_cons]; simp [hf]
 ·unfold j7a; rw [hr, List.filter_append, List.filter_cons]
  simp only [beq_self_eq_true, Bool.or_true, Bool.not_true, Bool.false_eq_true, if_false]
  congr 1
  ·apply List.filter_congr; intro j hj; have := List.mem_range.1 hj; have : (j == i) = false := by simp; omega
   simp [this]
  ·apply List.filter_congr; intro j hj; have := List.mem_range'.1 hj; have : (j == i) = false := by simp; omega
   simp [this]
 ·intro j hj; rw [List.mem_filter] at hj; exact ⟨List.mem_range.1 hj.1, by simpa using hj.2⟩
theorem R5b {id : Nat} {n t : List Deferred → Env → World → Prop} {b : Nat → List Deferred → Env → World → Prop} {e : Env} {w : World} (hm : P.follows .mixedOrders = true) (pur : Nat → Bool) (ix : List Nat)
 (m : Nat) (hok : D3b l pur m = true) (hix : (List.range m == ix) = true) (C : World → Prop) (ol : Oper) (hol : l[m]? = some ol)
 (h : WM P r N l C pur (fun D e w => WL P r N l.toArray [ol] (fun D' e' w' => D' = D ∧ n D e' w') D e w) D ix e w.drew) : W P r N (.region id l.toArray true) ⟨n, b, t⟩ D e w := by
 obtain rfl : List.range m = ix := eq_of_beq hix
 generalize hKd : (fun (D : List Deferred) (e : Env) (w : World) => WL P r N l.toArray [ol] (fun D' e' w' => D' = D ∧ n D e' w') D e w) = K' at h
 unfold D3b at hok
 simp only [Bool.and_eq_true, decide_eq_true_eq] at hok
 obtain ⟨⟨⟨⟨hpl, hac⟩, hin⟩, hlast⟩, _⟩ := hok
 have hlw : ∀ j, j < m → j ∈ o4a l m := fun j hj => by
  have := List.all_eq_true.1 hlast j (List.mem_range.2 hj)
  simpa using this
 have hz : (∀ i, N ≤ i → e i = undef) → W P r N (.region id l.toArray true) ⟨n, b, t⟩ D e w := by
  intro hz
  refine Q4b hm hac (fun f e w => (∀ i, N ≤ i → e i = undef) ∧ (∀ i, f i = true → ∀ j ∈ n1a l i, f j = true) ∧ ((f m = false ∧ WM P r N l C pur K' D (j7a m f) e w) ∨ (f m = true ∧ n D e w))) ⟨hz, by simp, .inl ⟨rfl, ?_⟩⟩ ?_ ?_
  ·have : j7a m (fun _ => false) = List.range m := by unfold j7a; simp
   rw [this]; exact h
  ·rintro f e w i o ⟨hz, hcl, hM⟩ ho hfi hpr
   have hil0 : i < l.length := (List.getElem?_eq_some_iff.1 ho).1
   have hcl' : ∀ k, (f k || k == i) = true → ∀ j ∈ n1a l k, (f j || j == i) = true := by
    intro k hk j hj
    simp only [Bool.or_eq_true, beq_iff_eq] at hk ⊢
    rcases hk with hk | rfl
    ·exact .inl (hcl k hk j hj)
    ·exact .inl (hpr j hj)
   rcases hM with ⟨hfm, hM⟩ | ⟨hfm, -⟩
   rotate_left
   ·have := B3a hcl l.length (n1a l m) (hcl m hfm) i (hlw i (by
     rcases Nat.lt_or_ge i m with h | h
     ·exact h
     ·have : i = m := by omega
      subst this; rw [hfi] at hfm; cases hfm))
    rw [hfi] at this; cases this
   by_cases him : i = m
   ·subst him
    obtain rfl : ol = o := Option.some.inj (hol.symm.trans ho)
    have hall : ∀ j, j < i → f j = true := fun j hj => B3a hcl _ _ hpr j (hlw j hj)
    have hrem : j7a i f = [] := by
     unfold j7a; rw [List.filter_eq_nil_iff]; intro j hj; simp [hall j (List.mem_range.1 hj)]
    rw [hrem] at hM
    have h4 := hM.2
    rw [← hKd] at h4
    clear hM h hKd
    unfold WL at *
    refine fun a Q hs hD he hK => h4 a Q hs hD he (fun a' w' hs' hh => hK a' w' hs' ?_)
    refine ⟨hh.1, fun j hj => ?_, hcl', .inr ⟨by simp, hh.2⟩⟩
    simp only [W0a, Array.getD_eq_getD_getElem?]; rw [Array.getElem?_eq_none (by omega)]; rfl
   have hil : i < m := by omega
   have hfm' : (f m || m == i) = false := by simp [hfm]; omega
   obtain ⟨pre, _, h1, h2, h3⟩ := E8a (m := m) f hil hfi
   rw [h1] at hM
   have hwt : ∀ j ∈ o4a l i, f j = true := B3a hcl _ _ hpr
   obtain ⟨o', _, ho', hd, hN, h4⟩ := WM.first hpl pre e w (fun j hj => by
    have := List.all_eq_true.1 (List.all_eq_true.1 hin i (List.mem_range.2 hil)) j (List.mem_range.2 (h3 j hj).1)
    simp only [Bool.or_eq_true, List.contains_eq_mem, decide_eq_true_eq] at this
    rcases this with h | h
    ·have := hwt j h; rw [(h3 j hj).2] at this; cases this
    ·exact h) hz hM
   obtain rfl : o' = o := Option.some.inj (ho'.symm.trans ho)
   rcases h4 with ⟨hpi, v, hv, h4⟩ | ⟨hpi, h4⟩
   ·have hCw := hM.inC
    rcases hv with ⟨hw, hv⟩ | ⟨hw, rfl⟩
    ·unfold WL; intro a Q hs hD he hK
     simp only [wpListIn]
     have hw' : Region.wanted o' (yielded l.toArray a.tmps) = true := by rw [s1a, he]; exact hw
     simp only [hw', if_true]
     refine ⟨z0a _ _ _, ?_⟩
     rw [Oper.semAt_eq _ _ _ (E0a hpl ho).2, k2a, he, hv w hCw, Oper.uponIn_value]
     refine hK _ _ (by simp [Act.put, hd, hs]) ⟨by simp [Act.put, hd, hD], ?_⟩
     rw [hd, h1a v (by rw [hs]; exact hN), he]
     exact ⟨W1a hN hz, hcl', .inl ⟨hfm', by rw [h2]; exact h4⟩⟩
    ·unfold WL; intro a Q hs hD he hK
     simp only [wpListIn]
     have hw' : Region.wanted o' (yielded l.toArray a.tmps) = false := by rw [s1a, he]; exact hw
     simp only [hw']
     refine ⟨z0a _ _ _, ?_⟩
     refine hK _ _ (by simp [Act.put, hd, hs]) ⟨by simp [Act.put, hd, hD], ?_⟩
     rw [hd, h1a undef (by rw [hs]; exact hN), he]
     exact ⟨W1a hN hz, hcl', .inl ⟨hfm', by rw [h2]; exact h4⟩⟩
   ·unfold WL at *
    refine fun a Q hs hD he hK => h4 a Q hs hD he (fun a' w' hs' hh => hK a' w' hs' ?_)
    obtain ⟨hDD, v, hv, h5⟩ := hh
    exact ⟨hDD, by rw [hv]; exact W1a hN hz, hcl', .inl ⟨hfm', by rw [h2]; exact h5⟩⟩
  ·rintro f e w ⟨hz, hcl, hM⟩ hall
   rcases hM with ⟨hfm, -⟩ | ⟨-, hM⟩
   ·have := hall m (by omega); rw [hfm] at this; cases this
   ·exact hM
 unfold W at *
 intro a hs hd he
 refine hz (fun i hi => ?_) a hs hd he
 rw [← he]; simp only [W0a, Array.getD_eq_getD_getElem?]; rw [Array.getElem?_eq_none (by omega)]; rfl
end
end Go.Fw
namespace Go.Fw
open Go.RowKit
theorem RdS.dropped {α : Type} {M : List Nat} {w : World} {size b o n c : Nat} {R : List Value → α → Prop} {l : List α} (h : RdS M w size R (.slice (some ⟨b, o, none⟩) n c) l) (lo : Nat) (hlo : lo ≤ n) :
 RdS M w size R (.slice (some (if c = lo then ⟨b, o, none⟩ else ⟨b, o + lo * size, none⟩)) (n - lo) (c - lo)) (l.drop lo) := by
 obtain ⟨_, _, _, _, h5⟩ := h.at
 refine ⟨_, _, _, rfl, by simp; omega, by omega, by omega, by omega, fun h0 => ?_⟩
 obtain ⟨_, _, hA, hb, hel⟩ := h5 (by omega)
 cases hA
 rw [if_neg (by omega)]
 refine ⟨b, o + lo * size, rfl, hb, fun i x hx => ?_⟩
 rw [List.getElem?_drop] at hx
 obtain ⟨cs, h6, h7, h8⟩ := hel _ x hx
 refine ⟨cs, h6, ?_, h8⟩
 rw [Nat.add_mul, ← Nat.add_assoc] at h7
 exact h7
end Go.Fw
namespace Go.Proofs.YtjjmdcnmeommbaaGreatDoor
open Go.Fw Go.RowKit
theorem s7a (s : p1a) (M : List Nat) (w0 : World) (ss : List Value) (vf : Value) (q : Int → Bool) (hS : x1a M w0 ss s) (hp : p2a Tryz.prog M w0 vf q) (hK : e3a M w0) (hM : ∀ g ∈ M, g < w0.heap.size)
 (hg : X2a s.guard q = true) (hs : ∀ a ∈ s.set, X2a a.to q = true) :
 R0a Tryz.prog 208 #[.agg ss.toArray, vf] w0 fun v w' => v = .bool true ∧ Below w0.heap.size w0 w' := by
 obtain ⟨Ag, ng, cg, As, ns, cs', rfl, ⟨_, _, _, _, _⟩, hG, hSet, _, _⟩ := hS.open_
 obtain ⟨f, first, caps, rfl, _, _⟩ := id hp
 have S := St.refl w0
 have hM' : ∀ w' : World, w0.heap.size ≤ w'.heap.size → ∀ g ∈ M, g < w'.heap.size := fun w' h g hg => by have := hM g hg; omega
 refine a0a Tryz.func208 rfl Tryz.ntmps208 rfl ?_
 refine wO0 rfl ⟨⟩ (m0a S (by conv => lhs; whnf) rfl ?_)
 intro g2 w2 S2 X2 G2
 refine lOn 8 S2.k [.o 0] rfl ⟨rfl,⟨⟩⟩ (B0a (by conv => lhs; whnf) rfl ?_)
 refine f0a S2 Q7a rfl rfl (hg ▸ h6a _ M _ _ _ q (RdE.keep (S2.keep0 M) _ _ hG) (hp.keep (S2.keep0 M)) (hK.keep (S2.keep0 M)) (hM' _ S2.size)) ?_
 intro w10 S10 X10
 refine lC S10.k [.o 0] rfl ⟨rfl,⟨⟩⟩ (wL (fun μk D ε w => D = [] ∧ ∃ k : Nat, (k + μk = (s.set.length)) ∧ St [] w0 w [(some g2, 88, [.int .i64 s.kind, .int .i64 s.frm, .int .i64 s.to, .int .i64 s.guard.op, .int .i64 s.guard.w, .int .i64 s.guard.n, .slice Ag ng cg, .slice As ns cs', .bool s.release, .int .i64 s.target, .int .i64 s.module_])] ∧ Sl ε [(1, .func (.func f) first caps), (13, .slice As ns cs'), (14, .int .i64 ns), (15, .int .i64 k)]) (μ := (s.set.length)) ⟨rfl, 0, by omega, S10, rfl⟩ ?_)
 rintro μk D ε w ⟨rfl, k, _, S, eZ⟩
 refine wK eZ (wB0 rfl ⟨⟩ (fun h16 => ?_) fun h16 => ?_)
 ·obtain ⟨a, b17, p17, _, hxa, hA17, _, hl17, hc17, hr17⟩ := RdS.get (hSet) (k) (by omega)
  obtain ⟨_, _, _, rfl, _, hE17⟩ := Q0a.open_ hr17
  refine lO (S.k.a hc17) [.x b17 p17,.v 0] rfl ⟨⟨rfl,hl17⟩,⟨hA17,by omega⟩,⟨⟩⟩ (h0a S K2b rfl rfl ?_)
  intro g6 w6 S6 X6 G6
  refine c0a (kk := 0) (vs := [_, _, _, _, _]) S6 C3b rfl rfl rfl rfl rfl rfl rfl ?_
  intro w5_3 S5_3 X5_3
  dsimp only [k0a, List.set] at S5_3
  refine lO S5_3.k [.o 0] rfl ⟨rfl,⟨⟩⟩ (f0a S5_3 Q7a rfl rfl ((hs a (d0a hxa)) ▸ h6a _ M _ _ _ q (RdE.keep (S5_3.keep0 M) _ _ hE17) (hp.keep (S5_3.keep0 M)) (hK.keep (S5_3.keep0 M)) (hM' _ S5_3.size)) ?_)
  intro w22 S22 X22
  refine lP0 rfl ⟨by omega,⟨⟩⟩ ⟨μk - 1, by omega, rfl, (k + 1), (by omega), S22.tail, rfl⟩
 exact lT rfl ⟨⟩ rfl ⟨rfl, S.fin⟩
theorem F9a (l : List N1a) (M : List Nat) (w0 : World) (v vf : Value) (q : Int → Bool) (hS : s5c M w0 v l) (hp : p2a Tryz.prog M w0 vf q) (hs : ∀ a ∈ l, q a.cell = true) :
 R0a Tryz.prog 209 #[v, vf] w0 fun v w' => v = .bool true ∧ Below w0.heap.size w0 w' := by
 obtain ⟨As, ns, cs', rfl⟩ := hS.form
 obtain ⟨_, _, _⟩ := hS.len
 obtain ⟨f, first, caps, rfl, _, _⟩ := id hp
 have S := St.refl w0
 refine a0a Tryz.func209 rfl Tryz.ntmps209 rfl ?_
 refine wC0 rfl ⟨⟩ (wL (fun μk D ε w => D = [] ∧ ∃ k : Nat, (k + μk = (l.length)) ∧ St [] w0 w [] ∧ Sl ε [(1, .func (.func f) first caps), (7, .slice As ns cs'), (8, .int .i64 ns), (9, .int .i64 k)]) (μ := (l.length)) ⟨rfl, 0, by omega, S, rfl⟩ ?_)
 rintro μk D ε w ⟨rfl, k, _, S, eZ⟩
 refine wK eZ (wB0 rfl ⟨⟩ (fun h10 => ?_) fun h10 => ?_)
 ·obtain ⟨a, b11, p11, _, hxa, hA11, _, hl11, hc11, hr11⟩ := RdS.get (hS) (k) (by omega)
  obtain ⟨_, _, _, rfl, ia11, _⟩ := Q0a.open_ hr11
  refine lO (S.k.a hc11) [.x b11 p11,.v 0] rfl ⟨⟨rfl,hl11⟩,⟨hA11,by omega⟩,⟨⟩⟩ (h0a S K2b rfl rfl ?_)
  intro g6 w6 S6 X6 G6
  first | refine c0a (kk := 0) (vs := [_, _, _, _, _]) S6 C3b rfl rfl rfl rfl rfl rfl rfl ?_
  intro w3_3 S3_3 X3_3
  dsimp only [k0a, List.set] at S3_3
  refine lO S3_3.k [.o 0] rfl ⟨rfl,⟨⟩⟩ (A8a S3_3 (hp.keep (S3_3.keep0 M)) rfl rfl (ia11) (hs a (d0a hxa)) rfl (fun w16 S16 X16 => ?_))
  refine lP0 rfl ⟨by omega,⟨⟩⟩ ⟨μk - 1, by omega, rfl, (k + 1), (by omega), S16.tail, rfl⟩
 exact lT rfl ⟨⟩ rfl ⟨rfl, S.fin⟩
theorem m5c (e : E) (M : List Nat) (w0 : World) (cs : List Value) (hR : RdE M w0 e cs) (he : e = ⟨1, 1, 1, []⟩) : R0a Tryz.prog 214 #[.agg cs.toArray] w0 fun v w' => v = .bool true ∧ Below w0.heap.size w0 w' := by
 obtain ⟨_, n, _, rfl, _, _, _, _, _⟩ := hR.cells
 have e1 : e.op = 1 := by rw [he]
 have e2 : e.w = 1 := by rw [he]
 have e3 : e.n = 1 := by rw [he]
 have e4 : e.kids.length = 0 := by rw [he]; rfl
 have S := St.refl w0
 refine a0a Tryz.func214 rfl Tryz.ntmps214 rfl ?_
 refine wO0 rfl ⟨⟩ (m0a S (by conv => lhs; whnf) rfl ?_)
 intro g1 w1 S1 X1 G1
 refine lB S1.k [.o 0] rfl ⟨rfl,⟨⟩⟩ (fun h5 => ?_) (fun h5 => by exfalso; omega)
 refine lB S1.k [.o 0] rfl ⟨rfl,⟨⟩⟩ (fun h9 => ?_) (fun h9 => by exfalso; omega)
 refine lB S1.k [.o 0] rfl ⟨rfl,⟨⟩⟩ (fun h14 => ?_) (fun h14 => by exfalso; omega)
 refine lB S1.k [.o 0] rfl ⟨rfl,⟨⟩⟩ (fun h20 => ?_) (fun h20 => by exfalso; omega)
 exact lT rfl ⟨⟩ rfl ⟨rfl, S1.fin⟩
theorem t5b (s : p1a) (M : List Nat) (w0 : World) (ss : List Value) (hS : x1a M w0 ss s) (hg : s.guard = ⟨1, 1, 1, []⟩) (hs : s.set = []) :
 R0a Tryz.prog 212 #[.agg ss.toArray] w0 fun v w' => v = .bool true ∧ Below w0.heap.size w0 w' := by
 obtain ⟨_, _, _, _, _, _, rfl, ⟨_, _, _, _, _⟩, hG, _, hns, _⟩ := hS.open_
 have S := St.refl w0
 rw [hs] at hns
 simp only [List.length_nil] at hns
 refine a0a Tryz.func212 rfl Tryz.ntmps212 rfl ?_
 refine wO0 rfl ⟨⟩ (m0a S (by conv => lhs; whnf) rfl ?_)
 intro g1 w1 S1 X1 G1
 refine lO S1.k [.o 0] rfl ⟨rfl,⟨⟩⟩ (f0a S1 h4c rfl rfl (m5c _ M _ _ (RdE.keep (S1.keep0 M) _ _ hG) hg) ?_)
 intro w5 S5 X5
 refine lB S5.k [.o 0] rfl ⟨rfl,⟨⟩⟩ (fun h10 => ?_) (fun h10 => by exfalso; omega)
 exact lT rfl ⟨⟩ rfl ⟨rfl, S5.fin⟩
theorem b0c {p : e0a} {s : p1a} {t : Int} {z : Bool} (h : ∀ (i : Nat) (hi : i < s.set.length), 0 < i ∨ s.kind ≠ 2 → A5a p.cells (s.set[i]).to z t) {k : Nat} {a : N1a} (ha : s.set[k + 1]? = some a) : A5a p.cells a.to z t := by
 obtain ⟨h1, rfl⟩ := List.getElem?_eq_some_iff.1 ha
 exact h _ h1 (.inl (by omega))
structure m7a (p : e0a) (t : Nat) (x : U0a) (s : p1a) (M : List Nat) (w : World) (cs ss : List Value) : Prop where
 prog : o1a M w p cs
 step : x1a M w ss s
 ok : e1a p
 sok : s5a p t x.points s
 masks : e3a M w
 low : ∀ g ∈ M, g < w.heap.size
theorem H2b (p : e0a) (t : Nat) (x : U0a) (s : p1a) (M : List Nat) (w0 : World) (cs ss : List Value) (h : m7a p t x s M w0 cs ss) (hk : s.kind = 1) :
 R0a Tryz.prog 195 #[.agg cs.toArray, .int .i64 t, .agg ss.toArray] w0 fun v w' => v = .bool true ∧ Below w0.heap.size w0 w' := by
 obtain ⟨hP, hS, hp, hso, hK, hM⟩ := h
 obtain ⟨_, _, _, _, _, _, _, _, _, _, _, _, rfl, _, _, _, _, _, _, _, _, _, _, _, _⟩ := hP.open_
 obtain ⟨_, _, _, _, _, _, rfl, ⟨_, _, _, _, _⟩, _, hSet, _, _⟩ := hS.open_
 have S := St.refl w0
 have hM' : ∀ w' : World, w0.heap.size ≤ w'.heap.size → ∀ g ∈ M, g < w'.heap.size := fun w' h g hg => by have := hM g hg; omega
 have h4 : decide (s.kind = 4) = false := decide_eq_false (by omega)
 have hvg : X2a s.guard (z8a p t) = true := y7a hp hso.guard.1 (h4 ▸ hso.row.guard)
 have hvs : ∀ a ∈ s.set, X2a a.to (z8a p t) = true := fun a ha => by
  obtain ⟨i, hi, rfl⟩ := List.getElem_of_mem ha
  exact y7a hp (hso.set _ ha).2.1 (h4 ▸ hso.row.vals i hi (.inr (by omega)))
 have hcs : ∀ a ∈ s.set, z8a p t a.cell = true := fun a ha => decide_eq_true ⟨(hso.set a ha).1, hso.row.k1 hk a ha⟩
 refine a0a Tryz.func195 rfl Tryz.ntmps195 rfl ?_
 refine wO0 rfl ⟨⟩ (m0a S (by conv => lhs; whnf) rfl ?_)
 intro g3 w3 S3 X3 G3
 refine m0a S3 (by conv => lhs; whnf) rfl ?_
 intro g5 w5 S5 X5 G5
 refine lO S5.k [.w 1] rfl ⟨⟨rfl,by rfl⟩,⟨⟩⟩ (M0a S5 G1b rfl rfl (E1b p t M _ _ (hP.keep (S5.keep0 M)) (hM' _ S5.size)) ?_)
 rintro v10 w10 hq S10 X10
 obtain ⟨_, _, _, rfl, _, _⟩ := id hq
 refine lO S10.k [.w 0] rfl ⟨⟨rfl,by rfl⟩,⟨⟩⟩ (f0a S10 b5b rfl rfl (s7a s M _ _ _ (z8a p t) (x1a.keep (S10.keep0 M) _ _ hS) hq (hK.keep (S10.keep0 M)) (hM' _ S10.size) hvg hvs) ?_)
 intro w13 S13 X13
 replace hq := hq.keep (X13.of_nil)
 refine lO S13.k [.o 0] rfl ⟨rfl,⟨⟩⟩ (f0a S13 G4b rfl rfl (F9a s.set M _ _ _ (z8a p t) (RdS.keepW hSet (S13.keep0 M) (Q0a.keep (S13.keep0 M))) hq hcs) ?_)
 intro w18 S18 X18
 exact lT rfl ⟨⟩ rfl ⟨rfl, S18.fin⟩
theorem b2b (p : e0a) (t : Nat) (x : U0a) (s : p1a) (M : List Nat) (w0 : World) (cs ss : List Value) (h : m7a p t x s M w0 cs ss) (hk : s.kind = 4) :
 R0a Tryz.prog 198 #[.agg cs.toArray, .int .i64 t, .agg ss.toArray] w0 fun v w' => v = .bool true ∧ Below w0.heap.size w0 w' := by
 obtain ⟨hP, hS, hp, hso, hK, hM⟩ := h
 obtain ⟨_, _, _, _, _, _, _, _, _, _, _, _, rfl, _, _, _, _, _, _, _, _, _, _, _, _⟩ := hP.open_
 obtain ⟨_, _, _, _, _, _, rfl, ⟨_, _, _, _, _⟩, _, hSet, _, _⟩ := hS.open_
 have S := St.refl w0
 have hM' : ∀ w' : World, w0.heap.size ≤ w'.heap.size → ∀ g ∈ M, g < w'.heap.size := fun w' h g hg => by have := hM g hg; omega
 have h4 : decide (s.kind = 4) = true := decide_eq_true (by omega)
 have hvg : X2a s.guard (Y0b p t) = true := v1b hp hso.guard.1 (h4 ▸ hso.row.guard)
 have hvs : ∀ a ∈ s.set, X2a a.to (Y0b p t) = true := fun a ha => by
  obtain ⟨i, hi, rfl⟩ := List.getElem_of_mem ha
  exact v1b hp (hso.set _ ha).2.1 (h4 ▸ hso.row.vals i hi (.inr (by omega)))
 have hcs : ∀ a ∈ s.set, Y0b p t a.cell = true := fun a ha => by
  unfold Y0b shQ z8a
  rw [Bool.or_eq_true, decide_eq_true_eq, decide_eq_true_eq]
  rcases hso.row.cells a ha with h | h
  ·exact .inr ⟨(hso.set a ha).1, h⟩
  ·exact .inl ⟨(hso.set a ha).1, h⟩
 refine a0a Tryz.func198 rfl Tryz.ntmps198 rfl ?_
 refine wO0 rfl ⟨⟩ (m0a S (by conv => lhs; whnf) rfl ?_)
 intro g3 w3 S3 X3 G3
 refine m0a S3 (by conv => lhs; whnf) rfl ?_
 intro g5 w5 S5 X5 G5
 refine lO S5.k [.w 1] rfl ⟨⟨rfl,by rfl⟩,⟨⟩⟩ (M0a S5 d4b rfl rfl (v6a p t M _ _ (hP.keep (S5.keep0 M)) (hM' _ S5.size)) ?_)
 rintro v10 w10 hq S10 X10
 obtain ⟨_, _, _, rfl, _, _⟩ := id hq
 refine lO S10.k [.w 0] rfl ⟨⟨rfl,by rfl⟩,⟨⟩⟩ (f0a S10 b5b rfl rfl (s7a s M _ _ _ (Y0b p t) (x1a.keep (S10.keep0 M) _ _ hS) hq (hK.keep (S10.keep0 M)) (hM' _ S10.size) hvg hvs) ?_)
 intro w13 S13 X13
 replace hq := hq.keep (X13.of_nil)
 refine lO S13.k [.o 0] rfl ⟨rfl,⟨⟩⟩ (f0a S13 G4b rfl rfl (F9a s.set M _ _ _ (Y0b p t) (RdS.keepW hSet (S13.keep0 M) (Q0a.keep (S13.keep0 M))) hq hcs) ?_)
 intro w18 S18 X18
 exact lT rfl ⟨⟩ rfl ⟨rfl, S18.fin⟩
theorem A3b (p : e0a) (t : Nat) (x : U0a) (s : p1a) (M : List Nat) (w0 : World) (cs ss : List Value) (h : m7a p t x s M w0 cs ss) (hk : 5 ≤ s.kind) :
 R0a Tryz.prog 199 #[.agg cs.toArray, .int .i64 t, .agg ss.toArray] w0 fun v w' => v = .bool true ∧ Below w0.heap.size w0 w' := by
 obtain ⟨hP, hS, _, hso, _, _⟩ := h
 obtain ⟨_, _, _, _, _, _, _, _, _, _, _, _, rfl, _, _, _, _, _, _, _, _, _, _, _, _⟩ := hP.open_
 obtain ⟨_, _, _, _, _, _, rfl, ⟨_, _, _, _, _⟩, _, _, _, _⟩ := hS.open_
 have S := St.refl w0
 refine a0a Tryz.func199 rfl Tryz.ntmps199 rfl ?_
 refine wO0 rfl ⟨⟩ (m0a S (by conv => lhs; whnf) rfl ?_)
 intro g3 w3 S3 X3 G3
 refine m0a S3 (by conv => lhs; whnf) rfl ?_
 intro g5 w5 S5 X5 G5
 refine lO S5.k [.w 0] rfl ⟨⟨rfl,by rfl⟩,⟨⟩⟩ (f0a S5 D7b rfl rfl (t5b s M _ _ (x1a.keep (S5.keep0 M) _ _ hS) (hso.row.k5 hk).2 (hso.row.k5 hk).1) ?_)
 intro w8 S8 X8
 exact lT rfl ⟨⟩ rfl ⟨rfl, S8.fin⟩
theorem g9a (p : e0a) (t : Nat) (x : U0a) (s : p1a) (M : List Nat) (w0 : World) (cs ss : List Value) (h : m7a p t x s M w0 cs ss) (hk : 6 ≤ s.kind) :
 R0a Tryz.prog 201 #[.agg cs.toArray, .int .i64 t, .agg ss.toArray] w0 fun v w' => v = .bool true ∧ Below w0.heap.size w0 w' := by
 obtain ⟨hP, hS, _, hso, _, _⟩ := h
 obtain ⟨_, _, _, _, _, _, _, _, _, _, nt, _, rfl, _, _, _, _, _, _, _, _, _, _, _, _⟩ := hP.open_
 obtain ⟨_, _, _, _, _, _, rfl, ⟨_, _, _, _, _⟩, _, _, _, _⟩ := hS.open_
 have S := St.refl w0
 have h6 := hso.row.k6 hk
 have h61 := h6.1
 have h62 := h6.2
 unfold L2a at h61
 refine a0a Tryz.func201 rfl Tryz.ntmps201 rfl ?_
 refine wO0 rfl ⟨⟩ (m0a S (by conv => lhs; whnf) rfl ?_)
 intro g3 w3 S3 X3 G3
 refine m0a S3 (by conv => lhs; whnf) rfl ?_
 intro g5 w5 S5 X5 G5
 refine lO S5.k [.w 0] rfl ⟨⟨rfl,by rfl⟩,⟨⟩⟩ (f0a S5 D7b rfl rfl (t5b s M _ _ (x1a.keep (S5.keep0 M) _ _ hS) (hso.row.k5 (by omega)).2 (hso.row.k5 (by omega)).1) ?_)
 intro w8 S8 X8
 refine lB S8.k [.o 0] rfl ⟨rfl,⟨⟩⟩ (fun h13 => ?_) (fun h13 => by exfalso; omega)
 refine lO S8.k [.o 0,.o 1] rfl ⟨rfl,rfl,⟨⟩⟩ (f0a S8 V2a rfl rfl ((show decide (0 ≤ s.target ∧ s.target < (nt : Int)) = true from decide_eq_true (by omega)) ▸ n2a _ _ _) ?_)
 intro w22 S22 X22
 exact lT rfl ⟨⟩ rfl ⟨rfl, S22.fin⟩
theorem g3b (p : e0a) (t : Nat) (x : U0a) (s : p1a) (M : List Nat) (w0 : World) (cs ss : List Value) (h : m7a p t x s M w0 cs ss) (hk : s.kind = 6) :
 R0a Tryz.prog 200 #[.agg cs.toArray, .int .i64 t, .agg ss.toArray] w0 fun v w' => v = .bool true ∧ Below w0.heap.size w0 w' := by
 have h0 := h
 obtain ⟨hP, hS, hp, hso, hK, hM⟩ := h
 obtain ⟨_, _, _, _, _, _, _, _, _, _, _, _, rfl, _, _, _, hTh, _, _, _, _, _, _, _, _⟩ := hP.open_
 obtain ⟨_, _, _, _, _, _, rfl, ⟨_, _, _, _, _⟩, _, _, _, _⟩ := hS.open_
 have S := St.refl w0
 have hM' : ∀ w' : World, w0.heap.size ≤ w'.heap.size → ∀ g ∈ M, g < w'.heap.size := fun w' h g hg => by have := hM g hg; omega
 have h6 := hso.row.k6 (by omega)
 have h61 := h6.1
 unfold L2a at h61
 refine a0a Tryz.func200 rfl Tryz.ntmps200 rfl ?_
 refine wO0 rfl ⟨⟩ (m0a S (by conv => lhs; whnf) rfl ?_)
 intro g3 w3 S3 X3 G3
 refine m0a S3 (by conv => lhs; whnf) rfl ?_
 intro g5 w5 S5 X5 G5
 refine lO S5.k [.w 1,.w 0] rfl ⟨⟨rfl,by rfl⟩,⟨rfl,by rfl⟩,⟨⟩⟩ (f0a S5 R7b rfl rfl (g9a p t x s M _ _ _ ⟨hP.keep (S5.keep0 M), x1a.keep (S5.keep0 M) _ _ hS, hp, hso, hK.keep (S5.keep0 M), hM' _ S5.size⟩ (by omega)) ?_)
 intro w10 S10 X10
 obtain ⟨u, b17, p17, _, hxu, hA17, _, _, hc17, hr17⟩ := RdS.get (hTh) (s.target.toNat) (by omega)
 obtain ⟨_, _, _, _, _, _, _, _, _, _, _, _, rfl, _, _, _, _, _, _, _, _, _, _, _, _, _⟩ := I0a.open_ hr17
 refine lO S10.k [.o 1,.o 0,.x b17 p17] rfl ⟨⟨hA17,by omega⟩,rfl,rfl,⟨⟩⟩ ?_
 refine s0a F2a rfl (v := .bool true) (by have h4 := S10.old (hc17 6 _ rfl); rw [hso.row.k7 hk u hxu] at h4; exact h4) rfl ?_
 exact lT rfl ⟨⟩ rfl ⟨rfl, S10.fin⟩
theorem g4b (p : e0a) (t : Nat) (x : U0a) (s : p1a) (M : List Nat) (w0 : World) (cs ss : List Value) (h : m7a p t x s M w0 cs ss) (hk : s.kind = 2) :
 R0a Tryz.prog 196 #[.agg cs.toArray, .int .i64 t, .agg ss.toArray] w0 fun v w' => v = .bool true ∧ Below w0.heap.size w0 w' := by
 obtain ⟨hP, hS, hp, hso, hK, hM⟩ := h
 obtain ⟨Ac, nc, cc, Am, nm, cm, Al, nl, cl, At, nt, ct, rfl, _, _, _, _, _, _, _, _, _, _, _, _⟩ := hP.open_
 obtain ⟨Ag, ng, cg, _, ns, cs', rfl, ⟨_, _, _, _, _⟩, hG, hSet, _, _⟩ := hS.open_
 have S := St.refl w0
 have hM' : ∀ w' : World, w0.heap.size ≤ w'.heap.size → ∀ g ∈ M, g < w'.heap.size := fun w' h g hg => by have := hM g hg; omega
 have h4 : decide (s.kind = 4) = false := decide_eq_false (by omega)
 have hvg : X2a s.guard (z8a p t) = true := y7a hp hso.guard.1 (h4 ▸ hso.row.guard)
 obtain ⟨a0, l, hset, ht0, hg0, hop, hsn, hgn, hl⟩ := hso.row.k2 hk
 have hlen : s.set.length = l.length + 1 := by rw [hset]; rfl
 have hm0 : a0 ∈ s.set := by rw [hset]; simp
 have hc0 := (hso.set a0 hm0).1
 have hn0 := G0b (hso.set a0 hm0).2.1 hop
 have hxa0 : s.set[0]? = some a0 := by rw [hset]; rfl
 unfold L2a at hc0
 obtain ⟨_, b0, p0, _, hxy0, rfl, hM0, _, hcc0, hr0⟩ := RdS.get hSet 0 (by omega)
 obtain rfl := Option.some.inj (hxa0.symm.trans hxy0)
 obtain ⟨Ae0, ne0, ce0, rfl, ia0, _⟩ := Q0a.open_ hr0
 have hdl : s.set.drop 1 = l := by rw [hset]; rfl
 have hTl := RdS.dropped hSet 1 (by omega)
 rw [hdl] at hTl
 refine a0a Tryz.func196 rfl Tryz.ntmps196 rfl ?_
 refine wO0 rfl ⟨⟩ (m0a S (by conv => lhs; whnf) rfl ?_)
 intro g3 w3 S3 X3 G3
 refine m0a S3 (by conv => lhs; whnf) rfl ?_
 intro g5 w5 S5 X5 G5
 refine lO S5.k [.w 1] rfl ⟨⟨rfl,rfl⟩,⟨⟩⟩ (M0a S5 G1b rfl rfl (E1b p t M _ _ (hP.keep (S5.keep0 M)) (hM' _ S5.size)) ?_)
 rintro v14 w14 hq S14 X14
 obtain ⟨f, first, caps, rfl, _, _⟩ := id hq
 have K14 := G0a.refl [] w14
 refine lB S14.k [.o 0] rfl ⟨rfl,⟨⟩⟩ (fun h18 => by exfalso; omega) fun h18 => ?_
 refine lO S14.k [.o 0] rfl ⟨rfl,⟨⟩⟩ (f0a S14 Q7a rfl rfl (hvg ▸ h6a _ M _ _ _ (z8a p t) (RdE.keep (S14.keep0 M) _ _ hG) (hq.keep K14.of_nil) (hK.keep (S14.keep0 M)) (hM' _ S14.size)) ?_)
 intro w23 S23 X23
 replace K14 := K14.trans X23
 refine lC0 rfl ⟨⟩ (R5b b0a (fun i => [0, 1, 2, 3, 4, 5, 6, 7, 8, 9, 11].contains i) [0, 1, 2, 3, 4, 5, 6, 7, 8, 9, 10, 11] 12 (by kernel_rfl) (by kernel_rfl) (H8c S23) _ rfl ?_)
 have SR4 := S23.drew
 have XR4 : G0a [] w23 w23.drew := o2a _ _
 generalize w23.drew = wR4 at SR4 XR4 ⊢
 replace K14 := K14.trans XR4
 refine U3a ⟨SR4, XR4⟩ rfl rfl rfl ?_
 refine C0a Z3b rfl rfl ?_
 refine t0a ?_
 refine U3a ⟨SR4, XR4⟩ rfl rfl rfl ?_
 refine j0a x8b rfl (fun w1 hw => by exact hw.1.cell 0 rfl rfl) rfl ?_
 refine t0a ?_
 refine U3a ⟨SR4, XR4⟩ rfl rfl rfl ?_
 refine p0a o9a.slT rfl (by rfl) rfl (by omega) (by omega) rfl ?_
 refine t0a ?_
 refine U3a ⟨SR4, XR4⟩ rfl rfl rfl ?_
 refine C0a V7b rfl rfl ?_
 refine t0a ?_
 refine U3a ⟨SR4, XR4⟩ rfl rfl rfl ?_
 refine j0a A0a rfl (fun w1 hw => by exact hw.1.old (hcc0 _ _ rfl)) rfl ?_
 refine t0a ?_
 refine U3a ⟨SR4, XR4⟩ rfl rfl rfl ?_
 refine C0a Z3b rfl rfl ?_
 refine t0a ?_
 refine U3a ⟨SR4, XR4⟩ rfl rfl rfl ?_
 refine j0a x8b rfl (fun w1 hw => by exact hw.1.cell 0 rfl rfl) rfl ?_
 refine t0a ?_
 refine U3a ⟨SR4, XR4⟩ rfl rfl rfl ?_
 refine p0a o9a.slT rfl (by rfl) rfl (by omega) (by omega) rfl ?_
 refine t0a ?_
 refine U3a ⟨SR4, XR4⟩ rfl rfl rfl ?_
 refine C0a m9b rfl rfl ?_
 refine t0a ?_
 refine U3a ⟨SR4, XR4⟩ rfl rfl rfl ?_
 refine t3a P1a rfl (fun w1 hw => (v1a.sub hcc0 1 4).keep (hw.1.keep0 M) hM0) (by rfl) rfl ?_
 refine t0a ?_
 refine R1c ⟨SR4, XR4⟩ rfl rfl rfl rfl ?_
 refine h0a SR4 o8a rfl rfl ?_
 intro g9 w9 S9 X9 G9
 have GK149 := Nat.le_trans K14.size G9
 have XCw9 := XR4.trans X9
 replace K14 := K14.trans X9
 refine n0a ⟨rfl, ?_⟩
 refine U3a ⟨S9.tail, XCw9⟩ rfl rfl rfl ?_
 refine T9b (v := .int .i64 _) rfl rfl ?_
 refine t0a ?_
 refine J5b ⟨S9.tail, XCw9⟩ ?_
 refine c0a (kk := 0) (vs := [_, _, _, _]) S9 r8a rfl rfl rfl rfl rfl rfl rfl ?_
 intro w4_12 S4_12 X4_12
 dsimp only [k0a, List.set] at S4_12
 replace K14 := K14.fresh X4_12 (by first | exact GK149)
 refine n0a ⟨rfl, ?_⟩
 refine fO0 rfl ⟨⟩ (A8a S4_12 (hq.keep K14.of_nil) rfl rfl (ia0) (decide_eq_true ⟨hc0, ht0⟩) rfl (fun w38 S38 X38 => ?_))
 replace K14 := K14.trans X38
 refine lO S38.k [.w 2] rfl ⟨⟨rfl,rfl⟩,⟨⟩⟩ (f0a S38 I9a rfl rfl (hg0 ▸ V5a p M _ _ _ (hP.keep (S38.keep0 M)) hc0.1 hc0.2) ?_)
 intro w43 S43 X43
 replace K14 := K14.trans X43
 refine lB S43.k [.o 0] rfl ⟨rfl,⟨⟩⟩ (fun h48 => by exfalso; omega) fun h48 => ?_
 refine lO S43.k [.w 2,.o 0] rfl ⟨rfl,⟨rfl,rfl⟩,⟨⟩⟩ (f0a S43 M8a rfl rfl ((show shQ p a0.to.n = true from decide_eq_true ⟨hn0, hsn⟩) ▸ M4a p M _ _ _ (hP.keep (S43.keep0 M))) ?_)
 intro w54 S54 X54
 replace K14 := K14.trans X54
 refine lO S54.k [.w 2,.o 0] rfl ⟨rfl,⟨rfl,rfl⟩,⟨⟩⟩ (f0a S54 I9a rfl rfl (hgn ▸ V5a p M _ _ _ (hP.keep (S54.keep0 M)) hn0.1 hn0.2) ?_)
 intro w61 S61 X61
 replace K14 := K14.trans X61
 refine lO S61.k [.o 1] rfl ⟨rfl,⟨⟩⟩ ?_
 refine h1b (kd := .i64) (lo := 1) (hi := ns) o9a.slT rfl (.inr rfl) (.inl ⟨rfl, rfl⟩) (by omega) (by have := hSet.len; omega) (by have := hSet.len; omega) rfl ?_
 refine lC0 rfl ⟨⟩ (wL (fun μk D ε w => D = [] ∧ ∃ k : Nat, (k + μk = (l.length)) ∧ (G0a [] w14 w) ∧ St [] w0 w [(some g9, 56, [.int .i64 a0.to.op, .int .i64 a0.to.w, .int .i64 a0.to.n, .slice Ae0 ne0 ce0]), (some g5, 88, [.int .i64 s.kind, .int .i64 s.frm, .int .i64 s.to, .int .i64 s.guard.op, .int .i64 s.guard.w, .int .i64 s.guard.n, .slice Ag ng cg, .slice (some ⟨b0, p0, none⟩) ns cs', .bool s.release, .int .i64 s.target, .int .i64 s.module_]), (some g3, 138, [.slice Ac nc cc, .slice Am nm cm, .slice Al nl cl, .slice At nt ct])] ∧ Sl ε [(3, .pointer (some ⟨g3, 0, none⟩)), (7, .func (.func f) first caps), (65, .slice (some (if cs' = 1 then ⟨b0, p0, none⟩ else ⟨b0, p0 + 1 * 5, none⟩)) (ns - 1) (cs' - 1)), (66, .int .i64 (ns - 1 : Nat)), (67, .int .i64 k)]) (μ := (l.length)) ⟨rfl, 0, by omega, K14, S61, rfl⟩ ?_)
 rintro μk D ε w ⟨rfl, k, hk, K14, S, eZ⟩
 refine wK eZ (wB0 rfl ⟨⟩ (fun h68 => ?_) fun h68 => ?_)
 ·obtain ⟨a, b69, p69, _, hxa, hA69, _, hl69, hc69, hr69⟩ := RdS.get (hTl) (k) (by omega)
  obtain ⟨_, _, _, rfl, ia69, hE69⟩ := Q0a.open_ hr69
  have ham := hl a (d0a hxa)
  have hasm : a ∈ s.set := by rw [hset]; exact List.mem_cons_of_mem _ (d0a hxa)
  have hac := (hso.set a hasm).1
  unfold L2a at hac
  have hav : X2a a.to (z8a p t) = true := y7a hp (hso.set a hasm).2.1 (h4 ▸ b0c hso.row.vals (k := k) (a := a) (by rw [hset]; exact hxa))
  refine lO (S.k.a hc69) [.x b69 p69,.v 0] rfl ⟨⟨rfl,hl69⟩,⟨hA69,by omega⟩,⟨⟩⟩ (h0a S K2b rfl rfl ?_)
  intro g11 w11 S11 X11 G11
  have GK1411 := Nat.le_trans K14.size G11
  replace K14 := K14.trans X11
  refine c0a (kk := 0) (vs := [_, _, _, _, _]) S11 C3b rfl rfl rfl rfl rfl rfl rfl ?_
  intro w9_3 S9_3 X9_3
  dsimp only [k0a, List.set] at S9_3
  replace K14 := K14.fresh X9_3 (by exact GK1411)
  refine lO S9_3.k [.o 0] rfl ⟨rfl,⟨⟩⟩ (A8a S9_3 (hq.keep K14.of_nil) rfl rfl (ia69) (decide_eq_true ⟨hac, ham.1⟩) rfl (fun w74 S74 X74 => ?_))
  replace K14 := K14.trans X74
  refine lO S74.k [.w 3,.o 0] rfl ⟨rfl,⟨rfl,rfl⟩,⟨⟩⟩ (f0a S74 I9a rfl rfl (ham.2 ▸ V5a p M _ _ _ (hP.keep (S74.keep0 M)) hac.1 hac.2) ?_)
  intro w80 S80 X80
  replace K14 := K14.trans X80
  refine lO S80.k [.o 0] rfl ⟨rfl,⟨⟩⟩ (f0a S80 Q7a rfl rfl (hav ▸ h6a _ M _ _ _ (z8a p t) (RdE.keep (S80.keep0 M) _ _ hE69) (hq.keep K14.of_nil) (hK.keep (S80.keep0 M)) (hM' _ S80.size)) ?_)
  intro w87 S87 X87
  replace K14 := K14.trans X87
  refine lP0 rfl ⟨by omega,⟨⟩⟩ ⟨μk - 1, by omega, rfl, (k + 1), (by omega), (K14), S87.tail, rfl⟩
 exact lT rfl ⟨⟩ rfl ⟨rfl, S.fin⟩
end Go.Proofs.YtjjmdcnmeommbaaGreatDoor
namespace Go.Proofs.YtjjmdcnmeommbaaGreatDoor
open Go.Fw Go.RowKit
theorem p1b (p : e0a) (t c : Int) (g g' : Nat) (M : List Nat) (w0 : World) (cs : List Value) (vf : Value) (hP : o1a M w0 p cs) (hg : v1a w0 g 0 cs) (hg' : w0.cell? ⟨g', 0, none⟩ = some vf) (hp : p2a Tryz.prog M w0 vf (Y0b p t)) (hc : i64 c) (h0 : 0 ≤ c ∧ c < p.cells.length) (h1 : g0b p.cells c = true) (h2 : Y0b p t c = true) :
 R0a Tryz.prog 211 #[.int .i64 c, .pointer (some ⟨g, 0, none⟩), .pointer (some ⟨g', 0, none⟩)] w0 fun v w' => v = .bool true ∧ Below w0.heap.size w0 w' := by
 obtain ⟨_, _, _, _, _, _, _, _, _, _, _, _, rfl, _, _, _, _, _, _, _, _, _, _, _, _⟩ := hP.open_
 have S := St.refl w0
 refine a0a Tryz.func211 rfl Tryz.ntmps211 rfl ?_
 refine wO0 rfl ⟨⟩ ?_
 first | refine a1a x1b rfl ((fun j v hj => S.old (hg j v hj))) (by rfl) rfl ?_
 refine lO0 rfl ⟨⟩ (f0a S I9a rfl rfl (h1 ▸ V5a p M _ _ _ (hP.keep (S.keep0 M)) h0.1 h0.2) ?_)
 intro w7 S7 X7
 refine lO0 rfl ⟨⟩ (s0a F1b rfl (by first | exact S7.old hg') rfl ?_)
 refine lO0 rfl ⟨⟩ (A8a S7 (hp.keep (S7.keep0 M)) rfl rfl (hc) (h2) rfl (fun w11 S11 X11 => ?_))
 exact lT rfl ⟨⟩ rfl ⟨rfl, S11.fin⟩
theorem V3b (l : List N1a) (M : List Nat) (w0 : World) (v : Value) (f : FuncId) (first caps : Array Value) (hS : s5c M w0 v l) (hH : Has Tryz.prog f)
 (hf : ∀ w', G0a M w0 w' → ∀ a ∈ l, i64 a.cell → R0a Tryz.prog f (first.toList ++ [Value.int .i64 a.cell] ++ caps.toList).toArray w' fun v w'' => v = .bool true ∧ Below w'.heap.size w' w'') :
 R0a Tryz.prog 209 #[v, .func (.func f) first caps] w0 fun v w' => v = .bool true ∧ Below w0.heap.size w0 w' := by
 obtain ⟨As, ns, cs', rfl⟩ := hS.form
 obtain ⟨_, _, _⟩ := hS.len
 have S := St.refl w0
 refine a0a Tryz.func209 rfl Tryz.ntmps209 rfl ?_
 refine wC0 rfl ⟨⟩ (wL (fun μk D ε w => D = [] ∧ ∃ k : Nat, (k + μk = (l.length)) ∧ St [] w0 w [] ∧ Sl ε [(1, .func (.func f) first caps), (7, .slice As ns cs'), (8, .int .i64 ns), (9, .int .i64 k)]) (μ := (l.length)) ⟨rfl, 0, by omega, S, rfl⟩ ?_)
 rintro μk D ε w ⟨rfl, k, _, S, eZ⟩
 refine wK eZ (wB0 rfl ⟨⟩ (fun h10 => ?_) fun h10 => ?_)
 ·obtain ⟨a, b11, p11, _, hxa, hA11, _, hl11, hc11, hr11⟩ := RdS.get (hS) (k) (by omega)
  obtain ⟨_, _, _, rfl, ia11, _⟩ := Q0a.open_ hr11
  refine lO (S.k.a hc11) [.x b11 p11,.v 0] rfl ⟨⟨rfl,hl11⟩,⟨hA11,by omega⟩,⟨⟩⟩ (h0a S K2b rfl rfl ?_)
  intro g6 w6 S6 X6 G6
  first | refine c0a (kk := 0) (vs := [_, _, _, _, _]) S6 C3b rfl rfl rfl rfl rfl rfl rfl ?_
  intro w3_3 S3_3 X3_3
  dsimp only [k0a, List.set] at S3_3
  refine lO S3_3.k [.o 0] rfl ⟨rfl,⟨⟩⟩ (S8a (vs := first.toList ++ [Value.int .i64 a.cell] ++ caps.toList) hH rfl rfl rfl (hf _ (S3_3.keep0 M) a (d0a hxa) ia11) ?_)
  rintro v16 w16 ⟨rfl, B16⟩
  have S16 := S3_3.later B16
  refine lP0 rfl ⟨by omega,⟨⟩⟩ ⟨μk - 1, by omega, rfl, (k + 1), (by omega), S16.tail, rfl⟩
 exact lT rfl ⟨⟩ rfl ⟨rfl, S.fin⟩
theorem n3b (p : e0a) (t : Nat) (x : U0a) (s : p1a) (M : List Nat) (w0 : World) (cs ss : List Value) (h : m7a p t x s M w0 cs ss) (hk : s.kind = 3) :
 R0a Tryz.prog 197 #[.agg cs.toArray, .int .i64 t, .agg ss.toArray] w0 fun v w' => v = .bool true ∧ Below w0.heap.size w0 w' := by
 obtain ⟨hP, hS, hp, hso, hK, hM⟩ := h
 obtain ⟨_, _, _, _, _, _, _, _, _, _, _, _, rfl, _, _, _, _, _, _, _, _, _, _, _, _⟩ := hP.open_
 obtain ⟨_, _, _, _, ns, _, rfl, ⟨_, _, _, _, _⟩, _, hSet, _, _⟩ := hS.open_
 have S := St.refl w0
 have hM' : ∀ w' : World, w0.heap.size ≤ w'.heap.size → ∀ g ∈ M, g < w'.heap.size := fun w' h g hg => by have := hM g hg; omega
 have h4 : decide (s.kind = 4) = false := decide_eq_false (by omega)
 have hvg : X2a s.guard (z8a p t) = true := y7a hp hso.guard.1 (h4 ▸ hso.row.guard)
 have hvs : ∀ a ∈ s.set, X2a a.to (z8a p t) = true := fun a ha => by
  obtain ⟨i, hi, rfl⟩ := List.getElem_of_mem ha
  exact y7a hp (hso.set _ ha).2.1 (h4 ▸ hso.row.vals i hi (.inr (by omega)))
 obtain ⟨a0, l, hset, ht0, hg0, hl⟩ := hso.row.k3 hk
 have hlen : s.set.length = l.length + 1 := by rw [hset]; rfl
 have hm0 : a0 ∈ s.set := by rw [hset]; simp
 have hc0 := (hso.set a0 hm0).1
 have hxa0 : s.set[0]? = some a0 := by rw [hset]; rfl
 unfold L2a at hc0
 obtain ⟨_, _, _, _, hxy0, rfl, _, _, hcc0, hr0⟩ := RdS.get hSet 0 (by omega)
 obtain rfl := Option.some.inj (hxa0.symm.trans hxy0)
 obtain ⟨_, _, _, rfl, _, _⟩ := Q0a.open_ hr0
 have hdl : s.set.drop 1 = l := by rw [hset]; rfl
 have hTl := RdS.dropped hSet 1 (by omega)
 rw [hdl] at hTl
 have hcl : ∀ a ∈ l, (0 ≤ a.cell ∧ a.cell < p.cells.length) ∧ g0b p.cells a.cell = true ∧ Y0b p t a.cell = true := fun a ha => by
  have hasm : a ∈ s.set := by rw [hset]; exact List.mem_cons_of_mem _ ha
  refine ⟨(hso.set a hasm).1, hl a ha, ?_⟩
  unfold Y0b shQ z8a
  rw [Bool.or_eq_true, decide_eq_true_eq, decide_eq_true_eq]
  rcases hso.row.cells a hasm with h | h
  ·exact .inr ⟨(hso.set a hasm).1, h⟩
  ·exact .inl ⟨(hso.set a hasm).1, h⟩
 refine a0a Tryz.func197 rfl Tryz.ntmps197 rfl ?_
 refine wO0 rfl ⟨⟩ (m0a S (by conv => lhs; whnf) rfl ?_)
 intro g3 w3 S3 X3 G3
 refine m0a S3 (by conv => lhs; whnf) rfl ?_
 intro g5 w5 S5 X5 G5
 refine lC0 rfl ⟨⟩ (u0a b0a [0, 1, 2, 3, 4, 5, 6, 7] [8] [9, 10, 11] (by kernel_rfl) rfl (Cl _ _ _ _) (Cl.start S5) ?_)
 refine qB S5.q [.o 0] rfl ⟨rfl,⟨⟩⟩ (fun h12 => by exfalso; omega) fun h12 => ?_
 refine qN S5.q [.w 0,.w 1] rfl ⟨⟨rfl,by rfl⟩,⟨rfl,by rfl⟩,⟨⟩⟩ (c3a ?_)
 refine W5b (fun v w => p2a Tryz.prog M w v (z8a p t)) rfl rfl G1b rfl (fun v w w' h hk => h.keep hk.of_nil) (fun w1 S1 X1 => E1b p t M _ _ (hP.keep (S1.keep0 M)) (hM' _ S1.size)) ?_
 refine y1a ?_
 rintro wR1 ⟨SR1, _⟩
 rintro v17 hq
 dsimp only [x3a]
 obtain ⟨_, first, _, rfl, _, _⟩ := id hq
 refine lO0 rfl ⟨⟩ (f0a SR1 b5b rfl rfl (s7a s M _ _ _ (z8a p t) (x1a.keep (SR1.keep0 M) _ _ hS) hq (hK.keep (SR1.keep0 M)) (hM' _ SR1.size) hvg hvs) ?_)
 intro w18 S18 X18
 refine lO S18.k [.o 0] rfl ⟨rfl,⟨⟩⟩ (x0a o9a.slT rfl (by rfl) rfl (by omega) (by omega) rfl ?_)
 refine lO0 rfl ⟨⟩ (s0a A0a rfl (by exact S18.old (hcc0 _ _ rfl)) rfl ?_)
 refine lO S18.k [.w 1] rfl ⟨⟨rfl,by rfl⟩,⟨⟩⟩ (f0a S18 M8a rfl rfl ((show shQ p a0.cell = true from decide_eq_true ⟨hc0, ht0⟩) ▸ M4a p M _ _ _ (hP.keep (S18.keep0 M))) ?_)
 intro w28 S28 X28
 refine lO S28.k [.w 1] rfl ⟨⟨rfl,by rfl⟩,⟨⟩⟩ (f0a S28 I9a rfl rfl (hg0 ▸ V5a p M _ _ _ (hP.keep (S28.keep0 M)) hc0.1 hc0.2) ?_)
 intro w33 S33 X33
 refine lO S33.k [.w 1] rfl ⟨⟨rfl,by rfl⟩,⟨⟩⟩ (M0a S33 d4b rfl rfl (v6a p t M _ _ (hP.keep (S33.keep0 M)) (hM' _ S33.size)) ?_)
 rintro v37 w37 hq2 S37 X37
 obtain ⟨_, _, _, rfl, _, _⟩ := id hq2
 have K37 := G0a.refl [] w37
 refine h0a S37 T1c rfl rfl ?_
 intro g8 w8 S8 X8 G8
 have GK378 := Nat.le_trans K37.size G8
 replace K37 := K37.trans X8
 refine v0a (kk := 0) S8 K1c rfl (by conv => lhs; whnf) rfl rfl (by exact Nat.le_of_ble_eq_true rfl) ?_
 intro w6_4 S6_4 X6_4
 replace K37 := K37.fresh X6_4 (by first | exact GK378)
 refine lO S6_4.k [.o 1] rfl ⟨rfl,⟨⟩⟩ ?_
 refine h1b (kd := .i64) (lo := 1) (hi := ns) o9a.slT rfl (.inr rfl) (.inl ⟨rfl, rfl⟩) (by omega) (by have := hSet.len; omega) (by have := hSet.len; omega) rfl ?_
 refine f2a rfl rfl ?_
 refine f0a S6_4 G4b rfl rfl (V3b l M _ _ _ _ _ (RdS.keepW hTl (S6_4.keep0 M) (Q0a.keep (S6_4.keep0 M))) u4c (fun w' hk a ha hia => p1b p t a.cell g3 g8 M w' _ _ (hP.keep ((S6_4.keep0 M).trans hk)) ((S6_4.cells 2 rfl).keep hk (Z0a hM (S6_4.new 2 rfl))) (hk.cell (a := ⟨g8, 0, none⟩) (Z0a hM (S6_4.new 0 rfl)) (S6_4.cell 0 rfl rfl)) (hq2.keep (K37.of_nil.trans hk)) hia (hcl a ha).1 (hcl a ha).2.1 (hcl a ha).2.2)) ?_
 intro w42 S42 X42
 exact lT rfl ⟨⟩ rfl ⟨rfl, S42.fin⟩
def P5b (k : Int) : Nat := if k = 1 then 195 else if k = 2 then 196 else if k = 3 then 197 else if k = 4 then 198 else if k = 5 then 199 else if k = 6 then 200 else 201
def O8b : Array Value := #[.nilFunc, .func (.func 195) #[] #[], .func (.func 196) #[] #[], .func (.func 197) #[] #[], .func (.func 198) #[] #[], .func (.func 199) #[] #[], .func (.func 200) #[] #[], .func (.func 201) #[] #[]]
theorem D2c (p : e0a) (t : Nat) (x : U0a) (s : p1a) (M : List Nat) (w0 : World) (cs ss : List Value) (h : m7a p t x s M w0 cs ss) :
 R0a Tryz.prog (P5b s.kind) #[.agg cs.toArray, .int .i64 t, .agg ss.toArray] w0 fun v w' => v = .bool true ∧ Below w0.heap.size w0 w' := by
 have hk := h.sok.kind
 rcases (show s.kind = 1 ∨ s.kind = 2 ∨ s.kind = 3 ∨ s.kind = 4 ∨ s.kind = 5 ∨ s.kind = 6 ∨ s.kind = 7 by omega) with e | e | e | e | e | e | e <;> rw [e]
 ·exact H2b p t x s M w0 cs ss h e
 ·exact g4b p t x s M w0 cs ss h e
 ·exact n3b p t x s M w0 cs ss h e
 ·exact b2b p t x s M w0 cs ss h e
 ·exact A3b p t x s M w0 cs ss h (by omega)
 ·exact g3b p t x s M w0 cs ss h e
 ·exact g9a p t x s M w0 cs ss h (by omega)
theorem O6b {k : Int} : Has Tryz.prog (P5b k) := by
 unfold P5b
 repeat' split
 ·exact X3c
 ·exact w2c
 ·exact d3c
 ·exact j5c
 ·exact r3c
 ·exact V3c
 ·exact R7b
theorem d9b {k : Int} (h1 : 1 ≤ k) (h7 : k ≤ 7) : O8b.extract (k.toNat * 1) (k.toNat * 1 + 1) = #[.func (.func (P5b k)) #[] #[]] := by
 rcases (show k = 1 ∨ k = 2 ∨ k = 3 ∨ k = 4 ∨ k = 5 ∨ k = 6 ∨ k = 7 by omega) with e | e | e | e | e | e | e <;> subst e <;> rfl
theorem G9b (wz : World) : R0a Tryz.prog 165 #[] wz fun v w' => v = .agg O8b ∧ Below wz.heap.size wz w' := by
 have S := St.refl wz
 refine a0a Tryz.func165 rfl Tryz.ntmps165 rfl ?_
 refine wO0 rfl ⟨⟩ (h0a S f7c rfl rfl ?_)
 intro g0 w0 S0 X0 G0
 refine lO0 rfl ⟨⟩ (i1a u6a (vs := [(0, .func _ _ _)]) (cs := [_]) rfl rfl rfl rfl ?_)
 refine i1a u6a (vs := [(0, .func _ _ _)]) (cs := [_]) rfl rfl rfl rfl ?_
 refine i1a u6a (vs := [(0, .func _ _ _)]) (cs := [_]) rfl rfl rfl rfl ?_
 refine i1a u6a (vs := [(0, .func _ _ _)]) (cs := [_]) rfl rfl rfl rfl ?_
 refine i1a u6a (vs := [(0, .func _ _ _)]) (cs := [_]) rfl rfl rfl rfl ?_
 refine i1a u6a (vs := [(0, .func _ _ _)]) (cs := [_]) rfl rfl rfl rfl ?_
 refine i1a u6a (vs := [(0, .func _ _ _)]) (cs := [_]) rfl rfl rfl rfl ?_
 refine X0a (v := .agg O8b) (w' := w0) rfl rfl rfl (by simp) (by kernel_rfl) ?_
 first | refine c0a (kk := 0) (vs := [_, _, _, _, _, _, _, _]) S0 K5c rfl rfl rfl rfl rfl rfl rfl ?_
 intro w1_8 S1_8 X1_8
 dsimp only [k0a, List.set] at S1_8
 refine lR0 rfl ⟨⟩ ?_
 exact F1a (n := 8) rfl (g2a (by rw [Tryz.underlying214]; simp) (by kernel_rfl)) rfl (S1_8.cells 0 rfl) rfl ⟨rfl, S1_8.fin⟩
end Go.Proofs.YtjjmdcnmeommbaaGreatDoor
namespace Go.Fw
open Go.RowKit
section
variable {P : Program} {N : Nat} {ops : Array Oper} {C : World → Prop} {rest : List Oper} {K : Env → Prop} {e : Env} {d : Nat} {t : TypeId} {p : String} {af : Array Edge} {x y : Operand} {kd : IntKind} {a : Int}
theorem r1c {ty len el size : Nat} {cs cs' : Array Value} (hu : P.underlying ty = some (.array len el)) (hsz : ∀ w : World, (sizeOf el).run P w = .ok size w) (ha : ∀ w : World, (isAgg el).run P w = .ok true w) (hx : ev e x = .agg cs) (hy : ev e y = .int kd a) (h0 : 0 ≤ a) (h1 : a < len) (hv : cs.extract (a.toNat * size) (a.toNat * size + size) = cs') (hd : Nat.ble (d + 1) N = true)
 (h : QL P N ops C rest K (upd e d (.agg cs'))) : QL P N ops C (⟨some d, .index ty x y, t, p, af, none⟩ :: rest) K e :=
 b2a rfl rfl hd (fun w _ => by simp [execOp, Instr.index, hx, hy, asIntOf, run_underlying hu, h0, h1, hsz, part, ha, hv]) h
end
theorem u7a {M : List Nat} {w : World} {g : Nat} (hM : ∀ g ∈ M, g < w.heap.size) (h : w.heap.size ≤ g) : g ∉ M := fun hh => by have := hM g hh; omega
end Go.Fw
namespace Go.Proofs.YtjjmdcnmeommbaaGreatDoor
open Go.Fw Go.RowKit
set_option maxRecDepth 100000 in
theorem x9b : ∀ w : World, (sizeOf 213).run Tryz.prog w = .ok 1 w := fun _ => by kernel_rfl
set_option maxRecDepth 100000 in
theorem j1c : ∀ w : World, (isAgg 213).run Tryz.prog w = .ok true w := fun _ => by kernel_rfl
set_option maxHeartbeats 1000000 in
theorem d1c (p : e0a) (t : Nat) (x : U0a) (s : p1a) (M : List Nat) (w0 : World) (cs ss ts : List Value) (h : m7a p t x s M w0 cs ss) (hT : I0a M w0 ts x) (hpt : 1 ≤ x.points) (hpt2 : x.points ≤ 48) :
 R0a Tryz.prog 130 #[.agg cs.toArray, .int .i64 t, .agg ts.toArray, .agg ss.toArray] w0 fun v w' => v = .int .i64 0 ∧ Below w0.heap.size w0 w' := by
 obtain ⟨hP, hS, hp, hso, hK, hM⟩ := h
 obtain ⟨Ac, nc, cc, Am, nm, cm, Al, nl, cl, At, nt, ct, rfl, hC, _, _, _, _, _, _, _, _, _, _, _⟩ := hP.open_
 obtain ⟨Ag, ng, cg, As, ns, cs', rfl, ⟨_, _, _, _, _⟩, hG, hSet, _, _⟩ := hS.open_
 obtain ⟨Aa1, na1, ca1, Am1, nm1, cm1, As1, ns1, cs1, Al1, nl1, cl1, rfl, _, _, _, _, _, _, _, _, _, _, _, _, _⟩ := hT.open_
 have S := St.refl w0
 have hM' : ∀ w' : World, w0.heap.size ≤ w'.heap.size → ∀ g ∈ M, g < w'.heap.size := fun w' h g hg => by have := hM g hg; omega
 have k0 := hso.kind
 have k1 := hso.frm
 have k2 := hso.to
 have k3 := hso.mod
 have k4 := hso.rel
 have k5 := hso.tgt
 have k6 := hso.guard
 unfold L2a at k3
 have hdis : s.set.Pairwise fun a b => Value.int .i64 a.cell ≠ .int .i64 b.cell := hso.once.imp fun h e => h (by injection e)
 refine a0a Tryz.func130 rfl Tryz.ntmps130 rfl ?_
 refine wO0 rfl ⟨⟩ (m0a S (by conv => lhs; whnf) rfl ?_)
 intro g4 w4 S4 X4 G4
 refine m0a S4 (by conv => lhs; whnf) rfl ?_
 intro g6 w6 S6 X6 G6
 refine m0a S6 (by conv => lhs; whnf) rfl ?_
 intro g7 w7 S7 X7 G7
 refine lCn 3 S7.k [] rfl ⟨⟩ (wX (fun D ε w => D = [] ∧ ∃ aim : Bool, (s.kind = 6 ∨ s.kind = 7 → aim = true) ∧ St [] w0 w [(some g7, 88, [.int .i64 s.kind, .int .i64 s.frm, .int .i64 s.to, .int .i64 s.guard.op, .int .i64 s.guard.w, .int .i64 s.guard.n, .slice Ag ng cg, .slice As ns cs', .bool s.release, .int .i64 s.target, .int .i64 s.module_]), (some g6, 60, [.string x.name, .int .i64 x.points, .slice Aa1 na1 ca1, .slice Am1 nm1 cm1, .slice As1 ns1 cs1, .slice Al1 nl1 cl1, .bool x.asleep]), (some g4, 138, [.slice Ac nc cc, .slice Am nm cm, .slice Al nl cl, .slice At nt ct])] ∧ Sl ε [(1, .int .i64 t), (4, .pointer (some ⟨g4, 0, none⟩)), (6, .pointer (some ⟨g6, 0, none⟩)), (7, .pointer (some ⟨g7, 0, none⟩)), (9, .bool aim)]) ?_ ?_)
 ·refine wB S7.k [.o 0] rfl ⟨rfl,⟨⟩⟩ (fun h17 => ?_) fun h17 => ?_
  ·refine lP0 rfl ⟨⟩ ⟨rfl, (_), ?_, S7, rfl⟩
   exact fun _ => rfl
  refine lB S7.k [.o 0] rfl ⟨rfl,⟨⟩⟩ (fun h21 => ?_) fun h21 => ?_
  ·refine lP0 rfl ⟨⟩ ⟨rfl, (_), ?_, S7, rfl⟩
   exact fun _ => rfl
  refine lP0 rfl ⟨⟩ ⟨rfl, (_), ?_, S7, rfl⟩
  exact fun h => absurd h (by omega)
 rintro D ε w ⟨rfl, aim, haim, S, eZ⟩
 refine wK eZ (wX (fun D ε w => D = [] ∧ St [] w0 w [(some g7, 88, [.int .i64 s.kind, .int .i64 s.frm, .int .i64 s.to, .int .i64 s.guard.op, .int .i64 s.guard.w, .int .i64 s.guard.n, .slice Ag ng cg, .slice As ns cs', .bool s.release, .int .i64 s.target, .int .i64 s.module_]), (some g6, 60, [.string x.name, .int .i64 x.points, .slice Aa1 na1 ca1, .slice Am1 nm1 cm1, .slice As1 ns1 cs1, .slice Al1 nl1 cl1, .bool x.asleep]), (some g4, 138, [.slice Ac nc cc, .slice Am nm cm, .slice Al nl cl, .slice At nt ct])] ∧ Sl ε [(1, .int .i64 t), (4, .pointer (some ⟨g4, 0, none⟩)), (7, .pointer (some ⟨g7, 0, none⟩))]) ?_ ?_)
 ·refine wB S.k [.o 0] rfl ⟨rfl,⟨⟩⟩ (fun h26 => by exfalso; omega) fun h26 => ?_
  refine lB S.k [.o 0] rfl ⟨rfl,⟨⟩⟩ (fun h29 => by exfalso; omega) fun h29 => ?_
  refine lO S.k [.o 0,.o 1] rfl ⟨by omega,rfl,rfl,⟨⟩⟩ (f0a S V2a rfl rfl ((show decide (0 ≤ s.frm ∧ s.frm < x.points - 1) = true from decide_eq_true (by omega)) ▸ n2a _ _ _) ?_)
  intro w36 S36 X36
  refine lO S36.k [.o 0,.o 1] rfl ⟨rfl,rfl,⟨⟩⟩ (f0a S36 V2a rfl rfl ((show decide (0 ≤ s.to ∧ s.to < x.points) = true from decide_eq_true (by omega)) ▸ n2a _ _ _) ?_)
  intro w42 S42 X42
  refine lO S42.k [.o 0,.o 2] rfl ⟨rfl,rfl,⟨⟩⟩ (f0a S42 V2a rfl rfl ((show decide (0 ≤ s.module_ ∧ s.module_ < (nm : Int)) = true from decide_eq_true (by omega)) ▸ n2a _ _ _) ?_)
  intro w50 S50 X50
  refine lO0 rfl ⟨⟩ ?_
  rcases (Bool.eq_false_or_eq_true (s.release)).symm with hb54 | hb54
  ·refine s0a F2a rfl (by exact (S50.cell 0 rfl rfl).trans (congrArg (fun b => some (Value.bool b)) hb54)) rfl ?_
   refine lB S50.k [.o 0] rfl ⟨rfl,⟨⟩⟩ (fun h62 => ?_) fun h62 => ?_
   ·refine lOn 1 S50.k [] rfl ⟨⟩ (I3a rfl rfl rfl ?_)
    have haimT := haim (k5 h62)
    subst haimT
    refine B0a (v := .bool true) rfl rfl ?_
    refine lB S50.k [.o 0] rfl ⟨rfl,⟨⟩⟩ (fun h71 => by exfalso; omega) fun h71 => ?_
    refine lO S50.k [.o 0,.o 2] rfl ⟨rfl,rfl,⟨⟩⟩ (f0a S50 H6a rfl rfl (k6.1 ▸ v3a s.guard M _ _ _ p.cells false (RdE.keep (S50.keep0 M) _ _ hG) (hC.keep (S50.keep0 M)) (hK.keep (S50.keep0 M))) ?_)
    intro w77 S77 X77
    refine lP0 rfl ⟨⟩ ⟨rfl, S77, rfl⟩
   refine lB S50.k [.o 0] rfl ⟨rfl,⟨⟩⟩ (fun h71 => by exfalso; omega) fun h71 => ?_
   refine lO S50.k [.o 0,.o 2] rfl ⟨rfl,rfl,⟨⟩⟩ (f0a S50 H6a rfl rfl (k6.1 ▸ v3a s.guard M _ _ _ p.cells false (RdE.keep (S50.keep0 M) _ _ hG) (hC.keep (S50.keep0 M)) (hK.keep (S50.keep0 M))) ?_)
   intro w77 S77 X77
   refine lP0 rfl ⟨⟩ ⟨rfl, S77, rfl⟩
  refine s0a F2a rfl (by exact (S50.cell 0 rfl rfl).trans (congrArg (fun b => some (Value.bool b)) hb54)) rfl ?_
  refine lB S50.k [.o 0] rfl ⟨rfl,⟨⟩⟩ (fun h58 => by exact absurd (k4 hb54) h58) (fun h58 => ?_)
  refine lB S50.k [.o 0] rfl ⟨rfl,⟨⟩⟩ (fun h62 => ?_) fun h62 => ?_
  ·refine lOn 1 S50.k [] rfl ⟨⟩ (I3a rfl rfl rfl ?_)
   have haimT := haim (k5 h62)
   subst haimT
   refine B0a (v := .bool true) rfl rfl ?_
   refine lB S50.k [.o 0] rfl ⟨rfl,⟨⟩⟩ (fun h71 => by exfalso; omega) fun h71 => ?_
   refine lO S50.k [.o 0,.o 2] rfl ⟨rfl,rfl,⟨⟩⟩ (f0a S50 H6a rfl rfl (k6.1 ▸ v3a s.guard M _ _ _ p.cells false (RdE.keep (S50.keep0 M) _ _ hG) (hC.keep (S50.keep0 M)) (hK.keep (S50.keep0 M))) ?_)
   intro w77 S77 X77
   refine lP0 rfl ⟨⟩ ⟨rfl, S77, rfl⟩
  refine lB S50.k [.o 0] rfl ⟨rfl,⟨⟩⟩ (fun h71 => by exfalso; omega) fun h71 => ?_
  refine lO S50.k [.o 0,.o 2] rfl ⟨rfl,rfl,⟨⟩⟩ (f0a S50 H6a rfl rfl (k6.1 ▸ v3a s.guard M _ _ _ p.cells false (RdE.keep (S50.keep0 M) _ _ hG) (hC.keep (S50.keep0 M)) (hK.keep (S50.keep0 M))) ?_)
  intro w77 S77 X77
  refine lP0 rfl ⟨⟩ ⟨rfl, S77, rfl⟩
 rintro D ε w ⟨rfl, S, eZ⟩
 refine wK eZ (wO0 rfl ⟨⟩ ?_)
 refine W5a (k := 3) S rfl ?_
 intro g79 w79 S79 X79 G79 Mp79
 have hg79 : w0.heap.size ≤ g79 := by have := S.size; omega
 refine lC S79.k [.o 0] rfl ⟨rfl,⟨⟩⟩ (wL (fun μk D ε w => D = [] ∧ ∃ k : Nat, (k + μk = (s.set.length)) ∧ (z3a Tryz.prog 3 w g79 (v4a ((s.set.take k).map fun c => .int .i64 c.cell))) ∧ St [] w0 w [(some g7, 88, [.int .i64 s.kind, .int .i64 s.frm, .int .i64 s.to, .int .i64 s.guard.op, .int .i64 s.guard.w, .int .i64 s.guard.n, .slice Ag ng cg, .slice As ns cs', .bool s.release, .int .i64 s.target, .int .i64 s.module_]), (some g6, 60, [.string x.name, .int .i64 x.points, .slice Aa1 na1 ca1, .slice Am1 nm1 cm1, .slice As1 ns1 cs1, .slice Al1 nl1 cl1, .bool x.asleep]), (some g4, 138, [.slice Ac nc cc, .slice Am nm cm, .slice Al nl cl, .slice At nt ct])] ∧ Sl ε [(1, .int .i64 t), (4, .pointer (some ⟨g4, 0, none⟩)), (7, .pointer (some ⟨g7, 0, none⟩)), (10, .map (some g79)), (81, .slice As ns cs'), (82, .int .i64 ns), (83, .int .i64 k)]) (μ := (s.set.length)) ⟨rfl, 0, by omega, (by simpa [v4a] using Mp79), S79, rfl⟩ ?_)
 rintro μk D ε w ⟨rfl, k, _, Mp79, S, eZ⟩
 refine wK eZ (wB0 rfl ⟨⟩ (fun h84 => ?_) fun h84 => ?_)
 ·obtain ⟨a, b85, p85, _, hxa, hA85, _, hl85, hc85, hr85⟩ := RdS.get (hSet) (k) (by omega)
  obtain ⟨_, _, _, rfl, ia85, hE85⟩ := Q0a.open_ hr85
  have q1 := hso.set a (d0a hxa)
  have q2 := q1.1
  unfold L2a at q2
  have q3 := q1.2.2
  refine lO (S.k.a hc85) [.x b85 p85,.v 0] rfl ⟨⟨rfl,hl85⟩,⟨hA85,by omega⟩,⟨⟩⟩ (h0a S K2b rfl rfl ?_)
  intro g12 w12 S12 X12 G12
  replace Mp79 := Mp79.keep X12 (List.not_mem_nil)
  refine c0a (kk := 0) (vs := [_, _, _, _, _]) S12 C3b rfl rfl rfl rfl rfl rfl rfl ?_
  intro w18_3 S18_3 X18_3
  dsimp only [k0a, List.set] at S18_3
  replace Mp79 := Mp79.keep X18_3 (fun hh => by rw [List.mem_singleton] at hh; exact Mp79.ne (S12.blk 0 rfl) hh)
  refine lO S18_3.k [.o 0] rfl ⟨rfl,⟨⟩⟩ ?_
  have hk91 := E1c ia85
  have hnew := W3a hdis hxa
  refine z9a (Go.Maps.int_keyed Tryz.underlying3) Tryz.underlying181 x0b Mp79 rfl rfl hk91 rfl (fun v hv => absurd rfl (L4a hnew _ hv)) (fun _ => ?_)
  refine lO0 rfl ⟨⟩ (h0a S18_3 x0b rfl rfl ?_)
  intro g13 w13 S13 X13 G13
  replace Mp79 := Mp79.keep X13 (List.not_mem_nil)
  refine c0a (kk := 0) (vs := []) S13 V8b rfl rfl rfl rfl rfl rfl rfl ?_
  intro w19_8 S19_8 X19_8
  dsimp only [k0a, List.set] at S19_8
  replace Mp79 := Mp79.keep X19_8 (fun hh => by rw [List.mem_singleton] at hh; exact Mp79.ne (S13.blk 0 rfl) hh)
  refine lO S19_8.k [.o 1,.o 4] rfl ⟨rfl,rfl,⟨⟩⟩ (f0a S19_8 V2a rfl rfl ((show decide (0 ≤ a.cell ∧ a.cell < (nc : Int)) = true from decide_eq_true (by omega)) ▸ n2a _ _ _) ?_)
  intro w102 S102 X102
  replace Mp79 := Mp79.keep X102 (List.not_mem_nil)
  refine lO S102.k [.o 1] rfl ⟨rfl,⟨⟩⟩ (i1a b4b (vs := []) (cs := []) rfl rfl rfl rfl ?_)
  refine J1b (key := .int .i64 a.cell) (v := .agg #[]) S102 (Go.Maps.int_keyed Tryz.underlying3) Tryz.underlying181 Mp79 rfl rfl rfl hk91 (L4a hnew) (.inl hg79) ?_
  intro wm Sm Xm Mm
  clear Mp79
  have Mp79 := Mm
  refine lC0 rfl ⟨⟩ (u0a b0a [0, 1, 2, 3, 4, 5, 6, 7, 8, 9, 10, 11, 12, 13, 14, 15, 16, 17, 18, 19, 20] [] [] (by kernel_rfl) rfl (Cl _ _ _ _) (Cl.start Sm) ?_)
  obtain ⟨c, b117, p117, _, hxc, hA117, _, _, hc117, hr117⟩ := RdS.get (hC) (a.cell.toNat) (by omega)
  obtain ⟨rfl, _, _, _, _⟩ := K2a.open_ hr117
  rw [i9a q2.1 hxc] at q3
  refine qB (Sm.q.a hc117) [.o 1,.o 4,.o 1,.x b117 p117,.f 0 1] rfl ⟨rfl,⟨hA117,by omega⟩,rfl,rfl,rfl,⟨⟩⟩ (fun h120 => by exfalso; omega) fun h120 => ?_
  refine qO Sm.q [.o 1,.o 4] rfl ⟨rfl,rfl,⟨⟩⟩ (T1a H6a rfl rfl (fun w1 S1 X1 => q1.2.1 ▸ v3a a.to M _ _ _ p.cells false (RdE.keep (S1.keep0 M) _ _ hE85) (hC.keep (S1.keep0 M)) (hK.keep (S1.keep0 M))) ?_)
  refine qD rfl ⟨⟩ ?_
  rintro wR23 ⟨SR23, XR23⟩
  replace Mp79 := Mp79.keep XR23 (List.not_mem_nil)
  refine lP0 rfl ⟨by omega,⟨⟩⟩ ?_
  refine ⟨μk - 1, by omega, rfl, (k + 1), (by omega), ((by rw [g1a hxa, List.map_append, List.map_singleton, z7a]; exact Mp79)), SR23.tail.tail, rfl⟩
 refine lC0 rfl ⟨⟩ (u0a b0a [0, 1, 2, 3, 4, 5, 6, 7] [] [8, 9] (by kernel_rfl) rfl (Cl _ _ _ _) (Cl.start S) ?_)
 refine T1a F4c rfl rfl (fun w1 S1 X1 => G9b _) ?_
 refine qO S.q [.o 0] rfl ⟨rfl,⟨⟩⟩ (r1c Tryz.underlying214 x9b j1c rfl rfl (by omega) (by omega) (d9b (by omega) (by omega)) rfl ?_)
 refine qN S.q [.w 2,.w 0] rfl ⟨⟨rfl,rfl⟩,⟨rfl,rfl⟩,⟨⟩⟩ (c3a ?_)
 refine y1a ?_
 rintro wR26 ⟨SR26, _⟩
 refine Z1b O6b rfl rfl rfl (D2c p t x s M _ _ _ ⟨hP.keep (SR26.keep0 M), x1a.keep (SR26.keep0 M) _ _ hS, hp, hso, hK.keep (SR26.keep0 M), hM' _ SR26.size⟩) ?_
 rintro v139 w139 ⟨rfl, B139⟩
 have S139 := SR26.later B139
 exact lT rfl ⟨⟩ rfl ⟨rfl, S139.fin⟩
theorem Q6b (c : Int) (g : Nat) (w0 : World) (Ac Am Al At : Option Addr) (nc cc nm cm nl cl nt ct : Nat) (hg : v1a w0 g 0 [.slice Ac nc cc, .slice Am nm cm, .slice Al nl cl, .slice At nt ct]) :
 R0a Tryz.prog 128 #[.int .i64 c, .pointer (some ⟨g, 0, none⟩)] w0 fun v w' => v = .bool (decide (0 ≤ c ∧ c < (nm : Int))) ∧ Below w0.heap.size w0 w' := by
 have S := St.refl w0
 refine a0a Tryz.func128 rfl Tryz.ntmps128 rfl ?_
 refine wO0 rfl ⟨⟩ (s0a Q1c rfl (by first | exact S.old (hg 1 _ rfl)) rfl ?_)
 refine lO0 rfl ⟨⟩ (r0a S V2a rfl rfl (n2a _ _ _) (fun h9 w9 S9 X9 => ?_) (fun h9 w9 S9 X9 => ?_))
 ·refine lR0 rfl ⟨⟩ (q0a rfl (by conv => lhs; whnf) ?_)
  exact ⟨by rw [h9], S9.fin⟩
 refine lR0 rfl ⟨⟩ (q0a rfl (by conv => lhs; whnf) ?_)
 exact ⟨by rw [h9], S9.fin⟩
theorem C6b (c pts hd : Int) (g g' : Nat) (w0 : World) (hg : w0.cell? ⟨g, 1, none⟩ = some (.int .i64 pts)) (hg' : w0.cell? ⟨g', 0, none⟩ = some (.int .i64 hd)) :
 R0a Tryz.prog 131 #[.int .i64 c, .pointer (some ⟨g, 0, none⟩), .pointer (some ⟨g', 0, none⟩)] w0 fun v w' => v = .bool (decide ((0 ≤ c ∧ c < pts) ∧ c ≠ hd)) ∧ Below w0.heap.size w0 w' := by
 have S := St.refl w0
 refine a0a Tryz.func131 rfl Tryz.ntmps131 rfl ?_
 refine wO0 rfl ⟨⟩ (s0a A0a rfl (by exact S.old hg) rfl ?_)
 refine r0a S V2a rfl rfl (n2a _ _ _) (fun h8 w8 S8 X8 => ?_) (fun h8 w8 S8 X8 => ?_)
 ·refine lO0 rfl ⟨⟩ (s0a A0a rfl (by exact S8.old hg') rfl ?_)
  refine lB0 rfl ⟨⟩ (fun h13 => ?_) fun h13 => ?_
  ·refine lT rfl ⟨⟩ rfl ⟨congrArg Value.bool ?_, S8.fin⟩
   exact (decide_eq_true ⟨of_decide_eq_true h8, by omega⟩).symm
  refine lT rfl ⟨⟩ rfl ⟨congrArg Value.bool ?_, S8.fin⟩
  exact (decide_eq_false fun h => by omega).symm
 refine lT rfl ⟨⟩ rfl ⟨congrArg Value.bool ?_, S8.fin⟩
 exact (decide_eq_false fun h => of_decide_eq_false h8 h.1).symm
end Go.Proofs.YtjjmdcnmeommbaaGreatDoor
namespace Go.Proofs.YtjjmdcnmeommbaaGreatDoor
open Go.Fw Go.RowKit
theorem q0b (M : List Nat) (w0 : World) (v vf : Value) (l : List Int) (q : Int → Bool) (hR : RdI M w0 v l) (hp : p2a Tryz.prog M w0 vf q) (hM : ∀ g ∈ M, g < w0.heap.size) (hq : ∀ c ∈ l, q c = true) :
 R0a Tryz.prog 127 #[v, vf] w0 fun v w' => v = .bool true ∧ Below w0.heap.size w0 w' :=
 (E5a M w0 v vf l q hR hp hM).mono fun v w' h => ⟨by rw [h.1, List.all_eq_true.2 hq], h.2⟩
def E8c (nm : Nat) (c : Int) : Bool := decide (0 ≤ c ∧ c < (nm : Int))
def D6c (pts hd c : Int) : Bool := decide ((0 ≤ c ∧ c < pts) ∧ c ≠ hd)
theorem J2b {g : Nat} {M : List Nat} {w0 : World} {Ac Am Al At : Option Addr} {nc cc nm cm nl cl nt ct : Nat} (hg : v1a w0 g 0 [.slice Ac nc cc, .slice Am nm cm, .slice Al nl cl, .slice At nt ct]) (hM : g ∉ M) :
 p2a Tryz.prog M w0 (.func (.func 128) #[] #[.pointer (some ⟨g, 0, none⟩)]) (E8c nm) :=
 ⟨_, _, _, rfl, O2c, fun w' hk c _ => Q6b c g w' Ac Am Al At nc cc nm cm nl cl nt ct (hg.keep hk hM)⟩
theorem G3b {g g' : Nat} {M : List Nat} {w0 : World} {pts hd : Int} (hg : w0.cell? ⟨g, 1, none⟩ = some (.int .i64 pts)) (hg' : w0.cell? ⟨g', 0, none⟩ = some (.int .i64 hd)) (hM : g ∉ M) (hM' : g' ∉ M) :
 p2a Tryz.prog M w0 (.func (.func 131) #[] #[.pointer (some ⟨g, 0, none⟩), .pointer (some ⟨g', 0, none⟩)]) (D6c pts hd) :=
 ⟨_, _, _, rfl, b3c, fun w' hk c _ => C6b c pts hd g g' w' (hk.cell (a := ⟨g, 1, none⟩) hM hg) (hk.cell (a := ⟨g', 0, none⟩) hM' hg')⟩
set_option maxHeartbeats 1000000 in
theorem j6b (p : e0a) (t : Nat) (x : U0a) (b : Nat) (l : List Value) (M : List Nat) (w0 : World) (cs ts : List Value) (hP : o1a M w0 p cs) (hT : I0a M w0 ts x) (hp : e1a p) (hK : e3a M w0) (hM : ∀ g ∈ M, g < w0.heap.size) (hb : b ∈ M)
 (hx : p.threads[t]? = some x) (hm : z3a Tryz.prog 9 w0 b (v4a l)) (hnew : Value.string x.name ∉ l) :
 R0a Tryz.prog 74 #[.agg cs.toArray, .int .i64 t, .agg ts.toArray, .map (some b)] w0 fun v w' => v = .tuple #[.int .i64 0, .int .i64 (-1)] ∧ N0a [b] w0 w' ∧ z3a Tryz.prog 9 w' b (v4a (l ++ [.string x.name])) := by
 obtain ⟨Ac, nc, cc, Am, nm, cm, Al, nl, cl, At, nt, ct, rfl, hC, _, _, _, _, _, _, _, _, _, _, _⟩ := hP.open_
 obtain ⟨Aa1, na1, ca1, Am1, nm1, cm1, As1, ns1, cs1, Al1, nl1, cl1, rfl, _, hEs1, hMs1, hSt1, hLo1, _, _, _, _, _, _, _, _⟩ := hT.open_
 have S := St.reflM [b] w0
 have hsub : ∀ g ∈ [b], g ∈ M := fun g hg => by rw [List.mem_singleton] at hg; subst hg; exact hb
 have hM' : ∀ w' : World, w0.heap.size ≤ w'.heap.size → ∀ g ∈ M, g < w'.heap.size := fun w' h g hg => by have := hM g hg; omega
 have hto := hp.thread hx
 have k1 := hto.points
 have k2 := hto.asserts
 have k3 := hto.nmod
 have hsz : x.name.size ≤ 140737488355328 := by have := hto.name.2.1; omega
 refine a0a Tryz.func74 rfl Tryz.ntmps74 rfl ?_
 refine wO0 rfl ⟨⟩ (m0a S (by conv => lhs; whnf) rfl ?_)
 intro g4 w4 S4 X4 G4
 replace hm := hm.keep X4 (List.not_mem_nil)
 refine m0a S4 (by conv => lhs; whnf) rfl ?_
 intro g6 w6 S6 X6 G6
 replace hm := hm.keep X6 (List.not_mem_nil)
 refine lO S6.k [.o 0] rfl ⟨rfl,⟨⟩⟩ (f0a S6 m1b rfl rfl (X6a _ _ hto.name) ?_)
 intro w22 S22 X22
 replace hm := hm.keep X22 (List.not_mem_nil)
 refine lO S22.k [.o 0] rfl ⟨rfl,⟨⟩⟩ ?_
 have hG6 : w0.heap.size ≤ g6 := by have := S4.size; omega
 refine f3a U1b rfl rfl (y8a b _ x.name _ hm hsz hnew) ?_
 rintro v28 w28 ⟨rfl, B28, M28⟩
 have S28 := S22.turned hm (.inr (by simp)) B28
 clear hm
 have hm := M28
 refine lB S28.k [.o 0] rfl ⟨rfl,⟨⟩⟩ (fun h32 => by exfalso; omega) fun h32 => ?_
 refine lB S28.k [.o 0,.o 0] rfl ⟨rfl,rfl,⟨⟩⟩ (fun h38 => by exfalso; omega) fun h38 => ?_
 refine lB S28.k [.o 0,.o 0] rfl ⟨rfl,rfl,⟨⟩⟩ (fun h44 => by exfalso; omega) fun h44 => ?_
 refine lO S28.k [.o 0] rfl ⟨rfl,⟨⟩⟩ (f2a rfl rfl ?_)
 refine f0a S28 F7a rfl rfl (q0b M _ _ _ x.modules (E8c nm) (hMs1.keep (S28.keepM.mono hsub)) (J2b (S28.cells 1 rfl) (u7a hM G4)) (hM' _ S28.size) (fun c hc => decide_eq_true (by have := hto.modules c hc; unfold L2a at this; omega))) ?_
 intro w49 S49 X49
 replace hm := hm.keep X49 (List.not_mem_nil)
 refine lO S49.k [.w 1] rfl ⟨⟨rfl,rfl⟩,⟨⟩⟩ (M0a S49 d4b rfl rfl (v6a p t M _ _ (hP.keep (S49.keepM.mono hsub)) (hM' _ S49.size)) ?_)
 rintro v53 w53 hq S53 X53
 replace hm := hm.keep X53 (List.not_mem_nil)
 obtain ⟨f, first, caps, rfl, _, _⟩ := id hq
 have K53 := G0a.refl [] w53
 refine lC S53.k [.o 0] rfl ⟨rfl,⟨⟩⟩ (wL (fun μk D ε w => D = [] ∧ ∃ k : Nat, (k + μk = (x.asserts.length)) ∧ (z3a Tryz.prog 9 w b (v4a (l ++ [.string x.name]))) ∧ (G0a [] w53 w) ∧ St [b] w0 w [(some g6, 60, [.string x.name, .int .i64 x.points, .slice Aa1 na1 ca1, .slice Am1 nm1 cm1, .slice As1 ns1 cs1, .slice Al1 nl1 cl1, .bool x.asleep]), (some g4, 138, [.slice Ac nc cc, .slice Am nm cm, .slice Al nl cl, .slice At nt ct])] ∧ Sl ε [(1, .int .i64 t), (4, .pointer (some ⟨g4, 0, none⟩)), (6, .pointer (some ⟨g6, 0, none⟩)), (10, .func (.func f) first caps), (55, .slice Aa1 na1 ca1), (56, .int .i64 na1), (57, .int .i64 k)]) (μ := (x.asserts.length)) ⟨rfl, 0, by omega, hm, K53, S53, rfl⟩ ?_)
 rintro μk D ε w ⟨rfl, k, hk, hm, K53, S, eZ⟩
 refine wK eZ (wB0 rfl ⟨⟩ (fun h58 => ?_) fun h58 => ?_)
 ·obtain ⟨e, b59, p59, _, hxe, hA59, hM59, hl59, hc59, hr59⟩ := RdS.get (hEs1) (k) (by omega)
  obtain ⟨_, _, _, rfl, _, _, _, _, _⟩ := RdE.cells hr59
  have q1 := hto.truth e (d0a hxe)
  refine lO (S.k.b (hc59.keep (S.keepM.mono hsub) hM59)) [.x b59 p59,.v 0] rfl ⟨⟨rfl,hl59⟩,⟨hA59,by omega⟩,⟨⟩⟩ (h0a S o8a rfl rfl ?_)
  intro g12 w12 S12 X12 G12
  have GK5312 := Nat.le_trans K53.size G12
  replace K53 := K53.trans X12
  replace hm := hm.keep X12 (List.not_mem_nil)
  refine c0a (kk := 0) (vs := [_, _, _, _]) S12 r8a rfl rfl rfl rfl rfl rfl rfl ?_
  intro w14_3 S14_3 X14_3
  dsimp only [k0a, List.set] at S14_3
  replace K53 := K53.fresh X14_3 (by first | exact GK5312)
  replace hm := hm.keep X14_3 (fun hh => by rw [List.mem_singleton] at hh; exact hm.ne (S12.blk 0 rfl) hh)
  refine lO S14_3.k [.w 2,.w 0] rfl ⟨⟨rfl,by rfl⟩,⟨rfl,rfl⟩,⟨⟩⟩ (f0a S14_3 X8a rfl rfl (J8a p e M _ _ _ false _ (Y0b p t) (hP.keep (S14_3.keepM.mono hsub)) (RdE.keep (S14_3.keepM.mono hsub) _ _ hr59) (hq.keep K53.of_nil) (hK.keep (S14_3.keepM.mono hsub)) (hM' _ S14_3.size) q1.2.1 q1.1 (v1b hp q1.1 q1.2.2)) ?_)
  intro w64 S64 X64
  replace K53 := K53.trans X64
  replace hm := hm.keep X64 (List.not_mem_nil)
  refine lP0 rfl ⟨by omega,⟨⟩⟩ ⟨μk - 1, by omega, rfl, (k + 1), (by omega), (hm), (K53), S64.tail, rfl⟩
 refine lC S.k [.o 0] rfl ⟨rfl,⟨⟩⟩ (wL (fun μk D ε w => D = [] ∧ ∃ k : Nat, (k + μk = (x.steps.length)) ∧ (z3a Tryz.prog 9 w b (v4a (l ++ [.string x.name]))) ∧ (G0a [] w53 w) ∧ St [b] w0 w [(some g6, 60, [.string x.name, .int .i64 x.points, .slice Aa1 na1 ca1, .slice Am1 nm1 cm1, .slice As1 ns1 cs1, .slice Al1 nl1 cl1, .bool x.asleep]), (some g4, 138, [.slice Ac nc cc, .slice Am nm cm, .slice Al nl cl, .slice At nt ct])] ∧ Sl ε [(1, .int .i64 t), (4, .pointer (some ⟨g4, 0, none⟩)), (6, .pointer (some ⟨g6, 0, none⟩)), (10, .func (.func f) first caps), (68, .slice As1 ns1 cs1), (69, .int .i64 ns1), (70, .int .i64 k)]) (μ := (x.steps.length)) ⟨rfl, 0, by omega, hm, K53, S, rfl⟩ ?_)
 rintro μk D ε w ⟨rfl, k, hk, hm, K53, S, eZ⟩
 refine wK eZ (wB0 rfl ⟨⟩ (fun h71 => ?_) fun h71 => ?_)
 ·obtain ⟨s, b73, p73, _, hxs, hA73, hM73, hl73, hc73, hr73⟩ := RdS.get (hSt1) (k) (by omega)
  obtain ⟨_, _, _, _, _, _, rfl, ⟨_, _, _, _, _⟩, _, _, _, _⟩ := x1a.open_ hr73
  refine lO (S.k.b (hc73.keep (S.keepM.mono hsub) hM73)) [.x b73 p73,.v 0] rfl ⟨⟨rfl,hl73⟩,⟨hA73,by omega⟩,⟨⟩⟩ (h0a S Y9a rfl rfl ?_)
  intro g14 w14 S14 X14 G14
  have GK5314 := Nat.le_trans K53.size G14
  replace K53 := K53.trans X14
  replace hm := hm.keep X14 (List.not_mem_nil)
  refine lO0 rfl ⟨⟩ (c0a (kk := 0) (vs := [_, _, _, _, _, _, _, _, _, _, _]) S14 U9a rfl rfl rfl rfl rfl rfl rfl ?_)
  intro w20_5 S20_5 X20_5
  dsimp only [k0a, List.set] at S20_5
  replace K53 := K53.fresh X20_5 (by first | exact GK5314)
  replace hm := hm.keep X20_5 (fun hh => by rw [List.mem_singleton] at hh; exact hm.ne (S14.blk 0 rfl) hh)
  refine lO S20_5.k [.w 2,.w 1,.w 0] rfl ⟨⟨rfl,by rfl⟩,⟨rfl,rfl⟩,⟨rfl,rfl⟩,⟨⟩⟩ (f0a S20_5 g5c rfl rfl (d1c p t x s M _ _ _ _ ⟨hP.keep (S20_5.keepM.mono hsub), x1a.keep (S20_5.keepM.mono hsub) _ _ hr73, hp, hto.steps s (d0a hxs), hK.keep (S20_5.keepM.mono hsub), hM' _ S20_5.size⟩ (I0a.keep (S20_5.keepM.mono hsub) _ _ hT) k1.1 k1.2) ?_)
  intro w79 S79 X79
  replace K53 := K53.trans X79
  replace hm := hm.keep X79 (List.not_mem_nil)
  refine lB0 rfl ⟨⟩ (fun h81 => by exfalso; omega) fun h81 => ?_
  refine lP0 rfl ⟨by omega,⟨⟩⟩ ⟨μk - 1, by omega, rfl, (k + 1), (by omega), (hm), (K53), S79.tail, rfl⟩
 refine lC S.k [.o 0] rfl ⟨rfl,⟨⟩⟩ (wL (fun μk D ε w => D = [] ∧ ∃ k : Nat, (k + μk = (x.loops.length)) ∧ (z3a Tryz.prog 9 w b (v4a (l ++ [.string x.name]))) ∧ (G0a [] w53 w) ∧ St [b] w0 w [(some g6, 60, [.string x.name, .int .i64 x.points, .slice Aa1 na1 ca1, .slice Am1 nm1 cm1, .slice As1 ns1 cs1, .slice Al1 nl1 cl1, .bool x.asleep]), (some g4, 138, [.slice Ac nc cc, .slice Am nm cm, .slice Al nl cl, .slice At nt ct])] ∧ Sl ε [(4, .pointer (some ⟨g4, 0, none⟩)), (6, .pointer (some ⟨g6, 0, none⟩)), (10, .func (.func f) first caps), (86, .slice Al1 nl1 cl1), (87, .int .i64 nl1), (88, .int .i64 k)]) (μ := (x.loops.length)) ⟨rfl, 0, by omega, hm, K53, S, rfl⟩ ?_)
 rintro μk D ε w ⟨rfl, k, hk, hm, K53, S, eZ⟩
 refine wK eZ (wB0 rfl ⟨⟩ (fun h89 => ?_) fun h89 => ?_)
 ·obtain ⟨lp, b90, p90, _, hxlp, hA90, hM90, hl90, hc90, hr90⟩ := RdS.get (hLo1) (k) (by omega)
  obtain ⟨_, _, _, _, _, _, rfl, _, hB90, hE90, _, _⟩ := N4a.open_ hr90
  have q1 := hto.loops lp (d0a hxlp)
  have q2 := q1.head
  refine lO (S.k.b (hc90.keep (S.keepM.mono hsub) hM90)) [.x b90 p90,.v 0] rfl ⟨⟨rfl,hl90⟩,⟨hA90,by omega⟩,⟨⟩⟩ (h0a S L1c rfl rfl ?_)
  intro g17 w17 S17 X17 G17
  have GK5317 := Nat.le_trans K53.size G17
  replace K53 := K53.trans X17
  replace hm := hm.keep X17 (List.not_mem_nil)
  refine c0a (kk := 0) (vs := [_, _, _, _, _, _]) S17 J1c rfl rfl rfl rfl rfl rfl rfl ?_
  intro w27_3 S27_3 X27_3
  dsimp only [k0a, List.set] at S27_3
  replace K53 := K53.fresh X27_3 (by first | exact GK5317)
  replace hm := hm.keep X27_3 (fun hh => by rw [List.mem_singleton] at hh; exact hm.ne (S17.blk 0 rfl) hh)
  refine lO0 rfl ⟨⟩ (f2a rfl rfl ?_)
  refine lO S27_3.k [.o 0,.o 1] rfl ⟨rfl,rfl,⟨⟩⟩ (f0a S27_3 V2a rfl rfl ((show decide (0 ≤ lp.head ∧ lp.head < x.points) = true from decide_eq_true (by omega)) ▸ n2a _ _ _) ?_)
  intro w98 S98 X98
  replace K53 := K53.trans X98
  replace hm := hm.keep X98 (List.not_mem_nil)
  refine lO S98.k [.o 0] rfl ⟨rfl,⟨⟩⟩ (f0a S98 h4b rfl rfl (m5a M _ _ _ (hB90.keep (S98.keepM.mono hsub)) q1.up) ?_)
  intro w102 S102 X102
  replace K53 := K53.trans X102
  replace hm := hm.keep X102 (List.not_mem_nil)
  refine lO S102.k [.o 0] rfl ⟨rfl,⟨⟩⟩ ?_
  have hG17 : w0.heap.size ≤ g17 := by have := S.size; omega
  refine f0a S102 F7a rfl rfl (q0b M _ _ _ lp.body (D6c x.points lp.head) (hB90.keep (S102.keepM.mono hsub)) (G3b (S102.cell 1 rfl rfl) (S102.cell 0 rfl rfl) (u7a hM hG6) (u7a hM hG17)) (hM' _ S102.size) (fun c hc => decide_eq_true (by have := q1.body c hc; omega))) ?_
  intro w107 S107 X107
  replace K53 := K53.trans X107
  replace hm := hm.keep X107 (List.not_mem_nil)
  refine lO S107.k [.o 0,.o 2] rfl ⟨rfl,rfl,⟨⟩⟩ (f0a S107 H6a rfl rfl (q1.variant.1 ▸ v3a lp.variant M _ _ _ p.cells false (RdE.keep (S107.keepM.mono hsub) _ _ hE90) (hC.keep (S107.keepM.mono hsub)) (hK.keep (S107.keepM.mono hsub))) ?_)
  intro w115 S115 X115
  replace K53 := K53.trans X115
  replace hm := hm.keep X115 (List.not_mem_nil)
  refine lO S115.k [.o 0] rfl ⟨rfl,⟨⟩⟩ (f0a S115 Q7a rfl rfl ((v1b hp q1.variant.1 q1.variant.2) ▸ h6a lp.variant M _ _ _ (Y0b p t) (RdE.keep (S115.keepM.mono hsub) _ _ hE90) (hq.keep K53.of_nil) (hK.keep (S115.keepM.mono hsub)) (hM' _ S115.size)) ?_)
  intro w120 S120 X120
  replace K53 := K53.trans X120
  replace hm := hm.keep X120 (List.not_mem_nil)
  refine lP0 rfl ⟨by omega,⟨⟩⟩ ⟨μk - 1, by omega, rfl, (k + 1), (by omega), (hm), (K53), S120.tail, rfl⟩
 refine lR0 rfl ⟨⟩ (M2a rfl (by conv => lhs; whnf) (by conv => lhs; whnf) ?_)
 exact ⟨rfl, S.below, hm⟩
def m2b (k : Nat) : Nat := if k = 0 then 71 else if k = 1 then 72 else 73
def U3b (cs : Array Value) : Array Value := #[.func (.func 71) #[.agg cs] #[], .func (.func 72) #[.agg cs] #[], .func (.func 73) #[.agg cs] #[]]
theorem Y6b {cs : Array Value} {k : Nat} (h : k < 3) : (U3b cs)[(k : Int).toNat]? = some (.func (.func (m2b k)) #[.agg cs] #[]) := by
 rcases (show k = 0 ∨ k = 1 ∨ k = 2 by omega) with e | e | e <;> subst e <;> rfl
theorem P4b {k : Nat} : Has Tryz.prog (m2b k) := by
 unfold m2b
 repeat' split
 ·exact m7c
 ·exact t7c
 ·exact j7c
theorem T0c (k : Nat) (hk : k < 3) (p : e0a) (M : List Nat) (w0 : World) (cs : List Value) (hP : o1a M w0 p cs) (hp : e1a p) (hK : e3a M w0) (hM : ∀ g ∈ M, g < w0.heap.size) :
 R0a Tryz.prog (m2b k) #[.agg cs.toArray] w0 fun v w' => v = .int .i64 0 ∧ Below w0.heap.size w0 w' := by
 rcases (show k = 0 ∨ k = 1 ∨ k = 2 by omega) with e | e | e <;> subst e
 ·exact K7b p M w0 cs hP hp
 ·exact j5b p M w0 cs hP hp hK hM
 ·exact J8b p M w0 cs hP hp hK hM
theorem J6a (p : e0a) (M : List Nat) (w0 : World) (cs : List Value) (hP : o1a M w0 p cs) (hp : e1a p) (hK : e3a M w0) (hM : ∀ g ∈ M, g < w0.heap.size) :
 R0a Tryz.prog 42 #[.agg cs.toArray] w0 fun v w' => v = .tuple #[.int .i64 0, .int .i64 (-1), .int .i64 (-1)] ∧ Below w0.heap.size w0 w' := by
 obtain ⟨Ac, nc, cc, Am, nm, cm, Al, nl, cl, At, nt, ct, rfl, _, _, _, hTh, _, _, _, _, _, _, _, _⟩ := hP.open_
 have S := St.refl w0
 have hM' : ∀ w' : World, w0.heap.size ≤ w'.heap.size → ∀ g ∈ M, g < w'.heap.size := fun w' h g hg => by have := hM g hg; omega
 have hdis : p.threads.Pairwise fun a b => Value.string a.name ≠ .string b.name := hp.threadNames.imp fun h e => h (by injection e)
 refine a0a Tryz.func42 rfl Tryz.ntmps42 rfl ?_
 refine wO0 rfl ⟨⟩ (m0a S (by conv => lhs; whnf) rfl ?_)
 intro g1 w1 S1 X1 G1
 refine lO S1.k [.w 0] rfl ⟨⟨rfl,rfl⟩,⟨⟩⟩ (i1a W3c (vs := [(0, .agg _)]) (cs := [_, _, _, _]) rfl rfl rfl rfl ?_)
 refine h0a S1 L5c rfl rfl ?_
 intro g5 w5 S5 X5 G5
 refine c0a (kk := 0) (vs := [_, _, _, _]) S5 P6c rfl rfl rfl rfl rfl rfl rfl ?_
 intro w1_3 S1_3 X1_3
 dsimp only [k0a, List.set] at S1_3
 refine lO S1_3.k [.w 0] rfl ⟨⟨rfl,rfl⟩,⟨⟩⟩ (f0a S1_3 S6c rfl rfl (I6b p M _ _ (hP.keep (S1_3.keep0 M)) hp) ?_)
 intro w20 S20 X20
 refine lB0 rfl ⟨⟩ (fun h24 => by exfalso; omega) fun h24 => ?_
 refine lO S20.k [.w 0] rfl ⟨⟨rfl,rfl⟩,⟨⟩⟩ (m2a rfl rfl rfl ?_)
 refine lO S20.k [.w 0] rfl ⟨⟨rfl,rfl⟩,⟨⟩⟩ (m2a rfl rfl rfl ?_)
 refine lO S20.k [.w 0] rfl ⟨⟨rfl,rfl⟩,⟨⟩⟩ (m2a rfl rfl rfl ?_)
 refine X0a (v := .agg (U3b #[.slice Ac nc cc, .slice Am nm cm, .slice Al nl cl, .slice At nt ct])) (w' := w20) rfl rfl rfl (by simp) (by kernel_rfl) ?_
 refine lC0 rfl ⟨⟩ (wL (fun μk D ε w => D = [] ∧ ∃ k : Nat, (k + μk = (3)) ∧ St [] w0 w [(some g5, 138, [.slice Ac nc cc, .slice Am nm cm, .slice Al nl cl, .slice At nt ct]), (some g1, 27, [.slice Ac nc cc, .slice Am nm cm, .slice Al nl cl, .slice At nt ct])] ∧ Sl ε [(1, .pointer (some ⟨g1, 0, none⟩)), (5, .pointer (some ⟨g5, 0, none⟩)), (33, .agg (U3b #[.slice Ac nc cc, .slice Am nm cm, .slice Al nl cl, .slice At nt ct])), (34, .int .i64 k)]) (μ := (3)) ⟨rfl, 0, by omega, S20, rfl⟩ ?_)
 rintro μk D ε w ⟨rfl, k, hk, S, eZ⟩
 refine wK eZ (wB0 rfl ⟨⟩ (fun h35 => ?_) fun h35 => ?_)
 ·refine lO0 rfl ⟨⟩ (p4b H3c rfl rfl (by omega) (by omega) (Y6b (by omega)) rfl ?_)
  refine lO0 rfl ⟨⟩ (S8a (vs := [.agg #[.slice Ac nc cc, .slice Am nm cm, .slice Al nl cl, .slice At nt ct]]) P4b rfl rfl rfl (T0c k (by omega) p M _ _ (hP.keep (S.keep0 M)) hp (hK.keep (S.keep0 M)) (hM' _ S.size)) ?_)
  rintro v38 w38 ⟨rfl, B38⟩
  have S38 := S.later B38
  refine lB0 rfl ⟨⟩ (fun h40 => by exfalso; omega) fun h40 => ?_
  refine lP0 rfl ⟨by omega,⟨⟩⟩ ⟨μk - 1, by omega, rfl, (k + 1), (by omega), S38, rfl⟩
 refine lO0 rfl ⟨⟩ (W5a (k := 9) S rfl ?_)
 intro g43 w43 S43 X43 G43 Mp43
 have hg43 : w0.heap.size ≤ g43 := by have := S.size; omega
 refine lC S43.k [.o 1] rfl ⟨rfl,⟨⟩⟩ (wL (fun μk D ε w => D = [] ∧ ∃ k : Nat, (k + μk = (p.threads.length)) ∧ (z3a Tryz.prog 9 w g43 (v4a ((p.threads.take k).map fun c => .string c.name))) ∧ St [] w0 w [(some g5, 138, [.slice Ac nc cc, .slice Am nm cm, .slice Al nl cl, .slice At nt ct]), (some g1, 27, [.slice Ac nc cc, .slice Am nm cm, .slice Al nl cl, .slice At nt ct])] ∧ Sl ε [(5, .pointer (some ⟨g5, 0, none⟩)), (11, .map (some g43)), (45, .slice At nt ct), (46, .int .i64 nt), (47, .int .i64 k)]) (μ := (p.threads.length)) ⟨rfl, 0, by omega, (by simpa [v4a] using Mp43), S43, rfl⟩ ?_)
 rintro μk D ε w ⟨rfl, k, hk, Mp43, S, eZ⟩
 refine wK eZ (wB0 rfl ⟨⟩ (fun h48 => ?_) fun h48 => ?_)
 ·obtain ⟨x, b50, p50, _, hxx, hA50, _, hl50, hc50, hr50⟩ := RdS.get (hTh) (k) (by omega)
  obtain ⟨_, _, _, _, _, _, _, _, _, _, _, _, rfl, _, _, _, _, _, _, _, _, _, _, _, _, _⟩ := I0a.open_ hr50
  refine lO (S.k.a hc50) [.x b50 p50,.v 0] rfl ⟨⟨rfl,hl50⟩,⟨hA50,by omega⟩,⟨⟩⟩ (h0a S k2b rfl rfl ?_)
  intro g13 w13 S13 X13 G13
  replace Mp43 := Mp43.keep X13 (List.not_mem_nil)
  refine lO0 rfl ⟨⟩ (c0a (kk := 0) (vs := [_, _, _, _, _, _, _]) S13 R0b rfl rfl rfl rfl rfl rfl rfl ?_)
  intro w15_5 S15_5 X15_5
  dsimp only [k0a, List.set] at S15_5
  replace Mp43 := Mp43.keep X15_5 (fun hh => by rw [List.mem_singleton] at hh; exact Mp43.ne (S13.blk 0 rfl) hh)
  refine lO S15_5.k [.w 1,.w 0] rfl ⟨⟨rfl,by rfl⟩,⟨rfl,rfl⟩,⟨⟩⟩ ?_
  have hnew := W3a hdis hxx
  have hmore : ∀ g ∈ g43 :: M, g ∈ M ∨ w0.heap.size ≤ g := fun g hg => by exact (List.mem_cons.1 hg).elim (fun h => .inr (by omega)) .inl
  have hlt : ∀ g ∈ g43 :: M, g < w15_5.heap.size := fun g hg => by exact (List.mem_cons.1 hg).elim (fun h => h ▸ Mp43.lt) (hM' _ S15_5.size g)
  refine f3a w7c rfl rfl (j6b p k x g43 _ (g43 :: M) _ _ _ ((hP.more hmore).keep (S15_5.keep0 _)) (I0a.keep (S15_5.keep0 _) _ _ (I0a.more hmore _ _ hr50)) hp ((hK.more hmore).keep (S15_5.keep0 _)) hlt (by simp) hxx Mp43 hnew) ?_
  rintro v57 w57 ⟨rfl, B57, M57⟩
  have S57 := S15_5.turned Mp43 (.inl hg43) B57
  refine lB0 rfl ⟨⟩ (fun h61 => by exfalso; omega) fun h61 => ?_
  refine lP0 rfl ⟨by omega,⟨⟩⟩ ?_
  refine ⟨μk - 1, by omega, rfl, (k + 1), (by omega), ((by rw [g1a hxx, List.map_append]; exact M57)), S57.tail, rfl⟩
 refine lR0 rfl ⟨⟩ (Z4b rfl (by conv => lhs; whnf) (by conv => lhs; whnf) (by conv => lhs; whnf) ?_)
 exact ⟨rfl, S.fin⟩
end Go.Proofs.YtjjmdcnmeommbaaGreatDoor
namespace Go.Fw
open Go.RowKit
def E1a (p : e0a) : F0a := ⟨p.cells.map h2a.init, p.threads.map (fun t => if t.asleep then -1 else 0), p.threads.map (fun _ => [])⟩
def N3a (mem : List Int) (e : L0a) : List Int := (e.cells.zip e.values).foldl (fun m x => m.set x.1.toNat x.2) mem
def I1a (c : F0a) (t : Nat) : List Int := (c.buf.getD t []).foldl N3a c.mem
def V9a (s : List N1a) (v mem : List Int) : List Int := s.foldl (fun m a => m.set a.cell.toNat (a.to.evl v v)) mem
def r3b (p : e0a) (s : List N1a) (v : List Int) : L0a := ⟨(s.filter fun a => w1a p.cells a.cell = -1).map N1a.cell, (s.filter fun a => w1a p.cells a.cell = -1).map fun a => a.to.evl v v⟩
def S0a (p : e0a) (model : Int) (c : F0a) (t : Nat) (s : p1a) : Bool :=
 decide (c.at_.getD t 0 = s.frm) && (decide (s.guard.evl (I1a c t) (I1a c t) = 1) &&
  (if s.kind = 3 then decide (model = 0 ∨ ((c.buf.getD t []).length < 3 ∧ (s.release = true → c.buf.getD t [] = [])))
   else if s.kind = 6 then decide (c.buf.getD t [] = [] ∧ c.at_.getD s.target.toNat 0 = -1)
   else if s.kind = 7 then decide (c.buf.getD t [] = [] ∧ c.at_.getD s.target.toNat 0 = (p.threads.getD s.target.toNat ⟨ByteArray.empty, 0, [], [], [], [], false⟩).points - 1 ∧ c.buf.getD s.target.toNat [] = [])
   else if s.kind = 1 ∨ s.kind = 2 then true else decide (c.buf.getD t [] = [])))
def D2b (a b : L0a) : Bool := a.cells.any fun x => b.cells.contains x
def S3a (model : Int) (l : List L0a) (i : Nat) : Bool := decide (i = 0) || (decide (model = 2) && (List.range i).all fun k => match l[k]?, l[i]? with | some a, some b => !D2b a b | _, _ => true)
def i2a (p : e0a) (t : Nat) : List p1a := (p.threads.getD t ⟨ByteArray.empty, 0, [], [], [], [], false⟩).steps
def c6a (p : e0a) (model : Int) (c : F0a) (t : Nat) : List o0a :=
 ((List.range (i2a p t).length).filter fun i => match (i2a p t)[i]? with | some s => S0a p model c t s | none => false).map (fun (i : Nat) => (⟨t, i, 0⟩ : o0a)) ++
 ((List.range (c.buf.getD t []).length).filter (S3a model (c.buf.getD t []))).map (fun (i : Nat) => (⟨t, -1, ((c.buf.getD t []).getD i ⟨[], []⟩).cells.getD 0 0⟩ : o0a))
def T0a (p : e0a) (model : Int) (c : F0a) : List o0a := (List.range p.threads.length).flatMap (c6a p model c)
def atC (c : F0a) (t : Nat) (s : p1a) : List Int := if s.kind = 6 then (c.at_.set t s.to).set s.target.toNat 0 else c.at_.set t s.to
def D6a (p : e0a) (model : Int) (c : F0a) (t : Nat) (s : p1a) : F0a :=
 if s.kind = 3 ∧ model ≠ 0 then ⟨V9a (s.set.filter fun a => w1a p.cells a.cell ≠ -1) (I1a c t) c.mem, atC c t s, c.buf.set t (c.buf.getD t [] ++ [r3b p s.set (I1a c t)])⟩
 else ⟨V9a s.set (I1a c t) c.mem, atC c t s, c.buf⟩
def K5a (c : F0a) (t i : Nat) : F0a := ⟨N3a c.mem ((c.buf.getD t []).getD i ⟨[], []⟩), c.at_, c.buf.set t ((c.buf.getD t []).eraseIdx i)⟩
def doC (p : e0a) (model : Int) (c : F0a) (x : o0a) : F0a :=
 if x.step = -1 then K5a c x.thread.toNat (((c.buf.getD x.thread.toNat []).findIdx? fun e => e.cells.getD 0 0 = x.cell).getD 0)
 else match (i2a p x.thread.toNat)[x.step.toNat]? with | some s => D6a p model c x.thread.toNat s | none => c
section
variable {α : Type} [DecidableEq α]
variable (succ : α → List α) (a : α)
end
end Go.Fw
namespace Go.Fw
open Go.RowKit
section
variable {α : Type} [DecidableEq α] (succ : α → List α) (a : α)
inductive X1b (succ : α → List α) (a : α) : α → Prop
 | start : X1b succ a a
 | next {c d : α} (h : X1b succ a c) (hd : d ∈ succ c) : X1b succ a d
end
end Go.Fw
namespace Go.Fw
open Go.RowKit
theorem L1a {p : e0a} {m : Int} {c : F0a} {x : o0a} : x ∈ T0a p m c ↔ ∃ t, t < p.threads.length ∧
 ((∃ (i : Nat) (s : p1a), (i2a p t)[i]? = some s ∧ S0a p m c t s = true ∧ x = ⟨t, i, 0⟩) ∨
  (∃ i : Nat, i < (c.buf.getD t []).length ∧ S3a m (c.buf.getD t []) i = true ∧ x = ⟨t, -1, ((c.buf.getD t []).getD i ⟨[], []⟩).cells.getD 0 0⟩)) := by
 unfold T0a
 rw [List.mem_flatMap]
 constructor
 ·rintro ⟨t, ht, h⟩
  refine ⟨t, List.mem_range.1 ht, ?_⟩
  unfold c6a at h
  rcases List.mem_append.1 h with h | h
  ·obtain ⟨i, hi, rfl⟩ := List.mem_map.1 h
   obtain ⟨hi, he⟩ := List.mem_filter.1 hi
   split at he
   ·rename_i s hs
    exact .inl ⟨i, s, hs, he, rfl⟩
   ·cases he
  ·obtain ⟨i, hi, rfl⟩ := List.mem_map.1 h
   obtain ⟨hi, he⟩ := List.mem_filter.1 hi
   exact .inr ⟨i, List.mem_range.1 hi, he, rfl⟩
 ·rintro ⟨t, ht, h⟩
  refine ⟨t, List.mem_range.2 ht, ?_⟩
  unfold c6a
  rw [List.mem_append]
  rcases h with ⟨i, s, hs, he, rfl⟩ | ⟨i, hi, he, rfl⟩
  ·refine .inl (List.mem_map.2 ⟨i, List.mem_filter.2 ⟨List.mem_range.2 (List.getElem?_eq_some_iff.1 hs).1, ?_⟩, rfl⟩)
   simp only [hs]; exact he
  ·exact .inr (List.mem_map.2 ⟨i, List.mem_filter.2 ⟨List.mem_range.2 hi, he⟩, rfl⟩)
theorem X1b.to {α : Type} {succ succ' : α → List α} {a x : α} (hx : X1b succ a x) (h : ∀ c d, X1b succ a c → X1b succ' a c → d ∈ succ c → X1b succ' a d) : X1b succ' a x := by
 induction hx with
 | start => exact .start
 | next hc hd ih => exact h _ _ hc ih hd
end Go.Fw
namespace Go.Fw
open Go.RowKit
theorem a4b {p : e0a} {m : Int} {c : F0a} {t i : Nat} {s : p1a} (hs : (i2a p t)[i]? = some s) : doC p m c ⟨t, i, 0⟩ = D6a p m c t s := by
 unfold doC
 rw [if_neg (by simp)]
 simp only [Int.toNat_natCast, hs]
theorem z0c {p : e0a} (hp : e1a p) {t i : Nat} {s : p1a} (ht : t < p.threads.length) (hs : (i2a p t)[i]? = some s) : s5a p t (p.threads[t]).points s := by
 have := (hp.threads t ht).steps s
 unfold i2a at hs
 rw [List.getD_eq_getElem?_getD, List.getElem?_eq_getElem ht] at hs
 exact this (List.mem_of_getElem? hs)
end Go.Fw
namespace Go.Fw
open Go.RowKit
def j9b (e : L0a) : List Int := (e.cells.length : Int) :: (e.cells.zip e.values).flatMap fun x => [x.1, x.2]
def X7b (b : List L0a) : List Int := (b.length : Int) :: b.flatMap j9b
def L0a.even (e : L0a) : Prop := e.values.length = e.cells.length
structure F0a.Shape (c : F0a) (n t : Nat) : Prop where
 mem : c.mem.length = n
 at_ : c.at_.length = t
 buf : c.buf.length = t
 even : ∀ b ∈ c.buf, ∀ e ∈ b, e.even
end Go.Fw
namespace Go.Fw
open Go.RowKit
theorem e8b {e : E} {lim : Int} (h : e.good lim = true) (old now : List Int) : 0 ≤ e.val old now ∧ e.val old now < C4a e.w.toNat := by
 obtain ⟨hsh, _⟩ := r7a h
 have hw : e.w ≤ 8 := hsh.2.1
 have hb : ∀ a, 0 ≤ A6b a (C4a e.w.toNat - 1) ∧ A6b a (C4a e.w.toNat - 1) < C4a e.w.toNat := fun a => by
  rw [b7b _ _ (by omega)]
  have := t1b e.w.toNat
  exact ⟨Int.emod_nonneg _ (by omega), Int.emod_lt_of_pos _ this⟩
 rw [E.val_def]
 by_cases o1 : e.op = 1
 ·rw [if_pos o1]; have := (T3b o1).1 hsh; omega
 ·rw [if_neg o1]
  split
  ·exact hb _
  ·split
   ·exact hb _
   ·exact hb _
theorem N6a {cells : List h2a} {pair : Bool} {e : E} (h : e.valid cells pair = true) (old now : List Int) : 0 ≤ e.evl old now ∧ e.evl old now < C4a e.w.toNat := by
 obtain ⟨h1, h2, _⟩ := e5a h
 unfold E.evl
 rw [if_pos h1]
 exact e8b h2 old now
structure R4a (p : e0a) (m : List Int) : Prop where
 len : m.length = p.cells.length
 vals : ∀ (i : Nat) (v : Int), m[i]? = some v → 0 ≤ v ∧ v < C4a (wAt p.cells i).toNat
theorem R4a.set {p : e0a} {m : List Int} (h : R4a p m) {k : Nat} {v : Int} (hv : 0 ≤ v ∧ v < C4a (wAt p.cells k).toNat) : R4a p (m.set k v) := by
 refine ⟨by rw [List.length_set]; exact h.len, fun i x hi => ?_⟩
 rw [List.getElem?_set] at hi
 split at hi
 ·rename_i hk
  subst hk
  split at hi
  ·cases hi; exact hv
  ·cases hi
 ·exact h.vals i x hi
structure c0b (p : e0a) (e : L0a) : Prop where
 some_ : e.cells ≠ []
 even : e.even
 cells : ∀ (i : Nat) (n : Int), e.cells[i]? = some n → L2a n p.cells.length ∧ w1a p.cells n = -1 ∧ g0b p.cells n = decide (0 < i)
 vals : ∀ x ∈ e.cells.zip e.values, 0 ≤ x.2 ∧ x.2 < C4a (wAt p.cells x.1).toNat
 once : e.cells.Nodup
theorem R4a.write {p : e0a} {m : List Int} (h : R4a p m) {e : L0a} (he : c0b p e) : R4a p (N3a m e) := by
 unfold N3a
 have key : ∀ (l : List (Int × Int)) (m : List Int), R4a p m → (∀ x ∈ l, 0 ≤ x.1 ∧ 0 ≤ x.2 ∧ x.2 < C4a (wAt p.cells x.1).toNat) → R4a p (l.foldl (fun m x => m.set x.1.toNat x.2) m) := by
  intro l
  induction l with
  | nil => intro m h _; exact h
  | cons x l ih =>
    intro m h hl
    rw [List.foldl_cons]
    obtain ⟨h0, h1⟩ := hl x (by simp)
    exact ih _ (h.set (by rw [Int.toNat_of_nonneg h0]; exact h1)) fun y hy => hl y (by simp [hy])
 refine key _ m h fun x hx => ?_
 have hx1 := List.of_mem_zip (a := x.1) (b := x.2) hx
 obtain ⟨i, hi, hie⟩ := List.getElem_of_mem hx1.1
 have := he.cells i x.1 (by rw [List.getElem?_eq_getElem hi, hie])
 exact ⟨this.1.1, he.vals x hx⟩
end Go.Fw
namespace Go.Fw
open Go.RowKit
theorem T5c {p : e0a} {t : Nat} {n : Int} {s : p1a} (hs : s5a p t n s) (hk : s.kind = 3) (v : List Int) : c0b p (r3b p s.set v) := by
 obtain ⟨a, l, hset, ha1, ha2, hl⟩ := hs.row.k3 hk
 have hf : (s.set.filter fun a => w1a p.cells a.cell = -1) = a :: l.filter fun a => w1a p.cells a.cell = -1 := by
  rw [hset, List.filter_cons_of_pos (by simp [ha1])]
 have hmem : ∀ b ∈ s.set.filter fun a => w1a p.cells a.cell = -1, b ∈ s.set ∧ w1a p.cells b.cell = -1 := fun b hb => by
  obtain ⟨h1, h2⟩ := List.mem_filter.1 hb
  exact ⟨h1, by simpa using h2⟩
 refine ⟨?_, ?_, fun i x hi => ?_, fun x hx => ?_, ?_⟩
 ·unfold r3b; rw [hf]; simp
 ·unfold r3b L0a.even; simp
 ·unfold r3b at hi
  simp only [List.getElem?_map, Option.map_eq_some_iff] at hi
  obtain ⟨b, hb, rfl⟩ := hi
  obtain ⟨h1, h2⟩ := hmem b (List.mem_of_getElem? hb)
  refine ⟨(hs.set b h1).1, h2, ?_⟩
  rw [hf] at hb
  cases i with
  | zero => simp at hb; subst hb; simpa using ha2
  | succ i =>
    rw [List.getElem?_cons_succ] at hb
    have := hl b (List.mem_filter.1 (List.mem_of_getElem? hb)).1
    rw [this]; simp
 ·unfold r3b at hx
  simp only [List.zip_map'] at hx
  obtain ⟨b, hb, rfl⟩ := List.mem_map.1 hx
  obtain ⟨h1, h2⟩ := hmem b hb
  obtain ⟨_, h3, h4⟩ := hs.set b h1
  have := N6a h3 v v
  rw [h4] at this
  exact this
 ·unfold r3b List.Nodup
  simp only
  rw [List.pairwise_map]
  exact hs.once.filter _
theorem R4a.sets {p : e0a} {v : List Int} : ∀ (l : List N1a) (m : List Int), R4a p m → (∀ a ∈ l, L2a a.cell p.cells.length ∧ a.to.valid p.cells false = true ∧ a.to.w = wAt p.cells a.cell) → R4a p (V9a l v m)
 | [], _, h, _ => h
 | a :: l, m, h, hl => by
   obtain ⟨h1, h2, h3⟩ := hl a (by simp)
   have hr := N6a h2 v v
   rw [h3] at hr
   exact R4a.sets l _ (h.set (by rw [Int.toNat_of_nonneg h1.1]; exact hr)) fun b hb => hl b (by simp [hb])
structure D5a (p : e0a) (c : F0a) : Prop where
 mem : R4a p c.mem
 nat : c.at_.length = p.threads.length
 atr : ∀ (t : Nat) (x : Int), c.at_[t]? = some x → ∀ th, p.threads[t]? = some th → -1 ≤ x ∧ x < th.points ∧ (x = -1 → th.asleep = true)
 nbuf : c.buf.length = p.threads.length
 bufs : ∀ (t : Nat) (b : List L0a), c.buf[t]? = some b → b.length ≤ 3 ∧ (∀ e ∈ b, c0b p e) ∧ (c.at_[t]? = some (-1) → b = [])
theorem E9a {p : e0a} (hp : e1a p) : D5a p (E1a p) := by
 refine ⟨⟨by simp [E1a], fun i v hi => ?_⟩, by simp [E1a], fun t x hx th hth => ?_, by simp [E1a], fun t b hb => ?_⟩
 ·simp only [E1a, List.getElem?_map, Option.map_eq_some_iff] at hi
  obtain ⟨c, hc, rfl⟩ := hi
  have h := (hp.cells c (List.mem_of_getElem? hc)).init
  have hw : wAt p.cells i = c.w := by unfold wAt; simp [hc]
  rw [hw]; exact h
 ·simp only [E1a, List.getElem?_map, hth, Option.map_some, Option.some.injEq] at hx
  have hlt := (List.getElem?_eq_some_iff.1 hth).1
  have he := (List.getElem?_eq_some_iff.1 hth).2
  have h := (hp.threads t hlt).points
  rw [he] at h
  subst hx
  cases ha : th.asleep with
  | true => simp; omega
  | false => simp; omega
 ·simp only [E1a, List.getElem?_map, Option.map_eq_some_iff] at hb
  obtain ⟨_, _, rfl⟩ := hb
  simp
end Go.Fw
namespace Go.Fw
open Go.RowKit
theorem M4b {c : F0a} {t : Nat} {s : p1a} {u : Nat} {x : Int} (h : (atC c t s)[u]? = some x) : (u ≠ t ∧ c.at_[u]? = some x) ∨ (u = t ∧ x = s.to) ∨ (s.kind = 6 ∧ u = s.target.toNat ∧ x = 0) := by
 have key : ∀ x, (c.at_.set t s.to)[u]? = some x → (u ≠ t ∧ c.at_[u]? = some x) ∨ (u = t ∧ x = s.to) := fun x h => by
  rw [List.getElem?_set] at h
  split at h
  ·rename_i hh
   split at h
   ·cases h; exact .inr ⟨hh.symm, rfl⟩
   ·cases h
  ·rename_i hh
   exact .inl ⟨fun e => hh e.symm, h⟩
 unfold atC at h
 split at h
 ·rename_i hk
  rw [List.getElem?_set] at h
  split at h
  ·rename_i hh
   split at h
   ·cases h; exact .inr (.inr ⟨hk, hh.symm, rfl⟩)
   ·cases h
  ·rcases key x h with h | h
   ·exact .inl h
   ·exact .inr (.inl h)
 ·rcases key x h with h | h
  ·exact .inl h
  ·exact .inr (.inl h)
theorem T5a (c : F0a) (t : Nat) (s : p1a) : (atC c t s).length = c.at_.length := by
 unfold atC; split <;> simp
theorem C1b {p : e0a} (hp : e1a p) {t : Nat} {th : U0a} (h : p.threads[t]? = some th) : 1 ≤ th.points := by
 obtain ⟨hlt, rfl⟩ := List.getElem?_eq_some_iff.1 h
 exact (hp.threads t hlt).points.1
theorem a2c {p : e0a} (hp : e1a p) {c : F0a} (hf : D5a p c) {t : Nat} {s : p1a} (ht : t < p.threads.length) (hs : s5a p t (p.threads[t]).points s) :
 ∀ (u : Nat) (x : Int), (atC c t s)[u]? = some x → ∀ th, p.threads[u]? = some th → -1 ≤ x ∧ x < th.points ∧ (x = -1 → th.asleep = true) := by
 intro u x hx th hth
 rcases M4b hx with ⟨_, h⟩ | ⟨rfl, rfl⟩ | ⟨_, _, rfl⟩
 ·exact hf.atr u x h th hth
 ·obtain ⟨_, rfl⟩ := List.getElem?_eq_some_iff.1 hth
  have := hs.to
  omega
 ·have := C1b hp hth
  omega
theorem I0c {p : e0a} (hp : e1a p) {m : Int} {c : F0a} (hf : D5a p c) {t i : Nat} {s : p1a} (ht : t < p.threads.length) (hs : (i2a p t)[i]? = some s) (he : S0a p m c t s = true) : D5a p (D6a p m c t s) := by
 have hok := z0c hp ht hs
 have hsleep : ∀ u b, c.buf[u]? = some b → (atC c t s)[u]? = some (-1) → b = [] := fun u b hb hu => by
  rcases M4b hu with ⟨_, h⟩ | ⟨rfl, h⟩ | ⟨_, _, h⟩
  ·exact (hf.bufs u b hb).2.2 h
  ·have := hok.to; omega
  ·omega
 unfold D6a
 split
 ·rename_i hk
  have hlen : (c.buf.getD t []).length < 3 := by
   unfold S0a at he
   simp only [Bool.and_eq_true, if_pos hk.1, decide_eq_true_eq] at he
   rcases he.2.2 with h | h
   ·exact absurd h hk.2
   ·exact h.1
  have hlt : t < c.buf.length := by rw [hf.nbuf]; exact ht
  have hb := hf.bufs t (c.buf.getD t []) (by rw [List.getD_eq_getElem?_getD, List.getElem?_eq_getElem hlt]; rfl)
  refine ⟨R4a.sets _ _ hf.mem (fun a ha => hok.set a (List.mem_filter.1 ha).1), by simp only [T5a]; exact hf.nat, a2c hp hf ht hok, by simp only [List.length_set]; exact hf.nbuf, fun u b hu => ?_⟩
  simp only [List.getElem?_set] at hu
  split at hu
  ·rename_i htu
   subst htu
   cases hu
   refine ⟨by rw [List.length_append, List.length_singleton]; omega, fun e he' => ?_, fun hu => ?_⟩
   ·rcases List.mem_append.1 he' with h | h
    ·exact hb.2.1 e h
    ·rw [List.mem_singleton.1 h]; exact T5c hok hk.1 _
   ·exfalso
    rcases M4b hu with ⟨h, _⟩ | ⟨_, h⟩ | ⟨_, _, h⟩
    ·exact h rfl
    ·have := hok.to; omega
    ·omega
  ·exact ⟨(hf.bufs u b hu).1, (hf.bufs u b hu).2.1, hsleep u b hu⟩
 ·exact ⟨R4a.sets _ _ hf.mem (fun a ha => hok.set a ha), by simp only [T5a]; exact hf.nat, a2c hp hf ht hok, hf.nbuf, fun u b hu => ⟨(hf.bufs u b hu).1, (hf.bufs u b hu).2.1, hsleep u b hu⟩⟩
theorem C0b {p : e0a} {c : F0a} (hf : D5a p c) (t i : Nat) : D5a p (K5a c t i) := by
 unfold K5a
 refine ⟨?_, hf.nat, hf.atr, by simp only [List.length_set]; exact hf.nbuf, fun u b hu => ?_⟩
 ·by_cases hlt : t < c.buf.length
  ·have hb := hf.bufs t (c.buf.getD t []) (by rw [List.getD_eq_getElem?_getD, List.getElem?_eq_getElem hlt]; rfl)
   by_cases hi : i < (c.buf.getD t []).length
   ·rw [List.getD_eq_getElem?_getD (i := i), List.getElem?_eq_getElem hi]
    exact hf.mem.write (hb.2.1 _ (List.getElem_mem hi))
   ·rw [List.getD_eq_getElem?_getD (i := i), List.getElem?_eq_none (by omega)]
    exact hf.mem
  ·have h0 : c.buf.getD t [] = [] := by rw [List.getD_eq_getElem?_getD, List.getElem?_eq_none (by omega)]; rfl
   rw [h0]
   exact hf.mem
 ·simp only [List.getElem?_set] at hu
  split at hu
  ·rename_i htu
   subst htu
   split at hu
   ·rename_i hlt
    cases hu
    have hb := hf.bufs t (c.buf.getD t []) (by rw [List.getD_eq_getElem?_getD, List.getElem?_eq_getElem hlt]; rfl)
    refine ⟨Nat.le_trans (List.length_eraseIdx_le _ _) hb.1, fun e he => hb.2.1 e (List.mem_of_mem_eraseIdx he), fun h => ?_⟩
    rw [hb.2.2 h]; rfl
   ·cases hu
  ·exact hf.bufs u b hu
theorem A5b {p : e0a} (hp : e1a p) {m : Int} {c : F0a} (hf : D5a p c) {x : o0a} (hx : x ∈ T0a p m c) : D5a p (doC p m c x) := by
 obtain ⟨_, ht, h | h⟩ := L1a.1 hx
 ·obtain ⟨i, _, hs, he, rfl⟩ := h
  rw [a4b hs]; exact I0c hp hf ht hs he
 ·obtain ⟨i, _, he, rfl⟩ := h
  unfold doC
  rw [if_pos rfl]
  exact C0b hf _ _
end Go.Fw
namespace Go.Fw
open Go.RowKit
theorem S6a : ∀ (n : Nat) (l : List Int), l.Nodup → (∀ x ∈ l, 0 ≤ x ∧ x < n) → l.length ≤ n
 | 0, l, _, h => by
   cases l with
   | nil => simp
   | cons x l => have := h x (by simp); omega
 | n + 1, l, hd, h => by
   by_cases hn : (n : Int) ∈ l
   ·have h1 := S6a n (l.erase (n : Int)) (hd.erase _) (fun x hx => by
     obtain ⟨_, h3⟩ := (hd.mem_erase_iff).1 hx
     have := h x h3
     omega)
    rw [List.length_erase_of_mem hn] at h1
    omega
   ·have h1 := S6a n l hd (fun x hx => by
     have := h x hx
     have : x ≠ (n : Int) := fun e => hn (e ▸ hx)
     omega)
    omega
theorem c0b.len {p : e0a} {e : L0a} (h : c0b p e) : e.cells.length ≤ p.cells.length :=
 S6a _ _ h.once fun x hx => by
  obtain ⟨i, hi, rfl⟩ := List.getElem_of_mem hx
  exact (h.cells i _ (List.getElem?_eq_getElem hi)).1
theorem o7c {p : e0a} (hp : e1a p) (x : Int) : wAt p.cells x ≤ 8 := by
 unfold wAt
 split
 ·cases h : p.cells[x.toNat]? with
  | none => simp
  | some c => simpa using (hp.cells c (List.mem_of_getElem? h)).w.2
 ·omega
theorem Q5b {p : e0a} (hp : e1a p) (x : Int) : C4a (wAt p.cells x).toNat ≤ 256 := by
 have h := o7c hp x
 have h2 : (2 : Nat) ^ (wAt p.cells x).toNat ≤ 2 ^ 8 := Nat.pow_le_pow_right (by omega) (by omega)
 rw [G6a]
 omega
theorem h6b {p : e0a} (hp : e1a p) {c : F0a} (hf : D5a p c) : (∀ x ∈ c.mem, 0 ≤ x ∧ x ≤ 255) ∧ (∀ x ∈ c.at_, -1 ≤ x ∧ x ≤ 47) ∧ ∀ x ∈ c.buf.flatMap X7b, 0 ≤ x ∧ x ≤ 255 := by
 refine ⟨fun x hx => ?_, fun x hx => ?_, fun x hx => ?_⟩
 ·obtain ⟨i, hi, rfl⟩ := List.getElem_of_mem hx
  have := hf.mem.vals i _ (List.getElem?_eq_getElem hi)
  have := Q5b hp i
  omega
 ·obtain ⟨t, ht, rfl⟩ := List.getElem_of_mem hx
  have hlt : t < p.threads.length := by rw [← hf.nat]; exact ht
  have h1 := hf.atr t _ (List.getElem?_eq_getElem ht) _ (List.getElem?_eq_getElem hlt)
  have h2 := (hp.threads t hlt).points
  omega
 ·obtain ⟨b, hb, hx⟩ := List.mem_flatMap.1 hx
  obtain ⟨t, ht, rfl⟩ := List.getElem_of_mem hb
  obtain ⟨h1, h2, _⟩ := hf.bufs t _ (List.getElem?_eq_getElem ht)
  unfold X7b at hx
  rcases List.mem_cons.1 hx with rfl | hx
  ·omega
  ·obtain ⟨e, he, hx⟩ := List.mem_flatMap.1 hx
   have hE := h2 e he
   unfold j9b at hx
   rcases List.mem_cons.1 hx with rfl | hx
   ·have := hE.len
    have := hp.ncells
    omega
   ·obtain ⟨y, hy, hx⟩ := List.mem_flatMap.1 hx
    have h3 := hE.vals y hy
    have h4 := Q5b hp y.1
    obtain ⟨i, hi, hie⟩ := List.getElem_of_mem (List.of_mem_zip (a := y.1) (b := y.2) hy).1
    have h5 := (hE.cells i y.1 (by rw [List.getElem?_eq_getElem hi, hie])).1
    have h6 := hp.ncells
    obtain ⟨_, _⟩ := h5
    simp only [List.mem_cons, List.not_mem_nil, or_false] at hx
    rcases hx with rfl | rfl <;> omega
end Go.Fw
namespace Go.Fw
open Go.RowKit
section
variable {M : List Nat} {w : World}
theorem J0a.open_ {c : F0a} {cs : List Value} (h : J0a M w c cs) : ∃ Am nm cm Aa na ca Ab nb cb, cs = [.slice Am nm cm, .slice Aa na ca, .slice Ab nb cb] ∧
 RdI M w (.slice Am nm cm) c.mem ∧ RdI M w (.slice Aa na ca) c.at_ ∧ A5c M w (.slice Ab nb cb) c.buf ∧
 nm = c.mem.length ∧ na = c.at_.length ∧ nb = c.buf.length ∧ nm ≤ 140737488355328 ∧ na ≤ 140737488355328 ∧ nb ≤ 140737488355328 := by
 obtain ⟨_, _, _, rfl, h1, h2, h3⟩ := h
 obtain ⟨Am, nm, cm, rfl⟩ := h1.form
 obtain ⟨Aa, na, ca, rfl⟩ := h2.form
 obtain ⟨Ab, nb, cb, rfl⟩ := h3.form
 exact ⟨_, _, _, _, _, _, _, _, _, rfl, h1, h2, h3, h1.len.1, h2.len.1, h3.len.1, h1.len.2.2, h2.len.2.2, h3.len.2.2⟩
theorem d7a.open_ {b : List L0a} {cs : List Value} (h : d7a M w cs b) : ∃ A n c, cs = [.slice A n c] ∧ x5c M w (.slice A n c) b ∧ n = b.length ∧ n ≤ 140737488355328 := by
 obtain ⟨_, rfl, h1⟩ := h
 obtain ⟨A, n, c, rfl⟩ := h1.form
 exact ⟨_, _, _, rfl, h1, h1.len.1, h1.len.2.2⟩
theorem k1a.open_ {e : L0a} {cs : List Value} (h : k1a M w cs e) : ∃ Ac nc cc Av nv cv, cs = [.slice Ac nc cc, .slice Av nv cv] ∧ RdI M w (.slice Ac nc cc) e.cells ∧ RdI M w (.slice Av nv cv) e.values ∧ nc = e.cells.length ∧ nv = e.values.length ∧ nc ≤ 140737488355328 ∧ nv ≤ 140737488355328 := by
 obtain ⟨_, _, rfl, h1, h2⟩ := h
 obtain ⟨Ac, nc, cc, rfl⟩ := h1.form
 obtain ⟨Av, nv, cv, rfl⟩ := h2.form
 exact ⟨_, _, _, _, _, _, rfl, h1, h2, h1.len.1, h2.len.1, h1.len.2.2, h2.len.2.2⟩
end
theorem y8c {cells : List h2a} {k : Nat} {c : h2a} (h : cells[k]? = some c) : wAt cells (k : Int) = c.w := i9a (by omega) (by simpa using h)
end Go.Fw
namespace Go.Proofs.YtjjmdcnmeommbaaGreatDoor
open Go.Fw Go.RowKit
structure InP (p : e0a) (M : List Nat) (w : World) (cs : List Value) : Prop where
 rd : o1a M w p cs
 ok : e1a p
 msk : e3a M w
 lt : ∀ g ∈ M, g < w.heap.size
theorem InP.keep {p : e0a} {M : List Nat} {w w' : World} {cs : List Value} (h : InP p M w cs) (hk : G0a M w w') : InP p M w' cs :=
 ⟨h.rd.keep hk, h.ok, h.msk.keep hk, fun g hg => Nat.lt_of_lt_of_le (h.lt g hg) hk.size⟩
theorem V0b {w0 w : World} {L : List Ent} {g t k : Nat} {cs : List Value} {M : List Nat} (S : St [] w0 w L) (hk : L[k]? = some (some g, t, cs)) : ∀ x ∈ g :: M, x ∈ M ∨ w0.heap.size ≤ x := fun x hx => by
 rcases List.mem_cons.1 hx with rfl | h
 ·rcases S.new k hk with h | h
  ·exact .inr h
  ·cases h
 ·exact .inl h
theorem InP.add {p : e0a} {M : List Nat} {w0 w : World} {cs : List Value} (h : InP p M w0 cs) {L : List Ent} {g t k : Nat} {cs' : List Value} (S : St [] w0 w L) (hk : L[k]? = some (some g, t, cs')) : InP p (g :: M) w cs :=
 ⟨(h.rd.more (V0b S hk)).keep (S.keep0 _), h.ok, (h.msk.more (V0b S hk)).keep (S.keep0 _), fun x hx => by
   rcases List.mem_cons.1 hx with rfl | hx
   ·exact S.lt k hk
   ·exact Nat.lt_of_lt_of_le (h.lt x hx) S.size⟩
theorem J0a.add {c : F0a} {M : List Nat} {w0 w : World} {cs : List Value} (h : J0a M w0 c cs) {L : List Ent} {g t k : Nat} {cs' : List Value} (S : St [] w0 w L) (hk : L[k]? = some (some g, t, cs')) : J0a (g :: M) w c cs :=
 (h.more (V0b S hk)).keep (S.keep0 _)
end Go.Proofs.YtjjmdcnmeommbaaGreatDoor
set_option maxRecDepth 100000
namespace Go.Proofs.YtjjmdcnmeommbaaGreatDoor
open Go.Fw Go.RowKit Go.ChangeShapes Go.WideShapes
section
variable {H : Type} {enc : TypeId × Value → H} {P : Program} {W : World} {base : Nat} {sp : Nat → Bool} {held : Bool}
def d3a (P : Program) (t : TypeId) (d : DataW H) : Prop := ∀ m ∈ d.weights P t, m ≤ reachBytes
theorem N2a {n : Int} (h : (Lit.int .i64 n).wf = true) : i64 n := by
 simp [Lit.wf, IntKind.min, IntKind.max, IntKind.signed, IntKind.bits] at h; exact h
theorem J7b {a : Addr} {v : Value} (h : W.cell? a = some v) : a = ⟨a.block, a.off, none⟩ := by
 obtain ⟨_, _, s⟩ := a
 cases s with
 | none => rfl
 | some x => unfold World.cell? at h; split at h <;> simp at h
theorem o3b {e : TypeId} {l : List (DataW H)} {i : Nat} {d : DataW H} (hi : l[i]? = some d) : ∀ m ∈ d.weights P e, m ∈ DataW.weightsAll P e l := by
 induction l generalizing i with
 | nil => simp at hi
 | cons x xs ih =>
   intro m hm
   rw [DataW.weightsAll]
   cases i with
   | zero => simp at hi; subst hi; exact List.mem_append_left _ hm
   | succ i => exact List.mem_append_right _ (ih (by simpa using hi) m hm)
theorem z2a {α : Type} {size t e : Nat} {fuel : Nat} {R : List Value → α → Prop} {v : Value} {x : DataW H × List MemPlace} (ht : P.underlying t = some (.slice e)) (hc : P.cellsOf e = size) (hs : 0 < size) (hby : 1 ≤ P.bytesOf e)
 (hel : ∀ (n : Nat) (cs : List Value) (y : DataW H × List MemPlace), n < fuel → cs.length = size → DataW.trod enc P W base sp held n e cs = some y → d3a P e y.1 → ∃ a, R cs a)
 (h : DataW.trod enc P W base sp held fuel t [v] = some x) (hw : d3a P t x.1) : ∃ l, RdS [] W size R v l := by
 rcases DataW.trod_slice ht h with ⟨h1, h2⟩ | ⟨a, len, cap, elems, rest, n, hf, h1, h2, hb, hl, hm, hlen, hget, -, -⟩
 ·cases h1
  exact ⟨[], none, 0, 0, rfl, rfl, Nat.le_refl _, by unfold maxLen; omega, by omega, fun h => absurd h (by omega)⟩
 ·cases h1
  have hwx : d3a P t (.slice (elems.map (·.1)) (rest.map (·.1))) := by rw [h2] at hw; exact hw
  have hlen2 : len ≤ 140737488355328 := by
   have := hwx ((elems.length + rest.length) * P.bytesOf e) (by rw [DataW.weights, ht]; simp)
   have h3 : len * 1 ≤ (elems.length + rest.length) * P.bytesOf e := Nat.mul_le_mul (by omega) hby
   unfold reachBytes at this; omega
  have each : ∀ i, i < len → ∃ cs q, cs.length = size ∧ R cs q ∧ ∀ j, j < size → W.cell? ((a.add (i * size)).add j) = cs[j]? := by
   intro i hi
   have hg := hget i hi
   have hie : i < elems.length := by omega
   rw [List.getElem?_eq_getElem hie, Option.bind_eq_some_iff] at hg
   obtain ⟨cs, hcs, htr⟩ := hg
   rw [hc] at hcs
   obtain ⟨-, hcl, hcell⟩ := World.cells?_some hcs
   obtain ⟨q, hq⟩ := hel n cs _ (by omega) hcl htr (fun m hm' => by
    refine hwx m ?_
    rw [DataW.weights, ht]
    refine List.mem_cons_of_mem _ (List.mem_append_left _ (o3b (i := i) ?_ m hm'))
    rw [List.getElem?_map, List.getElem?_eq_getElem hie]; rfl)
   exact ⟨cs, q, hcl, hq, hcell⟩
  by_cases h0 : len = 0
  ·subst h0
   exact ⟨[], some a, 0, cap, rfl, rfl, hl, hm, by omega, fun h => absurd h (by omega)⟩
  ·have ha : a = ⟨a.block, a.off, none⟩ := by
    obtain ⟨cs, q, hcl, _, hcell⟩ := each 0 (by omega)
    have := hcell 0 (by omega)
    rw [List.getElem?_eq_getElem (by omega)] at this
    simp only [Nat.zero_mul, Addr.add_zero'] at this
    exact J7b this
   let f : Fin len → α := fun i => Classical.choose (Classical.choose_spec (each i.1 i.2))
   have hf' : ∀ i : Fin len, ∃ cs : List Value, cs.length = size ∧ R cs (f i) ∧ ∀ j, j < size → W.cell? ((a.add (i.1 * size)).add j) = cs[j]? := fun i =>
    ⟨Classical.choose (each i.1 i.2), Classical.choose_spec (Classical.choose_spec (each i.1 i.2))⟩
   refine ⟨List.ofFn f, some a, len, cap, rfl, by simp, hl, hm, hlen2, fun _ => ⟨a.block, a.off, by rw [← ha], by simp, fun i x hx => ?_⟩⟩
   have hi : i < len := by have := (List.getElem?_eq_some_iff.1 hx).1; simpa using this
   have hx' : x = f ⟨i, hi⟩ := by
    rw [List.getElem?_eq_getElem (by simpa using hi)] at hx
    simp at hx; exact hx.symm
   obtain ⟨cs, hcl, hR, hcell⟩ := hf' ⟨i, hi⟩
   refine ⟨cs, hcl, fun j u hj => ?_, by rw [hx']; exact hR⟩
   have hjs : j < size := by have := (List.getElem?_eq_some_iff.1 hj).1; omega
   have := hcell j hjs
   rw [hj] at this
   rw [ha] at this
   rw [Addr.add_lit, Addr.add_lit] at this
   exact this
theorem B1b {t : TypeId} {fs : Array Field} {xs : List (DataW H × List MemPlace)} {i : Nat} {f : Field} {y : DataW H × List MemPlace} (ht : P.underlying t = some (.struct fs)) (hw : d3a P t (.agg (xs.map (·.1)))) (hf : fs[i]? = some f) (hy : xs[i]? = some y) : d3a P f.type y.1 := fun m hm => by
 refine hw m ?_
 rw [DataW.weights, ht]
 refine DataW.weights_mem_each (j := i) (t := f.type) (d := y.1) ?_ ?_ m hm
 ·rw [List.getElem?_map]; simp [hf]
 ·rw [List.getElem?_map, hy]; rfl
theorem M8c {l : List Value} (h : l.length = 3) : ∃ a0 a1 a2, l = [a0, a1, a2] := by
 match l, h with
 | [a0, a1, a2], _ => exact ⟨a0, a1, a2, rfl⟩
theorem D8c {l : List Value} (h : l.length = 4) : ∃ a0 a1 a2 a3, l = [a0, a1, a2, a3] := by
 match l, h with
 | [a0, a1, a2, a3], _ => exact ⟨a0, a1, a2, a3, rfl⟩
theorem K8c {l : List Value} (h : l.length = 5) : ∃ a0 a1 a2 a3 a4, l = [a0, a1, a2, a3, a4] := by
 match l, h with
 | [a0, a1, a2, a3, a4], _ => exact ⟨a0, a1, a2, a3, a4, rfl⟩
theorem K7c {l : List Value} (h : l.length = 6) : ∃ a0 a1 a2 a3 a4 a5, l = [a0, a1, a2, a3, a4, a5] := by
 match l, h with
 | [a0, a1, a2, a3, a4, a5], _ => exact ⟨a0, a1, a2, a3, a4, a5, rfl⟩
theorem J8c {l : List Value} (h : l.length = 7) : ∃ a0 a1 a2 a3 a4 a5 a6, l = [a0, a1, a2, a3, a4, a5, a6] := by
 match l, h with
 | [a0, a1, a2, a3, a4, a5, a6], _ => exact ⟨a0, a1, a2, a3, a4, a5, a6, rfl⟩
theorem Q6c {l : List Value} (h : l.length = 11) : ∃ a0 a1 a2 a3 a4 a5 a6 a7 a8 a9 a10, l = [a0, a1, a2, a3, a4, a5, a6, a7, a8, a9, a10] := by
 match l, h with
 | [a0, a1, a2, a3, a4, a5, a6, a7, a8, a9, a10], _ => exact ⟨a0, a1, a2, a3, a4, a5, a6, a7, a8, a9, a10, rfl⟩
theorem K0a {t : TypeId} {fs : Array Field} {cs : List Value} {xs : List (DataW H × List MemPlace)} {n : Nat} (i ty off : Nat) (hlen : xs.length = fs.size) (hget : ∀ (i : Nat) (f : Field), fs[i]? = some f → DataW.trod enc P W base sp held n f.type ((cs.drop f.offset).take (P.cellsOf f.type)) = xs[i]?) (ht : P.underlying t = some (.struct fs)) (hw : d3a P t (.agg (xs.map (·.1)))) (hf : (fs[i]?).map (fun f => (f.type, f.offset)) = some (ty, off)) :
 ∃ y, DataW.trod enc P W base sp held n ty ((cs.drop off).take (P.cellsOf ty)) = some y ∧ d3a P ty y.1 := by
 cases hfi : fs[i]? with
 | none => rw [hfi] at hf; cases hf
 | some f =>
   rw [hfi] at hf
   simp only [Option.map_some, Option.some.injEq, Prod.mk.injEq] at hf
   obtain ⟨rfl, rfl⟩ := hf
   have hi : i < xs.length := by rw [hlen]; exact (Array.getElem?_eq_some_iff.1 hfi).1
   exact ⟨xs[i], by rw [hget i f hfi, List.getElem?_eq_getElem hi], B1b ht hw hfi (List.getElem?_eq_getElem hi)⟩
end
section
variable {H : Type} {enc : TypeId × Value → H} {W : World} {base : Nat} {sp : Nat → Bool} {held : Bool}
theorem i8c {n : Int} (h : (Lit.int .u8 n).wf = true) : 0 ≤ n ∧ n ≤ 255 := by simpa [Lit.wf, IntKind.min, IntKind.max, IntKind.signed, IntKind.bits] using h
theorem m5b {t : TypeId} {s : ByteArray} {y : DataW H × List MemPlace} (hx : y = (.lit (.string s.data.toList), [])) (hw : d3a Tryz.prog t y.1) : s.size ≤ 140737488355328 := by
 have h := hw s.data.toList.length (by rw [hx]; exact List.mem_singleton.2 rfl)
 have e : s.data.toList.length = s.size := Array.length_toList
 unfold reachBytes at h; omega
theorem c5b {α : Type} {M : List Nat} {w : World} {size : Nat} {R : List Value → α → Prop} {Q : α → Prop} {v : Value} {l : List α} (h : RdS M w size R v l) (hq : ∀ cs x, R cs x → Q x) : ∀ x ∈ l, Q x := fun x hx => by
 obtain ⟨_, _, _, rfl⟩ := h.form
 obtain ⟨i, hi⟩ := List.mem_iff_getElem?.1 hx
 obtain ⟨_, _, _, cs, h1, -, -, -, -, h2⟩ := RdS.get h i (List.getElem?_eq_some_iff.1 hi).1
 rw [hi] at h1; cases h1
 exact hq _ _ h2
theorem L8a : Tryz.prog.cellsOf 3 = 1 := by kernel_rfl
theorem o4b : Tryz.prog.cellsOf 4 = 1 := by kernel_rfl
theorem A9a : Tryz.prog.cellsOf 9 = 1 := by kernel_rfl
theorem c3 : Tryz.prog.cellsOf 3 = 1 := by kernel_rfl
theorem Y5c : Tryz.prog.cellsOf 54 = 1 := by kernel_rfl
theorem h2c : Tryz.prog.cellsOf 56 = 4 := by kernel_rfl
theorem o6c : 1 ≤ Tryz.prog.bytesOf 56 := of_decide_eq_true (by kernel_rfl)
theorem G8c : 1 ≤ Tryz.prog.bytesOf 3 := of_decide_eq_true (by kernel_rfl)
theorem n4a : ∀ (fuel : Nat) (cs : List Value) (x : DataW H × List MemPlace), DataW.trod enc Tryz.prog W base sp held fuel 56 cs = some x → d3a Tryz.prog 56 x.1 → ∃ e, RdE [] W e cs := by
 intro fuel
 induction fuel using Nat.strongRecOn with
 | _ fuel ih =>
 intro cs x h hw
 obtain ⟨_, _, _, hx, hl, hlen, hget⟩ := DataW.trod_struct Tryz.underlying56 h
 rw [hx] at hw
 rw [h2c] at hl
 obtain ⟨_, t0, -⟩ := K0a 0 3 0 hlen hget Tryz.underlying56 hw rfl
 obtain ⟨_, t1, -⟩ := K0a 1 3 1 hlen hget Tryz.underlying56 hw rfl
 obtain ⟨_, t2, -⟩ := K0a 2 3 2 hlen hget Tryz.underlying56 hw rfl
 obtain ⟨_, t3, w3⟩ := K0a 3 54 3 hlen hget Tryz.underlying56 hw rfl
 simp only [c3, Y5c] at t0 t1 t2 t3
 obtain ⟨_, _, _, _, rfl⟩ := D8c hl
 simp only [List.drop_succ_cons, List.drop_zero, List.take_succ_cons, List.take_zero] at t0 t1 t2 t3
 obtain ⟨m0, e0, -, f0⟩ := DataW.trod_int Tryz.underlying3 t0
 obtain ⟨m1, e1, -, f1⟩ := DataW.trod_int Tryz.underlying3 t1
 obtain ⟨m2, e2, -, f2⟩ := DataW.trod_int Tryz.underlying3 t2
 cases e0; cases e1; cases e2
 obtain ⟨ks, hks⟩ := z2a (R := fun cs e => RdE [] W e cs) Tryz.underlying54 h2c (by omega) o6c (fun k cs y hk _ hy hl => ih k (by omega) cs y hy hl) t3 w3
 obtain ⟨A, k, c, rfl, hk, hkc, hcm, hbig, hel⟩ := hks
 refine ⟨⟨m0, m1, m2, ks⟩, ?_⟩
 rw [RdE]
 refine ⟨A, k, c, rfl, N2a f0, N2a f1, N2a f2, hk, hkc, hcm, hbig, fun h0 => ?_⟩
 obtain ⟨b, o, hA, hb, hel⟩ := hel h0
 refine ⟨b, o, hA, hb, fun i hi => ?_⟩
 obtain ⟨cs', -, hc, hr⟩ := hel i ks[i] (List.getElem?_eq_getElem hi)
 exact ⟨cs', hc, hr⟩
theorem E7a {fuel : Nat} {v : Value} {x : DataW H × List MemPlace} (h : DataW.trod enc Tryz.prog W base sp held fuel 49 [v] = some x) (hw : d3a Tryz.prog 49 x.1) : ∃ l, RdI [] W v l :=
 z2a Tryz.underlying49 c3 (by omega) G8c (fun n cs y _ _ hy _ => by
  obtain ⟨m, e, -, f⟩ := DataW.trod_int Tryz.underlying3 hy
  exact ⟨m, e, N2a f⟩) h hw
theorem D6b {fuel : Nat} {v : Value} {x : DataW H × List MemPlace} (h : DataW.trod enc Tryz.prog W base sp held fuel 54 [v] = some x) (hw : d3a Tryz.prog 54 x.1) : ∃ l, W6c [] W v l :=
 z2a Tryz.underlying54 h2c (by omega) o6c (fun n cs y _ _ hy hl => n4a n cs y hy hl) h hw
theorem c4a : Tryz.prog.cellsOf 96 = 6 := by kernel_rfl
theorem D9b {fuel : Nat} {cs : List Value} {x : DataW H × List MemPlace} (h : DataW.trod enc Tryz.prog W base sp held fuel 96 cs = some x) (hw : d3a Tryz.prog 96 x.1) : ∃ c, K2a cs c ∧ c.name.size ≤ 140737488355328 := by
 obtain ⟨_, _, _, hx, hl, hlen, hget⟩ := DataW.trod_struct Tryz.underlying96 h
 rw [hx] at hw
 rw [c4a] at hl
 obtain ⟨_, t0, w0⟩ := K0a 0 9 0 hlen hget Tryz.underlying96 hw rfl
 obtain ⟨_, t1, -⟩ := K0a 1 3 1 hlen hget Tryz.underlying96 hw rfl
 obtain ⟨_, t2, -⟩ := K0a 2 3 2 hlen hget Tryz.underlying96 hw rfl
 obtain ⟨_, t3, -⟩ := K0a 3 3 3 hlen hget Tryz.underlying96 hw rfl
 obtain ⟨_, t4, -⟩ := K0a 4 4 4 hlen hget Tryz.underlying96 hw rfl
 obtain ⟨_, t5, -⟩ := K0a 5 3 5 hlen hget Tryz.underlying96 hw rfl
 simp only [A9a, L8a, o4b] at t0 t1 t2 t3 t4 t5
 obtain ⟨_, _, _, _, _, _, rfl⟩ := K7c hl
 simp only [List.drop_succ_cons, List.drop_zero, List.take_succ_cons, List.take_zero] at t0 t1 t2 t3 t4 t5
 obtain ⟨m0, e0, s0, -⟩ := DataW.trod_string Tryz.underlying9 t0
 obtain ⟨m1, e1, -, f1⟩ := DataW.trod_int Tryz.underlying3 t1
 obtain ⟨m2, e2, -, f2⟩ := DataW.trod_int Tryz.underlying3 t2
 obtain ⟨m3, e3, -, f3⟩ := DataW.trod_int Tryz.underlying3 t3
 obtain ⟨m4, e4, -⟩ := DataW.trod_bool Tryz.underlying4 t4
 obtain ⟨m5, e5, -, f5⟩ := DataW.trod_int Tryz.underlying3 t5
 cases e0; cases e1; cases e2; cases e3; cases e4; cases e5
 exact ⟨⟨m0, m1, m2, m3, m4, m5⟩, ⟨rfl, N2a f1, N2a f2, N2a f3, N2a f5⟩, m5b s0 w0⟩
theorem a8c : 1 ≤ Tryz.prog.bytesOf 96 := of_decide_eq_true (by kernel_rfl)
theorem U6b {fuel : Nat} {v : Value} {x : DataW H × List MemPlace} (h : DataW.trod enc Tryz.prog W base sp held fuel 22 [v] = some x) (hw : d3a Tryz.prog 22 x.1) : ∃ l, q3c [] W v l ∧ ∀ c ∈ l, c.name.size ≤ 140737488355328 := by
 obtain ⟨l, hl⟩ := z2a Tryz.underlying22 c4a (by omega) a8c (fun n cs y _ _ hy hl => D9b hy hl) h hw
 exact ⟨l, hl.mono (fun _ _ h => h.1), c5b hl (fun _ _ h => h.2)⟩
theorem R1a : Tryz.prog.cellsOf 56 = 4 := by kernel_rfl
theorem D3a : Tryz.prog.cellsOf 98 = 5 := by kernel_rfl
theorem R3b {fuel : Nat} {cs : List Value} {x : DataW H × List MemPlace} (h : DataW.trod enc Tryz.prog W base sp held fuel 98 cs = some x) (hw : d3a Tryz.prog 98 x.1) : ∃ c, Q0a [] W cs c := by
 obtain ⟨_, _, _, hx, hl, hlen, hget⟩ := DataW.trod_struct Tryz.underlying98 h
 rw [hx] at hw
 rw [D3a] at hl
 obtain ⟨_, t0, -⟩ := K0a 0 3 0 hlen hget Tryz.underlying98 hw rfl
 obtain ⟨_, t1, w1⟩ := K0a 1 56 1 hlen hget Tryz.underlying98 hw rfl
 simp only [L8a, R1a] at t0 t1
 obtain ⟨_, _, _, _, _, rfl⟩ := K8c hl
 simp only [List.drop_succ_cons, List.drop_zero, List.take_succ_cons, List.take_zero] at t0 t1
 obtain ⟨m0, e0, -, f0⟩ := DataW.trod_int Tryz.underlying3 t0
 obtain ⟨x1, h1⟩ := n4a _ _ _ t1 w1
 cases e0
 exact ⟨⟨m0, x1⟩, _, rfl, N2a f0, h1⟩
theorem m2c : 1 ≤ Tryz.prog.bytesOf 98 := of_decide_eq_true (by kernel_rfl)
theorem a3b {fuel : Nat} {v : Value} {x : DataW H × List MemPlace} (h : DataW.trod enc Tryz.prog W base sp held fuel 86 [v] = some x) (hw : d3a Tryz.prog 86 x.1) : ∃ l, s5c [] W v l :=
 z2a Tryz.underlying86 D3a (by omega) m2c (fun n cs y _ _ hy hl => R3b hy hl) h hw
theorem k1b : Tryz.prog.cellsOf 86 = 1 := by kernel_rfl
theorem f4a : Tryz.prog.cellsOf 88 = 11 := by kernel_rfl
theorem q7b {fuel : Nat} {cs : List Value} {x : DataW H × List MemPlace} (h : DataW.trod enc Tryz.prog W base sp held fuel 88 cs = some x) (hw : d3a Tryz.prog 88 x.1) : ∃ c, x1a [] W cs c := by
 obtain ⟨_, _, _, hx, hl, hlen, hget⟩ := DataW.trod_struct Tryz.underlying88 h
 rw [hx] at hw
 rw [f4a] at hl
 obtain ⟨_, t0, -⟩ := K0a 0 3 0 hlen hget Tryz.underlying88 hw rfl
 obtain ⟨_, t1, -⟩ := K0a 1 3 1 hlen hget Tryz.underlying88 hw rfl
 obtain ⟨_, t2, -⟩ := K0a 2 3 2 hlen hget Tryz.underlying88 hw rfl
 obtain ⟨_, t3, w3⟩ := K0a 3 56 3 hlen hget Tryz.underlying88 hw rfl
 obtain ⟨_, t4, w4⟩ := K0a 4 86 7 hlen hget Tryz.underlying88 hw rfl
 obtain ⟨_, t5, -⟩ := K0a 5 4 8 hlen hget Tryz.underlying88 hw rfl
 obtain ⟨_, t6, -⟩ := K0a 6 3 9 hlen hget Tryz.underlying88 hw rfl
 obtain ⟨_, t7, -⟩ := K0a 7 3 10 hlen hget Tryz.underlying88 hw rfl
 simp only [L8a, R1a, k1b, o4b] at t0 t1 t2 t3 t4 t5 t6 t7
 obtain ⟨_, _, _, _, _, _, _, _, _, _, _, rfl⟩ := Q6c hl
 simp only [List.drop_succ_cons, List.drop_zero, List.take_succ_cons, List.take_zero] at t0 t1 t2 t3 t4 t5 t6 t7
 obtain ⟨m0, e0, -, f0⟩ := DataW.trod_int Tryz.underlying3 t0
 obtain ⟨m1, e1, -, f1⟩ := DataW.trod_int Tryz.underlying3 t1
 obtain ⟨m2, e2, -, f2⟩ := DataW.trod_int Tryz.underlying3 t2
 obtain ⟨x3, h3⟩ := n4a _ _ _ t3 w3
 obtain ⟨x4, h4⟩ := a3b t4 w4
 obtain ⟨m5, e5, -⟩ := DataW.trod_bool Tryz.underlying4 t5
 obtain ⟨m6, e6, -, f6⟩ := DataW.trod_int Tryz.underlying3 t6
 obtain ⟨m7, e7, -, f7⟩ := DataW.trod_int Tryz.underlying3 t7
 cases e0; cases e1; cases e2; cases e5; cases e6; cases e7
 exact ⟨⟨m0, m1, m2, x3, x4, m5, m6, m7⟩, _, _, _, _, _, rfl, N2a f0, N2a f1, N2a f2, N2a f6, N2a f7, h3, h4⟩
theorem J7c : 1 ≤ Tryz.prog.bytesOf 88 := of_decide_eq_true (by kernel_rfl)
theorem J6b {fuel : Nat} {v : Value} {x : DataW H × List MemPlace} (h : DataW.trod enc Tryz.prog W base sp held fuel 57 [v] = some x) (hw : d3a Tryz.prog 57 x.1) : ∃ l, E7c [] W v l :=
 z2a Tryz.underlying57 f4a (by omega) J7c (fun n cs y _ _ hy hl => q7b hy hl) h hw
theorem n4b : Tryz.prog.cellsOf 49 = 1 := by kernel_rfl
theorem m4a : Tryz.prog.cellsOf 100 = 6 := by kernel_rfl
theorem U8b {fuel : Nat} {cs : List Value} {x : DataW H × List MemPlace} (h : DataW.trod enc Tryz.prog W base sp held fuel 100 cs = some x) (hw : d3a Tryz.prog 100 x.1) : ∃ c, N4a [] W cs c := by
 obtain ⟨_, _, _, hx, hl, hlen, hget⟩ := DataW.trod_struct Tryz.underlying100 h
 rw [hx] at hw
 rw [m4a] at hl
 obtain ⟨_, t0, -⟩ := K0a 0 3 0 hlen hget Tryz.underlying100 hw rfl
 obtain ⟨_, t1, w1⟩ := K0a 1 49 1 hlen hget Tryz.underlying100 hw rfl
 obtain ⟨_, t2, w2⟩ := K0a 2 56 2 hlen hget Tryz.underlying100 hw rfl
 simp only [L8a, n4b, R1a] at t0 t1 t2
 obtain ⟨_, _, _, _, _, _, rfl⟩ := K7c hl
 simp only [List.drop_succ_cons, List.drop_zero, List.take_succ_cons, List.take_zero] at t0 t1 t2
 obtain ⟨m0, e0, -, f0⟩ := DataW.trod_int Tryz.underlying3 t0
 obtain ⟨x1, h1⟩ := E7a t1 w1
 obtain ⟨x2, h2⟩ := n4a _ _ _ t2 w2
 cases e0
 exact ⟨⟨m0, x1, x2⟩, _, _, _, _, _, rfl, N2a f0, h1, h2⟩
theorem r8c : 1 ≤ Tryz.prog.bytesOf 100 := of_decide_eq_true (by kernel_rfl)
theorem H6b {fuel : Nat} {v : Value} {x : DataW H × List MemPlace} (h : DataW.trod enc Tryz.prog W base sp held fuel 58 [v] = some x) (hw : d3a Tryz.prog 58 x.1) : ∃ l, X7c [] W v l :=
 z2a Tryz.underlying58 m4a (by omega) r8c (fun n cs y _ _ hy hl => U8b hy hl) h hw
theorem X4b : Tryz.prog.cellsOf 54 = 1 := by kernel_rfl
theorem Y3b : Tryz.prog.cellsOf 57 = 1 := by kernel_rfl
theorem S4b : Tryz.prog.cellsOf 58 = 1 := by kernel_rfl
theorem G3a : Tryz.prog.cellsOf 60 = 7 := by kernel_rfl
theorem e4b {fuel : Nat} {cs : List Value} {x : DataW H × List MemPlace} (h : DataW.trod enc Tryz.prog W base sp held fuel 60 cs = some x) (hw : d3a Tryz.prog 60 x.1) : ∃ c, I0a [] W cs c ∧ c.name.size ≤ 140737488355328 := by
 obtain ⟨_, _, _, hx, hl, hlen, hget⟩ := DataW.trod_struct Tryz.underlying60 h
 rw [hx] at hw
 rw [G3a] at hl
 obtain ⟨_, t0, w0⟩ := K0a 0 9 0 hlen hget Tryz.underlying60 hw rfl
 obtain ⟨_, t1, -⟩ := K0a 1 3 1 hlen hget Tryz.underlying60 hw rfl
 obtain ⟨_, t2, w2⟩ := K0a 2 54 2 hlen hget Tryz.underlying60 hw rfl
 obtain ⟨_, t3, w3⟩ := K0a 3 49 3 hlen hget Tryz.underlying60 hw rfl
 obtain ⟨_, t4, w4⟩ := K0a 4 57 4 hlen hget Tryz.underlying60 hw rfl
 obtain ⟨_, t5, w5⟩ := K0a 5 58 5 hlen hget Tryz.underlying60 hw rfl
 obtain ⟨_, t6, -⟩ := K0a 6 4 6 hlen hget Tryz.underlying60 hw rfl
 simp only [A9a, L8a, X4b, n4b, Y3b, S4b, o4b] at t0 t1 t2 t3 t4 t5 t6
 obtain ⟨_, _, _, _, _, _, _, rfl⟩ := J8c hl
 simp only [List.drop_succ_cons, List.drop_zero, List.take_succ_cons, List.take_zero] at t0 t1 t2 t3 t4 t5 t6
 obtain ⟨m0, e0, s0, -⟩ := DataW.trod_string Tryz.underlying9 t0
 obtain ⟨m1, e1, -, f1⟩ := DataW.trod_int Tryz.underlying3 t1
 obtain ⟨x2, h2⟩ := D6b t2 w2
 obtain ⟨x3, h3⟩ := E7a t3 w3
 obtain ⟨x4, h4⟩ := J6b t4 w4
 obtain ⟨x5, h5⟩ := H6b t5 w5
 obtain ⟨m6, e6, -⟩ := DataW.trod_bool Tryz.underlying4 t6
 cases e0; cases e1; cases e6
 exact ⟨⟨m0, m1, x2, x3, x4, x5, m6⟩, ⟨_, _, _, _, rfl, N2a f1, h2, h3, h4, h5⟩, m5b s0 w0⟩
theorem v2c : 1 ≤ Tryz.prog.bytesOf 60 := of_decide_eq_true (by kernel_rfl)
theorem L2b {fuel : Nat} {v : Value} {x : DataW H × List MemPlace} (h : DataW.trod enc Tryz.prog W base sp held fuel 25 [v] = some x) (hw : d3a Tryz.prog 25 x.1) : ∃ l, H7c [] W v l ∧ ∀ c ∈ l, c.name.size ≤ 140737488355328 := by
 obtain ⟨l, hl⟩ := z2a Tryz.underlying25 G3a (by omega) v2c (fun n cs y _ _ hy hl => e4b hy hl) h hw
 exact ⟨l, hl.mono (fun _ _ h => h.1), c5b hl (fun _ _ h => h.2)⟩
theorem n3a : Tryz.prog.cellsOf 75 = 11 := by kernel_rfl
theorem c2b {fuel : Nat} {cs : List Value} {x : DataW H × List MemPlace} (h : DataW.trod enc Tryz.prog W base sp held fuel 75 cs = some x) (hw : d3a Tryz.prog 75 x.1) : ∃ c, c1a [] W cs c ∧ c.name.size ≤ 140737488355328 ∧ c.owner.size ≤ 140737488355328 := by
 obtain ⟨_, _, _, hx, hl, hlen, hget⟩ := DataW.trod_struct Tryz.underlying75 h
 rw [hx] at hw
 rw [n3a] at hl
 obtain ⟨_, t0, w0⟩ := K0a 0 9 0 hlen hget Tryz.underlying75 hw rfl
 obtain ⟨_, t1, w1⟩ := K0a 1 9 1 hlen hget Tryz.underlying75 hw rfl
 obtain ⟨_, t2, w2⟩ := K0a 2 56 2 hlen hget Tryz.underlying75 hw rfl
 obtain ⟨_, t3, w3⟩ := K0a 3 56 6 hlen hget Tryz.underlying75 hw rfl
 obtain ⟨_, t4, w4⟩ := K0a 4 49 10 hlen hget Tryz.underlying75 hw rfl
 simp only [A9a, R1a, n4b] at t0 t1 t2 t3 t4
 obtain ⟨_, _, _, _, _, _, _, _, _, _, _, rfl⟩ := Q6c hl
 simp only [List.drop_succ_cons, List.drop_zero, List.take_succ_cons, List.take_zero] at t0 t1 t2 t3 t4
 obtain ⟨m0, e0, s0, -⟩ := DataW.trod_string Tryz.underlying9 t0
 obtain ⟨m1, e1, s1, -⟩ := DataW.trod_string Tryz.underlying9 t1
 obtain ⟨x2, h2⟩ := n4a _ _ _ t2 w2
 obtain ⟨x3, h3⟩ := n4a _ _ _ t3 w3
 obtain ⟨x4, h4⟩ := E7a t4 w4
 cases e0; cases e1
 exact ⟨⟨m0, m1, x2, x3, x4⟩, ⟨_, _, _, _, _, _, _, _, _, rfl, h2, h3, h4⟩, m5b s0 w0, m5b s1 w1⟩
theorem o9b : 1 ≤ Tryz.prog.bytesOf 75 := of_decide_eq_true (by kernel_rfl)
theorem X9a {fuel : Nat} {v : Value} {x : DataW H × List MemPlace} (h : DataW.trod enc Tryz.prog W base sp held fuel 23 [v] = some x) (hw : d3a Tryz.prog 23 x.1) : ∃ l, L7c [] W v l ∧ ∀ c ∈ l, c.name.size ≤ 140737488355328 ∧ c.owner.size ≤ 140737488355328 := by
 obtain ⟨l, hl⟩ := z2a Tryz.underlying23 n3a (by omega) o9b (fun n cs y _ _ hy hl => c2b hy hl) h hw
 exact ⟨l, hl.mono (fun _ _ h => h.1), c5b hl (fun _ _ h => h.2)⟩
theorem h4a : Tryz.prog.cellsOf 78 = 6 := by kernel_rfl
theorem y9b {fuel : Nat} {cs : List Value} {x : DataW H × List MemPlace} (h : DataW.trod enc Tryz.prog W base sp held fuel 78 cs = some x) (hw : d3a Tryz.prog 78 x.1) : ∃ c, d4a [] W cs c := by
 obtain ⟨_, _, _, hx, hl, hlen, hget⟩ := DataW.trod_struct Tryz.underlying78 h
 rw [hx] at hw
 rw [h4a] at hl
 obtain ⟨_, t0, -⟩ := K0a 0 3 0 hlen hget Tryz.underlying78 hw rfl
 obtain ⟨_, t1, w1⟩ := K0a 1 56 1 hlen hget Tryz.underlying78 hw rfl
 obtain ⟨_, t2, -⟩ := K0a 2 3 5 hlen hget Tryz.underlying78 hw rfl
 simp only [L8a, R1a] at t0 t1 t2
 obtain ⟨_, _, _, _, _, _, rfl⟩ := K7c hl
 simp only [List.drop_succ_cons, List.drop_zero, List.take_succ_cons, List.take_zero] at t0 t1 t2
 obtain ⟨m0, e0, -, f0⟩ := DataW.trod_int Tryz.underlying3 t0
 obtain ⟨x1, h1⟩ := n4a _ _ _ t1 w1
 obtain ⟨m2, e2, -, f2⟩ := DataW.trod_int Tryz.underlying3 t2
 cases e0; cases e2
 exact ⟨⟨m0, x1, m2⟩, _, _, _, _, rfl, N2a f0, N2a f2, h1⟩
theorem S7c : 1 ≤ Tryz.prog.bytesOf 78 := of_decide_eq_true (by kernel_rfl)
theorem L6b {fuel : Nat} {v : Value} {x : DataW H × List MemPlace} (h : DataW.trod enc Tryz.prog W base sp held fuel 24 [v] = some x) (hw : d3a Tryz.prog 24 x.1) : ∃ l, t8c [] W v l :=
 z2a Tryz.underlying24 h4a (by omega) S7c (fun n cs y _ _ hy hl => y9b hy hl) h hw
theorem J4b : Tryz.prog.cellsOf 22 = 1 := by kernel_rfl
theorem L9a : Tryz.prog.cellsOf 23 = 1 := by kernel_rfl
theorem H4b : Tryz.prog.cellsOf 24 = 1 := by kernel_rfl
theorem y1b : Tryz.prog.cellsOf 25 = 1 := by kernel_rfl
theorem z5a : Tryz.prog.cellsOf 27 = 4 := by kernel_rfl
theorem t3b {fuel : Nat} {cs : List Value} {x : DataW H × List MemPlace} (h : DataW.trod enc Tryz.prog W base sp held fuel 27 cs = some x) (hw : d3a Tryz.prog 27 x.1) : ∃ c, o1a [] W c cs ∧ W4b c := by
 obtain ⟨_, _, _, hx, hl, hlen, hget⟩ := DataW.trod_struct Tryz.underlying27 h
 rw [hx] at hw
 rw [z5a] at hl
 obtain ⟨_, t0, w0⟩ := K0a 0 22 0 hlen hget Tryz.underlying27 hw rfl
 obtain ⟨_, t1, w1⟩ := K0a 1 23 1 hlen hget Tryz.underlying27 hw rfl
 obtain ⟨_, t2, w2⟩ := K0a 2 24 2 hlen hget Tryz.underlying27 hw rfl
 obtain ⟨_, t3, w3⟩ := K0a 3 25 3 hlen hget Tryz.underlying27 hw rfl
 simp only [J4b, L9a, H4b, y1b] at t0 t1 t2 t3
 obtain ⟨_, _, _, _, rfl⟩ := D8c hl
 simp only [List.drop_succ_cons, List.drop_zero, List.take_succ_cons, List.take_zero] at t0 t1 t2 t3
 obtain ⟨x0, h0⟩ := U6b t0 w0
 obtain ⟨x1, h1⟩ := X9a t1 w1
 obtain ⟨x2, h2⟩ := L6b t2 w2
 obtain ⟨x3, h3⟩ := L2b t3 w3
 exact ⟨⟨x0, x1, x2, x3⟩, ⟨_, _, _, _, rfl, h0.1, h1.1, h2, h3.1⟩, ⟨h0.2, h1.2, h3.2⟩⟩
theorem A3a : Tryz.prog.cellsOf 68 = 3 := by kernel_rfl
theorem T4b {fuel : Nat} {cs : List Value} {x : DataW H × List MemPlace} (h : DataW.trod enc Tryz.prog W base sp held fuel 68 cs = some x) (hw : d3a Tryz.prog 68 x.1) : ∃ c, J5a cs c := by
 obtain ⟨_, _, _, hx, hl, hlen, hget⟩ := DataW.trod_struct Tryz.underlying68 h
 rw [hx] at hw
 rw [A3a] at hl
 obtain ⟨_, t0, -⟩ := K0a 0 3 0 hlen hget Tryz.underlying68 hw rfl
 obtain ⟨_, t1, -⟩ := K0a 1 3 1 hlen hget Tryz.underlying68 hw rfl
 obtain ⟨_, t2, -⟩ := K0a 2 3 2 hlen hget Tryz.underlying68 hw rfl
 simp only [L8a] at t0 t1 t2
 obtain ⟨_, _, _, rfl⟩ := M8c hl
 simp only [List.drop_succ_cons, List.drop_zero, List.take_succ_cons, List.take_zero] at t0 t1 t2
 obtain ⟨m0, e0, -, f0⟩ := DataW.trod_int Tryz.underlying3 t0
 obtain ⟨m1, e1, -, f1⟩ := DataW.trod_int Tryz.underlying3 t1
 obtain ⟨m2, e2, -, f2⟩ := DataW.trod_int Tryz.underlying3 t2
 cases e0; cases e1; cases e2
 exact ⟨⟨m0, m1, m2⟩, rfl, N2a f0, N2a f1, N2a f2⟩
theorem Q2c : 1 ≤ Tryz.prog.bytesOf 68 := of_decide_eq_true (by kernel_rfl)
theorem I3b {fuel : Nat} {v : Value} {x : DataW H × List MemPlace} (h : DataW.trod enc Tryz.prog W base sp held fuel 28 [v] = some x) (hw : d3a Tryz.prog 28 x.1) : ∃ l, C2b [] W v l :=
 z2a Tryz.underlying28 A3a (by omega) Q2c (fun n cs y _ _ hy hl => T4b hy hl) h hw
theorem Z7b {W : World} : ∀ {l : List (String × DataW Unit)} {ps : List MemPlace}, DataW.LaidVars Tryz.prog W l ps → ∀ {i : Nat} {x : String × DataW Unit}, l[i]? = some x →
 ∃ g t cs fuel p, Tryz.prog.globalNamed x.1 = some g ∧ (Tryz.prog.globals[g]?).map (·.type) = some t ∧ W.var? Tryz.prog x.1 = some cs ∧ DataW.trod (fun _ => ()) Tryz.prog W 0 (fun _ => true) false fuel t cs.toList = some (x.2, p)
 | [], _, _, _, _, hi => by simp at hi
 | y :: l, ps, h, 0, x, hi => by
   obtain ⟨g0, t0, cs0, f0, p0, q0, hg0, ht0, hv0, hd0, -⟩ := h
   cases hi
   exact ⟨g0, t0, cs0, f0, p0, hg0, ht0, hv0, hd0⟩
 | y :: l, ps, h, i + 1, x, hi => by
   obtain ⟨g0, t0, cs0, f0, p0, q0, hg0, ht0, hv0, hd0, hr, -⟩ := h
   exact Z7b hr (by simpa using hi)
theorem b7c : Tryz.prog.globalNamed ((Rows.monitorPrefixesRow.laid[0]?.map (·.1)).getD "") = some 0 := by kernel_rfl
theorem c6c : (Tryz.prog.globals[0]?).map (·.type) = some 148 := by kernel_rfl
theorem y6c : Tryz.prog.cellsOf 148 = 9 := by kernel_rfl
theorem P1b {W : World} (h : laidMetH Tryz.prog Rows.monitorPrefixesRow.laid W) : e3a [] W := by
 rw [MakeChecks.laidMetH_plain _ _ _ (by kernel_rfl)] at h
 obtain ⟨_, hall, -⟩ := h
 obtain ⟨_, _, cs0, _, _, hg0, ht0, hv0, hd0⟩ := Z7b hall (i := 0) rfl
 obtain rfl := Option.some.inj (b7c.symm.trans hg0)
 obtain rfl := Option.some.inj (c6c.symm.trans ht0)
 obtain ⟨xs, _, rfl, hx1, hlen, _, hel⟩ := DataW.trod_array Tryz.underlying148 hd0
 rw [y6c] at hlen
 simp only [c3, Nat.mul_one] at hel
 refine ⟨by simp, fun i hi => ?_⟩
 have hcell := World.var?_cell hg0 hv0 i
 have hi9 : i < xs.length := by omega
 have he := hel i (by omega)
 rw [List.getElem?_eq_getElem hi9] at he
 obtain ⟨k, e1, e2, -⟩ := DataW.trod_int Tryz.underlying3 he
 have hil : i < cs0.toList.length := by omega
 have e1' : cs0.toList[i]? = some (.int .i64 k) := by
  have h1 : ((cs0.toList.drop i).take 1)[0]? = some (Value.int .i64 k) := by rw [e1]; rfl
  rw [List.getElem?_take, if_pos (by omega), List.getElem?_drop] at h1
  simpa using h1
 rw [hcell]
 have e3 : cs0[i]? = some (.int .i64 k) := by simpa using e1'
 rw [e3]
 have hx1 : (DataW.agg _ = DataW.agg _ ∧ _) := Prod.mk.inj hx1
 have hx1 := DataW.agg.inj hx1.1
 have e4 : (xs.map (·.1))[i]? = some (.lit (.int .i64 k)) := by rw [List.getElem?_map, List.getElem?_eq_getElem hi9, e2]; rfl
 rw [← hx1] at e4
 rcases (show i = 0 ∨ i = 1 ∨ i = 2 ∨ i = 3 ∨ i = 4 ∨ i = 5 ∨ i = 6 ∨ i = 7 ∨ i = 8 by omega) with rfl | rfl | rfl | rfl | rfl | rfl | rfl | rfl | rfl <;> (cases e4; rfl)
end
end Go.Proofs.YtjjmdcnmeommbaaGreatDoor
namespace Go.Proofs.YtjjmdcnmeommbaaGreatDoor
open Go.Fw Go.RowKit Go.ChangeShapes Go.WideShapes
theorem own : ownKnob Tryz.prog.godebug = none := by kernel_rfl
theorem n4c : laidOutB Tryz.prog = true := by kernel_rfl
abbrev R6a : List (String × DataW Unit) := Rows.monitorPrefixesRow.laid
theorem Y0c (os : Os) (args : Array Value) : laidMetH Tryz.prog R6a ((World.doorLaid Tryz.prog 400 os).forCall (fun _ _ => 0) ⟨#[], args, []⟩).memory :=
 laidMetH_of_parts3 (fuel := 8) (laidMet_of_run' 8 (by kernel_rfl) (by kernel_rfl)) (by kernel_rfl) (by kernel_rfl)
theorem T8b {H : Type} {enc : TypeId × Value → H} {W W' : World} (hb : Below W.heap.size W W') : ∀ (ts : List TypeId), (∀ t ∈ ts, Tryz.prog.readableRec t = true ∧ t < Tryz.prog.types.size) → ∀ (vs : List Value) (ds : List (DataW H)) (p : List MemPlace),
 (∀ x ∈ p, x.block < W.heap.size) → DataW.TrodAll enc Tryz.prog W 0 (fun _ => true) true ts vs ds p → DataW.TrodAll enc Tryz.prog W' 0 (fun b => decide (b < W.heap.size)) true ts vs ds p := by
 intro ts
 induction ts with
 | nil =>
   intro _ vs ds p _ h
   cases vs <;> cases ds <;> exact h
 | cons t ts ih =>
   intro ht vs ds p hp h
   cases vs with
   | nil => exact h.elim
   | cons v vs =>
     cases ds with
     | nil => exact h.elim
     | cons d ds =>
       obtain ⟨q, r, h1, h2, rfl⟩ := h
       obtain ⟨r1, r2⟩ := ht t (by simp)
       exact ⟨q, r, Below.trod n4c r1 r2 h1 hb (fun x hx => hp x (List.mem_append_left _ hx)), ih (fun t ht' => ht t (by simp [ht'])) vs ds r (fun x hx => hp x (List.mem_append_right _ hx)) h2, rfl⟩
theorem A7b {H : Type} {enc : TypeId × Value → H} {fn : Func} {s : ChangeSpec} {W W' : World} {args : Array Value} {ds : List (DataW H)} {before : List MemPlace} (hs : s.vars = []) (hr : fn.resultTypes = #[4])
 (hts : ∀ t ∈ fn.params.toList, Tryz.prog.readableRec t = true ∧ t < Tryz.prog.types.size) (hW : DataW.Whole enc Tryz.prog fn.params.toList s.vars false W args.toList ds [] before)
 (e1 : (s.fn H (ds ++ [])).results = [.lit (.bool true)]) (e2 : (s.fn H (ds ++ [])).args = ds) (e3 : (s.fn H (ds ++ [])).vars = []) (hb : Below W.heap.size W W') :
 s.post enc Tryz.prog fn false true false false W args (.bool true) W' := by
 have hlt := hW.lt
 obtain ⟨_, _, hA, hV, hpq, _, _⟩ := id hW
 rw [hs] at hV
 obtain ⟨-, rfl⟩ := trodVars_none hV
 rw [List.append_nil] at hpq
 subst hpq
 refine ⟨ds, [], before, [], before, [], hW, ?_, ?_, ?_, hb.frame _, fun h => by cases h⟩
 ·rw [e1, hr]; exact trodAll_mk1 (shut_bool Tryz.underlying4 true)
 ·rw [e2]; exact T8b hb _ hts _ _ _ hlt hA
 ·rw [e3, hs]; rfl
theorem y5b {H : Type} {ts : List TypeId} {ds : List (DataW H)} (h : (DataW.weightsEach Tryz.prog ts ds).all (· ≤ reachBytes) = true) {j : Nat} {t : TypeId} {d : DataW H} (ht : ts[j]? = some t) (hd : ds[j]? = some d) : d3a Tryz.prog t d := fun m hm => by
 have := List.all_eq_true.1 h m (DataW.weights_mem_each ht hd m hm)
 simpa using this
theorem A1b {f : FuncId} {args : Array Value} {W : World} {R : Value → World → Prop} {Q : Ending → World → Prop} (h : R0a Tryz.prog f args W R) (hQ : ∀ v W', R v W' → Q (.returned v) W') : Calls Tryz.prog f args W Q :=
 Calls.mono h fun _ _ ⟨v, he, hv⟩ => he ▸ hQ v _ hv
end Go.Proofs.YtjjmdcnmeommbaaGreatDoor
namespace Go.Fw
open Go.RowKit
section
variable {P : Program} {r : Option Nat} {N : Nat} {l : List Oper} {D : List Deferred} {C : World → Prop} {V : Nat → Option (FuncId × Array Value × Value)} {K : Env → World → Prop}
def FL (P : Program) (N : Nat) (l : List Oper) (C : World → Prop) (V : Nat → Option (FuncId × Array Value × Value)) (K : Env → World → Prop) (lo : Nat) : List Nat → Env → List Nat → (World → Prop) → Prop
 | [], e, _, Φ => ∀ w, C w → Φ w → K e w
 | i :: rest, e, gs, Φ => ∃ o d, l[i]? = some o ∧ o.dst = some d ∧ d < N ∧
  ((∃ v, PV P l C o e v ∧ FL P N l C V K lo rest (upd e d v) gs Φ) ∨
   (∃ (mk : Nat → Value) (t : TypeId) (cs : List Value), b1a l.toArray e o = true ∧
     (∀ w, C w → ∃ w', (execOp (ev e) o).run P w = .ok (.value (mk w.heap.size)) w' ∧ C w' ∧ G0a [] w w' ∧ w'.heap.size = w.heap.size + 1 ∧ w0a w' (w.heap.size, t, cs)) ∧
     ∀ g, lo ≤ g → g ∉ gs → FL P N l C V K lo rest (upd e d (mk g)) (g :: gs) (fun w => Φ w ∧ w0a w (g, t, cs))) ∨
   (∃ f args v, V i = some (f, args, v) ∧ b1a l.toArray e o = true ∧ (∀ w, C w → (execOp (ev e) o).run P w = .ok (.enter f args) w) ∧ FL P N l C V K lo rest (upd e d v) gs Φ))
theorem FL.mono {lo lo' : Nat} : ∀ (R : List Nat) (e : Env) (gs gs' : List Nat) (Φ Φ' : World → Prop), (∀ g, lo' ≤ g → g ∉ gs' → lo ≤ g ∧ g ∉ gs) → (∀ w, Φ' w → Φ w) → FL P N l C V K lo R e gs Φ → FL P N l C V K lo' R e gs' Φ'
 | [], e, gs, gs', Φ, Φ', _, hΦ, h => fun w hC hw => h w hC (hΦ w hw)
 | i :: R, e, gs, gs', Φ, Φ', hg, hΦ, h => by
   obtain ⟨o, d, h1, h2, h3, h4⟩ := h
   refine ⟨o, d, h1, h2, h3, ?_⟩
   rcases h4 with ⟨v, h5, h6⟩ | ⟨mk, t, cs, h5, h6, h7⟩ | ⟨f, args, v, h5, h6, h7, h8⟩
   ·exact .inl ⟨v, h5, FL.mono R _ gs gs' Φ Φ' hg hΦ h6⟩
   rotate_left
   ·exact .inr (.inr ⟨f, args, v, h5, h6, h7, FL.mono R _ gs gs' Φ Φ' hg hΦ h8⟩)
   ·refine .inr (.inl ⟨mk, t, cs, h5, h6, fun g h8 h9 => ?_⟩)
    refine FL.mono R _ (g :: gs) (g :: gs') _ _ (fun x hx hn => ?_) (fun w hw => ⟨hΦ w hw.1, hw.2⟩) (h7 g (hg g h8 h9).1 (hg g h8 h9).2)
    simp only [List.mem_cons, not_or] at hn ⊢
    exact ⟨(hg x hx hn.2).1, hn.1, (hg x hx hn.2).2⟩
def I8c : Result Next → Nat
 | .ok _ w => w.heap.size
 | _ => 0
def szE (P : Program) (l : List Oper) (o : Oper) (e : Env) (w : World) : Nat := bif b1a l.toArray e o then I8c ((execOp (ev e) o).run P w) else 0
theorem D9a {o : Oper} {e e' : Env} {w : World} (hs : Op.isSelect o.op = false) (h : ∀ s ∈ Oper.looksAt l.toArray o, e s = e' s) : szE P l o e w = szE P l o e' w := by
 unfold szE; rw [V0a h, t1a hs h]
theorem O2b (a b : Nat) (gs : List Nat) : ∃ g, a ≤ g ∧ b ≤ g ∧ g ∉ gs := by
 have : ∀ gs : List Nat, ∃ m, ∀ g ∈ gs, g < m := by
  intro gs
  induction gs with
  | nil => exact ⟨0, by simp⟩
  | cons x gs ih =>
    obtain ⟨m, hm⟩ := ih
    refine ⟨max m (x + 1), fun g hg => ?_⟩
    rcases List.mem_cons.1 hg with rfl | h
    ·omega
    ·have := hm g h; omega
 obtain ⟨m, hm⟩ := this gs
 exact ⟨max m (max a b), by omega, by omega, fun h => by have := hm _ h; omega⟩
def S4a (P : Program) (N : Nat) (l : List Oper) (C : World → Prop) (V : Nat → Option (FuncId × Array Value × Value)) (K : Env → World → Prop) (lo : Nat) (R : List Nat) (i : Nat) (o : Oper) (d : Nat) (e : Env) (gs : List Nat) (Φ : World → Prop) (w : World) : Prop :=
 (b1a l.toArray e o = true ∧ ∃ v w', (execOp (ev e) o).run P w = .ok (.value v) w' ∧ C w' ∧ G0a [] w w' ∧ FL P N l C V K w'.heap.size R (upd e d v) gs (fun w1 => Φ w1 ∧ G0a [] w' w1)) ∨
 (b1a l.toArray e o = false ∧ FL P N l C V K lo R (upd e d undef) gs Φ) ∨
 (b1a l.toArray e o = true ∧ ∃ f args v, V i = some (f, args, v) ∧ (execOp (ev e) o).run P w = .ok (.enter f args) w ∧ ∀ w', C w' → G0a [] w w' → FL P N l C V K w'.heap.size R (upd e d v) gs (fun w1 => Φ w1 ∧ G0a [] w' w1))
theorem FL.first (hpl : X4a l = true) {i : Nat} {post : List Nat} {lo : Nat} {w : World} (hC : C w) (hlo : lo ≤ w.heap.size) : ∀ (pre : List Nat) (e : Env) (gs : List Nat) (Φ : World → Prop), (∀ j ∈ pre, P8a l (fun _ => true) j i = true) →
 (∀ o, l[i]? = some o → ∀ g ∈ gs, szE P l o e w ≤ g) → FL P N l C V K lo (pre ++ i :: post) e gs Φ →
 ∃ o d, l[i]? = some o ∧ o.dst = some d ∧ d < N ∧ S4a P N l C V K lo (pre ++ post) i o d e gs Φ w := by
 intro pre
 induction pre with
 | nil =>
   intro e gs Φ _ hsz h
   obtain ⟨o, d, ho, hd, hN, h⟩ := h
   refine ⟨o, d, ho, hd, hN, ?_⟩
   rcases h with ⟨v, ⟨h1, h2⟩ | ⟨h1, rfl⟩, h3⟩ | ⟨mk, t, cs, h1, h2, h3⟩ | ⟨f, args, v, h1, h2, h3, h4⟩
   rotate_right
   ·exact .inr (.inr ⟨h2, f, args, v, h1, h3 w hC, fun w' _ hk => FL.mono _ _ gs gs Φ _ (fun g hg hn => ⟨by have := hk.size; omega, hn⟩) (fun _ hw => hw.1) h4⟩)
   ·exact .inl ⟨h1, v, w, h2 w hC, hC, G0a.refl _ _, FL.mono _ _ gs gs Φ _ (fun g hg hn => ⟨by omega, hn⟩) (fun _ hw => hw.1) h3⟩
   ·exact .inr (.inl ⟨h1, h3⟩)
   ·obtain ⟨w', h4, h5, h6, h7, h8⟩ := h2 w hC
    refine .inl ⟨h1, _, w', h4, h5, h6, ?_⟩
    have hs := hsz o ho
    unfold szE at hs
    rw [h1, h4] at hs
    refine FL.mono _ _ (w.heap.size :: gs) gs _ _ (fun g hg hn => ?_) (fun w1 hw => ⟨hw.1, H1a hw.2 h8⟩) (h3 w.heap.size hlo (fun hm => by have : w'.heap.size ≤ w.heap.size := hs _ hm; omega))
    simp only [List.mem_cons, not_or]
    exact ⟨by omega, by omega, hn⟩
 | cons q pre ih =>
   intro e gs Φ hind hsz h
   obtain ⟨p, c, hp, hc, hcN, h⟩ := h
   have hq := hind q (by simp)
   have hind' : ∀ j ∈ pre, P8a l (fun _ => true) j i = true := fun j hj => hind j (by simp [hj])
   have hnone : ∀ {o : Oper} {d : Nat} (u : Value), l[i]? = some o → o.dst = some d → (∀ s ∈ Oper.looksAt l.toArray o, upd e c u s = e s) ∧ c ≠ d ∧ d ∉ Oper.looksAt l.toArray p := fun {o d} u ho hd => by
    obtain ⟨_, hcd, hdp, hco⟩ := P7a hq hp ho hc hd
    exact ⟨fun s hs => D1a hco hs, hcd, hdp⟩
   rcases h with ⟨u, hu, h⟩ | ⟨mk, t, cs, h1, h2, h3⟩ | ⟨f, args, u, hV, hwt, hu, h⟩
   rotate_right
   ·obtain ⟨o, d, ho, hd, hN, hF⟩ := ih (upd e c u) gs Φ hind' (fun o ho g hg => by
     cases hd : o.dst with
     | none =>
       exfalso
       unfold P8a at hq
       simp [hp, ho, hc, hd] at hq
     | some d => rw [D9a (E0a hpl ho).1 (hnone u ho hd).1]; exact hsz o ho g hg) h
    obtain ⟨ha, hcd, hdp⟩ := hnone u ho hd
    refine ⟨o, d, ho, hd, hN, ?_⟩
    have hpa : ∀ v, ∀ s ∈ Oper.looksAt l.toArray p, upd e d v s = e s := fun v s hs => D1a hdp hs
    unfold S4a at hF ⊢
    rw [V0a ha, t1a (E0a hpl ho).1 ha] at hF
    rcases hF with ⟨hw, v, w', h4, h5, h6, h7⟩ | ⟨hw, h7⟩ | ⟨hw, f', args', v, hV', h4, h7⟩
    ·refine .inl ⟨hw, v, w', h4, h5, h6, p, c, hp, hc, hcN, .inr (.inr ⟨f, args, u, hV, by rw [V0a (hpa v)]; exact hwt, by rw [t1a (E0a hpl hp).1 (hpa v)]; exact hu, ?_⟩)⟩
     rw [← v2a _ _ _ hcd]; exact h7
    ·refine .inr (.inl ⟨hw, p, c, hp, hc, hcN, .inr (.inr ⟨f, args, u, hV, by rw [V0a (hpa _)]; exact hwt, by rw [t1a (E0a hpl hp).1 (hpa _)]; exact hu, ?_⟩)⟩)
     rw [← v2a _ _ _ hcd]; exact h7
    ·refine .inr (.inr ⟨hw, f', args', v, hV', h4, fun w' hC' hk' => ⟨p, c, hp, hc, hcN, .inr (.inr ⟨f, args, u, hV, by rw [V0a (hpa v)]; exact hwt, by rw [t1a (E0a hpl hp).1 (hpa v)]; exact hu, ?_⟩)⟩⟩)
     rw [← v2a _ _ _ hcd]; exact h7 w' hC' hk'
   ·obtain ⟨o, d, ho, hd, hN, hF⟩ := ih (upd e c u) gs Φ hind' (fun o ho g hg => by
     cases hd : o.dst with
     | none =>
       exfalso
       unfold P8a at hq
       simp [hp, ho, hc, hd] at hq
     | some d => rw [D9a (E0a hpl ho).1 (hnone u ho hd).1]; exact hsz o ho g hg) h
    obtain ⟨ha, hcd, hdp⟩ := hnone u ho hd
    refine ⟨o, d, ho, hd, hN, ?_⟩
    unfold S4a at hF ⊢
    rw [V0a ha, t1a (E0a hpl ho).1 ha] at hF
    rcases hF with ⟨hw, v, w', h4, h5, h6, h7⟩ | ⟨hw, h7⟩ | ⟨hw, f, args, v, hV, h4, h7⟩
    rotate_right
    ·refine .inr (.inr ⟨hw, f, args, v, hV, h4, fun w' hC' hk' => ⟨p, c, hp, hc, hcN, .inl ⟨u, hu.congr (E0a hpl hp).1 (fun s hs => (D1a hdp hs).symm), ?_⟩⟩⟩)
     rw [← v2a _ _ _ hcd]; exact h7 w' hC' hk'
    ·refine .inl ⟨hw, v, w', h4, h5, h6, p, c, hp, hc, hcN, .inl ⟨u, hu.congr (E0a hpl hp).1 (fun s hs => (D1a hdp hs).symm), ?_⟩⟩
     rw [← v2a _ _ _ hcd]; exact h7
    ·refine .inr (.inl ⟨hw, p, c, hp, hc, hcN, .inl ⟨u, hu.congr (E0a hpl hp).1 (fun s hs => (D1a hdp hs).symm), ?_⟩⟩)
     rw [← v2a _ _ _ hcd]; exact h7
   ·have key : ∀ g, lo ≤ g → g ∉ gs → (∀ o, l[i]? = some o → szE P l o e w ≤ g) → ∃ o d, l[i]? = some o ∧ o.dst = some d ∧ d < N ∧ S4a P N l C V K lo (pre ++ post) i o d (upd e c (mk g)) (g :: gs) (fun w => Φ w ∧ w0a w (g, t, cs)) w := fun g hg hn hs => by
     refine ih (upd e c (mk g)) (g :: gs) _ hind' (fun o ho x hx => ?_) (h3 g hg hn)
     cases hd : o.dst with
     | none =>
       exfalso
       unfold P8a at hq
       simp [hp, ho, hc, hd] at hq
     | some d =>
       rw [D9a (E0a hpl ho).1 (hnone (mk g) ho hd).1]
       rcases List.mem_cons.1 hx with rfl | hx
       ·exact hs o ho
       ·exact hsz o ho x hx
    have h4 : ∃ o d, l[i]? = some o ∧ o.dst = some d ∧ d < N := by
     cases ho : l[i]? with
     | none => unfold P8a at hq; simp [ho] at hq
     | some o =>
       obtain ⟨g0, hg0, hb0, hn0⟩ := O2b lo (szE P l o e w) gs
       obtain ⟨o', d, ho', hd, hN, _⟩ := key g0 hg0 hn0 (fun o' ho' => by rw [ho] at ho'; cases ho'; exact hb0)
       rw [ho] at ho'; cases ho'
       exact ⟨o, d, rfl, hd, hN⟩
    obtain ⟨o, d, ho, hd, hN⟩ := h4
    have key2 : ∀ g, lo ≤ g → g ∉ gs → szE P l o e w ≤ g → S4a P N l C V K lo (pre ++ post) i o d (upd e c (mk g)) (g :: gs) (fun w => Φ w ∧ w0a w (g, t, cs)) w := fun g hg hn hs => by
     obtain ⟨o', d', ho', hd', _, hF⟩ := key g hg hn (fun o' ho' => by rw [ho] at ho'; cases ho'; exact hs)
     obtain rfl : o' = o := Option.some.inj (ho'.symm.trans ho)
     obtain rfl : d' = d := Option.some.inj (hd'.symm.trans hd)
     exact hF
    refine ⟨o, d, ho, hd, hN, ?_⟩
    obtain ⟨g0, hg0, hb0, hn0⟩ := O2b lo (szE P l o e w) gs
    have hcd := (hnone .nilFunc ho hd).2.1
    have hdp := (hnone .nilFunc ho hd).2.2
    have ha : ∀ u, ∀ s ∈ Oper.looksAt l.toArray o, upd e c u s = e s := fun u => (hnone u ho hd).1
    have hpa : ∀ v, ∀ s ∈ Oper.looksAt l.toArray p, upd e d v s = e s := fun v s hs => D1a hdp hs
    have hF0 := key2 g0 hg0 hn0 hb0
    unfold S4a at hF0 ⊢
    rw [V0a (ha _), t1a (E0a hpl ho).1 (ha _)] at hF0
    rcases hF0 with ⟨hw, v, w', h4, h5, h6, -⟩ | ⟨hw, -⟩ | ⟨hw, f, args, v, hV, h4, -⟩
    rotate_right
    ·have hsz' : szE P l o e w = w.heap.size := by unfold szE; rw [hw, h4]; rfl
     refine .inr (.inr ⟨hw, f, args, v, hV, h4, fun w' hC' hk' => ⟨p, c, hp, hc, hcN, .inr (.inl ⟨mk, t, cs, by rw [V0a (hpa v)]; exact h1, by rw [t1a (E0a hpl hp).1 (hpa v)]; exact h2, fun g hg hn => ?_⟩)⟩⟩)
     have hks := hk'.size
     have hF := key2 g (by omega) hn (by omega)
     unfold S4a at hF
     rw [V0a (ha _), t1a (E0a hpl ho).1 (ha _)] at hF
     rcases hF with ⟨_, v', w'', h4', _⟩ | ⟨hw', _⟩ | ⟨_, f', args', v', hV', _, h7⟩
     ·rw [h4] at h4'; cases h4'
     ·rw [hw] at hw'; cases hw'
     ·rw [hV] at hV'; cases hV'
      rw [← v2a _ _ _ hcd]
      exact FL.mono _ _ (g :: gs) (g :: gs) _ _ (fun x hx hn => ⟨hx, hn⟩) (fun w1 hw1 => ⟨⟨hw1.1.1, hw1.2⟩, hw1.1.2⟩) (h7 w' hC' hk')
    ·have hsz' : szE P l o e w = w'.heap.size := by unfold szE; rw [hw, h4]; rfl
     refine .inl ⟨hw, v, w', h4, h5, h6, p, c, hp, hc, hcN, .inr (.inl ⟨mk, t, cs, by rw [V0a (hpa v)]; exact h1, by rw [t1a (E0a hpl hp).1 (hpa v)]; exact h2, fun g hg hn => ?_⟩)⟩
     have hF := key2 g (by have := h6.size; omega) hn (by omega)
     unfold S4a at hF
     rw [V0a (ha _), t1a (E0a hpl ho).1 (ha _)] at hF
     rcases hF with ⟨_, v', w'', h4', _, _, h7⟩ | ⟨hw', _⟩ | ⟨_, _, _, _, _, h4', _⟩
     rotate_right
     ·rw [h4] at h4'; cases h4'
     ·rw [h4] at h4'; cases h4'
      rw [← v2a _ _ _ hcd]
      exact FL.mono _ _ (g :: gs) (g :: gs) _ _ (fun x hx hn => ⟨hx, hn⟩) (fun w1 hw1 => ⟨⟨hw1.1.1, hw1.2⟩, hw1.1.2⟩) h7
     ·rw [hw] at hw'; cases hw'
    ·refine .inr (.inl ⟨hw, p, c, hp, hc, hcN, .inr (.inl ⟨mk, t, cs, by rw [V0a (hpa _)]; exact h1, by rw [t1a (E0a hpl hp).1 (hpa _)]; exact h2, fun g hg hn => ?_⟩)⟩)
     have hsz' : szE P l o e w = 0 := by unfold szE; rw [hw]; rfl
     have hF := key2 g hg hn (by omega)
     unfold S4a at hF
     rw [V0a (ha _), t1a (E0a hpl ho).1 (ha _)] at hF
     rcases hF with ⟨hw', _⟩ | ⟨_, h7⟩ | ⟨hw', _⟩
     rotate_right
     ·rw [hw] at hw'; cases hw'
     ·rw [hw] at hw'; cases hw'
     ·rw [← v2a _ _ _ hcd]
      exact h7
theorem f9a {id : Nat} {n t : List Deferred → Env → World → Prop} {b : Nat → List Deferred → Env → World → Prop} {e : Env} {w : World} (hm : P.follows .mixedOrders = true) (ix : List Nat)
 (m : Nat) (hok : D3b l (fun _ => true) m = true) (hix : (List.range m == ix) = true) (C : World → Prop) (hC : C w.drew) (V : Nat → Option (FuncId × Array Value × Value)) (hV : ∀ i f args v, V i = some (f, args, v) → ∀ w, C w → R0a P f args w fun u w' => u = v ∧ C w' ∧ G0a [] w w') (ol : Oper) (hol : l[m]? = some ol)
 (h : FL P N l C V (fun e w => WL P r N l.toArray [ol] (fun D' e' w' => D' = D ∧ n D e' w') D e w) w.heap.size ix e [] (fun _ => True)) : W P r N (.region id l.toArray true) ⟨n, b, t⟩ D e w := by
 obtain rfl : List.range m = ix := eq_of_beq hix
 generalize hKd : (fun (e : Env) (w : World) => WL P r N l.toArray [ol] (fun D' e' w' => D' = D ∧ n D e' w') D e w) = K' at h
 unfold D3b at hok
 simp only [Bool.and_eq_true, decide_eq_true_eq] at hok
 obtain ⟨⟨⟨⟨hpl, hac⟩, hin⟩, hlast⟩, _⟩ := hok
 have hlw : ∀ j, j < m → j ∈ o4a l m := fun j hj => by
  have := List.all_eq_true.1 hlast j (List.mem_range.2 hj)
  simpa using this
 refine Q4b hm hac (fun f e w => (∀ i, f i = true → ∀ j ∈ n1a l i, f j = true) ∧ ((f m = false ∧ C w ∧ ∃ lo Φ, lo ≤ w.heap.size ∧ (∀ w w', Φ w → G0a [] w w' → Φ w') ∧ Φ w ∧ FL P N l C V K' lo (j7a m f) e [] Φ) ∨ (f m = true ∧ n D e w))) ⟨by simp, .inl ⟨rfl, hC, w.heap.size, fun _ => True, Nat.le_refl _, fun _ _ _ _ => trivial, trivial, ?_⟩⟩ ?_ ?_
 ·have : j7a m (fun _ => false) = List.range m := by unfold j7a; simp
  rw [this]; exact h
 ·rintro f e w i o ⟨hcl, hM⟩ ho hfi hpr
  have hil0 : i < l.length := (List.getElem?_eq_some_iff.1 ho).1
  have hcl' : ∀ k, (f k || k == i) = true → ∀ j ∈ n1a l k, (f j || j == i) = true := by
   intro k hk j hj
   simp only [Bool.or_eq_true, beq_iff_eq] at hk ⊢
   rcases hk with hk | rfl
   ·exact .inl (hcl k hk j hj)
   ·exact .inl (hpr j hj)
  rcases hM with ⟨hfm, hCw, lo, Φ, hlo, hst, hΦ, hM⟩ | ⟨hfm, -⟩
  rotate_left
  ·have := B3a hcl l.length (n1a l m) (hcl m hfm) i (hlw i (by
    rcases Nat.lt_or_ge i m with h | h
    ·exact h
    ·have : i = m := by omega
     subst this; rw [hfi] at hfm; cases hfm))
   rw [hfi] at this; cases this
  by_cases him : i = m
  ·subst him
   obtain rfl : ol = o := Option.some.inj (hol.symm.trans ho)
   have hall : ∀ j, j < i → f j = true := fun j hj => B3a hcl _ _ hpr j (hlw j hj)
   have hrem : j7a i f = [] := by
    unfold j7a; rw [List.filter_eq_nil_iff]; intro j hj; simp [hall j (List.mem_range.1 hj)]
   rw [hrem] at hM
   have h4 := hM w hCw hΦ
   rw [← hKd] at h4
   clear hM h hKd
   unfold WL at *
   refine fun a Q hs hD he hK => h4 a Q hs hD he (fun a' w' hs' hh => hK a' w' hs' ?_)
   exact ⟨hh.1, hcl', .inr ⟨by simp, hh.2⟩⟩
  have hil : i < m := by omega
  have hfm' : (f m || m == i) = false := by simp [hfm]; omega
  obtain ⟨pre, _, h1, h2, h3⟩ := E8a (m := m) f hil hfi
  rw [h1] at hM
  have hwt : ∀ j ∈ o4a l i, f j = true := B3a hcl _ _ hpr
  obtain ⟨o', _, ho', hd, hN, h4⟩ := FL.first hpl hCw hlo pre e [] Φ (fun j hj => by
   have := List.all_eq_true.1 (List.all_eq_true.1 hin i (List.mem_range.2 hil)) j (List.mem_range.2 (h3 j hj).1)
   simp only [Bool.or_eq_true, List.contains_eq_mem, decide_eq_true_eq] at this
   rcases this with h | h
   ·have := hwt j h; rw [(h3 j hj).2] at this; cases this
   ·exact h) (by simp) hM
  obtain rfl : o' = o := Option.some.inj (ho'.symm.trans ho)
  rcases h4 with ⟨hw, v, w', hv, hC', hk', h4⟩ | ⟨hw, h4⟩ | ⟨hw, f', args, v, hVi, hv, h4⟩
  rotate_right
  ·unfold WL; intro a Q hs hD he hK
   simp only [wpListIn]
   have hw' : Region.wanted o' (yielded l.toArray a.tmps) = true := by rw [s1a, he]; exact hw
   simp only [hw', if_true]
   refine ⟨z0a _ _ _, ?_⟩
   rw [Oper.semAt_eq _ _ _ (E0a hpl ho).2, k2a, he, hv, Oper.uponIn_enter]
   refine ⟨fun hh => by simp [fc, Fence.wide] at hh, K4a (Calls.mono (hV _ _ _ _ hVi w hCw) ?_)⟩
   rintro en w' ⟨u, rfl, rfl, hC', hk'⟩
   rw [hd]
   refine hK _ _ (by simp [Act.put, hs]) ⟨by simp [Act.put, hD], ?_⟩
   rw [h1a u (by rw [hs]; exact hN), he]
   exact ⟨hcl', .inl ⟨hfm', hC', w'.heap.size, (fun w1 => Φ w1 ∧ G0a [] w' w1), Nat.le_refl _, fun w1 w2 h5 h6 => ⟨hst _ _ h5.1 h6, h5.2.trans h6⟩, ⟨hst _ _ hΦ hk', G0a.refl _ _⟩, by rw [h2]; exact h4 w' hC' hk'⟩⟩
  ·unfold WL; intro a Q hs hD he hK
   simp only [wpListIn]
   have hw' : Region.wanted o' (yielded l.toArray a.tmps) = true := by rw [s1a, he]; exact hw
   simp only [hw', if_true]
   refine ⟨z0a _ _ _, ?_⟩
   rw [Oper.semAt_eq _ _ _ (E0a hpl ho).2, k2a, he, hv, Oper.uponIn_value]
   refine hK _ _ (by simp [Act.put, hd, hs]) ⟨by simp [Act.put, hd, hD], ?_⟩
   rw [hd, h1a v (by rw [hs]; exact hN), he]
   exact ⟨hcl', .inl ⟨hfm', hC', w'.heap.size, (fun w1 => Φ w1 ∧ G0a [] w' w1), Nat.le_refl _, fun w1 w2 h5 h6 => ⟨hst _ _ h5.1 h6, h5.2.trans h6⟩, ⟨hst _ _ hΦ hk', G0a.refl _ _⟩, by rw [h2]; exact h4⟩⟩
  ·unfold WL; intro a Q hs hD he hK
   simp only [wpListIn]
   have hw' : Region.wanted o' (yielded l.toArray a.tmps) = false := by rw [s1a, he]; exact hw
   simp only [hw']
   refine ⟨z0a _ _ _, ?_⟩
   refine hK _ _ (by simp [Act.put, hd, hs]) ⟨by simp [Act.put, hd, hD], ?_⟩
   rw [hd, h1a undef (by rw [hs]; exact hN), he]
   exact ⟨hcl', .inl ⟨hfm', hCw, lo, Φ, hlo, hst, hΦ, by rw [h2]; exact h4⟩⟩
 ·rintro f e w ⟨hcl, hM⟩ hall
  rcases hM with ⟨hfm, -⟩ | ⟨-, hM⟩
  ·have := hall m (by omega); rw [hfm] at this; cases this
  ·exact hM
theorem U1c {id : Nat} {n t : List Deferred → Env → World → Prop} {b : Nat → List Deferred → Env → World → Prop} {e : Env} {w : World} (hm : P.follows .mixedOrders = true) (ix : List Nat)
 (m : Nat) (hok : D3b l (fun _ => true) m = true) (hix : (List.range m == ix) = true) (C : World → Prop) (hC : C w.drew) (ol : Oper) (hol : l[m]? = some ol)
 (h : FL P N l C (fun _ => none) (fun e w => WL P r N l.toArray [ol] (fun D' e' w' => D' = D ∧ n D e' w') D e w) w.heap.size ix e [] (fun _ => True)) : W P r N (.region id l.toArray true) ⟨n, b, t⟩ D e w :=
 f9a hm ix m hok hix C hC (fun _ => none) (fun _ _ _ _ h => nomatch h) ol hol h
variable {lo : Nat} {gs : List Nat} {Φ : World → Prop} {e : Env} {w w0 : World} {L : List Ent} {M : List Nat}
theorem w0b (h : ∀ w, C w → Φ w → K e w) : FL P N l C V K lo [] e gs Φ := h
theorem o7a {i : Nat} {rest : List Nat} {o : Oper} (ho : l[i]? = some o) (hv : P9b o.op = true) (h : QL P N l.toArray C [o] (fun e' => FL P N l C V K lo rest e' gs Φ) e) : FL P N l C V K lo (i :: rest) e gs Φ := by
 unfold QL at h
 obtain ⟨pa, hl, hq, hk⟩ := h
 obtain ⟨d, v, h1, h2, h3, h4⟩ := hq 0 o rfl
 obtain rfl : pa = [(d, v)] := by
  match pa, hl, h1 with
  | [x], _, h1 => simpa using h1
 refine ⟨o, d, ho, h2, h3, .inl ⟨v, ?_, hk⟩⟩
 rcases h4 with ⟨h5, h6⟩ | h5
 ·refine .inl ⟨h5, fun w hw => ?_⟩
  rcases h6 w hw with h7 | ⟨f, args, h7, _⟩
  ·exact h7
  ·obtain ⟨_, hv'⟩ := z6a hv h7; cases hv'
 ·exact .inr h5
theorem K0b {i d : Nat} {rest : List Nat} {x : Operand} {ty size n c : Nat} {t : TypeId} {p : String} {af : Array Edge} {A : Option Addr} (ho : l[i]? = some ⟨some d, .call { callee := .builtin .len, args := #[x], argTypes := #[ty] }, t, p, af, none⟩) (hT : SlT P ty size) (hx : ev e x = .slice A n c) (hd : Nat.ble (d + 1) N = true)
 (h : FL P N l C V K lo rest (upd e d (.int .i64 n)) gs Φ) : FL P N l C V K lo (i :: rest) e gs Φ := by
 obtain ⟨_, hu, _⟩ := hT
 exact ⟨_, d, ho, rfl, Nat.le_of_ble_eq_true hd, .inl ⟨_, .inl ⟨rfl, fun w _ => by simp [execOp, resolve, invoke, builtin, Builtin.len_, hx, run_underlying hu, goInt]⟩, h⟩⟩
theorem B9b {i d t : Nat} {rest : List Nat} {o : Oper} {mk : Nat → Value} {cs : List Value} (ho : l[i]? = some o) (hd : o.dst = some d) (hN : Nat.ble (d + 1) N = true) (hw : b1a l.toArray e o = true)
 (hrun : ∀ w1, Cl M w0 w L w1 → (execOp (ev e) o).run P w1 = .ok (.value (mk w1.heap.size)) (w1.alloc (.cells cs.toArray t (0, 0))))
 (h : ∀ g, lo ≤ g → g ∉ gs → FL P N l (Cl M w0 w L) V K lo rest (upd e d (mk g)) (g :: gs) (fun w => Φ w ∧ w0a w (g, t, cs))) : FL P N l (Cl M w0 w L) V K lo (i :: rest) e gs Φ :=
 ⟨o, d, ho, hd, Nat.le_of_ble_eq_true hN, .inr (.inl ⟨mk, t, cs, hw, fun w1 hC => ⟨_, hrun w1 hC, Cl.alloc _ _ hC, I2a _ _ _, by simp, by unfold w0a; show (w1.heap.push _)[w1.heap.size]? = _; simp⟩, h⟩)⟩
theorem g7a {i d el : Nat} {t : TypeId} {p : String} {af : Array Edge} {gd : Option (Nat × Bool)} {z : Value} {cs : List Value} {rest : List Nat}
 (ho : l[i]? = some ⟨some d, .alloc el, t, p, af, gd⟩) (hN : Nat.ble (d + 1) N = true) (hw : b1a l.toArray e ⟨some d, .alloc el, t, p, af, gd⟩ = true) (hz : ∀ w, (zeroValue el).run P w = .ok z w) (hcs : z.cells.toList = cs)
 (h : ∀ g, lo ≤ g → g ∉ gs → FL P N l (Cl M w0 w L) V K lo rest (upd e d (.pointer (some ⟨g, 0, none⟩))) (g :: gs) (fun w => Φ w ∧ w0a w (g, el, cs))) : FL P N l (Cl M w0 w L) V K lo (i :: rest) e gs Φ := by
 refine B9b (mk := fun g => .pointer (some ⟨g, 0, none⟩)) ho rfl hN hw (fun w1 _ => ?_) h
 subst hcs
 simp [execOp, Instr.alloc, newVar, newRow, hz]
theorem K9a {i d : Nat} {rest : List Nat} {t : TypeId} {p : String} {af : Array Edge} {args : Array Operand} {at_ : Array TypeId} {f : FuncId} {vs : List Value} {v : Value} (hH : Has P f)
 (ho : l[i]? = some ⟨some d, .call { callee := .value (.func f), args := args, argTypes := at_ }, t, p, af, none⟩) (hN : Nat.ble (d + 1) N = true)
 (hw : b1a l.toArray e ⟨some d, .call { callee := .value (.func f), args := args, argTypes := at_ }, t, p, af, none⟩ = true) (hvs : args.toList.map (ev e) = vs) (hV : V i = some (f, vs.toArray, v))
 (h : FL P N l C V K lo rest (upd e d v) gs Φ) : FL P N l C V K lo (i :: rest) e gs Φ := by
 refine ⟨_, d, ho, rfl, Nat.le_of_ble_eq_true hN, .inr (.inr ⟨f, vs.toArray, v, hV, hw, fun w1 _ => ?_, h⟩)⟩
 subst hvs
 have : (args.map (ev e)) = (args.toList.map (ev e)).toArray := by apply Array.ext'; simp
 simp [execOp, resolve, Deferred.ofValue, invoke, ev, hH _ w1, this]
theorem y3a {i d ty el size bytes n : Nat} {t : TypeId} {p : String} {af : Array Edge} {gd : Option (Nat × Bool)} {z : Value} {parts : Array (Nat × Operand)} {vs : List Value} {cs : List Value} {rest : List Nat}
 (ho : l[i]? = some ⟨some d, .buildSlice ty n parts, t, p, af, gd⟩) (hN : Nat.ble (d + 1) N = true) (hw : b1a l.toArray e ⟨some d, .buildSlice ty n parts, t, p, af, gd⟩ = true) (hS : SlZ P ty el size z bytes)
 (hvs : parts.toList.map (fun q => (q.1, ev e q.2)) = (vs.zipIdx 0).map fun q => (q.2, q.1)) (hn : vs.length = n) (h0 : Nat.ble 1 n = true) (hbig : Nat.ble (n * size) 16777216 = true) (hv : vs.map (·.cells.size) = List.replicate n size)
 (hcs : vs.flatMap (·.cells.toList) = cs)
 (h : ∀ g, lo ≤ g → g ∉ gs → FL P N l (Cl M w0 w L) V K lo rest (upd e d (.slice (some ⟨g, 0, none⟩) n n)) (g :: gs) (fun w => Φ w ∧ w0a w (g, el, cs))) : FL P N l (Cl M w0 w L) V K lo (i :: rest) e gs Φ := by
 have hp : (parts.map fun (i, x) => (i, ev e x)) = ((vs.zipIdx 0).map fun q => (q.2, q.1)).toArray := by rw [← hvs]; apply Array.ext'; simp
 have hv' : ∀ v ∈ vs, v.cells.size = size := fun v hm => by
  have : v.cells.size ∈ vs.map (·.cells.size) := List.mem_map.2 ⟨v, hm, rfl⟩
  rw [hv] at this; exact (List.mem_replicate.1 this).2
 refine B9b (mk := fun g => .slice (some ⟨g, 0, none⟩) n n) (t := el) (cs := cs) ho rfl hN hw (fun w1 _ => ?_) h
 have hrun := z4a hS hn (Nat.le_of_ble_eq_true h0) (Nat.le_of_ble_eq_true hbig) hv' w1
 subst hcs
 simp only [execOp, hp, Sem.run_bind, hrun, Result.andThen_ok, Sem.run_pure]
theorem I7a {i d : Nat} {t : TypeId} {p : String} {af : Array Edge} {gd : Option (Nat × Bool)} {x y : Operand} {rest : List Nat}
 {ty el bytes n c : Nat} {z : Value} {kl kc : IntKind} (ho : l[i]? = some ⟨some d, .makeSlice ty x y, t, p, af, gd⟩) (hN : Nat.ble (d + 1) N = true) (hw : b1a l.toArray e ⟨some d, .makeSlice ty x y, t, p, af, gd⟩ = true)
 (hS : SlZ P ty el 1 z bytes) (hx : ev e x = .int kl (n : Int)) (hy : ev e y = .int kc (c : Int)) (hnc : n ≤ c) (hb : bytes * c ≤ 140737488355328) (hc : c ≤ 140737488355328)
 (hz1 : z.cells = #[z])
 (h : ∀ g, lo ≤ g → g ∉ gs → FL P N l (Cl M w0 w L) V K lo rest (upd e d (.slice (some ⟨g, 0, none⟩) n c)) (g :: gs) (fun w => Φ w ∧ w0a w (g, el, List.replicate c z))) : FL P N l (Cl M w0 w L) V K lo (i :: rest) e gs Φ := by
 obtain ⟨ii, hi, hz, hsz, hby⟩ := hS.parts
 have hbb : (ii.bytes : Int) * (c : Int) ≤ 281474976710656 := by
  have : ((bytes * c : Nat) : Int) ≤ 281474976710656 := by omega
  rw [hby]; rwa [Int.natCast_mul] at this
 refine B9b (mk := fun g => .slice (some ⟨g, 0, none⟩) n c) (t := el) (cs := List.replicate c z) ho rfl hN hw (fun w1 _ => ?_) h
 have hr := run_make (P := P) w1 ty el ii z hS.und hi hz kl kc n c (by omega) (by omega) hbb (by omega)
 have hm : madeCells z.cells (c * ii.size) = (List.replicate c z).toArray := by
  rw [hz1, hsz, Nat.mul_one]
  apply Array.ext
  ·simp [madeCells]
  ·intro j h1 h2
   simp [madeCells, Nat.mod_one]
 simp only [Int.toNat_natCast, hm] at hr
 simp only [execOp, hx, hy, Sem.run_bind, hr, Result.andThen_ok, Sem.run_pure]
end
end Go.Fw
namespace Go.Fw
open Go.RowKit
section
variable {α : Type}
def W2a (l : List α) (z : α) (k : Nat) : List α := l.take k ++ List.replicate (l.length - k) z
theorem w6a (l : List α) (z : α) : W2a l z 0 = List.replicate l.length z := by simp [W2a]
theorem O7a (l : List α) (z : α) {k : Nat} (h : l.length ≤ k) : W2a l z k = l := by
 unfold W2a; rw [List.take_of_length_le h, Nat.sub_eq_zero_of_le h]; simp
@[simp] theorem u1c (l : List α) (z : α) (k : Nat) : (W2a l z k).length = l.length := by
 unfold W2a; simp; omega
theorem A7a {l : List α} {z v : α} {k i : Nat} (h : l[k]? = some v) (hi : i = k) : (W2a l z k).set i v = W2a l z (k + 1) := by
 subst hi
 obtain ⟨hlt, rfl⟩ := List.getElem?_eq_some_iff.1 h
 unfold W2a
 rw [List.set_append_right _ _ (by simp; omega)]
 have h1 : l.length - i = (l.length - (i + 1)) + 1 := by omega
 rw [h1, List.replicate_succ]
 simp only [List.length_take, Nat.min_eq_left (Nat.le_of_lt hlt), Nat.sub_self, List.set_cons_zero]
 rw [g1a h, List.append_assoc]
 rfl
theorem c4b {l : List α} {z : α} {k : Nat} (h : l[k]? = some z) : W2a l z k = W2a l z (k + 1) := by
 obtain ⟨_, _⟩ := List.getElem?_eq_some_iff.1 h
 unfold W2a
 have h1 : l.length - k = (l.length - (k + 1)) + 1 := by omega
 rw [h1, List.replicate_succ, g1a h]
 simp
end
theorem St.setEnt {M : List Nat} {w0 w : World} {L : List Ent} (S : St M w0 w L) (j : Nat) {G : Option Nat} {t : TypeId} {cs cs' : List Value} (hj : L[j]? = some (G, t, cs)) (h : cs = cs') : St M w0 w (L.set j (G, t, cs')) := by
 subst h
 have : L.set j (G, t, cs) = L := by
  obtain ⟨_, he⟩ := List.getElem?_eq_some_iff.1 hj
  rw [← he]; simp
 rw [this]; exact S
theorem St.rdInts {M M' : List Nat} {w0 w : World} {L : List Ent} (S : St M' w0 w L) (j : Nat) {g t n : Nat} {l : List Int} (hj : L[j]? = some (some g, t, l.map (Value.int .i64))) (hg : g ∉ M) (hn : n = l.length) (hbig : n ≤ 140737488355328) (hl : ∀ x ∈ l, i64 x) : RdI M w (.slice (some ⟨g, 0, none⟩) n n) l :=
 S.rd1 hj hg hn hbig fun i x hi => ⟨.int .i64 x, by simp [hi], rfl, hl x (List.mem_of_getElem? hi)⟩
theorem j2a {α : Type} {M : List Nat} {w : World} {size : Nat} {R : List Value → α → Prop} : RdS M w size R (.slice none 0 0) [] := ⟨none, 0, 0, rfl, rfl, Nat.le_refl _, by unfold maxLen; omega, by omega, fun h => absurd h (by omega)⟩
theorem St.rdBufs {M M' : List Nat} {w0 w : World} {L : List Ent} (S : St M' w0 w L) (j : Nat) {g t n : Nat} {l : List (List L0a)} (hj : L[j]? = some (some g, t, List.replicate n (.slice none 0 0))) (hg : g ∉ M) (hn : n = l.length) (hbig : n ≤ 140737488355328) (hl : ∀ b ∈ l, b = []) : A5c M w (.slice (some ⟨g, 0, none⟩) n n) l :=
 S.rd1 hj hg hn hbig fun i x hi => by
  obtain rfl := hl x (List.mem_of_getElem? hi)
  have := (List.getElem?_eq_some_iff.1 hi).1
  exact ⟨.slice none 0 0, by rw [List.getElem?_replicate, if_pos (by omega)], _, rfl, j2a⟩
@[simp] theorem F9b (p : e0a) : (E1a p).mem.length = p.cells.length := by simp [E1a]
@[simp] theorem q0c (p : e0a) : (E1a p).at_.length = p.threads.length := by simp [E1a]
theorem W4a {p : e0a} (hp : e1a p) {m : List Int} (h : R4a p m) : ∀ x ∈ m, i64 x := fun x hx => by
 obtain ⟨i, hi, rfl⟩ := List.getElem_of_mem hx
 have := h.vals i _ (List.getElem?_eq_getElem hi)
 have := Q5b hp i
 unfold i64; omega
theorem d8a {p : e0a} (hp : e1a p) {c : F0a} (h : D5a p c) : ∀ x ∈ c.at_, i64 x := fun x hx => by
 have := (h6b hp h).2.1 x hx
 unfold i64; omega
end Go.Fw
