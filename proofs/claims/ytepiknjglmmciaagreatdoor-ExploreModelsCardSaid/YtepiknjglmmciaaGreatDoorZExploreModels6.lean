/-
  Part 6 of 9 of the proof of ExploreModels: what it leans on. No conditions.
-/
import Derived.Test.YtepiknjglmmciaaGreatDoorZExploreModels5
import Derived.Laws.Cover3
set_option maxRecDepth 100000
set_option maxHeartbeats 4000000
namespace Go.Proofs.YtepiknjglmmciaaGreatDoor
end Go.Proofs.YtepiknjglmmciaaGreatDoor
namespace Go.Fw
open Go.Proofs.YtepiknjglmmciaaGreatDoor Go.Proofs Go.RowKit
structure w3c (p : f0a) (m : Int) (run : List A0a) (l : Nat) (Bs0 M0 : List Nat) (w0 : World) (J : Nat → Nat → List Nat → World → Prop) (Q : World → Prop) : Prop where
 start : ∀ g5 w, w0.heap.size ≤ g5 → Below w0.heap.size w0 w → J g5 0 Bs0 w
 own : ∀ g5 k Bs w w', w0.heap.size ≤ g5 → g5 ∉ Bs → J g5 k Bs w → v0a [g5] w w' → J g5 k Bs w'
 lt : ∀ g5 k Bs w, J g5 k Bs w → ∀ g ∈ Bs, g < w.heap.size
 each : ∀ g5 k Bs w c ys (err : Int), w0.heap.size ≤ g5 → g5 < w.heap.size → g5 ∉ Bs → J g5 k Bs w → w0a Bs0 w0 w → ((err = 0 ∧ (H8c p m run)[k]? = some c) ∨ (err = 110 ∧ k = (H8c p m run).length ∧ (H8c p m run).length ≤ run.length ∧ c = ⟨[], [], []⟩)) → t0a (g5 :: (Bs ++ M0)) w c ys →
  Yld Tryz.prog l #[.agg ys.toArray, .int .i64 err] w fun v w' => (err = 0 ∧ v = .bool true ∧ ∃ Bs', J g5 (k + 1) Bs' w' ∧ w0a Bs w w' ∧ ∀ g ∈ Bs', g ∈ Bs ∨ w.heap.size ≤ g) ∨ (err = 110 ∧ v = .bool false ∧ Q w')
section
variable {p : f0a} {m : Int} {run : List A0a} {l : Nat} {Bs0 M0 : List Nat} {w0 : World} {J : Nat → Nat → List Nat → World → Prop} {Q : World → Prop}
theorem w3c.round (h : w3c p m run l Bs0 M0 w0 J Q) : ∀ g5 k Bs w c ys, w0.heap.size ≤ g5 → g5 < w.heap.size → g5 ∉ Bs → J g5 k Bs w → w0a Bs0 w0 w → (H8c p m run)[k]? = some c → t0a (g5 :: (Bs ++ M0)) w c ys → Yld Tryz.prog l #[.agg ys.toArray, .int .i64 0] w fun v w' => v = .bool true ∧ ∃ Bs', J g5 (k + 1) Bs' w' ∧ w0a Bs w w' ∧ ∀ g ∈ Bs', g ∈ Bs ∨ w.heap.size ≤ g :=
 fun g5 k Bs w c ys h1 h2 h3 h4 h5 h6 h7 => (h.each g5 k Bs w c ys 0 h1 h2 h3 h4 h5 (.inl ⟨rfl, h6⟩) h7).mono fun v w' hh => by
  rcases hh with ⟨_, hh⟩ | ⟨hh, _⟩
  ·exact hh
  ·omega
end
theorem t0a.grow {c : q0a} {ys : List Value} {g5 : Nat} {Bs Bs' M0 : List Nat} {w w' : World} (h : t0a (g5 :: (Bs ++ M0)) w c ys) (hk : w0a Bs w w') (hb : ∀ g ∈ Bs', g ∈ Bs ∨ w.heap.size ≤ g) : t0a (g5 :: (Bs' ++ M0)) w' c ys := by
 have h1 : t0a (Bs ++ (g5 :: (Bs' ++ M0))) w c ys := h.more fun g hg => by
  simp only [List.mem_append, List.mem_cons] at hg ⊢
  rcases hg with hg | rfl | hg | hg
  ·exact .inl (.inr (.inl hg))
  ·exact .inl (.inl rfl)
  ·rcases hb g hg with h | h
   ·exact .inl (.inr (.inl h))
   ·exact .inr h
  ·exact .inl (.inr (.inr hg))
 exact (h1.keep (hk.mono fun g hg => List.mem_append_left _ hg)).less fun g hg => List.mem_append_right _ hg
theorem St.other {M : List Nat} {w0 w w' : World} {L : List Ent} (S : St M w0 w L) {g : Nat} (hb : v0a [g] w w') (hg : w0.heap.size ≤ g) (hn : g ∉ L8a L) : St M w0 w' L := by
 refine ⟨⟨hb.os.trans S.below.os, hb.tape.trans S.below.tape, hb.output.trans S.below.output, Nat.le_trans S.below.size hb.size, fun k hk hm => ?_⟩, fun b hm x hx => ?_, S.apart⟩
 ·rw [hb.block k (Nat.lt_of_lt_of_le hk S.below.size) (by rw [List.mem_singleton]; omega)]
  exact S.below.block k hk hm
 ·obtain ⟨h1, h2⟩ := S.own b hm x hx
  refine ⟨h1, ?_⟩
  have hlt := h2.lt
  unfold p0a at *
  rw [hb.block x hlt (by rw [List.mem_singleton]; rintro rfl; exact hn (v3a.2 ⟨b, hm, hx⟩))]
  exact h2
section
variable {α : Type} {M : List Nat} {w : World} {size : Nat} {R : List Value → α → Prop} {g : Nat}
theorem j1b {css : List (List Value)} {l : List α} {n : Nat} (hg : g ∉ M) (hc : k1a w g 0 css.flatten) (hn : n = l.length) (hl : css.length = l.length) (hl2 : l.length ≤ 1000000) (h4 : ∀ x ∈ css, x.length = size) (hR : ∀ (i : Nat) (x : α), l[i]? = some x → ∃ c, css[i]? = some c ∧ R c x) : RdS M w size R (.slice (some ⟨g, 0, none⟩) n n) l := by
 subst hn
 refine ⟨_, _, _, rfl, rfl, Nat.le_refl _, by unfold maxLen; omega, by omega, fun _ => ⟨g, 0, rfl, hg, fun i x hi => ?_⟩⟩
 obtain ⟨c, h5, h6⟩ := hR i x hi
 exact ⟨c, h4 c (List.mem_of_getElem? h5), fun j u hj => by simpa using hc _ u (T2c css i c h4 h5 j u hj), h6⟩
theorem j6c {c : List Value} {x : α} (hg : g ∉ M) (hc : k1a w g 0 c) (h4 : c.length = size) (hr : R c x) : RdS M w size R (.slice (some ⟨g, 0, none⟩) 1 1) [x] :=
 j1b (css := [c]) hg (by simpa using hc) rfl rfl (by simp) (by simpa using h4) (fun i y hi => by
  match i, hi with
  | 0, hi => cases hi; exact ⟨c, rfl, hr⟩)
theorem D8c {c c2 : List Value} {x x2 : α} (hg : g ∉ M) (hc : k1a w g 0 (c ++ c2)) (h4 : c.length = size) (h5 : c2.length = size) (hr : R c x) (hr2 : R c2 x2) : RdS M w size R (.slice (some ⟨g, 0, none⟩) 2 2) [x, x2] :=
 j1b (css := [c, c2]) hg (by simpa using hc) rfl rfl (by simp) (by simpa using ⟨h4, h5⟩) (fun i y hi => by
  match i, hi with
  | 0, hi => cases hi; exact ⟨c, rfl, hr⟩
  | 1, hi => cases hi; exact ⟨c2, rfl, hr2⟩)
theorem g9c {c c2 c3 : List Value} {x x2 x3 : α} (hg : g ∉ M) (hc : k1a w g 0 (c ++ (c2 ++ c3))) (h4 : c.length = size) (h5 : c2.length = size) (h6 : c3.length = size) (hr : R c x) (hr2 : R c2 x2) (hr3 : R c3 x3) : RdS M w size R (.slice (some ⟨g, 0, none⟩) 3 3) [x, x2, x3] :=
 j1b (css := [c, c2, c3]) hg (by simpa using hc) rfl rfl (by simp) (by simpa using ⟨h4, h5, h6⟩) (fun i y hi => by
  match i, hi with
  | 0, hi => cases hi; exact ⟨c, rfl, hr⟩
  | 1, hi => cases hi; exact ⟨c2, rfl, hr2⟩
  | 2, hi => cases hi; exact ⟨c3, rfl, hr3⟩)
end
theorem J3b {P : Program} {f : FuncId} {args : Array Value} {w : World} {b : Bool} (h : M0a P f args w fun v w' => v = .bool b ∧ Below w.heap.size w w') (hb : b = true) : M0a P f args w fun v w' => v = .bool true ∧ Below w.heap.size w w' := by
 subst hb; exact h
theorem t7b {P : Program} {f : FuncId} {args : Array Value} {w : World} {b : Bool} (h : M0a P f args w fun v w' => v = .bool b ∧ Below w.heap.size w w') (hb : b = false) : M0a P f args w fun v w' => v = .bool false ∧ Below w.heap.size w w' := by
 subst hb; exact h
def X1c : Value → Prop := fun u => ∃ a0 a1 a2 a3 a4 a5 a6, u = .agg #[a0, a1, a2, a3, a4, a5, a6]
def thQ (M : List Nat) (t : Q0a) : Value → World → Prop := fun u w => ∃ cs : List Value, u = .agg cs.toArray ∧ N0a M w cs t
theorem N0b : ∃ u, X1c u := ⟨_, undef, undef, undef, undef, undef, undef, undef, rfl⟩
theorem f6b (M : List Nat) (t : Q0a) : ∀ u w w', w0a [] w w' → thQ M t u w → thQ M t u w' := fun _ _ _ k ⟨cs, h, hr⟩ => ⟨cs, h, N0a.keep k.of_nil _ _ hr⟩
theorem D0c {M : List Nat} {t : Q0a} {u : Value} {w : World} (h : thQ M t u w) : X1c u := by
 obtain ⟨_, rfl, hr⟩ := h
 obtain ⟨_, _, _, _, rfl, -⟩ := hr
 exact ⟨_, _, _, _, _, _, _, rfl⟩
theorem H9c {M : List Nat} {w : World} {a b c d : E} {ca cb cc cd : List Value} {g : Nat} (hg : g ∉ M) (hc : k1a w g 0 (ca ++ (cb ++ (cc ++ cd)))) (ha : RdE M w a ca) (hb : RdE M w b cb) (hcc : RdE M w c cc) (hd : RdE M w d cd) : RdL M w (.slice (some ⟨g, 0, none⟩) 4 4) [a, b, c, d] := by
 have la := ha.length
 have lb := hb.length
 have lc := hcc.length
 refine RdL.mk rfl (by omega) (by unfold maxLen; omega) (by omega) (fun _ => ⟨g, 0, rfl, hg, fun i hi => ?_⟩)
 have hi4 : i < 4 := hi
 rcases (show i = 0 ∨ i = 1 ∨ i = 2 ∨ i = 3 by omega) with rfl | rfl | rfl | rfl
 ·refine ⟨ca, fun j v hj => ?_, ha⟩
  have hl : j < ca.length := (List.getElem?_eq_some_iff.1 hj).1
  have := hc j v (by rw [List.getElem?_append_left hl]; exact hj)
  simpa using this
 ·refine ⟨cb, fun j v hj => ?_, hb⟩
  have hl : j < cb.length := (List.getElem?_eq_some_iff.1 hj).1
  have := hc (4 + j) v (by rw [List.getElem?_append_right (by omega), List.getElem?_append_left (by omega), la]; simpa using hj)
  simpa using this
 ·refine ⟨cc, fun j v hj => ?_, hcc⟩
  have hl : j < cc.length := (List.getElem?_eq_some_iff.1 hj).1
  have := hc (8 + j) v (by rw [List.getElem?_append_right (by omega), List.getElem?_append_right (by omega), List.getElem?_append_left (by omega), la, lb, show 8 + j - 4 - 4 = j by omega]; exact hj)
  simpa using this
 ·refine ⟨cd, fun j v hj => ?_, hd⟩
  have := hc (12 + j) v (by rw [List.getElem?_append_right (by omega), List.getElem?_append_right (by omega), List.getElem?_append_right (by omega), la, lb, lc, show 12 + j - 4 - 4 - 4 = j by omega]; exact hj)
  simpa using this
theorem f9c {α : Type} {M : List Nat} {w : World} {size : Nat} {R : List Value → α → Prop} {g : Nat} {c c2 c3 c4 : List Value} {x x2 x3 x4 : α} (hg : g ∉ M) (hc : k1a w g 0 (c ++ (c2 ++ (c3 ++ c4)))) (h4 : c.length = size) (h5 : c2.length = size) (h6 : c3.length = size) (h7 : c4.length = size) (hr : R c x) (hr2 : R c2 x2) (hr3 : R c3 x3) (hr4 : R c4 x4) : RdS M w size R (.slice (some ⟨g, 0, none⟩) 4 4) [x, x2, x3, x4] :=
 j1b (css := [c, c2, c3, c4]) hg (by simpa using hc) rfl rfl (by simp) (by simpa using ⟨h4, h5, h6, h7⟩) (fun i y hi => by
  match i, hi with
  | 0, hi => cases hi; exact ⟨c, rfl, hr⟩
  | 1, hi => cases hi; exact ⟨c2, rfl, hr2⟩
  | 2, hi => cases hi; exact ⟨c3, rfl, hr3⟩
  | 3, hi => cases hi; exact ⟨c4, rfl, hr4⟩)
theorem x3b (nm : ByteArray) (mine other loc : Int) (h1 : i64 mine) (h2 : i64 other) (h3 : i64 loc) (g : Nat) (M : List Nat) (w0 : World) (hM : ∀ x ∈ M, x < w0.heap.size) (hc : k1a w0 g 0 [.int .i64 1, .int .i64 1, .int .i64 1, .slice none 0 0]) :
 M0a Tryz.prog 44 #[.string nm, .int .i64 mine, .int .i64 other, .int .i64 loc, .pointer (some ⟨g, 0, none⟩)] w0 fun v w' => (∃ cs : List Value, v = .agg cs.toArray ∧ N0a M w' cs (G3b nm mine other loc)) ∧ Below w0.heap.size w0 w' := by
 have S := St.refl w0
 have i0 : i64 0 := by unfold i64; omega
 have i1 : i64 1 := by unfold i64; omega
 have i2 : i64 2 := by unfold i64; omega
 have i3 : i64 3 := by unfold i64; omega
 refine a0a Tryz.func44 rfl Tryz.ntmps44 rfl ?_
 refine wO0 rfl ⟨⟩ (n0a S b3b rfl rfl ?_)
 intro g9 w9 S9 X9 G9
 refine lC0 rfl ⟨⟩ (o4b b0a [0, 1, 2, 3, 4, 5, 6, 7, 8, 9, 10, 11, 12, 13, 14, 15, 16, 17, 18, 19, 20] 21 (by kernel_rfl) (by kernel_rfl) (Cl _ _ _ _) (Cl.start S9) (fun i => if i = 15 then some (45, #[.int .i64 other, .int .i64 1], eqQ (.agg #[.int .i64 2, .int .i64 1, .int .i64 other, .slice none 0 0]), noQ) else none) ?_ _ rfl ?_)
 ·intro i f a Qp Qw hi
  by_cases hi15 : i = 15
  ·subst hi15; cases hi; exact ⟨⟨_, rfl⟩, fun _ _ _ _ _ => trivial, fun w hC => (v5b _ _ _).mono fun u w' hr => ⟨⟨hr.1, trivial⟩, hC.later hr.2⟩⟩
  ·simp only [hi15, if_false] at hi; cases hi
 refine g5a rfl rfl ?_
 refine e1a (by conv => lhs; whnf) rfl ?_
 refine d0a ?_
 refine g5a rfl rfl ?_
 refine I1a x1a rfl (fun w1 hw => hc.keep (hw.1.keep0 []) (by simp)) (by rfl) rfl ?_
 refine d0a ?_
 refine g5a rfl rfl ?_
 refine I1a x1a rfl (fun w1 hw => hc.keep (hw.1.keep0 []) (by simp)) (by rfl) rfl ?_
 refine d0a ?_
 refine g5a rfl rfl ?_
 refine I1a x1a rfl (fun w1 hw => hc.keep (hw.1.keep0 []) (by simp)) (by rfl) rfl ?_
 refine d0a ?_
 refine T3a rfl rfl rfl a1a (vs := [.agg _, .agg _, .agg _]) (cs := [_, _, _, _, _, _, _, _, _, _, _, _]) (by rfl) rfl rfl rfl rfl rfl ?_
 intro g14 G14 ng14
 refine T3a rfl rfl rfl Y0a (vs := [.int .i64 _, .int .i64 _, .int .i64 _]) (cs := [_, _, _]) (by rfl) rfl rfl rfl rfl rfl ?_
 intro g15 G15 ng15
 refine g5a rfl rfl ?_
 refine I1a x1a rfl (fun w1 hw => hc.keep (hw.1.keep0 []) (by simp)) (by rfl) rfl ?_
 refine d0a ?_
 refine g5a rfl rfl ?_
 refine e1a (v := .int .i64 _) rfl rfl ?_
 refine d0a ?_
 refine g5a rfl rfl ?_
 refine I1a x1a rfl (fun w1 hw => hc.keep (hw.1.keep0 []) (by simp)) (by rfl) rfl ?_
 refine d0a ?_
 refine g5a rfl rfl ?_
 refine h2a V2c (vs := [(0, .int .i64 _), (1, .agg _)]) (cs := [_, _, _, _, _]) rfl rfl rfl rfl ?_
 refine d0a ?_
 refine T3a rfl rfl rfl u8a (vs := [.agg _]) (cs := [_, _, _, _, _]) (by rfl) rfl rfl rfl rfl rfl ?_
 intro g20 G20 ng20
 refine g5a rfl rfl ?_
 refine h2a g3c (vs := [(0, .int .i64 _), (1, .int .i64 _), (2, .int .i64 _), (3, .agg _), (4, .slice _ _ _)]) (cs := [_, _, _, _, _, _, _, _, _, _, _]) rfl rfl rfl rfl ?_
 refine d0a ?_
 refine g5a rfl rfl ?_
 refine I1a x1a rfl (fun w1 hw => hc.keep (hw.1.keep0 []) (by simp)) (by rfl) rfl ?_
 refine d0a ?_
 refine g5a rfl rfl ?_
 refine e1a (v := .int .i64 _) rfl rfl ?_
 refine d0a ?_
 refine g5a rfl rfl ?_
 refine e1a (v := .int .i64 _) rfl rfl ?_
 refine d0a ?_
 refine Y3c n6b rfl rfl rfl rfl rfl ?_
 refine g5a rfl rfl ?_
 refine h2a V2c (vs := [(0, .int .i64 _), (1, .agg _)]) (cs := [_, _, _, _, _]) rfl rfl rfl rfl ?_
 refine d0a ?_
 refine T3a rfl rfl rfl u8a (vs := [.agg _]) (cs := [_, _, _, _, _]) (by rfl) rfl rfl rfl rfl rfl ?_
 intro g27 G27 ng27
 refine g5a rfl rfl ?_
 refine h2a g3c (vs := [(0, .int .i64 _), (1, .int .i64 _), (2, .int .i64 _), (3, .agg _), (4, .slice _ _ _)]) (cs := [_, _, _, _, _, _, _, _, _, _, _]) rfl rfl rfl rfl ?_
 refine d0a ?_
 refine T3a rfl rfl rfl E3c (vs := [.agg _, .agg _]) (cs := [_, _, _, _, _, _, _, _, _, _, _, _, _, _, _, _, _, _, _, _, _, _]) (by rfl) rfl rfl rfl rfl rfl ?_
 intro g29 G29 ng29
 refine g5a rfl rfl ?_
 refine h2a K7c (vs := [(0, .string _), (1, .int .i64 _), (2, .slice _ _ _), (3, .slice _ _ _), (4, .slice _ _ _)]) (cs := [_, _, _, _, _, _, _]) rfl rfl rfl rfl ?_
 refine d0a ?_
 refine q5b ?_
 rintro wR1 ⟨SR1, _⟩ ⟨⟨⟨⟨⟨-, hg14⟩, hg15⟩, hg20⟩, hg27⟩, hg29⟩
 clear ng14
 replace SR1 := SR1.push_new S9 hg14 G14
 replace SR1 := SR1.push_more (L1 := [_]) S9 hg15 G15 (by simpa [eq_comm] using ng15)
 replace SR1 := SR1.push_more (L1 := [_, _]) S9 hg20 G20 (by simpa [eq_comm] using ng20)
 replace SR1 := SR1.push_more (L1 := [_, _, _]) S9 hg27 G27 (by simpa [eq_comm] using ng27)
 replace SR1 := SR1.push_more (L1 := [_, _, _, _]) S9 hg29 G29 (by simpa [eq_comm] using ng29)
 refine e0a (kk := 5) (vs := [_, _, _, _, _, _, _]) SR1 H2b rfl rfl rfl rfl rfl rfl rfl ?_
 intro w1_21 S1_21 X1_21
 dsimp only [k0a, List.set] at S1_21
 refine S0a ⟨rfl, ?_⟩
 refine fR0 rfl ⟨⟩ ?_
 have SF := S1_21
 have hone : RdE M w1_21 p3a [.int .i64 1, .int .i64 1, .int .i64 1, .slice none 0 0] := k3a i1 i1 i1
 have hcel : RdE M w1_21 (O9b other) [.int .i64 2, .int .i64 1, .int .i64 other, .slice none 0 0] := k3a i2 i1 h2
 have s1 : a4c M w1_21 (.slice (some ⟨g20, 0, none⟩) 1 1) [⟨mine, p3a⟩] := j6c (U0a hM (SF.new 2 rfl)) (SF.cells 2 rfl) rfl ⟨_, rfl, h1, hone⟩
 have s2 : a4c M w1_21 (.slice (some ⟨g27, 0, none⟩) 1 1) [⟨loc, O9b other⟩] := j6c (U0a hM (SF.new 1 rfl)) (SF.cells 1 rfl) rfl ⟨_, rfl, h3, hcel⟩
 have as1 : w7c M w1_21 (.slice (some ⟨g14, 0, none⟩) 3 3) [p3a, p3a, p3a] := g9c (c := [_, _, _, _]) (c2 := [_, _, _, _]) (c3 := [_, _, _, _]) (U0a hM (SF.new 4 rfl)) (SF.cells 4 rfl) rfl rfl rfl hone hone hone
 have m1 : RdI M w1_21 (.slice (some ⟨g15, 0, none⟩) 3 3) [0, 0, 0] := D4a SF (k := 3) rfl (U0a hM (SF.new 3 rfl)) rfl (by omega) (by simp [i0])
 have st : I8c M w1_21 (.slice (some ⟨g29, 0, none⟩) 2 2) [⟨3, 0, 1, p3a, [⟨mine, p3a⟩], false, 0, 0⟩, ⟨2, 1, 2, p3a, [⟨loc, O9b other⟩], false, 0, 0⟩] := D8c (c := [_, _, _, _, _, _, _, _, _, _, _]) (c2 := [_, _, _, _, _, _, _, _, _, _, _]) (U0a hM (SF.new 0 rfl)) (SF.cells 0 rfl) rfl rfl ⟨_, _, _, _, _, rfl, i3, i0, i1, i0, i0, hone, s1⟩ ⟨_, _, _, _, _, rfl, i2, i1, i2, i0, i0, hone, s2⟩
 exact r1a rfl Y8b rfl (SF.cells 5 rfl) rfl ⟨⟨_, rfl, _, _, _, _, rfl, i3, as1, m1, st, y4a⟩, SF.fin⟩
theorem I1c (w0 : World) :
 M0a Tryz.prog 18 #[] w0 fun v w' => (∃ cs : List Value, v = .agg cs.toArray ∧ j1a [] w' J1a cs) ∧ Below w0.heap.size w0 w' := by
 have S := St.refl w0
 have i0 : i64 0 := by unfold i64; omega
 have i1 : i64 1 := by unfold i64; omega
 have i2 : i64 2 := by unfold i64; omega
 have i3 : i64 3 := by unfold i64; omega
 have im : i64 (-1) := by unfold i64; omega
 refine a0a Tryz.func18 rfl Tryz.ntmps18 rfl ?_
 refine wO0 rfl ⟨⟩ (n0a S G5c rfl rfl ?_)
 intro g0 w0 S0 X0 G0
 refine lO0 rfl ⟨⟩ (g0a S0 I0b rfl rfl (E9a _ _ _) ?_)
 intro w3 S3 X3
 refine n0a S3 m7a rfl rfl ?_
 intro g1 w1 S1 X1 G1
 refine e0a (kk := 0) (vs := [_, _, _, _]) S1 V5a rfl rfl rfl rfl rfl rfl rfl ?_
 intro w1_2 S1_2 X1_2
 dsimp only [k0a, List.set] at S1_2
 refine lO0 rfl ⟨⟩ (E1a rfl rfl ?_)
 refine lC0 rfl ⟨⟩ (o4b b0a [0, 1, 2, 3, 4, 5, 6, 7, 8, 9, 10, 11, 12, 13, 14, 15] 16 (by kernel_rfl) (by kernel_rfl) (Cl _ _ _ _) (Cl.start S1_2) (fun i => if i = 11 then some (44, #[.string ⟨#[97]⟩, .int .i64 0, .int .i64 1, .int .i64 2, .pointer (some ⟨g1, 0, none⟩)], X1c, thQ [g0] (G3b ⟨#[97]⟩ 0 1 2)) else if i = 13 then some (44, #[.string ⟨#[98]⟩, .int .i64 1, .int .i64 0, .int .i64 3, .pointer (some ⟨g1, 0, none⟩)], X1c, thQ [g0] (G3b ⟨#[98]⟩ 1 0 3)) else none) ?_ _ rfl ?_)
 ·intro i f a Qp Qw hi
  by_cases hi11 : i = 11
  ·subst hi11; cases hi; exact ⟨N0b, f6b _ _, fun w hC => (x3b ⟨#[97]⟩ 0 1 2 i0 i1 i2 g1 [g0] w (fun g hg => by rw [List.mem_singleton] at hg; subst hg; exact hC.1.lt 1 rfl) (hC.1.cells 0 rfl)).mono (fun u w' hr => ⟨⟨D0c hr.1, hr.1⟩, hC.later hr.2⟩)⟩
  by_cases hi13 : i = 13
  ·subst hi13; cases hi; exact ⟨N0b, f6b _ _, fun w hC => (x3b ⟨#[98]⟩ 1 0 3 i1 i0 i3 g1 [g0] w (fun g hg => by rw [List.mem_singleton] at hg; subst hg; exact hC.1.lt 1 rfl) (hC.1.cells 0 rfl)).mono (fun u w' hr => ⟨⟨D0c hr.1, hr.1⟩, hC.later hr.2⟩)⟩
  ·simp only [hi11, hi13, if_false] at hi; cases hi
 refine g5a rfl rfl ?_
 refine h2a f1b (vs := [(0, .string _), (1, .int .i64 _), (3, .int .i64 _)]) (cs := [_, _, _, _, _, _]) rfl rfl rfl rfl ?_
 refine d0a ?_
 refine g5a rfl rfl ?_
 refine h2a f1b (vs := [(0, .string _), (1, .int .i64 _), (3, .int .i64 _)]) (cs := [_, _, _, _, _, _]) rfl rfl rfl rfl ?_
 refine d0a ?_
 refine g5a rfl rfl ?_
 refine h2a f1b (vs := [(0, .string _), (1, .int .i64 _), (2, .int .i64 _)]) (cs := [_, _, _, _, _, _]) rfl rfl rfl rfl ?_
 refine d0a ?_
 refine g5a rfl rfl ?_
 refine h2a f1b (vs := [(0, .string _), (1, .int .i64 _), (2, .int .i64 _), (3, .int .i64 _)]) (cs := [_, _, _, _, _, _]) rfl rfl rfl rfl ?_
 refine d0a ?_
 refine T3a rfl rfl rfl p5a (vs := [.agg _, .agg _, .agg _, .agg _]) (cs := [_, _, _, _, _, _, _, _, _, _, _, _, _, _, _, _, _, _, _, _, _, _, _, _]) (by rfl) rfl rfl rfl rfl rfl ?_
 intro g9 G9 ng9
 refine g5a rfl rfl ?_
 refine I1a x1a rfl (fun w1 hw => hw.1.cells 0 rfl) rfl rfl ?_
 refine d0a ?_
 refine g5a rfl rfl ?_
 refine I1a x1a rfl (fun w1 hw => hw.1.cells 0 rfl) rfl rfl ?_
 refine d0a ?_
 refine T3a rfl rfl rfl Y0a (vs := [.int .i64 _, .int .i64 _]) (cs := [_, _]) (by rfl) rfl rfl rfl rfl rfl ?_
 intro g12 G12 ng12
 refine g5a rfl rfl ?_
 refine h2a e4c (vs := [(0, .string _), (1, .string _), (2, .agg _), (3, .agg _), (4, .slice _ _ _)]) (cs := [_, _, _, _, _, _, _, _, _, _, _]) rfl rfl rfl rfl ?_
 refine d0a ?_
 refine T3a rfl rfl rfl F3c (vs := [.agg _]) (cs := [_, _, _, _, _, _, _, _, _, _, _]) (by rfl) rfl rfl rfl rfl rfl ?_
 intro g14 G14 ng14
 refine g5a rfl rfl ?_
 refine e1a (by conv => lhs; whnf) rfl ?_
 refine d0a ?_
 refine A1b (caps := #[.pointer (some ⟨g1, 0, none⟩)]) Z2c rfl rfl rfl rfl rfl rfl ?_
 rintro u16 ⟨a0, a1, a2, a3, a4, a5, a6, rfl⟩
 refine g5a rfl rfl ?_
 refine e1a (by conv => lhs; whnf) rfl ?_
 refine d0a ?_
 refine A1b (caps := #[.pointer (some ⟨g1, 0, none⟩)]) Z2c rfl rfl rfl rfl rfl rfl ?_
 rintro u18 ⟨b0, b1, b2, b3, b4, b5, b6, rfl⟩
 refine T3a rfl rfl rfl S5b (vs := [.agg _, .agg _]) (cs := [_, _, _, _, _, _, _, _, _, _, _, _, _, _]) (by rfl) rfl rfl rfl rfl rfl ?_
 intro g19 G19 ng19
 refine g5a rfl rfl ?_
 refine h2a E8c (vs := [(0, .slice _ _ _), (1, .slice _ _ _), (3, .slice _ _ _)]) (cs := [_, _, _, _]) rfl rfl rfl rfl ?_
 refine d0a ?_
 refine q5b ?_
 rintro wR3 ⟨SR3, _⟩ ⟨⟨⟨⟨⟨⟨-, hg9⟩, hg12⟩, hg14⟩, hq16⟩, hq18⟩, hg19⟩
 have KQ16 := w0a.refl [g0] wR3
 have KQ18 := w0a.refl [g0] wR3
 clear ng9
 replace SR3 := SR3.push_new S1_2 hg9 G9
 replace SR3 := SR3.push_more (L1 := [_]) S1_2 hg12 G12 (by simpa [eq_comm] using ng12)
 replace SR3 := SR3.push_more (L1 := [_, _]) S1_2 hg14 G14 (by simpa [eq_comm] using ng14)
 replace SR3 := SR3.push_more (L1 := [_, _, _]) S1_2 hg19 G19 (by simpa [eq_comm] using ng19)
 refine e0a (kk := 5) (vs := [_, _, _, _]) SR3 u6c rfl rfl rfl rfl rfl rfl rfl ?_
 intro w3_16 S3_16 X3_16
 dsimp only [k0a, List.set] at S3_16
 replace KQ16 := KQ16.fresh2 X3_16 (by first  | exact .inr (by simp))
 replace KQ18 := KQ18.fresh2 X3_16 (by first  | exact .inr (by simp))
 refine S0a ⟨rfl, ?_⟩
 refine fR0 rfl ⟨⟩ ?_
 have SF := S3_16
 obtain ⟨ca, hca, hA⟩ := hq16
 obtain ⟨cb, hcb, hB⟩ := hq18
 obtain rfl : [a0, a1, a2, a3, a4, a5, a6] = ca := by simpa using congrArg Array.toList (Value.agg.inj hca)
 obtain rfl : [b0, b1, b2, b3, b4, b5, b6] = cb := by simpa using congrArg Array.toList (Value.agg.inj hcb)
 have hone : RdE [] w3_16 p3a [.int .i64 1, .int .i64 1, .int .i64 1, .slice none 0 0] := k3a i1 i1 i1
 have h1 := N0a.less (M' := []) (by simp) _ _ (N0a.keep KQ16 _ _ hA)
 have h2 := N0a.less (M' := []) (by simp) _ _ (N0a.keep KQ18 _ _ hB)
 have fr : RdI [] w3_16 (.slice (some ⟨g12, 0, none⟩) 2 2) [0, 1] := D4a SF (k := 2) rfl (by simp) rfl (by omega) (by simp [i0, i1])
 refine r1a rfl r4a rfl (SF.cells 5 rfl) rfl ⟨⟨_, rfl, _, _, _, _, rfl, ?_, ?_, y4a, ?_⟩, SF.fin⟩
 ·exact f9c (c := [_, _, _, _, _, _]) (c2 := [_, _, _, _, _, _]) (c3 := [_, _, _, _, _, _]) (c4 := [_, _, _, _, _, _]) (by simp) (SF.cells 3 rfl) rfl rfl rfl rfl ⟨rfl, i1, i0, im, i0⟩ ⟨rfl, i1, i0, im, i0⟩ ⟨rfl, i1, i1, i0, i0⟩ ⟨rfl, i1, i1, i1, i0⟩
 ·exact j6c (by simp) (SF.cells 1 rfl) rfl ⟨_, _, _, _, _, _, _, _, _, rfl, hone, hone, fr⟩
 ·exact D8c (c := [_, _, _, _, _, _, _]) (c2 := [_, _, _, _, _, _, _]) (by simp) (SF.cells 0 rfl) rfl rfl h1 h2
theorem N8b (c : Int) (hc : i64 c) (M : List Nat) (w0 : World) (hM : ∀ x ∈ M, x < w0.heap.size) :
 M0a Tryz.prog 46 #[.int .i64 c] w0 fun v w' => (∃ cs : List Value, v = .agg cs.toArray ∧ RdE M w' (y4b c) cs) ∧ Below w0.heap.size w0 w' := by
 have S := St.refl w0
 have i1 : i64 1 := by unfold i64; omega
 have i2 : i64 2 := by unfold i64; omega
 have i4 : i64 4 := by unfold i64; omega
 refine a0a Tryz.func46 rfl Tryz.ntmps46 rfl ?_
 refine wO0 rfl ⟨⟩ (n0a S m7a rfl rfl ?_)
 intro g2 w2 S2 X2 G2
 refine lO0 rfl ⟨⟩ (g0a S2 n6b rfl rfl (v5b _ _ _) ?_)
 intro w4 S4 X4
 refine E0a S4 a1a (vs := [.agg _]) (cs := [_, _, _, _]) (by rfl) rfl rfl rfl rfl rfl rfl ?_
 intro g5 w5 S5 X5 G5
 refine i1a L2b (vs := [(0, .int .i64 _), (1, .int .i64 _), (3, .slice _ _ _)]) (cs := [_, _, _, _]) rfl rfl rfl rfl ?_
 refine e0a (kk := 1) (vs := [_, _, _, _]) S5 V5a rfl rfl rfl rfl rfl rfl rfl ?_
 intro w1_4 S1_4 X1_4
 dsimp only [k0a, List.set] at S1_4
 exact lR0 rfl ⟨⟩ (r1a rfl x1a rfl (S1_4.cells 1 rfl) rfl ⟨⟨_, rfl, v6c i4 i1 (U0a hM (S1_4.new 0 rfl)) (S1_4.cells 0 rfl) (k3a i2 i1 hc)⟩, S1_4.fin⟩)
theorem h1b (w0 : World) :
 M0a Tryz.prog 19 #[] w0 fun v w' => (∃ cs : List Value, v = .agg cs.toArray ∧ d4a [] w' cs M1b) ∧ Below w0.heap.size w0 w' := by
 have S := St.refl w0
 have i0 : i64 0 := by unfold i64; omega
 have i1 : i64 1 := by unfold i64; omega
 have i2 : i64 2 := by unfold i64; omega
 have i3 : i64 3 := by unfold i64; omega
 have h0 : ∀ {w : World} {g t : Nat} {cs : List Value}, p0a w (g, t, cs) → ∀ x ∈ [g], x < w.heap.size := fun h x hx => by rw [List.mem_singleton] at hx; subst hx; exact h.lt
 refine a0a Tryz.func19 rfl Tryz.ntmps19 rfl ?_
 refine wO0 rfl ⟨⟩ (n0a S M9c rfl rfl ?_)
 intro g0 w0 S0 X0 G0
 refine lO0 rfl ⟨⟩ (w4a t3c rfl rfl rfl (N8b 2 i2 [g0] _ (h0 (S0.blk 0 rfl))) ?_)
 rintro v3 w3 ⟨⟨_, rfl, r3⟩, B3⟩
 obtain ⟨_, _, _, rfl, -⟩ := r3.open_
 have S3 := S0.later B3
 refine lO0 rfl ⟨⟩ (w4a t3c rfl rfl rfl (N8b 3 i3 [g0] _ (h0 (S3.blk 0 rfl))) ?_)
 rintro v5 w5 ⟨⟨_, rfl, r5⟩, B5⟩
 obtain ⟨_, _, _, rfl, -⟩ := r5.open_
 have S5 := S3.later B5
 replace r3 := RdE.keep (w0a.of_below B5) _ _ r3
 refine g0a S5 n6b rfl rfl (v5b _ _ _) ?_
 intro w6 S6 X6
 replace r3 := RdE.keep (X6.of_nil) _ _ r3
 replace r5 := RdE.keep (X6.of_nil) _ _ r5
 refine g0a S6 n6b rfl rfl (v5b _ _ _) ?_
 intro w7 S7 X7
 replace r3 := RdE.keep (X7.of_nil) _ _ r3
 replace r5 := RdE.keep (X7.of_nil) _ _ r5
 refine E0a S7 a1a (vs := [.agg _, .agg _, .agg _, .agg _]) (cs := [_, _, _, _, _, _, _, _, _, _, _, _, _, _, _, _]) (by rfl) rfl rfl rfl rfl rfl rfl ?_
 intro g8 w8 S8 X8 G8
 replace r3 := RdE.keep (X8.of_nil) _ _ r3
 replace r5 := RdE.keep (X8.of_nil) _ _ r5
 have hL : RdL [g0] w8 (.slice (some ⟨g8, 0, none⟩) 4 4) [y4b 2, y4b 3, O9b 0, O9b 1] := H9c (ca := [_, _, _, _]) (cb := [_, _, _, _]) (cc := [_, _, _, _]) (cd := [_, _, _, _]) (fun hh => by rw [List.mem_singleton] at hh; exact S8.ne 0 1 rfl rfl (by decide) hh) (S8.cells 0 rfl) r3 r5 (k3a i2 i1 i0) (k3a i2 i1 i1)
 refine B0a S8 P7c rfl rfl (I2c [y4b 2, y4b 3, O9b 0, O9b 1] [g0] _ _ hL (h0 (S8.blk 1 rfl)) (by decide +kernel) (by decide +kernel) (by decide +kernel)) ?_
 rintro v9 w9 ⟨_, rfl, r9⟩ S9 X9
 obtain ⟨_, _, _, rfl, -⟩ := r9.open_
 refine i1a w2b (vs := [(0, .int .i64 _), (1, .int .i64 _), (2, .agg _)]) (cs := [_, _, _, _, _, _]) rfl rfl rfl rfl ?_
 refine e0a (kk := 1) (vs := [_, _, _, _, _, _]) S9 i9c rfl rfl rfl rfl rfl rfl rfl ?_
 intro w2_9 S2_9 X2_9
 dsimp only [k0a, List.set] at S2_9
 replace r9 := RdE.keep (X2_9.mono (by simp)) _ _ r9
 exact lR0 rfl ⟨⟩ (r1a rfl n5b rfl (S2_9.cells 1 rfl) rfl ⟨⟨_, rfl, _, rfl, RdE.less (by simp) _ _ r9, i1, i2⟩, S2_9.nil.fin⟩)
theorem U2b : (Y1a x8a)[0]? = some (X0a J1a) := by kernel_rfl
theorem A0c : (Y1a B8a)[0]? = some (X0a J1a) := by kernel_rfl
theorem S7c : ∀ y ∈ x8a, x2a y.conf M1b = false := fun y hy => by
 have := List.all_eq_true.1 E2c y hy
 simpa using this
theorem y7c : B8a[31]? = some ⟨⟨[1, 1, 0, 0], [2, 2], [[], []]⟩, 24, ⟨1, -1, 1⟩⟩ := by kernel_rfl
theorem u1c {x : q0a} (h : (Y1a x8a)[0]? = some x) : X0a J1a = x := Option.some.inj (U2b.symm.trans h)
theorem p5c : (Y1a x8a).length = 13 := by kernel_rfl
theorem c6c : (Y1a B8a).length = 34 := by kernel_rfl
theorem n1c {P : Program} {N : Nat} {ops : Array Oper} {rest : List Oper} {C : World → Prop} {K : Env → Prop} {e : Env} {d : Nat} {t : TypeId} {p : String} {af : Array Edge} {x : Operand} {s f off n : Nat} {cs : Array Value} {ds : List Value} {fs gs : Array Field} {fld : Field} (hu : P.underlying s = some (.struct fs)) (hf : fs[f]? = some fld) (ho : fld.offset = off) (hd2 : P.underlying fld.type = some (.struct gs)) (hz : Sz P fld.type n) (hx : ev e x = .agg cs) (hds : (cs.toList.drop off).take n = ds) (hd : Nat.ble (d + 1) N = true) (h : QL P N ops C rest K (upd e d (.agg ds.toArray))) :
 QL P N ops C (⟨some d, .field s x f, t, p, af, none⟩ :: rest) K e := by
 have hagg : ∀ w, (isAgg fld.type).run P w = .ok true w := fun w => by simp only [isAgg, Sem.run_bind, run_underlying hd2, Result.andThen_ok]; rfl
 have he : cs.extract off (off + n) = ds.toArray := by
  subst hds
  apply Array.ext'
  simp
 exact B3a rfl rfl hd (fun w _ => by simp [execOp, hx, Instr.field, run_underlying hu, hf, asAgg, part, hagg, ho, hz w, he]) h
theorem Z8c (w0 : World) (cs : List Value) (hI : InP J1a [] w0 cs) :
 M0a Tryz.prog 8 #[.agg cs.toArray, .int .i64 0, .int .i64 2000] w0 fun r w' => (∃ A c, r = .tuple #[.slice A 13 c, .int .i64 0] ∧ G9c [] w' (.slice A 13 c) (Y1a x8a)) ∧ Below w0.heap.size w0 w' :=
 (a6a J1a 0 (.inl rfl) 2000 (by omega) (by omega) [] w0 cs hI).mono fun r w' ⟨⟨v, l, err, hr, hv, hd⟩, hb⟩ => by
   obtain ⟨rfl, rfl⟩ := (Q7a R7a (by decide) hd).1 (by decide)
   obtain ⟨A, n, c, rfl⟩ := hv.form
   obtain rfl : n = 13 := hv.len.1
   exact ⟨⟨A, c, hr, hv⟩, hb⟩
theorem V8c (w0 : World) (cs : List Value) (hI : InP J1a [] w0 cs) :
 M0a Tryz.prog 8 #[.agg cs.toArray, .int .i64 1, .int .i64 2000] w0 fun r w' => (∃ A c, r = .tuple #[.slice A 34 c, .int .i64 0] ∧ G9c [] w' (.slice A 34 c) (Y1a B8a)) ∧ Below w0.heap.size w0 w' :=
 (a6a J1a 1 (.inr (.inl rfl)) 2000 (by omega) (by omega) [] w0 cs hI).mono fun r w' ⟨⟨v, l, err, hr, hv, hd⟩, hb⟩ => by
   obtain ⟨rfl, rfl⟩ := (Q7a N7a (by decide) hd).1 (by decide)
   obtain ⟨A, n, c, rfl⟩ := hv.form
   obtain rfl : n = 34 := hv.len.1
   exact ⟨⟨A, c, hr, hv⟩, hb⟩
theorem g5c (w0 : World) (cs : List Value) (hI : InP J1a [] w0 cs) :
 M0a Tryz.prog 8 #[.agg cs.toArray, .int .i64 1, .int .i64 33] w0 fun r w' => (∃ A n c, r = .tuple #[.slice A n c, .int .i64 2]) ∧ Below w0.heap.size w0 w' :=
 (a6a J1a 1 (.inr (.inl rfl)) 33 (by omega) (by omega) [] w0 cs hI).mono fun r w' ⟨⟨v, l, err, hr, hv, hd⟩, hb⟩ => by
   obtain ⟨rfl, rfl⟩ := (Q7a N7a (by decide) hd).2 (by decide)
   obtain ⟨A, n, c, rfl⟩ := hv.form
   exact ⟨⟨A, n, c, hr⟩, hb⟩
theorem I9c (w0 : World) (cs gs : List Value) (hI : InP J1a [] w0 cs) (hG : d4a [] w0 gs M1b) :
 M0a Tryz.prog 16 #[.agg cs.toArray, .int .i64 0, .agg gs.toArray, .int .i64 2000] w0 fun r w' => (∃ A n c, r = .tuple #[.slice A n c, .int .i64 4]) ∧ Below w0.heap.size w0 w' :=
 (n7a J1a 0 (.inl rfl) 2000 (by omega) (by omega) M1b [] w0 cs gs hI hG).mono fun r w' ⟨⟨v, l, err, hr, hv, hd⟩, hb⟩ => by
   obtain rfl := B7b R7a (by decide) (by decide) K3c S7c hd
   obtain ⟨A, n, c, rfl⟩ := hv.form
   exact ⟨⟨A, n, c, hr⟩, hb⟩
theorem w9c (w0 : World) (cs gs : List Value) (hI : InP J1a [] w0 cs) (hG : d4a [] w0 gs h7b) :
 M0a Tryz.prog 16 #[.agg cs.toArray, .int .i64 1, .agg gs.toArray, .int .i64 2000] w0 fun r w' => (∃ A c, r = .tuple #[.slice A 6 c, .int .i64 0]) ∧ Below w0.heap.size w0 w' :=
 (n7a J1a 1 (.inr (.inl rfl)) 2000 (by omega) (by omega) h7b [] w0 cs gs hI hG).mono fun r w' ⟨⟨v, l, err, hr, hv, hd⟩, hb⟩ => by
   obtain ⟨rfl, rfl⟩ := S0b (k := 31) (acc := fun c => x2a c h7b) N7a (show 31 < 2000 from by omega) u5c V1c y7c V0c hd (show (t4a (B8a.take 32) 32 31).length ≤ 120 from by rw [d6b]; omega)
   obtain ⟨A, n, c, rfl⟩ := hv.form
   obtain rfl : n = 6 := by rw [hv.len.1, List.length_reverse]; exact d6b
   exact ⟨⟨A, c, hr⟩, hb⟩
theorem h9c (w0 : World) (cs gs : List Value) (hI : InP J1a [] w0 cs) (hG : d4a [] w0 gs (X8a (-1))) :
 M0a Tryz.prog 16 #[.agg cs.toArray, .int .i64 0, .agg gs.toArray, .int .i64 1] w0 fun r w' => (∃ A c, r = .tuple #[.slice A 0 c, .int .i64 0]) ∧ Below w0.heap.size w0 w' :=
 (n7a J1a 0 (.inl rfl) 1 (by omega) (by omega) (X8a (-1)) [] w0 cs gs hI hG).mono fun r w' ⟨⟨v, l, err, hr, hv, hd⟩, hb⟩ => by
   obtain ⟨rfl, rfl⟩ := S0b (k := 0) (acc := fun c => x2a c (X8a (-1))) R7a (by decide) b6c rfl rfl L1c hd (by rw [J5b]; decide)
   obtain ⟨A, n, c, rfl⟩ := hv.form
   obtain rfl : n = 0 := by rw [hv.len.1, List.length_reverse]; exact J5b
   exact ⟨⟨A, c, hr⟩, hb⟩
theorem j9c (w0 : World) (cs gs : List Value) (hI : InP J1a [] w0 cs) (hG : d4a [] w0 gs (X8a 2)) :
 M0a Tryz.prog 16 #[.agg cs.toArray, .int .i64 0, .agg gs.toArray, .int .i64 2000] w0 fun r w' => (∃ A n c, r = .tuple #[.slice A n c, .int .i64 1]) ∧ Below w0.heap.size w0 w' :=
 (n7a J1a 0 (.inl rfl) 2000 (by omega) (by omega) (X8a 2) [] w0 cs gs hI hG).mono fun r w' ⟨⟨v, l, err, hr, hv, hd⟩, hb⟩ => by
   obtain ⟨A, n, c, rfl⟩ := hv.form
   rcases hd with ⟨_, rfl, _⟩ | ⟨_, _, _, _, _, _, _, h, _⟩ | ⟨h, _⟩ | ⟨h, _⟩
   ·exact ⟨⟨A, n, c, hr⟩, hb⟩
   all_goals (rw [y4c] at h; cases h)
theorem z9b (w0 : World) (hK : a3a [] w0) :
 M0a Tryz.prog 6 #[] w0 fun v w' => v = .bool true ∧ Below w0.heap.size w0 w' := by
 have S := St.refl w0
 have i0 : i64 0 := by unfold i64; omega
 have i1 : i64 1 := by unfold i64; omega
 have i2 : i64 2 := by unfold i64; omega
 have im : i64 (-1) := by unfold i64; omega
 have l0 := p5c
 have l1 := c6c
 refine a0a Tryz.func6 rfl Tryz.ntmps6 rfl ?_
 refine wO0 rfl ⟨⟩ (B0a S f8c rfl rfl (I1c _) ?_)
 rintro v18 w18 ⟨_, rfl, hP⟩ S18 X18
 have KP := w0a.refl [] w18
 obtain ⟨_, _, _, _, _, _, _, _, _, _, _, _, rfl, -⟩ := hP.open_
 refine n0a S18 G5c rfl rfl ?_
 intro g1 w1 S1 X1 G1
 have GKP1 := Nat.le_trans KP.size G1
 replace KP := KP.trans X1
 first | refine e0a (kk := 0) (vs := [_, _, _, _]) S1 u6c rfl rfl rfl rfl rfl rfl rfl ?_
 intro w1_2 S1_2 X1_2
 dsimp only [k0a, List.set] at S1_2
 replace KP := KP.fresh X1_2 (by first | exact GKP1)
 refine lO S1_2.k [.w 0] rfl ⟨⟨rfl,by rfl⟩,⟨⟩⟩ (B0a S1_2 G8b rfl rfl (Z8c _ _ ⟨hP.keep KP, h3a, hK.keep (S1_2.keep0 []), by simp⟩) ?_)
 rintro v21 w21 ⟨_, _, rfl, hA⟩ S21 X21
 replace KP := KP.trans X21
 have KA := w0a.refl [] w21
 refine lO S21.k [.w 0] rfl ⟨⟨rfl,by rfl⟩,⟨⟩⟩ (B0a S21 G8b rfl rfl (V8c _ _ ⟨hP.keep KP, h3a, hK.keep (S21.keep0 []), by simp⟩) ?_)
 rintro v26 w26 ⟨_, _, rfl, hB⟩ S26 X26
 replace KP := KP.trans X26
 replace KA := KA.trans X26
 have KB := w0a.refl [] w26
 refine lC0 rfl ⟨⟩ (D0a b0a [0, 1, 2, 3, 4, 5, 6, 7, 8, 9, 10, 11, 12, 13, 14, 15, 16, 17, 18, 19, 20, 21, 22, 23, 24, 25, 26, 27] [] [] (by kernel_rfl) rfl (Cl _ _ _ _) (Cl.start S26) ?_)
 refine qB0 rfl ⟨⟩ (fun h30 => by exfalso; omega) fun h30 => ?_
 refine qB0 rfl ⟨⟩ (fun h33 => by exfalso; omega) fun h33 => ?_
 refine qB0 rfl ⟨⟩ (fun h38 => by exfalso; omega) fun h38 => ?_
 refine qB0 rfl ⟨⟩ (fun h45 => by exfalso; omega) fun h45 => ?_
 obtain ⟨x0, b49, p49, _, hxx0, hA49, _, hl49, hc49, hr49⟩ := RdS.get ((RdS.keepW hA KA (f3a.keep KA))) (0) (by omega)
 obtain ⟨_, _, _, _, _, _, _, _, _, rfl, _, _, _, _, _, _, _, _, _⟩ := t0a.open_ hr49
 obtain ⟨x1, b52, p52, _, hxx1, hA52, _, hl52, hc52, hr52⟩ := RdS.get ((RdS.keepW hB KB (f3a.keep KB))) (0) (by omega)
 obtain ⟨_, _, _, _, _, _, _, _, _, rfl, _, _, _, _, _, _, _, _, _⟩ := t0a.open_ hr52
 refine qO ((S26.q.b hc52).b hc49) [.x b49 p49,.v 0,.x b52 p52,.v 1] rfl ⟨⟨rfl,hl52⟩,⟨hA52,by omega⟩,⟨rfl,hl49⟩,⟨hA49,by omega⟩,⟨⟩⟩ (H2a P6c rfl rfl (fun w1 S1 X1 => J3b (Z0b x0 x1 [] _ _ _ (t0a.keep X1.of_nil hr49) (t0a.keep X1.of_nil hr52)) (decide_eq_true (Option.some.inj ((hxx0.symm.trans U2b).trans (hxx1.symm.trans A0c).symm)))) ?_)
 refine qD rfl ⟨⟩ ?_
 rintro wR4 ⟨SR4, XR4⟩
 replace KP := KP.trans XR4
 replace KA := KA.trans XR4
 refine lC0 rfl ⟨⟩ (f0c b0a (fun i => [0, 3, 4, 5, 6, 7].contains i) [0, 1, 2, 3, 4, 5, 6, 7] (by kernel_rfl) (by kernel_rfl) (Cl _ _ _ _) (Cl.start SR4) ?_)
 rintro wR6 ⟨SR6, XR6⟩
 replace KP := KP.trans XR6
 replace KA := KA.trans XR6
 refine N1a ⟨SR6, XR6⟩ rfl rfl rfl ?_
 refine I1a r4a rfl (fun w1 hw => hw.1.cells 0 rfl) rfl rfl ?_
 refine d0a ?_
 refine T9a ⟨SR6, XR6⟩ rfl rfl rfl rfl ?_
 refine B0a SR6 t0c rfl rfl (h1b _) ?_
 rintro v59 w59 ⟨_, rfl, hZ⟩ S59 X59
 have XCw59 := XR6.trans X59
 replace KP := KP.trans X59
 replace KA := KA.trans X59
 have KZ := w0a.refl [] w59
 obtain ⟨_, rfl, hZe, -⟩ := id hZ
 obtain ⟨_, _, _, rfl, -⟩ := id hZe.open_
 refine S0a ⟨rfl, ?_⟩
 refine T9a ⟨S59, XCw59⟩ rfl rfl rfl rfl ?_
 refine B0a S59 u6b rfl rfl (I9c _ _ _ ⟨hP.keep KP, h3a, hK.keep (S59.keep0 []), by simp⟩ (hZ.keep KZ)) ?_
 rintro v60 w60 ⟨_, _, _, rfl⟩ S60 X60
 have XCw60 := XCw59.trans X60
 replace KP := KP.trans X60
 replace KA := KA.trans X60
 refine S0a ⟨rfl, ?_⟩
 refine N1a ⟨S60, XCw60⟩ rfl rfl rfl ?_
 refine e1a (v := .tuple _) rfl rfl ?_
 refine d0a ?_
 refine N1a ⟨S60, XCw60⟩ rfl rfl rfl ?_
 refine n2a rfl rfl rfl ?_
 refine d0a ?_
 refine N1a ⟨S60, XCw60⟩ rfl rfl rfl ?_
 refine n2a rfl rfl rfl ?_
 refine d0a ?_
 refine N1a ⟨S60, XCw60⟩ rfl rfl rfl ?_
 refine e3a (v := .slice _ _ _) rfl rfl ?_
 refine d0a ?_
 refine N1a ⟨S60, XCw60⟩ rfl rfl rfl ?_
 refine e3a (v := .int .i64 _) rfl rfl ?_
 refine d0a ?_
 refine W5a ⟨S60, XCw60⟩ ?_
 refine fC0 rfl ⟨⟩ (f0c b0a (fun i => [0, 2, 3, 5, 6, 7, 8, 9].contains i) [0, 1, 2, 3, 4, 5, 6, 7, 8, 9] (by kernel_rfl) (by kernel_rfl) (Cl _ _ _ _) (Cl.start S60) ?_)
 rintro wR7 ⟨SR7, XR7⟩
 replace KP := KP.trans XR7
 replace KA := KA.trans XR7
 refine N1a ⟨SR7, XR7⟩ rfl rfl rfl ?_
 refine I1a r4a rfl (fun w1 hw => hw.1.cells 0 rfl) rfl rfl ?_
 refine d0a ?_
 refine T9a ⟨SR7, XR7⟩ rfl rfl rfl rfl ?_
 refine B0a SR7 t0c rfl rfl (h1b _) ?_
 rintro v65 w65 ⟨_, rfl, hY⟩ S65 X65
 have XCw65 := XR7.trans X65
 replace KP := KP.trans X65
 replace KA := KA.trans X65
 have KY := w0a.refl [] w65
 obtain ⟨_, rfl, hYe, -⟩ := id hY
 obtain ⟨_, _, _, rfl, -⟩ := id hYe.open_
 refine S0a ⟨rfl, ?_⟩
 refine N1a ⟨S65, XCw65⟩ rfl rfl rfl ?_
 refine n1c Tryz.underlying55 rfl rfl Tryz.underlying53 V5a rfl rfl rfl ?_
 refine d0a ?_
 refine N1a ⟨S65, XCw65⟩ rfl rfl rfl ?_
 refine h2a w2b (vs := [(0, .int .i64 _), (2, .agg _)]) (cs := [_, _, _, _, _, _]) rfl rfl rfl rfl ?_
 refine d0a ?_
 refine T9a ⟨S65, XCw65⟩ rfl rfl rfl rfl ?_
 refine B0a S65 u6b rfl rfl (w9c _ _ _ ⟨hP.keep KP, h3a, hK.keep (S65.keep0 []), by simp⟩ ⟨_, rfl, RdE.keep KY _ _ hYe, im, i0⟩) ?_
 rintro v68 w68 ⟨_, _, rfl⟩ S68 X68
 have XCw68 := XCw65.trans X68
 replace KP := KP.trans X68
 replace KA := KA.trans X68
 refine S0a ⟨rfl, ?_⟩
 refine N1a ⟨S68, XCw68⟩ rfl rfl rfl ?_
 refine e1a (v := .tuple _) rfl rfl ?_
 refine d0a ?_
 refine N1a ⟨S68, XCw68⟩ rfl rfl rfl ?_
 refine n2a rfl rfl rfl ?_
 refine d0a ?_
 refine N1a ⟨S68, XCw68⟩ rfl rfl rfl ?_
 refine n2a rfl rfl rfl ?_
 refine d0a ?_
 refine N1a ⟨S68, XCw68⟩ rfl rfl rfl ?_
 refine e3a (v := .slice _ _ _) rfl rfl ?_
 refine d0a ?_
 refine N1a ⟨S68, XCw68⟩ rfl rfl rfl ?_
 refine e3a (v := .int .i64 _) rfl rfl ?_
 refine d0a ?_
 refine W5a ⟨S68, XCw68⟩ ?_
 refine fC0 rfl ⟨⟩ (f0c b0a (fun i => [0, 2, 4, 5, 6, 7, 8].contains i) [0, 1, 2, 3, 4, 5, 6, 7, 8] (by kernel_rfl) (by kernel_rfl) (Cl _ _ _ _) (Cl.start S68) ?_)
 rintro wR8 ⟨SR8, XR8⟩
 replace KP := KP.trans XR8
 replace KA := KA.trans XR8
 refine N1a ⟨SR8, XR8⟩ rfl rfl rfl ?_
 refine I1a r4a rfl (fun w1 hw => hw.1.cells 0 rfl) rfl rfl ?_
 refine d0a ?_
 refine T9a ⟨SR8, XR8⟩ rfl rfl rfl rfl ?_
 refine g0a SR8 I0b rfl rfl (E9a _ _ _) ?_
 intro w73 S73 X73
 have XCw73 := XR8.trans X73
 replace KP := KP.trans X73
 replace KA := KA.trans X73
 refine S0a ⟨rfl, ?_⟩
 refine N1a ⟨S73, XCw73⟩ rfl rfl rfl ?_
 refine h2a w2b (vs := [(0, .int .i64 _), (2, .agg _)]) (cs := [_, _, _, _, _, _]) rfl rfl rfl rfl ?_
 refine d0a ?_
 refine T9a ⟨S73, XCw73⟩ rfl rfl rfl rfl ?_
 refine B0a S73 u6b rfl rfl (h9c _ _ _ ⟨hP.keep KP, h3a, hK.keep (S73.keep0 []), by simp⟩ ⟨_, rfl, k3a i1 i1 i1, im, i0⟩) ?_
 rintro v75 w75 ⟨_, _, rfl⟩ S75 X75
 have XCw75 := XCw73.trans X75
 replace KP := KP.trans X75
 replace KA := KA.trans X75
 refine S0a ⟨rfl, ?_⟩
 refine N1a ⟨S75, XCw75⟩ rfl rfl rfl ?_
 refine e1a (v := .tuple _) rfl rfl ?_
 refine d0a ?_
 refine N1a ⟨S75, XCw75⟩ rfl rfl rfl ?_
 refine n2a rfl rfl rfl ?_
 refine d0a ?_
 refine N1a ⟨S75, XCw75⟩ rfl rfl rfl ?_
 refine n2a rfl rfl rfl ?_
 refine d0a ?_
 refine N1a ⟨S75, XCw75⟩ rfl rfl rfl ?_
 refine e3a (v := .slice _ _ _) rfl rfl ?_
 refine d0a ?_
 refine N1a ⟨S75, XCw75⟩ rfl rfl rfl ?_
 refine e3a (v := .int .i64 _) rfl rfl ?_
 refine d0a ?_
 refine W5a ⟨S75, XCw75⟩ ?_
 refine fO S75.k [.w 0] rfl ⟨by omega,⟨rfl,by rfl⟩,⟨⟩⟩ (B0a S75 G8b rfl rfl (g5c _ _ ⟨hP.keep KP, h3a, hK.keep (S75.keep0 []), by simp⟩) ?_)
 rintro v83 w83 ⟨_, _, _, rfl⟩ S83 X83
 replace KP := KP.trans X83
 replace KA := KA.trans X83
 refine lO S83.k [.w 0] rfl ⟨⟨rfl,by rfl⟩,⟨⟩⟩ (g0a S83 G8b rfl rfl (z4b J1a 3 2000 rfl [] _ _ ⟨hP.keep KP, h3a, hK.keep (S83.keep0 []), by simp⟩) ?_)
 intro w88 S88 X88
 replace KP := KP.trans X88
 replace KA := KA.trans X88
 refine lC0 rfl ⟨⟩ (f0c b0a (fun i => [0, 2, 4, 5, 6, 7, 8].contains i) [0, 1, 2, 3, 4, 5, 6, 7, 8] (by kernel_rfl) (by kernel_rfl) (Cl _ _ _ _) (Cl.start S88) ?_)
 rintro wR11 ⟨SR11, XR11⟩
 replace KP := KP.trans XR11
 replace KA := KA.trans XR11
 refine N1a ⟨SR11, XR11⟩ rfl rfl rfl ?_
 refine I1a r4a rfl (fun w1 hw => hw.1.cells 0 rfl) rfl rfl ?_
 refine d0a ?_
 refine T9a ⟨SR11, XR11⟩ rfl rfl rfl rfl ?_
 refine g0a SR11 I0b rfl rfl (E9a _ _ _) ?_
 intro w93 S93 X93
 have XCw93 := XR11.trans X93
 replace KP := KP.trans X93
 replace KA := KA.trans X93
 refine S0a ⟨rfl, ?_⟩
 refine N1a ⟨S93, XCw93⟩ rfl rfl rfl ?_
 refine h2a w2b (vs := [(0, .int .i64 _), (2, .agg _)]) (cs := [_, _, _, _, _, _]) rfl rfl rfl rfl ?_
 refine d0a ?_
 refine T9a ⟨S93, XCw93⟩ rfl rfl rfl rfl ?_
 refine B0a S93 u6b rfl rfl (j9c _ _ _ ⟨hP.keep KP, h3a, hK.keep (S93.keep0 []), by simp⟩ ⟨_, rfl, k3a i1 i1 i1, i2, i0⟩) ?_
 rintro v95 w95 ⟨_, _, _, rfl⟩ S95 X95
 have XCw95 := XCw93.trans X95
 replace KP := KP.trans X95
 replace KA := KA.trans X95
 have hIn : InP J1a [] w95 _ := ⟨hP.keep KP, h3a, hK.keep (S95.keep0 []), by simp⟩
 refine S0a ⟨rfl, ?_⟩
 refine N1a ⟨S95, XCw95⟩ rfl rfl rfl ?_
 refine e1a (v := .tuple _) rfl rfl ?_
 refine d0a ?_
 refine N1a ⟨S95, XCw95⟩ rfl rfl rfl ?_
 refine n2a rfl rfl rfl ?_
 refine d0a ?_
 refine N1a ⟨S95, XCw95⟩ rfl rfl rfl ?_
 refine n2a rfl rfl rfl ?_
 refine d0a ?_
 refine N1a ⟨S95, XCw95⟩ rfl rfl rfl ?_
 refine e3a (v := .slice _ _ _) rfl rfl ?_
 refine d0a ?_
 refine N1a ⟨S95, XCw95⟩ rfl rfl rfl ?_
 refine e3a (v := .int .i64 _) rfl rfl ?_
 refine d0a ?_
 refine W5a ⟨S95, XCw95⟩ ?_
 refine fC0 rfl ⟨⟩ (D0a b0a [0, 1, 2, 3, 4, 5, 6, 7, 8, 9, 10, 11, 12, 13, 14, 15, 16, 17, 18, 19, 20, 21, 22, 23, 24, 25, 26, 27, 28, 29, 30, 31, 32, 33, 34, 35, 36, 37, 38, 39, 40, 41, 42, 43, 44, 45] [46] [47, 48, 49, 50] (by kernel_rfl) rfl (Cl _ _ _ _) (Cl.start S95) ?_)
 refine qB0 rfl ⟨⟩ (fun h99 => ?_) (fun h99 => by exfalso; omega)
 refine qB0 rfl ⟨⟩ (fun h102 => ?_) (fun h102 => by exfalso; omega)
 refine qB0 rfl ⟨⟩ (fun h107 => ?_) (fun h107 => by exfalso; omega)
 refine qB0 rfl ⟨⟩ (fun h111 => ?_) (fun h111 => by exfalso; omega)
 refine qB0 rfl ⟨⟩ (fun h116 => ?_) (fun h116 => by exfalso; omega)
 refine qB0 rfl ⟨⟩ (fun h120 => ?_) (fun h120 => by exfalso; omega)
 refine qB0 rfl ⟨⟩ (fun h124 => ?_) (fun h124 => by exfalso; omega)
 refine qB0 rfl ⟨⟩ (fun h128 => ?_) (fun h128 => by exfalso; omega)
 obtain ⟨y0, b133, p133, _, hxy0, hA133, _, hl133, hc133, hr133⟩ := RdS.get ((RdS.keepW hA KA (f3a.keep KA))) (0) (by omega)
 obtain ⟨_, _, _, _, _, _, _, _, _, rfl, _, _, _, _, _, _, _, _, _⟩ := t0a.open_ hr133
 refine qO (S95.q.b hc133) [.w 0,.x b133 p133,.v 0] rfl ⟨⟨rfl,hl133⟩,⟨hA133,by omega⟩,⟨rfl,by rfl⟩,⟨⟩⟩ (H2a I0b rfl rfl (fun w1 S1 X1 => E9a _ _ _) ?_)
 refine qO0 rfl ⟨⟩ (h2a w2b (vs := [(0, .int .i64 _), (2, .agg _)]) (cs := [_, _, _, _, _, _]) rfl rfl rfl rfl ?_)
 refine qO0 rfl ⟨⟩ ?_
 refine H2a Y2c rfl rfl (fun w1 S1 X1 => J3b (I3b J1a y0 (X8a 1) [] _ _ _ _ (hIn.keep X1.of_nil) (t0a.keep X1.of_nil hr133) (by rw [← u1c hxy0]; exact U5a h3a) ⟨_, rfl, k3a i1 i1 i1, i1, i0⟩) (by rw [← u1c hxy0]; exact C1c)) ?_
 obtain ⟨z0, b142, p142, _, hxz0, hA142, _, hl142, hc142, hr142⟩ := RdS.get ((RdS.keepW hA KA (f3a.keep KA))) (0) (by omega)
 obtain ⟨_, _, _, _, _, _, _, _, _, rfl, _, _, _, _, _, _, _, _, _⟩ := t0a.open_ hr142
 refine qN (S95.q.b hc142) [.w 0,.x b142 p142,.v 0] rfl ⟨⟨rfl,hl142⟩,⟨hA142,by omega⟩,⟨rfl,by rfl⟩,⟨⟩⟩ (w5a ?_)
 refine H1b (_) rfl rfl t0c rfl (fun v w w' ⟨cs, h, hr⟩ k => ⟨cs, h, hr.keep k.of_nil⟩) (fun w1 S1 X1 => h1b _) ?_
 refine o2a ?_
 rintro wR12 ⟨SR12, XR12⟩
 rintro v144 ⟨_, rfl, hX⟩
 dsimp only [I3a]
 have KX := w0a.refl [] wR12
 obtain ⟨_, rfl, hXe, -⟩ := id hX
 obtain ⟨_, _, _, rfl, -⟩ := id hXe.open_
 refine lO0 rfl ⟨⟩ ?_
 refine g0a SR12 Y2c rfl rfl (t7b (I3b J1a z0 M1b [] _ _ _ _ (hIn.keep XR12.of_nil) (t0a.keep XR12.of_nil hr142) (by rw [← u1c hxz0]; exact U5a h3a) (hX.keep KX)) (by rw [← u1c hxz0]; exact E1c)) ?_
 intro w145 S145 X145
 exact lT rfl ⟨⟩ rfl ⟨rfl, S145.fin⟩
section
variable {P : Program} {r : Option Nat} {N : Nat} {D : List Deferred} {e : Env} {w : World} {ops : Array Oper} {rest : List Oper} {K : List Deferred → Env → World → Prop} {d : Nat} {t : TypeId} {p : String} {af : Array Edge} {x y : Operand} {xt yt : TypeId}
theorem D1c {k el : TypeId} {o : Option Nat} (ht : P.underlying xt = some (.map k el)) (hx : ev e x = .map o) (hy : ev e y = .map none) (hd : Nat.ble (d + 1) N = true)
 (h1 : ∀ g, o = some g → WL P r N ops rest K D (upd e d (.bool true)) w) (h2 : o = none → WL P r N ops rest K D (upd e d (.bool false)) w) :
 WL P r N ops (⟨some d, .binOp .neq xt x y yt, t, p, af, none⟩ :: rest) K D e w := by
 have hr : (execOp (ev e) ⟨some d, .binOp .neq xt x y yt, t, p, af, none⟩).run P w = .ok (.value (.bool (!o.isNone))) w := by
  simp only [execOp, hx, hy, Sem.run_bind, eqGuard_at_map, Sem.run_pure, Result.andThen_ok, run_neq_map_nil w xt k el o ht]
 cases o with
 | none => exact c1a rfl rfl hd (by simp) hr (h2 rfl)
 | some g => exact c1a rfl rfl hd (by simp) hr (h1 g rfl)
end
def I7a (l : List q0a) : List (Value × Value) := l.map fun c => (.string (F7b c), .bool true)
theorem P0b (l : List q0a) (c : q0a) : I7a (l ++ [c]) = I7a l ++ [(.string (F7b c), .bool true)] := by simp [I7a]
theorem C6b {l : List q0a} {k v : Value} (h : (k, v) ∈ I7a l) : v = .bool true := by
 obtain ⟨_, _, he⟩ := List.mem_map.1 h
 exact (Prod.mk.inj he).2.symm
theorem C0c {p : f0a} (hp : b1a p) {l : List q0a} {k : Nat} {c : q0a} (hn : l.Nodup) (hf : ∀ x ∈ l, D3a p x) (hc : l[k]? = some c) : ∀ x ∈ I7a (l.take k), x.1 ≠ Value.string (F7b c) := by
 intro x hx he
 obtain ⟨y, hy, rfl⟩ := List.mem_map.1 hx
 have h1 : F7b y = F7b c := by injection he
 obtain ⟨i, hi, h2⟩ := List.getElem_of_mem hy
 have hi2 : i < k := by rw [List.length_take] at hi; omega
 have hkl := (List.getElem?_eq_some_iff.1 hc).1
 rw [List.getElem_take] at h2
 have hyl : y ∈ l := by rw [← h2]; exact List.getElem_mem _
 have h3 := G1c hp (hf y hyl) (hf c (List.mem_of_getElem? hc)) h1
 have h4 := (List.nodup_iff_pairwise_ne.1 hn)
 rw [List.pairwise_iff_getElem] at h4
 have h5 := h4 i k (by omega) hkl hi2
 rw [h2] at h5
 exact h5 (h3.trans (List.getElem?_eq_some_iff.1 hc).2.symm)
theorem O7b {l : List q0a} {c : q0a} (h : c ∈ l) (hn : ∀ x ∈ I7a l, x.1 ≠ Value.string (F7b c)) : False :=
 hn _ (List.mem_map.2 ⟨c, h, rfl⟩) rfl
theorem U6b {p : f0a} (hp : b1a p) {m : Int} (hm : m = 0 ∨ m = 1) (c : q0a) (h : L3a (E5a p m) (X0a p) c) : L3a (E5a p (m + 1)) (X0a p) c := by
 rcases hm with rfl | rfl
 ·exact w1c hp h
 ·exact z1c h
theorem E8a (p : f0a) (w0 : World) (cs : List Value) (hP : j1a [] w0 p cs) (hN : X2b p) (hK : a3a [] w0) :
 M0a Tryz.prog 4 #[.agg cs.toArray] w0 fun v w' => v = .bool true ∧ Below w0.heap.size w0 w' := by
 obtain ⟨Ac, nc, cc, Am, nm, cm, Al, nl, cl, At, nt, ct, rfl, -⟩ := hP.open_
 have S := St.refl w0
 refine a0a Tryz.func4 rfl Tryz.ntmps4 rfl ?_
 refine wO0 rfl ⟨⟩ (j0a S (by conv => lhs; whnf) rfl ?_)
 intro g1 w1 S1 X1 G1
 refine lO0 rfl ⟨⟩ (g0a S1 r9c rfl rfl (z9b _ (hK.keep (S1.keep0 []))) ?_)
 intro w10 S10 X10
 refine lO S10.k [.w 0] rfl ⟨⟨rfl,rfl⟩,⟨⟩⟩ (P7b S10 Q9c rfl rfl (A7b p [] _ _ (hP.keep (S10.keep0 [])) (by simp) hN) (fun h13 w13 S13 X13 => ?_) (fun w13 S13 X13 => ?_))
 ·refine lC0 rfl ⟨⟩ (wL (fun μ D ε w => D = [] ∧ ∃ m : Int, ∃ u : Option Nat, ∃ L0 : List q0a, (m + 1 = μ) ∧ (m ≤ 2) ∧ ((m = 2 ∧ u = none) ∨ (m ≠ 2 ∧ ∃ gm, u = some gm ∧ w2a Tryz.prog 9 w gm (I7a L0) ∧ o6a p (m + 1) 2000 L0 0)) ∧ St [] w0 w [(some g1, 27, [.slice Ac nc cc, .slice Am nm cm, .slice Al nl cl, .slice At nt ct])] ∧ Sl ε [(1, .pointer (some ⟨g1, 0, none⟩)), (3, .map u), (4, .int .i64 m)]) (μ := 3) ⟨rfl, 2, none, [], by omega, by omega, .inl ⟨rfl, rfl⟩, S13, rfl⟩ ?_)
  rintro μ D ε w ⟨rfl, m, u, L0, _, _, hU, S, eZ⟩
  refine wK eZ ?_
  have KU := w0a.refl [] w
  refine wB0 rfl ⟨⟩ (fun h16 => ?_) fun h16 => ?_
  ·refine lO S.k [.w 0] rfl ⟨⟨rfl,rfl⟩,⟨⟩⟩ ?_
   have hmm : m = 0 ∨ m = 1 ∨ m = 2 := by omega
   refine B0a S G8b rfl rfl (a6a p m hmm 2000 (by omega) (by omega) [] _ _ ⟨hP.keep (S.keep0 []), h13, hK.keep (S.keep0 []), by simp⟩) ?_
   rintro v22 w22 ⟨_, l, er, rfl, hA, hD⟩ S22 X22
   replace KU := KU.trans X22
   have KA := w0a.refl [] w22
   obtain ⟨Av, nv, cv, rfl⟩ := hA.form
   obtain ⟨_, -, _⟩ := hA.len
   have hS5 : m ≠ 2 → er = 0 ∧ ∀ c ∈ l, c ∈ L0 := fun hne => by
    rcases hU with ⟨h, -⟩ | ⟨h, gm', -, -, h2⟩
    ·exact absurd h hne
    ·exact a5b h2 hD (U6b h13 (by omega))
   have hm5 : ∀ gm, u = some gm → m ≠ 2 ∧ w2a Tryz.prog 9 w22 gm (I7a L0) := fun gm hg => by
    rcases hU with ⟨-, h⟩ | ⟨h2, gm', h, hm', -⟩
    ·rw [h] at hg; cases hg
    ·obtain rfl : gm' = gm := by rw [h] at hg; exact Option.some.inj hg
     exact ⟨h2, hm'.keep KU (by simp)⟩
   have hnd := t3b hD
   have hfl := O6b h13 hD
   have hl2 := J0b hD
   refine lCn 7 S22.k [] rfl ⟨⟩ (wX (fun D ε w => D = [] ∧ (er = 0) ∧ (G9c [] w (.slice Av nv cv) l) ∧ (∀ gm, u = some gm → m ≠ 2 ∧ w2a Tryz.prog 9 w gm (I7a L0)) ∧ St [] w0 w [(some g1, 27, [.slice Ac nc cc, .slice Am nm cm, .slice Al nl cl, .slice At nt ct])] ∧ Sl ε [(1, .pointer (some ⟨g1, 0, none⟩)), (3, .map u), (4, .int .i64 m), (5, .slice Av nv cv), (6, .int .i64 er)]) ?_ ?_)
   ·refine wB0 rfl ⟨⟩ (fun h26 => ?_) fun h26 => ?_
    ·refine lB0 rfl ⟨⟩ (fun h29 => ?_) fun h29 => ?_
     ·refine lB0 rfl ⟨⟩ (fun h32 => ?_) (fun h32 => by exfalso; rcases O7a hD with h | ⟨h, -⟩ <;> omega)
      exact lT rfl ⟨⟩ rfl ⟨rfl, S22.fin⟩
     refine lP0 rfl ⟨⟩ ⟨rfl, ((by omega)), (RdS.keepW hA KA (f3a.keep KA)), ((fun gm hg => ⟨(hm5 gm hg).1, (hm5 gm hg).2.keep KA (by simp)⟩)), S22, rfl⟩
    refine lP0 rfl ⟨⟩ ⟨rfl, ((by omega)), (RdS.keepW hA KA (f3a.keep KA)), ((fun gm hg => ⟨(hm5 gm hg).1, (hm5 gm hg).2.keep KA (by simp)⟩)), S22, rfl⟩
   rintro D ε w ⟨rfl, hE, hA1, hm1, S, eZ⟩
   refine wK eZ ?_
   refine wB0 rfl ⟨⟩ (fun h34 => by exfalso; omega) fun h34 => ?_
   refine lO0 rfl ⟨⟩ ?_
   have z35 := S.size
   obtain ⟨wc, hwc⟩ : ∃ wc, wc = w := ⟨_, rfl⟩
   refine e4a (k := 9) S rfl ?_
   intro g35 w35 S35 X35 G35 hmap0
   have ngm : ∀ gm, u = some gm → gm ≠ g35 := fun gm hg => by
    have := (hm1 gm hg).2.lt; omega
   have hU5 : ∀ gm, u = some gm → w2a Tryz.prog 9 w35 gm (I7a L0) := fun gm hg => (hm1 gm hg).2.keep X35 (by simp)
   have hA5 : RdS [g35] w35 3 (f3a [g35] w35) (.slice Av nv cv) l := by
    have hmr : ∀ x ∈ [g35], x ∈ ([] : List Nat) ∨ w.heap.size ≤ x := fun x hx => by rw [List.mem_singleton] at hx; subst hx; exact .inr G35
    have h1 : RdS [g35] w 3 (f3a [g35] w) (.slice Av nv cv) l := RdS.moreW hA1 (by omega) hmr (fun _ _ => t0a.more hmr)
    exact RdS.keepW h1 X35.of_nil (f3a.keep X35.of_nil)
   refine lC0 rfl ⟨⟩ (wL (fun μk D ε w => D = [] ∧ ∃ k : Nat, (k + μk = (l.length)) ∧ (w2a Tryz.prog 9 w g35 (I7a (l.take k))) ∧ (∀ gm, u = some gm → w2a Tryz.prog 9 w gm (I7a L0)) ∧ (RdS [g35] w 3 (f3a [g35] w) (.slice Av nv cv) l) ∧ St [] w0 w [(some g1, 27, [.slice Ac nc cc, .slice Am nm cm, .slice Al nl cl, .slice At nt ct])] ∧ Sl ε [(1, .pointer (some ⟨g1, 0, none⟩)), (3, .map u), (4, .int .i64 m), (7, .map (some g35)), (36, .slice Av nv cv), (37, .int .i64 nv), (38, .int .i64 k)]) (μ := (l.length)) ⟨rfl, 0, by omega, hmap0, hU5, hA5, S35, rfl⟩ ?_)
   rintro μk D ε w ⟨rfl, k, _, hmap, hU2, hA2, S, eZ⟩
   refine wK eZ ?_
   have KW := w0a.refl [] w
   refine wB0 rfl ⟨⟩ (fun h39 => ?_) fun h39 => ?_
   ·obtain ⟨c, b40, p40, _, hxc, hA40, _, hl40, hc40, hr40⟩ := RdS.get (hA2) (k) (by omega)
    obtain ⟨_, _, _, _, _, _, _, _, _, rfl, _, _, _, _, _, _, _, _, _⟩ := t0a.open_ hr40
    refine lO (S.k.b hc40) [.x b40 p40,.v 0] rfl ⟨⟨rfl,hl40⟩,⟨hA40,by omega⟩,⟨⟩⟩ (n0a S C5a rfl rfl ?_)
    intro g9 w9 S9 X9 G9
    have GKW9 := Nat.le_trans KW.size G9
    replace KW := KW.trans X9
    refine e0a (kk := 0) (vs := [_, _, _]) S9 R2a rfl rfl rfl rfl rfl rfl rfl ?_
    intro w17_3 S17_3 X17_3
    dsimp only [k0a, List.set] at S17_3
    replace KW := KW.fresh X17_3 (by first | exact GKW9)
    refine lO S17_3.k [.w 0] rfl ⟨⟨rfl,by rfl⟩,⟨⟩⟩ (B0a S17_3 m8c rfl rfl (I7b p h13 c (hfl c (c0a hxc)) [g35] _ _ (t0a.keep KW.of_nil hr40)) ?_)
    rintro v44 w44 ⟨rfl, _⟩ S44 X44
    replace KW := KW.trans X44
    have hkey : keyOf Tryz.prog 9 (.string (F7b c)) = some (.string (F7b c).data.toList) := Go.WideMaps.keyOf_string_mk Tryz.underlying9 (by unfold F7b; rw [v8a]; unfold maxLen; omega)
    refine e7a S44 (Go.Maps.string_keyed Tryz.underlying9) Tryz.underlying50 (hmap.keep KW (by simp)) rfl rfl rfl hkey (C0c h13 hnd hfl hxc) (.inl (by omega)) ?_
    intro wm Sm Xm Mm
    have hU9 : ∀ gm, u = some gm → w2a Tryz.prog 9 wm gm (I7a L0) := fun gm hg => ((hU2 gm hg).keep KW (by simp)).keep Xm (by simpa using ngm gm hg)
    have hA9 : RdS [g35] wm 3 (f3a [g35] wm) (.slice Av nv cv) l := RdS.keepW (RdS.keepW hA2 KW.of_nil (f3a.keep KW.of_nil)) Xm (f3a.keep Xm)
    have KV := w0a.refl [] wm
    have hr41 := t0a.keep Xm (t0a.keep KW.of_nil hr40)
    refine lOn 5 Sm.k [] rfl ⟨⟩ (D1c Tryz.underlying50 rfl rfl rfl (fun gm hgm => ?_) (fun hgm => ?_))
    ·refine lO Sm.k [.w 0] rfl ⟨⟨rfl,by rfl⟩,⟨⟩⟩ (B0a Sm m8c rfl rfl (I7b p h13 c (hfl c (c0a hxc)) [g35] _ _ (t0a.keep KV.of_nil hr41)) ?_)
     rintro v50 w50 ⟨rfl, _⟩ S50 X50
     replace KV := KV.trans X50
     refine lO0 rfl ⟨⟩ ?_
     subst hgm
     refine d3b (Go.Maps.string_keyed Tryz.underlying9) Tryz.underlying50 d9c ((hU9 gm rfl).keep KV (by simp)) rfl rfl hkey rfl (fun v51 hv51 => ?_) (fun hn51 => (O7b ((hS5 (hm5 gm rfl).1).2 c (c0a hxc)) hn51).elim)
     obtain rfl := C6b hv51
     refine lP0 rfl ⟨by omega,⟨⟩⟩ ⟨μk - 1, by omega, rfl, (k + 1), (by omega), ?_, ?_, ?_, S50.tail, rfl⟩
     ·rw [J0a hxc, P0b]; exact Mm.keep KV (by simp)
     ·exact fun gm hg => (hU9 gm hg).keep KV (by simp)
     ·exact RdS.keepW hA9 KV.of_nil (f3a.keep KV.of_nil)
    refine lP0 rfl ⟨by omega,⟨⟩⟩ ⟨μk - 1, by omega, rfl, (k + 1), (by omega), ?_, ?_, ?_, Sm.tail, rfl⟩
    ·rw [J0a hxc, P0b]; exact Mm.keep KV (by simp)
    ·exact fun gm hg => (hU9 gm hg).keep KV (by simp)
    ·exact RdS.keepW hA9 KV.of_nil (f3a.keep KV.of_nil)
   refine lP0 rfl ⟨by omega,⟨⟩⟩ ⟨μ - 1, by omega, rfl, (m - 1), (_), (l), (by omega), (by omega), ?_, S, rfl⟩
   rw [List.take_of_length_le (by omega)] at hmap
   rw [hE] at hD
   exact .inr ⟨by omega, g35, rfl, hmap, by rw [show m - 1 + 1 = m by omega]; exact hD⟩
  exact lT rfl ⟨⟩ rfl ⟨rfl, S.fin⟩
 exact lT rfl ⟨⟩ rfl ⟨rfl, S13.fin⟩
end Go.Fw
