/-
  Part 4 of 9 of the proof of ExploreModels: what it leans on. No conditions.
-/
import Derived.Test.YtepiknjglmmciaaGreatDoorZExploreModels3
import Derived.Laws.CopyRow
import Derived.Laws.IdiomCopy
import Derived.Laws.StructEq
import Derived.Lib.SliceRun
import Derived.Laws.OwnMore
set_option maxRecDepth 100000
set_option maxHeartbeats 4000000
namespace Go.Proofs.YtepiknjglmmciaaGreatDoor
end Go.Proofs.YtepiknjglmmciaaGreatDoor
namespace Go.Fw
open Go.Proofs.YtepiknjglmmciaaGreatDoor Go.Proofs Go.RowKit
abbrev G2c := Nat → Option (FuncId × Array Value × (Value → Prop) × (Value → World → Prop))
section
variable {P : Program} {r : Option Nat} {N : Nat} {l : List Oper} {D : List Deferred} {C : World → Prop} {V : G2c} {K : Env → World → Prop}
def FL (P : Program) (N : Nat) (l : List Oper) (C : World → Prop) (V : G2c) (K : Env → World → Prop) (lo : Nat) : List Nat → Env → List Nat → (World → Prop) → Prop
 | [], e, _, Φ => ∀ w, C w → Φ w → K e w
 | i :: rest, e, gs, Φ => ∃ o d, l[i]? = some o ∧ o.dst = some d ∧ d < N ∧
  ((∃ v, PV P l C o e v ∧ FL P N l C V K lo rest (upd e d v) gs Φ) ∨
   (∃ (mk : Nat → Value) (t : TypeId) (cs : List Value), Z0a l.toArray e o = true ∧
     (∀ w, C w → ∃ w', (execOp (ev e) o).run P w = .ok (.value (mk w.heap.size)) w' ∧ C w' ∧ w0a [] w w' ∧ w'.heap.size = w.heap.size + 1 ∧ p0a w' (w.heap.size, t, cs)) ∧
     ∀ g, lo ≤ g → g ∉ gs → FL P N l C V K lo rest (upd e d (mk g)) (g :: gs) (fun w => Φ w ∧ p0a w (g, t, cs))) ∨
   (∃ f args Qp Qw, V i = some (f, args, Qp, Qw) ∧ Z0a l.toArray e o = true ∧ (∀ w, C w → (execOp (ev e) o).run P w = .ok (.enter f args) w) ∧ ∀ u, Qp u → FL P N l C V K lo rest (upd e d u) gs (fun w => Φ w ∧ Qw u w)))
theorem FL.mono {lo lo' : Nat} : ∀ (R : List Nat) (e : Env) (gs gs' : List Nat) (Φ Φ' : World → Prop), (∀ g, lo' ≤ g → g ∉ gs' → lo ≤ g ∧ g ∉ gs) → (∀ w, Φ' w → Φ w) → FL P N l C V K lo R e gs Φ → FL P N l C V K lo' R e gs' Φ'
 | [], e, gs, gs', Φ, Φ', _, hΦ, h => fun w hC hw => h w hC (hΦ w hw)
 | i :: R, e, gs, gs', Φ, Φ', hg, hΦ, h => by
   obtain ⟨o, d, h1, h2, h3, h4⟩ := h
   refine ⟨o, d, h1, h2, h3, ?_⟩
   rcases h4 with ⟨v, h5, h6⟩ | ⟨mk, t, cs, h5, h6, h7⟩ | ⟨f, args, Qp, Qw, h5, h6, h7, h8⟩
   ·exact .inl ⟨v, h5, FL.mono R _ gs gs' Φ Φ' hg hΦ h6⟩
   rotate_left
   ·exact .inr (.inr ⟨f, args, Qp, Qw, h5, h6, h7, fun u hu => FL.mono R _ gs gs' _ _ hg (fun w hw => ⟨hΦ w hw.1, hw.2⟩) (h8 u hu)⟩)
   ·refine .inr (.inl ⟨mk, t, cs, h5, h6, fun g h8 h9 => ?_⟩)
    refine FL.mono R _ (g :: gs) (g :: gs') _ _ (fun x hx hn => ?_) (fun w hw => ⟨hΦ w hw.1, hw.2⟩) (h7 g (hg g h8 h9).1 (hg g h8 h9).2)
    simp only [List.mem_cons, not_or] at hn ⊢
    exact ⟨(hg x hx hn.2).1, hn.1, (hg x hx hn.2).2⟩
def e0d : Result Next → Nat
 | .ok _ w => w.heap.size
 | _ => 0
def szE (P : Program) (l : List Oper) (o : Oper) (e : Env) (w : World) : Nat := bif Z0a l.toArray e o then e0d ((execOp (ev e) o).run P w) else 0
theorem Y8a {o : Oper} {e e' : Env} {w : World} (hs : Op.isSelect o.op = false) (h : ∀ s ∈ Oper.looksAt l.toArray o, e s = e' s) : szE P l o e w = szE P l o e' w := by
 unfold szE; rw [O0a h, n1a hs h]
theorem E2b (a b : Nat) (gs : List Nat) : ∃ g, a ≤ g ∧ b ≤ g ∧ g ∉ gs := by
 have : ∀ gs : List Nat, ∃ m, ∀ g ∈ gs, g < m := by
  intro gs
  induction gs with
  | nil => exact ⟨0, by simp⟩
  | cons x gs ih =>
    obtain ⟨m, hm⟩ := ih
    refine ⟨max m (x + 1), fun g hg => ?_⟩
    rcases List.mem_cons.1 hg with rfl | h
    ·omega
    ·have := hm g h; omega
 obtain ⟨m, hm⟩ := this gs
 exact ⟨max m (max a b), by omega, by omega, fun h => by have := hm _ h; omega⟩
def b3a (P : Program) (N : Nat) (l : List Oper) (C : World → Prop) (V : G2c) (K : Env → World → Prop) (lo : Nat) (R : List Nat) (i : Nat) (o : Oper) (d : Nat) (e : Env) (gs : List Nat) (Φ : World → Prop) (w : World) : Prop :=
 (Z0a l.toArray e o = true ∧ ∃ v w', (execOp (ev e) o).run P w = .ok (.value v) w' ∧ C w' ∧ w0a [] w w' ∧ FL P N l C V K w'.heap.size R (upd e d v) gs (fun w1 => Φ w1 ∧ w0a [] w' w1)) ∨
 (Z0a l.toArray e o = false ∧ FL P N l C V K lo R (upd e d undef) gs Φ) ∨
 (Z0a l.toArray e o = true ∧ ∃ f args Qp Qw, V i = some (f, args, Qp, Qw) ∧ (execOp (ev e) o).run P w = .ok (.enter f args) w ∧ ∀ u w', Qp u → Qw u w' → C w' → w0a [] w w' → FL P N l C V K w'.heap.size R (upd e d u) gs (fun w1 => (Φ w1 ∧ Qw u w1) ∧ w0a [] w' w1))
theorem FL.first (hpl : o4a l = true) (hVn : ∀ i f args Qp Qw, V i = some (f, args, Qp, Qw) → ∃ u, Qp u) {i : Nat} {post : List Nat} {lo : Nat} {w : World} (hC : C w) (hlo : lo ≤ w.heap.size) : ∀ (pre : List Nat) (e : Env) (gs : List Nat) (Φ : World → Prop), (∀ j ∈ pre, C8a l (fun _ => true) j i = true) →
 (∀ o, l[i]? = some o → ∀ g ∈ gs, szE P l o e w ≤ g) → FL P N l C V K lo (pre ++ i :: post) e gs Φ →
 ∃ o d, l[i]? = some o ∧ o.dst = some d ∧ d < N ∧ b3a P N l C V K lo (pre ++ post) i o d e gs Φ w := by
 intro pre
 induction pre with
 | nil =>
   intro e gs Φ _ hsz h
   obtain ⟨o, d, ho, hd, hN, h⟩ := h
   refine ⟨o, d, ho, hd, hN, ?_⟩
   rcases h with ⟨v, ⟨h1, h2⟩ | ⟨h1, rfl⟩, h3⟩ | ⟨mk, t, cs, h1, h2, h3⟩ | ⟨f, args, Qp, Qw, h1, h2, h3, h4⟩
   rotate_right
   ·exact .inr (.inr ⟨h2, f, args, Qp, Qw, h1, h3 w hC, fun u w' hu _ _ hk => FL.mono _ _ gs gs _ _ (fun g hg hn => ⟨by have := hk.size; omega, hn⟩) (fun _ hw => hw.1) (h4 u hu)⟩)
   ·exact .inl ⟨h1, v, w, h2 w hC, hC, w0a.refl _ _, FL.mono _ _ gs gs Φ _ (fun g hg hn => ⟨by omega, hn⟩) (fun _ hw => hw.1) h3⟩
   ·exact .inr (.inl ⟨h1, h3⟩)
   ·obtain ⟨w', h4, h5, h6, h7, h8⟩ := h2 w hC
    refine .inl ⟨h1, _, w', h4, h5, h6, ?_⟩
    have hs := hsz o ho
    unfold szE at hs
    rw [h1, h4] at hs
    refine FL.mono _ _ (w.heap.size :: gs) gs _ _ (fun g hg hn => ?_) (fun w1 hw => ⟨hw.1, s3a hw.2 h8⟩) (h3 w.heap.size hlo (fun hm => by have : w'.heap.size ≤ w.heap.size := hs _ hm; omega))
    simp only [List.mem_cons, not_or]
    exact ⟨by omega, by omega, hn⟩
 | cons q pre ih =>
   intro e gs Φ hind hsz h
   obtain ⟨p, c, hp, hc, hcN, h⟩ := h
   have hq := hind q (by simp)
   have hind' : ∀ j ∈ pre, C8a l (fun _ => true) j i = true := fun j hj => hind j (by simp [hj])
   have hnone : ∀ {o : Oper} {d : Nat} (u : Value), l[i]? = some o → o.dst = some d → (∀ s ∈ Oper.looksAt l.toArray o, upd e c u s = e s) ∧ c ≠ d ∧ d ∉ Oper.looksAt l.toArray p := fun {o d} u ho hd => by
    obtain ⟨_, hcd, hdp, hco⟩ := B7a hq hp ho hc hd
    exact ⟨fun s hs => D1a hco hs, hcd, hdp⟩
   rcases h with ⟨u, hu, h⟩ | ⟨mk, t, cs, h1, h2, h3⟩ | ⟨f, args, Qp, Qw, hV, hwt, hu, h⟩
   rotate_right
   ·obtain ⟨u0, hu0⟩ := hVn _ _ _ _ _ hV
    have key : ∀ u, Qp u → ∃ o d, l[i]? = some o ∧ o.dst = some d ∧ d < N ∧ b3a P N l C V K lo (pre ++ post) i o d (upd e c u) gs (fun w => Φ w ∧ Qw u w) w := fun u hu => ih (upd e c u) gs _ hind' (fun o ho g hg => by
     cases hd : o.dst with
     | none =>
       exfalso
       unfold C8a at hq
       simp [hp, ho, hc, hd] at hq
     | some d => rw [Y8a (z0a hpl ho).1 (hnone u ho hd).1]; exact hsz o ho g hg) (h u hu)
    obtain ⟨o, d, ho, hd, hN, hF0⟩ := key u0 hu0
    have key2 : ∀ u, Qp u → b3a P N l C V K lo (pre ++ post) i o d (upd e c u) gs (fun w => Φ w ∧ Qw u w) w := fun u hu => by
     obtain ⟨o', d', ho', hd', _, hF⟩ := key u hu
     obtain rfl : o' = o := Option.some.inj (ho'.symm.trans ho)
     obtain rfl : d' = d := Option.some.inj (hd'.symm.trans hd)
     exact hF
    have hcd := (hnone .nilFunc ho hd).2.1
    have hdp := (hnone .nilFunc ho hd).2.2
    have ha : ∀ u, ∀ s ∈ Oper.looksAt l.toArray o, upd e c u s = e s := fun u => (hnone u ho hd).1
    refine ⟨o, d, ho, hd, hN, ?_⟩
    have hpa : ∀ v, ∀ s ∈ Oper.looksAt l.toArray p, upd e d v s = e s := fun v s hs => D1a hdp hs
    unfold b3a at hF0 ⊢
    rw [O0a (ha _), n1a (z0a hpl ho).1 (ha _)] at hF0
    have hcall : ∀ v, ∀ lo' Φ', (∀ u, Qp u → FL P N l C V K lo' (pre ++ post) (upd (upd e d v) c u) gs (fun w => Φ' w ∧ Qw u w)) → FL P N l C V K lo' (q :: (pre ++ post)) (upd e d v) gs Φ' := fun v lo' Φ' h9 =>
     ⟨p, c, hp, hc, hcN, .inr (.inr ⟨f, args, Qp, Qw, hV, by rw [O0a (hpa v)]; exact hwt, by rw [n1a (z0a hpl hp).1 (hpa v)]; exact hu, h9⟩)⟩
    rcases hF0 with ⟨hw, v, w', h4, h5, h6, -⟩ | ⟨hw, -⟩ | ⟨hw, f', args', Qp', Qw', hV', h4, -⟩
    ·refine .inl ⟨hw, v, w', h4, h5, h6, hcall v _ _ fun u hu => ?_⟩
     have hF := key2 u hu
     unfold b3a at hF
     rw [O0a (ha _), n1a (z0a hpl ho).1 (ha _)] at hF
     rcases hF with ⟨_, v', w'', h4', _, _, h7⟩ | ⟨hw', _⟩ | ⟨_, _, _, _, _, _, h4', _⟩
     ·rw [h4] at h4'; cases h4'
      rw [← r2a _ _ _ hcd]
      exact FL.mono _ _ gs gs _ _ (fun x hx hn => ⟨hx, hn⟩) (fun w1 hw1 => ⟨⟨hw1.1.1, hw1.2⟩, hw1.1.2⟩) h7
     ·rw [hw] at hw'; cases hw'
     ·rw [h4] at h4'; cases h4'
    ·refine .inr (.inl ⟨hw, hcall _ _ _ fun u hu => ?_⟩)
     have hF := key2 u hu
     unfold b3a at hF
     rw [O0a (ha _), n1a (z0a hpl ho).1 (ha _)] at hF
     rcases hF with ⟨hw', _⟩ | ⟨_, h7⟩ | ⟨hw', _⟩
     ·rw [hw] at hw'; cases hw'
     ·rw [← r2a _ _ _ hcd]; exact h7
     ·rw [hw] at hw'; cases hw'
    ·refine .inr (.inr ⟨hw, f', args', Qp', Qw', hV', h4, fun u' w' hu' hq' hC' hk' => hcall u' _ _ fun u hu => ?_⟩)
     have hF := key2 u hu
     unfold b3a at hF
     rw [O0a (ha _), n1a (z0a hpl ho).1 (ha _)] at hF
     rcases hF with ⟨_, v', w'', h4', _⟩ | ⟨hw', _⟩ | ⟨_, f'', args'', Qp'', Qw'', hV'', _, h7⟩
     ·rw [h4] at h4'; cases h4'
     ·rw [hw] at hw'; cases hw'
     ·rw [hV'] at hV''; cases hV''
      rw [← r2a _ _ _ hcd]
      exact FL.mono _ _ gs gs _ _ (fun x hx hn => ⟨hx, hn⟩) (fun w1 hw1 => ⟨⟨⟨hw1.1.1.1, hw1.2⟩, hw1.1.1.2⟩, hw1.1.2⟩) (h7 u' w' hu' hq' hC' hk')
   ·obtain ⟨o, d, ho, hd, hN, hF⟩ := ih (upd e c u) gs Φ hind' (fun o ho g hg => by
     cases hd : o.dst with
     | none =>
       exfalso
       unfold C8a at hq
       simp [hp, ho, hc, hd] at hq
     | some d => rw [Y8a (z0a hpl ho).1 (hnone u ho hd).1]; exact hsz o ho g hg) h
    obtain ⟨ha, hcd, hdp⟩ := hnone u ho hd
    refine ⟨o, d, ho, hd, hN, ?_⟩
    unfold b3a at hF ⊢
    rw [O0a ha, n1a (z0a hpl ho).1 ha] at hF
    rcases hF with ⟨hw, v, w', h4, h5, h6, h7⟩ | ⟨hw, h7⟩ | ⟨hw, f, args, Qp, Qw, hV, h4, h7⟩
    rotate_right
    ·refine .inr (.inr ⟨hw, f, args, Qp, Qw, hV, h4, fun x w' hx hqx hC' hk' => ⟨p, c, hp, hc, hcN, .inl ⟨u, hu.congr (z0a hpl hp).1 (fun s hs => (D1a hdp hs).symm), ?_⟩⟩⟩)
     rw [← r2a _ _ _ hcd]; exact h7 x w' hx hqx hC' hk'
    ·refine .inl ⟨hw, v, w', h4, h5, h6, p, c, hp, hc, hcN, .inl ⟨u, hu.congr (z0a hpl hp).1 (fun s hs => (D1a hdp hs).symm), ?_⟩⟩
     rw [← r2a _ _ _ hcd]; exact h7
    ·refine .inr (.inl ⟨hw, p, c, hp, hc, hcN, .inl ⟨u, hu.congr (z0a hpl hp).1 (fun s hs => (D1a hdp hs).symm), ?_⟩⟩)
     rw [← r2a _ _ _ hcd]; exact h7
   ·have key : ∀ g, lo ≤ g → g ∉ gs → (∀ o, l[i]? = some o → szE P l o e w ≤ g) → ∃ o d, l[i]? = some o ∧ o.dst = some d ∧ d < N ∧ b3a P N l C V K lo (pre ++ post) i o d (upd e c (mk g)) (g :: gs) (fun w => Φ w ∧ p0a w (g, t, cs)) w := fun g hg hn hs => by
     refine ih (upd e c (mk g)) (g :: gs) _ hind' (fun o ho x hx => ?_) (h3 g hg hn)
     cases hd : o.dst with
     | none =>
       exfalso
       unfold C8a at hq
       simp [hp, ho, hc, hd] at hq
     | some d =>
       rw [Y8a (z0a hpl ho).1 (hnone (mk g) ho hd).1]
       rcases List.mem_cons.1 hx with rfl | hx
       ·exact hs o ho
       ·exact hsz o ho x hx
    have h4 : ∃ o d, l[i]? = some o ∧ o.dst = some d ∧ d < N := by
     cases ho : l[i]? with
     | none => unfold C8a at hq; simp [ho] at hq
     | some o =>
       obtain ⟨g0, hg0, hb0, hn0⟩ := E2b lo (szE P l o e w) gs
       obtain ⟨o', d, ho', hd, hN, _⟩ := key g0 hg0 hn0 (fun o' ho' => by rw [ho] at ho'; cases ho'; exact hb0)
       rw [ho] at ho'; cases ho'
       exact ⟨o, d, rfl, hd, hN⟩
    obtain ⟨o, d, ho, hd, hN⟩ := h4
    have key2 : ∀ g, lo ≤ g → g ∉ gs → szE P l o e w ≤ g → b3a P N l C V K lo (pre ++ post) i o d (upd e c (mk g)) (g :: gs) (fun w => Φ w ∧ p0a w (g, t, cs)) w := fun g hg hn hs => by
     obtain ⟨o', d', ho', hd', _, hF⟩ := key g hg hn (fun o' ho' => by rw [ho] at ho'; cases ho'; exact hs)
     obtain rfl : o' = o := Option.some.inj (ho'.symm.trans ho)
     obtain rfl : d' = d := Option.some.inj (hd'.symm.trans hd)
     exact hF
    refine ⟨o, d, ho, hd, hN, ?_⟩
    obtain ⟨g0, hg0, hb0, hn0⟩ := E2b lo (szE P l o e w) gs
    have hcd := (hnone .nilFunc ho hd).2.1
    have hdp := (hnone .nilFunc ho hd).2.2
    have ha : ∀ u, ∀ s ∈ Oper.looksAt l.toArray o, upd e c u s = e s := fun u => (hnone u ho hd).1
    have hpa : ∀ v, ∀ s ∈ Oper.looksAt l.toArray p, upd e d v s = e s := fun v s hs => D1a hdp hs
    have hF0 := key2 g0 hg0 hn0 hb0
    unfold b3a at hF0 ⊢
    rw [O0a (ha _), n1a (z0a hpl ho).1 (ha _)] at hF0
    rcases hF0 with ⟨hw, v, w', h4, h5, h6, -⟩ | ⟨hw, -⟩ | ⟨hw, f, args, Qp, Qw, hV, h4, -⟩
    rotate_right
    ·have hsz' : szE P l o e w = w.heap.size := by unfold szE; rw [hw, h4]; rfl
     refine .inr (.inr ⟨hw, f, args, Qp, Qw, hV, h4, fun x w' hx hqx hC' hk' => ⟨p, c, hp, hc, hcN, .inr (.inl ⟨mk, t, cs, by rw [O0a (hpa x)]; exact h1, by rw [n1a (z0a hpl hp).1 (hpa x)]; exact h2, fun g hg hn => ?_⟩)⟩⟩)
     have hks := hk'.size
     have hF := key2 g (by omega) hn (by omega)
     unfold b3a at hF
     rw [O0a (ha _), n1a (z0a hpl ho).1 (ha _)] at hF
     rcases hF with ⟨_, v', w'', h4', _⟩ | ⟨hw', _⟩ | ⟨_, f', args', Qp', Qw', hV', _, h7⟩
     ·rw [h4] at h4'; cases h4'
     ·rw [hw] at hw'; cases hw'
     ·rw [hV] at hV'; cases hV'
      rw [← r2a _ _ _ hcd]
      exact FL.mono _ _ (g :: gs) (g :: gs) _ _ (fun x hx hn => ⟨hx, hn⟩) (fun w1 hw1 => ⟨⟨⟨hw1.1.1.1, hw1.2⟩, hw1.1.1.2⟩, hw1.1.2⟩) (h7 x w' hx hqx hC' hk')
    ·have hsz' : szE P l o e w = w'.heap.size := by unfold szE; rw [hw, h4]; rfl
     refine .inl ⟨hw, v, w', h4, h5, h6, p, c, hp, hc, hcN, .inr (.inl ⟨mk, t, cs, by rw [O0a (hpa v)]; exact h1, by rw [n1a (z0a hpl hp).1 (hpa v)]; exact h2, fun g hg hn => ?_⟩)⟩
     have hF := key2 g (by have := h6.size; omega) hn (by omega)
     unfold b3a at hF
     rw [O0a (ha _), n1a (z0a hpl ho).1 (ha _)] at hF
     rcases hF with ⟨_, v', w'', h4', _, _, h7⟩ | ⟨hw', _⟩ | ⟨_, _, _, _, _, _, h4', _⟩
     rotate_right
     ·rw [h4] at h4'; cases h4'
     ·rw [h4] at h4'; cases h4'
      rw [← r2a _ _ _ hcd]
      exact FL.mono _ _ (g :: gs) (g :: gs) _ _ (fun x hx hn => ⟨hx, hn⟩) (fun w1 hw1 => ⟨⟨hw1.1.1, hw1.2⟩, hw1.1.2⟩) h7
     ·rw [hw] at hw'; cases hw'
    ·refine .inr (.inl ⟨hw, p, c, hp, hc, hcN, .inr (.inl ⟨mk, t, cs, by rw [O0a (hpa _)]; exact h1, by rw [n1a (z0a hpl hp).1 (hpa _)]; exact h2, fun g hg hn => ?_⟩)⟩)
     have hsz' : szE P l o e w = 0 := by unfold szE; rw [hw]; rfl
     have hF := key2 g hg hn (by omega)
     unfold b3a at hF
     rw [O0a (ha _), n1a (z0a hpl ho).1 (ha _)] at hF
     rcases hF with ⟨hw', _⟩ | ⟨_, h7⟩ | ⟨hw', _⟩
     rotate_right
     ·rw [hw] at hw'; cases hw'
     ·rw [hw] at hw'; cases hw'
     ·rw [← r2a _ _ _ hcd]
      exact h7
theorem o4b {id : Nat} {n t : List Deferred → Env → World → Prop} {b : Nat → List Deferred → Env → World → Prop} {e : Env} {w : World} (hm : P.follows .mixedOrders = true) (ix : List Nat)
 (m : Nat) (hok : K2b l (fun _ => true) m = true) (hix : (List.range m == ix) = true) (C : World → Prop) (hC : C w.drew) (V : G2c) (hV : ∀ i f args Qp Qw, V i = some (f, args, Qp, Qw) → (∃ u, Qp u) ∧ (∀ u w w', w0a [] w w' → Qw u w → Qw u w') ∧ ∀ w, C w → M0a P f args w fun u w' => (Qp u ∧ Qw u w') ∧ C w' ∧ w0a [] w w') (ol : Oper) (hol : l[m]? = some ol)
 (h : FL P N l C V (fun e w => WL P r N l.toArray [ol] (fun D' e' w' => D' = D ∧ n D e' w') D e w) w.heap.size ix e [] (fun _ => True)) : W P r N (.region id l.toArray true) ⟨n, b, t⟩ D e w := by
 obtain rfl : List.range m = ix := eq_of_beq hix
 generalize hKd : (fun (e : Env) (w : World) => WL P r N l.toArray [ol] (fun D' e' w' => D' = D ∧ n D e' w') D e w) = K' at h
 unfold K2b at hok
 simp only [Bool.and_eq_true, decide_eq_true_eq] at hok
 obtain ⟨⟨⟨⟨hpl, hac⟩, hin⟩, hlast⟩, _⟩ := hok
 have hlw : ∀ j, j < m → j ∈ S3a l m := fun j hj => by
  have := List.all_eq_true.1 hlast j (List.mem_range.2 hj)
  simpa using this
 refine j8b hm hac (fun f e w => (∀ i, f i = true → ∀ j ∈ d1a l i, f j = true) ∧ ((f m = false ∧ C w ∧ ∃ lo Φ, lo ≤ w.heap.size ∧ (∀ w w', Φ w → w0a [] w w' → Φ w') ∧ Φ w ∧ FL P N l C V K' lo (a7a m f) e [] Φ) ∨ (f m = true ∧ n D e w))) ⟨by simp, .inl ⟨rfl, hC, w.heap.size, fun _ => True, Nat.le_refl _, fun _ _ _ _ => trivial, trivial, ?_⟩⟩ ?_ ?_
 ·have : a7a m (fun _ => false) = List.range m := by unfold a7a; simp
  rw [this]; exact h
 ·rintro f e w i o ⟨hcl, hM⟩ ho hfi hpr
  have hil0 : i < l.length := (List.getElem?_eq_some_iff.1 ho).1
  have hcl' : ∀ k, (f k || k == i) = true → ∀ j ∈ d1a l k, (f j || j == i) = true := by
   intro k hk j hj
   simp only [Bool.or_eq_true, beq_iff_eq] at hk ⊢
   rcases hk with hk | rfl
   ·exact .inl (hcl k hk j hj)
   ·exact .inl (hpr j hj)
  rcases hM with ⟨hfm, hCw, lo, Φ, hlo, hst, hΦ, hM⟩ | ⟨hfm, -⟩
  rotate_left
  ·have := d3a hcl l.length (d1a l m) (hcl m hfm) i (hlw i (by
    rcases Nat.lt_or_ge i m with h | h
    ·exact h
    ·have : i = m := by omega
     subst this; rw [hfi] at hfm; cases hfm))
   rw [hfi] at this; cases this
  by_cases him : i = m
  ·subst him
   obtain rfl : ol = o := Option.some.inj (hol.symm.trans ho)
   have hall : ∀ j, j < i → f j = true := fun j hj => d3a hcl _ _ hpr j (hlw j hj)
   have hrem : a7a i f = [] := by
    unfold a7a; rw [List.filter_eq_nil_iff]; intro j hj; simp [hall j (List.mem_range.1 hj)]
   rw [hrem] at hM
   have h4 := hM w hCw hΦ
   rw [← hKd] at h4
   clear hM h hKd
   unfold WL at *
   refine fun a Q hs hD he hK => h4 a Q hs hD he (fun a' w' hs' hh => hK a' w' hs' ?_)
   exact ⟨hh.1, hcl', .inr ⟨by simp, hh.2⟩⟩
  have hil : i < m := by omega
  have hfm' : (f m || m == i) = false := by simp [hfm]; omega
  obtain ⟨pre, _, h1, h2, h3⟩ := N9a (m := m) f hil hfi
  rw [h1] at hM
  have hwt : ∀ j ∈ S3a l i, f j = true := d3a hcl _ _ hpr
  obtain ⟨o', _, ho', hd, hN, h4⟩ := FL.first hpl (fun i f args Qp Qw h => (hV i f args Qp Qw h).1) hCw hlo pre e [] Φ (fun j hj => by
   have := List.all_eq_true.1 (List.all_eq_true.1 hin i (List.mem_range.2 hil)) j (List.mem_range.2 (h3 j hj).1)
   simp only [Bool.or_eq_true, List.contains_eq_mem, decide_eq_true_eq] at this
   rcases this with h | h
   ·have := hwt j h; rw [(h3 j hj).2] at this; cases this
   ·exact h) (by simp) hM
  obtain rfl : o' = o := Option.some.inj (ho'.symm.trans ho)
  rcases h4 with ⟨hw, v, w', hv, hC', hk', h4⟩ | ⟨hw, h4⟩ | ⟨hw, f', args, Qp, Qw, hVi, hv, h4⟩
  rotate_right
  ·unfold WL; intro a Q hs hD he hK
   simp only [wpListIn]
   have hw' : Region.wanted o' (yielded l.toArray a.tmps) = true := by rw [g1a, he]; exact hw
   simp only [hw', if_true]
   refine ⟨u0a _ _ _, ?_⟩
   rw [Oper.semAt_eq _ _ _ (z0a hpl ho).2, c2a, he, hv, Oper.uponIn_enter]
   refine ⟨fun hh => by simp [fc, Fence.wide] at hh, U4a (Calls.mono ((hV _ _ _ _ _ hVi).2.2 w hCw) ?_)⟩
   rintro en w' ⟨u, rfl, ⟨hu, hqu⟩, hC', hk'⟩
   rw [hd]
   refine hK _ _ (by simp [Act.put, hs]) ⟨by simp [Act.put, hD], ?_⟩
   rw [W0a u (by rw [hs]; exact hN), he]
   exact ⟨hcl', .inl ⟨hfm', hC', w'.heap.size, (fun w1 => (Φ w1 ∧ Qw u w1) ∧ w0a [] w' w1), Nat.le_refl _, fun w1 w2 h5 h6 => ⟨⟨hst _ _ h5.1.1 h6, (hV _ _ _ _ _ hVi).2.1 u _ _ h6 h5.1.2⟩, h5.2.trans h6⟩, ⟨⟨hst _ _ hΦ hk', hqu⟩, w0a.refl _ _⟩, by rw [h2]; exact h4 u w' hu hqu hC' hk'⟩⟩
  ·unfold WL; intro a Q hs hD he hK
   simp only [wpListIn]
   have hw' : Region.wanted o' (yielded l.toArray a.tmps) = true := by rw [g1a, he]; exact hw
   simp only [hw', if_true]
   refine ⟨u0a _ _ _, ?_⟩
   rw [Oper.semAt_eq _ _ _ (z0a hpl ho).2, c2a, he, hv, Oper.uponIn_value]
   refine hK _ _ (by simp [Act.put, hd, hs]) ⟨by simp [Act.put, hd, hD], ?_⟩
   rw [hd, W0a v (by rw [hs]; exact hN), he]
   exact ⟨hcl', .inl ⟨hfm', hC', w'.heap.size, (fun w1 => Φ w1 ∧ w0a [] w' w1), Nat.le_refl _, fun w1 w2 h5 h6 => ⟨hst _ _ h5.1 h6, h5.2.trans h6⟩, ⟨hst _ _ hΦ hk', w0a.refl _ _⟩, by rw [h2]; exact h4⟩⟩
  ·unfold WL; intro a Q hs hD he hK
   simp only [wpListIn]
   have hw' : Region.wanted o' (yielded l.toArray a.tmps) = false := by rw [g1a, he]; exact hw
   simp only [hw']
   refine ⟨u0a _ _ _, ?_⟩
   refine hK _ _ (by simp [Act.put, hd, hs]) ⟨by simp [Act.put, hd, hD], ?_⟩
   rw [hd, W0a undef (by rw [hs]; exact hN), he]
   exact ⟨hcl', .inl ⟨hfm', hCw, lo, Φ, hlo, hst, hΦ, by rw [h2]; exact h4⟩⟩
 ·rintro f e w ⟨hcl, hM⟩ hall
  rcases hM with ⟨hfm, -⟩ | ⟨-, hM⟩
  ·have := hall m (by omega); rw [hfm] at this; cases this
  ·exact hM
theorem A3c {id : Nat} {n t : List Deferred → Env → World → Prop} {b : Nat → List Deferred → Env → World → Prop} {e : Env} {w : World} (hm : P.follows .mixedOrders = true) (ix : List Nat)
 (m : Nat) (hok : K2b l (fun _ => true) m = true) (hix : (List.range m == ix) = true) (C : World → Prop) (hC : C w.drew) (ol : Oper) (hol : l[m]? = some ol)
 (h : FL P N l C (fun _ => none) (fun e w => WL P r N l.toArray [ol] (fun D' e' w' => D' = D ∧ n D e' w') D e w) w.heap.size ix e [] (fun _ => True)) : W P r N (.region id l.toArray true) ⟨n, b, t⟩ D e w :=
 o4b hm ix m hok hix C hC (fun _ => none) (fun _ _ _ _ _ h => by cases h) ol hol h
variable {lo : Nat} {gs : List Nat} {Φ : World → Prop} {e : Env} {w w0 : World} {L : List Ent} {M : List Nat}
theorem q5b (h : ∀ w, C w → Φ w → K e w) : FL P N l C V K lo [] e gs Φ := h
theorem g5a {i : Nat} {rest : List Nat} {o : Oper} (ho : l[i]? = some o) (hv : P1c o.op = true) (h : QL P N l.toArray C [o] (fun e' => FL P N l C V K lo rest e' gs Φ) e) : FL P N l C V K lo (i :: rest) e gs Φ := by
 unfold QL at h
 obtain ⟨pa, hl, hq, hk⟩ := h
 obtain ⟨d, v, h1, h2, h3, h4⟩ := hq 0 o rfl
 obtain rfl : pa = [(d, v)] := by
  match pa, hl, h1 with
  | [x], _, h1 => simpa using h1
 refine ⟨o, d, ho, h2, h3, .inl ⟨v, ?_, hk⟩⟩
 rcases h4 with ⟨h5, h6⟩ | h5
 ·refine .inl ⟨h5, fun w hw => ?_⟩
  rcases h6 w hw with h7 | ⟨f, args, h7, _⟩
  ·exact h7
  ·obtain ⟨_, hv'⟩ := K6a hv h7; cases hv'
 ·exact .inr h5
theorem F0b {i d : Nat} {rest : List Nat} {x : Operand} {ty size n c : Nat} {t : TypeId} {p : String} {af : Array Edge} {A : Option Addr} (ho : l[i]? = some ⟨some d, .call { callee := .builtin .len, args := #[x], argTypes := #[ty] }, t, p, af, none⟩) (hT : SlT P ty size) (hx : ev e x = .slice A n c) (hd : Nat.ble (d + 1) N = true)
 (h : FL P N l C V K lo rest (upd e d (.int .i64 n)) gs Φ) : FL P N l C V K lo (i :: rest) e gs Φ := by
 obtain ⟨_, hu, _⟩ := hT
 exact ⟨_, d, ho, rfl, Nat.le_of_ble_eq_true hd, .inl ⟨_, .inl ⟨rfl, fun w _ => by simp [execOp, resolve, invoke, builtin, Builtin.len_, hx, run_underlying hu, goInt]⟩, h⟩⟩
theorem V9b {i d t : Nat} {rest : List Nat} {o : Oper} {mk : Nat → Value} {cs : List Value} (ho : l[i]? = some o) (hd : o.dst = some d) (hN : Nat.ble (d + 1) N = true) (hw : Z0a l.toArray e o = true)
 (hrun : ∀ w1, Cl M w0 w L w1 → (execOp (ev e) o).run P w1 = .ok (.value (mk w1.heap.size)) (w1.alloc (.cells cs.toArray t (0, 0))))
 (h : ∀ g, lo ≤ g → g ∉ gs → FL P N l (Cl M w0 w L) V K lo rest (upd e d (mk g)) (g :: gs) (fun w => Φ w ∧ p0a w (g, t, cs))) : FL P N l (Cl M w0 w L) V K lo (i :: rest) e gs Φ :=
 ⟨o, d, ho, hd, Nat.le_of_ble_eq_true hN, .inr (.inl ⟨mk, t, cs, hw, fun w1 hC => ⟨_, hrun w1 hC, Cl.alloc _ _ hC, K2a _ _ _, by simp, by unfold p0a; show (w1.heap.push _)[w1.heap.size]? = _; simp⟩, h⟩)⟩
theorem F5b {i d el : Nat} {t : TypeId} {p : String} {af : Array Edge} {gd : Option (Nat × Bool)} {z : Value} {cs : List Value} {rest : List Nat}
 (ho : l[i]? = some ⟨some d, .alloc el, t, p, af, gd⟩) (hN : Nat.ble (d + 1) N = true) (hw : Z0a l.toArray e ⟨some d, .alloc el, t, p, af, gd⟩ = true) (hz : ∀ w, (zeroValue el).run P w = .ok z w) (hcs : z.cells.toList = cs)
 (h : ∀ g, lo ≤ g → g ∉ gs → FL P N l (Cl M w0 w L) V K lo rest (upd e d (.pointer (some ⟨g, 0, none⟩))) (g :: gs) (fun w => Φ w ∧ p0a w (g, el, cs))) : FL P N l (Cl M w0 w L) V K lo (i :: rest) e gs Φ := by
 refine V9b (mk := fun g => .pointer (some ⟨g, 0, none⟩)) ho rfl hN hw (fun w1 _ => ?_) h
 subst hcs
 simp [execOp, Instr.alloc, newVar, newRow, hz]
theorem A1b {i d : Nat} {rest : List Nat} {t : TypeId} {p : String} {af : Array Edge} {args : Array Operand} {at_ : Array TypeId} {g : Operand} {caps : Array Value} {f : FuncId} {vs : List Value} {Qp : Value → Prop} {Qw : Value → World → Prop} (hH : Has P f)
 (ho : l[i]? = some ⟨some d, .call { callee := .value g, args := args, argTypes := at_ }, t, p, af, none⟩) (hN : Nat.ble (d + 1) N = true)
 (hw : Z0a l.toArray e ⟨some d, .call { callee := .value g, args := args, argTypes := at_ }, t, p, af, none⟩ = true) (hg : ev e g = .func (.func f) #[] caps) (hvs : args.toList.map (ev e) ++ caps.toList = vs) (hV : V i = some (f, vs.toArray, Qp, Qw))
 (h : ∀ u, Qp u → FL P N l C V K lo rest (upd e d u) gs (fun w => Φ w ∧ Qw u w)) : FL P N l C V K lo (i :: rest) e gs Φ := by
 refine ⟨_, d, ho, rfl, Nat.le_of_ble_eq_true hN, .inr (.inr ⟨f, vs.toArray, Qp, Qw, hV, hw, fun w1 _ => ?_, h⟩)⟩
 subst hvs
 have : (args.map (ev e) ++ caps) = (args.toList.map (ev e) ++ caps.toList).toArray := by apply Array.ext'; simp
 simp [execOp, resolve, Deferred.ofValue, invoke, hg, hH _ w1, this]
def eqQ (v : Value) : Value → Prop := fun u => u = v
def noQ : Value → World → Prop := fun _ _ => True
theorem Y3c {i d : Nat} {rest : List Nat} {t : TypeId} {p : String} {af : Array Edge} {args : Array Operand} {at_ : Array TypeId} {f : FuncId} {vs : List Value} {v : Value} (hH : Has P f)
 (ho : l[i]? = some ⟨some d, .call { callee := .value (.func f), args := args, argTypes := at_ }, t, p, af, none⟩) (hN : Nat.ble (d + 1) N = true)
 (hw : Z0a l.toArray e ⟨some d, .call { callee := .value (.func f), args := args, argTypes := at_ }, t, p, af, none⟩ = true) (hvs : args.toList.map (ev e) = vs) (hV : V i = some (f, vs.toArray, eqQ v, noQ))
 (h : FL P N l C V K lo rest (upd e d v) gs Φ) : FL P N l C V K lo (i :: rest) e gs Φ :=
 A1b (caps := #[]) hH ho hN hw rfl (by simpa using hvs) hV fun u hu => by
  cases hu
  exact FL.mono _ _ gs gs _ _ (fun x hx hn => ⟨hx, hn⟩) (fun w1 hw1 => hw1.1) h
theorem T3a {i d ty el size bytes n : Nat} {t : TypeId} {p : String} {af : Array Edge} {gd : Option (Nat × Bool)} {z : Value} {parts : Array (Nat × Operand)} {vs : List Value} {cs : List Value} {rest : List Nat}
 (ho : l[i]? = some ⟨some d, .buildSlice ty n parts, t, p, af, gd⟩) (hN : Nat.ble (d + 1) N = true) (hw : Z0a l.toArray e ⟨some d, .buildSlice ty n parts, t, p, af, gd⟩ = true) (hS : SlZ P ty el size z bytes)
 (hvs : parts.toList.map (fun q => (q.1, ev e q.2)) = (vs.zipIdx 0).map fun q => (q.2, q.1)) (hn : vs.length = n) (h0 : Nat.ble 1 n = true) (hbig : Nat.ble (n * size) 16777216 = true) (hv : vs.map (·.cells.size) = List.replicate n size)
 (hcs : vs.flatMap (·.cells.toList) = cs)
 (h : ∀ g, lo ≤ g → g ∉ gs → FL P N l (Cl M w0 w L) V K lo rest (upd e d (.slice (some ⟨g, 0, none⟩) n n)) (g :: gs) (fun w => Φ w ∧ p0a w (g, el, cs))) : FL P N l (Cl M w0 w L) V K lo (i :: rest) e gs Φ := by
 have hp : (parts.map fun (i, x) => (i, ev e x)) = ((vs.zipIdx 0).map fun q => (q.2, q.1)).toArray := by rw [← hvs]; apply Array.ext'; simp
 have hv' : ∀ v ∈ vs, v.cells.size = size := fun v hm => by
  have : v.cells.size ∈ vs.map (·.cells.size) := List.mem_map.2 ⟨v, hm, rfl⟩
  rw [hv] at this; exact (List.mem_replicate.1 this).2
 refine V9b (mk := fun g => .slice (some ⟨g, 0, none⟩) n n) (t := el) (cs := cs) ho rfl hN hw (fun w1 _ => ?_) h
 have hrun := s4a hS hn (Nat.le_of_ble_eq_true h0) (Nat.le_of_ble_eq_true hbig) hv' w1
 subst hcs
 simp only [execOp, hp, Sem.run_bind, hrun, Result.andThen_ok, Sem.run_pure]
theorem V7a {i d : Nat} {t : TypeId} {p : String} {af : Array Edge} {gd : Option (Nat × Bool)} {x y : Operand} {rest : List Nat}
 {ty el bytes n c : Nat} {z : Value} {kl kc : IntKind} (ho : l[i]? = some ⟨some d, .makeSlice ty x y, t, p, af, gd⟩) (hN : Nat.ble (d + 1) N = true) (hw : Z0a l.toArray e ⟨some d, .makeSlice ty x y, t, p, af, gd⟩ = true)
 (hS : SlZ P ty el 1 z bytes) (hx : ev e x = .int kl (n : Int)) (hy : ev e y = .int kc (c : Int)) (hnc : n ≤ c) (hb : bytes * c ≤ 140737488355328) (hc : c ≤ 140737488355328)
 (hz1 : z.cells = #[z])
 (h : ∀ g, lo ≤ g → g ∉ gs → FL P N l (Cl M w0 w L) V K lo rest (upd e d (.slice (some ⟨g, 0, none⟩) n c)) (g :: gs) (fun w => Φ w ∧ p0a w (g, el, List.replicate c z))) : FL P N l (Cl M w0 w L) V K lo (i :: rest) e gs Φ := by
 obtain ⟨ii, hi, hz, hsz, hby⟩ := hS.parts
 have hbb : (ii.bytes : Int) * (c : Int) ≤ 281474976710656 := by
  have : ((bytes * c : Nat) : Int) ≤ 281474976710656 := by omega
  rw [hby]; rwa [Int.natCast_mul] at this
 refine V9b (mk := fun g => .slice (some ⟨g, 0, none⟩) n c) (t := el) (cs := List.replicate c z) ho rfl hN hw (fun w1 _ => ?_) h
 have hr := run_make (P := P) w1 ty el ii z hS.und hi hz kl kc n c (by omega) (by omega) hbb (by omega)
 have hm : madeCells z.cells (c * ii.size) = (List.replicate c z).toArray := by
  rw [hz1, hsz, Nat.mul_one]
  apply Array.ext
  ·simp [madeCells]
  ·intro j h1 h2
   simp [madeCells, Nat.mod_one]
 simp only [Int.toNat_natCast, hm] at hr
 simp only [execOp, hx, hy, Sem.run_bind, hr, Result.andThen_ok, Sem.run_pure]
end
section
variable {α : Type}
def T2a (l : List α) (z : α) (k : Nat) : List α := l.take k ++ List.replicate (l.length - k) z
theorem C6a (l : List α) (z : α) : T2a l z 0 = List.replicate l.length z := by simp [T2a]
theorem Z7a (l : List α) (z : α) {k : Nat} (h : l.length ≤ k) : T2a l z k = l := by
 unfold T2a; rw [List.take_of_length_le h, Nat.sub_eq_zero_of_le h]; simp
@[simp] theorem F2c (l : List α) (z : α) (k : Nat) : (T2a l z k).length = l.length := by
 unfold T2a; simp; omega
theorem m8a {l : List α} {z v : α} {k i : Nat} (h : l[k]? = some v) (hi : i = k) : (T2a l z k).set i v = T2a l z (k + 1) := by
 subst hi
 obtain ⟨hlt, rfl⟩ := List.getElem?_eq_some_iff.1 h
 unfold T2a
 rw [List.set_append_right _ _ (by simp; omega)]
 have h1 : l.length - i = (l.length - (i + 1)) + 1 := by omega
 rw [h1, List.replicate_succ]
 simp only [List.length_take, Nat.min_eq_left (Nat.le_of_lt hlt), Nat.sub_self, List.set_cons_zero]
 rw [J0a h, List.append_assoc]
 rfl
theorem Q3b {l : List α} {z : α} {k : Nat} (h : l[k]? = some z) : T2a l z k = T2a l z (k + 1) := by
 obtain ⟨_, _⟩ := List.getElem?_eq_some_iff.1 h
 unfold T2a
 have h1 : l.length - k = (l.length - (k + 1)) + 1 := by omega
 rw [h1, List.replicate_succ, J0a h]
 simp
end
theorem St.setEnt {M : List Nat} {w0 w : World} {L : List Ent} (S : St M w0 w L) (j : Nat) {G : Option Nat} {t : TypeId} {cs cs' : List Value} (hj : L[j]? = some (G, t, cs)) (h : cs = cs') : St M w0 w (L.set j (G, t, cs')) := by
 subst h
 have : L.set j (G, t, cs) = L := by
  obtain ⟨_, he⟩ := List.getElem?_eq_some_iff.1 hj
  rw [← he]; simp
 rw [this]; exact S
theorem St.rdInts {M M' : List Nat} {w0 w : World} {L : List Ent} (S : St M' w0 w L) (j : Nat) {g t n : Nat} {l : List Int} (hj : L[j]? = some (some g, t, l.map (Value.int .i64))) (hg : g ∉ M) (hn : n = l.length) (hbig : n ≤ 140737488355328) (hl : ∀ x ∈ l, i64 x) : RdI M w (.slice (some ⟨g, 0, none⟩) n n) l :=
 S.rd1 hj hg hn hbig fun i x hi => ⟨.int .i64 x, by simp [hi], rfl, hl x (List.mem_of_getElem? hi)⟩
theorem y4a {α : Type} {M : List Nat} {w : World} {size : Nat} {R : List Value → α → Prop} : RdS M w size R (.slice none 0 0) [] := ⟨none, 0, 0, rfl, rfl, Nat.le_refl _, by unfold maxLen; omega, by omega, fun h => absurd h (by omega)⟩
theorem St.rdBufs {M M' : List Nat} {w0 w : World} {L : List Ent} (S : St M' w0 w L) (j : Nat) {g t n : Nat} {l : List (List G0a)} (hj : L[j]? = some (some g, t, List.replicate n (.slice none 0 0))) (hg : g ∉ M) (hn : n = l.length) (hbig : n ≤ 140737488355328) (hl : ∀ b ∈ l, b = []) : G8c M w (.slice (some ⟨g, 0, none⟩) n n) l :=
 S.rd1 hj hg hn hbig fun i x hi => by
  obtain rfl := hl x (List.mem_of_getElem? hi)
  have := (List.getElem?_eq_some_iff.1 hi).1
  exact ⟨.slice none 0 0, by rw [List.getElem?_replicate, if_pos (by omega)], _, rfl, y4a⟩
@[simp] theorem G0c (p : f0a) : (X0a p).mem.length = p.cells.length := by simp [X0a]
@[simp] theorem q2c (p : f0a) : (X0a p).at_.length = p.threads.length := by simp [X0a]
theorem e5a {p : f0a} (hp : b1a p) {m : List Int} (h : X4a p m) : ∀ x ∈ m, i64 x := fun x hx => by
 obtain ⟨i, hi, rfl⟩ := List.getElem_of_mem hx
 have := h.vals i _ (List.getElem?_eq_getElem hi)
 have := A5b hp i
 unfold i64; omega
theorem A8a {p : f0a} (hp : b1a p) {c : q0a} (h : D3a p c) : ∀ x ∈ c.at_, i64 x := fun x hx => by
 have := (i6a hp h).2.1 x hx
 unfold i64; omega
theorem R1a.of {t s c : Int} (h1 : i64 t) (h2 : i64 s) (h3 : i64 c) : R1a [.int .i64 t, .int .i64 s, .int .i64 c] ⟨t, s, c⟩ := ⟨rfl, h1, h2, h3⟩
theorem T1a : a5a (fun (_ : List Nat) (_ : World) => R1a) 3 where
 len h := by rw [h.1]; rfl
 one h u hu := by rw [h.1] at hu; simp at hu; rcases hu with rfl | rfl | rfl <;> rfl
 keep _ h := h
 more _ h := h
theorem j2b : a5a (fun (_ : List Nat) (_ : World) => B9c) 1 where
 len h := by rw [h.1]; rfl
 one h u hu := by rw [h.1] at hu; simp at hu; subst hu; rfl
 keep _ h := h
 more _ h := h
theorem j2a : a5a V0a 2 where
 len h := by obtain ⟨_, _, rfl, _⟩ := h; rfl
 one h u hu := by
  obtain ⟨_, _, _, _, _, _, rfl, _⟩ := h.open_
  simp at hu; rcases hu with rfl | rfl <;> rfl
 keep hk h := V0a.keep hk _ _ h
 more hm h := V0a.more hm _ _ h
def f3a (M : List Nat) (w : World) (cs : List Value) (c : q0a) : Prop := t0a M w c cs
theorem M8a : a5a f3a 3 where
 len h := by obtain ⟨_, _, _, rfl, _⟩ := h; rfl
 one h u hu := by
  obtain ⟨_, _, _, _, _, _, _, _, _, rfl, _⟩ := t0a.open_ h
  simp at hu; rcases hu with rfl | rfl | rfl <;> rfl
 keep hk h := t0a.keep hk h
 more hm h := t0a.more hm h
theorem getD_some {α : Type} {l : List α} {i : Nat} {x d : α} (h : l[i]? = some x) : l.getD i d = x := by rw [List.getD_eq_getElem?_getD, h]; rfl
def Q3a (c : q0a) : Prop := ∀ b ∈ c.buf, b = []
theorem Q3a.getD {c : q0a} (h : Q3a c) (t : Nat) : c.buf.getD t [] = [] := by
 rw [List.getD_eq_getElem?_getD]
 cases hx : c.buf[t]? with
 | none => rfl
 | some b => exact h b (List.mem_of_getElem? hx)
theorem Q3a.view {c : q0a} (h : Q3a c) (t : Nat) : B1a c t = c.mem := by unfold B1a; rw [h.getD]; rfl
theorem Y3a {p : f0a} {c : q0a} (h : Q3a c) (t : Nat) (s : t1a) : L0a p 0 c t s = (decide (c.at_.getD t 0 = s.frm) && (decide (s.guard.evl c.mem c.mem = 1) &&
 (if s.kind = 6 then decide (c.at_.getD s.target.toNat 0 = -1) else if s.kind = 7 then decide (c.at_.getD s.target.toNat 0 = (p.threads.getD s.target.toNat ⟨ByteArray.empty, 0, [], [], [], [], false⟩).points - 1) else true))) := by
 unfold L0a
 rw [h.view, h.getD, h.getD]
 congr 2
 split
 ·rename_i h3; rw [if_neg (by omega), if_neg (by omega)]; simp
 ·split
  ·simp
  ·split
   ·simp
   ·split
    ·rfl
    ·simp
@[simp] theorem F8c (l : List F1a) (v m : List Int) : (C7a l v m).length = m.length := by
 unfold C7a
 induction l generalizing m with
 | nil => rfl
 | cons a l ih => rw [List.foldl_cons, ih, List.length_set]
theorem Q9a (l : List F1a) (a : F1a) (v m : List Int) : C7a (l ++ [a]) v m = (C7a l v m).set a.cell.toNat (a.to.evl v v) := by unfold C7a; rw [List.foldl_append]; rfl
theorem e0c {l : List F1a} {a : F1a} {v m : List Int} {k i : Nat} (hx : l[k]? = some a) (hi : i = a.cell.toNat) : ((C7a (l.take k) v m).map (Value.int .i64)).set i (.int .i64 (a.to.evl v v)) = (C7a (l.take (k + 1)) v m).map (Value.int .i64) := by
 subst hi
 rw [J0a hx, Q9a, List.map_set]
theorem X9c {p : f0a} {c : q0a} {t i : Nat} {th : Q0a} {s : t1a} (h : Q3a c) (ht : p.threads[t]? = some th) (hs : th.steps[i]? = some s) : doC p 0 c ⟨t, i, 0⟩ = ⟨C7a s.set c.mem c.mem, atC c t s, c.buf⟩ := by
 unfold doC
 have e1 : V2a p t = th.steps := by unfold V2a; rw [getD_some ht]
 rw [if_neg (by show ¬ ((i : Int) = -1); omega)]
 simp only [Int.toNat_natCast, e1, hs, m3a, h.view]
 simp
def Y5b (p : f0a) (m : Int) (c : q0a) (t i : Nat) : Bool := match (V2a p t)[i]? with | some s => L0a p m c t s | none => false
def p2a (p : f0a) (m : Int) (c : q0a) (t j : Nat) : List A0a := ((List.range j).filter (Y5b p m c t)).map fun (i : Nat) => (⟨t, i, 0⟩ : A0a)
def c3a (m : Int) (c : q0a) (t j : Nat) : List A0a := ((List.range j).filter (W2a m (c.buf.getD t []))).map fun (i : Nat) => (⟨t, -1, ((c.buf.getD t []).getD i ⟨[], []⟩).cells.getD 0 0⟩ : A0a)
def k2a (p : f0a) (m : Int) (c : q0a) (k : Nat) : List A0a := (List.range k).flatMap (c6a p m c)
theorem B6a (p : f0a) (m : Int) (c : q0a) (t : Nat) : c6a p m c t = p2a p m c t (V2a p t).length ++ c3a m c t (c.buf.getD t []).length := rfl
theorem A4a (p : f0a) (m : Int) (c : q0a) (k : Nat) : k2a p m c (k + 1) = k2a p m c k ++ c6a p m c k := by
 unfold k2a; rw [List.range_succ, List.flatMap_append]; simp
theorem p8a {p : f0a} {m : Int} {c : q0a} {t j : Nat} {s : t1a} (h : (V2a p t)[j]? = some s) : p2a p m c t (j + 1) = p2a p m c t j ++ (if L0a p m c t s then [⟨t, j, 0⟩] else []) := by
 unfold p2a
 rw [List.range_succ, List.filter_append, List.map_append]
 have : Y5b p m c t j = L0a p m c t s := by unfold Y5b; rw [h]
 congr 1
 cases he : L0a p m c t s <;> simp [this, he]
theorem F9a {p : f0a} {m : Int} {c : q0a} {t j : Nat} {th : Q0a} {s : t1a} (h : p.threads[t]? = some th) (hs : th.steps[j]? = some s) (he : L0a p m c t s = true) : p2a p m c t (j + 1) = p2a p m c t j ++ [⟨t, j, 0⟩] := by
 rw [p8a (by rw [show V2a p t = th.steps by unfold V2a; rw [getD_some h]]; exact hs), he, if_pos rfl]
theorem o0b {p : f0a} {m : Int} {c : q0a} {t j : Nat} {th : Q0a} {s : t1a} (h : p.threads[t]? = some th) (hs : th.steps[j]? = some s) (he : L0a p m c t s = false) : p2a p m c t (j + 1) = p2a p m c t j := by
 rw [p8a (by rw [show V2a p t = th.steps by unfold V2a; rw [getD_some h]]; exact hs), he]; simp
theorem S4b {m : Int} {c : q0a} {t j : Nat} (he : W2a m (c.buf.getD t []) j = true) : c3a m c t (j + 1) = c3a m c t j ++ [⟨t, -1, ((c.buf.getD t []).getD j ⟨[], []⟩).cells.getD 0 0⟩] := by
 unfold c3a
 generalize c.buf.getD t [] = b at *
 rw [List.range_succ, List.filter_append, List.map_append]
 simp [he]
theorem H6b {m : Int} {c : q0a} {t j : Nat} (he : W2a m (c.buf.getD t []) j = false) : c3a m c t (j + 1) = c3a m c t j := by
 unfold c3a
 generalize c.buf.getD t [] = b at *
 rw [List.range_succ, List.filter_append, List.map_append]
 simp [he]
theorem f5a (p : f0a) (m : Int) (c : q0a) (t j : Nat) : (p2a p m c t j).length ≤ j := by
 unfold p2a
 have := List.length_filter_le (Y5b p m c t) (List.range j)
 simpa using this
theorem c9a (m : Int) (c : q0a) (t j : Nat) : (c3a m c t j).length ≤ j := by
 unfold c3a
 have := List.length_filter_le (W2a m (c.buf.getD t [])) (List.range j)
 simpa using this
theorem v2a {p : f0a} {t : Nat} {th : Q0a} (h : p.threads[t]? = some th) : V2a p t = th.steps := by unfold V2a; rw [getD_some h]
theorem J2a {p : f0a} (hp : b1a p) {c : q0a} (hf : D3a p c) (m : Int) : ∀ k, k ≤ p.threads.length → (k2a p m c k).length ≤ k * 67
 | 0, _ => by simp [k2a]
 | k + 1, hk => by
   have ih := J2a hp hf m k (by omega)
   rw [A4a, B6a]
   have h1 := f5a p m c k (V2a p k).length
   have h2 := c9a m c k (c.buf.getD k []).length
   have hth : p.threads[k]? = some p.threads[k] := List.getElem?_eq_getElem hk
   rw [v2a hth] at h1 ⊢
   have h3 := (hp.threads k hk).nsteps
   have hkb : k < c.buf.length := by rw [hf.nbuf]; exact hk
   have hb : c.buf[k]? = some c.buf[k] := List.getElem?_eq_getElem hkb
   rw [getD_some hb] at h2 ⊢
   have h4 := (hf.bufs k _ hb).1
   simp only [List.length_append]
   omega
theorem u7a (p : f0a) (m : Int) (c : q0a) : k2a p m c p.threads.length = H0a p m c := rfl
section
variable {P : Program} {r : Option Nat} {N : Nat} {D : List Deferred} {e : Env} {w w0 : World} {ops : Array Oper} {rest : List Oper} {K : List Deferred → Env → World → Prop} {L : List Ent} {M : List Nat}
variable {d : Nat} {t : TypeId} {p : String} {af : Array Edge} {x y : Operand}
theorem RdI.oneCells {M' : List Nat} {A : Option Addr} {m c : Nat} {l : List Int} (h : RdI M' w (.slice A m c) l) (hm : 0 < m) : ∃ b o, A = some ⟨b, o, none⟩ ∧ k1a w b o (l.map (Value.int .i64)) := by
 obtain ⟨_, _, _, _, h5⟩ := h.at
 obtain ⟨b, o, h6, _, h8⟩ := h5 hm
 refine ⟨b, o, h6, fun j v hj => ?_⟩
 rw [List.getElem?_map, Option.map_eq_some_iff] at hj
 obtain ⟨a, ha, rfl⟩ := hj
 obtain ⟨_, _, h10, h11⟩ := h8 j a ha
 rw [h11.1] at h10
 have := h10 0 _ rfl
 simpa using this
theorem s0c {ty el bytes k n c g tb : Nat} {z : Value} {A : Option Addr} {cs : List Value} {l : List Int} {M' : List Nat} (S : St M w0 w L) (hS : SlZ P ty el 1 z bytes) (hk : L[k]? = some (some g, tb, cs)) (hx : ev e x = .slice (some ⟨g, 0, none⟩) n n) (hy : ev e y = .slice A n c) (hcs : cs.length = n)
 (hR : RdI M' w (.slice A n c) l) (hd : Nat.ble (d + 1) N = true)
 (h : ∀ w1, St M w0 w1 (L.set k (some g, tb, l.map (Value.int .i64))) → w0a [g] w w1 → WL P r N ops rest K D (upd e d (.int .i64 n)) w1) :
 WL P r N ops (⟨some d, .call { callee := .builtin .copy, args := #[x, y], argTypes := #[ty, ty] }, t, p, af, none⟩ :: rest) K D e w := by
 obtain ⟨_, hi, _, hsz, _⟩ := hS.parts
 have hs1 : (P.info? el).map (·.size) = some 1 := by rw [hi]; simp [hsz]
 have hn : n = l.length := hR.len.1
 by_cases h0 : n = 0
 ·have e1 : l.map (Value.int .i64) = cs := by
   have a1 : l = [] := List.eq_nil_of_length_eq_zero (by omega)
   have a2 : cs = [] := List.eq_nil_of_length_eq_zero (by omega)
   rw [a1, a2]; rfl
  have hrun := run_copy_none (P := P) w ty ty t el (some ⟨g, 0, none⟩) A n n n c hS.und hs1 (by rw [h0]; rfl)
  have S' := S.setEnt k hk e1.symm
  refine c1a (v := .int .i64 n) (w' := w) rfl rfl hd (by simp) ?_ (h w S' (w0a.refl _ _))
  subst h0
  simp [execOp, resolve, invoke, builtin, hx, hy, hrun, goInt]
 ·obtain ⟨b, o, rfl, hc⟩ := hR.oneCells (by omega)
  have hrun := run_copy_row (P := P) w ty ty t el g 0 n n ⟨b, o, none⟩ n c cs.toArray tb (l.map (Value.int .i64)) hS.und hs1 (S.blk k hk) (by simp [hn]) (fun j v hj => by rw [Addr.add_lit]; exact hc j v hj) (by simp; omega)
   (fun v hv => by obtain ⟨a, _, rfl⟩ := List.mem_map.1 hv; rfl)
  have e1 : (cs.toArray.toList.take 0 ++ l.map (Value.int .i64) ++ cs.toArray.toList.drop (0 + (l.map (Value.int .i64)).length)).toArray = (l.map (Value.int .i64)).toArray := by
   have : cs.length ≤ l.length := by omega
   simp [List.drop_of_length_le this]
  rw [e1] at hrun
  have hb : v0a [g] w (w.setRow g (l.map (Value.int .i64)).toArray) := ⟨rfl, rfl, rfl, by simp [World.setRow], fun q hq hm => setRow_other w g q _ (by simpa using hm)⟩
  refine c1a (v := .int .i64 n) rfl rfl hd (by simp) ?_ (h _ (S.changed1 k hk hb (setRow_heap w g _ _ tb _ (S.blk k hk))) ⟨hb.size, fun q hq hm => hb.block q hq hm⟩)
  rw [List.length_map, ← hn] at hrun
  simp [execOp, resolve, invoke, builtin, hx, hy, hrun, goInt]
def Eq3 (P : Program) (ty : TypeId) : Prop := P.eqGuardType P.depth ty = false ∧ ∀ (w : World) (a b c a' b' c' : Int),
 (binOp .eql ty (.agg #[.int .i64 a, .int .i64 b, .int .i64 c]) (.agg #[.int .i64 a', .int .i64 b', .int .i64 c'])).run P w = .ok (.bool (decide (a = a' ∧ b = b' ∧ c = c'))) w
theorem c3c {ty : TypeId} {a b c a' b' c' : Int} (hE : Eq3 P ty) (hx : ev e x = .agg #[.int .i64 a, .int .i64 b, .int .i64 c]) (hy : ev e y = .agg #[.int .i64 a', .int .i64 b', .int .i64 c']) (hd : Nat.ble (d + 1) N = true)
 (h1 : a = a' ∧ b = b' ∧ c = c' → WL P r N ops rest K D (upd e d (.bool true)) w) (h2 : ¬ (a = a' ∧ b = b' ∧ c = c') → WL P r N ops rest K D (upd e d (.bool false)) w) {yt : TypeId} :
 WL P r N ops (⟨some d, .binOp .eql ty x y yt, t, p, af, none⟩ :: rest) K D e w := by
 by_cases hh : a = a' ∧ b = b' ∧ c = c'
 ·exact c1a rfl rfl hd (by simp) (by simp only [execOp, hx, hy, Sem.run_bind, run_eqGuard_agg w _ _ _ _ _ _ hE.1, Result.andThen_ok, hE.2, Sem.run_pure, decide_eq_true hh]) (h1 hh)
 ·exact c1a rfl rfl hd (by simp) (by simp only [execOp, hx, hy, Sem.run_bind, run_eqGuard_agg w _ _ _ _ _ _ hE.1, Result.andThen_ok, hE.2, Sem.run_pure, decide_eq_false hh]) (h2 hh)
end
theorem H3b : Eq3 Tryz.prog 44 := by
 refine ⟨Tryz.eqGuardType44, fun w a b c a' b' c' => ?_⟩
 have ht : Tryz.prog.underlying 44 = some (.struct (Tryz.prog.fieldsOf 44)) := by unfold Program.fieldsOf; rw [Tryz.underlying44]
 have hag : ∀ w, (isAgg 3).run Tryz.prog w = .ok false w := fun w => by simp [isAgg, run_underlying Tryz.underlying3]
 rw [run_eql_struct, run_equalIn_struct w 9999 _ _ _ ht Tryz.stoodInHeld44]
 unfold Program.fieldsOf
 rw [Tryz.underlying44]
 by_cases h1 : a = a' <;> by_cases h2 : b = b' <;> by_cases h3 : c = c' <;> simp [Op.eqFields, part, hag, run_equalIn_int _ 9998 _ .i64 .i64 _ _ Tryz.underlying3, h1, h2, h3]
theorem P4c {α : Type} {a b : List α} (hl : a.length = b.length) {k : Nat} (hk : a.length ≤ k) (h : ∀ i x y, i < k → a[i]? = some x → b[i]? = some y → x = y) : a = b := by
 apply List.ext_getElem hl
 intro i h1 h2
 exact h i _ _ (by omega) (List.getElem?_eq_getElem h1) (List.getElem?_eq_getElem h2)
def N6b {α : Type} (a b : List α) (k : Nat) : Prop := ∀ i x y, i < k → a[i]? = some x → b[i]? = some y → x = y
theorem N6b.zero {α : Type} {a b : List α} : N6b a b 0 := fun i x y h => absurd h (by omega)
theorem N6b.succ {α : Type} {a b : List α} {k : Nat} (h : N6b a b k) {x y : α} (hx : a[k]? = some x) (hy : b[k]? = some y) (he : x = y) : N6b a b (k + 1) := fun i x' y' hi h1 h2 => by
 by_cases hik : i = k
 ·subst hik; rw [hx] at h1; rw [hy] at h2; cases h1; cases h2; exact he
 ·exact h i x' y' (by omega) h1 h2
theorem N6b.all {α : Type} {a b : List α} {k : Nat} (h : N6b a b k) (hl : a.length = b.length) (hk : a.length ≤ k) : a = b := P4c hl hk h
theorem x8b {α : Type} {a b : List α} (h : ¬ a.length = b.length) : a ≠ b := fun e => h (by rw [e])
theorem E6b {α : Type} {a b : List α} {k : Nat} {x y : α} (hx : a[k]? = some x) (hy : b[k]? = some y) (h : x ≠ y) : a ≠ b := fun e => by subst e; rw [hx] at hy; cases hy; exact h rfl
theorem G0a.ext' {a b : G0a} (h1 : a.cells = b.cells) (h2 : a.values = b.values) : a = b := by cases a; cases b; simp_all
theorem q0a.ext' {a b : q0a} (h1 : a.mem = b.mem) (h2 : a.at_ = b.at_) (h3 : a.buf = b.buf) : a = b := by cases a; cases b; simp_all
theorem A0a.ext' {a b : A0a} (h : a.thread = b.thread ∧ a.step = b.step ∧ a.cell = b.cell) : a = b := by cases a; cases b; simp_all
abbrev G9c (M : List Nat) (w : World) (v : Value) (l : List q0a) : Prop := RdS M w 3 (f3a M w) v l
theorem f3a.keep {M : List Nat} {w w' : World} (hk : w0a M w w') : ∀ cs c, f3a M w cs c → f3a M w' cs c := fun _ _ h => t0a.keep hk h
theorem f3a.less {M M' : List Nat} {w : World} (hk : ∀ g ∈ M', g ∈ M) : ∀ cs c, f3a M w cs c → f3a M' w cs c := fun _ _ h => t0a.less hk h
def H3a (ns : List Int) : ByteArray := ns.foldl (fun r n => r.push (UInt8.ofNat n.toNat)) ByteArray.empty
theorem n4a : ∀ (ns : List Int) (s : ByteArray), (ns.foldl (fun r n => r.push (UInt8.ofNat n.toNat)) s).data.toList = s.data.toList ++ ns.map fun n => UInt8.ofNat n.toNat
 | [], s => by simp
 | n :: ns, s => by
   rw [List.foldl_cons, n4a ns]
   simp [ByteArray.push]
theorem e9a {a b : List Int} (ha : ∀ x ∈ a, 0 ≤ x ∧ x ≤ 255) (hb : ∀ x ∈ b, 0 ≤ x ∧ x ≤ 255) (h : H3a a = H3a b) : a = b := by
 have h1 : (H3a a).data.toList = (H3a b).data.toList := by rw [h]
 unfold H3a at h1
 rw [n4a, n4a] at h1
 have h2 : a.map (fun n => UInt8.ofNat n.toNat) = b.map fun n => UInt8.ofNat n.toNat := by simpa using h1
 clear h h1
 induction a generalizing b with
 | nil => cases b with
   | nil => rfl
   | cons y b => simp at h2
 | cons x a ih => cases b with
   | nil => simp at h2
   | cons y b =>
     simp only [List.map_cons, List.cons.injEq] at h2
     have hx := ha x (by simp)
     have hy := hb y (by simp)
     have h3 : x.toNat = y.toNat := by
      have := congrArg UInt8.toNat h2.1
      simp only [UInt8.toNat_ofNat'] at this
      omega
     rw [ih (fun z hz => ha z (by simp [hz])) (fun z hz => hb z (by simp [hz])) h2.2, show x = y by omega]
def x7a (c : q0a) : List Int := c.mem ++ (c.at_.map (fun x => x + 1) ++ c.buf.flatMap E2a)
def y7b (c : q0a) : ByteArray := H3a (x7a c)
theorem B0b {p : f0a} (hp : b1a p) {c : q0a} (hf : D3a p c) : ∀ x ∈ x7a c, 0 ≤ x ∧ x ≤ 255 := by
 obtain ⟨h1, h2, h3⟩ := i6a hp hf
 intro x hx
 simp only [x7a, List.mem_append, List.mem_map] at hx
 rcases hx with hx | ⟨y, hy, rfl⟩ | hx
 ·exact h1 x hx
 ·have := h2 y hy; omega
 ·exact h3 x hx
theorem S2c {p : f0a} (hp : b1a p) {c d : q0a} (hc : D3a p c) (hd : D3a p d) (h : y7b c = y7b d) : c = d := by
 have h1 := e9a (B0b hp hc) (B0b hp hd) h
 unfold x7a at h1
 obtain ⟨h2, h3⟩ := List.append_inj h1 (hc.shape.mem.trans hd.shape.mem.symm)
 obtain ⟨h4, h5⟩ := List.append_inj h3 (by simp [hc.shape.at_, hd.shape.at_])
 have h6 : c.at_ = d.at_ := by
  have := congrArg (List.map fun x : Int => x - 1) h4
  simpa [List.map_map, Function.comp_def] using this
 refine u5b hc.shape hd.shape ?_
 unfold j5a
 rw [h2, h6, h5]
def two (n : Int) : List Int := [n % 256, n / 256 % 256]
def h5b (c : q0a) : List Int := (j5a c).flatMap two
def F7b (c : q0a) : ByteArray := H3a (h5b c)
theorem e8b : ∀ (a b : List Int), (∀ x ∈ a, -1 ≤ x ∧ x ≤ 255) → (∀ x ∈ b, -1 ≤ x ∧ x ≤ 255) → a.flatMap two = b.flatMap two → a = b
 | [], [], _, _, _ => rfl
 | [], y :: b, _, _, h => by simp [two] at h
 | x :: a, [], _, _, h => by simp [two] at h
 | x :: a, y :: b, h1, h2, h => by
   simp only [List.flatMap_cons, two, List.cons_append, List.nil_append, List.cons.injEq] at h
   have hx := h1 x (by simp)
   have hy := h2 y (by simp)
   rw [e8b a b (fun z hz => h1 z (by simp [hz])) (fun z hz => h2 z (by simp [hz])) h.2.2, show x = y by omega]
theorem a3c (a : List Int) : ∀ x ∈ a.flatMap two, 0 ≤ x ∧ x ≤ 255 := by
 intro x hx
 obtain ⟨_, _, hx⟩ := List.mem_flatMap.1 hx
 simp only [two, List.mem_cons, List.not_mem_nil, or_false] at hx
 rcases hx with rfl | rfl <;> omega
theorem h9a {p : f0a} (hp : b1a p) {c : q0a} (hf : D3a p c) : ∀ x ∈ j5a c, -1 ≤ x ∧ x ≤ 255 := by
 obtain ⟨h1, h2, h3⟩ := i6a hp hf
 intro x hx
 simp only [j5a, List.mem_append] at hx
 rcases hx with hx | hx | hx
 ·have := h1 x hx; omega
 ·have := h2 x hx; omega
 ·have := h3 x hx; omega
theorem G1c {p : f0a} (hp : b1a p) {c d : q0a} (hc : D3a p c) (hd : D3a p d) (h : F7b c = F7b d) : c = d :=
 u5b hc.shape hd.shape (e8b _ _ (h9a hp hc) (h9a hp hd) (e9a (a3c _) (a3c _) h))
structure u2a where
 conf : q0a
 frm : Int
 ch : A0a
abbrev Y1a (V : List u2a) : List q0a := V.map u2a.conf
def z2a (V : List u2a) (v : u2a) : List u2a := if v.conf ∈ Y1a V then V else V ++ [v]
def m0b (p : f0a) (m : Int) (i : Nat) (c : q0a) (V : List u2a) (xs : List A0a) : List u2a := xs.foldl (fun V x => z2a V ⟨doC p m c x, i, x⟩) V
def J8c (p : f0a) : List u2a := [⟨X0a p, -1, ⟨0, 0, 0⟩⟩]
def P2a (p : f0a) (m : Int) : Nat → List u2a
 | 0 => J8c p
 | n + 1 => match (P2a p m n)[n]? with
   | some v => m0b p m n v.conf (P2a p m n) (H0a p m v.conf)
   | none => P2a p m n
theorem Q2b (V : List u2a) (v : u2a) : Y1a (z2a V v) = if v.conf ∈ Y1a V then Y1a V else Y1a V ++ [v.conf] := by
 unfold z2a; split <;> simp
theorem x0b (p : f0a) (m : Int) (i : Nat) (c : q0a) : ∀ (xs : List A0a) (V : List u2a), Y1a (m0b p m i c V xs) = F0c (Y1a V) (xs.map (doC p m c))
 | [], _ => rfl
 | x :: xs, V => by
   show Y1a (m0b p m i c (z2a V ⟨doC p m c x, i, x⟩) xs) = _
   rw [x0b p m i c xs, List.map_cons, S6a, Q2b]
theorem O4a (p : f0a) (m : Int) : ∀ n, Y1a (P2a p m n) = bfs (E5a p m) (X0a p) n
 | 0 => rfl
 | n + 1 => by
   rw [P2a, bfs, ← O4a p m n]
   rw [List.getElem?_map]
   rcases h : (P2a p m n)[n]? with _ | v
   ·rfl
   ·exact x0b p m n v.conf _ _
theorem j0b (V : List u2a) (v : u2a) : V <+: z2a V v := by
 unfold z2a; split
 ·exact List.prefix_refl _
 ·exact List.prefix_append _ _
theorem r1b (p : f0a) (m : Int) (i : Nat) (c : q0a) : ∀ (xs : List A0a) (V : List u2a), V <+: m0b p m i c V xs
 | [], _ => List.prefix_refl _
 | _ :: xs, V => (j0b V _).trans (r1b p m i c xs _)
theorem Z7b (p : f0a) (m : Int) (i : Nat) (c : q0a) (V : List u2a) (xs : List A0a) (x : A0a) : m0b p m i c V (xs ++ [x]) = z2a (m0b p m i c V xs) ⟨doC p m c x, i, x⟩ := by
 unfold m0b; rw [List.foldl_append]; rfl
theorem j2c (p : f0a) (m : Int) (i : Nat) (c : q0a) (V : List u2a) (xs ys : List A0a) : m0b p m i c V (xs ++ ys) = m0b p m i c (m0b p m i c V xs) ys := by
 unfold m0b; rw [List.foldl_append]
theorem t8b (p : f0a) (m : Int) (n : Nat) : P2a p m n <+: P2a p m (n + 1) := by
 rw [P2a]
 split
 ·exact r1b ..
 ·exact List.prefix_refl _
theorem B1b (p : f0a) (m : Int) {n k : Nat} (h : n ≤ k) : P2a p m n <+: P2a p m k := by
 induction h with
 | refl => exact List.prefix_refl _
 | step _ ih => exact ih.trans (t8b p m _)
theorem D9b {p : f0a} {m : Int} {n : Nat} {v : u2a} (h : (P2a p m n)[n]? = some v) (j : Nat) : m0b p m n v.conf (P2a p m n) ((H0a p m v.conf).take j) <+: P2a p m (n + 1) := by
 have e : P2a p m (n + 1) = m0b p m n v.conf (P2a p m n) (H0a p m v.conf) := by rw [P2a, h]
 rw [e]
 conv => rhs; rw [← List.take_append_drop j (H0a p m v.conf), j2c]
 exact r1b ..
theorem j3b {p : f0a} {m : Int} {n : Nat} {v : u2a} (h : (P2a p m n)[n]? = some v) : P2a p m (n + 1) = m0b p m n v.conf (P2a p m n) (H0a p m v.conf) := by rw [P2a, h]
theorem u3b {p : f0a} {m : Int} {n : Nat} (h : (P2a p m n).length ≤ n) : ∀ k, P2a p m (n + k) = P2a p m n
 | 0 => rfl
 | k + 1 => by
   rw [← Nat.add_assoc, P2a, u3b h k]
   rw [List.getElem?_eq_none (by omega)]
def E3a (p : f0a) (m : Int) (V : List u2a) : Prop := ∃ n, V <+: P2a p m n
theorem E3a.done {p : f0a} {m : Int} {V : List u2a} (h : E3a p m V) {n : Nat} (hn : (P2a p m n).length ≤ n) : V <+: P2a p m n := by
 obtain ⟨k, hk⟩ := h
 rcases Nat.le_total k n with hle | hle
 ·exact hk.trans (B1b p m hle)
 ·obtain ⟨_, rfl⟩ := Nat.exists_eq_add_of_le hle
  rwa [u3b hn] at hk
theorem E3a.cmp {p : f0a} {m : Int} {V W : List u2a} (h1 : E3a p m V) (h2 : E3a p m W) (hl : V.length ≤ W.length) : V <+: W := by
 obtain ⟨k, hk⟩ := h1
 obtain ⟨j, hj⟩ := h2
 exact List.prefix_of_prefix_length_le (hk.trans (B1b p m (Nat.le_max_left k j))) (hj.trans (B1b p m (Nat.le_max_right k j))) hl
theorem Y6a {p : f0a} {m : Int} {V : List u2a} (h : E3a p m V) {v : u2a} (hv : v ∈ V) : L3a (E5a p m) (X0a p) v.conf := by
 obtain ⟨n, hn⟩ := h
 exact L5a _ _ n _ (by rw [← O4a]; exact List.mem_map.2 ⟨v, hn.subset hv, rfl⟩)
structure z5a (V : List u2a) : Prop where
 one : ∀ (k : Nat) (v : u2a), V[k]? = some v → (k = 0 ∧ v.frm = -1) ∨ (0 ≤ v.frm ∧ v.frm < (k : Int))
theorem z5a.found {V : List u2a} {v : u2a} (h : z5a V) (h1 : 0 ≤ v.frm) (h2 : v.frm < (V.length : Int)) : z5a (z2a V v) := by
 unfold z2a
 split
 ·exact h
 ·refine ⟨fun k u hu => ?_⟩
  rcases Nat.lt_or_ge k V.length with hk | hk
  ·rw [List.getElem?_append_left hk] at hu; exact h.one k u hu
  ·rw [List.getElem?_append_right hk] at hu
   have hk2 : k - V.length = 0 := by
    have := (List.getElem?_eq_some_iff.1 hu).1
    simp at this; omega
   rw [hk2] at hu; simp at hu; subst hu
   exact .inr ⟨h1, by omega⟩
theorem z5a.ext {p : f0a} {m : Int} {i : Nat} {c : q0a} : ∀ (xs : List A0a) (V : List u2a), z5a V → i < V.length → z5a (m0b p m i c V xs)
 | [], _, h, _ => h
 | _ :: xs, V, h, hi => z5a.ext xs _ (h.found (by simp) (by simpa using hi)) (Nat.lt_of_lt_of_le hi (j0b V _).length_le)
theorem E7a (p : f0a) (m : Int) : ∀ n, z5a (P2a p m n)
 | 0 => ⟨fun k v h => by
   match k, h with
   | 0, h => simp [P2a, J8c] at h; subst h; exact .inl ⟨rfl, rfl⟩
   | k + 1, h => simp [P2a, J8c] at h⟩
 | n + 1 => by
   rw [P2a]
   rcases h : (P2a p m n)[n]? with _ | v
   ·exact E7a p m n
   ·exact (E7a p m n).ext _ _ (List.getElem?_eq_some_iff.1 h).1
theorem x6a {α : Type} {V W : List α} (h : V <+: W) {k : Nat} {v : α} (hv : V[k]? = some v) : W[k]? = some v := by
 obtain ⟨_, rfl⟩ := h
 rw [List.getElem?_append_left (List.getElem?_eq_some_iff.1 hv).1]; exact hv
theorem E3a.from {p : f0a} {m : Int} {V : List u2a} (h : E3a p m V) : z5a V := by
 obtain ⟨n, hn⟩ := h
 exact ⟨fun k v hv => (E7a p m n).one k v (x6a hn hv)⟩
theorem m4a (p : f0a) (M : List Nat) (w0 : World) (cs : List Value) (hI : InP p M w0 cs) :
 M0a Tryz.prog 104 #[.agg cs.toArray] w0 fun v w' => v = .bool true ∧ Below w0.heap.size w0 w' := by
 obtain ⟨_, _, _, _, _, _, _, _, _, _, _, _, rfl, _, _, _, _, _, _, _, _, _, _, _, _⟩ := hI.rd.open_
 have S := St.refl w0
 refine a0a Tryz.func104 rfl Tryz.ntmps104 rfl ?_
 refine wO0 rfl ⟨⟩ (j0a S (by conv => lhs; whnf) rfl ?_)
 intro g1 w1 S1 X1 G1
 refine lO S1.k [.w 0] rfl ⟨⟨rfl,by rfl⟩,⟨⟩⟩ (g0a S1 I9b rfl rfl (k9a p M _ _ (hI.keep (S1.keep0 M)).rd hI.ok (hI.keep (S1.keep0 M)).msk (hI.keep (S1.keep0 M)).lt) ?_)
 intro w8 S8 X8
 refine lB0 rfl ⟨⟩ (fun h13 => ?_) (fun h13 => by exfalso; omega)
 exact lT rfl ⟨⟩ rfl ⟨rfl, S8.fin⟩
theorem F6a (p : f0a) (c : q0a) (M : List Nat) (w0 : World) (cs xs : List Value) (hI : InP p M w0 cs) (hX : t0a M w0 c xs) (hf : D3a p c) (he : ∀ b ∈ c.buf, b = []) :
 M0a Tryz.prog 137 #[.agg cs.toArray, .agg xs.toArray] w0 fun v w' => v = .bool true ∧ Below w0.heap.size w0 w' := by
 obtain ⟨Ac, nc, cc, Am, nm, cm, Al, nl, cl, At, nt, ct, rfl, hC, _, _, hTh, _, _, _, _, _, _, _, _⟩ := hI.rd.open_
 obtain ⟨Xm, xm, ym, Xa, xa, ya, Xb, xb, yb, rfl, hMem, hAt, hBuf, _, _, hxb, _, _, _⟩ := hX.open_
 have S := St.refl w0
 have f1 := hf.mem.len
 have f2 := hf.nat
 have f3 := hf.nbuf
 refine a0a Tryz.func137 rfl Tryz.ntmps137 rfl ?_
 refine wO0 rfl ⟨⟩ (j0a S (by conv => lhs; whnf) rfl ?_)
 intro g2 w2 S2 X2 G2
 refine j0a S2 (by conv => lhs; whnf) rfl ?_
 intro g3 w3 S3 X3 G3
 refine lB S3.k [.o 0,.o 1] rfl ⟨rfl,rfl,⟨⟩⟩ (fun h16 => by exfalso; omega) fun h16 => ?_
 refine lB S3.k [.o 0,.o 1] rfl ⟨rfl,rfl,⟨⟩⟩ (fun h24 => by exfalso; omega) fun h24 => ?_
 refine lB S3.k [.o 0,.o 1] rfl ⟨rfl,rfl,⟨⟩⟩ (fun h33 => by exfalso; omega) fun h33 => ?_
 refine lC S3.k [.o 0] rfl ⟨rfl,⟨⟩⟩ (wL (fun μk D ε w => D = [] ∧ ∃ k : Nat, (k + μk = (c.mem.length)) ∧ St [] w0 w [(some g3, 38, [.slice Xm xm ym, .slice Xa xa ya, .slice Xb xb yb]), (some g2, 27, [.slice Ac nc cc, .slice Am nm cm, .slice Al nl cl, .slice At nt ct])] ∧ Sl ε [(2, .pointer (some ⟨g2, 0, none⟩)), (3, .pointer (some ⟨g3, 0, none⟩)), (36, .slice Xm xm ym), (37, .int .i64 xm), (38, .int .i64 k)]) (μ := (c.mem.length)) ⟨rfl, 0, by omega, S3, rfl⟩ ?_)
 rintro μk D ε w ⟨rfl, k, hk, S, eZ⟩
 refine wK eZ (wB0 rfl ⟨⟩ (fun h39 => ?_) fun h39 => ?_)
 ·obtain ⟨v, b41, p41, _, hxv, hA41, _, _, hc41, hr41⟩ := RdS.get (hMem) (k) (by omega)
  obtain ⟨rfl, _⟩ := id hr41
  have q1 := hf.mem.vals k v hxv
  refine lB (S.k.a hc41) [.x b41 p41,.f 0 0] rfl ⟨rfl,⟨hA41,by omega⟩,⟨⟩⟩ (fun h44 => by exfalso; omega) fun h44 => ?_
  obtain ⟨x, b50, p50, _, hxx, hA50, _, _, hc50, hr50⟩ := RdS.get (hC) (k) (by omega)
  obtain ⟨rfl, _, _, _, _⟩ := Z2a.open_ hr50
  have q2 := (hI.ok.cells x (c0a hxx)).w
  rw [W9c hxx, Y4a] at q1
  refine lO (S.k.a hc50) [.o 1,.x b50 p50,.f 0 1] rfl ⟨rfl,⟨hA50,by omega⟩,rfl,⟨⟩⟩ ?_
  rw [show x.w = ((x.w.toNat : Nat) : Int) by omega]
  refine x3c (n := x.w.toNat) rfl (by rfl) (by omega) rfl ?_
  refine lB0 rfl ⟨⟩ (fun h54 => by exfalso; omega) fun h54 => ?_
  refine lP0 rfl ⟨by omega,⟨⟩⟩ ⟨μk - 1, by omega, rfl, (k + 1), (by omega), S, rfl⟩
 refine lC S.k [.o 0] rfl ⟨rfl,⟨⟩⟩ (wL (fun μk D ε w => D = [] ∧ ∃ k : Nat, (k + μk = (c.at_.length)) ∧ St [] w0 w [(some g3, 38, [.slice Xm xm ym, .slice Xa xa ya, .slice Xb xb yb]), (some g2, 27, [.slice Ac nc cc, .slice Am nm cm, .slice Al nl cl, .slice At nt ct])] ∧ Sl ε [(2, .pointer (some ⟨g2, 0, none⟩)), (3, .pointer (some ⟨g3, 0, none⟩)), (58, .slice Xa xa ya), (59, .int .i64 xa), (60, .int .i64 k)]) (μ := (c.at_.length)) ⟨rfl, 0, by omega, S, rfl⟩ ?_)
 rintro μk D ε w ⟨rfl, k, hk, S, eZ⟩
 refine wK eZ (wB0 rfl ⟨⟩ (fun h61 => ?_) fun h61 => ?_)
 ·obtain ⟨v, b63, p63, _, hxv, hA63, _, _, hc63, hr63⟩ := RdS.get (hAt) (k) (by omega)
  obtain ⟨rfl, _⟩ := id hr63
  obtain ⟨th, b68, p68, _, hxth, hA68, _, hl68, hc68, hr68⟩ := RdS.get (hTh) (k) (by omega)
  obtain ⟨_, _, _, _, _, _, _, _, _, _, _, _, rfl, _, _, _, _, _, _, _, _, _, _, _, _, _⟩ := N0a.open_ hr68
  have q1 := hf.atr k v hxv th hxth
  refine lO ((S.k.a hc68).a hc63) [.x b63 p63,.f 0 0,.o 1,.x b68 p68,.v 1] rfl ⟨⟨rfl,hl68⟩,⟨hA68,by omega⟩,rfl,rfl,⟨hA63,by omega⟩,⟨⟩⟩ (n0a S b3b rfl rfl ?_)
  intro g9 w9 S9 X9 G9
  refine e0a (kk := 0) (vs := [_, _, _, _, _, _, _]) S9 H2b rfl rfl rfl rfl rfl rfl rfl ?_
  intro w12_6 S12_6 X12_6
  dsimp only [k0a, List.set] at S12_6
  refine lB0 rfl ⟨⟩ (fun h71 => by exfalso; omega) fun h71 => ?_
  refine lB S12_6.k [.o 0] rfl ⟨rfl,⟨⟩⟩ (fun h76 => by exfalso; omega) fun h76 => ?_
  refine lB0 rfl ⟨⟩ (fun h80 => ?_) fun h80 => ?_
  ·refine lO0 rfl ⟨⟩ ?_
   cases hb83 : th.asleep
   ·refine s0a B2a rfl (by exact (S12_6.cell 0 rfl rfl).trans (congrArg (fun b => some (Value.bool b)) hb83)) rfl ?_
    rw [q1.2.2 (by omega)] at hb83
    refine lR0 rfl ⟨⟩ (r0a rfl (by conv => lhs; whnf) ?_)
    cases hb83
   refine s0a B2a rfl (by exact (S12_6.cell 0 rfl rfl).trans (congrArg (fun b => some (Value.bool b)) hb83)) rfl ?_
   rw [q1.2.2 (by omega)] at hb83
   obtain ⟨b, b91, p91, c91, hxb, hA91, hM91, hl91, hc91, hr91⟩ := RdS.get (hBuf) (k) (by omega)
   obtain ⟨Ab91, nb91, cb91, rfl, hBu91, hnb91, bb91⟩ := s5a.open_ hr91
   have q2 := he b (c0a hxb)
   subst q2
   simp only [List.length_nil] at hnb91
   refine lB (S12_6.k.a hc91) [.o 1,.x b91 p91,.f 0 0] rfl ⟨rfl,⟨hA91,by omega⟩,rfl,⟨⟩⟩ (fun h94 => by exfalso; omega) fun h94 => ?_
   refine lP0 rfl ⟨by omega,⟨⟩⟩ ⟨μk - 1, by omega, rfl, (k + 1), (by omega), S12_6.tail, rfl⟩
  obtain ⟨b, b91, p91, c91, hxb, hA91, hM91, hl91, hc91, hr91⟩ := RdS.get (hBuf) (k) (by omega)
  obtain ⟨Ab91, nb91, cb91, rfl, hBu91, hnb91, bb91⟩ := s5a.open_ hr91
  have q2 := he b (c0a hxb)
  subst q2
  simp only [List.length_nil] at hnb91
  refine lB (S12_6.k.a hc91) [.o 1,.x b91 p91,.f 0 0] rfl ⟨rfl,⟨hA91,by omega⟩,rfl,⟨⟩⟩ (fun h94 => by exfalso; omega) fun h94 => ?_
  refine lP0 rfl ⟨by omega,⟨⟩⟩ ⟨μk - 1, by omega, rfl, (k + 1), (by omega), S12_6.tail, rfl⟩
 exact lT rfl ⟨⟩ rfl ⟨rfl, S.fin⟩
theorem n3b (p : f0a) (M : List Nat) (w0 : World) (cs : List Value) (hI : InP p M w0 cs) :
 M0a Tryz.prog 81 #[.agg cs.toArray] w0 fun v w' => (∃ xs, v = .agg xs.toArray ∧ t0a M w' (X0a p) xs) ∧ Below w0.heap.size w0 w' := by
 obtain ⟨Ac, nc, cc, Am, nm, cm, Al, nl, cl, At, nt, ct, rfl, hC, _, _, hTh, hnc, _, _, hnt, bc, _, _, bt⟩ := hI.rd.open_
 have S := St.refl w0
 have hp := hI.ok
 have n1 := hp.ncells
 have n2 := hp.nthreads
 refine a0a Tryz.func81 rfl Tryz.ntmps81 rfl ?_
 refine wO0 rfl ⟨⟩ (j0a S (by conv => lhs; whnf) rfl ?_)
 intro g1 w1 S1 X1 G1
 refine n0a S1 C5a rfl rfl ?_
 intro g2 w2 S2 X2 G2
 refine lO S2.k [.w 1] rfl ⟨⟨rfl,rfl⟩,⟨⟩⟩ (g0a S2 w1b rfl rfl (m4a p M _ _ (hI.keep (S2.keep0 M))) ?_)
 intro w7 S7 X7
 refine lC0 rfl ⟨⟩ (A3c b0a [0, 1, 2, 3, 4, 5, 6, 7, 8, 9, 10, 11, 12, 13] 14 (by kernel_rfl) (by kernel_rfl) (Cl _ _ _ _) (Cl.start S7) _ rfl ?_)
 refine g5a rfl rfl ?_
 refine F0a R8b rfl rfl ?_
 refine d0a ?_
 refine g5a rfl rfl ?_
 refine h0a H9a rfl (fun w1 hw => by exact hw.1.cell 1 rfl rfl) rfl ?_
 refine d0a ?_
 refine F0b rfl p5a.slT rfl rfl ?_
 refine V7a (n := nc) (c := nc) rfl rfl rfl Y0a rfl rfl (by omega) (by omega) (by omega) rfl ?_
 intro g13 G13 ng13
 refine g5a rfl rfl ?_
 refine F0a C4b rfl rfl ?_
 refine d0a ?_
 refine g5a rfl rfl ?_
 refine h0a i6b rfl (fun w1 hw => by exact hw.1.cell 1 rfl rfl) rfl ?_
 refine d0a ?_
 refine F0b rfl S5b.slT rfl rfl ?_
 refine V7a (n := nt) (c := nt) rfl rfl rfl Y0a rfl rfl (by omega) (by omega) (by omega) rfl ?_
 intro g17 G17 ng17
 refine g5a rfl rfl ?_
 refine F0a C4b rfl rfl ?_
 refine d0a ?_
 refine g5a rfl rfl ?_
 refine h0a i6b rfl (fun w1 hw => by exact hw.1.cell 1 rfl rfl) rfl ?_
 refine d0a ?_
 refine F0b rfl S5b.slT rfl rfl ?_
 refine V7a (n := nt) (c := nt) rfl rfl rfl L4a rfl rfl (by omega) (by omega) (by omega) rfl ?_
 intro g21 G21 ng21
 refine g5a rfl rfl ?_
 refine h2a o5a (vs := [(0, .slice _ _ _), (1, .slice _ _ _), (2, .slice _ _ _)]) (cs := [_, _, _]) rfl rfl rfl rfl ?_
 refine d0a ?_
 refine F5b rfl rfl rfl C5a rfl ?_
 intro g3 G3 ng3
 refine q5b ?_
 rintro wR3 ⟨SR3, _⟩ ⟨⟨⟨⟨-, hg13⟩, hg17⟩, hg21⟩, hg3⟩
 clear ng13
 replace SR3 := SR3.push_new S7 hg13 G13
 replace SR3 := SR3.push_more (L1 := [_]) S7 hg17 G17 (by simpa [eq_comm] using ng17)
 replace SR3 := SR3.push_more (L1 := [_, _]) S7 hg21 G21 (by simpa [eq_comm] using ng21)
 replace SR3 := SR3.push_more (L1 := [_, _, _]) S7 hg3 G3 (by simpa [eq_comm] using ng3)
 refine e0a (kk := 0) (vs := [_, _, _]) SR3 R2a rfl rfl rfl rfl rfl rfl rfl ?_
 intro w3_14 S3_14 X3_14
 dsimp only [k0a, List.set] at S3_14
 refine S0a ⟨rfl, ?_⟩
 refine fC S3_14.k [.o 5] rfl ⟨rfl,⟨⟩⟩ ?_
 refine wL (fun μk D ε w => D = [] ∧ ∃ k : Nat, (k + μk = (p.cells.length)) ∧ St [] w0 w [(some g3, 38, [.slice (some ⟨g13, 0, none⟩) nc nc, .slice (some ⟨g17, 0, none⟩) nt nt, .slice (some ⟨g21, 0, none⟩) nt nt]), (some g21, 79, (List.replicate nt (.slice none 0 0))), (some g17, 3, (List.replicate nt (.int .i64 0))), (some g13, 3, T2a ((X0a p).mem.map (Value.int .i64)) (.int .i64 0) k), (some g2, 38, [.slice none 0 0, .slice none 0 0, .slice none 0 0]), (some g1, 27, [.slice Ac nc cc, .slice Am nm cm, .slice Al nl cl, .slice At nt ct])] ∧ Sl ε [(1, .pointer (some ⟨g1, 0, none⟩)), (2, .pointer (some ⟨g2, 0, none⟩)), (3, .pointer (some ⟨g3, 0, none⟩)), (25, .int .i64 nc), (26, .int .i64 k)]) (μ := (p.cells.length)) ⟨rfl, 0, by omega, (S3_14.setEnt 3 rfl (by rw [C6a]; simp [X0a, hnc])), rfl⟩ ?_
 rintro μk D ε w ⟨rfl, k, _, S, eZ⟩
 refine wK eZ (wB0 rfl ⟨⟩ (fun h27 => ?_) fun h27 => ?_)
 ·refine lC0 rfl ⟨⟩ (D0a b0a [0, 1, 2, 3, 4, 5, 6, 7, 8, 9] [] [10] (by kernel_rfl) rfl (Cl _ _ _ _) (Cl.start S) ?_)
  obtain ⟨x, b35, p35, _, hxx, hA35, _, _, hc35, hr35⟩ := RdS.get (hC) (k) (by omega)
  obtain ⟨rfl, _, _, _, _⟩ := Z2a.open_ hr35
  refine qO (S.q.a hc35) [.o 0,.o 5,.x b35 p35,.f 0 2] rfl ⟨rfl,⟨hA35,by omega⟩,rfl,rfl,⟨⟩⟩ (m0a Y0a.slT rfl (by rfl) rfl (by omega) (by omega) rfl ?_)
  refine qD rfl ⟨⟩ ?_
  rintro wR7 ⟨SR7, _⟩
  first | refine I0a (kk := 3) SR7 V0b rfl (by conv => lhs; whnf) rfl rfl (by (simp; omega)) ?_
  intro w7_10 S7_10 X7_10
  refine lP0 rfl ⟨by omega,⟨⟩⟩ ⟨μk - 1, by omega, rfl, (k + 1), (by omega), (S7_10.setEnt 3 rfl (m8a (by simp [X0a, hxx]) (by simp))), rfl⟩
 refine lC S.k [.o 5] rfl ⟨rfl,⟨⟩⟩ ?_
 refine wL (fun μj D ε w => D = [] ∧ ∃ j : Nat, (j + μj = (p.threads.length)) ∧ St [] w0 w [(some g3, 38, [.slice (some ⟨g13, 0, none⟩) nc nc, .slice (some ⟨g17, 0, none⟩) nt nt, .slice (some ⟨g21, 0, none⟩) nt nt]), (some g21, 79, (List.replicate nt (.slice none 0 0))), (some g17, 3, T2a ((X0a p).at_.map (Value.int .i64)) (.int .i64 0) j), (some g13, 3, (X0a p).mem.map (Value.int .i64)), (some g2, 38, [.slice none 0 0, .slice none 0 0, .slice none 0 0]), (some g1, 27, [.slice Ac nc cc, .slice Am nm cm, .slice Al nl cl, .slice At nt ct])] ∧ Sl ε [(1, .pointer (some ⟨g1, 0, none⟩)), (2, .pointer (some ⟨g2, 0, none⟩)), (3, .pointer (some ⟨g3, 0, none⟩)), (42, .int .i64 nt), (43, .int .i64 j)]) (μ := (p.threads.length)) ⟨rfl, 0, by omega, ((S.setEnt 3 rfl (Z7a _ _ (by simp [X0a]; omega))).setEnt 2 rfl (by rw [C6a]; simp [X0a, hnt])), rfl⟩ ?_
 rintro μj D ε w ⟨rfl, j, _, S, eZ⟩
 refine wK eZ (wB0 rfl ⟨⟩ (fun h44 => ?_) fun h44 => ?_)
 ·obtain ⟨th, b49, p49, _, hxth, hA49, _, _, hc49, hr49⟩ := RdS.get (hTh) (j) (by omega)
  obtain ⟨_, _, _, _, _, _, _, _, _, _, _, _, rfl, _, _, _, _, _, _, _, _, _, _, _, _, _⟩ := N0a.open_ hr49
  refine lO S.k [.o 5,.x b49 p49] rfl ⟨⟨hA49,by omega⟩,rfl,⟨⟩⟩ ?_
  cases hb51 : th.asleep
  ·refine s0a B2a rfl (by exact (S.old (hc49 _ _ rfl)).trans (congrArg (fun b => some (Value.bool b)) hb51)) rfl ?_
   refine lP0 rfl ⟨by omega,⟨⟩⟩ ⟨μj - 1, by omega, rfl, (j + 1), (by omega), (S.setEnt 2 rfl (by exact Q3b (by simp [X0a, hxth, hb51]))), rfl⟩
  refine s0a B2a rfl (by exact (S.old (hc49 _ _ rfl)).trans (congrArg (fun b => some (Value.bool b)) hb51)) rfl ?_
  refine lO S.k [.o 0] rfl ⟨rfl,⟨⟩⟩ (x0a Y0a.slT rfl (by rfl) rfl (by omega) (by omega) rfl ?_)
  first | refine I0a (kk := 2) S V0b rfl (by conv => lhs; whnf) rfl rfl (by (simp; omega)) ?_
  intro w13_4 S13_4 X13_4
  refine lP0 rfl ⟨by omega,⟨⟩⟩ ⟨μj - 1, by omega, rfl, (j + 1), (by omega), (S13_4.setEnt 2 rfl (by exact m8a (by simp [X0a, hxth, hb51]) (by simp))), rfl⟩
 refine lO S.k [.w 0] rfl ⟨⟨rfl,rfl⟩,⟨⟩⟩ ?_
 first | refine e0a (kk := 4) (vs := [_, _, _]) S R2a rfl rfl rfl rfl rfl rfl rfl ?_
 intro w15_1 S15_1 X15_1
 dsimp only [k0a, List.set] at S15_1
 refine lR0 rfl ⟨⟩ ?_
 have SF := S15_1.setEnt 2 rfl (Z7a _ _ (by simp [X0a]; omega))
 have hf := U5a hp
 exact r1a (n := 3) rfl p1a rfl (SF.cells 4 rfl) rfl ⟨⟨_, rfl, _, _, _, rfl, SF.rdInts 3 rfl (U0a hI.lt (SF.new 3 rfl)) (by simp [X0a, hnc]) bc (e5a hp hf.mem), SF.rdInts 2 rfl (U0a hI.lt (SF.new 2 rfl)) (by simp [X0a, hnt]) bt (A8a hp hf), SF.rdBufs 1 rfl (U0a hI.lt (SF.new 1 rfl)) (by simp [X0a, hnt]) bt (by simp [X0a])⟩, SF.fin⟩
theorem a0b (p : f0a) (c : q0a) (t i : Nat) (th : Q0a) (s : t1a) (M : List Nat) (w0 : World) (cs xs : List Value) (hI : InP p M w0 cs) (hX : t0a M w0 c xs) (hf : D3a p c) (he : Q3a c) (hxth : p.threads[t]? = some th) (hxs : th.steps[i]? = some s) :
 M0a Tryz.prog 157 #[.agg cs.toArray, .agg xs.toArray, .int .i64 t, .int .i64 i] w0 fun v w' => v = .bool (L0a p 0 c t s) ∧ Below w0.heap.size w0 w' := by
 obtain ⟨_, _, _, _, _, _, _, _, _, _, _, _, rfl, _, _, _, hTh, _, _, _, _, _, _, _, _⟩ := hI.rd.open_
 obtain ⟨_, _, _, _, _, _, _, _, _, rfl, hMem, hAt, _, _, hxa, hxb, _, _, _⟩ := hX.open_
 have S := St.refl w0
 have f2 := hf.nat
 have hp := hI.ok
 have ht := S1a hxth
 have hi := S1a hxs
 have hto := hp.thread hxth
 have hso := hto.steps s (c0a hxs)
 have hk6 : 6 ≤ s.kind → 0 ≤ s.target ∧ s.target < p.threads.length := fun h => (hso.row.k6 h).1
 refine a0a Tryz.func157 rfl Tryz.ntmps157 rfl ?_
 refine wO0 rfl ⟨⟩ (j0a S (by conv => lhs; whnf) rfl ?_)
 intro g4 w4 S4 X4 G4
 refine j0a S4 (by conv => lhs; whnf) rfl ?_
 intro g5 w5 S5 X5 G5
 obtain ⟨_, b13, p13, _, hx13, hA13, _, _, hc13, hr13⟩ := RdS.get (hTh) (t) (by omega)
 obtain rfl := Option.some.inj (hxth.symm.trans hx13)
 obtain ⟨_, _, _, _, _, _, _, _, _, _, _, _, rfl, _, _, _, hSt13, _, _, _, _, _, _, _, _, _⟩ := N0a.open_ hr13
 obtain ⟨_, b17, p17, _, hx17, hA17, _, hl17, hc17, hr17⟩ := RdS.get (hSt13) (i) (by omega)
 obtain rfl := Option.some.inj (hxs.symm.trans hx17)
 obtain ⟨_, _, _, _, _, _, rfl, ⟨_, _, _, _, _⟩, hG17, _, _, _⟩ := m2a.open_ hr17
 refine lO ((S5.k.a hc17).a hc13) [.o 1,.x b13 p13,.f 0 4,.x b17 p17,.v 1] rfl ⟨⟨rfl,hl17⟩,⟨hA17,by omega⟩,rfl,⟨hA13,by omega⟩,rfl,⟨⟩⟩ (n0a S5 T6b rfl rfl ?_)
 intro g9 w9 S9 X9 G9
 refine e0a (kk := 0) (vs := [_, _, _, _, _, _, _, _, _, _, _]) S9 y6b rfl rfl rfl rfl rfl rfl rfl ?_
 intro w1_10 S1_10 X1_10
 dsimp only [k0a, List.set] at S1_10
 refine lC0 rfl ⟨⟩ (D0a b0a [0, 1, 2, 3, 4, 5, 6, 7, 8, 9, 10, 11, 12, 13, 14, 15, 16, 17] [] [] (by kernel_rfl) rfl (Cl _ _ _ _) (Cl.start S1_10) ?_)
 obtain ⟨a, b22, p22, _, hxa, hA22, _, _, hc22, hr22⟩ := RdS.get (hAt) (t) (by omega)
 obtain ⟨rfl, _⟩ := id hr22
 refine qB (S1_10.q.a hc22) [.o 1,.x b22 p22,.f 0 0,.o 0] rfl ⟨rfl,rfl,⟨hA22,by omega⟩,rfl,⟨⟩⟩ (fun h26 => ?_) fun h26 => ?_
 ·refine qD rfl ⟨⟩ ?_
  rintro wR2 ⟨SR2, XR2⟩
  refine lT rfl ⟨⟩ rfl ⟨congrArg Value.bool ?_, SR2.fin⟩
  rw [Y3a he, getD_some hxa]
  simp [h26]; done
 refine qO S1_10.q [.o 0,.o 1,.o 1] rfl ⟨rfl,rfl,rfl,⟨⟩⟩ (H2a e0b rfl rfl (fun w1 S1 X1 => L7a s.guard M _ _ _ _ c.mem c.mem (RdE.keep (S1.keep0 M) _ _ hG17) (hI.keep (S1.keep0 M)).msk (hMem.keep (S1.keep0 M)) (hMem.keep (S1.keep0 M))) ?_)
 refine qB0 rfl ⟨⟩ (fun h35 => ?_) fun h35 => ?_
 ·refine qD rfl ⟨⟩ ?_
  rintro wR2 ⟨SR2, XR2⟩
  refine lT rfl ⟨⟩ rfl ⟨congrArg Value.bool ?_, SR2.fin⟩
  rw [Y3a he, getD_some hxa]
  simp [h26, h35]; done
 refine qD rfl ⟨⟩ ?_
 rintro wR2 ⟨SR2, XR2⟩
 refine lB SR2.k [.o 0] rfl ⟨rfl,⟨⟩⟩ (fun h40 => ?_) fun h40 => ?_
 ·have q6 := hk6 (by omega)
  obtain ⟨b, b45, p45, _, hxb, hA45, _, _, hc45, hr45⟩ := RdS.get (hAt) (s.target.toNat) (by omega)
  obtain ⟨rfl, _⟩ := id hr45
  refine lB (SR2.k.a hc45) [.o 1,.o 0,.x b45 p45,.f 0 0] rfl ⟨rfl,⟨hA45,by omega⟩,rfl,rfl,⟨⟩⟩ (fun h47 => ?_) fun h47 => ?_
  ·refine lT rfl ⟨⟩ rfl ⟨congrArg Value.bool ?_, SR2.fin⟩
   rw [Y3a he, getD_some hxa]
   simp [h26, h35, h40, hxb, h47]; done
  refine lT rfl ⟨⟩ rfl ⟨congrArg Value.bool ?_, SR2.fin⟩
  rw [Y3a he, getD_some hxa]
  simp [h26, h35, h40, hxb, h47]; done
 refine lB0 rfl ⟨⟩ (fun h49 => ?_) fun h49 => ?_
 ·refine lC0 rfl ⟨⟩ (D0a b0a [0, 1, 2, 3, 4, 5, 6, 7, 8, 9, 10, 11, 12, 13, 14, 15] [] [] (by kernel_rfl) rfl (Cl _ _ _ _) (Cl.start SR2) ?_)
  have q6 := hk6 (by omega)
  obtain ⟨b, b54, p54, _, hxb, hA54, _, _, hc54, hr54⟩ := RdS.get (hAt) (s.target.toNat) (by omega)
  obtain ⟨rfl, _⟩ := id hr54
  obtain ⟨_, b60, p60, _, hxu, hA60, _, _, hc60, hr60⟩ := RdS.get (hTh) (s.target.toNat) (by omega)
  obtain ⟨_, _, _, _, _, _, _, _, _, _, _, _, rfl, _, _, _, _, _, _, _, _, _, _, _, _, _⟩ := N0a.open_ hr60
  have q7 := (hp.thread hxu).points
  refine qB ((SR2.q.a hc60).a hc54) [.o 1,.o 0,.x b54 p54,.f 0 0,.o 2,.o 0,.x b60 p60,.f 1 1] rfl ⟨by omega,rfl,⟨hA60,by omega⟩,rfl,rfl,rfl,⟨hA54,by omega⟩,rfl,rfl,⟨⟩⟩ (fun h64 => ?_) fun h64 => ?_
  ·refine qD rfl ⟨⟩ ?_
   rintro wR8 ⟨SR8, XR8⟩
   refine lT rfl ⟨⟩ rfl ⟨congrArg Value.bool ?_, SR8.fin⟩
   rw [Y3a he, getD_some hxa]
   simp [h26, h35, h49, hxb, hxu, h64]; done
  refine qD rfl ⟨⟩ ?_
  rintro wR8 ⟨SR8, XR8⟩
  refine lT rfl ⟨⟩ rfl ⟨congrArg Value.bool ?_, SR8.fin⟩
  rw [Y3a he, getD_some hxa]
  simp [h26, h35, h49, hxb, hxu, h64]; done
 refine lT rfl ⟨⟩ rfl ⟨congrArg Value.bool ?_, SR2.fin⟩
 rw [Y3a he, getD_some hxa]
 simp [h26, h35, h40, h49]; done
theorem E4a (p : f0a) (c : q0a) (M : List Nat) (w0 : World) (cs xs : List Value) (hI : InP p M w0 cs) (hX : t0a M w0 c xs) (hf : D3a p c) (he : Q3a c) :
 M0a Tryz.prog 138 #[.agg cs.toArray, .agg xs.toArray] w0 fun v w' => g2c M w' v (H0a p 0 c) ∧ Below w0.heap.size w0 w' := by
 obtain ⟨Ac, nc, cc, Am, nm, cm, Al, nl, cl, At, nt, ct, rfl, _, _, _, hTh, _, _, _, _, _, _, _, _⟩ := hI.rd.open_
 obtain ⟨Xm, xm, ym, Xa, xa, ya, Xb, xb, yb, rfl, _, _, _, _, _, _, _, _, _⟩ := hX.open_
 have S := (St.refl w0).nilEnt 44
 have hp := hI.ok
 have n2 := hp.nthreads
 refine a0a Tryz.func138 rfl Tryz.ntmps138 rfl ?_
 refine wO0 rfl ⟨⟩ (j0a S (by conv => lhs; whnf) rfl ?_)
 intro g2 w2 S2 X2 G2
 refine j0a S2 (by conv => lhs; whnf) rfl ?_
 intro g3 w3 S3 X3 G3
 refine lC S3.k [.o 1] rfl ⟨rfl,⟨⟩⟩ (wL (fun μk D ε w => D = [] ∧ ∃ k : Nat, ∃ G : Option Nat, ∃ cs' : List Value, ∃ v : Value, (k + μk = (p.threads.length)) ∧ (Q1a (fun _ _ => R1a) 3 [] w0 G cs' v (k2a p 0 c k)) ∧ St [] w0 w [(some g3, 38, [.slice Xm xm ym, .slice Xa xa ya, .slice Xb xb yb]), (some g2, 27, [.slice Ac nc cc, .slice Am nm cm, .slice Al nl cl, .slice At nt ct]), (G, 44, cs')] ∧ Sl ε [(2, .pointer (some ⟨g2, 0, none⟩)), (3, .pointer (some ⟨g3, 0, none⟩)), (5, v), (10, .int .i64 nt), (11, .int .i64 k)]) (μ := (p.threads.length)) ⟨rfl, 0, none, [], .slice none 0 0, by omega, Q1a.nil, S3, rfl⟩ ?_)
 rintro μk D ε w ⟨rfl, k, G, cs', v, _, hrow, S, eZ⟩
 refine wK eZ (wB0 rfl ⟨⟩ (fun h12 => ?_) fun h12 => ?_)
 ·obtain ⟨th, b17, p17, _, hxth, hA17, _, _, hc17, hr17⟩ := RdS.get (hTh) (k) (by omega)
  obtain ⟨_, _, _, _, _, _, _, ns17, _, _, _, _, rfl, _, _, _, _, _, _, _, _, _, _, _, _, _⟩ := N0a.open_ hr17
  have hns := (hp.thread hxth).nsteps
  refine lC (S.k.a hc17) [.o 1,.x b17 p17,.f 0 4] rfl ⟨rfl,⟨hA17,by omega⟩,rfl,⟨⟩⟩ (wL (fun μj D ε w => D = [] ∧ ∃ j : Nat, ∃ G2 : Option Nat, ∃ cs2 : List Value, ∃ v2 : Value, (j + μj = (th.steps.length)) ∧ (Q1a (fun _ _ => R1a) 3 [] w0 G2 cs2 v2 (k2a p 0 c k ++ p2a p 0 c k j)) ∧ St [] w0 w [(some g3, 38, [.slice Xm xm ym, .slice Xa xa ya, .slice Xb xb yb]), (some g2, 27, [.slice Ac nc cc, .slice Am nm cm, .slice Al nl cl, .slice At nt ct]), (G2, 44, cs2)] ∧ Sl ε [(2, .pointer (some ⟨g2, 0, none⟩)), (3, .pointer (some ⟨g3, 0, none⟩)), (5, v2), (6, .int .i64 k), (10, .int .i64 nt), (11, .int .i64 k), (20, .int .i64 ns17), (21, .int .i64 j)]) (μ := (th.steps.length)) ⟨rfl, 0, G, cs', v, by omega, by simpa [p2a] using hrow, S, rfl⟩ ?_)
  rintro μj D ε w ⟨rfl, j, G2, cs2, v2, _, hrow2, S, eZ⟩
  refine wK eZ (wB0 rfl ⟨⟩ (fun h22 => ?_) fun h22 => ?_)
  ·refine lO S.k [.w 1,.w 0] rfl ⟨⟨rfl,rfl⟩,⟨rfl,rfl⟩,⟨⟩⟩ ?_
   obtain ⟨s, hxs⟩ : ∃ s, th.steps[j]? = some s := ⟨th.steps[j]'(by omega), List.getElem?_eq_getElem _⟩
   refine y0a S Z5c rfl rfl (a0b p c k j th s M _ _ _ (hI.keep (S.keep0 M)) (hX.keep (S.keep0 M)) hf he hxth hxs) (fun h28 w28 S28 X28 => ?_) (fun h28 w28 S28 X28 => ?_)
   ·refine lOn 4 S28.k [] rfl ⟨⟩ (m1a (by conv => lhs; whnf) rfl ?_)
    refine lO0 rfl ⟨⟩ (i1a C8b (vs := [(0, .int .i64 _), (1, .int .i64 _)]) (cs := [_, _, _]) rfl rfl rfl rfl ?_)
    refine E0a S28 o3a (vs := [.agg _]) (cs := [_, _, _]) (by rfl) rfl rfl rfl rfl rfl rfl ?_
    intro g33 w33 S33 X33 G33
    have l1 := J2a hp hf 0 k (by omega)
    have l2 := f5a p 0 c k j
    refine C1a T1a (k := 3) (M2 := []) (e1 := ⟨k, j, 0⟩) S33 o3a (by decide) rfl hrow2 rfl rfl (S33.cells 0 rfl) (R1a.of (by unfold i64; omega) (by unfold i64; omega) (by unfold i64; omega)) (by rw [List.length_append]; omega) rfl ?_
    intro v34 G34 cs34 w34 S34 hrow34 X34 F34
    refine T0a (by conv => lhs; whnf) rfl ?_
    refine lP0 rfl ⟨by omega,⟨⟩⟩ ⟨μj - 1, by omega, rfl, (j + 1), (_), (_), (_), (by omega), ?_, S34.tail, rfl⟩
    rw [F9a hxth hxs h28, ← List.append_assoc]; exact hrow34
   refine lP0 rfl ⟨by omega,⟨⟩⟩ ⟨μj - 1, by omega, rfl, (j + 1), (_), (_), (_), (by omega), ?_, S28, rfl⟩
   rw [o0b hxth hxs h28]; exact hrow2
  refine lP0 rfl ⟨by omega,⟨⟩⟩ ⟨μk - 1, by omega, rfl, (k + 1), (_), (_), (_), (by omega), ?_, S, rfl⟩
  rw [A4a, B6a, v2a hxth, he.getD]
  rw [show th.steps.length = j by omega]
  rw [show p2a p 0 c k j ++ c3a 0 c k ([] : List G0a).length = p2a p 0 c k j by simp [c3a]]
  exact hrow2
 refine lOn 8 S.k [] rfl ⟨⟩ (m1a (by conv => lhs; whnf) rfl ?_)
 refine T0a (by conv => lhs; whnf) rfl ?_
 refine lR0 rfl ⟨⟩ (r0a rfl (by conv => lhs; whnf) ?_)
 obtain rfl : k = p.threads.length := by omega
 have l1 := J2a hp hf 0 _ (Nat.le_refl _)
 rw [u7a] at l1
 exact ⟨Q1a.rd (M := M) T1a hrow S (k := 2) rfl (fun g hg => by subst hg; exact U0a hI.lt (S.new 2 rfl)) (by omega), S.fin⟩
theorem P7a (p : f0a) (c : q0a) (M : List Nat) (w0 : World) (cs xs : List Value) (hI : InP p M w0 cs) (hX : t0a M w0 c xs) (hf : D3a p c) (he : Q3a c) :
 M0a Tryz.prog 105 #[.agg cs.toArray, .agg xs.toArray] w0 fun v w' => g2c M w' v (H0a p 0 c) ∧ Below w0.heap.size w0 w' := by
 obtain ⟨_, _, _, _, _, _, _, _, _, _, _, _, rfl, _, _, _, _, _, _, _, _, _, _, _, _⟩ := hI.rd.open_
 obtain ⟨_, _, _, _, _, _, _, _, _, rfl, _, _, _, _, _, _, _, _, _⟩ := hX.open_
 have S := St.refl w0
 refine a0a Tryz.func105 rfl Tryz.ntmps105 rfl ?_
 refine wO0 rfl ⟨⟩ (j0a S (by conv => lhs; whnf) rfl ?_)
 intro g2 w2 S2 X2 G2
 refine j0a S2 (by conv => lhs; whnf) rfl ?_
 intro g3 w3 S3 X3 G3
 refine lO S3.k [.w 1] rfl ⟨⟨rfl,by rfl⟩,⟨⟩⟩ (g0a S3 w1b rfl rfl (m4a p M _ _ (hI.keep (S3.keep0 M))) ?_)
 intro w6 S6 X6
 refine lO S6.k [.w 1,.w 0] rfl ⟨⟨rfl,by rfl⟩,⟨rfl,by rfl⟩,⟨⟩⟩ (g0a S6 t4b rfl rfl (F6a p c M _ _ _ (hI.keep (S6.keep0 M)) (hX.keep (S6.keep0 M)) hf he) ?_)
 intro w11 S11 X11
 refine lO S11.k [.w 1,.w 0] rfl ⟨⟨rfl,by rfl⟩,⟨rfl,by rfl⟩,⟨⟩⟩ (B0a S11 O4b rfl rfl (E4a p c M _ _ _ (hI.keep (S11.keep0 M)) (hX.keep (S11.keep0 M)) hf he) ?_)
 rintro v16 w16 hr S16 X16
 refine T0a (by conv => lhs; whnf) rfl ?_
 exact lT rfl ⟨⟩ rfl ⟨hr, S16.fin⟩
theorem W9a (p : f0a) (c : q0a) (t i : Nat) (th : Q0a) (s : t1a) (M : List Nat) (w0 : World) (cs xs : List Value) (hI : InP p M w0 cs) (hX : t0a M w0 c xs) (hf : D3a p c) (he : Q3a c) (hxth : p.threads[t]? = some th) (hxs : th.steps[i]? = some s) (hf' : D3a p (doC p 0 c ⟨t, i, 0⟩)) :
 M0a Tryz.prog 145 #[.agg cs.toArray, .agg xs.toArray, .agg #[.int .i64 t, .int .i64 i, .int .i64 0]] w0 fun v w' => (∃ ys, v = .agg ys.toArray ∧ t0a M w' (doC p 0 c ⟨t, i, 0⟩) ys) ∧ Below w0.heap.size w0 w' := by
 obtain ⟨Ac, nc, cc, Am, nm, cm, Al, nl, cl, At, nt, ct, rfl, _, _, _, hTh, _, _, _, _, _, _, _, _⟩ := hI.rd.open_
 obtain ⟨Xm, xm, ym, Xa, xa, ya, Xb, xb, yb, rfl, hMem, hAt, _, hxm, hxa, hxb, b1, b2, b3⟩ := hX.open_
 have S := St.refl w0
 have f1 := hf.mem.len
 have f2 := hf.nat
 have f3 := hf.nbuf
 have hp := hI.ok
 have n1 := hp.ncells
 have n2 := hp.nthreads
 have ht := S1a hxth
 have hi := S1a hxs
 have hso := (hp.thread hxth).steps s (c0a hxs)
 have hk6 : 6 ≤ s.kind → 0 ≤ s.target ∧ s.target < p.threads.length := fun h => (hso.row.k6 h).1
 refine a0a Tryz.func145 rfl Tryz.ntmps145 rfl ?_
 refine wO0 rfl ⟨⟩ (j0a S (by conv => lhs; whnf) rfl ?_)
 intro g3 w3 S3 X3 G3
 refine j0a S3 (by conv => lhs; whnf) rfl ?_
 intro g4 w4 S4 X4 G4
 refine j0a S4 (by conv => lhs; whnf) rfl ?_
 intro g5 w5 S5 X5 G5
 refine n0a S5 C5a rfl rfl ?_
 intro g6 w6 S6 X6 G6
 refine lC0 rfl ⟨⟩ (A3c b0a [0, 1, 2, 3, 4, 5, 6, 7, 8, 9, 10, 11, 12, 13] 14 (by kernel_rfl) (by kernel_rfl) (Cl _ _ _ _) (Cl.start S6) _ rfl ?_)
 refine g5a rfl rfl ?_
 refine F0a V4b rfl rfl ?_
 refine d0a ?_
 refine g5a rfl rfl ?_
 refine h0a P3a rfl (fun w1 hw => by exact hw.1.cell 2 rfl rfl) rfl ?_
 refine d0a ?_
 refine F0b rfl Y0a.slT rfl rfl ?_
 refine V7a (n := xm) (c := xm) rfl rfl rfl Y0a rfl rfl (by omega) (by omega) (by omega) rfl ?_
 intro g14 G14 ng14
 refine g5a rfl rfl ?_
 refine F0a i5b rfl rfl ?_
 refine d0a ?_
 refine g5a rfl rfl ?_
 refine h0a P3a rfl (fun w1 hw => by exact hw.1.cell 2 rfl rfl) rfl ?_
 refine d0a ?_
 refine F0b rfl Y0a.slT rfl rfl ?_
 refine V7a (n := xa) (c := xa) rfl rfl rfl Y0a rfl rfl (by omega) (by omega) (by omega) rfl ?_
 intro g18 G18 ng18
 refine g5a rfl rfl ?_
 refine F0a h5a rfl rfl ?_
 refine d0a ?_
 refine g5a rfl rfl ?_
 refine h0a n6a rfl (fun w1 hw => by exact hw.1.cell 2 rfl rfl) rfl ?_
 refine d0a ?_
 refine F0b rfl L4a.slT rfl rfl ?_
 refine V7a (n := xb) (c := xb) rfl rfl rfl L4a rfl rfl (by omega) (by omega) (by omega) rfl ?_
 intro g22 G22 ng22
 refine g5a rfl rfl ?_
 refine h2a o5a (vs := [(0, .slice _ _ _), (1, .slice _ _ _), (2, .slice _ _ _)]) (cs := [_, _, _]) rfl rfl rfl rfl ?_
 refine d0a ?_
 refine F5b rfl rfl rfl C5a rfl ?_
 intro g7 G7 ng7
 refine q5b ?_
 rintro wR1 ⟨SR1, _⟩ ⟨⟨⟨⟨-, hg14⟩, hg18⟩, hg22⟩, hg7⟩
 clear ng14
 replace SR1 := SR1.push_new S6 hg14 G14
 replace SR1 := SR1.push_more (L1 := [_]) S6 hg18 G18 (by simpa [eq_comm] using ng18)
 replace SR1 := SR1.push_more (L1 := [_, _]) S6 hg22 G22 (by simpa [eq_comm] using ng22)
 replace SR1 := SR1.push_more (L1 := [_, _, _]) S6 hg7 G7 (by simpa [eq_comm] using ng7)
 refine e0a (kk := 0) (vs := [_, _, _]) SR1 R2a rfl rfl rfl rfl rfl rfl rfl ?_
 intro w1_14 S1_14 X1_14
 dsimp only [k0a, List.set] at S1_14
 refine S0a ⟨rfl, ?_⟩
 refine fO S1_14.k [.o 0,.o 6] rfl ⟨rfl,rfl,⟨⟩⟩ (s0c (k := 3) S1_14 Y0a rfl rfl rfl (by simp) (hMem.keep (S1_14.keep0 M)) rfl ?_)
 intro w28 S28 X28
 refine lO S28.k [.o 0,.o 6] rfl ⟨rfl,rfl,⟨⟩⟩ (s0c (k := 2) S28 Y0a rfl rfl rfl (by simp) (hAt.keep (S28.keep0 M)) rfl ?_)
 intro w33 S33 X33
 refine lC0 rfl ⟨⟩ (D0a b0a [0, 1, 2, 3, 4, 5, 6, 7, 8, 9, 10] [11] [12] (by kernel_rfl) rfl (Cl _ _ _ _) (Cl.start S33) ?_)
 obtain ⟨_, b38, p38, _, hx38, hA38, _, _, hc38, hr38⟩ := RdS.get (hTh) (t) (by omega)
 obtain rfl := Option.some.inj (hxth.symm.trans hx38)
 obtain ⟨_, _, _, _, _, _, _, _, _, _, _, _, rfl, _, _, _, hSt38, _, _, _, _, _, _, _, _, _⟩ := N0a.open_ hr38
 obtain ⟨_, b43, p43, _, hx43, hA43, _, hl43, hc43, hr43⟩ := RdS.get (hSt38) (i) (by omega)
 obtain rfl := Option.some.inj (hxs.symm.trans hx43)
 obtain ⟨Ag43, ng43, cg43, As43, ns43, cs43, rfl, ⟨_, _, _, _, _⟩, _, hSet43, _, _⟩ := m2a.open_ hr43
 refine qN ((S33.q.a hc43).a hc38) [.o 7,.o 5,.x b38 p38,.f 0 4,.o 5,.x b43 p43,.v 1] rfl ⟨⟨rfl,hl43⟩,⟨hA43,by omega⟩,rfl,rfl,⟨hA38,by omega⟩,rfl,rfl,⟨⟩⟩ (w5a ?_)
 refine B3b rfl rfl T6b rfl ?_
 refine o2a ?_
 rintro wR4 ⟨SR4, _⟩
 intro g8 hg8 G8 ng8
 dsimp only [I3a]
 clear ng8
 replace SR4 := SR4.push_new S33 hg8 G8
 refine e0a (kk := 0) (vs := [_, _, _, _, _, _, _, _, _, _, _]) SR4 y6b rfl rfl rfl rfl rfl rfl rfl ?_
 intro w4_12 S4_12 X4_12
 dsimp only [k0a, List.set] at S4_12
 refine lC S4_12.k [.o 0] rfl ⟨rfl,⟨⟩⟩ (wL (fun μk D ε w => D = [] ∧ ∃ k : Nat, (k + μk = (s.set.length)) ∧ St [] w0 w [(some g8, 90, [.int .i64 s.kind, .int .i64 s.frm, .int .i64 s.to, .int .i64 s.guard.op, .int .i64 s.guard.w, .int .i64 s.guard.n, .slice Ag43 ng43 cg43, .slice As43 ns43 cs43, .bool s.release, .int .i64 s.target, .int .i64 s.module_]), (some g7, 38, [.slice (some ⟨g14, 0, none⟩) xm xm, .slice (some ⟨g18, 0, none⟩) xa xa, .slice (some ⟨g22, 0, none⟩) xb xb]), (some g22, 79, List.replicate xb (.slice none 0 0)), (some g18, 3, c.at_.map (Value.int .i64)), (some g14, 3, (C7a (s.set.take k) c.mem c.mem).map (Value.int .i64)), (some g6, 38, [.slice none 0 0, .slice none 0 0, .slice none 0 0]), (some g5, 44, [.int .i64 t, .int .i64 i, .int .i64 0]), (some g4, 38, [.slice Xm xm ym, .slice Xa xa ya, .slice Xb xb yb]), (some g3, 27, [.slice Ac nc cc, .slice Am nm cm, .slice Al nl cl, .slice At nt ct])] ∧ Sl ε [(4, .pointer (some ⟨g4, 0, none⟩)), (5, .pointer (some ⟨g5, 0, none⟩)), (6, .pointer (some ⟨g6, 0, none⟩)), (7, .pointer (some ⟨g7, 0, none⟩)), (8, .pointer (some ⟨g8, 0, none⟩)), (46, .slice As43 ns43 cs43), (47, .int .i64 ns43), (48, .int .i64 k)]) (μ := (s.set.length)) ⟨rfl, 0, by omega, S4_12, rfl⟩ ?_)
 rintro μk D ε w ⟨rfl, k, _, S, eZ⟩
 refine wK eZ (wB0 rfl ⟨⟩ (fun h49 => ?_) fun h49 => ?_)
 ·obtain ⟨a, b50, p50, _, hxa, hA50, _, hl50, hc50, hr50⟩ := RdS.get (hSet43) (k) (by omega)
  obtain ⟨_, _, _, rfl, _, hE50⟩ := R0a.open_ hr50
  have q1 := (hso.set a (c0a hxa)).1
  unfold t2a at q1
  refine lO (S.k.a hc50) [.x b50 p50,.v 0] rfl ⟨⟨rfl,hl50⟩,⟨hA50,by omega⟩,⟨⟩⟩ (n0a S t2b rfl rfl ?_)
  intro g10 w10 S10 X10 G10
  refine e0a (kk := 0) (vs := [_, _, _, _, _]) S10 v3b rfl rfl rfl rfl rfl rfl rfl ?_
  intro w7_3 S7_3 X7_3
  dsimp only [k0a, List.set] at S7_3
  refine lC0 rfl ⟨⟩ (D0a b0a [0, 1, 2, 3, 4, 5, 6, 7, 8, 9, 10, 11] [] [12] (by kernel_rfl) rfl (Cl _ _ _ _) (Cl.start S7_3) ?_)
  refine qO S7_3.q [.o 2,.o 0,.o 0,.o 8,.o 8] rfl ⟨rfl,rfl,rfl,rfl,rfl,⟨⟩⟩ (H2a e0b rfl rfl (fun w1 S1 X1 => L7a a.to M _ _ _ _ c.mem c.mem (RdE.keep (S1.keep0 M) _ _ hE50) (hI.keep (S1.keep0 M)).msk (hMem.keep (S1.keep0 M)) (hMem.keep (S1.keep0 M))) ?_)
  refine m0a Y0a.slT rfl (by rfl) rfl (by omega) (by omega) rfl ?_
  refine qD rfl ⟨⟩ ?_
  rintro wR8 ⟨SR8, _⟩
  first | refine I0a (kk := 5) SR8 V0b rfl (by conv => lhs; whnf) rfl rfl (by (simp; omega)) ?_
  intro w8_12 S8_12 X8_12
  refine lP0 rfl ⟨by omega,⟨⟩⟩ ⟨μk - 1, by omega, rfl, (k + 1), (by omega), (S8_12.tail.setEnt 4 rfl (e0c hxa (by simp))), rfl⟩
 refine lO S.k [.o 1,.o 6,.o 0] rfl ⟨rfl,rfl,rfl,⟨⟩⟩ (x0a Y0a.slT rfl (by rfl) rfl (by omega) (by omega) rfl ?_)
 first | refine I0a (kk := 3) S V0b rfl (by conv => lhs; whnf) rfl rfl (by (simp; omega)) ?_
 intro w10_7 S10_7 X10_7
 refine lB S10_7.k [.o 0] rfl ⟨rfl,⟨⟩⟩ (fun h74 => ?_) fun h74 => ?_
 ·refine lO S10_7.k [.o 1,.o 0] rfl ⟨rfl,rfl,⟨⟩⟩ ?_
  have q6 := hk6 (by omega)
  refine x0a Y0a.slT rfl (by rfl) rfl (by omega) (by omega) rfl ?_
  first | refine I0a (kk := 3) S10_7 V0b rfl (by conv => lhs; whnf) rfl rfl (by (simp; omega)) ?_
  intro w12_5 S12_5 X12_5
  refine lO S12_5.k [.w 1] rfl ⟨⟨rfl,rfl⟩,⟨⟩⟩ ?_
  first | refine e0a (kk := 5) (vs := [_, _, _]) S12_5 R2a rfl rfl rfl rfl rfl rfl rfl ?_
  intro w13_1 S13_1 X13_1
  dsimp only [k0a, List.set] at S13_1
  refine lR0 rfl ⟨⟩ ?_
  have SF := (S13_1.setEnt 3 rfl (show _ = (atC c t s).map (Value.int .i64) by simp [atC, h74, List.map_set])).setEnt 4 rfl (show _ = (C7a s.set c.mem c.mem).map (Value.int .i64) by rw [List.take_of_length_le (by omega)])
  rw [X9c he hxth hxs] at hf' ⊢
  exact r1a (n := 3) rfl p1a rfl (SF.cells 5 rfl) rfl ⟨⟨_, rfl, _, _, _, rfl, SF.rdInts 4 rfl (U0a hI.lt (SF.new 4 rfl)) (by simp [hxm]) b1 (e5a hp hf'.mem), SF.rdInts 3 rfl (U0a hI.lt (SF.new 3 rfl)) (by rw [T5a]; exact hxa) b2 (A8a hp hf'), SF.rdBufs 2 rfl (U0a hI.lt (SF.new 2 rfl)) hxb b3 he⟩, SF.fin⟩
 refine lO S10_7.k [.w 1] rfl ⟨⟨rfl,rfl⟩,⟨⟩⟩ ?_
 first | refine e0a (kk := 5) (vs := [_, _, _]) S10_7 R2a rfl rfl rfl rfl rfl rfl rfl ?_
 intro w13_1 S13_1 X13_1
 dsimp only [k0a, List.set] at S13_1
 refine lR0 rfl ⟨⟩ ?_
 have SF := (S13_1.setEnt 3 rfl (show _ = (atC c t s).map (Value.int .i64) by simp [atC, h74, List.map_set])).setEnt 4 rfl (show _ = (C7a s.set c.mem c.mem).map (Value.int .i64) by rw [List.take_of_length_le (by omega)])
 rw [X9c he hxth hxs] at hf' ⊢
 exact r1a (n := 3) rfl p1a rfl (SF.cells 5 rfl) rfl ⟨⟨_, rfl, _, _, _, rfl, SF.rdInts 4 rfl (U0a hI.lt (SF.new 4 rfl)) (by simp [hxm]) b1 (e5a hp hf'.mem), SF.rdInts 3 rfl (U0a hI.lt (SF.new 3 rfl)) (by rw [T5a]; exact hxa) b2 (A8a hp hf'), SF.rdBufs 2 rfl (U0a hI.lt (SF.new 2 rfl)) hxb b3 he⟩, SF.fin⟩
theorem H7c {p : f0a} {m : Int} {c : q0a} (he : Q3a c) {x : A0a} (hx : x ∈ H0a p m c) : ∃ (t i : Nat) (th : Q0a) (s : t1a), x = ⟨t, i, 0⟩ ∧ p.threads[t]? = some th ∧ th.steps[i]? = some s ∧ L0a p m c t s = true := by
 obtain ⟨t, ht, h | h⟩ := o1a.1 hx
 ·obtain ⟨i, s, hs, he, rfl⟩ := h
  have hth : p.threads[t]? = some p.threads[t] := List.getElem?_eq_getElem ht
  rw [v2a hth] at hs
  exact ⟨t, i, _, s, rfl, hth, hs, he⟩
 ·obtain ⟨i, h1, -⟩ := h
  rw [he.getD] at h1; simp at h1
theorem S3b (p : f0a) (c : q0a) (x : A0a) (M : List Nat) (w0 : World) (cs xs : List Value) (hI : InP p M w0 cs) (hX : t0a M w0 c xs) (hf : D3a p c) (he : Q3a c) (hx : x ∈ H0a p 0 c) :
 M0a Tryz.prog 110 #[.agg cs.toArray, .agg xs.toArray, .agg #[.int .i64 x.thread, .int .i64 x.step, .int .i64 x.cell]] w0 fun v w' => (∃ ys, v = .tuple #[.agg ys.toArray, .int .i64 0] ∧ t0a M w' (doC p 0 c x) ys) ∧ Below w0.heap.size w0 w' := by
 obtain ⟨t, i, th, s, rfl, hxth, hxs, _⟩ := H7c he hx
 have hf' := U5b hI.ok hf hx
 obtain ⟨Ac, nc, cc, Am, nm, cm, Al, nl, cl, At, nt, ct, rfl, _, _, _, _, _, _, _, _, _, _, _, _⟩ := hI.rd.open_
 obtain ⟨Xm, xm, ym, Xa, xa, ya, Xb, xb, yb, rfl, _, _, _, _, _, _, _, _, _⟩ := hX.open_
 have S := St.refl w0
 refine a0a Tryz.func110 rfl Tryz.ntmps110 rfl ?_
 refine wO0 rfl ⟨⟩ (j0a S (by conv => lhs; whnf) rfl ?_)
 intro g3 w3 S3 X3 G3
 refine j0a S3 (by conv => lhs; whnf) rfl ?_
 intro g4 w4 S4 X4 G4
 refine j0a S4 (by conv => lhs; whnf) rfl ?_
 intro g5 w5 S5 X5 G5
 refine n0a S5 C5a rfl rfl ?_
 intro g6 w6 S6 X6 G6
 refine lO S6.k [.w 3] rfl ⟨⟨rfl,rfl⟩,⟨⟩⟩ (g0a S6 w1b rfl rfl (m4a p M _ _ (hI.keep (S6.keep0 M))) ?_)
 intro w11 S11 X11
 refine lO S11.k [.w 3,.w 2] rfl ⟨⟨rfl,rfl⟩,⟨rfl,rfl⟩,⟨⟩⟩ (g0a S11 t4b rfl rfl (F6a p c M _ _ _ (hI.keep (S11.keep0 M)) (hX.keep (S11.keep0 M)) hf he) ?_)
 intro w16 S16 X16
 refine lO S16.k [.w 3,.w 2] rfl ⟨⟨rfl,rfl⟩,⟨rfl,rfl⟩,⟨⟩⟩ (B0a S16 O4b rfl rfl (E4a p c M _ _ _ (hI.keep (S16.keep0 M)) (hX.keep (S16.keep0 M)) hf he) ?_)
 rintro v22 w22 hr S22 X22
 obtain ⟨Ar, nr, cr, rfl⟩ := hr.form
 obtain ⟨_, -, _⟩ := hr.len
 have K22 := w0a.refl [] w22
 refine lC0 rfl ⟨⟩ (wL (fun μk D ε w => D = [] ∧ ∃ k : Nat, (k + μk = ((H0a p 0 c).length)) ∧ (w0a [] w22 w) ∧ (u1a (H0a p 0 c) k (fun y => y ≠ ⟨t, i, 0⟩)) ∧ St [] w0 w [(some g6, 38, [.slice none 0 0, .slice none 0 0, .slice none 0 0]), (some g5, 44, [.int .i64 t, .int .i64 i, .int .i64 0]), (some g4, 38, [.slice Xm xm ym, .slice Xa xa ya, .slice Xb xb yb]), (some g3, 27, [.slice Ac nc cc, .slice Am nm cm, .slice Al nl cl, .slice At nt ct])] ∧ Sl ε [(3, .pointer (some ⟨g3, 0, none⟩)), (4, .pointer (some ⟨g4, 0, none⟩)), (5, .pointer (some ⟨g5, 0, none⟩)), (6, .pointer (some ⟨g6, 0, none⟩)), (22, .slice Ar nr cr), (23, .int .i64 nr), (24, .int .i64 k)]) (μ := ((H0a p 0 c).length)) ⟨rfl, 0, by omega, K22, u1a.zero, S22, rfl⟩ ?_)
 rintro μk D ε w ⟨rfl, k, _, K22, hs, S, eZ⟩
 refine wK eZ (wB0 rfl ⟨⟩ (fun h25 => ?_) fun h25 => ?_)
 ·obtain ⟨y, b26, p26, _, hxy, hA26, _, hl26, hc26, hr26⟩ := RdS.get ((hr.keep K22.of_nil)) (k) (by omega)
  obtain ⟨rfl, _, _, _⟩ := id hr26
  refine lO (S.k.b hc26) [.x b26 p26,.v 0] rfl ⟨⟨rfl,hl26⟩,⟨hA26,by omega⟩,⟨⟩⟩ (n0a S X5c rfl rfl ?_)
  intro g9 w9 S9 X9 G9
  have GK229 := Nat.le_trans K22.size G9
  replace K22 := K22.trans X9
  refine e0a (kk := 0) (vs := [_, _, _]) S9 f4b rfl rfl rfl rfl rfl rfl rfl ?_
  intro w5_3 S5_3 X5_3
  dsimp only [k0a, List.set] at S5_3
  replace K22 := K22.fresh X5_3 (by first | exact GK229)
  refine lOn 6 S5_3.k [.w 2,.w 0] rfl ⟨⟨rfl,by rfl⟩,⟨rfl,rfl⟩,⟨⟩⟩ (c3c H3b rfl rfl rfl (fun h30 => ?_) fun h30 => ?_)
  ·refine lO S5_3.k [.w 4,.w 3,.w 2] rfl ⟨⟨rfl,rfl⟩,⟨rfl,rfl⟩,⟨rfl,rfl⟩,⟨⟩⟩ (B0a S5_3 r6c rfl rfl (W9a p c t i th s (g6 :: M) _ _ _ (hI.add S5_3 (k := 1) rfl) (t0a.add hX S5_3 (k := 1) rfl) hf he hxth hxs hf') ?_)
   rintro v34 w34 ⟨ys, rfl, hy⟩ S34 X34
   obtain ⟨_, _, _, _, _, _, _, _, _, rfl, -⟩ := hy.open_
   first | refine e0a (kk := 1) (vs := [_, _, _]) S34 R2a rfl rfl rfl rfl rfl rfl rfl ?_
   intro w7_4 S7_4 X7_4
   dsimp only [k0a, List.set] at S7_4
   replace hy := hy.keep (X7_4.mono (by simp))
   exact lR0 rfl ⟨⟩ (k4a (n := 3) rfl p1a rfl (S7_4.cells 1 rfl) rfl rfl ⟨⟨_, rfl, hy.less (fun g hg => List.mem_cons_of_mem _ hg)⟩, S7_4.fin⟩)
  refine lP0 rfl ⟨by omega,⟨⟩⟩ ?_
  refine ⟨μk - 1, by omega, rfl, (k + 1), (by omega), (K22), (hs.succ hxy (fun h => h30 (by rw [h]; exact ⟨rfl, rfl, rfl⟩))), S5_3.tail, rfl⟩
 refine lO0 rfl ⟨⟩ (i1a o5a (vs := []) (cs := [_, _, _]) rfl rfl rfl rfl ?_)
 refine e0a (kk := 0) (vs := [_, _, _]) S R2a rfl rfl rfl rfl rfl rfl rfl ?_
 intro w9_1 S9_1 X9_1
 dsimp only [k0a, List.set] at S9_1
 exact lR0 rfl ⟨⟩ (absurd rfl (hs.all (by omega) _ hx))
theorem RdS.take {α : Type} {M : List Nat} {w : World} {size : Nat} {R : List Value → α → Prop} {A : Option Addr} {n c : Nat} {l : List α} (h : RdS M w size R (.slice A n c) l) (i : Nat) (hi : i ≤ n) : RdS M w size R (.slice A i c) (l.take i) := by
 obtain ⟨_, _, _, he, _, _, h3, _, h5⟩ := h
 cases he
 refine ⟨_, _, _, rfl, by rw [List.length_take]; omega, by omega, h3, by omega, fun h0 => ?_⟩
 obtain ⟨b, o, hA, hb, hel⟩ := h5 (by omega)
 refine ⟨b, o, hA, hb, fun j x hx => hel j x ?_⟩
 rw [List.getElem?_take] at hx
 split at hx
 ·exact hx
 ·cases hx
theorem O2c {l : List Int} (h : l.Nodup) {k : Nat} {x : Int} (hx : l[k]? = some x) : x ∉ l.take k := fun hh => by
 obtain ⟨i, hi, he⟩ := List.getElem_of_mem hh
 rw [List.length_take] at hi
 obtain ⟨hk, hx⟩ := List.getElem?_eq_some_iff.1 hx
 rw [List.getElem_take] at he
 exact (List.pairwise_iff_getElem.1 h i k (by omega) hk (by omega)) (he.trans hx.symm)
theorem w6b {a b : List Int} {k : Nat} {x y : Int} (hx : a[k]? = some x) (hy : b[k]? = some y) : (x, y) ∈ a.zip b := List.mem_of_getElem? (i := k) (by rw [List.getElem?_zip_eq_some]; exact ⟨hx, hy⟩)
theorem x9b (M : List Nat) (w0 : World) (v : Value) (l : List Int) (a : Int) (hR : RdI M w0 v l) :
 M0a Tryz.prog 171 #[v, .int .i64 a] w0 fun v w' => (∃ n, v = .int .i64 n ∧ (0 ≤ n ↔ a ∈ l)) ∧ Below w0.heap.size w0 w' := by
 obtain ⟨A, n, c, rfl⟩ := hR.form
 obtain ⟨_, _, _⟩ := hR.len
 have S := St.refl w0
 refine a0a Tryz.func171 rfl Tryz.ntmps171 rfl ?_
 refine wC0 rfl ⟨⟩ (wL (fun μk D ε w => D = [] ∧ ∃ k : Nat, (k + μk = (l.length)) ∧ (u1a (l) k (fun x => a ≠ x)) ∧ St [] w0 w [] ∧ Sl ε [(0, .slice A n c), (1, .int .i64 a), (7, .int .i64 n), (8, .int .i64 k)]) (μ := (l.length)) ⟨rfl, 0, by omega, u1a.zero, S, rfl⟩ ?_)
 rintro μk D ε w ⟨rfl, k, _, ha, S, eZ⟩
 refine wK eZ (wB0 rfl ⟨⟩ (fun h9 => ?_) fun h9 => ?_)
 ·obtain ⟨x, b14, p14, _, hxx, hA14, _, _, hc14, hr14⟩ := RdS.get (hR) (k) (by omega)
  obtain ⟨rfl, _⟩ := id hr14
  refine lB (S.k.a hc14) [.x b14 p14,.f 0 0] rfl ⟨rfl,⟨hA14,by omega⟩,⟨⟩⟩ (fun h16 => ?_) fun h16 => ?_
  ·exact lT rfl ⟨⟩ rfl ⟨⟨_, rfl, ⟨fun _ => h16 ▸ c0a hxx, fun _ => by omega⟩⟩, S.fin⟩
  refine lP0 rfl ⟨by omega,⟨⟩⟩ ⟨μk - 1, by omega, rfl, (k + 1), (by omega), (ha.succ hxx (h16)), S, rfl⟩
 exact lT rfl ⟨⟩ rfl ⟨⟨_, rfl, ⟨fun h => by omega, fun h => absurd rfl (ha.all (by omega) a h)⟩⟩, S.fin⟩
theorem s8a (M : List Nat) (w0 : World) (v : Value) (l : List Int) (a : Int) (hR : RdI M w0 v l) :
 M0a Tryz.prog 159 #[v, .int .i64 a] w0 fun v w' => v = .bool (decide (a ∈ l)) ∧ Below w0.heap.size w0 w' := by
 obtain ⟨_, _, _, rfl⟩ := hR.form
 have S := St.refl w0
 refine a0a Tryz.func159 rfl Tryz.ntmps159 rfl ?_
 refine wO0 rfl ⟨⟩ (B0a S O3c rfl rfl (x9b M _ _ l a (hR.keep (S.keep0 M))) ?_)
 rintro v7 w7 ⟨_, rfl, hm⟩ S7 X7
 refine lB0 rfl ⟨⟩ (fun h8 => ?_) fun h8 => ?_
 ·refine lR0 rfl ⟨⟩ (r0a rfl (by conv => lhs; whnf) ?_)
  exact ⟨by rw [decide_eq_true (hm.1 (by omega))], S7.fin⟩
 refine lR0 rfl ⟨⟩ (r0a rfl (by conv => lhs; whnf) ?_)
 exact ⟨by rw [decide_eq_false (fun hh => absurd (hm.2 hh) (by omega))], S7.fin⟩
theorem G9a (p : f0a) (M : List Nat) (w0 : World) (cs : List Value) (hI : InP p M w0 cs) :
 M0a Tryz.prog 139 #[.agg cs.toArray] w0 fun v w' => v = .bool true ∧ Below w0.heap.size w0 w' := by
 obtain ⟨_, _, _, _, _, _, _, _, _, _, _, _, rfl, _, _, _, _, _, _, _, _, _, _, _, _⟩ := hI.rd.open_
 have S := St.refl w0
 refine a0a Tryz.func139 rfl Tryz.ntmps139 rfl ?_
 refine wO0 rfl ⟨⟩ (j0a S (by conv => lhs; whnf) rfl ?_)
 intro g1 w1 S1 X1 G1
 refine lO S1.k [.w 0] rfl ⟨⟨rfl,by rfl⟩,⟨⟩⟩ (g0a S1 I9b rfl rfl (k9a p M _ _ (hI.keep (S1.keep0 M)).rd hI.ok (hI.keep (S1.keep0 M)).msk (hI.keep (S1.keep0 M)).lt) ?_)
 intro w8 S8 X8
 refine lB0 rfl ⟨⟩ (fun h13 => ?_) (fun h13 => by exfalso; omega)
 exact lT rfl ⟨⟩ rfl ⟨rfl, S8.fin⟩
theorem a3b (p : f0a) (en : G0a) (M : List Nat) (w0 : World) (cs es : List Value) (hI : InP p M w0 cs) (hE : V0a M w0 es en) (ho : U9a p en) :
 M0a Tryz.prog 158 #[.agg cs.toArray, .agg es.toArray] w0 fun v w' => v = .bool true ∧ Below w0.heap.size w0 w' := by
 obtain ⟨Ac, nc, cc, Am, nm, cm, Al, nl, cl, At, nt, ct, rfl, hC, _, _, _, _, _, _, _, _, _, _, _⟩ := hI.rd.open_
 obtain ⟨Ec, ec, fc, Ev, ev', fv, rfl, hCe, hVa, _, _, _, _⟩ := hE.open_
 have S := St.refl w0
 have l1 := ho.len
 have l2 : en.values.length = en.cells.length := ho.even
 have l3 : en.cells.length ≠ 0 := fun h => ho.some_ (List.length_eq_zero_iff.1 h)
 refine a0a Tryz.func158 rfl Tryz.ntmps158 rfl ?_
 refine wO0 rfl ⟨⟩ (j0a S (by conv => lhs; whnf) rfl ?_)
 intro g2 w2 S2 X2 G2
 refine j0a S2 (by conv => lhs; whnf) rfl ?_
 intro g3 w3 S3 X3 G3
 refine lB S3.k [.o 0] rfl ⟨rfl,⟨⟩⟩ (fun h11 => by exfalso; omega) fun h11 => ?_
 refine lB S3.k [.o 0,.o 1] rfl ⟨rfl,rfl,⟨⟩⟩ (fun h19 => by exfalso; omega) fun h19 => ?_
 refine lB S3.k [.o 0,.o 0] rfl ⟨rfl,rfl,⟨⟩⟩ (fun h28 => by exfalso; omega) fun h28 => ?_
 refine lC S3.k [.o 0] rfl ⟨rfl,⟨⟩⟩ (wL (fun μk D ε w => D = [] ∧ ∃ k : Nat, (k + μk = (en.cells.length)) ∧ St [] w0 w [(some g3, 81, [.slice Ec ec fc, .slice Ev ev' fv]), (some g2, 27, [.slice Ac nc cc, .slice Am nm cm, .slice Al nl cl, .slice At nt ct])] ∧ Sl ε [(2, .pointer (some ⟨g2, 0, none⟩)), (3, .pointer (some ⟨g3, 0, none⟩)), (31, .slice Ec ec fc), (32, .int .i64 ec), (33, .int .i64 k)]) (μ := (en.cells.length)) ⟨rfl, 0, by omega, S3, rfl⟩ ?_)
 rintro μk D ε w ⟨rfl, k, _, S, eZ⟩
 refine wK eZ (wB0 rfl ⟨⟩ (fun h34 => ?_) fun h34 => ?_)
 ·obtain ⟨x, b36, p36, _, hxx, hA36, _, _, hc36, hr36⟩ := RdS.get (hCe) (k) (by omega)
  obtain ⟨rfl, _⟩ := id hr36
  have q1 := ho.cells k x hxx
  obtain ⟨q2, q3, q4⟩ := q1
  unfold t2a at q2
  have hCe2 : RdI M w0 (.slice (some ⟨b36, p36, none⟩) ec fc) en.cells := hA36 ▸ hCe
  refine lB (S.k.a hc36) [.x b36 p36,.f 0 0] rfl ⟨rfl,⟨hA36,by omega⟩,⟨⟩⟩ (fun h39 => by exfalso; omega) fun h39 => ?_
  refine lB S.k [.o 1] rfl ⟨rfl,⟨⟩⟩ (fun h45 => by exfalso; omega) fun h45 => ?_
  refine lO S.k [.o 0] rfl ⟨rfl,⟨⟩⟩ ?_
  refine h4c (k := k) Y0a.slT (show _ = Value.slice (some ⟨b36, p36, none⟩) ec fc by rw [← hA36]; rfl) rfl (by have := hCe.len; omega) hCe.len.2.1 rfl ?_
  refine lO0 rfl ⟨⟩ (g0a S U7b rfl rfl ((s8a M _ _ (en.cells.take k) x (RdS.take (hCe2.keep (S.keep0 M)) k (by omega))).mono (fun v w' h => ⟨h.1.trans (by rw [decide_eq_false (O2c ho.once hxx)]), h.2⟩)) ?_)
  intro w53 S53 X53
  obtain ⟨cl', b58, p58, _, hxcl', hA58, _, hl58, hc58, hr58⟩ := RdS.get (hC) (x.toNat) (by omega)
  obtain ⟨rfl, _, _, _, _⟩ := Z2a.open_ hr58
  rw [f1a hxcl'] at q3
  rw [C2a hxcl'] at q4
  have q5 := (hI.ok.cells cl' (c0a hxcl')).w
  refine lO (S53.k.a hc58) [.o 1,.x b58 p58,.v 0] rfl ⟨⟨rfl,hl58⟩,⟨hA58,by omega⟩,rfl,⟨⟩⟩ (n0a S53 U9b rfl rfl ?_)
  intro g7 w7 S7 X7 G7
  refine e0a (kk := 0) (vs := [_, _, _, _, _, _]) S7 r9b rfl rfl rfl rfl rfl rfl rfl ?_
  intro w8_6 S8_6 X8_6
  dsimp only [k0a, List.set] at S8_6
  refine lC0 rfl ⟨⟩ (D0a b0a [0, 1, 2, 3, 4, 5, 6, 7, 8, 9, 10, 11, 12, 13, 14, 15, 16, 17, 18, 19, 20, 21, 22, 23, 24, 25, 26, 27, 28] [] [] (by kernel_rfl) rfl (Cl _ _ _ _) (Cl.start S8_6) ?_)
  refine qB S8_6.q [.o 0] rfl ⟨rfl,⟨⟩⟩ (fun h62 => by exfalso; omega) fun h62 => ?_
  refine qO0 rfl ⟨⟩ ?_
  rcases (Bool.eq_false_or_eq_true (cl'.ghost)).symm with hb65 | hb65
  ·refine h0a B2a rfl (fun w1 hw => by exact (hw.1.cell 0 rfl rfl).trans (congrArg (fun b => some (Value.bool b)) hb65)) rfl ?_
   refine qB0 rfl ⟨⟩ (fun h67 => ?_) fun h67 => ?_
   ·refine qD rfl ⟨⟩ ?_
    rintro wR9 ⟨SR9, XR9⟩
    refine lR0 rfl ⟨⟩ (r0a rfl (by conv => lhs; whnf) ?_)
    exfalso; rw [hb65] at q4; simp at q4; omega
   obtain ⟨y, b74, p74, c74, hxy, hA74, hM74, hl74, hc74, hr74⟩ := RdS.get (hVa) (k) (by omega)
   obtain ⟨rfl, i174⟩ := id hr74
   have q6 := ho.vals (x, y) (w6b hxx hxy)
   simp only at q6
   rw [A5a q2.1 hxcl', Y4a] at q6
   refine qB (S8_6.q.a hc74) [.o 1,.x b74 p74,.f 0 0] rfl ⟨rfl,⟨hA74,by omega⟩,rfl,⟨⟩⟩ (fun h76 => by exfalso; omega) fun h76 => ?_
   refine qO S8_6.q [.o 1] rfl ⟨rfl,⟨⟩⟩ (m0a Y0a.slT rfl (by assumption) rfl (by omega) (by omega) rfl ?_)
   refine qO0 rfl ⟨⟩ (h0a C0a rfl (fun w1 hw => by exact hw.1.old (hc74 0 _ rfl)) rfl ?_)
   refine qO S8_6.q [.o 0] rfl ⟨rfl,⟨⟩⟩ ?_
   rw [show cl'.w = ((cl'.w.toNat : Nat) : Int) by omega]
   refine d3c (n := cl'.w.toNat) rfl (by rfl) (by omega) rfl ?_
   refine qB0 rfl ⟨⟩ (fun h87 => by exfalso; omega) fun h87 => ?_
   refine qD rfl ⟨⟩ ?_
   rintro wR9 ⟨SR9, XR9⟩
   refine lP0 rfl ⟨by omega,⟨⟩⟩ ⟨μk - 1, by omega, rfl, (k + 1), (by omega), SR9.tail, rfl⟩
  refine h0a B2a rfl (fun w1 hw => by exact (hw.1.cell 0 rfl rfl).trans (congrArg (fun b => some (Value.bool b)) hb65)) rfl ?_
  refine qB0 rfl ⟨⟩ (fun h67 => ?_) fun h67 => ?_
  ·obtain ⟨y, b74, p74, c74, hxy, hA74, hM74, hl74, hc74, hr74⟩ := RdS.get (hVa) (k) (by omega)
   obtain ⟨rfl, i174⟩ := id hr74
   have q6 := ho.vals (x, y) (w6b hxx hxy)
   simp only at q6
   rw [A5a q2.1 hxcl', Y4a] at q6
   refine qB (S8_6.q.a hc74) [.o 1,.x b74 p74,.f 0 0] rfl ⟨rfl,⟨hA74,by omega⟩,rfl,⟨⟩⟩ (fun h76 => by exfalso; omega) fun h76 => ?_
   refine qO S8_6.q [.o 1] rfl ⟨rfl,⟨⟩⟩ (m0a Y0a.slT rfl (by assumption) rfl (by omega) (by omega) rfl ?_)
   refine qO0 rfl ⟨⟩ (h0a C0a rfl (fun w1 hw => by exact hw.1.old (hc74 0 _ rfl)) rfl ?_)
   refine qO S8_6.q [.o 0] rfl ⟨rfl,⟨⟩⟩ ?_
   rw [show cl'.w = ((cl'.w.toNat : Nat) : Int) by omega]
   refine d3c (n := cl'.w.toNat) rfl (by rfl) (by omega) rfl ?_
   refine qB0 rfl ⟨⟩ (fun h87 => by exfalso; omega) fun h87 => ?_
   refine qD rfl ⟨⟩ ?_
   rintro wR9 ⟨SR9, XR9⟩
   refine lP0 rfl ⟨by omega,⟨⟩⟩ ⟨μk - 1, by omega, rfl, (k + 1), (by omega), SR9.tail, rfl⟩
  refine qD rfl ⟨⟩ ?_
  rintro wR9 ⟨SR9, XR9⟩
  refine lR0 rfl ⟨⟩ (r0a rfl (by conv => lhs; whnf) ?_)
  exfalso; rw [hb65] at q4; simp at q4; omega
 exact lT rfl ⟨⟩ rfl ⟨rfl, S.fin⟩
theorem A0b (p : f0a) (c : q0a) (M : List Nat) (w0 : World) (cs xs : List Value) (hI : InP p M w0 cs) (hX : t0a M w0 c xs) (hf : D3a p c) :
 M0a Tryz.prog 140 #[.agg cs.toArray, .agg xs.toArray] w0 fun v w' => v = .bool true ∧ Below w0.heap.size w0 w' := by
 obtain ⟨Ac, nc, cc, Am, nm, cm, Al, nl, cl, At, nt, ct, rfl, hC, _, _, hTh, _, _, _, _, _, _, _, _⟩ := hI.rd.open_
 obtain ⟨Xm, xm, ym, Xa, xa, ya, Xb, xb, yb, rfl, hMem, hAt, hBuf, _, _, hxb, _, _, _⟩ := hX.open_
 have S := St.refl w0
 have f1 := hf.mem.len
 have f2 := hf.nat
 have f3 := hf.nbuf
 refine a0a Tryz.func140 rfl Tryz.ntmps140 rfl ?_
 refine wO0 rfl ⟨⟩ (j0a S (by conv => lhs; whnf) rfl ?_)
 intro g2 w2 S2 X2 G2
 refine j0a S2 (by conv => lhs; whnf) rfl ?_
 intro g3 w3 S3 X3 G3
 refine lB S3.k [.o 0,.o 1] rfl ⟨rfl,rfl,⟨⟩⟩ (fun h18 => by exfalso; omega) fun h18 => ?_
 refine lB S3.k [.o 0,.o 1] rfl ⟨rfl,rfl,⟨⟩⟩ (fun h26 => by exfalso; omega) fun h26 => ?_
 refine lB S3.k [.o 0,.o 1] rfl ⟨rfl,rfl,⟨⟩⟩ (fun h35 => by exfalso; omega) fun h35 => ?_
 refine lC S3.k [.o 0] rfl ⟨rfl,⟨⟩⟩ (wL (fun μk D ε w => D = [] ∧ ∃ k : Nat, (k + μk = (c.mem.length)) ∧ St [] w0 w [(some g3, 38, [.slice Xm xm ym, .slice Xa xa ya, .slice Xb xb yb]), (some g2, 27, [.slice Ac nc cc, .slice Am nm cm, .slice Al nl cl, .slice At nt ct])] ∧ Sl ε [(2, .pointer (some ⟨g2, 0, none⟩)), (3, .pointer (some ⟨g3, 0, none⟩)), (38, .slice Xm xm ym), (39, .int .i64 xm), (40, .int .i64 k)]) (μ := (c.mem.length)) ⟨rfl, 0, by omega, S3, rfl⟩ ?_)
 rintro μk D ε w ⟨rfl, k, hk, S, eZ⟩
 refine wK eZ (wB0 rfl ⟨⟩ (fun h41 => ?_) fun h41 => ?_)
 ·obtain ⟨v, b43, p43, _, hxv, hA43, _, _, hc43, hr43⟩ := RdS.get (hMem) (k) (by omega)
  obtain ⟨rfl, _⟩ := id hr43
  have q1 := hf.mem.vals k v hxv
  refine lB (S.k.a hc43) [.x b43 p43,.f 0 0] rfl ⟨rfl,⟨hA43,by omega⟩,⟨⟩⟩ (fun h46 => by exfalso; omega) fun h46 => ?_
  obtain ⟨x, b52, p52, _, hxx, hA52, _, _, hc52, hr52⟩ := RdS.get (hC) (k) (by omega)
  obtain ⟨rfl, _, _, _, _⟩ := Z2a.open_ hr52
  have q2 := (hI.ok.cells x (c0a hxx)).w
  rw [W9c hxx, Y4a] at q1
  refine lO (S.k.a hc52) [.o 1,.x b52 p52,.f 0 1] rfl ⟨rfl,⟨hA52,by omega⟩,rfl,⟨⟩⟩ ?_
  rw [show x.w = ((x.w.toNat : Nat) : Int) by omega]
  refine x3c (n := x.w.toNat) rfl (by rfl) (by omega) rfl ?_
  refine lB0 rfl ⟨⟩ (fun h56 => by exfalso; omega) fun h56 => ?_
  refine lP0 rfl ⟨by omega,⟨⟩⟩ ⟨μk - 1, by omega, rfl, (k + 1), (by omega), S, rfl⟩
 refine lC S.k [.o 0] rfl ⟨rfl,⟨⟩⟩ (wL (fun μk D ε w => D = [] ∧ ∃ k : Nat, (k + μk = (c.at_.length)) ∧ St [] w0 w [(some g3, 38, [.slice Xm xm ym, .slice Xa xa ya, .slice Xb xb yb]), (some g2, 27, [.slice Ac nc cc, .slice Am nm cm, .slice Al nl cl, .slice At nt ct])] ∧ Sl ε [(2, .pointer (some ⟨g2, 0, none⟩)), (3, .pointer (some ⟨g3, 0, none⟩)), (60, .slice Xa xa ya), (61, .int .i64 xa), (62, .int .i64 k)]) (μ := (c.at_.length)) ⟨rfl, 0, by omega, S, rfl⟩ ?_)
 rintro μk D ε w ⟨rfl, k, hk, S, eZ⟩
 refine wK eZ (wB0 rfl ⟨⟩ (fun h63 => ?_) fun h63 => ?_)
 ·obtain ⟨v, b65, p65, _, hxv, hA65, _, _, hc65, hr65⟩ := RdS.get (hAt) (k) (by omega)
  obtain ⟨rfl, _⟩ := id hr65
  obtain ⟨th, b70, p70, _, hxth, hA70, _, hl70, hc70, hr70⟩ := RdS.get (hTh) (k) (by omega)
  obtain ⟨Aa70, na70, ca70, Am70, nm70, cm70, As70, ns70, cs70, Al70, nl70, cl70, rfl, _, _, _, _, _, _, _, _, _, _, _, _, _⟩ := N0a.open_ hr70
  have q1 := hf.atr k v hxv th hxth
  refine lO ((S.k.a hc70).a hc65) [.x b65 p65,.f 0 0,.o 1,.x b70 p70,.v 1] rfl ⟨⟨rfl,hl70⟩,⟨hA70,by omega⟩,rfl,rfl,⟨hA65,by omega⟩,⟨⟩⟩ (n0a S b3b rfl rfl ?_)
  intro g9 w9 S9 X9 G9
  refine e0a (kk := 0) (vs := [_, _, _, _, _, _, _]) S9 H2b rfl rfl rfl rfl rfl rfl rfl ?_
  intro w12_6 S12_6 X12_6
  dsimp only [k0a, List.set] at S12_6
  refine lB0 rfl ⟨⟩ (fun h73 => by exfalso; omega) fun h73 => ?_
  refine lB S12_6.k [.o 0] rfl ⟨rfl,⟨⟩⟩ (fun h78 => by exfalso; omega) fun h78 => ?_
  obtain ⟨b, b84, p84, _, hxb, hA84, _, _, hc84, hr84⟩ := RdS.get (hBuf) (k) (by omega)
  obtain ⟨_, _, _, rfl, _, _, _⟩ := s5a.open_ hr84
  have q3 := hf.bufs k b hxb
  refine lB (S12_6.k.a hc84) [.o 1,.x b84 p84,.f 0 0] rfl ⟨rfl,⟨hA84,by omega⟩,rfl,⟨⟩⟩ (fun h87 => by exfalso; omega) fun h87 => ?_
  refine lB0 rfl ⟨⟩ (fun h90 => ?_) fun h90 => ?_
  ·refine lO0 rfl ⟨⟩ ?_
   cases hb93 : th.asleep
   ·refine s0a B2a rfl (by exact (S12_6.cell 0 rfl rfl).trans (congrArg (fun b => some (Value.bool b)) hb93)) rfl ?_
    rw [q1.2.2 (by omega)] at hb93
    refine lR0 rfl ⟨⟩ (r0a rfl (by conv => lhs; whnf) ?_)
    cases hb93
   refine s0a B2a rfl (by exact (S12_6.cell 0 rfl rfl).trans (congrArg (fun b => some (Value.bool b)) hb93)) rfl ?_
   rw [q1.2.2 (by omega)] at hb93
   have q4 := q3.2.2 (by rw [hxv]; exact congrArg some (by omega))
   have q4 : b.length = 0 := by rw [q4]; rfl
   obtain ⟨_, b99, p99, _, hx99, hA99, _, _, hc99, hr99⟩ := RdS.get (hBuf) (k) (by omega)
   obtain rfl := Option.some.inj (hxb.symm.trans hx99)
   obtain ⟨_, _, _, rfl, _, _, _⟩ := s5a.open_ hr99
   refine lB (S12_6.k.a hc99) [.o 1,.x b99 p99,.f 0 0] rfl ⟨rfl,⟨hA99,by omega⟩,rfl,⟨⟩⟩ (fun h102 => by exfalso; omega) fun h102 => ?_
   obtain ⟨x108, b108, p108, c108, hx108, hA108, hM108, hl108, hc108, hr108⟩ := RdS.get (hBuf) (k) (by omega)
   obtain rfl := Option.some.inj (hxb.symm.trans hx108)
   obtain ⟨Ab108, nb108, cb108, rfl, hBu108, hnb108, bb108⟩ := s5a.open_ hr108
   refine lC (S12_6.k.a hc108) [.o 1,.x b108 p108,.f 0 0] rfl ⟨rfl,⟨hA108,by omega⟩,rfl,⟨⟩⟩ (wL (fun μj D ε w => D = [] ∧ ∃ j : Nat, (j + μj = (b.length)) ∧ St [] w0 w [(some g9, 86, [.string th.name, .int .i64 th.points, .slice Aa70 na70 ca70, .slice Am70 nm70 cm70, .slice As70 ns70 cs70, .slice Al70 nl70 cl70, .bool th.asleep]), (some g3, 38, [.slice Xm xm ym, .slice Xa xa ya, .slice Xb xb yb]), (some g2, 27, [.slice Ac nc cc, .slice Am nm cm, .slice Al nl cl, .slice At nt ct])] ∧ Sl ε [(2, .pointer (some ⟨g2, 0, none⟩)), (3, .pointer (some ⟨g3, 0, none⟩)), (60, .slice Xa xa ya), (61, .int .i64 xa), (62, .int .i64 k), (109, .slice Ab108 nb108 cb108), (110, .int .i64 nb108), (111, .int .i64 j)]) (μ := (b.length)) ⟨rfl, 0, by omega, S12_6, rfl⟩ ?_)
   rintro μj D ε w ⟨rfl, j, hj, S, eZ⟩
   refine wK eZ (wB0 rfl ⟨⟩ (fun h112 => ?_) fun h112 => ?_)
   ·obtain ⟨en, b113, p113, c113, hxen, hA113, hM113, hl113, hc113, hr113⟩ := RdS.get (hBu108) (j) (by omega)
    obtain ⟨Ac113, nc113, cc113, Av113, nv113, cv113, rfl, hCe113, hVa113, hnc113, hnv113, bc113, bv113⟩ := V0a.open_ hr113
    have q5 := q3.2.1 en (c0a hxen)
    refine lO (S.k.a hc113) [.x b113 p113,.v 0] rfl ⟨⟨rfl,hl113⟩,⟨hA113,by omega⟩,⟨⟩⟩ (n0a S n9a rfl rfl ?_)
    intro g11 w11 S11 X11 G11
    refine e0a (kk := 0) (vs := [_, _]) S11 Z9a rfl rfl rfl rfl rfl rfl rfl ?_
    intro w19_3 S19_3 X19_3
    dsimp only [k0a, List.set] at S19_3
    refine lO S19_3.k [.w 3,.w 0] rfl ⟨⟨rfl,by rfl⟩,⟨rfl,rfl⟩,⟨⟩⟩ (g0a S19_3 B9b rfl rfl (a3b p en M _ _ _ (hI.keep (S19_3.keep0 M)) (V0a.keep (S19_3.keep0 M) _ _ hr113) q5) ?_)
    intro w117 S117 X117
    refine lP0 rfl ⟨by omega,⟨⟩⟩ ⟨μj - 1, by omega, rfl, (j + 1), (by omega), S117.tail, rfl⟩
   refine lP0 rfl ⟨by omega,⟨⟩⟩ ⟨μk - 1, by omega, rfl, (k + 1), (by omega), S.tail, rfl⟩
  obtain ⟨x108, b108, p108, c108, hx108, hA108, hM108, hl108, hc108, hr108⟩ := RdS.get (hBuf) (k) (by omega)
  obtain rfl := Option.some.inj (hxb.symm.trans hx108)
  obtain ⟨Ab108, nb108, cb108, rfl, hBu108, hnb108, bb108⟩ := s5a.open_ hr108
  refine lC (S12_6.k.a hc108) [.o 1,.x b108 p108,.f 0 0] rfl ⟨rfl,⟨hA108,by omega⟩,rfl,⟨⟩⟩ (wL (fun μj D ε w => D = [] ∧ ∃ j : Nat, (j + μj = (b.length)) ∧ St [] w0 w [(some g9, 86, [.string th.name, .int .i64 th.points, .slice Aa70 na70 ca70, .slice Am70 nm70 cm70, .slice As70 ns70 cs70, .slice Al70 nl70 cl70, .bool th.asleep]), (some g3, 38, [.slice Xm xm ym, .slice Xa xa ya, .slice Xb xb yb]), (some g2, 27, [.slice Ac nc cc, .slice Am nm cm, .slice Al nl cl, .slice At nt ct])] ∧ Sl ε [(2, .pointer (some ⟨g2, 0, none⟩)), (3, .pointer (some ⟨g3, 0, none⟩)), (60, .slice Xa xa ya), (61, .int .i64 xa), (62, .int .i64 k), (109, .slice Ab108 nb108 cb108), (110, .int .i64 nb108), (111, .int .i64 j)]) (μ := (b.length)) ⟨rfl, 0, by omega, S12_6, rfl⟩ ?_)
  rintro μj D ε w ⟨rfl, j, hj, S, eZ⟩
  refine wK eZ (wB0 rfl ⟨⟩ (fun h112 => ?_) fun h112 => ?_)
  ·obtain ⟨en, b113, p113, c113, hxen, hA113, hM113, hl113, hc113, hr113⟩ := RdS.get (hBu108) (j) (by omega)
   obtain ⟨Ac113, nc113, cc113, Av113, nv113, cv113, rfl, hCe113, hVa113, hnc113, hnv113, bc113, bv113⟩ := V0a.open_ hr113
   have q5 := q3.2.1 en (c0a hxen)
   refine lO (S.k.a hc113) [.x b113 p113,.v 0] rfl ⟨⟨rfl,hl113⟩,⟨hA113,by omega⟩,⟨⟩⟩ (n0a S n9a rfl rfl ?_)
   intro g11 w11 S11 X11 G11
   refine e0a (kk := 0) (vs := [_, _]) S11 Z9a rfl rfl rfl rfl rfl rfl rfl ?_
   intro w19_3 S19_3 X19_3
   dsimp only [k0a, List.set] at S19_3
   refine lO S19_3.k [.w 3,.w 0] rfl ⟨⟨rfl,by rfl⟩,⟨rfl,rfl⟩,⟨⟩⟩ (g0a S19_3 B9b rfl rfl (a3b p en M _ _ _ (hI.keep (S19_3.keep0 M)) (V0a.keep (S19_3.keep0 M) _ _ hr113) q5) ?_)
   intro w117 S117 X117
   refine lP0 rfl ⟨by omega,⟨⟩⟩ ⟨μj - 1, by omega, rfl, (j + 1), (by omega), S117.tail, rfl⟩
  refine lP0 rfl ⟨by omega,⟨⟩⟩ ⟨μk - 1, by omega, rfl, (k + 1), (by omega), S.tail, rfl⟩
 exact lT rfl ⟨⟩ rfl ⟨rfl, S.fin⟩
theorem Y7b (p : f0a) (c : q0a) (m : Int) (hm : m = 1 ∨ m = 2) (M : List Nat) (w0 : World) (cs xs : List Value) (hI : InP p M w0 cs) (hX : t0a M w0 c xs) (hf : D3a p c) :
 M0a Tryz.prog 106 #[.agg cs.toArray, .int .i64 m, .agg xs.toArray] w0 fun v w' => v = .tuple #[.agg (xs ++ (cs ++ [Value.int .i64 m])).toArray, .bool true] ∧ Below w0.heap.size w0 w' := by
 obtain ⟨_, _, _, _, _, _, _, _, _, _, _, _, rfl, _, _, _, _, _, _, _, _, _, _, _, _⟩ := hI.rd.open_
 obtain ⟨_, _, _, _, _, _, _, _, _, rfl, _, _, _, _, _, _, _, _, _⟩ := hX.open_
 have S := St.refl w0
 refine a0a Tryz.func106 rfl Tryz.ntmps106 rfl ?_
 refine wO0 rfl ⟨⟩ (j0a S (by conv => lhs; whnf) rfl ?_)
 intro g3 w3 S3 X3 G3
 refine j0a S3 (by conv => lhs; whnf) rfl ?_
 intro g5 w5 S5 X5 G5
 refine n0a S5 N7b rfl rfl ?_
 intro g6 w6 S6 X6 G6
 refine lB0 rfl ⟨⟩ (fun h9 => ?_) fun h9 => ?_
 ·refine lB0 rfl ⟨⟩ (fun h12 => by exfalso; omega) fun h12 => ?_
  refine lO S6.k [.w 2] rfl ⟨⟨rfl,by rfl⟩,⟨⟩⟩ (g0a S6 q0c rfl rfl (G9a p M _ _ (hI.keep (S6.keep0 M))) ?_)
  intro w16 S16 X16
  refine lO S16.k [.w 2,.w 1] rfl ⟨⟨rfl,by rfl⟩,⟨rfl,by rfl⟩,⟨⟩⟩ (g0a S16 J9b rfl rfl (A0b p c M _ _ _ (hI.keep (S16.keep0 M)) (hX.keep (S16.keep0 M)) hf) ?_)
  intro w22 S22 X22
  refine lO S22.k [.w 1,.w 2] rfl ⟨⟨rfl,by rfl⟩,⟨rfl,by rfl⟩,⟨⟩⟩ (i1a x0c (vs := [(0, .agg _), (1, .agg _), (2, .int .i64 _)]) (cs := [_, _, _, _, _, _, _, _]) rfl rfl rfl rfl ?_)
  refine e0a (kk := 0) (vs := [_, _, _, _, _, _, _, _]) S22 k6b rfl rfl rfl rfl rfl rfl rfl ?_
  intro w3_4 S3_4 X3_4
  dsimp only [k0a, List.set] at S3_4
  exact lR0 rfl ⟨⟩ (k4a (n := 8) rfl Y5a rfl (S3_4.cells 0 rfl) rfl rfl ⟨rfl, S3_4.fin⟩)
 refine lO S6.k [.w 2] rfl ⟨⟨rfl,by rfl⟩,⟨⟩⟩ (g0a S6 q0c rfl rfl (G9a p M _ _ (hI.keep (S6.keep0 M))) ?_)
 intro w16 S16 X16
 refine lO S16.k [.w 2,.w 1] rfl ⟨⟨rfl,by rfl⟩,⟨rfl,by rfl⟩,⟨⟩⟩ (g0a S16 J9b rfl rfl (A0b p c M _ _ _ (hI.keep (S16.keep0 M)) (hX.keep (S16.keep0 M)) hf) ?_)
 intro w22 S22 X22
 refine lO S22.k [.w 1,.w 2] rfl ⟨⟨rfl,by rfl⟩,⟨rfl,by rfl⟩,⟨⟩⟩ (i1a x0c (vs := [(0, .agg _), (1, .agg _), (2, .int .i64 _)]) (cs := [_, _, _, _, _, _, _, _]) rfl rfl rfl rfl ?_)
 refine e0a (kk := 0) (vs := [_, _, _, _, _, _, _, _]) S22 k6b rfl rfl rfl rfl rfl rfl rfl ?_
 intro w3_4 S3_4 X3_4
 dsimp only [k0a, List.set] at S3_4
 exact lR0 rfl ⟨⟩ (k4a (n := 8) rfl Y5a rfl (S3_4.cells 0 rfl) rfl rfl ⟨rfl, S3_4.fin⟩)
section
variable {P : Program} {r : Option Nat} {N : Nat} {D : List Deferred} {e : Env} {w w0 : World} {ops : Array Oper} {rest : List Oper} {K : List Deferred → Env → World → Prop} {L : List Ent} {M : List Nat}
variable {d : Nat} {t : TypeId} {p : String} {af : Array Edge} {x y : Operand} {yt : TypeId}
theorem y1c {ty size n c : Nat} {A : Option Addr} (hT : SlT P ty size) (hx : ev e x = .slice A n c) (hy : ev e y = .slice none 0 0) (hd : Nat.ble (d + 1) N = true)
 (h1 : A = none → WL P r N ops rest K D (upd e d (.bool true)) w) (h2 : A.isSome = true → WL P r N ops rest K D (upd e d (.bool false)) w) :
 WL P r N ops (⟨some d, .binOp .eql ty x y yt, t, p, af, none⟩ :: rest) K D e w := by
 obtain ⟨el, hu, _⟩ := m5a hT
 have hr := Lib.run_eql_slice_nil (P := P) w ty el A n c 0 0 hu
 cases A with
 | none => exact c1a rfl rfl hd (by simp) (by simp [execOp, hx, hy, eqGuard, hr]) (h1 rfl)
 | some a => exact c1a rfl rfl hd (by simp) (by simp [execOp, hx, hy, eqGuard, hr]) (h2 rfl)
end
theorem C3a.pad {G : Option Nat} {n : Nat} {cs : List Value} {v : Value} {l : List Int} (h : C3a G 1 n cs v (l.map (Value.int .i64))) (h0 : 0 < l.length) : ∃ g pad, G = some g ∧ v = .slice (some ⟨g, 0, none⟩) l.length (l.length + pad.length) ∧ cs = l.map (Value.int .i64) ++ pad ∧ l.length + pad.length ≤ maxLen := by
 obtain ⟨h1, h2⟩ := h
 simp only [List.length_map, Nat.mul_one] at h1
 rcases h2 with ⟨_, _, h2⟩ | ⟨g, cap, rfl, rfl, h3, h4, h5, h6⟩
 ·omega
 ·simp only [Nat.mul_one] at h5 h6
  refine ⟨g, cs.drop n, rfl, ?_, ?_, ?_⟩
  ·rw [List.length_drop, h5, h1]; congr 1; omega
  ·rw [← h6, List.take_append_drop]
  ·rw [List.length_drop, h5, h1]; omega
theorem C3a.ofPad {g : Nat} {l : List Int} {pad : List Value} (h : l.length + pad.length ≤ maxLen) : C3a (some g) 1 l.length (l.map (Value.int .i64) ++ pad) (.slice (some ⟨g, 0, none⟩) l.length (l.length + pad.length)) (l.map (Value.int .i64)) :=
 ⟨by simp, .inr ⟨g, _, rfl, rfl, by omega, h, by simp, by simp⟩⟩
def Z4a (mem : List Int) (e : G0a) (k : Nat) : List Int := ((e.cells.zip e.values).take k).foldl (fun m x => m.set x.1.toNat x.2) mem
theorem r2b (mem : List Int) (e : G0a) : Z4a mem e 0 = mem := by simp [Z4a]
theorem g4b (mem : List Int) (e : G0a) {k : Nat} (h : e.cells.length ≤ k) : Z4a mem e k = g3a mem e := by
 unfold Z4a g3a; rw [List.take_of_length_le (by rw [List.length_zip]; omega)]
theorem w3b {mem : List Int} {e : G0a} {k : Nat} {x y : Int} (hx : e.cells[k]? = some x) (hy : e.values[k]? = some y) : Z4a mem e (k + 1) = (Z4a mem e k).set x.toNat y := by
 unfold Z4a
 rw [J0a (x := (x, y)) (by rw [List.getElem?_zip_eq_some]; exact ⟨hx, hy⟩), List.foldl_append]; rfl
theorem D6a : ∀ (l : List (Int × Int)) (mem : List Int), (l.foldl (fun m x => m.set x.1.toNat x.2) mem).length = mem.length
 | [], _ => rfl
 | x :: l, mem => by rw [List.foldl_cons, D6a l, List.length_set]
@[simp] theorem q4c (mem : List Int) (e : G0a) (k : Nat) : (Z4a mem e k).length = mem.length := D6a _ _
@[simp] theorem v7b (mem : List Int) (e : G0a) : (g3a mem e).length = mem.length := D6a _ _
theorem A7a {l : List Int} {pad : List Value} {i : Nat} {y : Int} (hi : i < l.length) : (l.map (Value.int .i64) ++ pad).set i (.int .i64 y) = (l.set i y).map (Value.int .i64) ++ pad := by
 rw [List.set_append_left _ _ (by simpa using hi), List.map_set]
def q5a (c : q0a) (b : List G0a) (k : Nat) : List Int := (b.take k).foldl g3a c.mem
theorem b4b {c : q0a} {b : List G0a} {k : Nat} {e : G0a} (h : b[k]? = some e) : q5a c b (k + 1) = g3a (q5a c b k) e := by
 unfold q5a; rw [J0a h, List.foldl_append]; rfl
theorem G0b {c : q0a} {t : Nat} {b : List G0a} (h : c.buf[t]? = some b) {k : Nat} (hk : b.length ≤ k) : q5a c b k = B1a c t := by
 unfold q5a B1a; rw [List.take_of_length_le hk, getD_some h]
theorem I2b : ∀ (l : List G0a) (m : List Int), (l.foldl g3a m).length = m.length
 | [], _ => rfl
 | x :: l, m => by rw [List.foldl_cons, I2b l, v7b]
@[simp] theorem E6c (c : q0a) (b : List G0a) (k : Nat) : (q5a c b k).length = c.mem.length := I2b _ _
theorem z0c {p : f0a} {c : q0a} (hf : D3a p c) {b : List G0a} (hb : ∀ e ∈ b, U9a p e) (k : Nat) : X4a p (q5a c b k) := by
 unfold q5a
 have key : ∀ (l : List G0a) (m : List Int), X4a p m → (∀ e ∈ l, U9a p e) → X4a p (l.foldl g3a m) := by
  intro l
  induction l with
  | nil => intro m h _; exact h
  | cons e l ih => intro m h hl; rw [List.foldl_cons]; exact ih _ (h.write (hl e (by simp))) fun x hx => hl x (by simp [hx])
 exact key _ _ hf.mem fun e he => hb e (List.mem_of_mem_take he)
theorem f7a (M : List Nat) (w0 : World) (v : Value) (l : List Int) (hR : RdI M w0 v l) (hl : l.length ≤ 100000000) :
 M0a Tryz.prog 141 #[v] w0 fun v w' => h3b 3 w0 w' v l ∧ Below w0.heap.size w0 w' := by
 obtain ⟨_, n, _, rfl⟩ := hR.form
 obtain ⟨_, _, _⟩ := hR.len
 have S := St.refl w0
 refine a0a Tryz.func141 rfl Tryz.ntmps141 rfl ?_
 refine wOn 9 S.k [] rfl ⟨⟩ (y1c Y0a.slT rfl rfl rfl (fun h4 => ?_) fun h4 => ?_)
 ·refine lR0 rfl ⟨⟩ (r0a rfl (by conv => lhs; whnf) ?_)
  subst h4; obtain ⟨A', n', c', he, h1, h2, h3, h5, h6⟩ := hR; cases he
  have h0 : l.length = 0 := by
   rcases Nat.eq_zero_or_pos n with h | h
   ·omega
   ·obtain ⟨_, _, h7, _⟩ := h6 h; cases h7
  obtain rfl := List.length_eq_zero_iff.1 h0
  exact ⟨⟨none, [], C3a.nil 1, fun g hg => by cases hg⟩, S.fin⟩
 refine lO0 rfl ⟨⟩ (e2b S Y0a rfl ?_)
 intro g5 w5 S5 X5 G5
 refine lO0 rfl ⟨⟩ (H5a (k := 0) (xs := []) S5 Y0a rfl C3a.new rfl rfl (hR.keep (S5.keep0 M)) (by simpa using hl) (by decide) rfl ?_)
 intro v7 G7 cs7 w7 S7 R7 X7
 refine T0a (by conv => lhs; whnf) rfl ?_
 refine lT rfl ⟨⟩ rfl ?_
 refine ⟨⟨G7, cs7, by simpa using R7, fun g hg => ?_⟩, S7.fin⟩; subst hg; exact ⟨by simpa using S7.new 0 rfl, S7.blk 0 rfl⟩
theorem w5b (en : G0a) (mem : List Int) (g cap : Nat) (pad : List Value) (M : List Nat) (w0 : World) (es : List Value) (hE : V0a M w0 es en) (hgM : g ∈ M) (hB : p0a w0 (g, 3, mem.map (Value.int .i64) ++ pad)) (hev : en.even) (hin : ∀ x ∈ en.cells, 0 ≤ x ∧ x < mem.length) :
 M0a Tryz.prog 142 #[.slice (some ⟨g, 0, none⟩) mem.length cap, .agg es.toArray] w0 fun _ w' => p0a w' (g, 3, (g3a mem en).map (Value.int .i64) ++ pad) ∧ v0a [g] w0 w' := by
 obtain ⟨Ec, ec, fc, Ev, ev', fv, rfl, hCe, hVa, _, _, _, _⟩ := hE.open_
 have S := St.borrow1 hB
 have hsub : ∀ x ∈ [g], x ∈ M := fun x hx => by rw [List.mem_singleton] at hx; subst hx; exact hgM
 have hev : en.values.length = en.cells.length := hev
 refine a0a Tryz.func142 rfl Tryz.ntmps142 rfl ?_
 refine wO0 rfl ⟨⟩ (j0a S (by conv => lhs; whnf) rfl ?_)
 intro g3 w3 S3 X3 G3
 refine lC S3.k [.o 0] rfl ⟨rfl,⟨⟩⟩ (wL (fun μk D ε w => D = [] ∧ ∃ k : Nat, (k + μk = (en.cells.length)) ∧ St [g] w0 w [(some g3, 81, [.slice Ec ec fc, .slice Ev ev' fv]), (some g, 3, (Z4a mem en k).map (Value.int .i64) ++ pad)] ∧ Sl ε [(0, .slice (some ⟨g, 0, none⟩) mem.length cap), (3, .pointer (some ⟨g3, 0, none⟩)), (7, .slice Ec ec fc), (8, .int .i64 ec), (9, .int .i64 k)]) (μ := (en.cells.length)) ⟨rfl, 0, by omega, (S3.setEnt 1 rfl (by rw [r2b])), rfl⟩ ?_)
 rintro μk D ε w ⟨rfl, k, _, S, eZ⟩
 refine wK eZ (wB0 rfl ⟨⟩ (fun h10 => ?_) fun h10 => ?_)
 ·obtain ⟨x, b12, p12, _, hxx, hA12, hM12, _, hc12, hr12⟩ := RdS.get (hCe) (k) (by omega)
  obtain ⟨rfl, _⟩ := id hr12
  have q1 := hin x (c0a hxx)
  obtain ⟨_, b19, p19, _, hxy, hA19, hM19, _, hc19, hr19⟩ := RdS.get (hVa) (k) (by omega)
  obtain ⟨rfl, _⟩ := id hr19
  refine lO ((S.k.b (hc19.keep (S.keepM.mono hsub) hM19)).b (hc12.keep (S.keepM.mono hsub) hM12)) [.x b12 p12,.f 0 0,.o 0,.x b19 p19,.f 1 0,.i] rfl ⟨by omega,rfl,⟨hA19,by omega⟩,rfl,rfl,⟨hA12,by omega⟩,⟨⟩⟩ ?_
  first | refine I0a (kk := 1) S V0b rfl (by conv => lhs; whnf) rfl rfl (by (simp; omega)) ?_
  intro w4_8 S4_8 X4_8
  refine lP0 rfl ⟨by omega,⟨⟩⟩ ?_
  refine ⟨μk - 1, by omega, rfl, (k + 1), (by omega), (S4_8.setEnt 1 rfl (by rw [w3b hxx hxy]; simp only [Nat.zero_add, Nat.mul_one]; exact A7a (by simp; omega))), rfl⟩
 refine lF0 rfl ⟨⟩ (K1a rfl ?_)
 have SF := S.setEnt 1 rfl (show _ = (g3a mem en).map (Value.int .i64) ++ pad by rw [g4b _ _ (by omega)])
 exact ⟨SF.blk 1 rfl, SF.below⟩
theorem y1b {o e : G0a} : Z2b o e = true ↔ ∃ c ∈ e.cells, c ∈ o.cells := by
 unfold Z2b
 rw [List.any_eq_true]
 constructor
 ·rintro ⟨x, h1, h2⟩; exact ⟨x, by simpa using h2, h1⟩
 ·rintro ⟨x, h1, h2⟩; exact ⟨x, h2, by simpa using h1⟩
theorem D4c {o e : G0a} (h : ∀ c ∈ e.cells, c ∉ o.cells) : Z2b o e = false := by
 cases hm : Z2b o e with
 | false => rfl
 | true => obtain ⟨c, h1, h2⟩ := y1b.1 hm; exact absurd h2 (h c h1)
section
variable {p : f0a} {m : Int} {c : q0a} {t : Nat} {s : t1a} {a : Int} {b : List G0a} {nb : Nat}
theorem s5c (hx : c.at_[t]? = some a) (h1 : ¬ a = s.frm) : L0a p m c t s = false := by unfold L0a; rw [getD_some hx]; simp [h1]
theorem e1c (h2 : ¬ s.guard.evl (B1a c t) (B1a c t) = 1) : L0a p m c t s = false := by unfold L0a; simp [h2]
theorem R9c (hm : ¬ m = 0) (hx : c.at_[t]? = some a) (h1 : a = s.frm) (h2 : s.guard.evl (B1a c t) (B1a c t) = 1) (hb : c.buf[t]? = some b) (hn : nb = b.length) (hk : s.kind = 3) (hr : s.release = false) : L0a p m c t s = decide ((nb : Int) < 3) := by
 unfold L0a; rw [getD_some hx, getD_some hb]; subst hn; simp [h1, h2, hk, hr, hm]; omega
theorem e8c (hm : ¬ m = 0) (hx : c.at_[t]? = some a) (h1 : a = s.frm) (h2 : s.guard.evl (B1a c t) (B1a c t) = 1) (hb : c.buf[t]? = some b) (hn : nb = b.length) (hk : s.kind = 3) (hr : s.release = true) : L0a p m c t s = decide ((nb : Int) = 0) := by
 unfold L0a; rw [getD_some hx, getD_some hb]; subst hn
 cases b <;> simp [h1, h2, hk, hr, hm]
 omega
theorem S0c (hx : c.at_[t]? = some a) (h1 : a = s.frm) (h2 : s.guard.evl (B1a c t) (B1a c t) = 1) (hb : c.buf[t]? = some b) (hn : nb = b.length) (hk : s.kind = 4 ∨ s.kind = 5) : L0a p m c t s = decide ((nb : Int) = 0) := by
 unfold L0a; rw [getD_some hx, getD_some hb]; subst hn
 rw [if_neg (by omega), if_neg (by omega), if_neg (by omega), if_neg (by omega)]
 cases b <;> simp [h1, h2]
 omega
theorem b0d (hx : c.at_[t]? = some a) (h1 : a = s.frm) (h2 : s.guard.evl (B1a c t) (B1a c t) = 1) (hb : c.buf[t]? = some b) (hn : nb = b.length) (hk : s.kind = 6) {a2 : Int} (hx2 : c.at_[s.target.toNat]? = some a2) : L0a p m c t s = (decide ((nb : Int) = 0) && decide (a2 = -1)) := by
 unfold L0a; rw [getD_some hx, getD_some hb, getD_some hx2]; subst hn
 cases b <;> simp [h1, h2, hk]
 omega
theorem Y6c (hb : c.buf[t]? = some b) (hn : nb = b.length) (hk : s.kind = 6 ∨ s.kind = 7) (h0 : ¬ (nb : Int) = 0) : L0a p m c t s = false := by
 unfold L0a; rw [getD_some hb]; subst hn
 cases b with
 | nil => simp at h0
 | cons e b => rcases hk with hk | hk <;> simp [hk]
theorem a0d (hx : c.at_[t]? = some a) (h1 : a = s.frm) (h2 : s.guard.evl (B1a c t) (B1a c t) = 1) (hb : c.buf[t]? = some b) (hn : nb = b.length) (hk : s.kind = 7) {a2 : Int} (hx2 : c.at_[s.target.toNat]? = some a2) {u : Q0a} (hu : p.threads[s.target.toNat]? = some u) {b2 : List G0a} {nb2 : Nat} (hb2 : c.buf[s.target.toNat]? = some b2) (hn2 : nb2 = b2.length) : L0a p m c t s = (decide ((nb : Int) = 0) && (decide (a2 = u.points - 1) && decide ((nb2 : Int) = 0))) := by
 unfold L0a; rw [getD_some hx, getD_some hb, getD_some hx2, getD_some hu, getD_some hb2]; subst hn; subst hn2
 cases b with
 | nil => cases b2 with
   | nil => simp [h1, h2, hk]
   | cons e b2 => simp [h1, h2, hk]; omega
 | cons e b => simp [h1, h2, hk]; omega
theorem O9c (hk : s.kind = 7) {a2 : Int} (hx2 : c.at_[s.target.toNat]? = some a2) {u : Q0a} (hu : p.threads[s.target.toNat]? = some u) (h0 : ¬ a2 = u.points - 1) : L0a p m c t s = false := by
 unfold L0a; rw [getD_some hx2, getD_some hu]; simp [hk, h0]
theorem F9c (hx : c.at_[t]? = some a) (h1 : a = s.frm) (h2 : s.guard.evl (B1a c t) (B1a c t) = 1) (hk : s.kind = 1 ∨ s.kind = 2) : L0a p m c t s = true := by
 unfold L0a; rw [getD_some hx]
 rw [if_neg (by omega), if_neg (by omega), if_neg (by omega), if_pos hk]
 simp [h1, h2]
end
theorem U9a.i64s {p : f0a} {e : G0a} (h : U9a p e) : ∀ x ∈ e.cells, 0 ≤ x ∧ x < p.cells.length := fun x hx => by
 obtain ⟨i, hi, rfl⟩ := List.getElem_of_mem hx
 exact (h.cells i _ (List.getElem?_eq_getElem hi)).1
theorem J8b (p : f0a) (hp : b1a p) (c : q0a) (t : Nat) (b : List G0a) (M : List Nat) (w0 : World) (hM : ∀ g ∈ M, g < w0.heap.size) (xs : List Value) (hX : t0a M w0 c xs) (hf : D3a p c) (hxb : c.buf[t]? = some b) :
 M0a Tryz.prog 107 #[.agg xs.toArray, .int .i64 t] w0 fun v w' => RdI M w' v (B1a c t) ∧ Below w0.heap.size w0 w' := by
 obtain ⟨Xm, xm, ym, Xa, xa, ya, Xb, xb, yb, rfl, hMem, _, hBuf, _, _, _, _, _, _⟩ := hX.open_
 have S := St.refl w0
 have f1 := hf.mem.len
 have n1 := hp.ncells
 have n2 := hp.nthreads
 have f3 := hf.nbuf
 have ht := S1a hxb
 have hbo := (hf.bufs t b hxb).2.1
 refine a0a Tryz.func107 rfl Tryz.ntmps107 rfl ?_
 refine wO0 rfl ⟨⟩ (j0a S (by conv => lhs; whnf) rfl ?_)
 intro g2 w2 S2 X2 G2
 refine lO S2.k [.o 0] rfl ⟨rfl,⟨⟩⟩ (B0a S2 g9a rfl rfl (f7a M _ _ c.mem (hMem.keep (S2.keep0 M)) (by omega)) ?_)
 rintro v10 w10 hN S10 X10
 obtain ⟨G10, cs10, R10, S10b⟩ := hN.open_ S10 S2
 refine T0a (by conv => lhs; whnf) rfl ?_
 obtain ⟨_, b14, p14, _, hx14, hA14, _, _, hc14, hr14⟩ := RdS.get (hBuf) (t) (by omega)
 obtain rfl := Option.some.inj (hxb.symm.trans hx14)
 obtain ⟨Ab14, nb14, cb14, rfl, hBu14, _, _⟩ := s5a.open_ hr14
 refine lC (S10b.k.a hc14) [.o 1,.x b14 p14,.f 0 0] rfl ⟨rfl,⟨hA14,by omega⟩,rfl,⟨⟩⟩ (wL (fun μk D ε w => D = [] ∧ ∃ k : Nat, ∃ G : Option Nat, ∃ cs' : List Value, (k + μk = (b.length)) ∧ (C3a G 1 c.mem.length cs' v10 ((q5a c b k).map (Value.int .i64))) ∧ St [] w0 w [(G, 3, cs'), (some g2, 38, [.slice Xm xm ym, .slice Xa xa ya, .slice Xb xb yb])] ∧ Sl ε [(5, v10), (15, .slice Ab14 nb14 cb14), (16, .int .i64 nb14), (17, .int .i64 k)]) (μ := (b.length)) ⟨rfl, 0, G10, cs10, by omega, by simpa [q5a] using R10, S10b, rfl⟩ ?_)
 rintro μk D ε w ⟨rfl, k, G, cs', _, hrow, S, eZ⟩
 refine wK eZ (wB0 rfl ⟨⟩ (fun h18 => ?_) fun h18 => ?_)
 ·obtain ⟨en, b19, p19, _, hxen, hA19, _, hl19, hc19, hr19⟩ := RdS.get (hBu14) (k) (by omega)
  obtain ⟨_, _, _, _, _, _, rfl, _, _, _, _, _, _⟩ := V0a.open_ hr19
  have q1 := hbo en (c0a hxen)
  have q2 := q1.i64s
  have q3 : 0 < c.mem.length := by
   have := q1.some_
   cases hcl : en.cells with
   | nil => exact absurd hcl this
   | cons x l => have := q2 x (by rw [hcl]; simp); omega
  refine lO (S.k.a hc19) [.x b19 p19,.v 0] rfl ⟨⟨rfl,hl19⟩,⟨hA19,by omega⟩,⟨⟩⟩ (n0a S n9a rfl rfl ?_)
  intro g7 w7 S7 X7 G7
  refine e0a (kk := 0) (vs := [_, _]) S7 Z9a rfl rfl rfl rfl rfl rfl rfl ?_
  intro w4_3 S4_3 X4_3
  dsimp only [k0a, List.set] at S4_3
  refine lOn 3 S4_3.k [] rfl ⟨⟩ (m1a (by conv => lhs; whnf) rfl ?_)
  refine lO S4_3.k [.w 0] rfl ⟨⟨rfl,by rfl⟩,⟨⟩⟩ ?_
  obtain ⟨g, pad, rfl, hv, rfl, hmx⟩ := hrow.pad (by simpa using q3)
  subst hv
  refine e2a L9b rfl rfl (w5b en (q5a c b k) g _ pad (g :: M) _ _ (V0a.keep (S4_3.keep0 _) _ _ (V0a.more (u1b S4_3 (k := 1) rfl) _ _ hr19)) (by simp) (S4_3.blk 1 rfl) q1.even (fun x hx => by have := q2 x hx; simp; omega)) ?_
  rintro v23 w23 ⟨hb23, B23⟩
  have S23 := S4_3.changed1 1 rfl B23 hb23
  refine lP0 rfl ⟨by omega,⟨⟩⟩ ?_
  refine ⟨μk - 1, by omega, rfl, (k + 1), (some g), (_), (by omega), (by rw [b4b hxen]; have := C3a.ofPad (g := g) (l := g3a (q5a c b k) en) (pad := pad) (by simpa using hmx); simpa using this), S23.tail, rfl⟩
 refine lOn 8 S.k [] rfl ⟨⟩ (m1a (by conv => lhs; whnf) rfl ?_)
 refine T0a (by conv => lhs; whnf) rfl ?_
 refine lR0 rfl ⟨⟩ (r0a rfl (by conv => lhs; whnf) ?_)
 obtain rfl : k = b.length := by omega
 rw [G0b hxb (Nat.le_refl _)] at hrow
 have hok := z0c hf hbo b.length
 rw [G0b hxb (Nat.le_refl _)] at hok
 exact ⟨hrow.rdI S (k := 0) rfl hM (e5a hp hok) (by have := hok.len; omega), S.fin⟩
theorem n7b (old : List G0a) (en : G0a) (M : List Nat) (w0 : World) (v : Value) (es : List Value) (hO : S6c M w0 v old) (hE : V0a M w0 es en) :
 M0a Tryz.prog 144 #[v, .agg es.toArray] w0 fun v w' => v = .bool (old.any fun o => Z2b o en) ∧ Below w0.heap.size w0 w' := by
 obtain ⟨A, n, cc, rfl⟩ := hO.form
 obtain ⟨_, _, _⟩ := hO.len
 obtain ⟨Ec, ec, fc, Ev, ev', fv, rfl, hCe, _, _, _, _, _⟩ := hE.open_
 have S := St.refl w0
 refine a0a Tryz.func144 rfl Tryz.ntmps144 rfl ?_
 refine wO0 rfl ⟨⟩ (j0a S (by conv => lhs; whnf) rfl ?_)
 intro g3 w3 S3 X3 G3
 refine lC0 rfl ⟨⟩ (wL (fun μk D ε w => D = [] ∧ ∃ k : Nat, (k + μk = (old.length)) ∧ (u1a (old) k (fun o => Z2b o en = false)) ∧ St [] w0 w [(some g3, 81, [.slice Ec ec fc, .slice Ev ev' fv])] ∧ Sl ε [(3, .pointer (some ⟨g3, 0, none⟩)), (9, .slice A n cc), (10, .int .i64 n), (11, .int .i64 k)]) (μ := (old.length)) ⟨rfl, 0, by omega, u1a.zero, S3, rfl⟩ ?_)
 rintro μk D ε w ⟨rfl, k, _, ha, S, eZ⟩
 refine wK eZ (wB0 rfl ⟨⟩ (fun h12 => ?_) fun h12 => ?_)
 ·obtain ⟨o, b13, p13, _, hxo, hA13, _, hl13, hc13, hr13⟩ := RdS.get (hO) (k) (by omega)
  obtain ⟨Ac13, nc13, cc13, Av13, nv13, cv13, rfl, hCe13, _, _, _, _, _⟩ := V0a.open_ hr13
  refine lO (S.k.a hc13) [.x b13 p13,.v 0] rfl ⟨⟨rfl,hl13⟩,⟨hA13,by omega⟩,⟨⟩⟩ (n0a S n9a rfl rfl ?_)
  intro g6 w6 S6 X6 G6
  refine e0a (kk := 0) (vs := [_, _]) S6 Z9a rfl rfl rfl rfl rfl rfl rfl ?_
  intro w3_3 S3_3 X3_3
  dsimp only [k0a, List.set] at S3_3
  refine lC S3_3.k [.o 1] rfl ⟨rfl,⟨⟩⟩ (wL (fun μj D ε w => D = [] ∧ ∃ j : Nat, (j + μj = (en.cells.length)) ∧ (u1a (en.cells) j (fun x => x ∉ o.cells)) ∧ St [] w0 w [(some g6, 81, [.slice Ac13 nc13 cc13, .slice Av13 nv13 cv13]), (some g3, 81, [.slice Ec ec fc, .slice Ev ev' fv])] ∧ Sl ε [(3, .pointer (some ⟨g3, 0, none⟩)), (6, .pointer (some ⟨g6, 0, none⟩)), (9, .slice A n cc), (10, .int .i64 n), (11, .int .i64 k), (16, .slice Ec ec fc), (17, .int .i64 ec), (18, .int .i64 j)]) (μ := (en.cells.length)) ⟨rfl, 0, by omega, u1a.zero, S3_3, rfl⟩ ?_)
  rintro μj D ε w ⟨rfl, j, _, hj2, S, eZ⟩
  refine wK eZ (wB0 rfl ⟨⟩ (fun h19 => ?_) fun h19 => ?_)
  ·obtain ⟨x, b20, p20, _, hxx, hA20, _, _, hc20, hr20⟩ := RdS.get (hCe) (j) (by omega)
   obtain ⟨rfl, _⟩ := id hr20
   refine lO (S.k.a hc20) [.x b20 p20,.f 0 0,.o 0] rfl ⟨rfl,rfl,⟨hA20,by omega⟩,⟨⟩⟩ (y0a S U7b rfl rfl (s8a M _ _ o.cells x (hCe13.keep (S.keep0 M))) (fun h25 w25 S25 X25 => ?_) (fun h25 w25 S25 X25 => ?_))
   ·exact lT rfl ⟨⟩ rfl ⟨congrArg Value.bool (Eq.symm (List.any_eq_true.2 ⟨o, c0a hxo, y1b.2 ⟨x, c0a hxx, of_decide_eq_true h25⟩⟩)), S25.fin⟩
   refine lP0 rfl ⟨by omega,⟨⟩⟩ ⟨μj - 1, by omega, rfl, (j + 1), (by omega), (hj2.succ hxx (of_decide_eq_false h25)), S25, rfl⟩
  refine lP0 rfl ⟨by omega,⟨⟩⟩ ⟨μk - 1, by omega, rfl, (k + 1), (by omega), (ha.succ hxo (D4c (hj2.all (by omega)))), S.tail, rfl⟩
 refine lT rfl ⟨⟩ rfl ?_
 refine ⟨congrArg Value.bool ?_, S.fin⟩; symm; rw [List.any_eq_false]; intro o ho; rw [ha.all (by omega) o ho]; simp
theorem Y1c (c : q0a) (M : List Nat) (w0 : World) (xs : List Value) (hX : t0a M w0 c xs) :
 M0a Tryz.prog 65 #[.agg xs.toArray] w0 fun v w' => v = .bool (dec (Q3a c)) ∧ Below w0.heap.size w0 w' := by
 obtain ⟨Xm, xm, ym, Xa, xa, ya, Xb, xb, yb, rfl, _, _, hBuf, _, _, hxb, _, _, _⟩ := hX.open_
 have S := St.refl w0
 refine a0a Tryz.func65 rfl Tryz.ntmps65 rfl ?_
 refine wO0 rfl ⟨⟩ (j0a S (by conv => lhs; whnf) rfl ?_)
 intro g1 w1 S1 X1 G1
 refine lC S1.k [.o 0] rfl ⟨rfl,⟨⟩⟩ (wL (fun μk D ε w => D = [] ∧ ∃ k : Nat, (k + μk = (c.buf.length)) ∧ (u1a (c.buf) k (fun b => b = [])) ∧ St [] w0 w [(some g1, 38, [.slice Xm xm ym, .slice Xa xa ya, .slice Xb xb yb])] ∧ Sl ε [(6, .slice Xb xb yb), (7, .int .i64 xb), (8, .int .i64 k)]) (μ := (c.buf.length)) ⟨rfl, 0, by omega, u1a.zero, S1, rfl⟩ ?_)
 rintro μk D ε w ⟨rfl, k, _, ha, S, eZ⟩
 refine wK eZ (wB0 rfl ⟨⟩ (fun h9 => ?_) fun h9 => ?_)
 ·obtain ⟨b, b10, p10, _, hxb, hA10, _, _, hc10, hr10⟩ := RdS.get (hBuf) (k) (by omega)
  obtain ⟨_, _, _, rfl, _, hnb10, _⟩ := s5a.open_ hr10
  refine lB (S.k.a hc10) [.x b10 p10,.f 0 0] rfl ⟨rfl,⟨hA10,by omega⟩,⟨⟩⟩ (fun h14 => ?_) fun h14 => ?_
  ·refine lT rfl ⟨⟩ rfl ?_
   exact ⟨h1a fun hh => (by have := hh b (c0a hxb); subst this; simp at hnb10; omega), S.fin⟩
  refine lP0 rfl ⟨by omega,⟨⟩⟩ ⟨μk - 1, by omega, rfl, (k + 1), (by omega), (ha.succ hxb (List.length_eq_zero_iff.1 (by omega))), S, rfl⟩
 exact lT rfl ⟨⟩ rfl ⟨N3a (ha.all (by omega)), S.fin⟩
theorem v7a (p : f0a) (c : q0a) (m : Int) (hm : m = 1 ∨ m = 2) (t i : Nat) (th : Q0a) (s : t1a) (M : List Nat) (w0 : World) (cs xs : List Value) (vs : Value) (hI : InP p M w0 cs) (hX : t0a M w0 c xs) (hV : RdI M w0 vs (B1a c t)) (hf : D3a p c) (hxth : p.threads[t]? = some th) (hxs : th.steps[i]? = some s) :
 M0a Tryz.prog 108 #[.agg (xs ++ (cs ++ [Value.int .i64 m])).toArray, .int .i64 t, .int .i64 i, vs] w0 fun v w' => v = .bool (L0a p m c t s) ∧ Below w0.heap.size w0 w' := by
 obtain ⟨_, _, _, _, _, _, _, _, _, _, _, _, rfl, _, _, _, hTh, _, _, _, _, _, _, _, _⟩ := hI.rd.open_
 obtain ⟨_, _, _, _, _, _, _, _, _, rfl, _, hAt, hBuf, _, hxa, _, _, b2, _⟩ := hX.open_
 obtain ⟨_, _, _, rfl⟩ := hV.form
 have S := St.refl w0
 have f2 := hf.nat
 have f3 := hf.nbuf
 have hp := hI.ok
 have ht := S1a hxth
 have hi := S1a hxs
 have hto := hp.thread hxth
 have hso := hto.steps s (c0a hxs)
 have hkd := hso.kind
 have hk6 : 6 ≤ s.kind → 0 ≤ s.target ∧ s.target < p.threads.length := fun h => (hso.row.k6 h).1
 have hrel := hso.rel
 have hm0 : ¬ m = 0 := by omega
 refine a0a Tryz.func108 rfl Tryz.ntmps108 rfl ?_
 refine wO0 rfl ⟨⟩ (j0a S (by conv => lhs; whnf) rfl ?_)
 intro g4 w4 S4 X4 G4
 obtain ⟨_, b16, p16, _, hx16, hA16, _, _, hc16, hr16⟩ := RdS.get (hTh) (t) (by omega)
 obtain rfl := Option.some.inj (hxth.symm.trans hx16)
 obtain ⟨_, _, _, _, _, _, _, _, _, _, _, _, rfl, _, _, _, hSt16, _, _, _, _, _, _, _, _, _⟩ := N0a.open_ hr16
 obtain ⟨_, b20, p20, _, hx20, hA20, _, hl20, hc20, hr20⟩ := RdS.get (hSt16) (i) (by omega)
 obtain rfl := Option.some.inj (hxs.symm.trans hx20)
 obtain ⟨_, _, _, _, _, _, rfl, ⟨_, _, _, _, _⟩, hG20, _, _, _⟩ := m2a.open_ hr20
 refine lO ((S4.k.a hc20).a hc16) [.o 0,.x b16 p16,.f 0 4,.x b20 p20,.v 1] rfl ⟨⟨rfl,hl20⟩,⟨hA20,by omega⟩,rfl,⟨hA16,by omega⟩,rfl,⟨⟩⟩ (n0a S4 T6b rfl rfl ?_)
 intro g9 w9 S9 X9 G9
 refine e0a (kk := 0) (vs := [_, _, _, _, _, _, _, _, _, _, _]) S9 y6b rfl rfl rfl rfl rfl rfl rfl ?_
 intro w1_11 S1_11 X1_11
 dsimp only [k0a, List.set] at S1_11
 refine lC0 rfl ⟨⟩ (D0a b0a [0, 1, 2, 3, 4, 5, 6, 7, 8, 9, 10, 11, 12, 13, 14, 15, 16] [] [] (by kernel_rfl) rfl (Cl _ _ _ _) (Cl.start S1_11) ?_)
 obtain ⟨a, b26, p26, _, hxa, hA26, _, _, hc26, hr26⟩ := RdS.get (hAt) (t) (by omega)
 obtain ⟨rfl, _⟩ := id hr26
 refine qB (S1_11.q.a hc26) [.o 1,.x b26 p26,.f 0 0,.o 0] rfl ⟨rfl,rfl,⟨hA26,by omega⟩,rfl,⟨⟩⟩ (fun h30 => ?_) fun h30 => ?_
 ·refine qD rfl ⟨⟩ ?_
  rintro wR2 ⟨SR2, XR2⟩
  refine lT rfl ⟨⟩ rfl ⟨congrArg Value.bool ?_, SR2.fin⟩
  rw [s5c hxa h30]; done
 refine qO S1_11.q [.o 0] rfl ⟨rfl,⟨⟩⟩ (H2a e0b rfl rfl (fun w1 S1 X1 => L7a s.guard M _ _ _ _ (B1a c t) (B1a c t) (RdE.keep (S1.keep0 M) _ _ hG20) (hI.keep (S1.keep0 M)).msk (hV.keep (S1.keep0 M)) (hV.keep (S1.keep0 M))) ?_)
 refine qB0 rfl ⟨⟩ (fun h37 => ?_) fun h37 => ?_
 ·refine qD rfl ⟨⟩ ?_
  rintro wR2 ⟨SR2, XR2⟩
  refine lT rfl ⟨⟩ rfl ⟨congrArg Value.bool ?_, SR2.fin⟩
  rw [e1c h37]; done
 refine qD rfl ⟨⟩ ?_
 rintro wR2 ⟨SR2, XR2⟩
 obtain ⟨b, b43, p43, _, hxb, hA43, _, _, hc43, hr43⟩ := RdS.get (hBuf) (t) (by omega)
 obtain ⟨_, _, _, rfl, _, hnb43, _⟩ := s5a.open_ hr43
 have q3 := (hf.bufs t b hxb).1
 refine lB (SR2.k.a hc43) [.o 1,.x b43 p43,.f 0 0,.o 0] rfl ⟨rfl,rfl,⟨hA43,by omega⟩,rfl,⟨⟩⟩ (fun h49 => ?_) fun h49 => ?_
 ·refine lO0 rfl ⟨⟩ ?_
  cases hb58 : s.release
  ·refine s0a B2a rfl (by exact (SR2.cell 0 rfl rfl).trans (congrArg (fun b => some (Value.bool b)) hb58)) rfl ?_
   refine lB0 rfl ⟨⟩ (fun h61 => ?_) fun h61 => ?_
   ·refine lT rfl ⟨⟩ rfl ⟨congrArg Value.bool ?_, SR2.fin⟩
    rw [R9c hm0 hxa h30 h37 hxb hnb43 h49 hb58]; exact (decide_eq_true h61).symm
   refine lT rfl ⟨⟩ rfl ⟨congrArg Value.bool ?_, SR2.fin⟩
   rw [R9c hm0 hxa h30 h37 hxb hnb43 h49 hb58]; exact (decide_eq_false (Int.not_lt.2 h61)).symm
  refine s0a B2a rfl (by exact (SR2.cell 0 rfl rfl).trans (congrArg (fun b => some (Value.bool b)) hb58)) rfl ?_
  refine lB0 rfl ⟨⟩ (fun h63 => ?_) fun h63 => ?_
  ·refine lT rfl ⟨⟩ rfl ⟨congrArg Value.bool ?_, SR2.fin⟩
   rw [e8c hm0 hxa h30 h37 hxb hnb43 h49 hb58]; exact (decide_eq_true h63).symm
  refine lT rfl ⟨⟩ rfl ⟨congrArg Value.bool ?_, SR2.fin⟩
  rw [e8c hm0 hxa h30 h37 hxb hnb43 h49 hb58]; exact (decide_eq_false h63).symm
 refine lB0 rfl ⟨⟩ (fun h51 => ?_) fun h51 => ?_
 ·refine lB0 rfl ⟨⟩ (fun h63 => ?_) fun h63 => ?_
  ·refine lT rfl ⟨⟩ rfl ⟨congrArg Value.bool ?_, SR2.fin⟩
   rw [S0c hxa h30 h37 hxb hnb43 (.inl h51)]; exact (decide_eq_true h63).symm
  refine lT rfl ⟨⟩ rfl ⟨congrArg Value.bool ?_, SR2.fin⟩
  rw [S0c hxa h30 h37 hxb hnb43 (.inl h51)]; exact (decide_eq_false h63).symm
 refine lB0 rfl ⟨⟩ (fun h52 => ?_) fun h52 => ?_
 ·refine lB0 rfl ⟨⟩ (fun h63 => ?_) fun h63 => ?_
  ·refine lT rfl ⟨⟩ rfl ⟨congrArg Value.bool ?_, SR2.fin⟩
   rw [S0c hxa h30 h37 hxb hnb43 (.inr h52)]; exact (decide_eq_true h63).symm
  refine lT rfl ⟨⟩ rfl ⟨congrArg Value.bool ?_, SR2.fin⟩
  rw [S0c hxa h30 h37 hxb hnb43 (.inr h52)]; exact (decide_eq_false h63).symm
 refine lB0 rfl ⟨⟩ (fun h54 => ?_) fun h54 => ?_
 ·refine lB0 rfl ⟨⟩ (fun h65 => ?_) fun h65 => ?_
  ·have q6 := hk6 (by omega)
   obtain ⟨a2, b72, p72, _, hxa2, hA72, _, _, hc72, hr72⟩ := RdS.get (hAt) (s.target.toNat) (by omega)
   obtain ⟨rfl, _⟩ := id hr72
   refine lB (SR2.k.a hc72) [.o 1,.o 0,.x b72 p72,.f 0 0] rfl ⟨rfl,⟨hA72,by omega⟩,rfl,rfl,⟨⟩⟩ (fun h74 => ?_) fun h74 => ?_
   ·refine lT rfl ⟨⟩ rfl ⟨congrArg Value.bool ?_, SR2.fin⟩
    rw [b0d hxa h30 h37 hxb hnb43 h54 hxa2]; rw [decide_eq_true h65]; (rw [decide_eq_true h74]; rfl)
   refine lT rfl ⟨⟩ rfl ⟨congrArg Value.bool ?_, SR2.fin⟩
   rw [b0d hxa h30 h37 hxb hnb43 h54 hxa2]; rw [decide_eq_true h65]; (rw [decide_eq_false h74]; rfl)
  refine lT rfl ⟨⟩ rfl ⟨congrArg Value.bool ?_, SR2.fin⟩
  rw [Y6c hxb hnb43 (.inl h54) h65]; done
 refine lB0 rfl ⟨⟩ (fun h56 => ?_) fun h56 => ?_
 ·have q6 := hk6 (by omega)
  obtain ⟨_, b81, p81, _, hxu, hA81, _, _, hc81, hr81⟩ := RdS.get (hTh) (s.target.toNat) (by omega)
  obtain ⟨_, _, _, _, _, _, _, _, _, _, _, _, rfl, _, _, _, _, _, _, _, _, _, _, _, _, _⟩ := N0a.open_ hr81
  have q7 := (hp.thread hxu).points
  refine lB (SR2.k.a hc81) [.o 1,.o 0,.x b81 p81,.f 0 1] rfl ⟨by omega,rfl,⟨hA81,by omega⟩,rfl,rfl,⟨⟩⟩ (fun h86 => ?_) fun h86 => ?_
  ·obtain ⟨a2, b93, p93, _, hxa2, hA93, _, _, hc93, hr93⟩ := RdS.get (hAt) (s.target.toNat) (by omega)
   obtain ⟨rfl, _⟩ := id hr93
   refine lB (SR2.k.a hc93) [.o 1,.o 0,.x b93 p93,.f 0 0] rfl ⟨rfl,⟨hA93,by omega⟩,rfl,rfl,⟨⟩⟩ (fun h96 => ?_) fun h96 => ?_
   ·obtain ⟨b2, b104, p104, _, hxb2, hA104, _, _, hc104, hr104⟩ := RdS.get (hBuf) (s.target.toNat) (by omega)
    obtain ⟨_, _, _, rfl, _, hnb104, _⟩ := s5a.open_ hr104
    refine lB (SR2.k.a hc104) [.o 1,.o 0,.x b104 p104,.f 0 0] rfl ⟨rfl,⟨hA104,by omega⟩,rfl,rfl,⟨⟩⟩ (fun h107 => ?_) fun h107 => ?_
    ·refine lT rfl ⟨⟩ rfl ⟨congrArg Value.bool ?_, SR2.fin⟩
     rw [a0d hxa h30 h37 hxb hnb43 h56 hxa2 hxu hxb2 hnb104]; rw [decide_eq_true h86, decide_eq_true h96]; (rw [decide_eq_true h107]; rfl)
    refine lT rfl ⟨⟩ rfl ⟨congrArg Value.bool ?_, SR2.fin⟩
    rw [a0d hxa h30 h37 hxb hnb43 h56 hxa2 hxu hxb2 hnb104]; rw [decide_eq_true h86, decide_eq_true h96]; (rw [decide_eq_false h107]; rfl)
   refine lT rfl ⟨⟩ rfl ⟨congrArg Value.bool ?_, SR2.fin⟩
   rw [O9c h56 hxa2 hxu h96]; done
  refine lT rfl ⟨⟩ rfl ⟨congrArg Value.bool ?_, SR2.fin⟩
  rw [Y6c hxb hnb43 (.inr h56) h86]; done
 refine lT rfl ⟨⟩ rfl ⟨congrArg Value.bool ?_, SR2.fin⟩
 rw [F9c hxa h30 h37 (by omega)]; done
section
variable {M : List Nat} {w0 w w' : World} {L : List Ent}
theorem St.join {L2 : List Ent} (S : St M w0 w L) (S2 : St [] w w' L2) : St M w0 w' (L2 ++ L) := by
 have hnew : ∀ b ∈ L2, ∀ g, b.1 = some g → w.heap.size ≤ g ∧ p0a w' (g, b.2) := fun b hb g hg => by
  obtain ⟨h1, h2⟩ := S2.own b hb g hg
  rcases h1 with h1 | h1
  ·exact ⟨h1, h2⟩
  ·cases h1
 have S' := S.later S2.fin
 refine ⟨S'.below, fun b hb g hg => ?_, List.pairwise_append.2 ⟨S2.apart, S.apart, fun a ha b hb g hg hg' => ?_⟩⟩
 ·rcases List.mem_append.1 hb with h | h
  ·obtain ⟨h1, h2⟩ := hnew b h g hg
   exact ⟨.inl (Nat.le_trans S.size h1), h2⟩
  ·exact S'.own b h g hg
 ·have h1 := (hnew a ha g hg).1
  have h2 := (S.own b hb g hg').2.lt
  simp at h2; omega
theorem St.fill (S : St M w0 w L) (j : Nat) {t' : TypeId} {cs' : List Value} {g : Nat} (hb : Below w.heap.size w w') (hg : p0a w' (g, t', cs')) (hlo : w.heap.size ≤ g) : St M w0 w' (L.set j (some g, t', cs')) := by
 have S' := S.later hb
 have hold : ∀ b ∈ L, b.1 ≠ some g := fun b hm hh => by
  have := (S.own b hm g hh).2.lt
  simp at this; omega
 refine ⟨S'.below, fun b hm x hx => ?_, ?_⟩
 ·rcases List.mem_or_eq_of_mem_set hm with h | rfl
  ·exact S'.own b h x hx
  ·cases hx
   exact ⟨.inl (Nat.le_trans S.size hlo), hg⟩
 ·rw [List.pairwise_iff_getElem]
  intro i k hi hk hik x hx
  rw [List.length_set] at hi hk
  rw [List.getElem_set] at hx ⊢
  split at hx
  ·cases hx
   split
   ·omega
   ·exact hold _ (List.getElem_mem hk)
  ·split
   ·intro hh; cases hh; exact hold _ (List.getElem_mem hi) hx
   ·exact (List.pairwise_iff_getElem.1 S.apart) i k hi hk hik x hx
theorem St.nils (S : St M w0 w L) {R : List Ent} (hR : ∀ b ∈ R, b.1 = none) : St M w0 w (L ++ R) := by
 refine ⟨S.below, fun b hb g hg => ?_, List.pairwise_append.2 ⟨S.apart, ?_, fun a _ b hb g _ hg' => ?_⟩⟩
 ·rcases List.mem_append.1 hb with h | h
  ·exact S.own b h g hg
  ·rw [hR b h] at hg; cases hg
 ·exact List.Pairwise.imp_of_mem (fun ha _ _ g hg => (by rw [hR _ ha] at hg; cases hg)) (List.pairwise_of_forall (R := fun _ _ => True) (fun _ _ => trivial))
 ·rw [hR b hb] at hg'; cases hg'
theorem St.place {x : Ent} (S : St M w0 w (x :: L)) (j : Nat) : St M w0 w (L.set j x) := by
 obtain ⟨h1, h2⟩ := List.pairwise_cons.1 S.apart
 refine ⟨S.below, fun b hm g hg => ?_, ?_⟩
 ·rcases List.mem_or_eq_of_mem_set hm with h | rfl
  ·exact S.own b (List.mem_cons_of_mem _ h) g hg
  ·exact S.own _ (by simp) g hg
 ·rw [List.pairwise_iff_getElem]
  intro i k hi hk hik g hg
  rw [List.length_set] at hi hk
  rw [List.getElem_set] at hg ⊢
  split at hg
  ·split
   ·omega
   ·exact h1 _ (List.getElem_mem hk) g hg
  ·split
   ·intro hh; exact h1 _ (List.getElem_mem hi) g hh hg
   ·exact (List.pairwise_iff_getElem.1 h2) i k hi hk hik g hg
theorem St.front {A R : List Ent} (S : St M w0 w (A ++ R)) : St M w0 w A :=
 ⟨S.below, fun b hm => S.own b (List.mem_append_left _ hm), (List.pairwise_append.1 S.apart).1⟩
abbrev clF {A R : List Ent} (_ : St M w0 w (A ++ R)) (K : List Nat) : World → Prop := fun w1 => St M w0 w1 A ∧ w0a K w w1
end
theorem C3a.form {G : Option Nat} {size n : Nat} {cs xs : List Value} {v : Value} (h : C3a G size n cs v xs) : ∃ A n c, v = .slice A n c := by
 rcases h with ⟨_, ⟨_, rfl, _⟩ | ⟨g, cap, _, rfl, _⟩⟩
 ·exact ⟨_, _, _, rfl⟩
 ·exact ⟨_, _, _, rfl⟩
theorem I6c (A rows : List Ent) (k n : Nat) (hn : A.length = n) : (A ++ rows)[n + k]? = rows[k]? := by
 subst hn; rw [List.getElem?_append_right (by omega)]; congr 1; omega
theorem R8c (A rows : List Ent) (k n : Nat) (hn : A.length = n) (x : Ent) : (A ++ rows).set (n + k) x = A ++ rows.set k x := by
 subst hn; rw [List.set_append_right _ _ (by omega)]; congr 2; omega
theorem Q1a.more {α : Type} {R : List Nat → World → List Value → α → Prop} {size : Nat} (hL : a5a R size) {M M' : List Nat} {w : World} {G : Option Nat} {cs : List Value} {v : Value} {l : List α} (h : Q1a R size M w G cs v l) (hm : ∀ g ∈ M', (g ∈ G.toList ∨ g ∈ M) ∨ w.heap.size ≤ g) : Q1a R size M' w G cs v l := by
 obtain ⟨css, h1, h2, h3, h4⟩ := h
 refine ⟨css, h1, h2, h3, fun i x hi => ?_⟩
 obtain ⟨c, h5, h6⟩ := h4 i x hi
 refine ⟨c, h5, hL.more (fun g hg => ?_) h6⟩
 rcases List.mem_append.1 hg with hg | hg
 ·exact .inl (List.mem_append_left _ hg)
 ·rcases hm g hg with h | h
  ·exact .inl (List.mem_append.2 h)
  ·exact .inr h
def L8a (rows : List Ent) : List Nat := rows.filterMap (·.1)
theorem v3a {rows : List Ent} {g : Nat} : g ∈ L8a rows ↔ ∃ b ∈ rows, b.1 = some g := by unfold L8a; rw [List.mem_filterMap]
def j3a (tE : TypeId) (M : List Nat) (w : World) (rows : List Ent) (vs : List Value) (bs : List (List G0a)) : Prop :=
 rows.length = bs.length ∧ vs.length = bs.length ∧ ∀ (i : Nat) (b : List G0a), bs[i]? = some b → ∃ G cs v, rows[i]? = some (G, tE, cs) ∧ vs[i]? = some v ∧ Q1a V0a 2 (M ++ L8a rows) w G cs v b
theorem j3a.keep {tE : TypeId} {M : List Nat} {w w' : World} {rows : List Ent} {vs : List Value} {bs : List (List G0a)} (h : j3a tE M w rows vs bs) (hk : w0a (M ++ L8a rows) w w') : j3a tE M w' rows vs bs := by
 obtain ⟨h1, h2, h3⟩ := h
 refine ⟨h1, h2, fun i b hi => ?_⟩
 obtain ⟨G, cs, v, h4, h5, h6⟩ := h3 i b hi
 exact ⟨G, cs, v, h4, h5, h6.keep j2a (hk.mono fun g hg => List.mem_append_right _ hg)⟩
theorem j3a.nil {tE : TypeId} {M : List Nat} {w : World} (n : Nat) : j3a tE M w (List.replicate n (none, tE, [])) (List.replicate n (.slice none 0 0)) (List.replicate n []) := by
 refine ⟨by simp, by simp, fun i b hi => ?_⟩
 obtain ⟨hlt, rfl⟩ := List.getElem?_eq_some_iff.1 hi
 simp only [List.length_replicate] at hlt
 refine ⟨none, [], .slice none 0 0, by simp [hlt], by simp [hlt], ?_⟩
 simp only [List.getElem_replicate]
 exact Q1a.nil
theorem p4c {rows : List Ent} {k : Nat} {G' : Option Nat} {tE : TypeId} {cs' : List Value} {g : Nat} (h : g ∈ L8a (rows.set k (G', tE, cs'))) : g ∈ L8a rows ∨ g ∈ G'.toList := by
 obtain ⟨b, hb, hg⟩ := v3a.1 h
 rcases List.mem_or_eq_of_mem_set hb with h | rfl
 ·exact .inl (v3a.2 ⟨b, h, hg⟩)
 ·right; cases hg; simp
theorem j3a.put {tE : TypeId} {M : List Nat} {w w1 : World} {rows : List Ent} {vs : List Value} {bs : List (List G0a)} (h : j3a tE M w rows vs bs) {k : Nat} {G G' : Option Nat} {cs cs' : List Value} {v' : Value} {b' : List G0a} (hk : k < bs.length)
 (hrow : Q1a V0a 2 (M ++ L8a rows) w1 G' cs' v' b') (X : w0a G.toList w w1) (F : ∀ g ∈ G'.toList, g ∈ G.toList ∨ w.heap.size ≤ g) (hrk : rows[k]? = some (G, tE, cs)) : j3a tE M w1 (rows.set k (G', tE, cs')) (vs.set k v') (bs.set k b') := by
 obtain ⟨h1, h2, h3⟩ := h
 have hGb : ∀ g ∈ G.toList, g ∈ L8a rows := fun g hg => v3a.2 ⟨_, List.mem_of_getElem? hrk, by cases G <;> simp at hg ⊢; exact hg.symm⟩
 have hsub : ∀ g ∈ M ++ L8a (rows.set k (G', tE, cs')), (g ∈ M ++ L8a rows ∨ g ∈ G'.toList) := fun g hg => by
  rcases List.mem_append.1 hg with h | h
  ·exact .inl (List.mem_append_left _ h)
  ·rcases p4c h with h | h
   ·exact .inl (List.mem_append_right _ h)
   ·exact .inr h
 refine ⟨by simp [h1], by simp [h2], fun i b hi => ?_⟩
 rw [List.getElem?_set] at hi
 by_cases hik : k = i
 ·subst hik
  rw [if_pos rfl, if_pos hk] at hi
  cases hi
  exact ⟨G', cs', v', by rw [List.getElem?_set_self (by omega)], by rw [List.getElem?_set_self (by omega)], hrow.more j2a fun g hg => by
   rcases hsub g hg with h | h
   ·exact .inl (.inr h)
   ·exact .inl (.inl h)⟩
 ·rw [if_neg hik] at hi
  obtain ⟨Gi, csi, vi, h4, h5, h6⟩ := h3 i b hi
  refine ⟨Gi, csi, vi, by rw [List.getElem?_set_ne hik]; exact h4, by rw [List.getElem?_set_ne hik]; exact h5, ?_⟩
  have e1 : Q1a V0a 2 (G.toList ++ (M ++ L8a (rows.set k (G', tE, cs')))) w Gi csi vi b := h6.more j2a fun g hg => by
   rcases List.mem_append.1 hg with h | h
   ·exact .inl (.inr (List.mem_append_right _ (hGb g h)))
   ·rcases hsub g h with h | h
    ·exact .inl (.inr h)
    ·rcases F g h with h | h
     ·exact .inl (.inr (List.mem_append_right _ (hGb g h)))
     ·exact .inr h
  exact (e1.keep j2a (X.mono fun g hg => List.mem_append_right _ (List.mem_append_left _ hg))).more j2a fun g hg => .inl (.inr (List.mem_append_right _ hg))
theorem j3a.rd {tE : TypeId} {M M' Mx : List Nat} {w0 w : World} {A rows : List Ent} {vs : List Value} {bs : List (List G0a)} (h : j3a tE M w rows vs bs) (S : St M' w0 w (A ++ rows)) (hx : ∀ g ∈ Mx, g ∈ M) (hM : ∀ g ∈ Mx, g ∉ L8a rows) (hl : ∀ b ∈ bs, b.length ≤ 1000) :
 ∀ (i : Nat) (b : List G0a), bs[i]? = some b → ∃ v, vs[i]? = some v ∧ S6c Mx w v b := fun i b hi => by
 obtain ⟨_, _, h3⟩ := h
 obtain ⟨G, cs, v, h4, h5, h6⟩ := h3 i b hi
 refine ⟨v, h5, ?_⟩
 have h7 : Q1a V0a 2 Mx w G cs v b := h6.more j2a fun g hg => .inl (.inr (List.mem_append_left _ (hx g hg)))
 refine h7.rd j2a S (k := A.length + i) (el := tE) (by rw [I6c A rows i _ rfl]; exact h4) (fun g hg hm => hM g hm (v3a.2 ⟨_, List.mem_of_getElem? h4, hg⟩)) (by have := hl b (List.mem_of_getElem? hi); omega)
theorem St.rdBs {M M' : List Nat} {w0 w : World} {L : List Ent} (S : St M' w0 w L) (j : Nat) {g t : Nat} {vs : List Value} {bs : List (List G0a)} (hj : L[j]? = some (some g, t, vs)) (hg : g ∉ M) (hbig : bs.length ≤ 140737488355328) (h : ∀ (i : Nat) (b : List G0a), bs[i]? = some b → ∃ v, vs[i]? = some v ∧ S6c M w v b) : G8c M w (.slice (some ⟨g, 0, none⟩) bs.length bs.length) bs :=
 S.rd1 hj hg rfl hbig fun i x hi => by
  obtain ⟨v, h1, h2⟩ := h i x hi
  exact ⟨v, h1, v, rfl, h2⟩
theorem j3a.less {tE : TypeId} {M M' : List Nat} {w : World} {rows : List Ent} {vs : List Value} {bs : List (List G0a)} (h : j3a tE M w rows vs bs) (hm : ∀ g ∈ M', g ∈ M) : j3a tE M' w rows vs bs := by
 obtain ⟨h1, h2, h3⟩ := h
 refine ⟨h1, h2, fun i b hi => ?_⟩
 obtain ⟨G, cs, v, h4, h5, h6⟩ := h3 i b hi
 exact ⟨G, cs, v, h4, h5, h6.more j2a fun g hg => .inl (.inr (by
  rcases List.mem_append.1 hg with h | h
  ·exact List.mem_append_left _ (hm g h)
  ·exact List.mem_append_right _ h))⟩
theorem G5b {α : Type} {l : List α} {k : Nat} {x : α} (h : l[k]? = some x) : l.set k x = l := by
 obtain ⟨hlt, rfl⟩ := List.getElem?_eq_some_iff.1 h
 exact List.set_getElem_self hlt
theorem a7b {α : Type} {l : List α} {z : α} {k : Nat} (h : k < l.length) : (T2a l z k)[k]? = some z := by
 unfold T2a
 rw [List.getElem?_append_right (by simp; omega), List.getElem?_replicate, if_pos (by simp; omega)]
theorem RdI.i64s {M : List Nat} {w : World} {v : Value} {l : List Int} (h : RdI M w v l) : ∀ x ∈ l, i64 x := fun x hx => by
 obtain ⟨_, _, _, rfl⟩ := h.form
 obtain ⟨i, hi, rfl⟩ := List.getElem_of_mem hx
 obtain ⟨_, _, _, _, h5⟩ := h.at
 obtain ⟨_, _, _, _, hel⟩ := h5 (by omega)
 obtain ⟨_, _, _, h6⟩ := hel i _ (List.getElem?_eq_getElem hi)
 exact h6.2
theorem h3b.rd {el : Nat} {w w1 : World} {v : Value} {l : List Int} (h : h3b el w w1 v l) {M : List Nat} (hM : ∀ g ∈ M, g < w.heap.size) (hl : ∀ x ∈ l, i64 x) (hb : Below w.heap.size w w1) (hbig : l.length ≤ 140737488355328) : RdI M w1 v l := by
 obtain ⟨_, _, h1, S⟩ := h.open_ ((St.refl w).later hb) (St.refl w)
 exact h1.rdI S (k := 0) rfl hM hl hbig
theorem St.sublist {M : List Nat} {w0 w : World} {L L' : List Ent} (S : St M w0 w L) (h : L'.Sublist L) : St M w0 w L' := ⟨S.below, fun b hb => S.own b (h.subset hb), S.apart.sublist h⟩
theorem St.perm {M : List Nat} {w0 w : World} {L L' : List Ent} (S : St M w0 w L) (h : L.Perm L') : St M w0 w L' :=
 ⟨S.below, fun b hb => S.own b (h.symm.subset hb), (h.pairwise_iff (fun hxy g hg hg' => hxy g hg' hg)).1 S.apart⟩
theorem St.joinR {M : List Nat} {w0 w w' : World} {L A R : List Ent} (S : St M w0 w L) (S2 : St [] w w' (A ++ R)) : St M w0 w' ((A ++ L) ++ R) := by
 refine (S.join S2).perm ?_
 rw [List.append_assoc, List.append_assoc]
 exact (List.perm_append_comm).append_left A
theorem Q1a.erase {α : Type} {R : List Nat → World → List Value → α → Prop} {size : Nat} (hL : a5a R size) {M : List Nat} {w w1 : World} {G : Option Nat} {cs' : List Value} {v : Value} {l : List α} {css : List (List Value)} (l1 : css.length = l.length) (l2 : ∀ x ∈ css, x.length = size) (l4 : ∀ (i : Nat) (x : α), l[i]? = some x → ∃ c, css[i]? = some c ∧ R (G.toList ++ M) w c x)
 {i : Nat} (hi : i < l.length) (rv : C3a G size (l.length - 1) cs' v (css.eraseIdx i).flatten) (hk : w0a (G.toList ++ M) w w1) : Q1a R size M w1 G cs' v (l.eraseIdx i) := by
 have hle : (l.eraseIdx i).length = l.length - 1 := by rw [List.length_eraseIdx, if_pos hi]
 refine ⟨css.eraseIdx i, by rw [hle, List.length_eraseIdx, if_pos (by omega), l1], fun x hx => l2 x (List.mem_of_mem_eraseIdx hx), by rw [hle]; exact rv, fun k x hx => ?_⟩
 rw [List.getElem?_eraseIdx] at hx ⊢
 split
 ·rename_i h
  rw [if_pos h] at hx
  obtain ⟨c, h5, h6⟩ := l4 k x hx
  exact ⟨c, h5, hL.keep hk h6⟩
 ·rename_i h
  rw [if_neg h] at hx
  obtain ⟨c, h5, h6⟩ := l4 (k + 1) x hx
  exact ⟨c, h5, hL.keep hk h6⟩
theorem Q5c {M : List Nat} {w : World} {G : Option Nat} {l : List G0a} {css : List (List Value)} (l1 : css.length = l.length) (l4 : ∀ (i : Nat) (x : G0a), l[i]? = some x → ∃ c, css[i]? = some c ∧ V0a (G.toList ++ M) w c x) : ∀ u ∈ css.flatten, u.oneCell' = true := fun u hu => by
 obtain ⟨x, hx, hu⟩ := List.mem_flatten.1 hu
 obtain ⟨i, hi, rfl⟩ := List.getElem_of_mem hx
 obtain ⟨c, h5, h6⟩ := l4 i l[i] (List.getElem?_eq_getElem (by omega))
 rw [List.getElem?_eq_getElem hi] at h5; cases h5
 exact j2a.one h6 u hu
theorem St.apartM {w0 w : World} {A rows : List Ent} (S : St [] w0 w (A ++ rows)) {M : List Nat} (hM : ∀ g ∈ M, g < w0.heap.size) : ∀ g ∈ M, g ∉ L8a rows := fun g hg hb => by
 obtain ⟨x, hx, hg'⟩ := v3a.1 hb
 have h2 := hM g hg
 rcases (S.own x (List.mem_append_right _ hx) g hg').1 with h | h
 ·omega
 ·cases h
theorem w0a.fresh2 {a b c : World} {Q : List Nat} {g : Nat} (h : w0a Q a b) (k : w0a [g] b c) (hg : a.heap.size ≤ g ∨ g ∈ Q) : w0a Q a c :=
 ⟨Nat.le_trans h.size k.size, fun i hi hm => (k.same i (Nat.lt_of_lt_of_le hi h.size) (fun hh => by rw [List.mem_singleton] at hh; subst hh; rcases hg with hg | hg; omega; exact hm hg)).trans (h.same i hi hm)⟩
theorem w0a.freshL {a b c : World} {Q Gs : List Nat} (h : w0a Q a b) (k : w0a Gs b c) (hg : ∀ g ∈ Gs, a.heap.size ≤ g ∨ g ∈ Q) : w0a Q a c :=
 ⟨Nat.le_trans h.size k.size, fun i hi hm => (k.same i (Nat.lt_of_lt_of_le hi h.size) (fun hh => by rcases hg i hh with hg | hg; omega; exact hm hg)).trans (h.same i hi hm)⟩
def M3c (M : List Nat) (w0 w : World) (c : q0a) (v : Value) : Prop :=
 ∃ (Gm Ga : Option Nat) (csm csa : List Value) (vm va : Value) (gb : Nat) (rows : List Ent) (vs : List Value), v = .agg #[vm, va, .slice (some ⟨gb, 0, none⟩) c.buf.length c.buf.length] ∧ C3a Gm 1 c.mem.length csm vm (c.mem.map (Value.int .i64)) ∧ C3a Ga 1 c.at_.length csa va (c.at_.map (Value.int .i64)) ∧
  St [] w0 w ([(some gb, 79, vs), (Ga, 3, csa), (Gm, 3, csm)] ++ rows) ∧ j3a 81 (Gm.toList ++ (Ga.toList ++ (gb :: M))) w rows vs c.buf
theorem M0b {M : List Nat} {w0 w : World} {L : List Ent} (S : St M w0 w L) {G : Option Nat} {t : TypeId} {cs : List Value} {k : Nat} (hk : L[k]? = some (G, t, cs)) : ∀ g ∈ G.toList, g < w.heap.size := fun g hg => by
 have : G = some g := by cases G <;> simp at hg ⊢; exact hg.symm
 subst this
 exact S.lt k hk
theorem g3b (Mx M : List Nat) (w0 : World) (v : Value) (l : List Int) (hR : RdI M w0 v l) (hl : l.length ≤ 100000000) (hM : ∀ g ∈ Mx, g < w0.heap.size) :
 M0a Tryz.prog 141 #[v] w0 fun v w' => RdI Mx w' v l ∧ Below w0.heap.size w0 w' :=
 (f7a M w0 v l hR hl).mono fun _ _ h => ⟨h.1.rd hM hR.i64s h.2 (by omega), h.2⟩
theorem g6b (p : f0a) (hp : b1a p) (c : q0a) (M : List Nat) (w0 : World) (hM : ∀ g ∈ M, g < w0.heap.size) (xs : List Value) (hX : t0a M w0 c xs) (hf : D3a p c) :
 M0a Tryz.prog 146 #[.agg xs.toArray] w0 fun v w' => M3c M w0 w' c v ∧ Below w0.heap.size w0 w' := by
 obtain ⟨Xm, xm, ym, Xa, xa, ya, Xb, xb, yb, rfl, hMem, hAt, hBuf, _, _, hnb, _, _, _⟩ := hX.open_
 have S := St.refl w0
 have f1 := hf.mem.len
 have f2 := hf.nat
 have n1 := hp.ncells
 have n2 := hp.nthreads
 have f3 := hf.nbuf
 refine a0a Tryz.func146 rfl Tryz.ntmps146 rfl ?_
 refine wO0 rfl ⟨⟩ (j0a S (by conv => lhs; whnf) rfl ?_)
 intro g1 w1 S1 X1 G1
 refine n0a S1 C5a rfl rfl ?_
 intro g2 w2 S2 X2 G2
 refine lC0 rfl ⟨⟩ (j8b b0a (by kernel_rfl) (fun f ε w => ε 1 = .pointer (some ⟨g1, 0, none⟩) ∧ ε 2 = .pointer (some ⟨g2, 0, none⟩) ∧ ∃ E11 E9 E5 E2 : Ent, St [] w0 w [E11, E9, E5, E2, (some g2, 38, [.slice none 0 0, .slice none 0 0, .slice none 0 0]), (some g1, 38, [.slice Xm xm ym, .slice Xa xa ya, .slice Xb xb yb])] ∧ (f 0 = true → ε 8 = .pointer (some ⟨g1, 0, none⟩)) ∧ (f 1 = true → ε 9 = .slice Xm xm ym) ∧ (f 2 = true → ∃ G cs A n c', ε 10 = .slice A n c' ∧ E2 = (G, 3, cs) ∧ C3a G 1 c.mem.length cs (.slice A n c') (c.mem.map (Value.int .i64))) ∧ (f 3 = true → ε 11 = .pointer (some ⟨g1, 1, none⟩)) ∧ (f 4 = true → ε 12 = .slice Xa xa ya) ∧ (f 5 = true → ∃ G cs A n c', ε 13 = .slice A n c' ∧ E5 = (G, 3, cs) ∧ C3a G 1 c.at_.length cs (.slice A n c') (c.at_.map (Value.int .i64))) ∧ (f 6 = true → ε 14 = .pointer (some ⟨g1, 2, none⟩)) ∧ (f 7 = true → ε 15 = .slice Xb xb yb) ∧ (f 8 = true → ε 16 = .int .i64 xb) ∧ (f 9 = true → ∃ g, ε 17 = .slice (some ⟨g, 0, none⟩) xb xb ∧ E9 = (some g, 79, List.replicate xb (.slice none 0 0))) ∧ (f 10 = true → (f 2 = true ∧ f 5 = true ∧ f 9 = true) ∧ ε 18 = .agg #[ε 10, ε 13, ε 17]) ∧ (f 11 = true → f 12 = false → ∃ g, ε 3 = .pointer (some ⟨g, 0, none⟩) ∧ E11 = (some g, 38, [.slice none 0 0, .slice none 0 0, .slice none 0 0])) ∧ (f 12 = true → (∀ k, k < 12 → f k = true) ∧ ∃ g, ε 3 = .pointer (some ⟨g, 0, none⟩) ∧ E11 = (some g, 38, [ε 10, ε 13, ε 17]))) ?_ ?_ ?_)
 ·exact ⟨rfl, rfl, (none, 0, []), (none, 0, []), (none, 0, []), (none, 0, []), ((((S2.drew.nilEnt 0).nilEnt 0).nilEnt 0).nilEnt 0), by simp, by simp, by simp, by simp, by simp, by simp, by simp, by simp, by simp, by simp, by simp, by simp, by simp⟩
 ·rintro f ε w i o ⟨e1, e2, E11, E9, E5, E2, S, h0, h1, h2, h3, h4, h5, h6, h7, h8, h9, h10, h11, h12⟩ ho hfi hpr
  have hi : i < 13 := (List.getElem?_eq_some_iff.1 ho).1
  refine U1a 1 e1 (U1a 2 e2 ?_)
  rcases (show i = 0 ∨ i = 1 ∨ i = 2 ∨ i = 3 ∨ i = 4 ∨ i = 5 ∨ i = 6 ∨ i = 7 ∨ i = 8 ∨ i = 9 ∨ i = 10 ∨ i = 11 ∨ i = 12 by omega) with rfl | rfl | rfl | rfl | rfl | rfl | rfl | rfl | rfl | rfl | rfl | rfl | rfl
  ·cases ho
   refine L6a V4b rfl rfl ?_
   refine S0a ⟨rfl, rfl, rfl, E11, E9, E5, E2, S, fun _ => rfl, fun hh => h1 (by simpa using hh), fun hh => h2 (by simpa using hh), fun hh => h3 (by simpa using hh), fun hh => h4 (by simpa using hh), fun hh => h5 (by simpa using hh), fun hh => h6 (by simpa using hh), fun hh => h7 (by simpa using hh), fun hh => h8 (by simpa using hh), fun hh => h9 (by simpa using hh), fun hh => ⟨⟨by simp [(h10 (by simpa using hh)).1.1], by simp [(h10 (by simpa using hh)).1.2.1], by simp [(h10 (by simpa using hh)).1.2.2]⟩, (h10 (by simpa using hh)).2⟩, fun hh hh' => h11 (by simpa using hh) (by simpa using hh'), fun hh => absurd ((h12 (by simpa using hh)).1 0 (by omega)) (by simp [hfi])⟩
  ·cases ho
   refine U1a 8 (h0 (hpr 0 (by decide))) ?_
   refine s0a P3a rfl (S.cell 5 rfl rfl) rfl ?_
   refine S0a ⟨rfl, rfl, rfl, E11, E9, E5, E2, S, fun _ => rfl, fun _ => rfl, fun hh => h2 (by simpa using hh), fun hh => h3 (by simpa using hh), fun hh => h4 (by simpa using hh), fun hh => h5 (by simpa using hh), fun hh => h6 (by simpa using hh), fun hh => h7 (by simpa using hh), fun hh => h8 (by simpa using hh), fun hh => h9 (by simpa using hh), fun hh => ⟨⟨by simp [(h10 (by simpa using hh)).1.1], by simp [(h10 (by simpa using hh)).1.2.1], by simp [(h10 (by simpa using hh)).1.2.2]⟩, (h10 (by simpa using hh)).2⟩, fun hh hh' => h11 (by simpa using hh) (by simpa using hh'), fun hh => absurd ((h12 (by simpa using hh)).1 1 (by omega)) (by simp [hfi])⟩
  ·cases ho
   refine U1a 9 (h1 (hpr 1 (by decide))) ?_
   refine e2a g9a rfl rfl (f7a M _ _ c.mem (hMem.keep (S.keep0 M)) (by omega)) ?_
   rintro v w1 ⟨hN, hB⟩
   obtain ⟨G, cs', R1, S1⟩ := hN.open_ (S.later hB) S
   obtain ⟨A, n, c', rfl⟩ := R1.form
   refine S0a ⟨rfl, rfl, rfl, E11, E9, E5, (G, 3, cs'), S1.place 3, fun hh => h0 (by simpa using hh), fun _ => rfl, fun _ => ⟨G, cs', A, n, c', rfl, rfl, R1⟩, fun hh => h3 (by simpa using hh), fun hh => h4 (by simpa using hh), fun hh => h5 (by simpa using hh), fun hh => h6 (by simpa using hh), fun hh => h7 (by simpa using hh), fun hh => h8 (by simpa using hh), fun hh => h9 (by simpa using hh), fun hh => absurd (h10 (by simpa using hh)).1.1 (by simp [hfi]), fun hh hh' => h11 (by simpa using hh) (by simpa using hh'), fun hh => absurd ((h12 (by simpa using hh)).1 2 (by omega)) (by simp [hfi])⟩
  ·cases ho
   refine L6a i5b rfl rfl ?_
   refine S0a ⟨rfl, rfl, rfl, E11, E9, E5, E2, S, fun hh => h0 (by simpa using hh), fun hh => h1 (by simpa using hh), fun hh => h2 (by simpa using hh), fun _ => rfl, fun hh => h4 (by simpa using hh), fun hh => h5 (by simpa using hh), fun hh => h6 (by simpa using hh), fun hh => h7 (by simpa using hh), fun hh => h8 (by simpa using hh), fun hh => h9 (by simpa using hh), fun hh => ⟨⟨by simp [(h10 (by simpa using hh)).1.1], by simp [(h10 (by simpa using hh)).1.2.1], by simp [(h10 (by simpa using hh)).1.2.2]⟩, (h10 (by simpa using hh)).2⟩, fun hh hh' => h11 (by simpa using hh) (by simpa using hh'), fun hh => absurd ((h12 (by simpa using hh)).1 3 (by omega)) (by simp [hfi])⟩
  ·cases ho
   refine U1a 11 (h3 (hpr 3 (by decide))) ?_
   refine s0a P3a rfl (S.cell 5 rfl rfl) rfl ?_
   refine S0a ⟨rfl, rfl, rfl, E11, E9, E5, E2, S, fun hh => h0 (by simpa using hh), fun hh => h1 (by simpa using hh), fun hh => h2 (by simpa using hh), fun _ => rfl, fun _ => rfl, fun hh => h5 (by simpa using hh), fun hh => h6 (by simpa using hh), fun hh => h7 (by simpa using hh), fun hh => h8 (by simpa using hh), fun hh => h9 (by simpa using hh), fun hh => ⟨⟨by simp [(h10 (by simpa using hh)).1.1], by simp [(h10 (by simpa using hh)).1.2.1], by simp [(h10 (by simpa using hh)).1.2.2]⟩, (h10 (by simpa using hh)).2⟩, fun hh hh' => h11 (by simpa using hh) (by simpa using hh'), fun hh => absurd ((h12 (by simpa using hh)).1 4 (by omega)) (by simp [hfi])⟩
  ·cases ho
   refine U1a 12 (h4 (hpr 4 (by decide))) ?_
   refine e2a g9a rfl rfl (f7a M _ _ c.at_ (hAt.keep (S.keep0 M)) (by omega)) ?_
   rintro v w1 ⟨hN, hB⟩
   obtain ⟨G, cs', R1, S1⟩ := hN.open_ (S.later hB) S
   obtain ⟨A, n, c', rfl⟩ := R1.form
   refine S0a ⟨rfl, rfl, rfl, E11, E9, (G, 3, cs'), E2, S1.place 2, fun hh => h0 (by simpa using hh), fun hh => h1 (by simpa using hh), fun hh => h2 (by simpa using hh), fun hh => h3 (by simpa using hh), fun _ => rfl, fun _ => ⟨G, cs', A, n, c', rfl, rfl, R1⟩, fun hh => h6 (by simpa using hh), fun hh => h7 (by simpa using hh), fun hh => h8 (by simpa using hh), fun hh => h9 (by simpa using hh), fun hh => absurd (h10 (by simpa using hh)).1.2.1 (by simp [hfi]), fun hh hh' => h11 (by simpa using hh) (by simpa using hh'), fun hh => absurd ((h12 (by simpa using hh)).1 5 (by omega)) (by simp [hfi])⟩
  ·cases ho
   refine L6a h5a rfl rfl ?_
   refine S0a ⟨rfl, rfl, rfl, E11, E9, E5, E2, S, fun hh => h0 (by simpa using hh), fun hh => h1 (by simpa using hh), fun hh => h2 (by simpa using hh), fun hh => h3 (by simpa using hh), fun hh => h4 (by simpa using hh), fun hh => h5 (by simpa using hh), fun _ => rfl, fun hh => h7 (by simpa using hh), fun hh => h8 (by simpa using hh), fun hh => h9 (by simpa using hh), fun hh => ⟨⟨by simp [(h10 (by simpa using hh)).1.1], by simp [(h10 (by simpa using hh)).1.2.1], by simp [(h10 (by simpa using hh)).1.2.2]⟩, (h10 (by simpa using hh)).2⟩, fun hh hh' => h11 (by simpa using hh) (by simpa using hh'), fun hh => absurd ((h12 (by simpa using hh)).1 6 (by omega)) (by simp [hfi])⟩
  ·cases ho
   refine U1a 14 (h6 (hpr 6 (by decide))) ?_
   refine s0a n6a rfl (S.cell 5 rfl rfl) rfl ?_
   refine S0a ⟨rfl, rfl, rfl, E11, E9, E5, E2, S, fun hh => h0 (by simpa using hh), fun hh => h1 (by simpa using hh), fun hh => h2 (by simpa using hh), fun hh => h3 (by simpa using hh), fun hh => h4 (by simpa using hh), fun hh => h5 (by simpa using hh), fun _ => rfl, fun _ => rfl, fun hh => h8 (by simpa using hh), fun hh => h9 (by simpa using hh), fun hh => ⟨⟨by simp [(h10 (by simpa using hh)).1.1], by simp [(h10 (by simpa using hh)).1.2.1], by simp [(h10 (by simpa using hh)).1.2.2]⟩, (h10 (by simpa using hh)).2⟩, fun hh hh' => h11 (by simpa using hh) (by simpa using hh'), fun hh => absurd ((h12 (by simpa using hh)).1 7 (by omega)) (by simp [hfi])⟩
  ·cases ho
   refine U1a 15 (h7 (hpr 7 (by decide))) ?_
   refine v8c L4a.slT rfl rfl ?_
   refine S0a ⟨rfl, rfl, rfl, E11, E9, E5, E2, S, fun hh => h0 (by simpa using hh), fun hh => h1 (by simpa using hh), fun hh => h2 (by simpa using hh), fun hh => h3 (by simpa using hh), fun hh => h4 (by simpa using hh), fun hh => h5 (by simpa using hh), fun hh => h6 (by simpa using hh), fun _ => rfl, fun _ => rfl, fun hh => h9 (by simpa using hh), fun hh => ⟨⟨by simp [(h10 (by simpa using hh)).1.1], by simp [(h10 (by simpa using hh)).1.2.1], by simp [(h10 (by simpa using hh)).1.2.2]⟩, (h10 (by simpa using hh)).2⟩, fun hh hh' => h11 (by simpa using hh) (by simpa using hh'), fun hh => absurd ((h12 (by simpa using hh)).1 8 (by omega)) (by simp [hfi])⟩
  ·cases ho
   refine U1a 16 (h8 (hpr 8 (by decide))) ?_
   refine J7b (n := xb) (c := xb) S L4a rfl rfl (by omega) (by omega) (by omega) rfl rfl ?_
   intro g w1 S1 X1 G1
   refine S0a ⟨rfl, rfl, rfl, E11, (some g, 79, List.replicate xb (.slice none 0 0)), E5, E2, S1.place 1, fun hh => h0 (by simpa using hh), fun hh => h1 (by simpa using hh), fun hh => h2 (by simpa using hh), fun hh => h3 (by simpa using hh), fun hh => h4 (by simpa using hh), fun hh => h5 (by simpa using hh), fun hh => h6 (by simpa using hh), fun hh => h7 (by simpa using hh), fun _ => rfl, fun _ => ⟨g, rfl, rfl⟩, fun hh => absurd (h10 (by simpa using hh)).1.2.2 (by simp [hfi]), fun hh hh' => h11 (by simpa using hh) (by simpa using hh'), fun hh => absurd ((h12 (by simpa using hh)).1 9 (by omega)) (by simp [hfi])⟩
  ·cases ho
   obtain ⟨G2, cs2, A2, n2, c2, q2, r2⟩ := h2 (hpr 2 (by decide))
   obtain ⟨G5, cs5, A5, n5, c5, q5, r5⟩ := h5 (hpr 5 (by decide))
   obtain ⟨g9, q9, r9⟩ := h9 (hpr 9 (by decide))
   refine U1a 10 q2 (U1a 13 q5 (U1a 17 q9 ?_))
   refine i1a o5a (vs := [(0, .slice _ _ _), (1, .slice _ _ _), (2, .slice _ _ _)]) (cs := [_, _, _]) rfl rfl rfl rfl ?_
   refine S0a ⟨rfl, rfl, rfl, E11, E9, E5, E2, S, fun hh => h0 (by simpa using hh), fun hh => h1 (by simpa using hh), fun _ => ⟨G2, cs2, A2, n2, c2, rfl, r2⟩, fun hh => h3 (by simpa using hh), fun hh => h4 (by simpa using hh), fun _ => ⟨G5, cs5, A5, n5, c5, rfl, r5⟩, fun hh => h6 (by simpa using hh), fun hh => h7 (by simpa using hh), fun hh => h8 (by simpa using hh), fun _ => ⟨g9, rfl, r9⟩, fun _ => ⟨⟨by simp [hpr 2 (by decide)], by simp [hpr 5 (by decide)], by simp [hpr 9 (by decide)]⟩, rfl⟩, fun hh hh' => h11 (by simpa using hh) (by simpa using hh'), fun hh => absurd ((h12 (by simpa using hh)).1 10 (by omega)) (by simp [hfi])⟩
  ·cases ho
   refine n0a S C5a rfl rfl ?_
   intro g w1 S1 X1 G1
   refine S0a ⟨rfl, rfl, rfl, (some g, 38, [.slice none 0 0, .slice none 0 0, .slice none 0 0]), E9, E5, E2, S1.place 0, fun hh => h0 (by simpa using hh), fun hh => h1 (by simpa using hh), fun hh => h2 (by simpa using hh), fun hh => h3 (by simpa using hh), fun hh => h4 (by simpa using hh), fun hh => h5 (by simpa using hh), fun hh => h6 (by simpa using hh), fun hh => h7 (by simpa using hh), fun hh => h8 (by simpa using hh), fun hh => h9 (by simpa using hh), fun hh => ⟨⟨by simp [(h10 (by simpa using hh)).1.1], by simp [(h10 (by simpa using hh)).1.2.1], by simp [(h10 (by simpa using hh)).1.2.2]⟩, (h10 (by simpa using hh)).2⟩, fun _ _ => ⟨g, rfl, rfl⟩, fun hh => absurd ((h12 (by simpa using hh)).1 11 (by omega)) (by simp [hfi])⟩
  ·cases ho
   have hall : ∀ k, k < 12 → f k = true := fun k hk => hpr k (by revert k; decide)
   obtain ⟨g, q3, rfl⟩ := h11 (hall 11 (by omega)) hfi
   have q10 := (h10 (hall 10 (by omega))).2
   obtain ⟨G2, cs2, A2, n2, c2, q2, r2⟩ := h2 (hall 2 (by omega))
   obtain ⟨G5, cs5, A5, n5, c5, q5, r5⟩ := h5 (hall 5 (by omega))
   obtain ⟨g9, q9, r9⟩ := h9 (hall 9 (by omega))
   rw [q2, q5, q9] at q10
   refine U1a 10 q2 (U1a 13 q5 (U1a 17 q9 (U1a 3 q3 (U1a 18 q10 ?_))))
   refine e0a (kk := 0) (vs := [_, _, _]) S R2a rfl rfl rfl rfl rfl rfl rfl ?_
   intro w1 S1 X1
   dsimp only [k0a, List.set] at S1
   refine S0a ⟨rfl, rfl, rfl, (some g, 38, [.slice A2 n2 c2, .slice A5 n5 c5, .slice (some ⟨g9, 0, none⟩) xb xb]), E9, E5, E2, S1, fun hh => h0 (by simpa using hh), fun hh => h1 (by simpa using hh), fun _ => ⟨G2, cs2, A2, n2, c2, rfl, r2⟩, fun hh => h3 (by simpa using hh), fun hh => h4 (by simpa using hh), fun _ => ⟨G5, cs5, A5, n5, c5, rfl, r5⟩, fun hh => h6 (by simpa using hh), fun hh => h7 (by simpa using hh), fun hh => h8 (by simpa using hh), fun _ => ⟨g9, rfl, r9⟩, fun _ => ⟨⟨by simp [hall 2 (by omega)], by simp [hall 5 (by omega)], by simp [hall 9 (by omega)]⟩, rfl⟩, fun _ hh => by simp at hh, fun _ => ⟨fun k hk => by simp [hall k hk], g, rfl, rfl⟩⟩
 rintro f ε w ⟨e1, e2, E11, E9, E5, E2, S, h0, h1, h2, h3, h4, h5, h6, h7, h8, h9, h10, h11, h12⟩ hall
 obtain ⟨-, g3, q3, rfl⟩ := h12 (hall 12 (by decide))
 obtain ⟨Gm, csm, Am, nm, cm, q10, rfl, Rm⟩ := h2 (hall 2 (by decide))
 obtain ⟨Ga, csa, Aa, na, ca, q13, rfl, Ra⟩ := h5 (hall 5 (by decide))
 obtain ⟨gb, q17, rfl⟩ := h9 (hall 9 (by decide))
 rw [q10, q13, q17] at S
 clear hall h0 h1 h2 h3 h4 h5 h6 h7 h8 h9 h10 h11 h12 q10 q13 q17
 refine fN 1 e1 (fN 2 e2 (fN 3 q3 ?_))
 replace S := S.nils (R := List.replicate xb (none, 81, [])) (fun b hb => by rw [List.eq_of_mem_replicate hb])
 refine fC S.k [.o 5] rfl ⟨rfl,⟨⟩⟩ ?_
 refine wL (fun μk D ε w => D = [] ∧ ∃ k : Nat, ∃ rows : List Ent, ∃ vs : List Value, (k + μk = (c.buf.length)) ∧ (j3a 81 (Gm.toList ++ (Ga.toList ++ ([gb, g3, g2] ++ M))) w rows vs (T2a c.buf [] k)) ∧ St [] w0 w ([(some g3, 38, [.slice Am nm cm, .slice Aa na ca, .slice (some ⟨gb, 0, none⟩) xb xb]), (some gb, 79, vs), (Ga, 3, csa), (Gm, 3, csm), (some g2, 38, [.slice none 0 0, .slice none 0 0, .slice none 0 0]), (some g1, 38, [.slice Xm xm ym, .slice Xa xa ya, .slice Xb xb yb])] ++ rows) ∧ Sl ε [(2, .pointer (some ⟨g2, 0, none⟩)), (3, .pointer (some ⟨g3, 0, none⟩)), (20, .slice Xb xb yb), (21, .int .i64 xb), (22, .int .i64 k)]) (μ := (c.buf.length)) ⟨rfl, 0, List.replicate xb (none, 81, []), List.replicate xb (.slice none 0 0), by omega, by rw [C6a, ← hnb]; exact j3a.nil xb, S, rfl⟩ ?_
 rintro μk D ε w ⟨rfl, k, rows, vs, hk, hR, S, eZ⟩
 refine wK eZ (wB0 rfl ⟨⟩ (fun h23 => ?_) fun h23 => ?_)
 ·obtain ⟨b, b25, p25, _, hxb, hA25, _, _, hc25, hr25⟩ := RdS.get (hBuf) (k) (by omega)
  obtain ⟨Ab25, nb25, cb25, rfl, hBu25, _, _⟩ := s5a.open_ hr25
  have q3 := (hf.bufs k b hxb)
  have hR0 : j3a 81 (Gm.toList ++ (Ga.toList ++ ([gb, g3, g2] ++ M))) w rows vs ((T2a c.buf [] k).set k (b.take 0)) := by rw [List.take_zero, G5b (a7b (S1a hxb))]; exact hR
  refine lC (S.k.a hc25) [.x b25 p25,.f 0 0] rfl ⟨rfl,⟨hA25,by omega⟩,⟨⟩⟩ (wL (fun μj D ε w => D = [] ∧ ∃ j : Nat, ∃ rows2 : List Ent, ∃ vs2 : List Value, (j + μj = (b.length)) ∧ (j3a 81 (Gm.toList ++ (Ga.toList ++ ([gb, g3, g2] ++ M))) w rows2 vs2 ((T2a c.buf [] k).set k (b.take j))) ∧ St [] w0 w ([(some g3, 38, [.slice Am nm cm, .slice Aa na ca, .slice (some ⟨gb, 0, none⟩) xb xb]), (some gb, 79, vs2), (Ga, 3, csa), (Gm, 3, csm), (some g2, 38, [.slice none 0 0, .slice none 0 0, .slice none 0 0]), (some g1, 38, [.slice Xm xm ym, .slice Xa xa ya, .slice Xb xb yb])] ++ rows2) ∧ Sl ε [(2, .pointer (some ⟨g2, 0, none⟩)), (3, .pointer (some ⟨g3, 0, none⟩)), (4, .int .i64 k), (20, .slice Xb xb yb), (21, .int .i64 xb), (22, .int .i64 k), (27, .slice Ab25 nb25 cb25), (28, .int .i64 nb25), (29, .int .i64 j)]) (μ := (b.length)) ⟨rfl, 0, rows, vs, by omega, hR0, S, rfl⟩ ?_)
  rintro μj D ε w ⟨rfl, j, rows2, vs2, _, hR2, S, eZ⟩
  refine wK eZ ?_
  have K := w0a.refl [] w
  have hGl : ∀ g ∈ (Gm.toList ++ (Ga.toList ++ ([gb, g3, g2] ++ M))) ++ L8a rows2, g < w.heap.size := by
   intro g hg
   simp only [List.mem_append, List.mem_cons, List.not_mem_nil, or_false] at hg
   rcases hg with (hg | hg | (rfl | rfl | rfl) | hg) | hg
   ·exact M0b S (k := 3) rfl g hg
   ·exact M0b S (k := 2) rfl g hg
   ·exact S.lt 1 rfl
   ·exact S.lt 0 rfl
   ·exact S.lt 4 rfl
   ·have := hM g hg; have := S.size; omega
   ·obtain ⟨x, hx, hg⟩ := v3a.1 hg; exact (S.own x (List.mem_append_right _ hx) g hg).2.lt
  refine wB0 rfl ⟨⟩ (fun h30 => ?_) fun h30 => ?_
  ·obtain ⟨en, b31, p31, _, hxen, hA31, _, hl31, hc31, hr31⟩ := RdS.get (hBu25) (j) (by omega)
   obtain ⟨_, _, _, _, _, _, rfl, hCe31, hVa31, _, _, _, _⟩ := V0a.open_ hr31
   have q4 := (q3.2.1 en (c0a hxen)).len
   have q5 := (q3.2.1 en (c0a hxen)).even
   unfold G0a.even at q5
   refine lO (S.k.a hc31) [.x b31 p31,.v 0] rfl ⟨⟨rfl,hl31⟩,⟨hA31,by omega⟩,⟨⟩⟩ (n0a S n9a rfl rfl ?_)
   intro g7 w7 S7 X7 G7
   have GK7 := Nat.le_trans K.size G7
   replace K := K.trans X7
   refine e0a (kk := 0) (vs := [_, _]) S7 Z9a rfl rfl rfl rfl rfl rfl rfl ?_
   intro w7_3 S7_3 X7_3
   dsimp only [k0a, List.set] at S7_3
   replace K := K.fresh X7_3 (by first | exact GK7)
   obtain ⟨G, cs', v, hrk, hvk, hrow⟩ := hR2.2.2 k (b.take j) (by rw [List.getElem?_set_self (by simp; omega)])
   obtain ⟨_, _, rfl⟩ := hrow.form
   have hvl : vs2.length = c.buf.length := by have := hR2.2.1; simpa using this
   have hlen0 : (b.take j).length = j := by rw [List.length_take]; omega
   have hGb : ∀ g ∈ G.toList, g ∈ (Gm.toList ++ (Ga.toList ++ ([gb, g3, g2] ++ M))) ++ L8a rows2 := fun g hg => List.mem_append_right _ (v3a.2 ⟨_, List.mem_of_getElem? hrk, by cases G <;> simp at hg ⊢; exact hg.symm⟩)
   refine lC0 rfl ⟨⟩ (K0b b0a (fun i => [0, 1, 2, 3, 4, 5, 6, 7, 8, 9, 11, 12, 14, 17].contains i) [0, 1, 2, 3, 4, 5, 6, 7, 8, 9, 10, 11, 12, 13, 14, 15, 16, 17] 18 (by kernel_rfl) (by kernel_rfl) (clF (A := [_, _, _, _, _, _, _]) (R := rows2) S7_3 G.toList) _ rfl ?_)
   have SR8 := S7_3.drew
   have YR8 : w0a [] w7_3 w7_3.drew := F2a _ _
   generalize w7_3.drew = wR8 at SR8 YR8 ⊢
   have XR8 : w0a (G.toList) _ _ := YR8.of_nil
   replace K := K.trans YR8
   refine N1a ⟨(St.front (A := [_, _, _, _, _, _, _]) SR8), XR8⟩ rfl rfl rfl ?_
   refine F0a h5a rfl rfl ?_
   refine d0a ?_
   refine N1a ⟨(St.front (A := [_, _, _, _, _, _, _]) SR8), XR8⟩ rfl rfl rfl ?_
   refine h0a n6a rfl (fun w1 hw => by exact hw.1.cell 1 rfl rfl) rfl ?_
   refine d0a ?_
   refine N1a ⟨(St.front (A := [_, _, _, _, _, _, _]) SR8), XR8⟩ rfl rfl rfl ?_
   refine e1a (v := .int .i64 _) rfl rfl ?_
   refine d0a ?_
   refine N1a ⟨(St.front (A := [_, _, _, _, _, _, _]) SR8), XR8⟩ rfl rfl rfl ?_
   refine F0a h5a rfl rfl ?_
   refine d0a ?_
   refine N1a ⟨(St.front (A := [_, _, _, _, _, _, _]) SR8), XR8⟩ rfl rfl rfl ?_
   refine h0a n6a rfl (fun w1 hw => by exact hw.1.cell 1 rfl rfl) rfl ?_
   refine d0a ?_
   refine N1a ⟨(St.front (A := [_, _, _, _, _, _, _]) SR8), XR8⟩ rfl rfl rfl ?_
   refine e1a (v := .int .i64 _) rfl rfl ?_
   refine d0a ?_
   refine N1a ⟨(St.front (A := [_, _, _, _, _, _, _]) SR8), XR8⟩ rfl rfl rfl ?_
   refine m0a L4a.slT rfl (by rfl) rfl (by omega) (by omega) rfl ?_
   refine d0a ?_
   refine N1a ⟨(St.front (A := [_, _, _, _, _, _, _]) SR8), XR8⟩ rfl rfl rfl ?_
   refine h0a z3b rfl (fun w1 hw => by exact hw.1.cell 2 rfl ((congrArg (vs2[·]?) (show 0 + (k : Int).toNat * 1 = k by simp)).trans hvk)) rfl ?_
   refine d0a ?_
   refine N1a ⟨(St.front (A := [_, _, _, _, _, _, _]) SR8), XR8⟩ rfl rfl rfl ?_
   refine F0a o5b rfl rfl ?_
   refine d0a ?_
   refine N1a ⟨(St.front (A := [_, _, _, _, _, _, _]) SR8), XR8⟩ rfl rfl rfl ?_
   refine h0a P3a rfl (fun w1 hw => by exact hw.1.cell 0 rfl rfl) rfl ?_
   refine d0a ?_
   refine T9a ⟨(St.front (A := [_, _, _, _, _, _, _]) SR8), XR8⟩ rfl rfl rfl rfl ?_
   have hG43 : ∀ g ∈ (Gm.toList ++ (Ga.toList ++ ([gb, g3, g2] ++ M))) ++ L8a rows2, g < wR8.heap.size := fun g hg => Nat.lt_of_lt_of_le (hGl g hg) K.size
   refine B0a SR8 g9a rfl rfl (g3b _ M _ _ en.cells (hCe31.keep (SR8.keep0 M)) (by omega) hG43) ?_
   rintro v43 w43 hC43 S43 X43
   have XCw43 := XR8.trans (X43.mono (by simp))
   replace K := K.trans X43
   obtain ⟨_, _, _, rfl⟩ := hC43.form
   refine S0a ⟨rfl, ?_⟩
   refine N1a ⟨(St.front (A := [_, _, _, _, _, _, _]) S43), XCw43⟩ rfl rfl rfl ?_
   refine F0a H7b rfl rfl ?_
   refine d0a ?_
   refine N1a ⟨(St.front (A := [_, _, _, _, _, _, _]) S43), XCw43⟩ rfl rfl rfl ?_
   refine h0a P3a rfl (fun w1 hw => by exact hw.1.cell 0 rfl rfl) rfl ?_
   refine d0a ?_
   refine T9a ⟨(St.front (A := [_, _, _, _, _, _, _]) S43), XCw43⟩ rfl rfl rfl rfl ?_
   have hG46 : ∀ g ∈ (Gm.toList ++ (Ga.toList ++ ([gb, g3, g2] ++ M))) ++ L8a rows2, g < w43.heap.size := fun g hg => Nat.lt_of_lt_of_le (hGl g hg) K.size
   refine B0a S43 g9a rfl rfl (g3b _ M _ _ en.values (hVa31.keep (S43.keep0 M)) (by omega) hG46) ?_
   rintro v46 w46 hC46 S46 X46
   have XCw46 := XCw43.trans (X46.mono (by simp))
   replace K := K.trans X46
   replace hC43 := hC43.keep (X46.of_nil)
   obtain ⟨_, _, _, rfl⟩ := hC46.form
   refine S0a ⟨rfl, ?_⟩
   refine N1a ⟨(St.front (A := [_, _, _, _, _, _, _]) S46), XCw46⟩ rfl rfl rfl ?_
   refine h2a k7c (vs := [(0, .slice _ _ _), (1, .slice _ _ _)]) (cs := [_, _]) rfl rfl rfl rfl ?_
   refine d0a ?_
   refine T9a ⟨(St.front (A := [_, _, _, _, _, _, _]) S46), XCw46⟩ rfl rfl rfl rfl ?_
   refine E0a S46 F4a (vs := [.agg _]) (cs := [_, _]) (by rfl) rfl rfl rfl rfl rfl rfl ?_
   intro g48 w48 S48 X48 G48
   have XCw48 := XCw46.trans (X48.mono (by simp))
   replace K := K.trans X48
   replace hC43 := hC43.keep (X48.of_nil)
   replace hC46 := hC46.keep (X48.of_nil)
   refine S0a ⟨rfl, ?_⟩
   refine T9a ⟨(St.front (A := [_, _, _, _, _, _, _, _]) S48).tail, XCw48⟩ rfl rfl rfl rfl ?_
   have hR3 := hR2.keep (K.of_nil)
   obtain ⟨G', cs'', _, hrk', hvk', hrow2⟩ := hR3.2.2 k (b.take j) (by rw [List.getElem?_set_self (by simp; omega)])
   obtain ⟨rfl, rfl⟩ : G = G' ∧ cs' = cs'' := by rw [hrk] at hrk'; cases hrk'; exact ⟨rfl, rfl⟩
   obtain rfl := Option.some.inj (hvk.symm.trans hvk')
   refine C1a j2a (k := 8 + k) (e1 := en) S48 F4a (by decide) ((I6c [_, _, _, _, _, _, _, _] rows2 k 8 rfl).trans hrk) hrow2 rfl rfl (S48.cells 0 rfl) ⟨_, _, rfl, hC43.more (by omega) (fun g hg => .inl (by rcases List.mem_append.1 hg with h | h; exact hGb g h; exact h)), hC46.more (by omega) (fun g hg => .inl (by rcases List.mem_append.1 hg with h | h; exact hGb g h; exact h))⟩ (by omega) rfl ?_
   intro v49 G49 cs49 w49 S49' hrow49 X49 F49
   have S49 : St [] w0 w49 ([_, _, _, _, _, _, _, _] ++ rows2.set k (G49, 81, cs49)) := (R8c [_, _, _, _, _, _, _, _] rows2 k 8 rfl _) ▸ S49'
   have S49b := S49.tail
   have XC49 := XCw48.trans X49
   have hR49 : j3a 81 (Gm.toList ++ (Ga.toList ++ ([gb, g3, g2] ++ M))) w49 (rows2.set k (G49, 81, cs49)) (vs2.set k v49) ((T2a c.buf [] k).set k (b.take (j + 1))) := by
    have := hR3.put (k := k) (by simp; omega) hrow49 X49 F49 hrk
    rw [List.set_set] at this
    rw [J0a hxen]; exact this
   obtain ⟨_, _, hv49⟩ := hrow49.form
   subst hv49
   refine S0a ⟨rfl, ?_⟩
   refine N1a ⟨(St.front (A := [_, _, _, _, _, _, _]) S49b), XC49⟩ rfl rfl rfl ?_
   refine m0a L4a.slT rfl (by rfl) rfl (by omega) (by omega) rfl ?_
   refine d0a ?_
   refine W5a ⟨(St.front (A := [_, _, _, _, _, _, _]) S49b), XC49⟩ ?_
   first | refine I0a (kk := 2) S49b t5c rfl (by conv => lhs; whnf) rfl rfl (by (simp; omega)) ?_
   intro w8_18 S8_18 X8_18
   replace hR49 := hR49.keep (X8_18.mono (by simp))
   refine S0a ⟨rfl, ?_⟩
   refine fP0 rfl ⟨by omega,⟨⟩⟩ ⟨μj - 1, by omega, rfl, (j + 1), (rows2.set k (G49, 81, cs49)), (vs2.set k _), (by omega), (hR49), (S8_18.tail.setEnt 1 rfl (by simp)), rfl⟩
  refine lP0 rfl ⟨by omega,⟨⟩⟩ ?_
  refine ⟨μk - 1, by omega, rfl, (k + 1), (rows2), (vs2), (by omega), (by rw [← m8a hxb rfl]; rw [List.take_of_length_le (by omega)] at hR2; exact hR2), S, rfl⟩
 refine lO0 rfl ⟨⟩ (w1a p1a rfl (S.cells 0 rfl) rfl rfl ?_)
 first | refine e0a (kk := 4) (vs := [_, _, _]) S R2a rfl rfl rfl rfl rfl rfl rfl ?_
 intro w11_1 S11_1 X11_1
 dsimp only [k0a, List.set] at S11_1
 replace hR := hR.keep (X11_1.mono (by simp))
 refine lR0 rfl ⟨⟩ ?_
 rw [Z7a _ _ (by omega)] at hR
 refine r1a (n := 3) rfl p1a rfl (S11_1.cells 4 rfl) rfl ⟨⟨Gm, Ga, csm, csa, _, _, gb, rows, vs, by rw [← hnb], Rm, Ra, S11_1.sublist ?_, hR.less ?_⟩, S11_1.fin⟩
 ·exact .cons _ (.cons_cons _ (.cons_cons _ (.cons_cons _ (.cons _ (.cons _ (List.Sublist.refl _))))))
 ·intro g hg
  simp only [List.mem_append, List.mem_cons] at hg ⊢
  rcases hg with h | h | h | h <;> simp [h]
section
variable {P : Program} {r : Option Nat} {N : Nat} {D : List Deferred} {e : Env} {w w0 : World} {ops : Array Oper} {rest : List Oper} {K : List Deferred → Env → World → Prop} {L : List Ent} {M : List Nat}
variable {d : Nat} {t : TypeId} {p : String} {af : Array Edge} {x y : Operand} {kd : IntKind}
theorem g6c {o : Oper} {v : Value} {w' : World} (hg : o.guard = none) (hdst : o.dst = none) (hdef : ∀ c, o.op ≠ .defer c)
 (hrun : (execOp (ev e) o).run P w = .ok (.value v) w') (h : WL P r N ops rest K D e w') : WL P r N ops (o :: rest) K D e w := by
 unfold WL at *; intro a Q hs hdd he hK
 have hrec := h a Q hs hdd he hK
 simp only [wpListIn, Region.wanted, hg, if_true]
 refine ⟨u0a o w _, ?_⟩
 have : Oper.semAt (fc r).round a.eval o = execOp (ev e) o := by rw [Oper.semAt_eq _ _ _ hdef, c2a, he]
 rw [this, hrun, Oper.uponIn_value, hdst]
 exact hrec
theorem B2b {ty el size bytes k n m c b o g cap : Nat} {z : Value} {cs xs news : List Value} (S : St M w0 w L) (hS : SlZ P ty el size z bytes) (hk : L[k]? = some (some g, el, cs)) (hR : C3a (some g) size n cs (.slice (some ⟨g, 0, none⟩) n cap) xs)
 (hx : ev e x = .slice (some ⟨g, 0, none⟩) n cap) (hy : ev e y = .slice (some ⟨b, o, none⟩) m c) (hnews : k1a w b o news) (hl : news.length = m * size) (h1 : ∀ u ∈ news, u.oneCell' = true) (hroom : n + m ≤ cap) (hd : Nat.ble (d + 1) N = true)
 (h : ∀ cs' w1, St M w0 w1 (L.set k (some g, el, cs')) → C3a (some g) size (n + m) cs' (.slice (some ⟨g, 0, none⟩) (n + m) cap) (xs ++ news) → w0a [g] w w1 → WL P r N ops rest K D (upd e d (.slice (some ⟨g, 0, none⟩) (n + m) cap)) w1) :
 WL P r N ops (⟨some d, .call { callee := .builtin .append, args := #[x, y], argTypes := #[ty, ty] }, t, p, af, none⟩ :: rest) K D e w := by
 obtain ⟨i, hi, _, hsz, _⟩ := hS.parts
 obtain ⟨hown, _⟩ := hR.own S hk
 obtain ⟨w1, hrun, hown', hgrow⟩ := run_append_fits (P := P) w 0 ty t el i size hS.und hi hsz g n cap xs hown ⟨b, o, none⟩ m c news hl (fun j u hj => by rw [Addr.add_lit]; exact hnews j u hj) h1 hroom
 obtain ⟨G', cs', hR', hG', hnew⟩ := J7a hown'
 obtain rfl : G' = some g := hG'.symm
 obtain ⟨_, hblk⟩ := hnew g rfl
 have hsame : ∀ q, q < w.heap.size → some g ≠ some q → w1.heap[q]? = w.heap[q]? := fun q hq hne => hgrow.block q hq hne.symm
 have hB : v0a [g] w w1 := ⟨hgrow.os, hgrow.tape, hgrow.output, hgrow.size, fun q hq hm => hsame q hq (fun hh => hm (by cases hh; simp))⟩
 refine c1a (v := .slice (some ⟨g, 0, none⟩) (n + m) cap) (w' := w1) rfl rfl hd (by simp) ?_ (h cs' w1 (S.changed1 k hk hB hblk) hR' ⟨hgrow.size, fun q hq hm => hsame q hq (fun hh => hm (by cases hh; simp))⟩)
 simp [execOp, resolve, invoke, builtin, hx, hy, hrun]
theorem R2c {ty el size bytes g o c tb kk : Nat} {z : Value} {cs : List Value} (S : St M w0 w L) (hS : SlZ P ty el size z bytes) (hx : ev e x = .slice (some ⟨g, o, none⟩) 1 c) (hk : L[kk]? = some (some g, tb, cs)) (ho : o + z.cells.toList.length ≤ cs.length) (h1 : ∀ v ∈ z.cells.toList, Y5c v = true)
 (h : ∀ w1, St M w0 w1 (L.set kk (some g, tb, k0a cs o z.cells.toList)) → w0a [g] w w1 → WL P r N ops rest K D e w1) :
 WL P r N ops (⟨none, .call { callee := .builtin .clear, args := #[x], argTypes := #[ty] }, t, p, af, none⟩ :: rest) K D e w := by
 obtain ⟨_, hi, hz, _, _⟩ := hS.parts
 obtain ⟨w1, h2, h3, h4⟩ := St.setN (P := P) (o := o) z.cells.toList 0 cs w L hk S (by simpa using ho) h1
 have hzc : (Builtin.zeroCells z.cells 1).toList = z.cells.toList := by
  apply List.ext_getElem
  ·simp [Builtin.zeroCells]
  ·intro j q1 q2
   simp [Builtin.zeroCells] at q1 q2 ⊢
   simp [Nat.mod_eq_of_lt q2, q2]
 have hzv : ∀ w, (zeroValue el).run P w = .ok z w := fun w => by simp [zeroValue, typeInfo, hi, hz]
 refine g6c (v := .tuple #[]) rfl rfl (by simp) ?_ (h w1 h3 h4)
 simp [execOp, resolve, invoke, builtin, Builtin.clear_, hx, run_underlying hS.und, hzv, hzc, h2]
theorem k1c {ty size lo hi mx c n o b : Nat} {xl xh xm : Operand} (hT : SlT P ty size) (hx : ev e x = .slice (some ⟨b, o, none⟩) n c) (hl : ev e xl = .int kd (lo : Int)) (hh : ev e xh = .int kd (hi : Int)) (hm : ev e xm = .int kd (mx : Int)) (h1 : lo ≤ hi) (h2 : hi ≤ mx) (h3 : mx ≤ c) (hd : Nat.ble (d + 1) N = true)
 (h : ∀ v, WL P r N ops rest K D (upd e d v) w) :
 WL P r N ops (⟨some d, .slice ty x (some xl) (some xh) (some xm), t, p, af, none⟩ :: rest) K D e w := by
 obtain ⟨_, hu, hsz⟩ := m5a hT
 have e0 : (0 : Int) ≤ (mx : Int) ∧ (mx : Int) ≤ (c : Int) := by omega
 have e1 : (0 : Int) ≤ (lo : Int) ∧ (lo : Int) ≤ (hi : Int) := by omega
 have e2 : (0 : Int) ≤ (hi : Int) ∧ (hi : Int) ≤ (mx : Int) := by omega
 refine c1a (v := .slice (if mx = lo then some ⟨b, o, none⟩ else some ⟨b, o + lo * size, none⟩) (hi - lo) (mx - lo)) rfl rfl hd (by simp) ?_ (h _)
 have hrun : (Instr.slice ty (.slice (some ⟨b, o, none⟩) n c) (some (.int kd (lo : Int))) (some (.int kd (hi : Int))) (some (.int kd (mx : Int)))).run P w = .ok (.slice (if mx = lo then some ⟨b, o, none⟩ else some ⟨b, o + lo * size, none⟩) (hi - lo) (mx - lo)) w := by
  simp [Instr.slice, Instr.sliceBounds, Instr.sliceBound, asIntOf, run_underlying hu, hsz, e0, e1, e2, h1, h2, h3, Addr.add_lit]
 simp only [execOp, Instr.sliceAt, Sem.run_bind, run_underlying hu, Result.andThen_ok, hx, Option.map_some, hl, hh, hm, hrun, Sem.run_pure]
end
theorem D2b {size : Nat} : ∀ (css : List (List Value)) (i : Nat), (∀ x ∈ css, x.length = size) → css.flatten.take (i * size) = (css.take i).flatten
 | [], i, _ => by simp
 | x :: css, 0, _ => by simp
 | x :: css, i + 1, h => by
   have hx := h x (by simp)
   rw [List.flatten_cons, List.take_succ_cons, List.flatten_cons, ← D2b css i (fun y hy => h y (by simp [hy])), Nat.add_mul, Nat.one_mul, List.take_append, hx, Nat.add_sub_cancel, List.take_of_length_le (by omega)]
theorem p2b {size : Nat} : ∀ (css : List (List Value)) (i : Nat), (∀ x ∈ css, x.length = size) → css.flatten.drop (i * size) = (css.drop i).flatten
 | [], i, _ => by simp
 | x :: css, 0, _ => by simp
 | x :: css, i + 1, h => by
   have hx := h x (by simp)
   rw [List.flatten_cons, List.drop_succ_cons, ← p2b css i (fun y hy => h y (by simp [hy])), Nat.add_mul, Nat.one_mul, List.drop_append, hx, Nat.add_sub_cancel, List.drop_eq_nil_of_le (by omega), List.nil_append]
theorem W3a : ∀ (vs cs : List Value) (o : Nat), (k0a cs o vs).length = cs.length
 | [], _, _ => rfl
 | v :: vs, cs, o => by rw [k0a, W3a vs, List.length_set]
theorem b9a : ∀ (vs cs : List Value) (o n : Nat), n ≤ o → (k0a cs o vs).take n = cs.take n
 | [], _, _, _, _ => rfl
 | v :: vs, cs, o, n, h => by rw [k0a, b9a vs _ _ _ (by omega), List.take_set_of_le h]
theorem O8b (g cap n i : Nat) (css : List (List Value)) (cs : List Value) (w0 : World) (hB : p0a w0 (g, 81, cs)) (hR : C3a (some g) 2 n cs (.slice (some ⟨g, 0, none⟩) n cap) css.flatten) (hn : css.length = n) (h2 : ∀ x ∈ css, x.length = 2) (h1 : ∀ u ∈ css.flatten, u.oneCell' = true) (hi : i < n) (hbig : n ≤ 1000000) :
 M0a Tryz.prog 147 #[.slice (some ⟨g, 0, none⟩) n cap, .int .i64 i, .int .i64 ((i : Int) + 1)] w0 fun v w' => v = .slice (some ⟨g, 0, none⟩) (n - 1) cap ∧ v0a [g] w0 w' ∧ ∃ cs', p0a w' (g, 81, cs') ∧ C3a (some g) 2 (n - 1) cs' (.slice (some ⟨g, 0, none⟩) (n - 1) cap) (css.eraseIdx i).flatten := by
 have S := St.borrow1 hB
 obtain ⟨_, r2⟩ := hR
 obtain ⟨hcap, hmax, hcl, htk⟩ : n ≤ cap ∧ cap ≤ maxLen ∧ cs.length = cap * 2 ∧ cs.take (n * 2) = css.flatten := by
  rcases r2 with ⟨h, _⟩ | ⟨g', cap', h, h', a, b, c, d⟩
  ·cases h
  ·cases h; cases h'; exact ⟨a, b, c, d⟩
 have hpre : C3a (some g) 2 i cs (.slice (some ⟨g, 0, none⟩) i cap) (css.take i).flatten := by
  refine ⟨?_, .inr ⟨g, cap, rfl, rfl, by omega, hmax, hcl, ?_⟩⟩
  ·rw [x3a _ (fun x hx => h2 x (List.mem_of_mem_take hx)), List.length_take]; congr 1; omega
  ·rw [← D2b css i h2, ← htk, List.take_take]; congr 1; omega
 have hsrc : ∃ o, (if cap = i + 1 then (⟨g, 0, none⟩ : Addr) else ⟨g, 0 + (i + 1) * 2, none⟩) = ⟨g, o, none⟩ ∧ k1a w0 g o (css.drop (i + 1)).flatten := by
  by_cases hc : cap = i + 1
  ·refine ⟨0, by rw [if_pos hc], ?_⟩
   rw [List.drop_eq_nil_of_le (by omega)]
   intro j v hj; simp at hj
  ·refine ⟨0 + (i + 1) * 2, by rw [if_neg hc], fun j v hj => ?_⟩
   rw [← p2b css (i + 1) h2, ← htk, List.getElem?_drop, List.getElem?_take] at hj
   split at hj
   ·exact hB.cell (by rw [Nat.zero_add]; exact hj)
   ·cases hj
 obtain ⟨_, hos, hcells⟩ := hsrc
 have hnl : (css.drop (i + 1)).flatten.length = (n - (i + 1)) * 2 := by rw [x3a _ (fun x hx => h2 x (List.mem_of_mem_drop hx)), List.length_drop, hn]
 have hone : ∀ u ∈ (css.drop (i + 1)).flatten, u.oneCell' = true := fun u hu => h1 u (by
  obtain ⟨x, hx, hu⟩ := List.mem_flatten.1 hu
  exact List.mem_flatten.2 ⟨x, List.mem_of_mem_drop hx, hu⟩)
 have hcast : ((i : Int) + 1) = ((i + 1 : Nat) : Int) := by omega
 refine a0a Tryz.func147 rfl Tryz.ntmps147 rfl ?_
 refine wO0 rfl ⟨⟩ ?_
 refine k1c (lo := i) (hi := i + 1) (mx := n) F4a.slT rfl rfl (by rw [← hcast]; rfl) rfl (by omega) (by omega) hcap rfl ?_
 intro v13
 refine lB0 rfl ⟨⟩ (fun h16 => by exfalso; omega) fun h16 => ?_
 refine lC0 rfl ⟨⟩ (D0a b0a [0, 1, 2, 3, 4, 5] [] [6, 7] (by kernel_rfl) rfl (Cl _ _ _ _) (Cl.start S) ?_)
 refine qO0 rfl ⟨⟩ (M4b (lo := 0) (hi := i) (kd := .i64) F4a.slT rfl (.inl ⟨rfl, rfl⟩) (.inr rfl) (by omega) (by omega) hcap rfl ?_)
 simp only [Nat.zero_mul, Nat.add_zero, Nat.sub_zero, ite_self]
 refine qO0 rfl ⟨⟩ ?_
 refine M4b (lo := i + 1) (hi := n) (kd := .i64) F4a.slT rfl (.inr (by rw [← hcast]; rfl)) (.inl ⟨rfl, rfl⟩) (by omega) (by omega) hcap rfl ?_
 rw [hos]
 refine qD rfl ⟨⟩ ?_
 rintro wR5 ⟨SR5, XR5⟩
 refine B2b (k := 0) SR5 F4a rfl hpre rfl rfl (hcells.keep (M := []) XR5 (by simp)) hnl hone (by omega) rfl ?_
 intro cs26 w26 S26 R26 X26
 have e26 : i + (n - (i + 1)) = n - 1 := by omega
 rw [e26] at R26 ⊢
 refine lO0 rfl ⟨⟩ (g1b (lo := n - 1) (hi := n) (kd := .i64) F4a.slT rfl (.inr rfl) (.inr rfl) (by omega) (by omega) (by omega) rfl ?_)
 rw [if_neg (show ¬ cap = n - 1 by omega), show n - (n - 1) = 1 by omega]
 obtain ⟨rc, rt⟩ : cs26.length = cap * 2 ∧ cs26.take ((n - 1) * 2) = (css.take i).flatten ++ (css.drop (i + 1)).flatten := by
  rcases R26.2 with ⟨h, _⟩ | ⟨g', cap', h, h', a, b, c, d⟩
  ·cases h
  ·cases h; cases h'; exact ⟨c, d⟩
 refine R2c (kk := 0) S26 F4a rfl rfl (by rw [rc]; simp [Value.cells]; omega) (by simp [Value.cells, Y5c]) ?_
 intro w65 S65 X65
 refine lT rfl ⟨⟩ rfl ⟨rfl, S65.below, _, S65.blk 0 rfl, ?_, .inr ⟨g, cap, rfl, rfl, by omega, hmax, ?_, ?_⟩⟩
 ·rw [x3a _ (fun x hx => h2 x (List.mem_of_mem_eraseIdx hx)), List.length_eraseIdx, if_pos (by omega), hn]
 ·rw [W3a]; exact rc
 ·rw [b9a _ _ _ _ (by omega), rt, List.eraseIdx_eq_take_drop_succ, List.flatten_append]
theorem V8b (p : f0a) (hp : b1a p) (c : q0a) (t i : Nat) (b : List G0a) (M : List Nat) (w0 : World) (hM : ∀ g ∈ M, g < w0.heap.size) (cs xs : List Value) (m : Int) (hI : InP p M w0 cs) (hX : t0a M w0 c xs) (hf : D3a p c) (hxb : c.buf[t]? = some b) (hi : i < b.length) :
 M0a Tryz.prog 111 #[.agg (xs ++ (cs ++ [Value.int .i64 m])).toArray, .int .i64 t, .int .i64 i] w0 fun v w' => (∃ ys, v = .agg ys.toArray ∧ t0a M w' (v4a c t i) ys) ∧ Below w0.heap.size w0 w' := by
 obtain ⟨_, _, _, _, _, _, _, _, _, _, _, _, rfl, -⟩ := hI.rd.open_
 obtain ⟨_, _, _, _, _, _, _, _, _, rfl, _, _, _, _, _, _, _, _, _⟩ := hX.open_
 have S := St.refl w0
 have f1 := hf.mem.len
 have n1 := hp.ncells
 have n2 := hp.nthreads
 have f3 := hf.nbuf
 have ht := S1a hxb
 have hbo := hf.bufs t b hxb
 have hf' := i0b hf t i
 obtain ⟨en, hxen⟩ : ∃ en, b[i]? = some en := ⟨b[i], List.getElem?_eq_getElem hi⟩
 have q1 := hbo.2.1 en (c0a hxen)
 have q2 := q1.i64s
 have q3 : 0 < c.mem.length := by
  cases hcl : en.cells with
  | nil => exact absurd hcl q1.some_
  | cons x l => have := q2 x (by rw [hcl]; simp); omega
 have hce : v4a c t i = ⟨g3a c.mem en, c.at_, c.buf.set t (b.eraseIdx i)⟩ := by unfold v4a; rw [getD_some hxb, getD_some hxen]
 rw [hce] at hf' ⊢
 refine a0a Tryz.func111 rfl Tryz.ntmps111 rfl ?_
 refine wO0 rfl ⟨⟩ (j0a S (by conv => lhs; whnf) rfl ?_)
 intro g3 w3 S3 X3 G3
 refine n0a S3 C5a rfl rfl ?_
 intro g6 w6 S6 X6 G6
 refine lO S6.k [.o 1] rfl ⟨rfl,⟨⟩⟩ ?_
 have hX2 : t0a (g6 :: g3 :: M) w6 c _ := (hX.more (fun g hg => by rcases List.mem_cons.1 hg with rfl | hg; exact .inr (by simpa using S6.new 0 rfl); rcases List.mem_cons.1 hg with rfl | hg; exact .inr (by simpa using S6.new 1 rfl); exact .inl hg)).keep (S6.keep0 _)
 have hM2 : ∀ g ∈ g6 :: g3 :: M, g < w6.heap.size := fun g hg => by
  rcases List.mem_cons.1 hg with rfl | hg
  ·exact S6.lt 0 rfl
  ·rcases List.mem_cons.1 hg with rfl | hg
   ·exact S6.lt 1 rfl
   ·have := hM g hg; have := S6.size; omega
 refine e2a b0c rfl rfl (g6b p hp c (g6 :: g3 :: M) _ hM2 _ hX2 hf) ?_
 rintro v10 w10 ⟨⟨_, _, _, _, _, _, _, rows, vs, rfl, Rm, Ra, S10', hR⟩, -⟩
 have S10 := S6.joinR S10'
 obtain ⟨gm, pad, rfl, rfl, rfl, hmx⟩ := Rm.pad q3
 obtain ⟨_, _, _, rfl⟩ := Ra.form
 have K := w0a.refl [] w10
 refine n0a S10 C5a rfl rfl ?_
 intro g7 w7 S7 X7 G7
 have GK7 := Nat.le_trans K.size G7
 replace K := K.trans X7
 refine e0a (kk := 0) (vs := [_, _, _]) S7 R2a rfl rfl rfl rfl rfl rfl rfl ?_
 intro w1_4 S1_4 X1_4
 dsimp only [k0a, List.set] at S1_4
 replace K := K.fresh X1_4 (by first | exact GK7)
 have hR2 := hR.keep (K.of_nil)
 obtain ⟨G, cs', v, hrk, hvk, hrow⟩ := hR2.2.2 t b hxb
 obtain ⟨g, cap, _, rfl, rfl, _, hcE, hrE⟩ := hrow.get S1_4 (k := 6 + t) ((I6c [_, _, _, _, _, _] rows t 6 rfl).trans hrk) hxen
 obtain ⟨_, _, _, _, _, _, rfl, -⟩ := hrE.open_
 have hvl : vs.length = c.buf.length := hR2.2.1
 refine lC0 rfl ⟨⟩ (D0a b0a [0, 1, 2, 3, 4, 5, 6, 7, 8, 9] [] [10] (by kernel_rfl) rfl (Cl _ _ _ _) (Cl.start S1_4) ?_)
 refine qO S1_4.q [.o 0,.o 0] rfl ⟨rfl,rfl,⟨⟩⟩ (m0a L4a.slT rfl (by rfl) rfl (by omega) (by omega) rfl ?_)
 refine h0a z3b rfl (fun w1 hw => by exact hw.1.cell 1 rfl ((congrArg (vs[·]?) (show 0 + (t : Int).toNat * 1 = t by simp)).trans hvk)) rfl ?_
 refine qO0 rfl ⟨⟩ (m0a F4a.slT rfl (by rfl) rfl (by omega) (by omega) rfl ?_)
 refine I1a A4b rfl (fun w1 hw => hcE.keep (M := []) hw.2 (by simp)) (by rfl) rfl ?_
 refine qD rfl ⟨⟩ ?_
 rintro wR2 ⟨SR2, XR2⟩
 refine e2a L9b rfl rfl (w5b en c.mem gm _ pad (gm :: []) _ _ (V0a.keep XR2.of_nil _ _ (V0a.more (fun x hx => by simp at hx; subst hx; simp) _ _ hrE)) (by simp) (SR2.blk 3 rfl) q1.even (fun x hx => by have := q2 x hx; omega)) ?_
 rintro v21 w21 ⟨hb21, B21⟩
 have S21 := SR2.changed1 3 rfl B21 hb21
 have X21 : w0a [gm] _ w21 := w0a.of_belowB B21
 have hR3 := (hR2.keep XR2.of_nil).keep (X21.mono (by simp))
 refine lC0 rfl ⟨⟩ (K0b b0a (fun i => [0, 1, 2, 3, 4, 5, 6, 7, 8, 9, 10, 12].contains i) [0, 1, 2, 3, 4, 5, 6, 7, 8, 9, 10, 11, 12] 13 (by kernel_rfl) (by kernel_rfl) (clF (A := [_, _, _, _, _, _]) (R := rows) S21 [g]) _ rfl ?_)
 have SR3 := S21.drew
 have YR3 : w0a [] w21 w21.drew := F2a _ _
 generalize w21.drew = wR3 at SR3 YR3 ⊢
 have XR3 : w0a ([g]) _ _ := YR3.of_nil
 refine N1a ⟨(St.front (A := [_, _, _, _, _, _]) SR3), XR3⟩ rfl rfl rfl ?_
 refine F0a h5a rfl rfl ?_
 refine d0a ?_
 refine N1a ⟨(St.front (A := [_, _, _, _, _, _]) SR3), XR3⟩ rfl rfl rfl ?_
 refine h0a n6a rfl (fun w1 hw => by exact hw.1.cell 0 rfl rfl) rfl ?_
 refine d0a ?_
 refine N1a ⟨(St.front (A := [_, _, _, _, _, _]) SR3), XR3⟩ rfl rfl rfl ?_
 refine e1a (v := .int .i64 _) rfl rfl ?_
 refine d0a ?_
 refine N1a ⟨(St.front (A := [_, _, _, _, _, _]) SR3), XR3⟩ rfl rfl rfl ?_
 refine F0a h5a rfl rfl ?_
 refine d0a ?_
 refine N1a ⟨(St.front (A := [_, _, _, _, _, _]) SR3), XR3⟩ rfl rfl rfl ?_
 refine h0a n6a rfl (fun w1 hw => by exact hw.1.cell 0 rfl rfl) rfl ?_
 refine d0a ?_
 refine N1a ⟨(St.front (A := [_, _, _, _, _, _]) SR3), XR3⟩ rfl rfl rfl ?_
 refine e1a (v := .int .i64 _) rfl rfl ?_
 refine d0a ?_
 refine N1a ⟨(St.front (A := [_, _, _, _, _, _]) SR3), XR3⟩ rfl rfl rfl ?_
 refine m0a L4a.slT rfl (by rfl) rfl (by omega) (by omega) rfl ?_
 refine d0a ?_
 refine N1a ⟨(St.front (A := [_, _, _, _, _, _]) SR3), XR3⟩ rfl rfl rfl ?_
 refine h0a z3b rfl (fun w1 hw => by exact hw.1.cell 1 rfl ((congrArg (vs[·]?) (show 0 + (t : Int).toNat * 1 = t by simp)).trans hvk)) rfl ?_
 refine d0a ?_
 refine N1a ⟨(St.front (A := [_, _, _, _, _, _]) SR3), XR3⟩ rfl rfl rfl ?_
 refine e1a (v := .int .i64 _) rfl rfl ?_
 refine d0a ?_
 refine N1a ⟨(St.front (A := [_, _, _, _, _, _]) SR3), XR3⟩ rfl rfl rfl ?_
 refine e1a (v := .int .i64 _) rfl rfl ?_
 refine d0a ?_
 refine N1a ⟨(St.front (A := [_, _, _, _, _, _]) SR3), XR3⟩ rfl rfl rfl ?_
 refine P9c rfl rfl (by unfold i64; omega) rfl ?_
 refine d0a ?_
 refine T9a ⟨(St.front (A := [_, _, _, _, _, _]) SR3), XR3⟩ rfl rfl rfl rfl ?_
 have hR5 := hR3.keep YR3.of_nil
 obtain ⟨G', cs'', _, hrk', hvk', hrow3⟩ := hR5.2.2 t b hxb
 obtain ⟨rfl, rfl⟩ : some g = G' ∧ cs' = cs'' := by rw [hrk] at hrk'; cases hrk'; exact ⟨rfl, rfl⟩
 obtain rfl := Option.some.inj (hvk.symm.trans hvk')
 obtain ⟨css, l1, l2, rv, l4⟩ := hrow3
 refine e2a B4c rfl rfl (O8b g cap b.length i css cs' _ (SR3.blk (6 + t) ((I6c [_, _, _, _, _, _] rows t 6 rfl).trans hrk)) rv l1 l2 (Q5c l1 l4) hi (by omega)) ?_
 rintro v33 w33 ⟨rfl, B33, cs33, hb33, R33⟩
 have X33 : w0a [g] _ w33 := w0a.of_belowB B33
 have S33 : St [] w0 w33 ([_, _, _, _, _, _] ++ rows.set t (some g, 81, cs33)) := (R8c [_, _, _, _, _, _] rows t 6 rfl _) ▸ SR3.changed1 (6 + t) ((I6c [_, _, _, _, _, _] rows t 6 rfl).trans hrk) B33 hb33
 have XC33 := XR3.trans X33
 have hR4 := hR5.put (k := t) ht (Q1a.erase j2a l1 l2 l4 hi R33 (X33.mono (by simp))) (G := some g) (by simpa using X33) (fun g hg => .inl hg) hrk
 refine S0a ⟨rfl, ?_⟩
 refine N1a ⟨(St.front (A := [_, _, _, _, _, _]) S33), XC33⟩ rfl rfl rfl ?_
 refine m0a L4a.slT rfl (by rfl) rfl (by omega) (by omega) rfl ?_
 refine d0a ?_
 refine W5a ⟨(St.front (A := [_, _, _, _, _, _]) S33), XC33⟩ ?_
 first | refine I0a (kk := 1) S33 t5c rfl (by conv => lhs; whnf) rfl rfl (by (simp; omega)) ?_
 intro w3_13 S3_13 X3_13
 replace hR4 := hR4.keep (X3_13.mono (by simp))
 refine S0a ⟨rfl, ?_⟩
 refine fO S3_13.k [.w 0] rfl ⟨⟨rfl,by rfl⟩,⟨⟩⟩ ?_
 first | refine e0a (kk := 4) (vs := [_, _, _]) S3_13 R2a rfl rfl rfl rfl rfl rfl rfl ?_
 intro w4_1 S4_1 X4_1
 dsimp only [k0a, List.set] at S4_1
 replace hR4 := hR4.keep (X4_1.mono (by simp))
 refine lR0 rfl ⟨⟩ ?_
 have SF := S4_1.setEnt 1 rfl (show _ = vs.set t (.slice (some ⟨g, 0, none⟩) (b.length - 1) cap) by simp)
 refine r1a (n := 3) rfl p1a rfl (SF.cells 4 rfl) rfl ⟨⟨_, rfl, _, _, _, rfl, ?_, Ra.rdI SF (k := 2) rfl hM (A8a hp hf) (by omega), ?_⟩, SF.fin⟩
 ·have := (C3a.ofPad (g := gm) (l := g3a c.mem en) (pad := pad) (by simpa using hmx)).rdI SF (k := 3) rfl hM (e5a hp hf'.mem) (by simp; omega)
  simpa using this
 ·have hA := SF.apartM (A := [_, _, _, _, _, _]) hM
  have := SF.rdBs (M := M) 1 rfl (U0a hM (SF.new 1 rfl)) (bs := c.buf.set t (b.eraseIdx i)) (by simp; omega) (hR4.rd (A := [_, _, _, _, _, _]) SF (Mx := M) (fun g hg => by simp [hg]) hA (fun x hx => by
   obtain ⟨k, hk, rfl⟩ := List.getElem_of_mem hx
   have := (hf'.bufs k _ (List.getElem?_eq_getElem hk)).1
   omega))
  rw [List.length_set] at this
  exact this
def F2b (p : f0a) (s : t1a) (k : Nat) : List F1a := if s.kind = 3 then (s.set.take k).filter (fun a => y1a p.cells a.cell = -1) else []
def X9a (p : f0a) (s : t1a) (k : Nat) : List F1a := if s.kind = 3 then (s.set.take k).filter (fun a => y1a p.cells a.cell ≠ -1) else s.set.take k
section
variable {p : f0a} {s : t1a} {k : Nat} {a : F1a}
theorem K3b : F2b p s 0 = [] := by unfold F2b; simp
theorem a9b : X9a p s 0 = [] := by unfold X9a; simp
theorem m1b (h3 : s.kind = 3) (hx : s.set[k]? = some a) (ht : y1a p.cells a.cell = -1) : F2b p s (k + 1) = F2b p s k ++ [a] ∧ X9a p s (k + 1) = X9a p s k := by
 unfold F2b X9a
 rw [if_pos h3, if_pos h3, if_pos h3, if_pos h3, J0a hx, List.filter_append, List.filter_append]
 simp [ht]
theorem X7a (hx : s.set[k]? = some a) (ht : s.kind = 3 → ¬ y1a p.cells a.cell = -1) : F2b p s (k + 1) = F2b p s k ∧ X9a p s (k + 1) = X9a p s k ++ [a] := by
 unfold F2b X9a
 by_cases h3 : s.kind = 3
 ·rw [if_pos h3, if_pos h3, if_pos h3, if_pos h3, J0a hx, List.filter_append, List.filter_append]
  simp [ht h3]
 ·rw [if_neg h3, if_neg h3, if_neg h3, if_neg h3, J0a hx]; simp
theorem U8a : (F2b p s k).length ≤ s.set.length := by
 unfold F2b
 split
 ·exact Nat.le_trans (List.length_filter_le _ _) (by rw [List.length_take]; omega)
 ·simp
end
theorem j5c {p : f0a} {t n : Int} {s : t1a} (h : U6a p t n s) : s.set.length ≤ p.cells.length := by
 have := q7a p.cells.length (s.set.map F1a.cell) (by unfold List.Nodup; rw [List.pairwise_map]; exact h.once) (fun x hx => by
  obtain ⟨a, ha, rfl⟩ := List.mem_map.1 hx
  exact (h.set a ha).1)
 simpa using this
theorem f0b {p : f0a} {m : Int} (hm : ¬ m = 0) {c : q0a} {t : Nat} {s : t1a} {b : List G0a} (h3 : s.kind = 3) (hb : c.buf[t]? = some b) {k : Nat} (hk : s.set.length ≤ k) : m3a p m c t s = ⟨C7a (X9a p s k) (B1a c t) c.mem, atC c t s, c.buf.set t (b ++ [⟨(F2b p s k).map F1a.cell, (F2b p s k).map fun a => a.to.evl (B1a c t) (B1a c t)⟩])⟩ := by
 unfold m3a F2b X9a j7a
 rw [if_pos ⟨h3, hm⟩, if_pos h3, if_pos h3, List.take_of_length_le hk, getD_some hb]
theorem h0b {p : f0a} {m : Int} {c : q0a} {t : Nat} {s : t1a} (h3 : ¬ s.kind = 3) {k : Nat} (hk : s.set.length ≤ k) : m3a p m c t s = ⟨C7a (X9a p s k) (B1a c t) c.mem, atC c t s, c.buf⟩ := by
 unfold m3a X9a
 rw [if_neg (fun h => h3 h.1), if_neg h3, List.take_of_length_le hk]
theorem s3c {c : q0a} {t : Nat} {s : t1a} {pad : List Value} (h : ¬ s.kind = 6) (ht : t < c.at_.length) {i : Nat} (hi : i = t) : (c.at_.map (Value.int .i64) ++ pad).set i (.int .i64 s.to) = (atC c t s).map (Value.int .i64) ++ pad := by
 subst hi; rw [A7a ht]; unfold atC; rw [if_neg h]
theorem L7b {c : q0a} {t : Nat} {s : t1a} {pad : List Value} (h : s.kind = 6) (ht : t < c.at_.length) (hg : s.target.toNat < c.at_.length) {i j : Nat} (hi : i = t) (hj : j = s.target.toNat) : ((c.at_.map (Value.int .i64) ++ pad).set i (.int .i64 s.to)).set j (.int .i64 0) = (atC c t s).map (Value.int .i64) ++ pad := by
 subst hi; subst hj; rw [A7a ht, A7a (by simpa using hg)]; unfold atC; rw [if_pos h]
abbrev b7c : List Nat → World → List Value → Int → Prop := fun _ _ => B9c
theorem i7b (p : f0a) (c : q0a) (m : Int) (hm : m = 1 ∨ m = 2) (t i : Nat) (th : Q0a) (s : t1a) (M : List Nat) (w0 : World) (cs xs : List Value) (vsn : Value) (hI : InP p M w0 cs) (hX : t0a M w0 c xs) (hV : RdI M w0 vsn (B1a c t)) (hf : D3a p c) (hxth : p.threads[t]? = some th) (hxs : th.steps[i]? = some s) (hf' : D3a p (m3a p m c t s)) :
 M0a Tryz.prog 112 #[.agg (xs ++ (cs ++ [Value.int .i64 m])).toArray, .agg #[.int .i64 t, .int .i64 i, .int .i64 0], vsn] w0 fun v w' => (∃ ys, v = .agg ys.toArray ∧ t0a M w' (m3a p m c t s) ys) ∧ Below w0.heap.size w0 w' := by
 obtain ⟨Ac, nc, cc, Am, nm, cm, Al, nl, cl, At, nt, ct, rfl, hC, _, _, hTh, _, _, _, _, _, _, _, _⟩ := hI.rd.open_
 obtain ⟨Xm, xm, ym, Xa, xa, ya, Xb, xb, yb, rfl, _, _, _, _, _, _, _, _, _⟩ := hX.open_
 obtain ⟨Av, nv, cv, rfl⟩ := hV.form
 have S := St.refl w0
 have hM := hI.lt
 have f1 := hf.mem.len
 have f2 := hf.nat
 have f3 := hf.nbuf
 have hp := hI.ok
 have n1 := hp.ncells
 have n2 := hp.nthreads
 have ht := S1a hxth
 have hi := S1a hxs
 have hso := (hp.thread hxth).steps s (c0a hxs)
 have hsl := j5c hso
 have hk6 : 6 ≤ s.kind → 0 ≤ s.target ∧ s.target < p.threads.length := fun h => (hso.row.k6 h).1
 have hm0 : ¬ m = 0 := by omega
 obtain ⟨b, hxb⟩ : ∃ b, c.buf[t]? = some b := ⟨c.buf[t]'(by omega), List.getElem?_eq_getElem _⟩
 have hbo := hf.bufs t b hxb
 refine a0a Tryz.func112 rfl Tryz.ntmps112 rfl ?_
 refine wO0 rfl ⟨⟩ (j0a S (by conv => lhs; whnf) rfl ?_)
 intro g3 w3 S3 X3 G3
 refine j0a S3 (by conv => lhs; whnf) rfl ?_
 intro g4 w4 S4 X4 G4
 refine n0a S4 C5a rfl rfl ?_
 intro g6 w6 S6 X6 G6
 refine lO S6.k [.o 2] rfl ⟨rfl,⟨⟩⟩ ?_
 have hX2 : t0a (g6 :: g4 :: g3 :: M) w6 c _ := (hX.more (fun g hg => by rcases List.mem_cons.1 hg with rfl | hg; exact .inr (by simpa using S6.new 0 rfl); rcases List.mem_cons.1 hg with rfl | hg; exact .inr (by simpa using S6.new 1 rfl); rcases List.mem_cons.1 hg with rfl | hg; exact .inr (by simpa using S6.new 2 rfl); exact .inl hg)).keep (S6.keep0 _)
 have hM2 : ∀ g ∈ g6 :: g4 :: g3 :: M, g < w6.heap.size := fun g hg => by
  rcases List.mem_cons.1 hg with rfl | hg
  ·exact S6.lt 0 rfl
  ·rcases List.mem_cons.1 hg with rfl | hg
   ·exact S6.lt 1 rfl
   ·rcases List.mem_cons.1 hg with rfl | hg
    ·exact S6.lt 2 rfl
    ·have := hM g hg; have := S6.size; omega
 refine e2a b0c rfl rfl (g6b p hp c (g6 :: g4 :: g3 :: M) _ hM2 _ hX2 hf) ?_
 rintro v15 w15 ⟨⟨Gm, _, csm, _, _, _, gb, rows, vs, rfl, Rm, Ra, S15', hR⟩, -⟩
 have S15 := S6.joinR S15'
 obtain ⟨ga, pada, rfl, rfl, rfl, hmxa⟩ := Ra.pad (by omega)
 obtain ⟨Bm, bm', dm, rfl⟩ := Rm.form
 have KM := w0a.refl Gm.toList w15
 have hQ15 : ∀ g ∈ (Gm.toList ++ ((some ga).toList ++ (gb :: g6 :: g4 :: g3 :: M))) ++ L8a rows, g < w15.heap.size := by
  intro g hg
  simp only [List.mem_append, List.mem_cons] at hg
  rcases hg with (hg | hg | rfl | rfl | rfl | rfl | hg) | hg
  ·exact M0b S15 (k := 2) rfl g hg
  ·exact M0b S15 (k := 1) rfl g hg
  ·exact S15.lt 0 rfl
  ·exact S15.lt 3 rfl
  ·exact S15.lt 4 rfl
  ·exact S15.lt 5 rfl
  ·have := hM g hg; have := S15.size; omega
  ·obtain ⟨x, hx, hg⟩ := v3a.1 hg; exact (S15.own x (List.mem_append_right _ hx) g hg).2.lt
 refine n0a S15 C5a rfl rfl ?_
 intro g7 w7 S7 X7 G7
 have GKM7 := Nat.le_trans KM.size G7
 replace KM := KM.trans (X7.of_nil)
 refine e0a (kk := 0) (vs := [_, _, _]) S7 R2a rfl rfl rfl rfl rfl rfl rfl ?_
 intro w1_4 S1_4 X1_4
 dsimp only [k0a, List.set] at S1_4
 replace KM := KM.fresh2 X1_4 (by exact .inl GKM7)
 refine lC0 rfl ⟨⟩ (D0a b0a [0, 1, 2, 3, 4, 5, 6, 7, 8, 9, 10, 11] [12] [13] (by kernel_rfl) rfl (Cl _ _ _ _) (Cl.start S1_4) ?_)
 obtain ⟨_, b21, p21, _, hx21, hA21, _, _, hc21, hr21⟩ := RdS.get (hTh) (t) (by omega)
 obtain rfl := Option.some.inj (hxth.symm.trans hx21)
 obtain ⟨_, _, _, _, _, _, _, _, _, _, _, _, rfl, _, _, _, hSt21, _, _, _, _, _, _, _, _, _⟩ := N0a.open_ hr21
 obtain ⟨_, b26, p26, _, hx26, hA26, _, hl26, hc26, hr26⟩ := RdS.get (hSt21) (i) (by omega)
 obtain rfl := Option.some.inj (hxs.symm.trans hx26)
 obtain ⟨Ag26, ng26, cg26, As26, ns26, cs26, rfl, ⟨_, _, _, _, _⟩, _, hSet26, _, _⟩ := m2a.open_ hr26
 refine qN ((S1_4.q.a hc26).a hc21) [.o 6,.o 5,.x b21 p21,.f 0 4,.o 5,.x b26 p26,.v 1] rfl ⟨⟨rfl,hl26⟩,⟨hA26,by omega⟩,rfl,rfl,⟨hA21,by omega⟩,rfl,rfl,⟨⟩⟩ (w5a ?_)
 refine B3b rfl rfl T6b rfl ?_
 refine o2a ?_
 rintro wR2 ⟨SR2, XR2⟩
 intro g8 hg8 G8 ng8
 dsimp only [I3a]
 have GKM8 := Nat.le_trans KM.size G8
 replace KM := KM.trans (XR2.of_nil)
 clear ng8
 replace SR2 := SR2.push_new S1_4 hg8 G8
 refine e0a (kk := 0) (vs := [_, _, _, _, _, _, _, _, _, _, _]) SR2 y6b rfl rfl rfl rfl rfl rfl rfl ?_
 intro w2_13 S2_13 X2_13
 dsimp only [k0a, List.set] at S2_13
 replace KM := KM.fresh2 X2_13 (by exact .inl GKM8)
 refine lO0 rfl ⟨⟩ (n0a S2_13 n9a rfl rfl ?_)
 intro g9 w9 S9 X9 G9
 have GKM9 := Nat.le_trans KM.size G9
 replace KM := KM.trans (X9.of_nil)
 refine lC S9.k [.o 1] rfl ⟨rfl,⟨⟩⟩ ?_
 refine wL (fun μk D ε w => D = [] ∧ ∃ k : Nat, ∃ Gc : Option Nat, ∃ csc : List Value, ∃ vc : Value, ∃ Gv : Option Nat, ∃ csv : List Value, ∃ vv : Value, ∃ csm' : List Value, (k + μk = (s.set.length)) ∧ (Q1a b7c 1 [] w0 Gc csc vc ((F2b p s k).map F1a.cell)) ∧ (Q1a b7c 1 [] w0 Gv csv vv ((F2b p s k).map fun a => a.to.evl (B1a c t) (B1a c t))) ∧ (∀ g ∈ Gc.toList ++ Gv.toList, w15.heap.size ≤ g) ∧ (C3a Gm 1 c.mem.length csm' (.slice Bm bm' dm) ((C7a (X9a p s k) (B1a c t) c.mem).map (Value.int .i64))) ∧ (w0a Gm.toList w15 w) ∧ St [] w0 w ([(Gc, 3, csc), (Gv, 3, csv), (some g9, 81, [vc, vv]), (some g8, 90, [.int .i64 s.kind, .int .i64 s.frm, .int .i64 s.to, .int .i64 s.guard.op, .int .i64 s.guard.w, .int .i64 s.guard.n, .slice Ag26 ng26 cg26, .slice As26 ns26 cs26, .bool s.release, .int .i64 s.target, .int .i64 s.module_]), (some g7, 38, [.slice Bm bm' dm, .slice (some ⟨ga, 0, none⟩) c.at_.length (c.at_.length + pada.length), .slice (some ⟨gb, 0, none⟩) c.buf.length c.buf.length]), (some gb, 79, vs), (some ga, 3, c.at_.map (Value.int .i64) ++ pada), (Gm, 3, csm'), (some g6, 38, [.slice none 0 0, .slice none 0 0, .slice none 0 0]), (some g4, 44, [.int .i64 t, .int .i64 i, .int .i64 0]), (some g3, 165, [.slice Xm xm ym, .slice Xa xa ya, .slice Xb xb yb, .slice Ac nc cc, .slice Am nm cm, .slice Al nl cl, .slice At nt ct, .int .i64 m])] ++ rows) ∧ Sl ε [(2, .slice Av nv cv), (3, .pointer (some ⟨g3, 0, none⟩)), (4, .pointer (some ⟨g4, 0, none⟩)), (6, .pointer (some ⟨g6, 0, none⟩)), (7, .pointer (some ⟨g7, 0, none⟩)), (8, .pointer (some ⟨g8, 0, none⟩)), (9, .pointer (some ⟨g9, 0, none⟩)), (29, .slice As26 ns26 cs26), (30, .int .i64 ns26), (31, .int .i64 k)]) (μ := (s.set.length)) ⟨rfl, 0, none, [], .slice none 0 0, none, [], .slice none 0 0, csm, by omega, by rw [K3b]; exact Q1a.nil, by rw [K3b]; exact Q1a.nil, by simp, by rw [a9b]; exact Rm, KM, ((S9.nilEnt 3).nilEnt 3), rfl⟩ ?_
 rintro μk D ε w ⟨rfl, k, Gc, csc, vc, Gv, csv, vv, csm', _, hrc, hrv, hgc, hrm, KM, S, eZ⟩
 refine wK eZ (wB0 rfl ⟨⟩ (fun h32 => ?_) fun h32 => ?_)
 ·obtain ⟨a, b33, p33, _, hxa, hA33, _, hl33, hc33, hr33⟩ := RdS.get (hSet26) (k) (by omega)
  obtain ⟨_, _, _, rfl, ia33, hE33⟩ := R0a.open_ hr33
  have hxa' := hxa
  have q1 := (hso.set a (c0a hxa')).1
  unfold t2a at q1
  have q2 := i9a (hso.set a (c0a hxa')).2.1 (B1a c t) (B1a c t)
  rw [(hso.set a (c0a hxa')).2.2] at q2
  have q2' := A5b hp a.cell
  have q3 : i64 (a.to.evl (B1a c t) (B1a c t)) := by unfold i64; omega
  refine lO (S.k.a hc33) [.x b33 p33,.v 0] rfl ⟨⟨rfl,hl33⟩,⟨hA33,by omega⟩,⟨⟩⟩ (n0a S t2b rfl rfl ?_)
  intro g11 w11 S11 X11 G11
  have GKM11 := Nat.le_trans KM.size G11
  replace KM := KM.trans (X11.of_nil)
  refine e0a (kk := 0) (vs := [_, _, _, _, _]) S11 v3b rfl rfl rfl rfl rfl rfl rfl ?_
  intro w6_3 S6_3 X6_3
  dsimp only [k0a, List.set] at S6_3
  replace KM := KM.fresh2 X6_3 (by exact .inl GKM11)
  refine lO S6_3.k [.o 0] rfl ⟨rfl,⟨⟩⟩ (g0a S6_3 e0b rfl rfl (L7a a.to M _ _ _ _ (B1a c t) (B1a c t) (RdE.keep (S6_3.keep0 M) _ _ hE33) (hI.keep (S6_3.keep0 M)).msk (hV.keep (S6_3.keep0 M)) (hV.keep (S6_3.keep0 M))) ?_)
  intro w39 S39 X39
  replace KM := KM.trans (X39.of_nil)
  refine lO0 rfl ⟨⟩ (s0a C0a rfl (by exact S39.cell 4 rfl rfl) rfl ?_)
  refine lB0 rfl ⟨⟩ (fun h42 => ?_) fun h42 => ?_
  ·refine lO0 rfl ⟨⟩ (s0a H9a rfl (by exact S39.cell 11 rfl rfl) rfl ?_)
   obtain ⟨_, b49, p49, _, hxcl', hA49, _, _, hc49, hr49⟩ := RdS.get (hC) (a.cell.toNat) (by omega)
   obtain ⟨rfl, _, _, _, _⟩ := Z2a.open_ hr49
   have hthr := f1a hxcl'
   refine lB (S39.k.a hc49) [.o 0,.x b49 p49,.f 0 3] rfl ⟨rfl,⟨hA49,by omega⟩,rfl,⟨⟩⟩ (fun h52 => ?_) fun h52 => ?_
   ·refine lO0 rfl ⟨⟩ (s0a P3a rfl (by exact S39.cell 3 rfl rfl) rfl ?_)
    refine lO S39.k [.o 0] rfl ⟨rfl,⟨⟩⟩ (E0a S39 Y0a (vs := [.int .i64 _]) (cs := [_]) (by rfl) rfl rfl rfl rfl rfl rfl ?_)
    intro g58 w58 S58 X58 G58
    replace KM := KM.trans (X58.of_nil)
    refine C1a j2b (k := 2) (M2 := []) (e1 := a.cell) S58 Y0a (by decide) rfl hrc rfl rfl (S58.cells 0 rfl) ⟨rfl, ia33⟩ (by have := U8a (p := p) (s := s) (k := k); simp; omega) rfl ?_
    intro v59 Gc' csc' w59 S59 hrc' X59 F59
    have Z59 := KM.size
    obtain ⟨_, _, rfl⟩ := hrc'.form
    replace KM := KM.freshL X59 (fun g hg => .inl (hgc g (List.mem_append_left _ hg)))
    refine lO0 rfl ⟨⟩ ?_
    first | refine I0a (kk := 4) S59 R7c rfl (by conv => lhs; whnf) rfl rfl (by exact Nat.le_of_ble_eq_true rfl) ?_
    intro w9_7 S9_7 X9_7
    replace KM := KM.fresh2 X9_7 (by exact .inl GKM9)
    refine lO0 rfl ⟨⟩ (s0a P3a rfl (by exact S9_7.cell 4 rfl rfl) rfl ?_)
    refine lO0 rfl ⟨⟩ (E0a S9_7 Y0a (vs := [.int .i64 _]) (cs := [_]) (by rfl) rfl rfl rfl rfl rfl rfl ?_)
    intro g64 w64 S64 X64 G64
    replace KM := KM.trans (X64.of_nil)
    refine C1a j2b (k := 4) (M2 := []) (e1 := a.to.evl (B1a c t) (B1a c t)) S64 Y0a (by decide) rfl hrv rfl rfl (S64.cells 0 rfl) ⟨rfl, q3⟩ (by have := U8a (p := p) (s := s) (k := k); simp; omega) rfl ?_
    intro v65 Gv' csv' w65 S65 hrv' X65 F65
    have Z65 := KM.size
    obtain ⟨_, _, rfl⟩ := hrv'.form
    replace KM := KM.freshL X65 (fun g hg => .inl (hgc g (List.mem_append_right _ hg)))
    refine lO0 rfl ⟨⟩ ?_
    first | refine I0a (kk := 5) S65 R7c rfl (by conv => lhs; whnf) rfl rfl (by exact Nat.le_of_ble_eq_true rfl) ?_
    intro w10_6 S10_6 X10_6
    replace KM := KM.fresh2 X10_6 (by exact .inl GKM9)
    refine lP0 rfl ⟨by omega,⟨⟩⟩ ⟨μk - 1, by omega, rfl, (k + 1), (_), (_), (_), (_), (_), (_), (_), (by omega), ?_, ?_, ?_, ?_, (KM), S10_6.tail.tail.tail, rfl⟩
    ·rw [(m1b h42 hxa' (hthr.trans h52)).1, List.map_append]; exact hrc'
    ·rw [(m1b h42 hxa' (hthr.trans h52)).1, List.map_append]; exact hrv'
    ·intro g hg
     rcases List.mem_append.1 hg with hg | hg
     ·rcases F59 g hg with h | h
      ·exact hgc g (List.mem_append_left _ h)
      ·omega
     ·rcases F65 g hg with h | h
      ·exact hgc g (List.mem_append_right _ h)
      ·omega
    ·rw [(m1b h42 hxa' (hthr.trans h52)).2]; exact hrm
   obtain ⟨gm, pad, rfl, hvm, rfl, hmx⟩ := hrm.pad (by simp; omega)
   have hml : (C7a (X9a p s k) (B1a c t) c.mem).length = c.mem.length := by simp
   cases hvm
   refine lO0 rfl ⟨⟩ (s0a P3a rfl (by exact S39.cell 5 rfl rfl) rfl ?_)
   refine lO S39.k [.o 0] rfl ⟨rfl,⟨⟩⟩ (x0a Y0a.slT rfl (by rfl) rfl (by omega) (by omega) rfl ?_)
   first | refine I0a (kk := 8) S39 V0b rfl (by conv => lhs; whnf) rfl rfl (by (simp; omega)) ?_
   intro w11_6 S11_6 X11_6
   replace KM := KM.fresh2 X11_6 (by exact .inr (by simp))
   refine lP0 rfl ⟨by omega,⟨⟩⟩ ⟨μk - 1, by omega, rfl, (k + 1), (_), (_), (_), (_), (_), (_), (_), (by omega), ?_, ?_, ?_, ?_, (KM), S11_6.tail, rfl⟩
   ·rw [(X7a hxa' (fun _ => by rw [hthr]; exact h52)).1]; exact hrc
   ·rw [(X7a hxa' (fun _ => by rw [hthr]; exact h52)).1]; exact hrv
   ·exact hgc
   ·have e2 : X9a p s (k + 1) = X9a p s k ++ [a] := by exact (X7a hxa' (fun _ => by rw [hthr]; exact h52)).2
    rw [e2, Q9a]
    have := C3a.ofPad (g := gm) (l := (C7a (X9a p s k) (B1a c t) c.mem).set a.cell.toNat (a.to.evl (B1a c t) (B1a c t))) (pad := pad) (by simpa using hmx)
    rw [← A7a (by omega)] at this
    simpa using this
  obtain ⟨gm, pad, rfl, hvm, rfl, hmx⟩ := hrm.pad (by simp; omega)
  have hml : (C7a (X9a p s k) (B1a c t) c.mem).length = c.mem.length := by simp
  cases hvm
  refine lO0 rfl ⟨⟩ (s0a P3a rfl (by exact S39.cell 5 rfl rfl) rfl ?_)
  refine lO S39.k [.o 0] rfl ⟨rfl,⟨⟩⟩ (x0a Y0a.slT rfl (by rfl) rfl (by omega) (by omega) rfl ?_)
  first | refine I0a (kk := 8) S39 V0b rfl (by conv => lhs; whnf) rfl rfl (by (simp; omega)) ?_
  intro w11_6 S11_6 X11_6
  replace KM := KM.fresh2 X11_6 (by exact .inr (by simp))
  refine lP0 rfl ⟨by omega,⟨⟩⟩ ⟨μk - 1, by omega, rfl, (k + 1), (_), (_), (_), (_), (_), (_), (_), (by omega), ?_, ?_, ?_, ?_, (KM), S11_6.tail, rfl⟩
  ·rw [(X7a hxa' (fun h => absurd h h42)).1]; exact hrc
  ·rw [(X7a hxa' (fun h => absurd h h42)).1]; exact hrv
  ·exact hgc
  ·have e2 : X9a p s (k + 1) = X9a p s k ++ [a] := by exact (X7a hxa' (fun h => absurd h h42)).2
   rw [e2, Q9a]
   have := C3a.ofPad (g := gm) (l := (C7a (X9a p s k) (B1a c t) c.mem).set a.cell.toNat (a.to.evl (B1a c t) (B1a c t))) (pad := pad) (by simpa using hmx)
   rw [← A7a (by omega)] at this
   simpa using this
 refine lO0 rfl ⟨⟩ (s0a C0a rfl (by exact S.cell 3 rfl rfl) rfl ?_)
 refine lB0 rfl ⟨⟩ (fun h76 => ?_) fun h76 => ?_
 ·have hR2 := hR.keep (KM.mono (fun g hg => List.mem_append_left _ (List.mem_append_left _ hg)))
  obtain ⟨G, cs', v, hrk, hvk, hrow⟩ := hR2.2.2 t b hxb
  obtain ⟨_, _, rfl⟩ := hrow.form
  obtain ⟨_, _, rfl⟩ := hrc.form
  obtain ⟨_, _, rfl⟩ := hrv.form
  have hvl : vs.length = c.buf.length := hR2.2.1
  have hGb : ∀ g ∈ G.toList, g ∈ (Gm.toList ++ ((some ga).toList ++ (gb :: g6 :: g4 :: g3 :: M))) ++ L8a rows := fun g hg => List.mem_append_right _ (v3a.2 ⟨_, List.mem_of_getElem? hrk, by cases G <;> simp at hg ⊢; exact hg.symm⟩)
  have hC1 : RdI ((Gm.toList ++ ((some ga).toList ++ (gb :: g6 :: g4 :: g3 :: M))) ++ L8a rows) w _ _ := Q1a.rd (M := (Gm.toList ++ ((some ga).toList ++ (gb :: g6 :: g4 :: g3 :: M))) ++ L8a rows) (w := w) j2b hrc S (k := 0) rfl (fun g hg hm => by have := hgc g (by rw [hg]; simp); have := hQ15 g hm; omega) (by have := U8a (p := p) (s := s) (k := k); simp; omega)
  have hC2 : RdI ((Gm.toList ++ ((some ga).toList ++ (gb :: g6 :: g4 :: g3 :: M))) ++ L8a rows) w _ _ := Q1a.rd (M := (Gm.toList ++ ((some ga).toList ++ (gb :: g6 :: g4 :: g3 :: M))) ++ L8a rows) (w := w) j2b hrv S (k := 1) rfl (fun g hg hm => by have := hgc g (by rw [hg]; simp); have := hQ15 g hm; omega) (by have := U8a (p := p) (s := s) (k := k); simp; omega)
  refine lC0 rfl ⟨⟩ (K0b b0a (fun i => [0, 1, 2, 3, 4, 5, 6, 7, 8, 9, 10, 13].contains i) [0, 1, 2, 3, 4, 5, 6, 7, 8, 9, 10, 11, 12, 13] 14 (by kernel_rfl) (by kernel_rfl) (clF (A := [_, _, _, _, _, _, _, _, _, _, _]) (R := rows) S G.toList) _ rfl ?_)
  have SR14 := S.drew
  have YR14 : w0a [] w w.drew := F2a _ _
  generalize w.drew = wR14 at SR14 YR14 ⊢
  have XR14 : w0a (G.toList) _ _ := YR14.of_nil
  replace hR2 := hR2.keep YR14.of_nil
  replace hC1 := hC1.keep YR14.of_nil
  replace hC2 := hC2.keep YR14.of_nil
  refine N1a ⟨(St.front (A := [_, _, _, _, _, _, _, _, _, _, _]) SR14), XR14⟩ rfl rfl rfl ?_
  refine F0a h5a rfl rfl ?_
  refine d0a ?_
  refine N1a ⟨(St.front (A := [_, _, _, _, _, _, _, _, _, _, _]) SR14), XR14⟩ rfl rfl rfl ?_
  refine h0a n6a rfl (fun w1 hw => by exact hw.1.cell 4 rfl rfl) rfl ?_
  refine d0a ?_
  refine N1a ⟨(St.front (A := [_, _, _, _, _, _, _, _, _, _, _]) SR14), XR14⟩ rfl rfl rfl ?_
  refine F0a b5b rfl rfl ?_
  refine d0a ?_
  refine N1a ⟨(St.front (A := [_, _, _, _, _, _, _, _, _, _, _]) SR14), XR14⟩ rfl rfl rfl ?_
  refine h0a C0a rfl (fun w1 hw => by exact hw.1.cell 9 rfl rfl) rfl ?_
  refine d0a ?_
  refine N1a ⟨(St.front (A := [_, _, _, _, _, _, _, _, _, _, _]) SR14), XR14⟩ rfl rfl rfl ?_
  refine F0a h5a rfl rfl ?_
  refine d0a ?_
  refine N1a ⟨(St.front (A := [_, _, _, _, _, _, _, _, _, _, _]) SR14), XR14⟩ rfl rfl rfl ?_
  refine h0a n6a rfl (fun w1 hw => by exact hw.1.cell 4 rfl rfl) rfl ?_
  refine d0a ?_
  refine N1a ⟨(St.front (A := [_, _, _, _, _, _, _, _, _, _, _]) SR14), XR14⟩ rfl rfl rfl ?_
  refine F0a b5b rfl rfl ?_
  refine d0a ?_
  refine N1a ⟨(St.front (A := [_, _, _, _, _, _, _, _, _, _, _]) SR14), XR14⟩ rfl rfl rfl ?_
  refine h0a C0a rfl (fun w1 hw => by exact hw.1.cell 9 rfl rfl) rfl ?_
  refine d0a ?_
  refine N1a ⟨(St.front (A := [_, _, _, _, _, _, _, _, _, _, _]) SR14), XR14⟩ rfl rfl rfl ?_
  refine m0a L4a.slT rfl (by rfl) rfl (by omega) (by omega) rfl ?_
  refine d0a ?_
  refine N1a ⟨(St.front (A := [_, _, _, _, _, _, _, _, _, _, _]) SR14), XR14⟩ rfl rfl rfl ?_
  refine h0a z3b rfl (fun w1 hw => by exact hw.1.cell 5 rfl ((congrArg (vs[·]?) (show 0 + (t : Int).toNat * 1 = t by simp)).trans hvk)) rfl ?_
  refine d0a ?_
  refine N1a ⟨(St.front (A := [_, _, _, _, _, _, _, _, _, _, _]) SR14), XR14⟩ rfl rfl rfl ?_
  refine I1a A4b rfl (fun w1 hw => hw.1.cells 2 rfl) rfl rfl ?_
  refine d0a ?_
  refine T9a ⟨(St.front (A := [_, _, _, _, _, _, _, _, _, _, _]) SR14), XR14⟩ rfl rfl rfl rfl ?_
  refine E0a SR14 F4a (vs := [.agg _]) (cs := [_, _]) (by rfl) rfl rfl rfl rfl rfl rfl ?_
  intro g88 w88 S88 X88 G88
  have XCw88 := XR14.trans (X88.mono (by simp))
  replace hR2 := hR2.keep (X88.of_nil)
  replace hC1 := hC1.keep (X88.of_nil)
  replace hC2 := hC2.keep (X88.of_nil)
  refine S0a ⟨rfl, ?_⟩
  refine T9a ⟨(St.front (A := [_, _, _, _, _, _, _, _, _, _, _, _]) S88).tail, XCw88⟩ rfl rfl rfl rfl ?_
  obtain ⟨G', cs'', _, hrk', hvk', hrow2⟩ := hR2.2.2 t b hxb
  obtain ⟨rfl, rfl⟩ : G = G' ∧ cs' = cs'' := by rw [hrk] at hrk'; cases hrk'; exact ⟨rfl, rfl⟩
  obtain rfl := Option.some.inj (hvk.symm.trans hvk')
  refine C1a j2a (k := 12 + t) (e1 := ⟨(F2b p s k).map F1a.cell, (F2b p s k).map fun a => a.to.evl (B1a c t) (B1a c t)⟩) S88 F4a (by decide) ((I6c [_, _, _, _, _, _, _, _, _, _, _, _] rows t 12 rfl).trans hrk) hrow2 rfl rfl (S88.cells 0 rfl) ⟨_, _, rfl, hC1.more (by omega) (fun g hg => .inl (by rcases List.mem_append.1 hg with h | h; exact hGb g h; exact h)), hC2.more (by omega) (fun g hg => .inl (by rcases List.mem_append.1 hg with h | h; exact hGb g h; exact h))⟩ (by omega) rfl ?_
  intro v89 G89 cs89 w89 S89' hrow89 X89 F89
  have S89 : St [] w0 w89 ([_, _, _, _, _, _, _, _, _, _, _, _] ++ rows.set t (G89, 81, cs89)) := (R8c [_, _, _, _, _, _, _, _, _, _, _, _] rows t 12 rfl _) ▸ S89'
  have S89b := S89.tail
  have XC89 := XCw88.trans X89
  have hR4 := hR2.put (k := t) (by omega) hrow89 X89 F89 hrk
  obtain ⟨_, _, hv89⟩ := hrow89.form
  subst hv89
  clear hR
  refine S0a ⟨rfl, ?_⟩
  refine N1a ⟨(St.front (A := [_, _, _, _, _, _, _, _, _, _, _]) S89b), XC89⟩ rfl rfl rfl ?_
  refine m0a L4a.slT rfl (by rfl) rfl (by omega) (by omega) rfl ?_
  refine d0a ?_
  refine W5a ⟨(St.front (A := [_, _, _, _, _, _, _, _, _, _, _]) S89b), XC89⟩ ?_
  first | refine I0a (kk := 5) S89b t5c rfl (by conv => lhs; whnf) rfl rfl (by (simp; omega)) ?_
  intro w14_14 S14_14 X14_14
  replace hR4 := hR4.keep (X14_14.mono (by simp))
  refine S0a ⟨rfl, ?_⟩
  try have hR4 := hR.keep (KM.mono (fun g hg => List.mem_append_left _ (List.mem_append_left _ hg)))
  refine fO0 rfl ⟨⟩ (s0a P3a rfl (by exact S14_14.cell 4 rfl rfl) rfl ?_)
  refine lO0 rfl ⟨⟩ (s0a C0a rfl (by exact S14_14.cell 9 rfl rfl) rfl ?_)
  refine lO0 rfl ⟨⟩ (s0a C0a rfl (by exact S14_14.cell 3 rfl rfl) rfl ?_)
  refine x0a Y0a.slT rfl (by rfl) rfl (by omega) (by omega) rfl ?_
  first | refine I0a (kk := 6) S14_14 V0b rfl (by conv => lhs; whnf) rfl rfl (by (simp; omega)) ?_
  intro w15_7 S15_7 X15_7
  replace hR4 := hR4.keep (X15_7.mono (by simp))
  refine lO0 rfl ⟨⟩ (s0a C0a rfl (by exact S15_7.cell 3 rfl rfl) rfl ?_)
  refine lB0 rfl ⟨⟩ (fun h100 => ?_) fun h100 => ?_
  ·refine lO0 rfl ⟨⟩ (s0a P3a rfl (by exact S15_7.cell 4 rfl rfl) rfl ?_)
   refine lO0 rfl ⟨⟩ (s0a C0a rfl (by exact S15_7.cell 3 rfl rfl) rfl ?_)
   have q6 := hk6 (by omega)
   refine x0a Y0a.slT rfl (by rfl) rfl (by omega) (by omega) rfl ?_
   first | refine I0a (kk := 6) S15_7 V0b rfl (by conv => lhs; whnf) rfl rfl (by (simp; omega)) ?_
   intro w17_5 S17_5 X17_5
   replace hR4 := hR4.keep (X17_5.mono (by simp))
   refine lO0 rfl ⟨⟩ (w1a p1a rfl (S17_5.cells 4 rfl) rfl rfl ?_)
   first | refine e0a (kk := 8) (vs := [_, _, _]) S17_5 R2a rfl rfl rfl rfl rfl rfl rfl ?_
   intro w18_1 S18_1 X18_1
   dsimp only [k0a, List.set] at S18_1
   replace hR4 := hR4.keep (X18_1.mono (by simp))
   refine lR0 rfl ⟨⟩ ?_
   have SF := S18_1.setEnt 6 rfl (show _ = (atC c t s).map (Value.int .i64) ++ pada by exact L7b h100 (by omega) (by omega) (by simp) (by simp))
   have hal := T5a c t s
   rw [f0b hm0 h76 hxb (k := k) (by omega)] at hf' ⊢
   have SG := SF.setEnt 5 rfl (congrArg (fun i => vs.set i _) (show 0 + (t : Int).toNat * 1 = t by simp))
   refine r1a (n := 3) rfl p1a rfl (SG.cells 8 rfl) rfl ⟨⟨_, rfl, _, _, _, rfl, hrm.rdI SG (k := 7) rfl hM (e5a hp hf'.mem) (by simp; omega), ?_, ?_⟩, SG.fin⟩
   ·have := (C3a.ofPad (g := ga) (l := atC c t s) (pad := pada) (by rw [hal]; exact hmxa)).rdI SG (k := 6) rfl hM (A8a hp hf') (by rw [hal]; omega)
    rw [hal] at this
    exact this
   ·have hA := SG.apartM (A := [_, _, _, _, _, _, _, _, _, _, _]) hM
    have := SG.rdBs (M := M) 5 rfl (U0a hM (SG.new 5 rfl)) (bs := c.buf.set t _) (by simp; omega) (hR4.rd (A := [_, _, _, _, _, _, _, _, _, _, _]) SG (Mx := M) (fun g hg => by simp [hg]) hA (fun x hx => by
     obtain ⟨q, hq, rfl⟩ := List.getElem_of_mem hx
     have := (hf'.bufs q _ (List.getElem?_eq_getElem hq)).1
     omega))
    rw [List.length_set] at this
    exact this
  refine lO0 rfl ⟨⟩ (w1a p1a rfl (S15_7.cells 4 rfl) rfl rfl ?_)
  first | refine e0a (kk := 8) (vs := [_, _, _]) S15_7 R2a rfl rfl rfl rfl rfl rfl rfl ?_
  intro w18_1 S18_1 X18_1
  dsimp only [k0a, List.set] at S18_1
  replace hR4 := hR4.keep (X18_1.mono (by simp))
  refine lR0 rfl ⟨⟩ ?_
  have SF := S18_1.setEnt 6 rfl (show _ = (atC c t s).map (Value.int .i64) ++ pada by exact s3c h100 (by omega) (by simp))
  have hal := T5a c t s
  rw [f0b hm0 h76 hxb (k := k) (by omega)] at hf' ⊢
  have SG := SF.setEnt 5 rfl (congrArg (fun i => vs.set i _) (show 0 + (t : Int).toNat * 1 = t by simp))
  refine r1a (n := 3) rfl p1a rfl (SG.cells 8 rfl) rfl ⟨⟨_, rfl, _, _, _, rfl, hrm.rdI SG (k := 7) rfl hM (e5a hp hf'.mem) (by simp; omega), ?_, ?_⟩, SG.fin⟩
  ·have := (C3a.ofPad (g := ga) (l := atC c t s) (pad := pada) (by rw [hal]; exact hmxa)).rdI SG (k := 6) rfl hM (A8a hp hf') (by rw [hal]; omega)
   rw [hal] at this
   exact this
  ·have hA := SG.apartM (A := [_, _, _, _, _, _, _, _, _, _, _]) hM
   have := SG.rdBs (M := M) 5 rfl (U0a hM (SG.new 5 rfl)) (bs := c.buf.set t _) (by simp; omega) (hR4.rd (A := [_, _, _, _, _, _, _, _, _, _, _]) SG (Mx := M) (fun g hg => by simp [hg]) hA (fun x hx => by
    obtain ⟨q, hq, rfl⟩ := List.getElem_of_mem hx
    have := (hf'.bufs q _ (List.getElem?_eq_getElem hq)).1
    omega))
   rw [List.length_set] at this
   exact this
 try have hR4 := hR.keep (KM.mono (fun g hg => List.mem_append_left _ (List.mem_append_left _ hg)))
 refine lO0 rfl ⟨⟩ (s0a P3a rfl (by exact S.cell 4 rfl rfl) rfl ?_)
 refine lO0 rfl ⟨⟩ (s0a C0a rfl (by exact S.cell 9 rfl rfl) rfl ?_)
 refine lO0 rfl ⟨⟩ (s0a C0a rfl (by exact S.cell 3 rfl rfl) rfl ?_)
 refine x0a Y0a.slT rfl (by rfl) rfl (by omega) (by omega) rfl ?_
 first | refine I0a (kk := 6) S V0b rfl (by conv => lhs; whnf) rfl rfl (by (simp; omega)) ?_
 intro w15_7 S15_7 X15_7
 replace hR4 := hR4.keep (X15_7.mono (by simp))
 refine lO0 rfl ⟨⟩ (s0a C0a rfl (by exact S15_7.cell 3 rfl rfl) rfl ?_)
 refine lB0 rfl ⟨⟩ (fun h100 => ?_) fun h100 => ?_
 ·refine lO0 rfl ⟨⟩ (s0a P3a rfl (by exact S15_7.cell 4 rfl rfl) rfl ?_)
  refine lO0 rfl ⟨⟩ (s0a C0a rfl (by exact S15_7.cell 3 rfl rfl) rfl ?_)
  have q6 := hk6 (by omega)
  refine x0a Y0a.slT rfl (by rfl) rfl (by omega) (by omega) rfl ?_
  first | refine I0a (kk := 6) S15_7 V0b rfl (by conv => lhs; whnf) rfl rfl (by (simp; omega)) ?_
  intro w17_5 S17_5 X17_5
  replace hR4 := hR4.keep (X17_5.mono (by simp))
  refine lO0 rfl ⟨⟩ (w1a p1a rfl (S17_5.cells 4 rfl) rfl rfl ?_)
  first | refine e0a (kk := 8) (vs := [_, _, _]) S17_5 R2a rfl rfl rfl rfl rfl rfl rfl ?_
  intro w18_1 S18_1 X18_1
  dsimp only [k0a, List.set] at S18_1
  replace hR4 := hR4.keep (X18_1.mono (by simp))
  refine lR0 rfl ⟨⟩ ?_
  have SF := S18_1.setEnt 6 rfl (show _ = (atC c t s).map (Value.int .i64) ++ pada by exact L7b h100 (by omega) (by omega) (by simp) (by simp))
  have hal := T5a c t s
  rw [h0b h76 (k := k) (by omega)] at hf' ⊢
  have SG := SF
  refine r1a (n := 3) rfl p1a rfl (SG.cells 8 rfl) rfl ⟨⟨_, rfl, _, _, _, rfl, hrm.rdI SG (k := 7) rfl hM (e5a hp hf'.mem) (by simp; omega), ?_, ?_⟩, SG.fin⟩
  ·have := (C3a.ofPad (g := ga) (l := atC c t s) (pad := pada) (by rw [hal]; exact hmxa)).rdI SG (k := 6) rfl hM (A8a hp hf') (by rw [hal]; omega)
   rw [hal] at this
   exact this
  ·have hA := SG.apartM (A := [_, _, _, _, _, _, _, _, _, _, _]) hM
   have := SG.rdBs (M := M) 5 rfl (U0a hM (SG.new 5 rfl)) (bs := c.buf) (by omega) (hR4.rd (A := [_, _, _, _, _, _, _, _, _, _, _]) SG (Mx := M) (fun g hg => by simp [hg]) hA (fun x hx => by
    obtain ⟨q, hq, rfl⟩ := List.getElem_of_mem hx
    have := (hf'.bufs q _ (List.getElem?_eq_getElem hq)).1
    omega))
   exact this
 refine lO0 rfl ⟨⟩ (w1a p1a rfl (S15_7.cells 4 rfl) rfl rfl ?_)
 first | refine e0a (kk := 8) (vs := [_, _, _]) S15_7 R2a rfl rfl rfl rfl rfl rfl rfl ?_
 intro w18_1 S18_1 X18_1
 dsimp only [k0a, List.set] at S18_1
 replace hR4 := hR4.keep (X18_1.mono (by simp))
 refine lR0 rfl ⟨⟩ ?_
 have SF := S18_1.setEnt 6 rfl (show _ = (atC c t s).map (Value.int .i64) ++ pada by exact s3c h100 (by omega) (by simp))
 have hal := T5a c t s
 rw [h0b h76 (k := k) (by omega)] at hf' ⊢
 have SG := SF
 refine r1a (n := 3) rfl p1a rfl (SG.cells 8 rfl) rfl ⟨⟨_, rfl, _, _, _, rfl, hrm.rdI SG (k := 7) rfl hM (e5a hp hf'.mem) (by simp; omega), ?_, ?_⟩, SG.fin⟩
 ·have := (C3a.ofPad (g := ga) (l := atC c t s) (pad := pada) (by rw [hal]; exact hmxa)).rdI SG (k := 6) rfl hM (A8a hp hf') (by rw [hal]; omega)
  rw [hal] at this
  exact this
 ·have hA := SG.apartM (A := [_, _, _, _, _, _, _, _, _, _, _]) hM
  have := SG.rdBs (M := M) 5 rfl (U0a hM (SG.new 5 rfl)) (bs := c.buf) (by omega) (hR4.rd (A := [_, _, _, _, _, _, _, _, _, _, _]) SG (Mx := M) (fun g hg => by simp [hg]) hA (fun x hx => by
   obtain ⟨q, hq, rfl⟩ := List.getElem_of_mem hx
   have := (hf'.bufs q _ (List.getElem?_eq_getElem hq)).1
   omega))
  exact this
def NC (w : World) (rs : List (Nat × Obj)) : Prop := ∀ x ∈ rs, w.heap[x.1]? = some x.2 ∧ ∀ a t f, x.2 ≠ .cells a t f
theorem NC.nil {w : World} : NC w [] := fun x hx => by cases hx
theorem NC.lt {w : World} {rs : List (Nat × Obj)} (h : NC w rs) : ∀ x ∈ rs, x.1 < w.heap.size := fun x hx => by
 have := (h x hx).1
 rcases Nat.lt_or_ge x.1 w.heap.size with h' | h'
 ·exact h'
 ·rw [Array.getElem?_eq_none h'] at this; cases this
theorem NC.keep {w w' : World} {rs : List (Nat × Obj)} (h : NC w rs) (k : w0a [] w w') : NC w' rs := fun x hx => ⟨(k.same x.1 (h.lt x hx) (by simp)).trans (h x hx).1, (h x hx).2⟩
theorem NC.ne {w : World} {rs : List (Nat × Obj)} (h : NC w rs) {g t : Nat} {cs : List Value} (hg : p0a w (g, t, cs)) : ∀ x ∈ rs, x.1 ≠ g := fun x hx he => by
 have h1 := (h x hx).1
 rw [he] at h1
 unfold p0a at hg
 rw [hg] at h1
 exact (h x hx).2 _ _ _ (Option.some.inj h1).symm
theorem NC.keepS {w w' : World} {rs : List (Nat × Obj)} (h : NC w rs) {g t : Nat} {cs : List Value} (k : w0a [g] w w') (hg : p0a w (g, t, cs)) : NC w' rs := fun x hx =>
 ⟨(k.same x.1 (h.lt x hx) (by rw [List.mem_singleton]; exact h.ne hg x hx)).trans (h x hx).1, (h x hx).2⟩
theorem NC.keepL {w w' : World} {rs : List (Nat × Obj)} (h : NC w rs) {Gs : List Nat} (k : w0a Gs w w') (hg : ∀ g ∈ Gs, ∃ t cs, p0a w (g, t, cs)) : NC w' rs := fun x hx =>
 ⟨(k.same x.1 (h.lt x hx) (fun hh => by obtain ⟨t, cs, hb⟩ := hg _ hh; exact h.ne hb x hx rfl)).trans (h x hx).1, (h x hx).2⟩
theorem NC.tail {w : World} {x : Nat × Obj} {rs : List (Nat × Obj)} (h : NC w (x :: rs)) : NC w rs := fun y hy => h y (List.mem_cons_of_mem _ hy)
theorem NC.cons {w : World} {x : Nat × Obj} {rs : List (Nat × Obj)} (h : NC w rs) (h1 : w.heap[x.1]? = some x.2) (h2 : ∀ a t f, x.2 ≠ .cells a t f) : NC w (x :: rs) := fun y hy => by
 rcases List.mem_cons.1 hy with rfl | hy
 ·exact ⟨h1, h2⟩
 ·exact h y hy
theorem NC.put {w : World} {l : Nat} {o o' : Obj} {rs : List (Nat × Obj)} (h : NC w ((l, o) :: rs)) (hl : ∀ x ∈ rs, x.1 ≠ l) (ho : ∀ a t f, o' ≠ .cells a t f) : NC (w.putObj l o') ((l, o') :: rs) := by
 have hlt := h.lt (l, o) (by simp)
 refine NC.cons (fun x hx => ⟨?_, (h.tail x hx).2⟩) (World.putObj_heap_same hlt) ho
 rw [World.putObj_heap_other (hl x hx)]; exact (h.tail x hx).1
theorem St.putObj {M : List Nat} {w0 w : World} {L : List Ent} (S : St M w0 w L) {l : Nat} (o : Obj) {rs : List (Nat × Obj)} {o1 : Obj} (h : NC w rs) (hx : (l, o1) ∈ rs) (hl : w0.heap.size ≤ l ∨ l ∈ M) : St M w0 (w.putObj l o) L := by
 refine ⟨S.below.putObj o hl, fun b hb g hg => ⟨(S.own b hb g hg).1, (S.own b hb g hg).2.putObj (fun he => ?_)⟩, S.apart⟩
 exact h.ne (S.own b hb g hg).2 _ hx he.symm
def d7a (rs : List Nat) : List (Nat × Obj) := rs.map fun r => (r, .deferred (some []))
theorem D8b {rs : List Nat} {x : Nat × Obj} (h : x ∈ d7a rs) : x.1 ∈ rs := by
 obtain ⟨_, hr, rfl⟩ := List.mem_map.1 h; exact hr
def Z5a (P : Program) (fn : Func) (R : Value → World → Prop) (D : List Deferred) (e : Env) (w : World) : Prop :=
 ∃ rs : List Nat, D = rs.map W6a ∧ rs.Nodup ∧ NC w (d7a rs) ∧ ∀ w', v0a rs w w' → w'.heap.size = w.heap.size → ∀ tmps : Array Value, P0a { tmps, defers := [] } = e → ∃ v, (results fn tmps).run P w' = .ok v w' ∧ R v w'
theorem q8a {P : Program} {fn : Func} {tmps : Array Value} {R : Value → World → Prop} : ∀ (rs : List Nat) (w : World), rs.Nodup → NC w (d7a rs) → (∀ w', v0a rs w w' → w'.heap.size = w.heap.size → ∃ v, (results fn tmps).run P w' = .ok v w' ∧ R v w') →
 LeavesInM Fence.wide 0 P fn tmps (fun en w' => ∃ v, en = .returned v ∧ R v w') (rs.map W6a) .returning w
 | [], w, _, _, h => by
   obtain ⟨v, h1, h2⟩ := h w (v0a.refl _ _) rfl
   exact ⟨v, h1, v, rfl, h2⟩
 | r :: rs, w, hn, hO, h => by
   obtain ⟨hn1, hn2⟩ := List.nodup_cons.1 hn
   have hr : w.heap[r]? = some (.deferred (some [])) := (hO (r, .deferred (some [])) (by simp [d7a])).1
   refine ⟨by simp, .inl ⟨r, _, rfl, run_takeDeferred hr, q8a rs _ hn2 (fun x hx => ⟨?_, (hO x (by simp [d7a] at hx ⊢; exact .inr hx)).2⟩) fun w' hb hs => ?_⟩⟩
   ·rw [World.putObj_heap_other (show x.1 ≠ r from fun he => hn1 (by rw [← he]; exact D8b hx))]
    exact (hO x (by simp [d7a] at hx ⊢; exact .inr hx)).1
   ·refine h w' ⟨hb.os, hb.tape, hb.output, by simpa using hb.size, fun k hk hm => ?_⟩ (by simpa using hs)
    simp only [List.mem_cons, not_or] at hm
    rw [hb.block k (by simpa using hk) hm.2, World.putObj_heap_other hm.1]
theorem J6a {P : Program} {N : Nat} {w : World} {f : FuncId} {fn : Func} {c : Code} {args : Array Value} {R : Value → World → Prop} (hf : P.funcs[f]? = some fn) (hb : fn.body = some c) (hN : fn.ntmps = N) (hle : Nat.ble args.size N = true)
 (h : W P none N c ⟨Z5a P fn R, fun _ _ _ _ => False, Z5a P fn R⟩ [] (w9a args) w) : M0a P f args w R := by
 subst hN
 unfold W at h
 have hsz : (args ++ Array.replicate (fn.ntmps - args.size) undef).size = fn.ntmps := by
  have := Nat.le_of_ble_eq_true hle
  simp; omega
 have h1 := h { tmps := args ++ Array.replicate (fn.ntmps - args.size) undef, defers := [] } hsz rfl (d9a _ _)
 have key : ∀ (a : Act) (w : World), Z5a P fn R a.defers (P0a a) w → LeavesInM Fence.wide 0 P fn a.tmps (fun en w' => ∃ v, en = .returned v ∧ R v w') a.defers .returning w := by
  intro a w hq
  obtain ⟨rs, hD, hn, hO, hq⟩ := hq
  rw [hD]
  exact q8a rs w hn hO fun w' hb hs => hq w' hb hs a.tmps rfl
 refine callsIn_wide (n := 0).1 (callsIn_of_wp_marks hf hb trivial (wpIn_mono h1 fun ex a w hq => ?_))
 cases ex with
 | normal => exact key a w hq.2
 | ret => exact key a w hq.2
 | exit id => exact hq.2
 | goto l => exact hq
 | panic c => exact hq.elim
 | outgrown => exact hq.elim
section
variable {P : Program} {fn : Func} {R : Value → World → Prop} {D : List Deferred} {e : Env} {w : World}
theorem b3c {t : Nat} (h : fn.results = #[.tmp t]) {v : Value} (hv : e t = v) (rs : List Nat) (hD : D = rs.map W6a) (hn : rs.Nodup) (hO : NC w (d7a rs)) (hR : ∀ w', v0a rs w w' → R v w') : Z5a P fn R D e w :=
 ⟨rs, hD, hn, hO, fun w' hb _ tmps he => by subst he; subst hv; exact ⟨_, by simp [results, h]; rfl, by simpa [P0a] using hR w' hb⟩⟩
theorem X1a {a1 t1 n a2 t2 g1 g2 : Nat} {cs : List Value} {v2 : Value} (h : fn.results = #[.cell a1 t1, .cell a2 t2]) (hM : t7a P t1 n) (hO2 : One P t2) (e1 : e a1 = .pointer (some ⟨g1, 0, none⟩)) (e2 : e a2 = .pointer (some ⟨g2, 0, none⟩)) (hn1 : cs.length = n)
 (rs : List Nat) (hD : D = rs.map W6a) (hn : rs.Nodup) (hO : NC w (d7a rs)) (hc1 : k1a w g1 0 cs) (hc2 : w.cell? ⟨g2, 0, none⟩ = some v2) (hg1 : g1 ∉ rs) (hg2 : g2 ∉ rs) (hR : ∀ w', v0a rs w w' → R (.tuple #[.agg cs.toArray, v2]) w') : Z5a P fn R D e w :=
 ⟨rs, hD, hn, hO, fun w' hb _ tmps he => by
  have hk : w0a rs w w' := ⟨hb.size, hb.block⟩
  have c1 := hc1.keep hk hg1
  have c2 := hk.cell (a := ⟨g2, 0, none⟩) hg2 hc2
  subst he; subst hn1
  simp only [P0a, Array.getD_eq_getD_getElem?] at e1 e2
  have h1 := run_loadCells_list (P := P) w' ⟨g1, 0, none⟩ cs (fun j v hj => by rw [Addr.add_lit]; exact c1 j v hj)
  have h2 : (loadVar t2 ⟨g2, 0, none⟩).run P w' = .ok v2 w' := by rw [hO2 w']; simp [load, Sem.run, c2]
  exact ⟨_, by simp [results, h, asAddr, e1, e2, hM w', h1, h2], hR w' hb⟩⟩
end
theorem w0a.of_belowM {M : List Nat} {w w' : World} (h : v0a M w w') : w0a M w w' := ⟨h.size, h.block⟩
theorem G6a {w wi : World} {rs : List (Nat × Obj)} {rc : Loop} (hO : NC w rs) (hdr : wi.heap[w.heap.size]? = some (.deferred (some []))) (hl : wi.heap[w.heap.size + 1]? = some (.loop rc)) (hB : Below w.heap.size w wi) : NC wi ((w.heap.size + 1, .loop rc) :: (w.heap.size, .deferred (some [])) :: rs) :=
 ((hO.keep (w0a.of_below hB)).cons hdr (by simp)).cons hl (by simp)
theorem O6a {m : Int} {b : List G0a} {i : Nat} {en : G0a} (h : b[i]? = some en) : W2a m b i = (decide (i = 0) || (decide (m = 2) && !((b.take i).any fun o => Z2b o en))) := by
 unfold W2a
 congr 2
 rw [Bool.eq_iff_iff]
 rw [List.all_eq_true, Bool.not_eq_true', List.any_eq_false]
 have hlt := S1a h
 constructor
 ·intro h1 o ho
  obtain ⟨j, hj, rfl⟩ := List.getElem_of_mem ho
  rw [List.length_take] at hj
  have := h1 j (List.mem_range.2 (by omega))
  rw [h, List.getElem?_eq_getElem (by omega)] at this
  rw [List.getElem_take]
  simpa using this
 ·intro h1 j hj
  have hj := List.mem_range.1 hj
  rw [h, List.getElem?_eq_getElem (show j < b.length by omega)]
  have := h1 b[j] (by rw [List.mem_take_iff_getElem]; exact ⟨j, by omega, rfl⟩)
  simpa using this
theorem L8b (cs : List Value) (h8 : cs.length = 8) (t : Int) (w0 : World) :
 M0a Tryz.prog 109 #[.agg cs.toArray, .int .i64 t] w0 fun v w' => (∃ gs gt, v = .func (.func 143) #[] #[.pointer (some ⟨gs, 0, none⟩), .pointer (some ⟨gt, 0, none⟩)] ∧ w0.heap.size ≤ gs ∧ w0.heap.size ≤ gt ∧ p0a w' (gs, 165, cs) ∧ p0a w' (gt, 3, [.int .i64 t])) ∧ Below w0.heap.size w0 w' := by
 have S := St.refl w0
 match cs, h8 with
 | [c0, c1, c2, c3, c4, c5, c6, c7], _ =>
 refine a0a Tryz.func109 rfl Tryz.ntmps109 rfl ?_
 refine wO0 rfl ⟨⟩ (j0a S (by conv => lhs; whnf) rfl ?_)
 intro g2 w2 S2 X2 G2
 refine s6a S2 (v := .int .i64 _) rfl rfl rfl ?_
 intro g3 w3 S3 X3 G3
 refine lO0 rfl ⟨⟩ (E1a rfl rfl ?_)
 exact lT rfl ⟨⟩ rfl ⟨⟨g2, g3, rfl, by simpa using S3.new 1 rfl, by simpa using S3.new 0 rfl, S3.blk 1 rfl, S3.blk 0 rfl⟩, S3.fin⟩
theorem x5b (c : q0a) (m : Int) (t : Nat) (b : List G0a) (hxb : c.buf[t]? = some b) (gs gt l : Nat) (Mf : List Nat) (w0 : World) (xs ps : List Value) (hps : ps.length = 4) (J : Nat → World → Prop) (Q : World → Prop)
 (hX : t0a Mf w0 c xs) (hgs : gs ∉ Mf) (hbs : p0a w0 (gs, 165, xs ++ (ps ++ [.int .i64 m]))) (hbt : p0a w0 (gt, 3, [.int .i64 t]))
 (hJ0 : J 0 w0) (hJK : ∀ i w, J i w → w0a Mf w0 w) (hJs : ∀ i w w', J i w → Below w.heap.size w w' → J i w') (hJn : ∀ i w, J i w → i < b.length → W2a m b i = false → J (i + 1) w)
 (hY : ∀ (i : Nat) (en : G0a) (w : World) (es : List Value), b[i]? = some en → W2a m b i = true → J i w → (∀ (M' : List Nat) (w' : World), (∀ g ∈ M', g ∈ Mf ∨ w0.heap.size ≤ g) → w0a M' w0 w' → V0a M' w' es en) → Yld Tryz.prog l #[.int .i64 i, .agg es.toArray] w fun v w' => (v = .bool true ∧ J (i + 1) w') ∨ (v = .bool false ∧ Q w')) :
 M0a Tryz.prog 143 #[.func (.yield l) #[] #[], .pointer (some ⟨gs, 0, none⟩), .pointer (some ⟨gt, 0, none⟩)] w0 fun _ w' => J b.length w' ∨ Q w' := by
 obtain ⟨_, _, _, _, _, _, Xb, xb, yb, rfl, _, _, hBuf, _, _, _, _, _, _⟩ := hX.open_
 match ps, hps with
 | [c3, c4, c5, c6], _ =>
 have S := St.refl w0
 have hbs2 : w0.cell? ⟨gs, 2, none⟩ = some (.slice Xb xb yb) := hbs.cell rfl
 have hbt2 : w0.cell? ⟨gt, 0, none⟩ = some (.int .i64 t) := hbt.cell rfl
 have ht := S1a hxb
 refine a0a Tryz.func143 rfl Tryz.ntmps143 rfl ?_
 refine wO0 rfl ⟨⟩ (s0a n6a rfl (by exact S.old hbs2) rfl ?_)
 refine s0a C0a rfl (by exact S.old hbt2) rfl ?_
 obtain ⟨_, b11, p11, _, hx11, hA11, _, _, hc11, hr11⟩ := RdS.get (hBuf) (t) (by omega)
 obtain rfl := Option.some.inj (hxb.symm.trans hx11)
 obtain ⟨Ab11, nb11, cb11, rfl, hBu11, _, _⟩ := s5a.open_ hr11
 refine lC (S.k.a hc11) [.x b11 p11,.f 0 0] rfl ⟨rfl,⟨hA11,by omega⟩,⟨⟩⟩ (wL (fun μ D ε w => D = [] ∧ ∃ k : Nat, (k + μ = b.length) ∧ (J k w) ∧ ε 0 = .func (.yield l) #[] #[] ∧ ε 1 = .pointer (some ⟨gs, 0, none⟩) ∧ ε 4 = .slice Ab11 nb11 cb11 ∧ ε 13 = .slice Ab11 nb11 cb11 ∧ ε 14 = .int .i64 nb11 ∧ ε 15 = .int .i64 k) (μ := b.length) ⟨rfl, 0, by omega, hJ0, rfl, rfl, rfl, rfl, rfl, rfl⟩ ?_)
 rintro μ D ε w ⟨rfl, k, hk, hJ, e0, e1, e4, e13, e14, e15⟩
 refine o0a 0 e0 (o0a 1 e1 (o0a 4 e4 (o0a 13 e13 (o0a 14 e14 (o0a 15 e15 ?_)))))
 clear e0 e1 e4 e13 e14 e15
 have hKw := hJK _ _ hJ
 have hBu3 := RdS.keepW hBu11 hKw (V0a.keep hKw)
 have hBu2 := (RdS.mono hBu11 (R' := fun cs x => ∀ (M' : List Nat) (w' : World), (∀ g ∈ M', g ∈ Mf ∨ w0.heap.size ≤ g) → w0a M' w0 w' → V0a M' w' cs x) (fun cs x h M' w' hm hk => V0a.keep hk _ _ (V0a.more hm _ _ h))).keep hKw
 have hbm2 : w.cell? ⟨gs, 7, none⟩ = some (.int .i64 m) := hKw.cell (a := ⟨gs, 7, none⟩) hgs (hbs.cell rfl)
 replace S := St.refl w
 refine wB0 rfl ⟨⟩ (fun h16 => ?_) fun h16 => ?_
 ·obtain ⟨en, b18, p18, _, hxen, hA18, _, hl18, hc18, hr18⟩ := RdS.get (hBu2) (k) (by omega)
  have hrE := hr18 Mf _ (fun g hg => .inl hg) hKw
  obtain ⟨_, _, _, _, _, _, rfl, -⟩ := V0a.open_ hrE
  refine lO (S.k.a hc18) [.x b18 p18,.v 0] rfl ⟨⟨rfl,hl18⟩,⟨hA18,by omega⟩,⟨⟩⟩ (n0a S n9a rfl rfl ?_)
  intro g6 w6 S6 X6 G6
  refine lO0 rfl ⟨⟩ ?_
  first | refine e0a (kk := 0) (vs := [_, _]) S6 Z9a rfl rfl rfl rfl rfl rfl rfl ?_
  intro w3_5 S3_5 X3_5
  dsimp only [k0a, List.set] at S3_5
  refine lC0 rfl ⟨⟩ (D0a b0a [0, 1, 2, 3, 4, 5, 6, 7, 8, 9, 10, 11, 12, 13] [] [] (by kernel_rfl) rfl (Cl _ _ _ _) (Cl.start S3_5) ?_)
  refine qB0 rfl ⟨⟩ (fun h21 => ?_) fun h21 => ?_
  ·refine qO0 rfl ⟨⟩ (h0a C0a rfl (fun w1 hw => by exact hw.1.old hbm2) rfl ?_)
   refine qB0 rfl ⟨⟩ (fun h25 => ?_) fun h25 => ?_
   ·refine qD rfl ⟨⟩ ?_
    rintro wR4 ⟨SR4, XR4⟩
    refine lP0 rfl ⟨by omega,⟨⟩⟩ ?_
    exact ⟨μ - 1, by omega, rfl, k + 1, by omega, hJs _ _ _ (hJn _ _ hJ (by omega) (by rw [O6a hxen, decide_eq_false (show ¬ k = 0 by omega), decide_eq_false (show ¬ m = 2 from h25)]; rfl)) SR4.fin, rfl, rfl, rfl, rfl, rfl, rfl⟩
   refine qO0 rfl ⟨⟩ ?_
   refine M4b (lo := 0) (hi := k) (kd := .i64) F4a.slT (show _ = Value.slice (some ⟨b18, p18, none⟩) nb11 cb11 by rw [← hA18]; rfl) (.inl ⟨rfl, rfl⟩) (.inr rfl) (by omega) (by have := hBu2.len; omega) hBu2.len.2.1 rfl ?_
   simp only [Nat.zero_mul, Nat.add_zero, Nat.sub_zero, ite_self]
   refine qO S3_5.q [.w 0] rfl ⟨⟨rfl,by rfl⟩,⟨⟩⟩ (W1a A4c rfl rfl (fun w1 S1 X1 => n7b (b.take k) en Mf _ _ _ (RdS.take (RdS.keepW (hA18 ▸ hBu3) (S1.keep0 Mf) (V0a.keep (S1.keep0 Mf))) k (by omega)) (V0a.keep (S1.keep0 Mf) _ _ hrE)) (fun h31 => ?_) fun h31 => ?_)
   ·refine qD rfl ⟨⟩ ?_
    rintro wR4 ⟨SR4, XR4⟩
    refine lP0 rfl ⟨by omega,⟨⟩⟩ ?_
    exact ⟨μ - 1, by omega, rfl, k + 1, by omega, hJs _ _ _ (hJn _ _ hJ (by omega) (by rw [O6a hxen, decide_eq_false (show ¬ k = 0 by omega), h31]; simp)) SR4.fin, rfl, rfl, rfl, rfl, rfl, rfl⟩
   refine qD rfl ⟨⟩ ?_
   rintro wR4 ⟨SR4, XR4⟩
   refine lO SR4.k [.w 0] rfl ⟨⟨rfl,by rfl⟩,⟨⟩⟩ ?_
   have hrd : W2a m b k = true := by
    rw [O6a hxen]
    rw [decide_eq_true (show m = 2 by omega), h31]; simp
   refine M3b rfl rfl rfl (hY k en _ _ hxen hrd (hJs _ _ _ hJ SR4.fin) hr18) ?_
   rintro v37 w37 (⟨rfl, hJ37⟩ | ⟨rfl, hQ37⟩)
   ·exact lP0 rfl ⟨by omega,⟨⟩⟩ ⟨μ - 1, by omega, rfl, k + 1, by omega, hJ37, rfl, rfl, rfl, rfl, rfl, rfl⟩
   refine lR0 rfl ⟨⟩ (K1a rfl ?_)
   exact .inr hQ37
  refine qD rfl ⟨⟩ ?_
  rintro wR4 ⟨SR4, XR4⟩
  refine lO SR4.k [.w 0] rfl ⟨⟨rfl,by rfl⟩,⟨⟩⟩ ?_
  have hrd : W2a m b k = true := by
   rw [O6a hxen]
   rw [decide_eq_true (show k = 0 by omega)]; rfl
  refine M3b rfl rfl rfl (hY k en _ _ hxen hrd (hJs _ _ _ hJ SR4.fin) hr18) ?_
  rintro v37 w37 (⟨rfl, hJ37⟩ | ⟨rfl, hQ37⟩)
  ·exact lP0 rfl ⟨by omega,⟨⟩⟩ ⟨μ - 1, by omega, rfl, k + 1, by omega, hJ37, rfl, rfl, rfl, rfl, rfl, rfl⟩
  refine lR0 rfl ⟨⟩ (K1a rfl ?_)
  exact .inr hQ37
 refine lF0 rfl ⟨⟩ (K1a rfl ?_)
 obtain rfl : k = b.length := by omega
 exact .inl hJ
theorem O1b {rc : Loop} (hst : rc.state = .ready) (hpe : rc.pending = none) : ({ ({ rc with state := .busy } : Loop) with state := if (none : Option Code).isNone then .ready else .done, pending := none } : Loop) = rc := by
 cases rc; simp at hst hpe ⊢; exact ⟨hst.symm, hpe.symm⟩
theorem y9b {M : List Nat} {w0 w : World} {L : List Ent} (S : St M w0 w L) (k : Nat) {G : Option Nat} {t : TypeId} {cs : List Value} (hk : L[k]? = some (G, t, cs)) : ∀ g ∈ G.toList, ∃ t cs, p0a w (g, t, cs) := fun g hg => by
 have : G = some g := by cases G <;> simp at hg ⊢; exact hg.symm
 subst this
 exact ⟨_, _, S.blk k hk⟩
theorem M8b {w0 w : World} {L : List Ent} (S : St [] w0 w L) (k : Nat) {G : Option Nat} {t : TypeId} {cs : List Value} (hk : L[k]? = some (G, t, cs)) : ∀ g ∈ G.toList, w0.heap.size ≤ g := fun g hg => by
 have : G = some g := by cases G <;> simp at hg ⊢; exact hg.symm
 subst this
 simpa using S.new k hk
theorem D8a (p : f0a) (c : q0a) (m : Int) (hm : (m = 0 ∧ Q3a c) ∨ m = 1 ∨ m = 2) (M : List Nat) (w0 : World) (cs xs : List Value) (hI : InP p M w0 cs) (hX : t0a M w0 c xs) (hf : D3a p c) :
 M0a Tryz.prog 82 #[.agg cs.toArray, .int .i64 m, .agg xs.toArray] w0 fun v w' => g2c M w' v (H0a p m c) ∧ Below w0.heap.size w0 w' := by
 obtain ⟨Ac, nc, cc, Am, nm, cm, Al, nl, cl, At, nt, ct, rfl, _, _, _, hTh, _, _, _, _, _, _, _, _⟩ := hI.rd.open_
 obtain ⟨Xm, xm, ym, Xa, xa, ya, Xb, xb, yb, rfl, _, _, _, _, _, _, _, _, _⟩ := hX.open_
 have S := St.refl w0
 have hM := hI.lt
 have hp := hI.ok
 have f2 := hf.nat
 have f3 := hf.nbuf
 have n2 := hp.nthreads
 refine J6a Tryz.func82 rfl Tryz.ntmps82 rfl (wI ?_)
 refine wO0 rfl ⟨⟩ (j0a S (by conv => lhs; whnf) rfl ?_)
 intro g3 w3 S3 X3 G3
 refine j0a S3 (by conv => lhs; whnf) rfl ?_
 intro g5 w5 S5 X5 G5
 refine lB0 rfl ⟨⟩ (fun h16 => ?_) fun h16 => ?_
 ·have hm0 : m = 0 ∧ Q3a c := by rcases hm with h | h | h; exact h; omega; omega
  obtain ⟨rfl, he⟩ := hm0
  refine lO S5.k [.w 1,.w 0] rfl ⟨⟨rfl,by rfl⟩,⟨rfl,by rfl⟩,⟨⟩⟩ (B0a S5 U5c rfl rfl (P7a p c M _ _ _ (hI.keep (S5.keep0 M)) (hX.keep (S5.keep0 M)) hf he) ?_)
  rintro v19 w19 hr S19 X19
  refine T0a (by conv => lhs; whnf) rfl ?_
  exact lR0 rfl ⟨⟩ (b3c rfl (by conv => lhs; whnf) [] rfl List.nodup_nil NC.nil (fun w' hb => ⟨hr.keep (w0a.of_below hb.nil), (S19.below.trans hb).nil⟩))
 have hm2 : m = 1 ∨ m = 2 := by rcases hm with h | h | h; exact absurd h.1 (by assumption); exact .inl h; exact .inr h
 refine lO S5.k [.w 1,.w 0] rfl ⟨⟨rfl,by rfl⟩,⟨rfl,by rfl⟩,⟨⟩⟩ (g0a S5 y8b rfl rfl (Y7b p c m hm2 M _ _ _ (hI.keep (S5.keep0 M)) (hX.keep (S5.keep0 M)) hf) ?_)
 intro w24 S24 X24
 refine lO0 rfl ⟨⟩ (n0a S24 N7b rfl rfl ?_)
 intro g7 w7 S7 X7 G7
 refine e0a (kk := 0) (vs := [_, _, _, _, _, _, _, _]) S7 k6b rfl rfl rfl rfl rfl rfl rfl ?_
 intro w3_8 S3_8 X3_8
 dsimp only [k0a, List.set] at S3_8
 refine lO0 rfl ⟨⟩ (n0a S3_8 C9c rfl rfl ?_)
 intro g9 w9 S9 X9 G9
 refine lC S9.k [.o 1] rfl ⟨rfl,⟨⟩⟩ (wL (fun μk D ε w => ∃ k : Nat, ∃ rs : List Nat, ∃ G : Option Nat, ∃ cs' : List Value, ∃ v : Value, D = rs.map W6a ∧ (k + μk = (p.threads.length)) ∧ (rs.Nodup ∧ ∀ r ∈ rs, w0.heap.size ≤ r) ∧ (NC w (d7a rs)) ∧ (Q1a (fun _ _ => R1a) 3 [] w0 G cs' v (k2a p m c k)) ∧ St [] w0 w ([(some g9, 41, [v]), (some g7, 165, [.slice Xm xm ym, .slice Xa xa ya, .slice Xb xb yb, .slice Ac nc cc, .slice Am nm cm, .slice Al nl cl, .slice At nt ct, .int .i64 m]), (some g5, 38, [.slice Xm xm ym, .slice Xa xa ya, .slice Xb xb yb]), (some g3, 27, [.slice Ac nc cc, .slice Am nm cm, .slice Al nl cl, .slice At nt ct])] ++ [(G, 44, cs')]) ∧ Sl ε [(3, .pointer (some ⟨g3, 0, none⟩)), (5, .pointer (some ⟨g5, 0, none⟩)), (7, .pointer (some ⟨g7, 0, none⟩)), (9, .pointer (some ⟨g9, 0, none⟩)), (32, .int .i64 xa), (33, .int .i64 k)]) (μ := (p.threads.length)) ⟨0, [], none, [], .slice none 0 0, rfl, by omega, ⟨List.nodup_nil, by simp⟩, NC.nil, Q1a.nil, (S9.nils (R := [(none, 44, [])]) (by simp)), rfl⟩ ?_)
 rintro μk D ε w ⟨k, rs, G, cs', v, rfl, _, hrs, hO, hrow, S, eZ⟩
 refine wK eZ (wB0 rfl ⟨⟩ (fun h34 => ?_) fun h34 => ?_)
 ·refine lO0 rfl ⟨⟩ (n0a S K9c rfl rfl ?_)
  intro g10 w10 S10 X10 G10
  replace hO := hO.keep X10
  refine I0a (kk := 0) S10 V0b rfl (by conv => lhs; whnf) rfl rfl (by exact Nat.le_of_ble_eq_true rfl) ?_
  intro w9_2 S9_2 X9_2
  replace hO := by exact hO.keepS X9_2 (S10.blk 0 rfl)
  refine lCn 3 S9_2.k [] rfl ⟨⟩ ?_
  obtain ⟨b, hxb⟩ : ∃ b, c.buf[k]? = some b := ⟨c.buf[k]'(by omega), List.getElem?_eq_getElem _⟩
  have hMv : ∀ g ∈ g9 :: (G.toList ++ M), g < w9_2.heap.size := fun g hg => by
   rcases List.mem_cons.1 hg with rfl | hg
   ·exact S9_2.lt 1 rfl
   ·rcases List.mem_append.1 hg with hg | hg
    ·exact M0b S9_2 (k := 5) rfl g hg
    ·have := hM g hg; have := S9_2.size; omega
  have hXv : t0a (g9 :: (G.toList ++ M)) w9_2 c _ := (hX.more (fun g hg => by
   rcases List.mem_cons.1 hg with rfl | hg
   ·exact .inr (by simpa using S9_2.new 1 rfl)
   ·rcases List.mem_append.1 hg with hg | hg
    ·exact .inr (M8b S9_2 5 rfl g hg)
    ·exact .inl hg)).keep (S9_2.keep0 _)
  refine wO0 rfl ⟨⟩ (w1a p1a rfl (S9_2.cells 3 rfl) rfl rfl ?_)
  refine lO S9_2.k [.o 0] rfl ⟨rfl,⟨⟩⟩ (B0a S9_2 Z9b rfl rfl (J8b p hp c k b (g9 :: (G.toList ++ M)) _ hMv _ hXv hf hxb) ?_)
  rintro v38 w38 hV S38 X38
  replace hO := hO.keep X38
  obtain ⟨Av, nv, cv, rfl⟩ := hV.form
  have KV := w0a.refl (g9 :: G.toList) w38
  refine lO0 rfl ⟨⟩ (s0a i6b rfl (by exact S38.cell 4 rfl rfl) rfl ?_)
  obtain ⟨th, b42, p42, _, hxth, hA42, _, _, hc42, hr42⟩ := RdS.get (hTh) (k) (by omega)
  obtain ⟨_, _, _, _, _, _, _, ns42, _, _, _, _, rfl, _, _, _, _, _, _, _, _, _, _, _, _, _⟩ := N0a.open_ hr42
  have hns := (hp.thread hxth).nsteps
  refine lC (S38.k.a hc42) [.o 0,.x b42 p42,.f 0 4] rfl ⟨rfl,⟨hA42,by omega⟩,rfl,⟨⟩⟩ (wL (fun μj D ε w => D = rs.map W6a ∧ ∃ j : Nat, ∃ G2 : Option Nat, ∃ cs2 : List Value, ∃ v2 : Value, (j + μj = (th.steps.length)) ∧ (NC w (d7a rs)) ∧ (w0a (g9 :: G.toList) w38 w) ∧ (∀ g ∈ G2.toList, w38.heap.size ≤ g ∨ g ∈ g9 :: G.toList) ∧ (Q1a (fun _ _ => R1a) 3 [] w0 G2 cs2 v2 (k2a p m c k ++ p2a p m c k j)) ∧ St [] w0 w ([(some g10, 3, [.int .i64 k]), (some g9, 41, [v2]), (some g7, 165, [.slice Xm xm ym, .slice Xa xa ya, .slice Xb xb yb, .slice Ac nc cc, .slice Am nm cm, .slice Al nl cl, .slice At nt ct, .int .i64 m]), (some g5, 38, [.slice Xm xm ym, .slice Xa xa ya, .slice Xb xb yb]), (some g3, 27, [.slice Ac nc cc, .slice Am nm cm, .slice Al nl cl, .slice At nt ct])] ++ [(G2, 44, cs2)]) ∧ Sl ε [(3, .pointer (some ⟨g3, 0, none⟩)), (5, .pointer (some ⟨g5, 0, none⟩)), (7, .pointer (some ⟨g7, 0, none⟩)), (9, .pointer (some ⟨g9, 0, none⟩)), (10, .pointer (some ⟨g10, 0, none⟩)), (11, .slice Av nv cv), (32, .int .i64 xa), (33, .int .i64 k), (45, .int .i64 ns42), (46, .int .i64 j)]) (μ := (th.steps.length)) ⟨rfl, 0, G, cs', v, by omega, hO, KV, fun g hg => .inr (List.mem_cons_of_mem _ hg), by simpa [p2a] using hrow, S38, rfl⟩ ?_)
  rintro μj D ε w ⟨rfl, j, G2, cs2, v2, _, hO, KV, hG2, hrow2, S, eZ⟩
  refine wK eZ (wB0 rfl ⟨⟩ (fun h47 => ?_) fun h47 => ?_)
  ·refine lO0 rfl ⟨⟩ (w1a Y5a rfl (S.cells 2 rfl) rfl rfl ?_)
   refine s0a C0a rfl (by exact S.cell 0 rfl rfl) rfl ?_
   refine lO0 rfl ⟨⟩ ?_
   obtain ⟨s, hxs⟩ : ∃ s, th.steps[j]? = some s := ⟨th.steps[j]'(by omega), List.getElem?_eq_getElem _⟩
   refine y0a S B0c rfl rfl (v7a p c m hm2 k j th s M _ [.slice Ac nc cc, .slice Am nm cm, .slice Al nl cl, .slice At nt ct] [.slice Xm xm ym, .slice Xa xa ya, .slice Xb xb yb] _ (hI.keep (S.keep0 M)) (hX.keep (S.keep0 M)) ((hV.keep (KV.mono (fun g hg => by rcases List.mem_cons.1 hg with rfl | hg; simp; exact List.mem_cons_of_mem _ (List.mem_append_left _ hg)))).less (fun g hg => List.mem_cons_of_mem _ (List.mem_append_right _ hg))) hf hxth hxs) (fun h53 w53 S53 X53 => ?_) (fun h53 w53 S53 X53 => ?_)
   ·replace KV := KV.trans (X53.of_nil)
    replace hO := hO.keep X53
    refine lO0 rfl ⟨⟩ (s0a I5b rfl (by exact S53.cell 1 rfl rfl) rfl ?_)
    refine s0a C0a rfl (by exact S53.cell 0 rfl rfl) rfl ?_
    refine lO0 rfl ⟨⟩ (i1a C8b (vs := [(0, .int .i64 _), (1, .int .i64 _)]) (cs := [_, _, _]) rfl rfl rfl rfl ?_)
    refine E0a S53 o3a (vs := [.agg _]) (cs := [_, _, _]) (by rfl) rfl rfl rfl rfl rfl rfl ?_
    intro g58 w58 S58 X58 G58
    replace KV := KV.trans (X58.of_nil)
    replace hO := hO.keep X58
    have l1 := J2a hp hf m k (by omega)
    have l2 := f5a p m c k j
    refine C1a T1a (k := 6) (M2 := []) (e1 := ⟨k, j, 0⟩) S58 o3a (by decide) rfl hrow2 rfl rfl (S58.cells 0 rfl) (R1a.of (by unfold i64; omega) (by unfold i64; omega) (by unfold i64; omega)) (by rw [List.length_append]; omega) rfl ?_
    intro v59 G59 cs59 w59 S59 hrow59 X59 F59
    have Z59 := KV.size
    obtain ⟨_, _, rfl⟩ := hrow59.form
    replace hO := hO.keepL X59 (y9b S58 6 rfl)
    replace KV := KV.freshL X59 hG2
    first | refine I0a (kk := 2) S59 d7c rfl (by conv => lhs; whnf) rfl rfl (by exact Nat.le_of_ble_eq_true rfl) ?_
    intro w15_6 S15_6 X15_6
    replace KV := KV.fresh2 X15_6 (by exact .inr (by simp))
    replace hO := by exact hO.keepS X15_6 (S59.blk 2 rfl)
    refine lP0 rfl ⟨by omega,⟨⟩⟩ ⟨μj - 1, by omega, rfl, (j + 1), (_), (_), (_), (by omega), (hO), (KV), ?_, ?_, S15_6.tail, rfl⟩
    ·intro g hg; rcases F59 g hg with h | h
     ·exact hG2 g h
     ·left; omega
    ·rw [F9a hxth hxs h53, ← List.append_assoc]; exact hrow59
   replace KV := KV.trans (X53.of_nil)
   replace hO := hO.keep X53
   refine lP0 rfl ⟨by omega,⟨⟩⟩ ⟨μj - 1, by omega, rfl, (j + 1), (_), (_), (_), (by omega), (hO), (KV), ?_, ?_, S53, rfl⟩
   ·exact hG2
   ·rw [o0b hxth hxs h53]; exact hrow2
  refine lO0 rfl ⟨⟩ (w1a Y5a rfl (S.cells 2 rfl) rfl rfl ?_)
  refine s0a C0a rfl (by exact S.cell 0 rfl rfl) rfl ?_
  refine B0a S a0c rfl rfl (L8b _ rfl (k : Int) _) ?_
  rintro v63 w63 ⟨gs, gt, rfl, _, _, hbs, hbt⟩ S63 X63
  replace hO := hO.keep X63
  refine lC0 rfl ⟨⟩ (wJ ?_)
  refine t6a (vs := fun y => #[y, _, _]) Z8b rfl (fun _ => rfl) (fun rc wi hst hpe htm henv hps has hbo hdr hl hB hsz => ?_)
  obtain ⟨l, hl'⟩ : ∃ l, l = w63.heap.size + 1 := ⟨_, rfl⟩
  have hO1 := G6a hO hdr hl hB
  rw [← hl'] at hl hO1 ⊢
  have Si := S63.later hB
  have Ki : w0a [] w63 wi := w0a.of_below hB
  have Zw := S63.size
  have lgs : gs < w63.heap.size := hbs.lt
  have lg9 : g9 < w63.heap.size := S63.lt 1 rfl
  have ng9 : w0.heap.size ≤ g9 := by simpa using S63.new 1 rfl
  have hMl : ∀ g ∈ (l :: g9 :: (G2.toList ++ M)), g ∈ M ∨ w0.heap.size ≤ g := fun g hg => by
   simp only [List.mem_cons, List.mem_append] at hg
   rcases hg with rfl | rfl | hg | hg
   ·right; omega
   ·right; exact ng9
   ·right; exact M8b S63 5 rfl g hg
   ·exact .inl hg
  have hXi : t0a (l :: g9 :: (G2.toList ++ M)) wi c _ := (hX.more hMl).keep (Si.keep0 _)
  have lgs2 := S.lt 1 rfl
  have hgsM : gs ∉ (l :: g9 :: (G2.toList ++ M)) := fun hh => by
   simp only [List.mem_cons, List.mem_append] at hh
   rcases hh with h | h | h | h
   ·omega
   ·omega
   ·have := M0b S (k := 5) rfl gs h; omega
   ·have := hM gs h; have := S.size; omega
  have hlne : ∀ x ∈ (w63.heap.size, Obj.deferred (some [])) :: d7a rs, x.1 ≠ l := fun x hx => by
   rcases List.mem_cons.1 hx with rfl | hx
   ·show w63.heap.size ≠ l; omega
   ·have := hO.lt x hx; omega
  refine M0a.mono (x5b c m k b hxb gs gt l (l :: g9 :: (G2.toList ++ M)) wi _ [.slice Ac nc cc, .slice Am nm cm, .slice Al nl cl, .slice At nt ct] rfl (fun i w => ∃ (G3 : Option Nat) (cs3 : List Value) (v3 : Value), NC w ((l, .loop rc) :: (w63.heap.size, .deferred (some [])) :: d7a rs) ∧ St [] w0 w ([(some g10, 3, [.int .i64 k]), (some g9, 41, [v3]), (some g7, 165, [.slice Xm xm ym, .slice Xa xa ya, .slice Xb xb yb, .slice Ac nc cc, .slice Am nm cm, .slice Al nl cl, .slice At nt ct, .int .i64 m]), (some g5, 38, [.slice Xm xm ym, .slice Xa xa ya, .slice Xb xb yb]), (some g3, 27, [.slice Ac nc cc, .slice Am nm cm, .slice Al nl cl, .slice At nt ct])] ++ [(G3, 44, cs3)]) ∧ Q1a (fun _ _ => R1a) 3 [] w0 G3 cs3 v3 (k2a p m c k ++ (p2a p m c k th.steps.length ++ c3a m c k i)) ∧ (∀ g ∈ G3.toList, wi.heap.size ≤ g ∨ g ∈ (l :: g9 :: (G2.toList ++ M))) ∧ w0a (l :: g9 :: (G2.toList ++ M)) wi w) (fun _ => False) hXi hgsM (s3a Ki hbs) (s3a Ki hbt) ⟨G2, cs2, v2, hO1, Si, by rw [show j = th.steps.length by omega] at hrow2; simpa [c3a] using hrow2, fun g hg => .inr (List.mem_cons_of_mem _ (List.mem_cons_of_mem _ (List.mem_append_left _ hg))), w0a.refl _ _⟩ (fun i w hJ => by obtain ⟨_, _, _, _, _, _, _, h⟩ := hJ; exact h) ?_ ?_ (fun i en w es hxen hrd hJ hE => ?_)) ?_
  ·rintro i w w' ⟨G3, cs3, v3, hO3, S3, hrow3, hG3, K3⟩ hB'
   exact ⟨G3, cs3, v3, hO3.keep (w0a.of_below hB'), S3.later hB', hrow3, hG3, K3.trans (w0a.of_below hB')⟩
  ·rintro i w ⟨G3, cs3, v3, hO3, S3, hrow3, hG3, K3⟩ hi hr
   exact ⟨G3, cs3, v3, hO3, S3, by rw [H6b (by rw [getD_some hxb]; exact hr)]; exact hrow3, hG3, K3⟩
  ·obtain ⟨G3, cs3, v3, hO3, S3, hrow3, hG3, K3⟩ := hJ
   obtain ⟨_, _, _, _, _, _, rfl, -⟩ := V0a.open_ (hE _ _ (fun g hg => .inl hg) K3)
   have qE := (hf.bufs k b hxb).2.1 en (c0a hxen)
   have qE0 : 0 < en.cells.length := by
    rcases Nat.eq_zero_or_pos en.cells.length with h | h
    ·exact absurd (List.length_eq_zero_iff.1 h) qE.some_
    ·exact h
   have li := S1a hxen
   have l4 := (hf.bufs k b hxb).1
   refine G9b (hO3 (l, .loop rc) (by simp)).1 hst htm henv hps has hbo rfl rfl ?_
   refine wI ?_
   refine wO0 rfl ⟨⟩ (n0a S3 n9a rfl rfl ?_)
   intro g14 w14 S14 X14 G14
   have GK314 := Nat.le_trans K3.size G14
   replace K3 := K3.trans (X14.of_nil)
   replace hO3 := hO3.keep X14
   refine e0a (kk := 0) (vs := [_, _]) S14 Z9a rfl rfl rfl rfl rfl rfl rfl ?_
   intro w18_1 S18_1 X18_1
   dsimp only [k0a, List.set] at S18_1
   replace K3 := K3.fresh2 X18_1 (by exact .inl GK314)
   replace hO3 := by exact hO3.keepS X18_1 (S14.blk 0 rfl)
   refine lF0 rfl ⟨⟩ ?_
   refine ⟨(hO3 (l, .loop rc) (by simp)).1, ?_⟩
   have Sb := S18_1.putObj (.loop { rc with state := .busy }) hO3 (List.mem_cons_self) (.inl (by omega))
   have hOb := hO3.put (o' := .loop { rc with state := .busy }) hlne (by simp)
   have Kb := K3.fresh2 (M1a w18_1 l (.loop { rc with state := .busy })) (.inr (by simp))
   generalize w18_1.putObj l (.loop { rc with state := .busy }) = wb at Sb hOb Kb ⊢
   have hMG : ∀ g ∈ G3.toList ++ (l :: g9 :: (G2.toList ++ M)), g ∈ (l :: g9 :: (G2.toList ++ M)) ∨ wi.heap.size ≤ g := fun g hg => by
    rcases List.mem_append.1 hg with h | h
    ·exact (hG3 g h).symm
    ·exact .inl h
   obtain ⟨_, _, _, _, _, _, heq, hCeB, -⟩ := V0a.open_ (hE (G3.toList ++ (l :: g9 :: (G2.toList ++ M))) wb hMG (Kb.mono (fun g hg => List.mem_append_right _ hg)))
   simp only [List.cons.injEq, Value.slice.injEq, and_true] at heq
   obtain ⟨⟨rfl, rfl, rfl⟩, rfl, rfl, rfl⟩ := heq
   have hec := hCeB.len.1
   refine wI ?_
   obtain ⟨x0, bx, _, _, hxx0, _, hMx, _, hcx, hrx⟩ := RdS.get hCeB 0 qE0
   obtain ⟨rfl, ix0⟩ := hrx
   refine wC0 rfl ⟨⟩ (K0b b0a (fun i => [0, 1, 2, 3, 4, 5, 6].contains i) [0, 1, 2, 3, 4, 5, 6, 7, 8] 9 (by kernel_rfl) (by kernel_rfl) (clF (A := [_, _, _, _, _, _]) (R := [(G3, 44, cs3)]) Sb G3.toList) _ rfl ?_)
   have SR19 := Sb.drew
   have YR19 : w0a [] wb wb.drew := F2a _ _
   generalize wb.drew = wR19 at SR19 YR19 ⊢
   have XR19 : w0a (G3.toList) _ _ := YR19.of_nil
   replace hOb := hOb.keep YR19
   replace Kb := Kb.trans YR19.of_nil
   refine N1a ⟨(St.front (A := [_, _, _, _, _, _]) SR19), XR19⟩ rfl rfl rfl ?_
   refine h0a I5b rfl (fun w1 hw => by exact hw.1.cell 2 rfl rfl) rfl ?_
   refine d0a ?_
   refine N1a ⟨(St.front (A := [_, _, _, _, _, _]) SR19), XR19⟩ rfl rfl rfl ?_
   refine h0a C0a rfl (fun w1 hw => by exact hw.1.cell 1 rfl rfl) rfl ?_
   refine d0a ?_
   refine N1a ⟨(St.front (A := [_, _, _, _, _, _]) SR19), XR19⟩ rfl rfl rfl ?_
   refine F0a o5b rfl rfl ?_
   refine d0a ?_
   refine N1a ⟨(St.front (A := [_, _, _, _, _, _]) SR19), XR19⟩ rfl rfl rfl ?_
   refine h0a P3a rfl (fun w1 hw => by exact hw.1.cell 0 rfl rfl) rfl ?_
   refine d0a ?_
   refine N1a ⟨(St.front (A := [_, _, _, _, _, _]) SR19), XR19⟩ rfl rfl rfl ?_
   refine m0a Y0a.slT rfl (by assumption) rfl (by omega) (by omega) rfl ?_
   refine d0a ?_
   refine N1a ⟨(St.front (A := [_, _, _, _, _, _]) SR19), XR19⟩ rfl rfl rfl ?_
   refine h0a C0a rfl (fun w1 hw => by exact hw.2.cell (a := ⟨bx, _, none⟩) (fun hh => hMx (List.mem_append_left _ hh)) (hcx 0 _ rfl)) rfl ?_
   refine d0a ?_
   refine N1a ⟨(St.front (A := [_, _, _, _, _, _]) SR19), XR19⟩ rfl rfl rfl ?_
   refine h2a C8b (vs := [(0, .int .i64 _), (1, .int .i64 _), (2, .int .i64 _)]) (cs := [_, _, _]) rfl rfl rfl rfl ?_
   refine d0a ?_
   refine T9a ⟨(St.front (A := [_, _, _, _, _, _]) SR19), XR19⟩ rfl rfl rfl rfl ?_
   refine E0a SR19 o3a (vs := [.agg _]) (cs := [_, _, _]) (by rfl) rfl rfl rfl rfl rfl rfl ?_
   intro g73 w73 S73 X73 G73
   have XCw73 := XR19.trans (X73.mono (by simp))
   replace Kb := Kb.trans (X73.of_nil)
   replace hOb := hOb.keep X73
   refine S0a ⟨rfl, ?_⟩
   refine T9a ⟨(St.front (A := [_, _, _, _, _, _, _]) S73).tail, XCw73⟩ rfl rfl rfl rfl ?_
   have l1 := J2a hp hf m k (by omega)
   have l2 := f5a p m c k th.steps.length
   have l3 := c9a m c k i
   refine C1a T1a (k := 7) (M2 := []) (e1 := ⟨k, -1, x0⟩) S73 o3a (by decide) rfl hrow3 rfl rfl (S73.cells 0 rfl) (R1a.of (by unfold i64; omega) (by unfold i64; omega) ix0) (by simp only [List.length_append]; omega) rfl ?_
   intro v74 G74 cs74 w74 S74' hrow74 X74 F74
   have Z74 := Kb.size
   obtain ⟨_, _, rfl⟩ := hrow74.form
   have S74 := S74'.tail
   have XC74 := XCw73.trans X74
   replace hOb := hOb.keepL X74 (y9b S73 7 rfl)
   replace Kb := Kb.freshL X74 hG3
   refine S0a ⟨rfl, ?_⟩
   refine W5a ⟨(St.front (A := [_, _, _, _, _, _]) S74), XC74⟩ ?_
   first | refine I0a (kk := 2) S74 d7c rfl (by conv => lhs; whnf) rfl rfl (by exact Nat.le_of_ble_eq_true rfl) ?_
   intro w19_9 S19_9 X19_9
   replace Kb := Kb.fresh2 X19_9 (by exact .inr (by simp))
   replace hOb := by exact hOb.keepS X19_9 (S74.blk 2 rfl)
   refine S0a ⟨rfl, ?_⟩
   refine fF0 rfl ⟨⟩ ?_
   refine ⟨{ rc with state := .busy }, (hOb (l, _) (by simp)).1, .inl ⟨rfl, ?_⟩⟩
   have hOn := hOb.put (o' := .loop rc) hlne (by simp)
   have Sn := S19_9.tail.putObj (.loop rc) hOb (List.mem_cons_self) (.inl (by omega))
   have Kn := Kb.fresh2 (M1a w19_9 l (.loop rc)) (.inr (by simp))
   rw [O1b hst hpe]
   refine ⟨G74, cs74, _, hOn, Sn, ?_, ?_, Kn⟩
   ·rw [S4b (by rw [getD_some hxb]; exact hrd), getD_some hxb, getD_some hxen, getD_some hxx0]
    simp only [List.append_assoc] at hrow74 ⊢
    exact hrow74
   ·intro g hg
    rcases F74 g hg with h | h
    ·exact hG3 g h
    ·left; omega
  rintro v w3 (⟨G3, cs3, v3, hO3, S3, hrow3, hG3, K3⟩ | hF)
  rotate_left
  ·exact hF.elim
  refine ⟨rc, (hO3 (l, .loop rc) (by simp)).1, by rw [hst]; simp, .inl ⟨hpe, ?_⟩⟩
  have Sa := S3.putObj (.loop { rc with state := .exhausted }) hO3 (List.mem_cons_self) (.inl (by omega))
  have hOa := (hO3.put (o' := .loop { rc with state := .exhausted }) hlne (by simp)).tail
  have hrs' : (w63.heap.size :: rs).Nodup ∧ ∀ r ∈ w63.heap.size :: rs, w0.heap.size ≤ r := ⟨List.nodup_cons.2 ⟨fun hh => by have := hO.lt (w63.heap.size, .deferred (some [])) (List.mem_map.2 ⟨_, hh, rfl⟩); simp at this, hrs.1⟩, fun r hr => by
   rcases List.mem_cons.1 hr with rfl | hr
   ·exact S63.size
   ·exact hrs.2 r hr⟩
  have hrowA : Q1a (fun _ _ => R1a) 3 [] w0 G3 cs3 v3 (k2a p m c k ++ (p2a p m c k th.steps.length ++ c3a m c k b.length)) := hrow3
  clear hrow3 hO
  generalize w3.putObj l (.loop { rc with state := .exhausted }) = wa at Sa hOa ⊢
  have hO : NC wa (d7a (w63.heap.size :: rs)) := hOa
  refine fP0 rfl ⟨by omega,⟨⟩⟩ ⟨μk - 1, by omega, (k + 1), (w63.heap.size :: rs), (_), (_), (_), rfl, (by omega), (hrs'), (hO), ?_, Sa.tail, rfl⟩
  rw [A4a, B6a, v2a hxth, getD_some hxb]
  exact hrowA
 refine lO0 rfl ⟨⟩ (s0a I5b rfl (by exact S.cell 0 rfl rfl) rfl ?_)
 refine T0a (by conv => lhs; whnf) rfl ?_
 refine lR0 rfl ⟨⟩ ?_
 obtain rfl : k = p.threads.length := by omega
 have l1 := J2a hp hf m _ (Nat.le_refl _)
 rw [u7a] at l1 hrow
 refine b3c rfl (by conv => lhs; whnf) rs rfl hrs.1 hO (fun w' hb => ⟨?_, (v0a.step S.below hb hrs.2).nil⟩)
 refine ((Q1a.rd (M := rs ++ M) (w := w) T1a hrow S (k := 4) rfl (fun g hg hm => ?_) (by omega)).keep ((w0a.of_belowM hb).mono (fun g hg => List.mem_append_left _ hg))).less (fun g hg => List.mem_append_right _ hg)
 subst hg
 rcases List.mem_append.1 hm with h | h
 ·exact hO.ne (S.blk 4 rfl) (g, .deferred (some [])) (List.mem_map.2 ⟨_, h, rfl⟩) rfl
 ·exact U0a hM (S.new 4 rfl) h
end Go.Fw
