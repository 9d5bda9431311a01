/-
  Part 4 of 9 of the proof of MonitorAssertions: what it leans on. No conditions.
-/
import Derived.Test.YtjjmdcnmeommbaaGreatDoorZMonitorAssertions3
import Derived.Laws.CopyRow
import Derived.Laws.IdiomCopy
import Derived.Laws.StructEq
import Derived.Lib.SliceRun
import Derived.Laws.OwnMore
set_option maxRecDepth 100000
namespace Go.Fw
open Go.RowKit
section
variable {P : Program} {r : Option Nat} {N : Nat} {l : List Oper} {D : List Deferred} {C : World → Prop} {V : Nat → Option (FuncId × Array Value × Value)} {K : Env → World → Prop}
def FL (P : Program) (N : Nat) (l : List Oper) (C : World → Prop) (V : Nat → Option (FuncId × Array Value × Value)) (K : Env → World → Prop) (lo : Nat) : List Nat → Env → List Nat → (World → Prop) → Prop
 | [], e, _, Φ => ∀ w, C w → Φ w → K e w
 | i :: rest, e, gs, Φ => ∃ o d, l[i]? = some o ∧ o.dst = some d ∧ d < N ∧
  ((∃ v, PV P l C o e v ∧ FL P N l C V K lo rest (upd e d v) gs Φ) ∨
   (∃ (mk : Nat → Value) (t : TypeId) (cs : List Value), wantedE l.toArray e o = true ∧
     (∀ w, C w → ∃ w', (execOp (ev e) o).run P w = .ok (.value (mk w.heap.size)) w' ∧ C w' ∧ Keep [] w w' ∧ w'.heap.size = w.heap.size + 1 ∧ hasBlk w' (w.heap.size, t, cs)) ∧
     ∀ g, lo ≤ g → g ∉ gs → FL P N l C V K lo rest (upd e d (mk g)) (g :: gs) (fun w => Φ w ∧ hasBlk w (g, t, cs))) ∨
   (∃ f args v, V i = some (f, args, v) ∧ wantedE l.toArray e o = true ∧ (∀ w, C w → (execOp (ev e) o).run P w = .ok (.enter f args) w) ∧ FL P N l C V K lo rest (upd e d v) gs Φ))
theorem FL.mono {lo lo' : Nat} : ∀ (R : List Nat) (e : Env) (gs gs' : List Nat) (Φ Φ' : World → Prop), (∀ g, lo' ≤ g → g ∉ gs' → lo ≤ g ∧ g ∉ gs) → (∀ w, Φ' w → Φ w) → FL P N l C V K lo R e gs Φ → FL P N l C V K lo' R e gs' Φ'
 | [], e, gs, gs', Φ, Φ', _, hΦ, h => fun w hC hw => h w hC (hΦ w hw)
 | i :: R, e, gs, gs', Φ, Φ', hg, hΦ, h => by
   obtain ⟨o, d, h1, h2, h3, h4⟩ := h
   refine ⟨o, d, h1, h2, h3, ?_⟩
   rcases h4 with ⟨v, h5, h6⟩ | ⟨mk, t, cs, h5, h6, h7⟩ | ⟨f, args, v, h5, h6, h7, h8⟩
   ·exact .inl ⟨v, h5, FL.mono R _ gs gs' Φ Φ' hg hΦ h6⟩
   rotate_left
   ·exact .inr (.inr ⟨f, args, v, h5, h6, h7, FL.mono R _ gs gs' Φ Φ' hg hΦ h8⟩)
   ·refine .inr (.inl ⟨mk, t, cs, h5, h6, fun g h8 h9 => ?_⟩)
    refine FL.mono R _ (g :: gs) (g :: gs') _ _ (fun x hx hn => ?_) (fun w hw => ⟨hΦ w hw.1, hw.2⟩) (h7 g (hg g h8 h9).1 (hg g h8 h9).2)
    simp only [List.mem_cons, not_or] at hn ⊢
    exact ⟨(hg x hx hn.2).1, hn.1, (hg x hx hn.2).2⟩
def szOf : Result Next → Nat
 | .ok _ w => w.heap.size
 | _ => 0
def szE (P : Program) (l : List Oper) (o : Oper) (e : Env) (w : World) : Nat := bif wantedE l.toArray e o then szOf ((execOp (ev e) o).run P w) else 0
theorem szE_congr {o : Oper} {e e' : Env} {w : World} (hs : Op.isSelect o.op = false) (h : ∀ s ∈ Oper.looksAt l.toArray o, e s = e' s) : szE P l o e w = szE P l o e' w := by
 unfold szE; rw [wantedE_congr h, exec_congr hs h]
theorem fresh_nat (a b : Nat) (gs : List Nat) : ∃ g, a ≤ g ∧ b ≤ g ∧ g ∉ gs := by
 have : ∀ gs : List Nat, ∃ m, ∀ g ∈ gs, g < m := by
  intro gs
  induction gs with
  | nil => exact ⟨0, by simp⟩
  | cons x gs ih =>
    obtain ⟨m, hm⟩ := ih
    refine ⟨max m (x + 1), fun g hg => ?_⟩
    rcases List.mem_cons.1 hg with rfl | h
    ·omega
    ·have := hm g h; omega
 obtain ⟨m, hm⟩ := this gs
 exact ⟨max m (max a b), by omega, by omega, fun h => by have := hm _ h; omega⟩
def FirstOk (P : Program) (N : Nat) (l : List Oper) (C : World → Prop) (V : Nat → Option (FuncId × Array Value × Value)) (K : Env → World → Prop) (lo : Nat) (R : List Nat) (i : Nat) (o : Oper) (d : Nat) (e : Env) (gs : List Nat) (Φ : World → Prop) (w : World) : Prop :=
 (wantedE l.toArray e o = true ∧ ∃ v w', (execOp (ev e) o).run P w = .ok (.value v) w' ∧ C w' ∧ Keep [] w w' ∧ FL P N l C V K w'.heap.size R (upd e d v) gs (fun w1 => Φ w1 ∧ Keep [] w' w1)) ∨
 (wantedE l.toArray e o = false ∧ FL P N l C V K lo R (upd e d undef) gs Φ) ∨
 (wantedE l.toArray e o = true ∧ ∃ f args v, V i = some (f, args, v) ∧ (execOp (ev e) o).run P w = .ok (.enter f args) w ∧ ∀ w', C w' → Keep [] w w' → FL P N l C V K w'.heap.size R (upd e d v) gs (fun w1 => Φ w1 ∧ Keep [] w' w1))
theorem FL.first (hpl : plainOps l = true) {i : Nat} {post : List Nat} {lo : Nat} {w : World} (hC : C w) (hlo : lo ≤ w.heap.size) : ∀ (pre : List Nat) (e : Env) (gs : List Nat) (Φ : World → Prop), (∀ j ∈ pre, indep l (fun _ => true) j i = true) →
 (∀ o, l[i]? = some o → ∀ g ∈ gs, szE P l o e w ≤ g) → FL P N l C V K lo (pre ++ i :: post) e gs Φ →
 ∃ o d, l[i]? = some o ∧ o.dst = some d ∧ d < N ∧ FirstOk P N l C V K lo (pre ++ post) i o d e gs Φ w := by
 intro pre
 induction pre with
 | nil =>
   intro e gs Φ _ hsz h
   obtain ⟨o, d, ho, hd, hN, h⟩ := h
   refine ⟨o, d, ho, hd, hN, ?_⟩
   rcases h with ⟨v, ⟨h1, h2⟩ | ⟨h1, rfl⟩, h3⟩ | ⟨mk, t, cs, h1, h2, h3⟩ | ⟨f, args, v, h1, h2, h3, h4⟩
   rotate_right
   ·exact .inr (.inr ⟨h2, f, args, v, h1, h3 w hC, fun w' _ hk => FL.mono _ _ gs gs Φ _ (fun g hg hn => ⟨by have := hk.size; omega, hn⟩) (fun _ hw => hw.1) h4⟩)
   ·exact .inl ⟨h1, v, w, h2 w hC, hC, Keep.refl _ _, FL.mono _ _ gs gs Φ _ (fun g hg hn => ⟨by omega, hn⟩) (fun _ hw => hw.1) h3⟩
   ·exact .inr (.inl ⟨h1, h3⟩)
   ·obtain ⟨w', h4, h5, h6, h7, h8⟩ := h2 w hC
    refine .inl ⟨h1, _, w', h4, h5, h6, ?_⟩
    have hs := hsz o ho
    unfold szE at hs
    rw [h1, h4] at hs
    refine FL.mono _ _ (w.heap.size :: gs) gs _ _ (fun g hg hn => ?_) (fun w1 hw => ⟨hw.1, keep_hasBlk hw.2 h8⟩) (h3 w.heap.size hlo (fun hm => by have : w'.heap.size ≤ w.heap.size := hs _ hm; omega))
    simp only [List.mem_cons, not_or]
    exact ⟨by omega, by omega, hn⟩
 | cons q pre ih =>
   intro e gs Φ hind hsz h
   obtain ⟨p, c, hp, hc, hcN, h⟩ := h
   have hq := hind q (by simp)
   have hind' : ∀ j ∈ pre, indep l (fun _ => true) j i = true := fun j hj => hind j (by simp [hj])
   have hnone : ∀ {o : Oper} {d : Nat} (u : Value), l[i]? = some o → o.dst = some d → (∀ s ∈ Oper.looksAt l.toArray o, upd e c u s = e s) ∧ c ≠ d ∧ d ∉ Oper.looksAt l.toArray p := fun {o d} u ho hd => by
    obtain ⟨_, hcd, hdp, hco⟩ := indep_spec hq hp ho hc hd
    exact ⟨fun s hs => upd_agree hco hs, hcd, hdp⟩
   rcases h with ⟨u, hu, h⟩ | ⟨mk, t, cs, h1, h2, h3⟩ | ⟨f, args, u, hV, hwt, hu, h⟩
   rotate_right
   ·obtain ⟨o, d, ho, hd, hN, hF⟩ := ih (upd e c u) gs Φ hind' (fun o ho g hg => by
     cases hd : o.dst with
     | none =>
       exfalso
       unfold indep at hq
       simp [hp, ho, hc, hd] at hq
     | some d => rw [szE_congr (plain_at hpl ho).1 (hnone u ho hd).1]; exact hsz o ho g hg) h
    obtain ⟨ha, hcd, hdp⟩ := hnone u ho hd
    refine ⟨o, d, ho, hd, hN, ?_⟩
    have hpa : ∀ v, ∀ s ∈ Oper.looksAt l.toArray p, upd e d v s = e s := fun v s hs => upd_agree hdp hs
    unfold FirstOk at hF ⊢
    rw [wantedE_congr ha, exec_congr (plain_at hpl ho).1 ha] at hF
    rcases hF with ⟨hw, v, w', h4, h5, h6, h7⟩ | ⟨hw, h7⟩ | ⟨hw, f', args', v, hV', h4, h7⟩
    ·refine .inl ⟨hw, v, w', h4, h5, h6, p, c, hp, hc, hcN, .inr (.inr ⟨f, args, u, hV, by rw [wantedE_congr (hpa v)]; exact hwt, by rw [exec_congr (plain_at hpl hp).1 (hpa v)]; exact hu, ?_⟩)⟩
     rw [← upd_comm _ _ _ hcd]; exact h7
    ·refine .inr (.inl ⟨hw, p, c, hp, hc, hcN, .inr (.inr ⟨f, args, u, hV, by rw [wantedE_congr (hpa _)]; exact hwt, by rw [exec_congr (plain_at hpl hp).1 (hpa _)]; exact hu, ?_⟩)⟩)
     rw [← upd_comm _ _ _ hcd]; exact h7
    ·refine .inr (.inr ⟨hw, f', args', v, hV', h4, fun w' hC' hk' => ⟨p, c, hp, hc, hcN, .inr (.inr ⟨f, args, u, hV, by rw [wantedE_congr (hpa v)]; exact hwt, by rw [exec_congr (plain_at hpl hp).1 (hpa v)]; exact hu, ?_⟩)⟩⟩)
     rw [← upd_comm _ _ _ hcd]; exact h7 w' hC' hk'
   ·obtain ⟨o, d, ho, hd, hN, hF⟩ := ih (upd e c u) gs Φ hind' (fun o ho g hg => by
     cases hd : o.dst with
     | none =>
       exfalso
       unfold indep at hq
       simp [hp, ho, hc, hd] at hq
     | some d => rw [szE_congr (plain_at hpl ho).1 (hnone u ho hd).1]; exact hsz o ho g hg) h
    obtain ⟨ha, hcd, hdp⟩ := hnone u ho hd
    refine ⟨o, d, ho, hd, hN, ?_⟩
    unfold FirstOk at hF ⊢
    rw [wantedE_congr ha, exec_congr (plain_at hpl ho).1 ha] at hF
    rcases hF with ⟨hw, v, w', h4, h5, h6, h7⟩ | ⟨hw, h7⟩ | ⟨hw, f, args, v, hV, h4, h7⟩
    rotate_right
    ·refine .inr (.inr ⟨hw, f, args, v, hV, h4, fun w' hC' hk' => ⟨p, c, hp, hc, hcN, .inl ⟨u, hu.congr (plain_at hpl hp).1 (fun s hs => (upd_agree hdp hs).symm), ?_⟩⟩⟩)
     rw [← upd_comm _ _ _ hcd]; exact h7 w' hC' hk'
    ·refine .inl ⟨hw, v, w', h4, h5, h6, p, c, hp, hc, hcN, .inl ⟨u, hu.congr (plain_at hpl hp).1 (fun s hs => (upd_agree hdp hs).symm), ?_⟩⟩
     rw [← upd_comm _ _ _ hcd]; exact h7
    ·refine .inr (.inl ⟨hw, p, c, hp, hc, hcN, .inl ⟨u, hu.congr (plain_at hpl hp).1 (fun s hs => (upd_agree hdp hs).symm), ?_⟩⟩)
     rw [← upd_comm _ _ _ hcd]; exact h7
   ·have key : ∀ g, lo ≤ g → g ∉ gs → (∀ o, l[i]? = some o → szE P l o e w ≤ g) → ∃ o d, l[i]? = some o ∧ o.dst = some d ∧ d < N ∧ FirstOk P N l C V K lo (pre ++ post) i o d (upd e c (mk g)) (g :: gs) (fun w => Φ w ∧ hasBlk w (g, t, cs)) w := fun g hg hn hs => by
     refine ih (upd e c (mk g)) (g :: gs) _ hind' (fun o ho x hx => ?_) (h3 g hg hn)
     cases hd : o.dst with
     | none =>
       exfalso
       unfold indep at hq
       simp [hp, ho, hc, hd] at hq
     | some d =>
       rw [szE_congr (plain_at hpl ho).1 (hnone (mk g) ho hd).1]
       rcases List.mem_cons.1 hx with rfl | hx
       ·exact hs o ho
       ·exact hsz o ho x hx
    have h4 : ∃ o d, l[i]? = some o ∧ o.dst = some d ∧ d < N := by
     cases ho : l[i]? with
     | none => unfold indep at hq; simp [ho] at hq
     | some o =>
       obtain ⟨g0, hg0, hb0, hn0⟩ := fresh_nat lo (szE P l o e w) gs
       obtain ⟨o', d, ho', hd, hN, _⟩ := key g0 hg0 hn0 (fun o' ho' => by rw [ho] at ho'; cases ho'; exact hb0)
       rw [ho] at ho'; cases ho'
       exact ⟨o, d, rfl, hd, hN⟩
    obtain ⟨o, d, ho, hd, hN⟩ := h4
    have key2 : ∀ g, lo ≤ g → g ∉ gs → szE P l o e w ≤ g → FirstOk P N l C V K lo (pre ++ post) i o d (upd e c (mk g)) (g :: gs) (fun w => Φ w ∧ hasBlk w (g, t, cs)) w := fun g hg hn hs => by
     obtain ⟨o', d', ho', hd', _, hF⟩ := key g hg hn (fun o' ho' => by rw [ho] at ho'; cases ho'; exact hs)
     obtain rfl : o' = o := Option.some.inj (ho'.symm.trans ho)
     obtain rfl : d' = d := Option.some.inj (hd'.symm.trans hd)
     exact hF
    refine ⟨o, d, ho, hd, hN, ?_⟩
    obtain ⟨g0, hg0, hb0, hn0⟩ := fresh_nat lo (szE P l o e w) gs
    have hcd := (hnone .nilFunc ho hd).2.1
    have hdp := (hnone .nilFunc ho hd).2.2
    have ha : ∀ u, ∀ s ∈ Oper.looksAt l.toArray o, upd e c u s = e s := fun u => (hnone u ho hd).1
    have hpa : ∀ v, ∀ s ∈ Oper.looksAt l.toArray p, upd e d v s = e s := fun v s hs => upd_agree hdp hs
    have hF0 := key2 g0 hg0 hn0 hb0
    unfold FirstOk at hF0 ⊢
    rw [wantedE_congr (ha _), exec_congr (plain_at hpl ho).1 (ha _)] at hF0
    rcases hF0 with ⟨hw, v, w', h4, h5, h6, -⟩ | ⟨hw, -⟩ | ⟨hw, f, args, v, hV, h4, -⟩
    rotate_right
    ·have hsz' : szE P l o e w = w.heap.size := by unfold szE; rw [hw, h4]; rfl
     refine .inr (.inr ⟨hw, f, args, v, hV, h4, fun w' hC' hk' => ⟨p, c, hp, hc, hcN, .inr (.inl ⟨mk, t, cs, by rw [wantedE_congr (hpa v)]; exact h1, by rw [exec_congr (plain_at hpl hp).1 (hpa v)]; exact h2, fun g hg hn => ?_⟩)⟩⟩)
     have hks := hk'.size
     have hF := key2 g (by omega) hn (by omega)
     unfold FirstOk at hF
     rw [wantedE_congr (ha _), exec_congr (plain_at hpl ho).1 (ha _)] at hF
     rcases hF with ⟨_, v', w'', h4', _⟩ | ⟨hw', _⟩ | ⟨_, f', args', v', hV', _, h7⟩
     ·rw [h4] at h4'; cases h4'
     ·rw [hw] at hw'; cases hw'
     ·rw [hV] at hV'; cases hV'
      rw [← upd_comm _ _ _ hcd]
      exact FL.mono _ _ (g :: gs) (g :: gs) _ _ (fun x hx hn => ⟨hx, hn⟩) (fun w1 hw1 => ⟨⟨hw1.1.1, hw1.2⟩, hw1.1.2⟩) (h7 w' hC' hk')
    ·have hsz' : szE P l o e w = w'.heap.size := by unfold szE; rw [hw, h4]; rfl
     refine .inl ⟨hw, v, w', h4, h5, h6, p, c, hp, hc, hcN, .inr (.inl ⟨mk, t, cs, by rw [wantedE_congr (hpa v)]; exact h1, by rw [exec_congr (plain_at hpl hp).1 (hpa v)]; exact h2, fun g hg hn => ?_⟩)⟩
     have hF := key2 g (by have := h6.size; omega) hn (by omega)
     unfold FirstOk at hF
     rw [wantedE_congr (ha _), exec_congr (plain_at hpl ho).1 (ha _)] at hF
     rcases hF with ⟨_, v', w'', h4', _, _, h7⟩ | ⟨hw', _⟩ | ⟨_, _, _, _, _, h4', _⟩
     rotate_right
     ·rw [h4] at h4'; cases h4'
     ·rw [h4] at h4'; cases h4'
      rw [← upd_comm _ _ _ hcd]
      exact FL.mono _ _ (g :: gs) (g :: gs) _ _ (fun x hx hn => ⟨hx, hn⟩) (fun w1 hw1 => ⟨⟨hw1.1.1, hw1.2⟩, hw1.1.2⟩) h7
     ·rw [hw] at hw'; cases hw'
    ·refine .inr (.inl ⟨hw, p, c, hp, hc, hcN, .inr (.inl ⟨mk, t, cs, by rw [wantedE_congr (hpa _)]; exact h1, by rw [exec_congr (plain_at hpl hp).1 (hpa _)]; exact h2, fun g hg hn => ?_⟩)⟩)
     have hsz' : szE P l o e w = 0 := by unfold szE; rw [hw]; rfl
     have hF := key2 g hg hn (by omega)
     unfold FirstOk at hF
     rw [wantedE_congr (ha _), exec_congr (plain_at hpl ho).1 (ha _)] at hF
     rcases hF with ⟨hw', _⟩ | ⟨_, h7⟩ | ⟨hw', _⟩
     rotate_right
     ·rw [hw] at hw'; cases hw'
     ·rw [hw] at hw'; cases hw'
     ·rw [← upd_comm _ _ _ hcd]
      exact h7
theorem W_flowC {id : Nat} {n t : List Deferred → Env → World → Prop} {b : Nat → List Deferred → Env → World → Prop} {e : Env} {w : World} (hm : P.follows .mixedOrders = true) (ix : List Nat)
 (m : Nat) (hok : mixOkS l (fun _ => true) m = true) (hix : (List.range m == ix) = true) (C : World → Prop) (hC : C w.drew) (V : Nat → Option (FuncId × Array Value × Value)) (hV : ∀ i f args v, V i = some (f, args, v) → ∀ w, C w → Does P f args w fun u w' => u = v ∧ C w' ∧ Keep [] w w') (ol : Oper) (hol : l[m]? = some ol)
 (h : FL P N l C V (fun e w => WL P r N l.toArray [ol] (fun D' e' w' => D' = D ∧ n D e' w') D e w) w.heap.size ix e [] (fun _ => True)) : W P r N (.region id l.toArray true) ⟨n, b, t⟩ D e w := by
 obtain rfl : List.range m = ix := eq_of_beq hix
 generalize hKd : (fun (e : Env) (w : World) => WL P r N l.toArray [ol] (fun D' e' w' => D' = D ∧ n D e' w') D e w) = K' at h
 unfold mixOkS at hok
 simp only [Bool.and_eq_true, decide_eq_true_eq] at hok
 obtain ⟨⟨⟨⟨hpl, hac⟩, hin⟩, hlast⟩, _⟩ := hok
 have hlw : ∀ j, j < m → j ∈ waits l m := fun j hj => by
  have := List.all_eq_true.1 hlast j (List.mem_range.2 hj)
  simpa using this
 refine W_any hm hac (fun f e w => (∀ i, f i = true → ∀ j ∈ predsAt l i, f j = true) ∧ ((f m = false ∧ C w ∧ ∃ lo Φ, lo ≤ w.heap.size ∧ (∀ w w', Φ w → Keep [] w w' → Φ w') ∧ Φ w ∧ FL P N l C V K' lo (remTo m f) e [] Φ) ∨ (f m = true ∧ n D e w))) ⟨by simp, .inl ⟨rfl, hC, w.heap.size, fun _ => True, Nat.le_refl _, fun _ _ _ _ => trivial, trivial, ?_⟩⟩ ?_ ?_
 ·have : remTo m (fun _ => false) = List.range m := by unfold remTo; simp
  rw [this]; exact h
 ·rintro f e w i o ⟨hcl, hM⟩ ho hfi hpr
  have hil0 : i < l.length := (List.getElem?_eq_some_iff.1 ho).1
  have hcl' : ∀ k, (f k || k == i) = true → ∀ j ∈ predsAt l k, (f j || j == i) = true := by
   intro k hk j hj
   simp only [Bool.or_eq_true, beq_iff_eq] at hk ⊢
   rcases hk with hk | rfl
   ·exact .inl (hcl k hk j hj)
   ·exact .inl (hpr j hj)
  rcases hM with ⟨hfm, hCw, lo, Φ, hlo, hst, hΦ, hM⟩ | ⟨hfm, -⟩
  rotate_left
  ·have := closure_f hcl l.length (predsAt l m) (hcl m hfm) i (hlw i (by
    rcases Nat.lt_or_ge i m with h | h
    ·exact h
    ·have : i = m := by omega
     subst this; rw [hfi] at hfm; cases hfm))
   rw [hfi] at this; cases this
  by_cases him : i = m
  ·subst him
   obtain rfl : ol = o := Option.some.inj (hol.symm.trans ho)
   have hall : ∀ j, j < i → f j = true := fun j hj => closure_f hcl _ _ hpr j (hlw j hj)
   have hrem : remTo i f = [] := by
    unfold remTo; rw [List.filter_eq_nil_iff]; intro j hj; simp [hall j (List.mem_range.1 hj)]
   rw [hrem] at hM
   have h4 := hM w hCw hΦ
   rw [← hKd] at h4
   clear hM h hKd
   unfold WL at *
   refine fun a Q hs hD he hK => h4 a Q hs hD he (fun a' w' hs' hh => hK a' w' hs' ?_)
   exact ⟨hh.1, hcl', .inr ⟨by simp, hh.2⟩⟩
  have hil : i < m := by omega
  have hfm' : (f m || m == i) = false := by simp [hfm]; omega
  obtain ⟨pre, _, h1, h2, h3⟩ := rem_splitTo (m := m) f hil hfi
  rw [h1] at hM
  have hwt : ∀ j ∈ waits l i, f j = true := closure_f hcl _ _ hpr
  obtain ⟨o', _, ho', hd, hN, h4⟩ := FL.first hpl hCw hlo pre e [] Φ (fun j hj => by
   have := List.all_eq_true.1 (List.all_eq_true.1 hin i (List.mem_range.2 hil)) j (List.mem_range.2 (h3 j hj).1)
   simp only [Bool.or_eq_true, List.contains_eq_mem, decide_eq_true_eq] at this
   rcases this with h | h
   ·have := hwt j h; rw [(h3 j hj).2] at this; cases this
   ·exact h) (by simp) hM
  obtain rfl : o' = o := Option.some.inj (ho'.symm.trans ho)
  rcases h4 with ⟨hw, v, w', hv, hC', hk', h4⟩ | ⟨hw, h4⟩ | ⟨hw, f', args, v, hVi, hv, h4⟩
  rotate_right
  ·unfold WL; intro a Q hs hD he hK
   simp only [wpListIn]
   have hw' : Region.wanted o' (yielded l.toArray a.tmps) = true := by rw [wanted_env, he]; exact hw
   simp only [hw', if_true]
   refine ⟨about_trivial _ _ _, ?_⟩
   rw [Oper.semAt_eq _ _ _ (plain_at hpl ho).2, eval_eq, he, hv, Oper.uponIn_enter]
   refine ⟨fun hh => by simp [fc, Fence.wide] at hh, callsIn_fc (Calls.mono (hV _ _ _ _ hVi w hCw) ?_)⟩
   rintro en w' ⟨u, rfl, rfl, hC', hk'⟩
   rw [hd]
   refine hK _ _ (by simp [Act.put, hs]) ⟨by simp [Act.put, hD], ?_⟩
   rw [envOf_put u (by rw [hs]; exact hN), he]
   exact ⟨hcl', .inl ⟨hfm', hC', w'.heap.size, (fun w1 => Φ w1 ∧ Keep [] w' w1), Nat.le_refl _, fun w1 w2 h5 h6 => ⟨hst _ _ h5.1 h6, h5.2.trans h6⟩, ⟨hst _ _ hΦ hk', Keep.refl _ _⟩, by rw [h2]; exact h4 w' hC' hk'⟩⟩
  ·unfold WL; intro a Q hs hD he hK
   simp only [wpListIn]
   have hw' : Region.wanted o' (yielded l.toArray a.tmps) = true := by rw [wanted_env, he]; exact hw
   simp only [hw', if_true]
   refine ⟨about_trivial _ _ _, ?_⟩
   rw [Oper.semAt_eq _ _ _ (plain_at hpl ho).2, eval_eq, he, hv, Oper.uponIn_value]
   refine hK _ _ (by simp [Act.put, hd, hs]) ⟨by simp [Act.put, hd, hD], ?_⟩
   rw [hd, envOf_put v (by rw [hs]; exact hN), he]
   exact ⟨hcl', .inl ⟨hfm', hC', w'.heap.size, (fun w1 => Φ w1 ∧ Keep [] w' w1), Nat.le_refl _, fun w1 w2 h5 h6 => ⟨hst _ _ h5.1 h6, h5.2.trans h6⟩, ⟨hst _ _ hΦ hk', Keep.refl _ _⟩, by rw [h2]; exact h4⟩⟩
  ·unfold WL; intro a Q hs hD he hK
   simp only [wpListIn]
   have hw' : Region.wanted o' (yielded l.toArray a.tmps) = false := by rw [wanted_env, he]; exact hw
   simp only [hw']
   refine ⟨about_trivial _ _ _, ?_⟩
   refine hK _ _ (by simp [Act.put, hd, hs]) ⟨by simp [Act.put, hd, hD], ?_⟩
   rw [hd, envOf_put undef (by rw [hs]; exact hN), he]
   exact ⟨hcl', .inl ⟨hfm', hCw, lo, Φ, hlo, hst, hΦ, by rw [h2]; exact h4⟩⟩
 ·rintro f e w ⟨hcl, hM⟩ hall
  rcases hM with ⟨hfm, -⟩ | ⟨-, hM⟩
  ·have := hall m (by omega); rw [hfm] at this; cases this
  ·exact hM
theorem W_flow {id : Nat} {n t : List Deferred → Env → World → Prop} {b : Nat → List Deferred → Env → World → Prop} {e : Env} {w : World} (hm : P.follows .mixedOrders = true) (ix : List Nat)
 (m : Nat) (hok : mixOkS l (fun _ => true) m = true) (hix : (List.range m == ix) = true) (C : World → Prop) (hC : C w.drew) (ol : Oper) (hol : l[m]? = some ol)
 (h : FL P N l C (fun _ => none) (fun e w => WL P r N l.toArray [ol] (fun D' e' w' => D' = D ∧ n D e' w') D e w) w.heap.size ix e [] (fun _ => True)) : W P r N (.region id l.toArray true) ⟨n, b, t⟩ D e w :=
 W_flowC hm ix m hok hix C hC (fun _ => none) (fun _ _ _ _ h => nomatch h) ol hol h
variable {lo : Nat} {gs : List Nat} {Φ : World → Prop} {e : Env} {w w0 : World} {L : List Ent} {M : List Nat}
theorem FL_nil (h : ∀ w, C w → Φ w → K e w) : FL P N l C V K lo [] e gs Φ := h
theorem FL_q {i : Nat} {rest : List Nat} {o : Oper} (ho : l[i]? = some o) (hv : valOp o.op = true) (h : QL P N l.toArray C [o] (fun e' => FL P N l C V K lo rest e' gs Φ) e) : FL P N l C V K lo (i :: rest) e gs Φ := by
 unfold QL at h
 obtain ⟨pa, hl, hq, hk⟩ := h
 obtain ⟨d, v, h1, h2, h3, h4⟩ := hq 0 o rfl
 obtain rfl : pa = [(d, v)] := by
  match pa, hl, h1 with
  | [x], _, h1 => simpa using h1
 refine ⟨o, d, ho, h2, h3, .inl ⟨v, ?_, hk⟩⟩
 rcases h4 with ⟨h5, h6⟩ | h5
 ·refine .inl ⟨h5, fun w hw => ?_⟩
  rcases h6 w hw with h7 | ⟨f, args, h7, _⟩
  ·exact h7
  ·obtain ⟨_, hv'⟩ := valOp_value hv h7; cases hv'
 ·exact .inr h5
theorem FL_len {i d : Nat} {rest : List Nat} {x : Operand} {ty size n c : Nat} {t : TypeId} {p : String} {af : Array Edge} {A : Option Addr} (ho : l[i]? = some ⟨some d, .call { callee := .builtin .len, args := #[x], argTypes := #[ty] }, t, p, af, none⟩) (hT : SlT P ty size) (hx : ev e x = .slice A n c) (hd : Nat.ble (d + 1) N = true)
 (h : FL P N l C V K lo rest (upd e d (.int .i64 n)) gs Φ) : FL P N l C V K lo (i :: rest) e gs Φ := by
 obtain ⟨_, hu, _⟩ := hT
 exact ⟨_, d, ho, rfl, Nat.le_of_ble_eq_true hd, .inl ⟨_, .inl ⟨rfl, fun w _ => by simp [execOp, resolve, invoke, builtin, Builtin.len_, hx, run_underlying hu, goInt]⟩, h⟩⟩
theorem FL_new {i d t : Nat} {rest : List Nat} {o : Oper} {mk : Nat → Value} {cs : List Value} (ho : l[i]? = some o) (hd : o.dst = some d) (hN : Nat.ble (d + 1) N = true) (hw : wantedE l.toArray e o = true)
 (hrun : ∀ w1, Cl M w0 w L w1 → (execOp (ev e) o).run P w1 = .ok (.value (mk w1.heap.size)) (w1.alloc (.cells cs.toArray t (0, 0))))
 (h : ∀ g, lo ≤ g → g ∉ gs → FL P N l (Cl M w0 w L) V K lo rest (upd e d (mk g)) (g :: gs) (fun w => Φ w ∧ hasBlk w (g, t, cs))) : FL P N l (Cl M w0 w L) V K lo (i :: rest) e gs Φ :=
 ⟨o, d, ho, hd, Nat.le_of_ble_eq_true hN, .inr (.inl ⟨mk, t, cs, hw, fun w1 hC => ⟨_, hrun w1 hC, Cl.alloc _ _ hC, keep_alloc _ _ _, by simp, by unfold hasBlk; show (w1.heap.push _)[w1.heap.size]? = _; simp⟩, h⟩)⟩
theorem FL_alloc {i d el : Nat} {t : TypeId} {p : String} {af : Array Edge} {gd : Option (Nat × Bool)} {z : Value} {cs : List Value} {rest : List Nat}
 (ho : l[i]? = some ⟨some d, .alloc el, t, p, af, gd⟩) (hN : Nat.ble (d + 1) N = true) (hw : wantedE l.toArray e ⟨some d, .alloc el, t, p, af, gd⟩ = true) (hz : ∀ w, (zeroValue el).run P w = .ok z w) (hcs : z.cells.toList = cs)
 (h : ∀ g, lo ≤ g → g ∉ gs → FL P N l (Cl M w0 w L) V K lo rest (upd e d (.pointer (some ⟨g, 0, none⟩))) (g :: gs) (fun w => Φ w ∧ hasBlk w (g, el, cs))) : FL P N l (Cl M w0 w L) V K lo (i :: rest) e gs Φ := by
 refine FL_new (mk := fun g => .pointer (some ⟨g, 0, none⟩)) ho rfl hN hw (fun w1 _ => ?_) h
 subst hcs
 simp [execOp, Instr.alloc, newVar, newRow, hz]
theorem FL_call {i d : Nat} {rest : List Nat} {t : TypeId} {p : String} {af : Array Edge} {args : Array Operand} {at_ : Array TypeId} {f : FuncId} {vs : List Value} {v : Value} (hH : Has P f)
 (ho : l[i]? = some ⟨some d, .call { callee := .value (.func f), args := args, argTypes := at_ }, t, p, af, none⟩) (hN : Nat.ble (d + 1) N = true)
 (hw : wantedE l.toArray e ⟨some d, .call { callee := .value (.func f), args := args, argTypes := at_ }, t, p, af, none⟩ = true) (hvs : args.toList.map (ev e) = vs) (hV : V i = some (f, vs.toArray, v))
 (h : FL P N l C V K lo rest (upd e d v) gs Φ) : FL P N l C V K lo (i :: rest) e gs Φ := by
 refine ⟨_, d, ho, rfl, Nat.le_of_ble_eq_true hN, .inr (.inr ⟨f, vs.toArray, v, hV, hw, fun w1 _ => ?_, h⟩)⟩
 subst hvs
 have : (args.map (ev e)) = (args.toList.map (ev e)).toArray := by apply Array.ext'; simp
 simp [execOp, resolve, Deferred.ofValue, invoke, ev, hH _ w1, this]
theorem FL_slice {i d ty el size bytes n : Nat} {t : TypeId} {p : String} {af : Array Edge} {gd : Option (Nat × Bool)} {z : Value} {parts : Array (Nat × Operand)} {vs : List Value} {cs : List Value} {rest : List Nat}
 (ho : l[i]? = some ⟨some d, .buildSlice ty n parts, t, p, af, gd⟩) (hN : Nat.ble (d + 1) N = true) (hw : wantedE l.toArray e ⟨some d, .buildSlice ty n parts, t, p, af, gd⟩ = true) (hS : SlZ P ty el size z bytes)
 (hvs : parts.toList.map (fun q => (q.1, ev e q.2)) = (vs.zipIdx 0).map fun q => (q.2, q.1)) (hn : vs.length = n) (h0 : Nat.ble 1 n = true) (hbig : Nat.ble (n * size) 16777216 = true) (hv : vs.map (·.cells.size) = List.replicate n size)
 (hcs : vs.flatMap (·.cells.toList) = cs)
 (h : ∀ g, lo ≤ g → g ∉ gs → FL P N l (Cl M w0 w L) V K lo rest (upd e d (.slice (some ⟨g, 0, none⟩) n n)) (g :: gs) (fun w => Φ w ∧ hasBlk w (g, el, cs))) : FL P N l (Cl M w0 w L) V K lo (i :: rest) e gs Φ := by
 have hp : (parts.map fun (i, x) => (i, ev e x)) = ((vs.zipIdx 0).map fun q => (q.2, q.1)).toArray := by rw [← hvs]; apply Array.ext'; simp
 have hv' : ∀ v ∈ vs, v.cells.size = size := fun v hm => by
  have : v.cells.size ∈ vs.map (·.cells.size) := List.mem_map.2 ⟨v, hm, rfl⟩
  rw [hv] at this; exact (List.mem_replicate.1 this).2
 refine FL_new (mk := fun g => .slice (some ⟨g, 0, none⟩) n n) (t := el) (cs := cs) ho rfl hN hw (fun w1 _ => ?_) h
 have hrun := run_buildSlice hS hn (Nat.le_of_ble_eq_true h0) (Nat.le_of_ble_eq_true hbig) hv' w1
 subst hcs
 simp only [execOp, hp, Sem.run_bind, hrun, Result.andThen_ok, Sem.run_pure]
theorem FL_make {i d : Nat} {t : TypeId} {p : String} {af : Array Edge} {gd : Option (Nat × Bool)} {x y : Operand} {rest : List Nat}
 {ty el bytes n c : Nat} {z : Value} {kl kc : IntKind} (ho : l[i]? = some ⟨some d, .makeSlice ty x y, t, p, af, gd⟩) (hN : Nat.ble (d + 1) N = true) (hw : wantedE l.toArray e ⟨some d, .makeSlice ty x y, t, p, af, gd⟩ = true)
 (hS : SlZ P ty el 1 z bytes) (hx : ev e x = .int kl (n : Int)) (hy : ev e y = .int kc (c : Int)) (hnc : n ≤ c) (hb : bytes * c ≤ 140737488355328) (hc : c ≤ 140737488355328)
 (hz1 : z.cells = #[z])
 (h : ∀ g, lo ≤ g → g ∉ gs → FL P N l (Cl M w0 w L) V K lo rest (upd e d (.slice (some ⟨g, 0, none⟩) n c)) (g :: gs) (fun w => Φ w ∧ hasBlk w (g, el, List.replicate c z))) : FL P N l (Cl M w0 w L) V K lo (i :: rest) e gs Φ := by
 obtain ⟨ii, hi, hz, hsz, hby⟩ := hS.parts
 have hbb : (ii.bytes : Int) * (c : Int) ≤ 281474976710656 := by
  have : ((bytes * c : Nat) : Int) ≤ 281474976710656 := by omega
  rw [hby]; rwa [Int.natCast_mul] at this
 refine FL_new (mk := fun g => .slice (some ⟨g, 0, none⟩) n c) (t := el) (cs := List.replicate c z) ho rfl hN hw (fun w1 _ => ?_) h
 have hr := run_make (P := P) w1 ty el ii z hS.und hi hz kl kc n c (by omega) (by omega) hbb (by omega)
 have hm : madeCells z.cells (c * ii.size) = (List.replicate c z).toArray := by
  rw [hz1, hsz, Nat.mul_one]
  apply Array.ext
  ·simp [madeCells]
  ·intro j h1 h2
   simp [madeCells, Nat.mod_one]
 simp only [Int.toNat_natCast, hm] at hr
 simp only [execOp, hx, hy, Sem.run_bind, hr, Result.andThen_ok, Sem.run_pure]
end
end Go.Fw
namespace Go.Fw
open Go.RowKit
section
variable {α : Type}
def fillTo (l : List α) (z : α) (k : Nat) : List α := l.take k ++ List.replicate (l.length - k) z
theorem fillTo_zero (l : List α) (z : α) : fillTo l z 0 = List.replicate l.length z := by simp [fillTo]
theorem fillTo_all (l : List α) (z : α) {k : Nat} (h : l.length ≤ k) : fillTo l z k = l := by
 unfold fillTo; rw [List.take_of_length_le h, Nat.sub_eq_zero_of_le h]; simp
@[simp] theorem fillTo_length (l : List α) (z : α) (k : Nat) : (fillTo l z k).length = l.length := by
 unfold fillTo; simp; omega
theorem fillTo_set {l : List α} {z v : α} {k i : Nat} (h : l[k]? = some v) (hi : i = k) : (fillTo l z k).set i v = fillTo l z (k + 1) := by
 subst hi
 obtain ⟨hlt, rfl⟩ := List.getElem?_eq_some_iff.1 h
 unfold fillTo
 rw [List.set_append_right _ _ (by simp; omega)]
 have h1 : l.length - i = (l.length - (i + 1)) + 1 := by omega
 rw [h1, List.replicate_succ]
 simp only [List.length_take, Nat.min_eq_left (Nat.le_of_lt hlt), Nat.sub_self, List.set_cons_zero]
 rw [take_some h, List.append_assoc]
 rfl
theorem fillTo_same {l : List α} {z : α} {k : Nat} (h : l[k]? = some z) : fillTo l z k = fillTo l z (k + 1) := by
 obtain ⟨_, _⟩ := List.getElem?_eq_some_iff.1 h
 unfold fillTo
 have h1 : l.length - k = (l.length - (k + 1)) + 1 := by omega
 rw [h1, List.replicate_succ, take_some h]
 simp
end
theorem St.setEnt {M : List Nat} {w0 w : World} {L : List Ent} (S : St M w0 w L) (j : Nat) {G : Option Nat} {t : TypeId} {cs cs' : List Value} (hj : L[j]? = some (G, t, cs)) (h : cs = cs') : St M w0 w (L.set j (G, t, cs')) := by
 subst h
 have : L.set j (G, t, cs) = L := by
  obtain ⟨_, he⟩ := List.getElem?_eq_some_iff.1 hj
  rw [← he]; simp
 rw [this]; exact S
theorem St.rdInts {M M' : List Nat} {w0 w : World} {L : List Ent} (S : St M' w0 w L) (j : Nat) {g t n : Nat} {l : List Int} (hj : L[j]? = some (some g, t, l.map (Value.int .i64))) (hg : g ∉ M) (hn : n = l.length) (hbig : n ≤ 140737488355328) (hl : ∀ x ∈ l, i64 x) : RdI M w (.slice (some ⟨g, 0, none⟩) n n) l :=
 S.rd1 hj hg hn hbig fun i x hi => ⟨.int .i64 x, by simp [hi], rfl, hl x (List.mem_of_getElem? hi)⟩
theorem rdS_nil {α : Type} {M : List Nat} {w : World} {size : Nat} {R : List Value → α → Prop} : RdS M w size R (.slice none 0 0) [] := ⟨none, 0, 0, rfl, rfl, Nat.le_refl _, by unfold maxLen; omega, by omega, fun h => absurd h (by omega)⟩
theorem St.rdBufs {M M' : List Nat} {w0 w : World} {L : List Ent} (S : St M' w0 w L) (j : Nat) {g t n : Nat} {l : List (List EntryD)} (hj : L[j]? = some (some g, t, List.replicate n (.slice none 0 0))) (hg : g ∉ M) (hn : n = l.length) (hbig : n ≤ 140737488355328) (hl : ∀ b ∈ l, b = []) : RdBs M w (.slice (some ⟨g, 0, none⟩) n n) l :=
 S.rd1 hj hg hn hbig fun i x hi => by
  obtain rfl := hl x (List.mem_of_getElem? hi)
  have := (List.getElem?_eq_some_iff.1 hi).1
  exact ⟨.slice none 0 0, by rw [List.getElem?_replicate, if_pos (by omega)], _, rfl, rdS_nil⟩
@[simp] theorem startC_mem_len (p : ProgD) : (startC p).mem.length = p.cells.length := by simp [startC]
@[simp] theorem startC_at_len (p : ProgD) : (startC p).at_.length = p.threads.length := by simp [startC]
theorem mem_i64 {p : ProgD} (hp : ProgOK p) {m : List Int} (h : MemOK p m) : ∀ x ∈ m, i64 x := fun x hx => by
 obtain ⟨i, hi, rfl⟩ := List.getElem_of_mem hx
 have := h.vals i _ (List.getElem?_eq_getElem hi)
 have := pow2_w hp i
 unfold i64; omega
theorem at_i64 {p : ProgD} (hp : ProgOK p) {c : ConfD} (h : FitC p c) : ∀ x ∈ c.at_, i64 x := fun x hx => by
 have := (nums_small hp h).2.1 x hx
 unfold i64; omega
end Go.Fw
namespace Go.Proofs.YtjjmdcnmeommbaaGreatDoor
open Go.Fw Go.RowKit
theorem machValid_fn (p : ProgD) (M : List Nat) (w0 : World) (cs : List Value) (hI : InP p M w0 cs) :
 Does Tryz.prog 134 #[.agg cs.toArray] w0 fun v w' => v = .bool true ∧ Below w0.heap.size w0 w' := by
 obtain ⟨_, _, _, _, _, _, _, _, _, _, _, _, rfl, _, _, _, _, _, _, _, _, _, _, _, _⟩ := hI.rd.open_
 have S := St.refl w0
 refine dnR Tryz.func134 rfl Tryz.ntmps134 rfl ?_
 refine wO0 rfl ⟨⟩ (o_boxa S (by conv => lhs; whnf) rfl ?_)
 intro g1 w1 S1 X1 G1
 refine lO S1.k [.w 0] rfl ⟨⟨rfl,by rfl⟩,⟨⟩⟩ (o_callr S1 has_42 rfl rfl (validP_fn p M _ _ (hI.keep (S1.keep0 M)).rd hI.ok (hI.keep (S1.keep0 M)).msk (hI.keep (S1.keep0 M)).lt) ?_)
 intro w8 S8 X8
 refine lB0 rfl ⟨⟩ (fun h13 => ?_) (fun h13 => by exfalso; omega)
 exact lT rfl ⟨⟩ rfl ⟨rfl, S8.fin⟩
theorem machFits_fn (p : ProgD) (c : ConfD) (M : List Nat) (w0 : World) (cs xs : List Value) (hI : InP p M w0 cs) (hX : RdConf M w0 c xs) (hf : FitC p c) (he : ∀ b ∈ c.buf, b = []) :
 Does Tryz.prog 169 #[.agg cs.toArray, .agg xs.toArray] w0 fun v w' => v = .bool true ∧ Below w0.heap.size w0 w' := by
 obtain ⟨Ac, nc, cc, Am, nm, cm, Al, nl, cl, At, nt, ct, rfl, hC, _, _, hTh, _, _, _, _, _, _, _, _⟩ := hI.rd.open_
 obtain ⟨Xm, xm, ym, Xa, xa, ya, Xb, xb, yb, rfl, hMem, hAt, hBuf, _, _, hxb, _, _, _⟩ := hX.open_
 have S := St.refl w0
 have f1 := hf.mem.len
 have f2 := hf.nat
 have f3 := hf.nbuf
 refine dnR Tryz.func169 rfl Tryz.ntmps169 rfl ?_
 refine wO0 rfl ⟨⟩ (o_boxa S (by conv => lhs; whnf) rfl ?_)
 intro g2 w2 S2 X2 G2
 refine o_boxa S2 (by conv => lhs; whnf) rfl ?_
 intro g3 w3 S3 X3 G3
 refine lB S3.k [.o 0,.o 1] rfl ⟨rfl,rfl,⟨⟩⟩ (fun h16 => by exfalso; omega) fun h16 => ?_
 refine lB S3.k [.o 0,.o 1] rfl ⟨rfl,rfl,⟨⟩⟩ (fun h24 => by exfalso; omega) fun h24 => ?_
 refine lB S3.k [.o 0,.o 1] rfl ⟨rfl,rfl,⟨⟩⟩ (fun h33 => by exfalso; omega) fun h33 => ?_
 refine lC S3.k [.o 0] rfl ⟨rfl,⟨⟩⟩ (wL (fun μk D ε w => D = [] ∧ ∃ k : Nat, (k + μk = (c.mem.length)) ∧ St [] w0 w [(some g3, 52, [.slice Xm xm ym, .slice Xa xa ya, .slice Xb xb yb]), (some g2, 27, [.slice Ac nc cc, .slice Am nm cm, .slice Al nl cl, .slice At nt ct])] ∧ Sl ε [(2, .pointer (some ⟨g2, 0, none⟩)), (3, .pointer (some ⟨g3, 0, none⟩)), (36, .slice Xm xm ym), (37, .int .i64 xm), (38, .int .i64 k)]) (μ := (c.mem.length)) ⟨rfl, 0, by omega, S3, rfl⟩ ?_)
 rintro μk D ε w ⟨rfl, k, hk, S, eZ⟩
 refine wK eZ (wB0 rfl ⟨⟩ (fun h39 => ?_) fun h39 => ?_)
 ·obtain ⟨v, b41, p41, _, hxv, hA41, _, _, hc41, hr41⟩ := RdS.get (hMem) (k) (by omega)
  obtain ⟨rfl, _⟩ := id hr41
  have q1 := hf.mem.vals k v hxv
  refine lB (S.k.a hc41) [.x b41 p41,.f 0 0] rfl ⟨rfl,⟨hA41,by omega⟩,⟨⟩⟩ (fun h44 => by exfalso; omega) fun h44 => ?_
  obtain ⟨x, b50, p50, _, hxx, hA50, _, _, hc50, hr50⟩ := RdS.get (hC) (k) (by omega)
  obtain ⟨rfl, _, _, _, _⟩ := RCell.open_ hr50
  have q2 := (hI.ok.cells x (some_mem hxx)).w
  rw [w_at hxx, pow2_eq] at q1
  refine lO (S.k.a hc50) [.o 1,.x b50 p50,.f 0 1] rfl ⟨rfl,⟨hA50,by omega⟩,rfl,⟨⟩⟩ ?_
  rw [show x.w = ((x.w.toNat : Nat) : Int) by omega]
  refine o_shl1 (n := x.w.toNat) rfl (by rfl) (by omega) rfl ?_
  refine lB0 rfl ⟨⟩ (fun h54 => by exfalso; omega) fun h54 => ?_
  refine lP0 rfl ⟨by omega,⟨⟩⟩ ⟨μk - 1, by omega, rfl, (k + 1), (by omega), S, rfl⟩
 refine lC S.k [.o 0] rfl ⟨rfl,⟨⟩⟩ (wL (fun μk D ε w => D = [] ∧ ∃ k : Nat, (k + μk = (c.at_.length)) ∧ St [] w0 w [(some g3, 52, [.slice Xm xm ym, .slice Xa xa ya, .slice Xb xb yb]), (some g2, 27, [.slice Ac nc cc, .slice Am nm cm, .slice Al nl cl, .slice At nt ct])] ∧ Sl ε [(2, .pointer (some ⟨g2, 0, none⟩)), (3, .pointer (some ⟨g3, 0, none⟩)), (58, .slice Xa xa ya), (59, .int .i64 xa), (60, .int .i64 k)]) (μ := (c.at_.length)) ⟨rfl, 0, by omega, S, rfl⟩ ?_)
 rintro μk D ε w ⟨rfl, k, hk, S, eZ⟩
 refine wK eZ (wB0 rfl ⟨⟩ (fun h61 => ?_) fun h61 => ?_)
 ·obtain ⟨v, b63, p63, _, hxv, hA63, _, _, hc63, hr63⟩ := RdS.get (hAt) (k) (by omega)
  obtain ⟨rfl, _⟩ := id hr63
  obtain ⟨th, b68, p68, _, hxth, hA68, _, hl68, hc68, hr68⟩ := RdS.get (hTh) (k) (by omega)
  obtain ⟨_, _, _, _, _, _, _, _, _, _, _, _, rfl, _, _, _, _, _, _, _, _, _, _, _, _, _⟩ := RThread.open_ hr68
  have q1 := hf.atr k v hxv th hxth
  refine lO ((S.k.a hc68).a hc63) [.x b63 p63,.f 0 0,.o 1,.x b68 p68,.v 1] rfl ⟨⟨rfl,hl68⟩,⟨hA68,by omega⟩,rfl,rfl,⟨hA63,by omega⟩,⟨⟩⟩ (o_alloc S zv_60 rfl rfl ?_)
  intro g9 w9 S9 X9 G9
  refine o_storeN (kk := 0) (vs := [_, _, _, _, _, _, _]) S9 sz_60 rfl rfl rfl rfl rfl rfl rfl ?_
  intro w12_6 S12_6 X12_6
  dsimp only [setsAt, List.set] at S12_6
  refine lB0 rfl ⟨⟩ (fun h71 => by exfalso; omega) fun h71 => ?_
  refine lB S12_6.k [.o 0] rfl ⟨rfl,⟨⟩⟩ (fun h76 => by exfalso; omega) fun h76 => ?_
  refine lB0 rfl ⟨⟩ (fun h80 => ?_) fun h80 => ?_
  ·refine lO0 rfl ⟨⟩ ?_
   cases hb83 : th.asleep
   ·refine o_load one_4 rfl (by exact (S12_6.cell 0 rfl rfl).trans (congrArg (fun b => some (Value.bool b)) hb83)) rfl ?_
    rw [q1.2.2 (by omega)] at hb83
    refine lR0 rfl ⟨⟩ (ret_1 rfl (by conv => lhs; whnf) ?_)
    cases hb83
   refine o_load one_4 rfl (by exact (S12_6.cell 0 rfl rfl).trans (congrArg (fun b => some (Value.bool b)) hb83)) rfl ?_
   rw [q1.2.2 (by omega)] at hb83
   obtain ⟨b, b91, p91, c91, hxb, hA91, hM91, hl91, hc91, hr91⟩ := RdS.get (hBuf) (k) (by omega)
   obtain ⟨Ab91, nb91, cb91, rfl, hBu91, hnb91, bb91⟩ := RBuf.open_ hr91
   have q2 := he b (some_mem hxb)
   subst q2
   simp only [List.length_nil] at hnb91
   refine lB (S12_6.k.a hc91) [.o 1,.x b91 p91,.f 0 0] rfl ⟨rfl,⟨hA91,by omega⟩,rfl,⟨⟩⟩ (fun h94 => by exfalso; omega) fun h94 => ?_
   refine lP0 rfl ⟨by omega,⟨⟩⟩ ⟨μk - 1, by omega, rfl, (k + 1), (by omega), S12_6.tail, rfl⟩
  obtain ⟨b, b91, p91, c91, hxb, hA91, hM91, hl91, hc91, hr91⟩ := RdS.get (hBuf) (k) (by omega)
  obtain ⟨Ab91, nb91, cb91, rfl, hBu91, hnb91, bb91⟩ := RBuf.open_ hr91
  have q2 := he b (some_mem hxb)
  subst q2
  simp only [List.length_nil] at hnb91
  refine lB (S12_6.k.a hc91) [.o 1,.x b91 p91,.f 0 0] rfl ⟨rfl,⟨hA91,by omega⟩,rfl,⟨⟩⟩ (fun h94 => by exfalso; omega) fun h94 => ?_
  refine lP0 rfl ⟨by omega,⟨⟩⟩ ⟨μk - 1, by omega, rfl, (k + 1), (by omega), S12_6.tail, rfl⟩
 exact lT rfl ⟨⟩ rfl ⟨rfl, S.fin⟩
theorem machStart_fn (p : ProgD) (M : List Nat) (w0 : World) (cs : List Value) (hI : InP p M w0 cs) :
 Does Tryz.prog 76 #[.agg cs.toArray] w0 fun v w' => (∃ xs, v = .agg xs.toArray ∧ RdConf M w' (startC p) xs) ∧ Below w0.heap.size w0 w' := by
 obtain ⟨Ac, nc, cc, Am, nm, cm, Al, nl, cl, At, nt, ct, rfl, hC, _, _, hTh, hnc, _, _, hnt, bc, _, _, bt⟩ := hI.rd.open_
 have S := St.refl w0
 have hp := hI.ok
 have n1 := hp.ncells
 have n2 := hp.nthreads
 refine dnR Tryz.func76 rfl Tryz.ntmps76 rfl ?_
 refine wO0 rfl ⟨⟩ (o_boxa S (by conv => lhs; whnf) rfl ?_)
 intro g1 w1 S1 X1 G1
 refine o_alloc S1 zv_52 rfl rfl ?_
 intro g2 w2 S2 X2 G2
 refine lO S2.k [.w 1] rfl ⟨⟨rfl,rfl⟩,⟨⟩⟩ (o_callr S2 has_134 rfl rfl (machValid_fn p M _ _ (hI.keep (S2.keep0 M))) ?_)
 intro w7 S7 X7
 refine lC0 rfl ⟨⟩ (W_flow fmx [0, 1, 2, 3, 4, 5, 6, 7, 8, 9, 10, 11, 12, 13] 14 (by kernel_rfl) (by kernel_rfl) (Cl _ _ _ _) (Cl.start S7) _ rfl ?_)
 refine FL_q rfl rfl ?_
 refine q_fieldAddr fa_27_0 rfl rfl ?_
 refine QL_nil ?_
 refine FL_q rfl rfl ?_
 refine q_load one_22 rfl (fun w1 hw => by exact hw.1.cell 1 rfl rfl) rfl ?_
 refine QL_nil ?_
 refine FL_len rfl slz_22.slT rfl rfl ?_
 refine FL_make (n := nc) (c := nc) rfl rfl rfl slz_49 rfl rfl (by omega) (by omega) (by omega) rfl ?_
 intro g13 G13 ng13
 refine FL_q rfl rfl ?_
 refine q_fieldAddr fa_27_3 rfl rfl ?_
 refine QL_nil ?_
 refine FL_q rfl rfl ?_
 refine q_load one_25 rfl (fun w1 hw => by exact hw.1.cell 1 rfl rfl) rfl ?_
 refine QL_nil ?_
 refine FL_len rfl slz_25.slT rfl rfl ?_
 refine FL_make (n := nt) (c := nt) rfl rfl rfl slz_49 rfl rfl (by omega) (by omega) (by omega) rfl ?_
 intro g17 G17 ng17
 refine FL_q rfl rfl ?_
 refine q_fieldAddr fa_27_3 rfl rfl ?_
 refine QL_nil ?_
 refine FL_q rfl rfl ?_
 refine q_load one_25 rfl (fun w1 hw => by exact hw.1.cell 1 rfl rfl) rfl ?_
 refine QL_nil ?_
 refine FL_len rfl slz_25.slT rfl rfl ?_
 refine FL_make (n := nt) (c := nt) rfl rfl rfl slz_50 rfl rfl (by omega) (by omega) (by omega) rfl ?_
 intro g21 G21 ng21
 refine FL_q rfl rfl ?_
 refine q_build bld_52 (vs := [(0, .slice _ _ _), (1, .slice _ _ _), (2, .slice _ _ _)]) (cs := [_, _, _]) rfl rfl rfl rfl ?_
 refine QL_nil ?_
 refine FL_alloc rfl rfl rfl zv_52 rfl ?_
 intro g3 G3 ng3
 refine FL_nil ?_
 rintro wR3 ⟨SR3, _⟩ ⟨⟨⟨⟨-, hg13⟩, hg17⟩, hg21⟩, hg3⟩
 clear ng13
 replace SR3 := SR3.push_new S7 hg13 G13
 replace SR3 := SR3.push_more (L1 := [_]) S7 hg17 G17 (by simpa [eq_comm] using ng17)
 replace SR3 := SR3.push_more (L1 := [_, _]) S7 hg21 G21 (by simpa [eq_comm] using ng21)
 replace SR3 := SR3.push_more (L1 := [_, _, _]) S7 hg3 G3 (by simpa [eq_comm] using ng3)
 refine o_storeN (kk := 0) (vs := [_, _, _]) SR3 sz_52 rfl rfl rfl rfl rfl rfl rfl ?_
 intro w3_14 S3_14 X3_14
 dsimp only [setsAt, List.set] at S3_14
 refine WL_nil ⟨rfl, ?_⟩
 refine fC S3_14.k [.o 5] rfl ⟨rfl,⟨⟩⟩ ?_
 refine wL (fun μk D ε w => D = [] ∧ ∃ k : Nat, (k + μk = (p.cells.length)) ∧ St [] w0 w [(some g3, 52, [.slice (some ⟨g13, 0, none⟩) nc nc, .slice (some ⟨g17, 0, none⟩) nt nt, .slice (some ⟨g21, 0, none⟩) nt nt]), (some g21, 118, (List.replicate nt (.slice none 0 0))), (some g17, 3, (List.replicate nt (.int .i64 0))), (some g13, 3, fillTo ((startC p).mem.map (Value.int .i64)) (.int .i64 0) k), (some g2, 52, [.slice none 0 0, .slice none 0 0, .slice none 0 0]), (some g1, 27, [.slice Ac nc cc, .slice Am nm cm, .slice Al nl cl, .slice At nt ct])] ∧ Sl ε [(1, .pointer (some ⟨g1, 0, none⟩)), (2, .pointer (some ⟨g2, 0, none⟩)), (3, .pointer (some ⟨g3, 0, none⟩)), (25, .int .i64 nc), (26, .int .i64 k)]) (μ := (p.cells.length)) ⟨rfl, 0, by omega, (S3_14.setEnt 3 rfl (by rw [fillTo_zero]; simp [startC, hnc])), rfl⟩ ?_
 rintro μk D ε w ⟨rfl, k, _, S, eZ⟩
 refine wK eZ (wB0 rfl ⟨⟩ (fun h27 => ?_) fun h27 => ?_)
 ·refine lC0 rfl ⟨⟩ (W_draw fmx [0, 1, 2, 3, 4, 5, 6, 7, 8, 9] [] [10] (by kernel_rfl) rfl (Cl _ _ _ _) (Cl.start S) ?_)
  obtain ⟨x, b35, p35, _, hxx, hA35, _, _, hc35, hr35⟩ := RdS.get (hC) (k) (by omega)
  obtain ⟨rfl, _, _, _, _⟩ := RCell.open_ hr35
  refine qO (S.q.a hc35) [.o 0,.o 5,.x b35 p35,.f 0 2] rfl ⟨rfl,⟨hA35,by omega⟩,rfl,rfl,⟨⟩⟩ (q_indexAddr slz_49.slT rfl (by rfl) rfl (by omega) (by omega) rfl ?_)
  refine qD rfl ⟨⟩ ?_
  rintro wR7 ⟨SR7, _⟩
  first | refine o_store (kk := 3) SR7 sz_3 rfl (by conv => lhs; whnf) rfl rfl (by (simp; omega)) ?_
  intro w7_10 S7_10 X7_10
  refine lP0 rfl ⟨by omega,⟨⟩⟩ ⟨μk - 1, by omega, rfl, (k + 1), (by omega), (S7_10.setEnt 3 rfl (fillTo_set (by simp [startC, hxx]) (by simp))), rfl⟩
 refine lC S.k [.o 5] rfl ⟨rfl,⟨⟩⟩ ?_
 refine wL (fun μj D ε w => D = [] ∧ ∃ j : Nat, (j + μj = (p.threads.length)) ∧ St [] w0 w [(some g3, 52, [.slice (some ⟨g13, 0, none⟩) nc nc, .slice (some ⟨g17, 0, none⟩) nt nt, .slice (some ⟨g21, 0, none⟩) nt nt]), (some g21, 118, (List.replicate nt (.slice none 0 0))), (some g17, 3, fillTo ((startC p).at_.map (Value.int .i64)) (.int .i64 0) j), (some g13, 3, (startC p).mem.map (Value.int .i64)), (some g2, 52, [.slice none 0 0, .slice none 0 0, .slice none 0 0]), (some g1, 27, [.slice Ac nc cc, .slice Am nm cm, .slice Al nl cl, .slice At nt ct])] ∧ Sl ε [(1, .pointer (some ⟨g1, 0, none⟩)), (2, .pointer (some ⟨g2, 0, none⟩)), (3, .pointer (some ⟨g3, 0, none⟩)), (42, .int .i64 nt), (43, .int .i64 j)]) (μ := (p.threads.length)) ⟨rfl, 0, by omega, ((S.setEnt 3 rfl (fillTo_all _ _ (by simp [startC]; omega))).setEnt 2 rfl (by rw [fillTo_zero]; simp [startC, hnt])), rfl⟩ ?_
 rintro μj D ε w ⟨rfl, j, _, S, eZ⟩
 refine wK eZ (wB0 rfl ⟨⟩ (fun h44 => ?_) fun h44 => ?_)
 ·obtain ⟨th, b49, p49, _, hxth, hA49, _, _, hc49, hr49⟩ := RdS.get (hTh) (j) (by omega)
  obtain ⟨_, _, _, _, _, _, _, _, _, _, _, _, rfl, _, _, _, _, _, _, _, _, _, _, _, _, _⟩ := RThread.open_ hr49
  refine lO S.k [.o 5,.x b49 p49] rfl ⟨⟨hA49,by omega⟩,rfl,⟨⟩⟩ ?_
  cases hb51 : th.asleep
  ·refine o_load one_4 rfl (by exact (S.old (hc49 _ _ rfl)).trans (congrArg (fun b => some (Value.bool b)) hb51)) rfl ?_
   refine lP0 rfl ⟨by omega,⟨⟩⟩ ⟨μj - 1, by omega, rfl, (j + 1), (by omega), (S.setEnt 2 rfl (by exact fillTo_same (by simp [startC, hxth, hb51]))), rfl⟩
  refine o_load one_4 rfl (by exact (S.old (hc49 _ _ rfl)).trans (congrArg (fun b => some (Value.bool b)) hb51)) rfl ?_
  refine lO S.k [.o 0] rfl ⟨rfl,⟨⟩⟩ (o_indexAddr slz_49.slT rfl (by rfl) rfl (by omega) (by omega) rfl ?_)
  first | refine o_store (kk := 2) S sz_3 rfl (by conv => lhs; whnf) rfl rfl (by (simp; omega)) ?_
  intro w13_4 S13_4 X13_4
  refine lP0 rfl ⟨by omega,⟨⟩⟩ ⟨μj - 1, by omega, rfl, (j + 1), (by omega), (S13_4.setEnt 2 rfl (by exact fillTo_set (by simp [startC, hxth, hb51]) (by simp))), rfl⟩
 refine lO S.k [.w 0] rfl ⟨⟨rfl,rfl⟩,⟨⟩⟩ ?_
 first | refine o_storeN (kk := 4) (vs := [_, _, _]) S sz_52 rfl rfl rfl rfl rfl rfl rfl ?_
 intro w15_1 S15_1 X15_1
 dsimp only [setsAt, List.set] at S15_1
 refine lR0 rfl ⟨⟩ ?_
 have SF := S15_1.setEnt 2 rfl (fillTo_all _ _ (by simp [startC]; omega))
 have hf := fit_start hp
 exact ret_cell1 (n := 3) rfl many_52 rfl (SF.cells 4 rfl) rfl ⟨⟨_, rfl, _, _, _, rfl, SF.rdInts 3 rfl (fresh_not hI.lt (SF.new 3 rfl)) (by simp [startC, hnc]) bc (mem_i64 hp hf.mem), SF.rdInts 2 rfl (fresh_not hI.lt (SF.new 2 rfl)) (by simp [startC, hnt]) bt (at_i64 hp hf), SF.rdBufs 1 rfl (fresh_not hI.lt (SF.new 1 rfl)) (by simp [startC, hnt]) bt (by simp [startC])⟩, SF.fin⟩
end Go.Proofs.YtjjmdcnmeommbaaGreatDoor
namespace Go.Fw
open Go.RowKit
theorem flatN {size : Nat} : ∀ (css : List (List Value)) (i : Nat) (c : List Value), (∀ x ∈ css, x.length = size) → css[i]? = some c → ∀ (j : Nat) (u : Value), c[j]? = some u → css.flatten[i * size + j]? = some u := by
 intro css
 induction css with
 | nil => intro i c _ h; simp at h
 | cons x xs ih =>
   intro i c h4 hi j u hj
   have hx := h4 x (by simp)
   cases i with
   | zero =>
     simp at hi; subst hi
     have hjl : j < x.length := (List.getElem?_eq_some_iff.1 hj).1
     rw [List.flatten_cons, Nat.zero_mul, Nat.zero_add, List.getElem?_append_left hjl]; exact hj
   | succ i =>
     have := ih i c (fun y hy => h4 y (by simp [hy])) (by simpa using hi) j u hj
     have e : (i + 1) * size + j = x.length + (i * size + j) := by rw [hx, Nat.add_mul]; omega
     rw [List.flatten_cons, e, List.getElem?_append_right (by omega)]
     rw [show x.length + (i * size + j) - x.length = i * size + j by omega]; exact this
theorem flatN_len {size : Nat} (css : List (List Value)) (h4 : ∀ x ∈ css, x.length = size) : css.flatten.length = css.length * size := by
 induction css with
 | nil => simp
 | cons x xs ih => rw [List.flatten_cons, List.length_append, ih (fun y hy => h4 y (by simp [hy])), h4 x (by simp), List.length_cons, Nat.add_mul]; omega
structure RdLaw {α : Type} (R : List Nat → World → List Value → α → Prop) (size : Nat) : Prop where
 len : ∀ {M w cs x}, R M w cs x → cs.length = size
 one : ∀ {M w cs x}, R M w cs x → ∀ u ∈ cs, u.oneCell' = true
 keep : ∀ {M w w' cs x}, Keep M w w' → R M w cs x → R M w' cs x
 more : ∀ {M M' w cs x}, (∀ g ∈ M', g ∈ M ∨ w.heap.size ≤ g) → R M w cs x → R M' w cs x
section
variable {α : Type} {R : List Nat → World → List Value → α → Prop} {size : Nat}
def RowR (R : List Nat → World → List Value → α → Prop) (size : Nat) (M : List Nat) (w : World) (G : Option Nat) (cs : List Value) (v : Value) (l : List α) : Prop :=
 ∃ css : List (List Value), css.length = l.length ∧ (∀ x ∈ css, x.length = size) ∧ RowV G size l.length cs v css.flatten ∧ ∀ (i : Nat) (x : α), l[i]? = some x → ∃ c, css[i]? = some c ∧ R (G.toList ++ M) w c x
theorem RowR.keep (hL : RdLaw R size) {M : List Nat} {w w' : World} {G : Option Nat} {cs : List Value} {v : Value} {l : List α} (h : RowR R size M w G cs v l) (hk : Keep (G.toList ++ M) w w') : RowR R size M w' G cs v l := by
 obtain ⟨css, h1, h2, h3, h4⟩ := h
 refine ⟨css, h1, h2, h3, fun i x hi => ?_⟩
 obtain ⟨c, h5, h6⟩ := h4 i x hi
 exact ⟨c, h5, hL.keep hk h6⟩
theorem RowR.nil {M : List Nat} {w : World} : RowR R size M w none [] (.slice none 0 0) [] := ⟨[], rfl, by simp, RowV.nil size, fun i x hi => by simp at hi⟩
theorem RowR.new {M : List Nat} {w : World} {g : Nat} : RowR R size M w (some g) [] (.slice (some ⟨g, 0, none⟩) 0 0) [] :=
 ⟨[], rfl, by simp, ⟨by simp, .inr ⟨g, 0, rfl, rfl, Nat.le_refl _, by unfold maxLen; omega, by simp, by simp⟩⟩, fun i x hi => by simp at hi⟩
theorem RowR.form {M : List Nat} {w : World} {G : Option Nat} {cs : List Value} {v : Value} {l : List α} (h : RowR R size M w G cs v l) : ∃ A c, v = .slice A l.length c := by
 obtain ⟨_, _, _, ⟨_, hr⟩, _⟩ := h
 rcases hr with ⟨_, rfl, h0⟩ | ⟨g, cap, _, rfl, _⟩
 ·exact ⟨_, _, by rw [h0]⟩
 ·exact ⟨_, _, rfl⟩
theorem RowR.rd (hL : RdLaw R size) {M M' : List Nat} {w0 w : World} {L : List Ent} {k el : Nat} {G : Option Nat} {cs : List Value} {v : Value} {l : List α} (h : RowR R size M w G cs v l) (S : St M' w0 w L) (hk : L[k]? = some (G, el, cs)) (hM : ∀ g, G = some g → g ∉ M) (hl : l.length ≤ 1000000) : RdS M w size (R M w) v l := by
 obtain ⟨css, h1, h2, ⟨_, hr⟩, h4⟩ := h
 rcases hr with ⟨rfl, rfl, h0⟩ | ⟨g, cap, rfl, rfl, q1, q2, q3, q4⟩
 ·exact ⟨none, 0, 0, rfl, by omega, by omega, by unfold maxLen; omega, by omega, fun h => absurd h (by omega)⟩
 ·refine ⟨_, _, _, rfl, rfl, q1, q2, by omega, fun _ => ⟨g, 0, rfl, hM g rfl, fun i x hi => ?_⟩⟩
  obtain ⟨c, h5, h6⟩ := h4 i x hi
  refine ⟨c, h2 c (List.mem_of_getElem? h5), fun j u hj => ?_, hL.more (fun x hx => .inl (by simp [hx])) h6⟩
  have hf := flatN css i c h2 h5 j u hj
  have hlt : i * size + j < l.length * size := by
   have := (List.getElem?_eq_some_iff.1 hf).1
   rw [flatN_len css h2, h1] at this; exact this
  rw [← q4, List.getElem?_take, if_pos hlt] at hf
  have := S.cell k hk hf
  simpa using this
theorem RowR.get {M M' : List Nat} {w0 w : World} {L : List Ent} {k el : Nat} {G : Option Nat} {cs : List Value} {v : Value} {l : List α} (h : RowR R size M w G cs v l) (S : St M' w0 w L) (hk : L[k]? = some (G, el, cs)) {i : Nat} {x : α} (hi : l[i]? = some x) :
 ∃ g cap c, G = some g ∧ v = .slice (some ⟨g, 0, none⟩) l.length cap ∧ c.length = size ∧ Cells w g (0 + i * size) c ∧ R (G.toList ++ M) w c x := by
 obtain ⟨css, h1, h2, ⟨_, hr⟩, h4⟩ := h
 have hil := (List.getElem?_eq_some_iff.1 hi).1
 rcases hr with ⟨rfl, rfl, h0⟩ | ⟨g, cap, rfl, rfl, q1, q2, q3, q4⟩
 ·omega
 ·obtain ⟨c, h5, h6⟩ := h4 i x hi
  refine ⟨g, cap, c, rfl, rfl, h2 c (List.mem_of_getElem? h5), fun j u hj => ?_, h6⟩
  have hf := flatN css i c h2 h5 j u hj
  have hlt : i * size + j < l.length * size := by
   have := (List.getElem?_eq_some_iff.1 hf).1
   rw [flatN_len css h2, h1] at this; exact this
  rw [← q4, List.getElem?_take, if_pos hlt] at hf
  have := S.cell k hk hf
  simpa using this
variable {P : Program} {r : Option Nat} {N : Nat} {D : List Deferred} {e : Env} {w w0 : World} {ops : Array Oper} {rest : List Oper} {K : List Deferred → Env → World → Prop} {L : List Ent} {M : List Nat}
variable {d : Nat} {t : TypeId} {p : String} {af : Array Edge} {x y : Operand}
theorem o_appendR (hL : RdLaw R size) {M2 : List Nat} {ty el bytes k c b o m : Nat} {z v : Value} {G : Option Nat} {cs : List Value} {cs2 : List (List Value)} {l l2 : List α} (S : St M w0 w L) (hS : SlZ P ty el size z bytes) (hby : bytes ≤ 1000) (hk : L[k]? = some (G, el, cs)) (hR : RowR R size M2 w G cs v l)
 (hx : ev e x = v) (hy : ev e y = .slice (some ⟨b, o, none⟩) m c) (hm : m = l2.length) (hl2 : cs2.length = l2.length) (hnews : Cells w b o cs2.flatten) (he : ∀ (i : Nat) (x : α), l2[i]? = some x → ∃ c, cs2[i]? = some c ∧ R (G.toList ++ M2) w c x) (hll : l.length + l2.length ≤ 1000000) (hd : Nat.ble (d + 1) N = true)
 (h : ∀ v' G' cs' w1, St M w0 w1 (L.set k (G', el, cs')) → RowR R size M2 w1 G' cs' v' (l ++ l2) → Keep G.toList w w1 → (∀ g ∈ G'.toList, g ∈ G.toList ∨ w.heap.size ≤ g) → WL P r N ops rest K D (upd e d v') w1) :
 WL P r N ops (⟨some d, .call { callee := .builtin .append, args := #[x, y], argTypes := #[ty, ty] }, t, p, af, none⟩ :: rest) K D e w := by
 subst hm
 obtain ⟨css, c1, c2, c3, c4⟩ := hR
 have hat : ∀ x ∈ cs2, ∃ a, R (G.toList ++ M2) w x a := fun x hx => by
  obtain ⟨i, hi, rfl⟩ := List.getElem_of_mem hx
  obtain ⟨c, h5, h6⟩ := he i l2[i] (List.getElem?_eq_getElem (by omega))
  rw [List.getElem?_eq_getElem hi] at h5; cases h5
  exact ⟨_, h6⟩
 have hlen : ∀ x ∈ cs2, x.length = size := fun x hx => let ⟨_, ha⟩ := hat x hx; hL.len ha
 have hone : ∀ u ∈ cs2.flatten, u.oneCell' = true := fun u hu => by
  obtain ⟨x, hx, hu⟩ := List.mem_flatten.1 hu
  obtain ⟨_, ha⟩ := hat x hx
  exact hL.one ha u hu
 obtain ⟨i, hi, hz, hsz, hbb⟩ := hS.parts
 obtain ⟨hown, hG⟩ := c3.own S hk
 have hb2 : (l.length + l2.length) * bytes ≤ 140737488355328 := by
  have : (l.length + l2.length) * bytes ≤ 1000000 * 1000 := Nat.mul_le_mul (by omega) hby
  omega
 obtain ⟨v', w1, hrun, hown', hgrow, _, hblk⟩ := run_append_own_at (P := P) w 0 ty t el i z size bytes hS.und hi hz hsz hbb hS.zs hS.pos v l.length css.flatten hown ⟨b, o, none⟩ l2.length c cs2.flatten (by rw [flatN_len cs2 hlen, hl2])
  (fun j u hj => by rw [Addr.add_lit]; exact hnews j u hj) hone (by unfold maxLen; omega) hb2 (Nat.zero_le _)
 obtain ⟨G', cs', hR', hG', hnew⟩ := row_of_own hown'
 have hsame : ∀ q, q < w.heap.size → G ≠ some q → w1.heap[q]? = w.heap[q]? := fun q hq hne => hgrow.block q hq (fun hh => hne (by rw [← hG, ← hh]))
 have hbelow : BelowB M w0 w1 := ⟨hgrow.os.trans S.below.os, hgrow.tape.trans S.below.tape, hgrow.output.trans S.below.output, Nat.le_trans S.size hgrow.size, fun q hq hm =>
  (hsame q (Nat.lt_of_lt_of_le hq S.size) (fun hh => by
    subst hh
    rcases S.new k hk with h' | h'
    ·omega
    ·exact hm h')).trans (S.below.block q hq hm)⟩
 have hkeep : Keep G.toList w w1 := ⟨hgrow.size, fun q hq hm => hsame q hq (fun hh => hm (by rw [hh]; simp))⟩
 have hfresh : ∀ g ∈ G'.toList, g ∈ G.toList ∨ w.heap.size ≤ g := by
  intro g hg
  have hg' : G' = some g := by cases G' with
   | none => simp at hg
   | some q => simp at hg; rw [hg]
  rcases hblk with hb | hb
  ·left; have hGg : G = some g := by rw [← hG, ← hb, hG']; exact hg'
   rw [hGg]; simp
  ·rw [hG', hg'] at hb; cases hb; exact .inr (Nat.le_refl _)
 refine WL_val (v := v') (w' := w1) rfl rfl hd (by simp) ?_ (h v' G' cs' w1 (S.replace k hk hbelow hsame (fun g hg => ?_)) ?_ hkeep hfresh)
 ·simp [execOp, resolve, invoke, builtin, hx, hy, hrun]
 ·obtain ⟨_, h3⟩ := hnew g hg
  rcases hblk with hb | hb
  ·have hGg : G = some g := by rw [← hG, ← hb, hG']; exact hg
   subst hGg
   exact ⟨S.new k hk, h3, .inl rfl⟩
  ·have hg2 : G' = some g := hg
   rw [hG', hg2] at hb; cases hb
   exact ⟨.inl S.size, h3, .inr (Nat.le_refl _)⟩
 ·have hmv : ∀ (e2 : α) (c : List Value), R (G.toList ++ M2) w c e2 → R (G'.toList ++ M2) w1 c e2 := by
   intro e2 c hr
   have h5 : R (G.toList ++ (G'.toList ++ M2)) w c e2 := hL.more (fun g hg => by
    rcases List.mem_append.1 hg with hg | hg
    ·exact .inl (List.mem_append_left _ hg)
    ·rcases List.mem_append.1 hg with hg | hg
     ·rcases hfresh g hg with h | h
      ·exact .inl (List.mem_append_left _ h)
      ·exact .inr h
     ·exact .inl (List.mem_append_right _ hg)) hr
   exact hL.more (fun g hg => .inl (List.mem_append_right _ hg)) (hL.keep (hkeep.mono (fun g hg => List.mem_append_left _ hg)) h5)
  refine ⟨css ++ cs2, by simp [c1, hl2], fun x hx => ?_, ?_, fun i x hi => ?_⟩
  ·rcases List.mem_append.1 hx with hx | hx
   ·exact c2 x hx
   ·exact hlen x hx
  ·have e1 : (l ++ l2).length = l.length + l2.length := by simp
   rw [e1, List.flatten_append]; exact hR'
  ·by_cases hil : i < l.length
   ·rw [List.getElem?_append_left hil] at hi
    obtain ⟨c, h5, h6⟩ := c4 i x hi
    exact ⟨c, by rw [List.getElem?_append_left (by omega)]; exact h5, hmv _ _ h6⟩
   ·rw [List.getElem?_append_right (by omega)] at hi
    obtain ⟨c, h5, h6⟩ := he _ x hi
    exact ⟨c, by rw [List.getElem?_append_right (by omega), c1]; exact h5, hmv _ _ h6⟩
theorem o_append1 (hL : RdLaw R size) {M2 : List Nat} {ty el bytes k c b o : Nat} {z v : Value} {G : Option Nat} {cs news : List Value} {l : List α} {e1 : α} (S : St M w0 w L) (hS : SlZ P ty el size z bytes) (hby : bytes ≤ 1000) (hk : L[k]? = some (G, el, cs)) (hR : RowR R size M2 w G cs v l)
 (hx : ev e x = v) (hy : ev e y = .slice (some ⟨b, o, none⟩) 1 c) (hnews : Cells w b o news) (he : R (G.toList ++ M2) w news e1) (hll : l.length + 1 ≤ 1000000) (hd : Nat.ble (d + 1) N = true)
 (h : ∀ v' G' cs' w1, St M w0 w1 (L.set k (G', el, cs')) → RowR R size M2 w1 G' cs' v' (l ++ [e1]) → Keep G.toList w w1 → (∀ g ∈ G'.toList, g ∈ G.toList ∨ w.heap.size ≤ g) → WL P r N ops rest K D (upd e d v') w1) :
 WL P r N ops (⟨some d, .call { callee := .builtin .append, args := #[x, y], argTypes := #[ty, ty] }, t, p, af, none⟩ :: rest) K D e w :=
 o_appendR hL (cs2 := [news]) (l2 := [e1]) S hS hby hk hR hx hy rfl rfl (by simpa using hnews) (fun i x hi => by
  cases i with
  | zero => simp at hi; subst hi; exact ⟨news, rfl, he⟩
  | succ i => simp at hi) (by simpa using hll) hd h
end
theorem RdS.all {α : Type} {M : List Nat} {w : World} {size : Nat} {R : List Value → α → Prop} {A : Option Addr} {n c b o : Nat} {l : List α} (h : RdS M w size R (.slice A n c) l) (hA : A = some ⟨b, o, none⟩) (h0 : 0 < l.length) :
 ∃ css : List (List Value), css.length = l.length ∧ Cells w b o css.flatten ∧ ∀ (i : Nat) (x : α), l[i]? = some x → ∃ c, css[i]? = some c ∧ R c x := by
 obtain ⟨h1, _, _, _, h5⟩ := h.at
 obtain ⟨_, _, hA', _, hel⟩ := h5 (by omega)
 rw [hA] at hA'; cases hA'
 have key : ∀ (l2 : List α) (q : Nat), (∀ i x, l2[i]? = some x → ∃ cs, cs.length = size ∧ Cells w b (q + i * size) cs ∧ R cs x) → ∃ css : List (List Value), css.length = l2.length ∧ Cells w b q css.flatten ∧ ∀ (i : Nat) (x : α), l2[i]? = some x → ∃ c, css[i]? = some c ∧ R c x := by
  intro l2
  induction l2 with
  | nil => intro q _; exact ⟨[], rfl, fun j v hj => by simp at hj, fun i x hi => by simp at hi⟩
  | cons a l2 ih =>
    intro q hq
    obtain ⟨cs, _, k2, k3⟩ := hq 0 a rfl
    obtain ⟨css, m1, m2, m3⟩ := ih (q + size) (fun i x hi => by
     obtain ⟨cs, n1, n2, n3⟩ := hq (i + 1) x (by simpa using hi)
     exact ⟨cs, n1, by rw [show q + size + i * size = q + (i + 1) * size by rw [Nat.add_mul]; omega]; exact n2, n3⟩)
    refine ⟨cs :: css, by simp [m1], fun j v hj => ?_, fun i x hi => ?_⟩
    ·rw [List.flatten_cons] at hj
     by_cases hjl : j < cs.length
     ·rw [List.getElem?_append_left hjl] at hj
      have := k2 j v hj
      simpa using this
     ·rw [List.getElem?_append_right (by omega)] at hj
      have := m2 (j - cs.length) v hj
      rw [show q + size + (j - cs.length) = q + j by omega] at this
      exact this
    ·cases i with
     | zero => simp at hi; subst hi; exact ⟨cs, rfl, k3⟩
     | succ i =>
       obtain ⟨c, h1, h2⟩ := m3 i x (by simpa using hi)
       exact ⟨c, by simpa using h1, h2⟩
 exact key l o hel
end Go.Fw
namespace Go.Fw
open Go.RowKit
theorem RChoice.of {t s c : Int} (h1 : i64 t) (h2 : i64 s) (h3 : i64 c) : RChoice [.int .i64 t, .int .i64 s, .int .i64 c] ⟨t, s, c⟩ := ⟨rfl, h1, h2, h3⟩
theorem law_choice : RdLaw (fun (_ : List Nat) (_ : World) => RChoice) 3 where
 len h := by rw [h.1]; rfl
 one h u hu := by rw [h.1] at hu; simp at hu; rcases hu with rfl | rfl | rfl <;> rfl
 keep _ h := h
 more _ h := h
theorem law_int : RdLaw (fun (_ : List Nat) (_ : World) => RInt) 1 where
 len h := by rw [h.1]; rfl
 one h u hu := by rw [h.1] at hu; simp at hu; subst hu; rfl
 keep _ h := h
 more _ h := h
theorem law_entry : RdLaw REntry 2 where
 len h := by obtain ⟨_, _, rfl, _⟩ := h; rfl
 one h u hu := by
  obtain ⟨_, _, _, _, _, _, rfl, _⟩ := h.open_
  simp at hu; rcases hu with rfl | rfl <;> rfl
 keep hk h := REntry.keep hk _ _ h
 more hm h := REntry.more hm _ _ h
def RConf (M : List Nat) (w : World) (cs : List Value) (c : ConfD) : Prop := RdConf M w c cs
theorem law_conf : RdLaw RConf 3 where
 len h := by obtain ⟨_, _, _, rfl, _⟩ := h; rfl
 one h u hu := by
  obtain ⟨_, _, _, _, _, _, _, _, _, rfl, _⟩ := RdConf.open_ h
  simp at hu; rcases hu with rfl | rfl | rfl <;> rfl
 keep hk h := RdConf.keep hk h
 more hm h := RdConf.more hm h
theorem getD_some {α : Type} {l : List α} {i : Nat} {x d : α} (h : l[i]? = some x) : l.getD i d = x := by rw [List.getD_eq_getElem?_getD, h]; rfl
def noBuf (c : ConfD) : Prop := ∀ b ∈ c.buf, b = []
theorem noBuf.getD {c : ConfD} (h : noBuf c) (t : Nat) : c.buf.getD t [] = [] := by
 rw [List.getD_eq_getElem?_getD]
 cases hx : c.buf[t]? with
 | none => rfl
 | some b => exact h b (List.mem_of_getElem? hx)
theorem noBuf.view {c : ConfD} (h : noBuf c) (t : Nat) : viewC c t = c.mem := by unfold viewC; rw [h.getD]; rfl
theorem enabledC0 {p : ProgD} {c : ConfD} (h : noBuf c) (t : Nat) (s : StepD) : enabledC p 0 c t s = (decide (c.at_.getD t 0 = s.frm) && (decide (s.guard.evl c.mem c.mem = 1) &&
 (if s.kind = 6 then decide (c.at_.getD s.target.toNat 0 = -1) else if s.kind = 7 then decide (c.at_.getD s.target.toNat 0 = (p.threads.getD s.target.toNat ⟨ByteArray.empty, 0, [], [], [], [], false⟩).points - 1) else true))) := by
 unfold enabledC
 rw [h.view, h.getD, h.getD]
 congr 2
 split
 ·rename_i h3; rw [if_neg (by omega), if_neg (by omega)]; simp
 ·split
  ·simp
  ·split
   ·simp
   ·split
    ·rfl
    ·simp
@[simp] theorem setC_len (l : List AssignD) (v m : List Int) : (setC l v m).length = m.length := by
 unfold setC
 induction l generalizing m with
 | nil => rfl
 | cons a l ih => rw [List.foldl_cons, ih, List.length_set]
theorem setC_snoc (l : List AssignD) (a : AssignD) (v m : List Int) : setC (l ++ [a]) v m = (setC l v m).set a.cell.toNat (a.to.evl v v) := by unfold setC; rw [List.foldl_append]; rfl
theorem setC_next {l : List AssignD} {a : AssignD} {v m : List Int} {k i : Nat} (hx : l[k]? = some a) (hi : i = a.cell.toNat) : ((setC (l.take k) v m).map (Value.int .i64)).set i (.int .i64 (a.to.evl v v)) = (setC (l.take (k + 1)) v m).map (Value.int .i64) := by
 subst hi
 rw [take_some hx, setC_snoc, List.map_set]
theorem doC0 {p : ProgD} {c : ConfD} {t i : Nat} {th : ThreadD} {s : StepD} (h : noBuf c) (ht : p.threads[t]? = some th) (hs : th.steps[i]? = some s) : doC p 0 c ⟨t, i, 0⟩ = ⟨setC s.set c.mem c.mem, atC c t s, c.buf⟩ := by
 unfold doC
 have e1 : stepsC p t = th.steps := by unfold stepsC; rw [getD_some ht]
 rw [if_neg (by show ¬ ((i : Int) = -1); omega)]
 simp only [Int.toNat_natCast, e1, hs, execC, h.view]
 simp
def chStep (p : ProgD) (m : Int) (c : ConfD) (t i : Nat) : Bool := match (stepsC p t)[i]? with | some s => enabledC p m c t s | none => false
def stepsTo (p : ProgD) (m : Int) (c : ConfD) (t j : Nat) : List ChoiceD := ((List.range j).filter (chStep p m c t)).map fun (i : Nat) => (⟨t, i, 0⟩ : ChoiceD)
def commsTo (m : Int) (c : ConfD) (t j : Nat) : List ChoiceD := ((List.range j).filter (readyC m (c.buf.getD t []))).map fun (i : Nat) => (⟨t, -1, ((c.buf.getD t []).getD i ⟨[], []⟩).cells.getD 0 0⟩ : ChoiceD)
def choicesTo (p : ProgD) (m : Int) (c : ConfD) (k : Nat) : List ChoiceD := (List.range k).flatMap (choicesT p m c)
theorem choicesT_eq (p : ProgD) (m : Int) (c : ConfD) (t : Nat) : choicesT p m c t = stepsTo p m c t (stepsC p t).length ++ commsTo m c t (c.buf.getD t []).length := rfl
theorem choicesTo_succ (p : ProgD) (m : Int) (c : ConfD) (k : Nat) : choicesTo p m c (k + 1) = choicesTo p m c k ++ choicesT p m c k := by
 unfold choicesTo; rw [List.range_succ, List.flatMap_append]; simp
theorem stepsTo_succ {p : ProgD} {m : Int} {c : ConfD} {t j : Nat} {s : StepD} (h : (stepsC p t)[j]? = some s) : stepsTo p m c t (j + 1) = stepsTo p m c t j ++ (if enabledC p m c t s then [⟨t, j, 0⟩] else []) := by
 unfold stepsTo
 rw [List.range_succ, List.filter_append, List.map_append]
 have : chStep p m c t j = enabledC p m c t s := by unfold chStep; rw [h]
 congr 1
 cases he : enabledC p m c t s <;> simp [this, he]
theorem stepsTo_yes {p : ProgD} {m : Int} {c : ConfD} {t j : Nat} {th : ThreadD} {s : StepD} (h : p.threads[t]? = some th) (hs : th.steps[j]? = some s) (he : enabledC p m c t s = true) : stepsTo p m c t (j + 1) = stepsTo p m c t j ++ [⟨t, j, 0⟩] := by
 rw [stepsTo_succ (by rw [show stepsC p t = th.steps by unfold stepsC; rw [getD_some h]]; exact hs), he, if_pos rfl]
theorem stepsTo_no {p : ProgD} {m : Int} {c : ConfD} {t j : Nat} {th : ThreadD} {s : StepD} (h : p.threads[t]? = some th) (hs : th.steps[j]? = some s) (he : enabledC p m c t s = false) : stepsTo p m c t (j + 1) = stepsTo p m c t j := by
 rw [stepsTo_succ (by rw [show stepsC p t = th.steps by unfold stepsC; rw [getD_some h]]; exact hs), he]; simp
theorem stepsTo_len (p : ProgD) (m : Int) (c : ConfD) (t j : Nat) : (stepsTo p m c t j).length ≤ j := by
 unfold stepsTo
 have := List.length_filter_le (chStep p m c t) (List.range j)
 simpa using this
theorem commsTo_len (m : Int) (c : ConfD) (t j : Nat) : (commsTo m c t j).length ≤ j := by
 unfold commsTo
 have := List.length_filter_le (readyC m (c.buf.getD t [])) (List.range j)
 simpa using this
theorem stepsC_some {p : ProgD} {t : Nat} {th : ThreadD} (h : p.threads[t]? = some th) : stepsC p t = th.steps := by unfold stepsC; rw [getD_some h]
theorem choicesTo_len {p : ProgD} (hp : ProgOK p) {c : ConfD} (hf : FitC p c) (m : Int) : ∀ k, k ≤ p.threads.length → (choicesTo p m c k).length ≤ k * 67
 | 0, _ => by simp [choicesTo]
 | k + 1, hk => by
   have ih := choicesTo_len hp hf m k (by omega)
   rw [choicesTo_succ, choicesT_eq]
   have h1 := stepsTo_len p m c k (stepsC p k).length
   have h2 := commsTo_len m c k (c.buf.getD k []).length
   have hth : p.threads[k]? = some p.threads[k] := List.getElem?_eq_getElem hk
   rw [stepsC_some hth] at h1 ⊢
   have h3 := (hp.threads k hk).nsteps
   have hkb : k < c.buf.length := by rw [hf.nbuf]; exact hk
   have hb : c.buf[k]? = some c.buf[k] := List.getElem?_eq_getElem hkb
   rw [getD_some hb] at h2 ⊢
   have h4 := (hf.bufs k _ hb).1
   simp only [List.length_append]
   omega
theorem choicesTo_all (p : ProgD) (m : Int) (c : ConfD) : choicesTo p m c p.threads.length = choicesC p m c := rfl
end Go.Fw
namespace Go.Proofs.YtjjmdcnmeommbaaGreatDoor
open Go.Fw Go.RowKit
theorem machEnabled_fn (p : ProgD) (c : ConfD) (t i : Nat) (th : ThreadD) (s : StepD) (M : List Nat) (w0 : World) (cs xs : List Value) (hI : InP p M w0 cs) (hX : RdConf M w0 c xs) (hf : FitC p c) (he : noBuf c) (hxth : p.threads[t]? = some th) (hxs : th.steps[i]? = some s) :
 Does Tryz.prog 204 #[.agg cs.toArray, .agg xs.toArray, .int .i64 t, .int .i64 i] w0 fun v w' => v = .bool (enabledC p 0 c t s) ∧ Below w0.heap.size w0 w' := by
 obtain ⟨_, _, _, _, _, _, _, _, _, _, _, _, rfl, _, _, _, hTh, _, _, _, _, _, _, _, _⟩ := hI.rd.open_
 obtain ⟨_, _, _, _, _, _, _, _, _, rfl, hMem, hAt, _, _, hxa, hxb, _, _, _⟩ := hX.open_
 have S := St.refl w0
 have f2 := hf.nat
 have hp := hI.ok
 have ht := some_lt hxth
 have hi := some_lt hxs
 have hto := hp.thread hxth
 have hso := hto.steps s (some_mem hxs)
 have hk6 : 6 ≤ s.kind → 0 ≤ s.target ∧ s.target < p.threads.length := fun h => (hso.row.k6 h).1
 refine dnR Tryz.func204 rfl Tryz.ntmps204 rfl ?_
 refine wO0 rfl ⟨⟩ (o_boxa S (by conv => lhs; whnf) rfl ?_)
 intro g4 w4 S4 X4 G4
 refine o_boxa S4 (by conv => lhs; whnf) rfl ?_
 intro g5 w5 S5 X5 G5
 obtain ⟨_, b13, p13, _, hx13, hA13, _, _, hc13, hr13⟩ := RdS.get (hTh) (t) (by omega)
 obtain rfl := Option.some.inj (hxth.symm.trans hx13)
 obtain ⟨_, _, _, _, _, _, _, _, _, _, _, _, rfl, _, _, _, hSt13, _, _, _, _, _, _, _, _, _⟩ := RThread.open_ hr13
 obtain ⟨_, b17, p17, _, hx17, hA17, _, hl17, hc17, hr17⟩ := RdS.get (hSt13) (i) (by omega)
 obtain rfl := Option.some.inj (hxs.symm.trans hx17)
 obtain ⟨_, _, _, _, _, _, rfl, ⟨_, _, _, _, _⟩, hG17, _, _, _⟩ := RStep.open_ hr17
 refine lO ((S5.k.a hc17).a hc13) [.o 1,.x b13 p13,.f 0 4,.x b17 p17,.v 1] rfl ⟨⟨rfl,hl17⟩,⟨hA17,by omega⟩,rfl,⟨hA13,by omega⟩,rfl,⟨⟩⟩ (o_alloc S5 zv_88 rfl rfl ?_)
 intro g9 w9 S9 X9 G9
 refine o_storeN (kk := 0) (vs := [_, _, _, _, _, _, _, _, _, _, _]) S9 sz_88 rfl rfl rfl rfl rfl rfl rfl ?_
 intro w1_10 S1_10 X1_10
 dsimp only [setsAt, List.set] at S1_10
 refine lC0 rfl ⟨⟩ (W_draw fmx [0, 1, 2, 3, 4, 5, 6, 7, 8, 9, 10, 11, 12, 13, 14, 15, 16, 17] [] [] (by kernel_rfl) rfl (Cl _ _ _ _) (Cl.start S1_10) ?_)
 obtain ⟨a, b22, p22, _, hxa, hA22, _, _, hc22, hr22⟩ := RdS.get (hAt) (t) (by omega)
 obtain ⟨rfl, _⟩ := id hr22
 refine qB (S1_10.q.a hc22) [.o 1,.x b22 p22,.f 0 0,.o 0] rfl ⟨rfl,rfl,⟨hA22,by omega⟩,rfl,⟨⟩⟩ (fun h26 => ?_) fun h26 => ?_
 ·refine qD rfl ⟨⟩ ?_
  rintro wR2 ⟨SR2, XR2⟩
  refine lT rfl ⟨⟩ rfl ⟨congrArg Value.bool ?_, SR2.fin⟩
  rw [enabledC0 he, getD_some hxa]
  simp [h26]; done
 refine qO S1_10.q [.o 0,.o 1,.o 1] rfl ⟨rfl,rfl,rfl,⟨⟩⟩ (q_callr has_23 rfl rfl (fun w1 S1 X1 => eval_fn s.guard M _ _ _ _ c.mem c.mem (RdE.keep (S1.keep0 M) _ _ hG17) (hI.keep (S1.keep0 M)).msk (hMem.keep (S1.keep0 M)) (hMem.keep (S1.keep0 M))) ?_)
 refine qB0 rfl ⟨⟩ (fun h35 => ?_) fun h35 => ?_
 ·refine qD rfl ⟨⟩ ?_
  rintro wR2 ⟨SR2, XR2⟩
  refine lT rfl ⟨⟩ rfl ⟨congrArg Value.bool ?_, SR2.fin⟩
  rw [enabledC0 he, getD_some hxa]
  simp [h26, h35]; done
 refine qD rfl ⟨⟩ ?_
 rintro wR2 ⟨SR2, XR2⟩
 refine lB SR2.k [.o 0] rfl ⟨rfl,⟨⟩⟩ (fun h40 => ?_) fun h40 => ?_
 ·have q6 := hk6 (by omega)
  obtain ⟨b, b45, p45, _, hxb, hA45, _, _, hc45, hr45⟩ := RdS.get (hAt) (s.target.toNat) (by omega)
  obtain ⟨rfl, _⟩ := id hr45
  refine lB (SR2.k.a hc45) [.o 1,.o 0,.x b45 p45,.f 0 0] rfl ⟨rfl,⟨hA45,by omega⟩,rfl,rfl,⟨⟩⟩ (fun h47 => ?_) fun h47 => ?_
  ·refine lT rfl ⟨⟩ rfl ⟨congrArg Value.bool ?_, SR2.fin⟩
   rw [enabledC0 he, getD_some hxa]
   simp [h26, h35, h40, hxb, h47]; done
  refine lT rfl ⟨⟩ rfl ⟨congrArg Value.bool ?_, SR2.fin⟩
  rw [enabledC0 he, getD_some hxa]
  simp [h26, h35, h40, hxb, h47]; done
 refine lB0 rfl ⟨⟩ (fun h49 => ?_) fun h49 => ?_
 ·refine lC0 rfl ⟨⟩ (W_draw fmx [0, 1, 2, 3, 4, 5, 6, 7, 8, 9, 10, 11, 12, 13, 14, 15] [] [] (by kernel_rfl) rfl (Cl _ _ _ _) (Cl.start SR2) ?_)
  have q6 := hk6 (by omega)
  obtain ⟨b, b54, p54, _, hxb, hA54, _, _, hc54, hr54⟩ := RdS.get (hAt) (s.target.toNat) (by omega)
  obtain ⟨rfl, _⟩ := id hr54
  obtain ⟨_, b60, p60, _, hxu, hA60, _, _, hc60, hr60⟩ := RdS.get (hTh) (s.target.toNat) (by omega)
  obtain ⟨_, _, _, _, _, _, _, _, _, _, _, _, rfl, _, _, _, _, _, _, _, _, _, _, _, _, _⟩ := RThread.open_ hr60
  have q7 := (hp.thread hxu).points
  refine qB ((SR2.q.a hc60).a hc54) [.o 1,.o 0,.x b54 p54,.f 0 0,.o 2,.o 0,.x b60 p60,.f 1 1] rfl ⟨by omega,rfl,⟨hA60,by omega⟩,rfl,rfl,rfl,⟨hA54,by omega⟩,rfl,rfl,⟨⟩⟩ (fun h64 => ?_) fun h64 => ?_
  ·refine qD rfl ⟨⟩ ?_
   rintro wR8 ⟨SR8, XR8⟩
   refine lT rfl ⟨⟩ rfl ⟨congrArg Value.bool ?_, SR8.fin⟩
   rw [enabledC0 he, getD_some hxa]
   simp [h26, h35, h49, hxb, hxu, h64]; done
  refine qD rfl ⟨⟩ ?_
  rintro wR8 ⟨SR8, XR8⟩
  refine lT rfl ⟨⟩ rfl ⟨congrArg Value.bool ?_, SR8.fin⟩
  rw [enabledC0 he, getD_some hxa]
  simp [h26, h35, h49, hxb, hxu, h64]; done
 refine lT rfl ⟨⟩ rfl ⟨congrArg Value.bool ?_, SR2.fin⟩
 rw [enabledC0 he, getD_some hxa]
 simp [h26, h35, h40, h49]; done
theorem machChoices_fn (p : ProgD) (c : ConfD) (M : List Nat) (w0 : World) (cs xs : List Value) (hI : InP p M w0 cs) (hX : RdConf M w0 c xs) (hf : FitC p c) (he : noBuf c) :
 Does Tryz.prog 170 #[.agg cs.toArray, .agg xs.toArray] w0 fun v w' => RdCh M w' v (choicesC p 0 c) ∧ Below w0.heap.size w0 w' := by
 obtain ⟨Ac, nc, cc, Am, nm, cm, Al, nl, cl, At, nt, ct, rfl, _, _, _, hTh, _, _, _, _, _, _, _, _⟩ := hI.rd.open_
 obtain ⟨Xm, xm, ym, Xa, xa, ya, Xb, xb, yb, rfl, _, _, _, _, _, _, _, _, _⟩ := hX.open_
 have S := (St.refl w0).nilEnt 68
 have hp := hI.ok
 have n2 := hp.nthreads
 refine dnR Tryz.func170 rfl Tryz.ntmps170 rfl ?_
 refine wO0 rfl ⟨⟩ (o_boxa S (by conv => lhs; whnf) rfl ?_)
 intro g2 w2 S2 X2 G2
 refine o_boxa S2 (by conv => lhs; whnf) rfl ?_
 intro g3 w3 S3 X3 G3
 refine lC S3.k [.o 1] rfl ⟨rfl,⟨⟩⟩ (wL (fun μk D ε w => D = [] ∧ ∃ k : Nat, ∃ G : Option Nat, ∃ cs' : List Value, ∃ v : Value, (k + μk = (p.threads.length)) ∧ (RowR (fun _ _ => RChoice) 3 [] w0 G cs' v (choicesTo p 0 c k)) ∧ St [] w0 w [(some g3, 52, [.slice Xm xm ym, .slice Xa xa ya, .slice Xb xb yb]), (some g2, 27, [.slice Ac nc cc, .slice Am nm cm, .slice Al nl cl, .slice At nt ct]), (G, 68, cs')] ∧ Sl ε [(2, .pointer (some ⟨g2, 0, none⟩)), (3, .pointer (some ⟨g3, 0, none⟩)), (5, v), (10, .int .i64 nt), (11, .int .i64 k)]) (μ := (p.threads.length)) ⟨rfl, 0, none, [], .slice none 0 0, by omega, RowR.nil, S3, rfl⟩ ?_)
 rintro μk D ε w ⟨rfl, k, G, cs', v, _, hrow, S, eZ⟩
 refine wK eZ (wB0 rfl ⟨⟩ (fun h12 => ?_) fun h12 => ?_)
 ·obtain ⟨th, b17, p17, _, hxth, hA17, _, _, hc17, hr17⟩ := RdS.get (hTh) (k) (by omega)
  obtain ⟨_, _, _, _, _, _, _, ns17, _, _, _, _, rfl, _, _, _, _, _, _, _, _, _, _, _, _, _⟩ := RThread.open_ hr17
  have hns := (hp.thread hxth).nsteps
  refine lC (S.k.a hc17) [.o 1,.x b17 p17,.f 0 4] rfl ⟨rfl,⟨hA17,by omega⟩,rfl,⟨⟩⟩ (wL (fun μj D ε w => D = [] ∧ ∃ j : Nat, ∃ G2 : Option Nat, ∃ cs2 : List Value, ∃ v2 : Value, (j + μj = (th.steps.length)) ∧ (RowR (fun _ _ => RChoice) 3 [] w0 G2 cs2 v2 (choicesTo p 0 c k ++ stepsTo p 0 c k j)) ∧ St [] w0 w [(some g3, 52, [.slice Xm xm ym, .slice Xa xa ya, .slice Xb xb yb]), (some g2, 27, [.slice Ac nc cc, .slice Am nm cm, .slice Al nl cl, .slice At nt ct]), (G2, 68, cs2)] ∧ Sl ε [(2, .pointer (some ⟨g2, 0, none⟩)), (3, .pointer (some ⟨g3, 0, none⟩)), (5, v2), (6, .int .i64 k), (10, .int .i64 nt), (11, .int .i64 k), (20, .int .i64 ns17), (21, .int .i64 j)]) (μ := (th.steps.length)) ⟨rfl, 0, G, cs', v, by omega, by simpa [stepsTo] using hrow, S, rfl⟩ ?_)
  rintro μj D ε w ⟨rfl, j, G2, cs2, v2, _, hrow2, S, eZ⟩
  refine wK eZ (wB0 rfl ⟨⟩ (fun h22 => ?_) fun h22 => ?_)
  ·refine lO S.k [.w 1,.w 0] rfl ⟨⟨rfl,rfl⟩,⟨rfl,rfl⟩,⟨⟩⟩ ?_
   obtain ⟨s, hxs⟩ : ∃ s, th.steps[j]? = some s := ⟨th.steps[j]'(by omega), List.getElem?_eq_getElem _⟩
   refine o_callb S has_204 rfl rfl (machEnabled_fn p c k j th s M _ _ _ (hI.keep (S.keep0 M)) (hX.keep (S.keep0 M)) hf he hxth hxs) (fun h28 w28 S28 X28 => ?_) (fun h28 w28 S28 X28 => ?_)
   ·refine lOn 4 S28.k [] rfl ⟨⟩ (o_move (by conv => lhs; whnf) rfl ?_)
    refine lO0 rfl ⟨⟩ (o_build bld_68 (vs := [(0, .int .i64 _), (1, .int .i64 _)]) (cs := [_, _, _]) rfl rfl rfl rfl ?_)
    refine o_buildSlice S28 slz_28 (vs := [.agg _]) (cs := [_, _, _]) (by rfl) rfl rfl rfl rfl rfl rfl ?_
    intro g33 w33 S33 X33 G33
    have l1 := choicesTo_len hp hf 0 k (by omega)
    have l2 := stepsTo_len p 0 c k j
    refine o_append1 law_choice (k := 3) (M2 := []) (e1 := ⟨k, j, 0⟩) S33 slz_28 (by decide) rfl hrow2 rfl rfl (S33.cells 0 rfl) (RChoice.of (by unfold i64; omega) (by unfold i64; omega) (by unfold i64; omega)) (by rw [List.length_append]; omega) rfl ?_
    intro v34 G34 cs34 w34 S34 hrow34 X34 F34
    refine o_assign (by conv => lhs; whnf) rfl ?_
    refine lP0 rfl ⟨by omega,⟨⟩⟩ ⟨μj - 1, by omega, rfl, (j + 1), (_), (_), (_), (by omega), ?_, S34.tail, rfl⟩
    rw [stepsTo_yes hxth hxs h28, ← List.append_assoc]; exact hrow34
   refine lP0 rfl ⟨by omega,⟨⟩⟩ ⟨μj - 1, by omega, rfl, (j + 1), (_), (_), (_), (by omega), ?_, S28, rfl⟩
   rw [stepsTo_no hxth hxs h28]; exact hrow2
  refine lP0 rfl ⟨by omega,⟨⟩⟩ ⟨μk - 1, by omega, rfl, (k + 1), (_), (_), (_), (by omega), ?_, S, rfl⟩
  rw [choicesTo_succ, choicesT_eq, stepsC_some hxth, he.getD]
  rw [show th.steps.length = j by omega]
  rw [show stepsTo p 0 c k j ++ commsTo 0 c k ([] : List EntryD).length = stepsTo p 0 c k j by simp [commsTo]]
  exact hrow2
 refine lOn 8 S.k [] rfl ⟨⟩ (o_move (by conv => lhs; whnf) rfl ?_)
 refine o_assign (by conv => lhs; whnf) rfl ?_
 refine lR0 rfl ⟨⟩ (ret_1 rfl (by conv => lhs; whnf) ?_)
 obtain rfl : k = p.threads.length := by omega
 have l1 := choicesTo_len hp hf 0 _ (Nat.le_refl _)
 rw [choicesTo_all] at l1
 exact ⟨RowR.rd (M := M) law_choice hrow S (k := 2) rfl (fun g hg => by subst hg; exact fresh_not hI.lt (S.new 2 rfl)) (by omega), S.fin⟩
end Go.Proofs.YtjjmdcnmeommbaaGreatDoor
namespace Go.Fw
open Go.RowKit
section
variable {P : Program} {r : Option Nat} {N : Nat} {D : List Deferred} {e : Env} {w w0 : World} {ops : Array Oper} {rest : List Oper} {K : List Deferred → Env → World → Prop} {L : List Ent} {M : List Nat}
variable {d : Nat} {t : TypeId} {p : String} {af : Array Edge} {x y : Operand}
theorem RdI.oneCells {M' : List Nat} {A : Option Addr} {m c : Nat} {l : List Int} (h : RdI M' w (.slice A m c) l) (hm : 0 < m) : ∃ b o, A = some ⟨b, o, none⟩ ∧ Cells w b o (l.map (Value.int .i64)) := by
 obtain ⟨_, _, _, _, h5⟩ := h.at
 obtain ⟨b, o, h6, _, h8⟩ := h5 hm
 refine ⟨b, o, h6, fun j v hj => ?_⟩
 rw [List.getElem?_map, Option.map_eq_some_iff] at hj
 obtain ⟨a, ha, rfl⟩ := hj
 obtain ⟨_, _, h10, h11⟩ := h8 j a ha
 rw [h11.1] at h10
 have := h10 0 _ rfl
 simpa using this
theorem o_copyI {ty el bytes k n c g tb : Nat} {z : Value} {A : Option Addr} {cs : List Value} {l : List Int} {M' : List Nat} (S : St M w0 w L) (hS : SlZ P ty el 1 z bytes) (hk : L[k]? = some (some g, tb, cs)) (hx : ev e x = .slice (some ⟨g, 0, none⟩) n n) (hy : ev e y = .slice A n c) (hcs : cs.length = n)
 (hR : RdI M' w (.slice A n c) l) (hd : Nat.ble (d + 1) N = true)
 (h : ∀ w1, St M w0 w1 (L.set k (some g, tb, l.map (Value.int .i64))) → Keep [g] w w1 → WL P r N ops rest K D (upd e d (.int .i64 n)) w1) :
 WL P r N ops (⟨some d, .call { callee := .builtin .copy, args := #[x, y], argTypes := #[ty, ty] }, t, p, af, none⟩ :: rest) K D e w := by
 obtain ⟨_, hi, _, hsz, _⟩ := hS.parts
 have hs1 : (P.info? el).map (·.size) = some 1 := by rw [hi]; simp [hsz]
 have hn : n = l.length := hR.len.1
 by_cases h0 : n = 0
 ·have e1 : l.map (Value.int .i64) = cs := by
   have a1 : l = [] := List.eq_nil_of_length_eq_zero (by omega)
   have a2 : cs = [] := List.eq_nil_of_length_eq_zero (by omega)
   rw [a1, a2]; rfl
  have hrun := run_copy_none (P := P) w ty ty t el (some ⟨g, 0, none⟩) A n n n c hS.und hs1 (by rw [h0]; rfl)
  have S' := S.setEnt k hk e1.symm
  refine WL_val (v := .int .i64 n) (w' := w) rfl rfl hd (by simp) ?_ (h w S' (Keep.refl _ _))
  subst h0
  simp [execOp, resolve, invoke, builtin, hx, hy, hrun, goInt]
 ·obtain ⟨b, o, rfl, hc⟩ := hR.oneCells (by omega)
  have hrun := run_copy_row (P := P) w ty ty t el g 0 n n ⟨b, o, none⟩ n c cs.toArray tb (l.map (Value.int .i64)) hS.und hs1 (S.blk k hk) (by simp [hn]) (fun j v hj => by rw [Addr.add_lit]; exact hc j v hj) (by simp; omega)
   (fun v hv => by obtain ⟨a, _, rfl⟩ := List.mem_map.1 hv; rfl)
  have e1 : (cs.toArray.toList.take 0 ++ l.map (Value.int .i64) ++ cs.toArray.toList.drop (0 + (l.map (Value.int .i64)).length)).toArray = (l.map (Value.int .i64)).toArray := by
   have : cs.length ≤ l.length := by omega
   simp [List.drop_of_length_le this]
  rw [e1] at hrun
  have hb : BelowB [g] w (w.setRow g (l.map (Value.int .i64)).toArray) := ⟨rfl, rfl, rfl, by simp [World.setRow], fun q hq hm => setRow_other w g q _ (by simpa using hm)⟩
  refine WL_val (v := .int .i64 n) rfl rfl hd (by simp) ?_ (h _ (S.changed1 k hk hb (setRow_heap w g _ _ tb _ (S.blk k hk))) ⟨hb.size, fun q hq hm => hb.block q hq hm⟩)
  rw [List.length_map, ← hn] at hrun
  simp [execOp, resolve, invoke, builtin, hx, hy, hrun, goInt]
def Eq3 (P : Program) (ty : TypeId) : Prop := P.eqGuardType P.depth ty = false ∧ ∀ (w : World) (a b c a' b' c' : Int),
 (binOp .eql ty (.agg #[.int .i64 a, .int .i64 b, .int .i64 c]) (.agg #[.int .i64 a', .int .i64 b', .int .i64 c'])).run P w = .ok (.bool (decide (a = a' ∧ b = b' ∧ c = c'))) w
theorem o_eql3 {ty : TypeId} {a b c a' b' c' : Int} (hE : Eq3 P ty) (hx : ev e x = .agg #[.int .i64 a, .int .i64 b, .int .i64 c]) (hy : ev e y = .agg #[.int .i64 a', .int .i64 b', .int .i64 c']) (hd : Nat.ble (d + 1) N = true)
 (h1 : a = a' ∧ b = b' ∧ c = c' → WL P r N ops rest K D (upd e d (.bool true)) w) (h2 : ¬ (a = a' ∧ b = b' ∧ c = c') → WL P r N ops rest K D (upd e d (.bool false)) w) {yt : TypeId} :
 WL P r N ops (⟨some d, .binOp .eql ty x y yt, t, p, af, none⟩ :: rest) K D e w := by
 by_cases hh : a = a' ∧ b = b' ∧ c = c'
 ·exact WL_val rfl rfl hd (by simp) (by simp only [execOp, hx, hy, Sem.run_bind, run_eqGuard_agg w _ _ _ _ _ _ hE.1, Result.andThen_ok, hE.2, Sem.run_pure, decide_eq_true hh]) (h1 hh)
 ·exact WL_val rfl rfl hd (by simp) (by simp only [execOp, hx, hy, Sem.run_bind, run_eqGuard_agg w _ _ _ _ _ _ hE.1, Result.andThen_ok, hE.2, Sem.run_pure, decide_eq_false hh]) (h2 hh)
end
end Go.Fw
namespace Go.Proofs.YtjjmdcnmeommbaaGreatDoor
open Go.Fw Go.RowKit
theorem eq_choice : Eq3 Tryz.prog 68 := by
 refine ⟨Tryz.eqGuardType68, fun w a b c a' b' c' => ?_⟩
 have ht : Tryz.prog.underlying 68 = some (.struct (Tryz.prog.fieldsOf 68)) := by unfold Program.fieldsOf; rw [Tryz.underlying68]
 have hag : ∀ w, (isAgg 3).run Tryz.prog w = .ok false w := fun w => by simp [isAgg, run_underlying Tryz.underlying3]
 rw [run_eql_struct, run_equalIn_struct w 9999 _ _ _ ht Tryz.stoodInHeld68]
 unfold Program.fieldsOf
 rw [Tryz.underlying68]
 by_cases h1 : a = a' <;> by_cases h2 : b = b' <;> by_cases h3 : c = c' <;> simp [Op.eqFields, part, hag, run_equalIn_int _ 9998 _ .i64 .i64 _ _ Tryz.underlying3, h1, h2, h3]
end Go.Proofs.YtjjmdcnmeommbaaGreatDoor
namespace Go.Proofs.YtjjmdcnmeommbaaGreatDoor
open Go.Fw Go.RowKit
theorem machExecute_fn (p : ProgD) (c : ConfD) (t i : Nat) (th : ThreadD) (s : StepD) (M : List Nat) (w0 : World) (cs xs : List Value) (hI : InP p M w0 cs) (hX : RdConf M w0 c xs) (hf : FitC p c) (he : noBuf c) (hxth : p.threads[t]? = some th) (hxs : th.steps[i]? = some s) (hf' : FitC p (doC p 0 c ⟨t, i, 0⟩)) :
 Does Tryz.prog 171 #[.agg cs.toArray, .agg xs.toArray, .agg #[.int .i64 t, .int .i64 i, .int .i64 0]] w0 fun v w' => (∃ ys, v = .agg ys.toArray ∧ RdConf M w' (doC p 0 c ⟨t, i, 0⟩) ys) ∧ Below w0.heap.size w0 w' := by
 obtain ⟨Ac, nc, cc, Am, nm, cm, Al, nl, cl, At, nt, ct, rfl, _, _, _, hTh, _, _, _, _, _, _, _, _⟩ := hI.rd.open_
 obtain ⟨Xm, xm, ym, Xa, xa, ya, Xb, xb, yb, rfl, hMem, hAt, _, hxm, hxa, hxb, b1, b2, b3⟩ := hX.open_
 have S := St.refl w0
 have f1 := hf.mem.len
 have f2 := hf.nat
 have f3 := hf.nbuf
 have hp := hI.ok
 have n1 := hp.ncells
 have n2 := hp.nthreads
 have ht := some_lt hxth
 have hi := some_lt hxs
 have hso := (hp.thread hxth).steps s (some_mem hxs)
 have hk6 : 6 ≤ s.kind → 0 ≤ s.target ∧ s.target < p.threads.length := fun h => (hso.row.k6 h).1
 refine dnR Tryz.func171 rfl Tryz.ntmps171 rfl ?_
 refine wO0 rfl ⟨⟩ (o_boxa S (by conv => lhs; whnf) rfl ?_)
 intro g3 w3 S3 X3 G3
 refine o_boxa S3 (by conv => lhs; whnf) rfl ?_
 intro g4 w4 S4 X4 G4
 refine o_boxa S4 (by conv => lhs; whnf) rfl ?_
 intro g5 w5 S5 X5 G5
 refine o_alloc S5 zv_52 rfl rfl ?_
 intro g6 w6 S6 X6 G6
 refine lC0 rfl ⟨⟩ (W_flow fmx [0, 1, 2, 3, 4, 5, 6, 7, 8, 9, 10, 11, 12, 13] 14 (by kernel_rfl) (by kernel_rfl) (Cl _ _ _ _) (Cl.start S6) _ rfl ?_)
 refine FL_q rfl rfl ?_
 refine q_fieldAddr fa_52_0 rfl rfl ?_
 refine QL_nil ?_
 refine FL_q rfl rfl ?_
 refine q_load one_49 rfl (fun w1 hw => by exact hw.1.cell 2 rfl rfl) rfl ?_
 refine QL_nil ?_
 refine FL_len rfl slz_49.slT rfl rfl ?_
 refine FL_make (n := xm) (c := xm) rfl rfl rfl slz_49 rfl rfl (by omega) (by omega) (by omega) rfl ?_
 intro g14 G14 ng14
 refine FL_q rfl rfl ?_
 refine q_fieldAddr fa_52_1 rfl rfl ?_
 refine QL_nil ?_
 refine FL_q rfl rfl ?_
 refine q_load one_49 rfl (fun w1 hw => by exact hw.1.cell 2 rfl rfl) rfl ?_
 refine QL_nil ?_
 refine FL_len rfl slz_49.slT rfl rfl ?_
 refine FL_make (n := xa) (c := xa) rfl rfl rfl slz_49 rfl rfl (by omega) (by omega) (by omega) rfl ?_
 intro g18 G18 ng18
 refine FL_q rfl rfl ?_
 refine q_fieldAddr fa_52_2 rfl rfl ?_
 refine QL_nil ?_
 refine FL_q rfl rfl ?_
 refine q_load one_50 rfl (fun w1 hw => by exact hw.1.cell 2 rfl rfl) rfl ?_
 refine QL_nil ?_
 refine FL_len rfl slz_50.slT rfl rfl ?_
 refine FL_make (n := xb) (c := xb) rfl rfl rfl slz_50 rfl rfl (by omega) (by omega) (by omega) rfl ?_
 intro g22 G22 ng22
 refine FL_q rfl rfl ?_
 refine q_build bld_52 (vs := [(0, .slice _ _ _), (1, .slice _ _ _), (2, .slice _ _ _)]) (cs := [_, _, _]) rfl rfl rfl rfl ?_
 refine QL_nil ?_
 refine FL_alloc rfl rfl rfl zv_52 rfl ?_
 intro g7 G7 ng7
 refine FL_nil ?_
 rintro wR1 ⟨SR1, _⟩ ⟨⟨⟨⟨-, hg14⟩, hg18⟩, hg22⟩, hg7⟩
 clear ng14
 replace SR1 := SR1.push_new S6 hg14 G14
 replace SR1 := SR1.push_more (L1 := [_]) S6 hg18 G18 (by simpa [eq_comm] using ng18)
 replace SR1 := SR1.push_more (L1 := [_, _]) S6 hg22 G22 (by simpa [eq_comm] using ng22)
 replace SR1 := SR1.push_more (L1 := [_, _, _]) S6 hg7 G7 (by simpa [eq_comm] using ng7)
 refine o_storeN (kk := 0) (vs := [_, _, _]) SR1 sz_52 rfl rfl rfl rfl rfl rfl rfl ?_
 intro w1_14 S1_14 X1_14
 dsimp only [setsAt, List.set] at S1_14
 refine WL_nil ⟨rfl, ?_⟩
 refine fO S1_14.k [.o 0,.o 6] rfl ⟨rfl,rfl,⟨⟩⟩ (o_copyI (k := 3) S1_14 slz_49 rfl rfl rfl (by simp) (hMem.keep (S1_14.keep0 M)) rfl ?_)
 intro w28 S28 X28
 refine lO S28.k [.o 0,.o 6] rfl ⟨rfl,rfl,⟨⟩⟩ (o_copyI (k := 2) S28 slz_49 rfl rfl rfl (by simp) (hAt.keep (S28.keep0 M)) rfl ?_)
 intro w33 S33 X33
 refine lC0 rfl ⟨⟩ (W_draw fmx [0, 1, 2, 3, 4, 5, 6, 7, 8, 9, 10] [11] [12] (by kernel_rfl) rfl (Cl _ _ _ _) (Cl.start S33) ?_)
 obtain ⟨_, b38, p38, _, hx38, hA38, _, _, hc38, hr38⟩ := RdS.get (hTh) (t) (by omega)
 obtain rfl := Option.some.inj (hxth.symm.trans hx38)
 obtain ⟨_, _, _, _, _, _, _, _, _, _, _, _, rfl, _, _, _, hSt38, _, _, _, _, _, _, _, _, _⟩ := RThread.open_ hr38
 obtain ⟨_, b43, p43, _, hx43, hA43, _, hl43, hc43, hr43⟩ := RdS.get (hSt38) (i) (by omega)
 obtain rfl := Option.some.inj (hxs.symm.trans hx43)
 obtain ⟨Ag43, ng43, cg43, As43, ns43, cs43, rfl, ⟨_, _, _, _, _⟩, _, hSet43, _, _⟩ := RStep.open_ hr43
 refine qN ((S33.q.a hc43).a hc38) [.o 7,.o 5,.x b38 p38,.f 0 4,.o 5,.x b43 p43,.v 1] rfl ⟨⟨rfl,hl43⟩,⟨hA43,by omega⟩,rfl,rfl,⟨hA38,by omega⟩,rfl,rfl,⟨⟩⟩ (BK_of ?_)
 refine BKL_alloc rfl rfl zv_88 rfl ?_
 refine BKL_nil ?_
 rintro wR4 ⟨SR4, _⟩
 intro g8 hg8 G8 ng8
 dsimp only [upds]
 clear ng8
 replace SR4 := SR4.push_new S33 hg8 G8
 refine o_storeN (kk := 0) (vs := [_, _, _, _, _, _, _, _, _, _, _]) SR4 sz_88 rfl rfl rfl rfl rfl rfl rfl ?_
 intro w4_12 S4_12 X4_12
 dsimp only [setsAt, List.set] at S4_12
 refine lC S4_12.k [.o 0] rfl ⟨rfl,⟨⟩⟩ (wL (fun μk D ε w => D = [] ∧ ∃ k : Nat, (k + μk = (s.set.length)) ∧ St [] w0 w [(some g8, 88, [.int .i64 s.kind, .int .i64 s.frm, .int .i64 s.to, .int .i64 s.guard.op, .int .i64 s.guard.w, .int .i64 s.guard.n, .slice Ag43 ng43 cg43, .slice As43 ns43 cs43, .bool s.release, .int .i64 s.target, .int .i64 s.module_]), (some g7, 52, [.slice (some ⟨g14, 0, none⟩) xm xm, .slice (some ⟨g18, 0, none⟩) xa xa, .slice (some ⟨g22, 0, none⟩) xb xb]), (some g22, 118, List.replicate xb (.slice none 0 0)), (some g18, 3, c.at_.map (Value.int .i64)), (some g14, 3, (setC (s.set.take k) c.mem c.mem).map (Value.int .i64)), (some g6, 52, [.slice none 0 0, .slice none 0 0, .slice none 0 0]), (some g5, 68, [.int .i64 t, .int .i64 i, .int .i64 0]), (some g4, 52, [.slice Xm xm ym, .slice Xa xa ya, .slice Xb xb yb]), (some g3, 27, [.slice Ac nc cc, .slice Am nm cm, .slice Al nl cl, .slice At nt ct])] ∧ Sl ε [(4, .pointer (some ⟨g4, 0, none⟩)), (5, .pointer (some ⟨g5, 0, none⟩)), (6, .pointer (some ⟨g6, 0, none⟩)), (7, .pointer (some ⟨g7, 0, none⟩)), (8, .pointer (some ⟨g8, 0, none⟩)), (46, .slice As43 ns43 cs43), (47, .int .i64 ns43), (48, .int .i64 k)]) (μ := (s.set.length)) ⟨rfl, 0, by omega, S4_12, rfl⟩ ?_)
 rintro μk D ε w ⟨rfl, k, _, S, eZ⟩
 refine wK eZ (wB0 rfl ⟨⟩ (fun h49 => ?_) fun h49 => ?_)
 ·obtain ⟨a, b50, p50, _, hxa, hA50, _, hl50, hc50, hr50⟩ := RdS.get (hSet43) (k) (by omega)
  obtain ⟨_, _, _, rfl, _, hE50⟩ := RAssign.open_ hr50
  have q1 := (hso.set a (some_mem hxa)).1
  unfold isIn at q1
  refine lO (S.k.a hc50) [.x b50 p50,.v 0] rfl ⟨⟨rfl,hl50⟩,⟨hA50,by omega⟩,⟨⟩⟩ (o_alloc S zv_98 rfl rfl ?_)
  intro g10 w10 S10 X10 G10
  refine o_storeN (kk := 0) (vs := [_, _, _, _, _]) S10 sz_98 rfl rfl rfl rfl rfl rfl rfl ?_
  intro w7_3 S7_3 X7_3
  dsimp only [setsAt, List.set] at S7_3
  refine lC0 rfl ⟨⟩ (W_draw fmx [0, 1, 2, 3, 4, 5, 6, 7, 8, 9, 10, 11] [] [12] (by kernel_rfl) rfl (Cl _ _ _ _) (Cl.start S7_3) ?_)
  refine qO S7_3.q [.o 2,.o 0,.o 0,.o 8,.o 8] rfl ⟨rfl,rfl,rfl,rfl,rfl,⟨⟩⟩ (q_callr has_23 rfl rfl (fun w1 S1 X1 => eval_fn a.to M _ _ _ _ c.mem c.mem (RdE.keep (S1.keep0 M) _ _ hE50) (hI.keep (S1.keep0 M)).msk (hMem.keep (S1.keep0 M)) (hMem.keep (S1.keep0 M))) ?_)
  refine q_indexAddr slz_49.slT rfl (by rfl) rfl (by omega) (by omega) rfl ?_
  refine qD rfl ⟨⟩ ?_
  rintro wR8 ⟨SR8, _⟩
  first | refine o_store (kk := 5) SR8 sz_3 rfl (by conv => lhs; whnf) rfl rfl (by (simp; omega)) ?_
  intro w8_12 S8_12 X8_12
  refine lP0 rfl ⟨by omega,⟨⟩⟩ ⟨μk - 1, by omega, rfl, (k + 1), (by omega), (S8_12.tail.setEnt 4 rfl (setC_next hxa (by simp))), rfl⟩
 refine lO S.k [.o 1,.o 6,.o 0] rfl ⟨rfl,rfl,rfl,⟨⟩⟩ (o_indexAddr slz_49.slT rfl (by rfl) rfl (by omega) (by omega) rfl ?_)
 first | refine o_store (kk := 3) S sz_3 rfl (by conv => lhs; whnf) rfl rfl (by (simp; omega)) ?_
 intro w10_7 S10_7 X10_7
 refine lB S10_7.k [.o 0] rfl ⟨rfl,⟨⟩⟩ (fun h74 => ?_) fun h74 => ?_
 ·refine lO S10_7.k [.o 1,.o 0] rfl ⟨rfl,rfl,⟨⟩⟩ ?_
  have q6 := hk6 (by omega)
  refine o_indexAddr slz_49.slT rfl (by rfl) rfl (by omega) (by omega) rfl ?_
  first | refine o_store (kk := 3) S10_7 sz_3 rfl (by conv => lhs; whnf) rfl rfl (by (simp; omega)) ?_
  intro w12_5 S12_5 X12_5
  refine lO S12_5.k [.w 1] rfl ⟨⟨rfl,rfl⟩,⟨⟩⟩ ?_
  first | refine o_storeN (kk := 5) (vs := [_, _, _]) S12_5 sz_52 rfl rfl rfl rfl rfl rfl rfl ?_
  intro w13_1 S13_1 X13_1
  dsimp only [setsAt, List.set] at S13_1
  refine lR0 rfl ⟨⟩ ?_
  have SF := (S13_1.setEnt 3 rfl (show _ = (atC c t s).map (Value.int .i64) by simp [atC, h74, List.map_set])).setEnt 4 rfl (show _ = (setC s.set c.mem c.mem).map (Value.int .i64) by rw [List.take_of_length_le (by omega)])
  rw [doC0 he hxth hxs] at hf' ⊢
  exact ret_cell1 (n := 3) rfl many_52 rfl (SF.cells 5 rfl) rfl ⟨⟨_, rfl, _, _, _, rfl, SF.rdInts 4 rfl (fresh_not hI.lt (SF.new 4 rfl)) (by simp [hxm]) b1 (mem_i64 hp hf'.mem), SF.rdInts 3 rfl (fresh_not hI.lt (SF.new 3 rfl)) (by rw [atC_len]; exact hxa) b2 (at_i64 hp hf'), SF.rdBufs 2 rfl (fresh_not hI.lt (SF.new 2 rfl)) hxb b3 he⟩, SF.fin⟩
 refine lO S10_7.k [.w 1] rfl ⟨⟨rfl,rfl⟩,⟨⟩⟩ ?_
 first | refine o_storeN (kk := 5) (vs := [_, _, _]) S10_7 sz_52 rfl rfl rfl rfl rfl rfl rfl ?_
 intro w13_1 S13_1 X13_1
 dsimp only [setsAt, List.set] at S13_1
 refine lR0 rfl ⟨⟩ ?_
 have SF := (S13_1.setEnt 3 rfl (show _ = (atC c t s).map (Value.int .i64) by simp [atC, h74, List.map_set])).setEnt 4 rfl (show _ = (setC s.set c.mem c.mem).map (Value.int .i64) by rw [List.take_of_length_le (by omega)])
 rw [doC0 he hxth hxs] at hf' ⊢
 exact ret_cell1 (n := 3) rfl many_52 rfl (SF.cells 5 rfl) rfl ⟨⟨_, rfl, _, _, _, rfl, SF.rdInts 4 rfl (fresh_not hI.lt (SF.new 4 rfl)) (by simp [hxm]) b1 (mem_i64 hp hf'.mem), SF.rdInts 3 rfl (fresh_not hI.lt (SF.new 3 rfl)) (by rw [atC_len]; exact hxa) b2 (at_i64 hp hf'), SF.rdBufs 2 rfl (fresh_not hI.lt (SF.new 2 rfl)) hxb b3 he⟩, SF.fin⟩
theorem doC_in {p : ProgD} {m : Int} {c : ConfD} (he : noBuf c) {x : ChoiceD} (hx : x ∈ choicesC p m c) : ∃ (t i : Nat) (th : ThreadD) (s : StepD), x = ⟨t, i, 0⟩ ∧ p.threads[t]? = some th ∧ th.steps[i]? = some s ∧ enabledC p m c t s = true := by
 obtain ⟨t, ht, h | h⟩ := mem_choices.1 hx
 ·obtain ⟨i, s, hs, he, rfl⟩ := h
  have hth : p.threads[t]? = some p.threads[t] := List.getElem?_eq_getElem ht
  rw [stepsC_some hth] at hs
  exact ⟨t, i, _, s, rfl, hth, hs, he⟩
 ·obtain ⟨i, h1, -⟩ := h
  rw [he.getD] at h1; simp at h1
theorem machNext_fn (p : ProgD) (c : ConfD) (x : ChoiceD) (M : List Nat) (w0 : World) (cs xs : List Value) (hI : InP p M w0 cs) (hX : RdConf M w0 c xs) (hf : FitC p c) (he : noBuf c) (hx : x ∈ choicesC p 0 c) :
 Does Tryz.prog 135 #[.agg cs.toArray, .agg xs.toArray, .agg #[.int .i64 x.thread, .int .i64 x.step, .int .i64 x.cell]] w0 fun v w' => (∃ ys, v = .tuple #[.agg ys.toArray, .int .i64 0] ∧ RdConf M w' (doC p 0 c x) ys) ∧ Below w0.heap.size w0 w' := by
 obtain ⟨t, i, th, s, rfl, hxth, hxs, _⟩ := doC_in he hx
 have hf' := fit_do hI.ok hf hx
 obtain ⟨Ac, nc, cc, Am, nm, cm, Al, nl, cl, At, nt, ct, rfl, _, _, _, _, _, _, _, _, _, _, _, _⟩ := hI.rd.open_
 obtain ⟨Xm, xm, ym, Xa, xa, ya, Xb, xb, yb, rfl, _, _, _, _, _, _, _, _, _⟩ := hX.open_
 have S := St.refl w0
 refine dnR Tryz.func135 rfl Tryz.ntmps135 rfl ?_
 refine wO0 rfl ⟨⟩ (o_boxa S (by conv => lhs; whnf) rfl ?_)
 intro g3 w3 S3 X3 G3
 refine o_boxa S3 (by conv => lhs; whnf) rfl ?_
 intro g4 w4 S4 X4 G4
 refine o_boxa S4 (by conv => lhs; whnf) rfl ?_
 intro g5 w5 S5 X5 G5
 refine o_alloc S5 zv_52 rfl rfl ?_
 intro g6 w6 S6 X6 G6
 refine lO S6.k [.w 3] rfl ⟨⟨rfl,rfl⟩,⟨⟩⟩ (o_callr S6 has_134 rfl rfl (machValid_fn p M _ _ (hI.keep (S6.keep0 M))) ?_)
 intro w11 S11 X11
 refine lO S11.k [.w 3,.w 2] rfl ⟨⟨rfl,rfl⟩,⟨rfl,rfl⟩,⟨⟩⟩ (o_callr S11 has_169 rfl rfl (machFits_fn p c M _ _ _ (hI.keep (S11.keep0 M)) (hX.keep (S11.keep0 M)) hf he) ?_)
 intro w16 S16 X16
 refine lO S16.k [.w 3,.w 2] rfl ⟨⟨rfl,rfl⟩,⟨rfl,rfl⟩,⟨⟩⟩ (o_calln S16 has_170 rfl rfl (machChoices_fn p c M _ _ _ (hI.keep (S16.keep0 M)) (hX.keep (S16.keep0 M)) hf he) ?_)
 rintro v22 w22 hr S22 X22
 obtain ⟨Ar, nr, cr, rfl⟩ := hr.form
 obtain ⟨_, -, _⟩ := hr.len
 have K22 := Keep.refl [] w22
 refine lC0 rfl ⟨⟩ (wL (fun μk D ε w => D = [] ∧ ∃ k : Nat, (k + μk = ((choicesC p 0 c).length)) ∧ (Keep [] w22 w) ∧ (AllTo (choicesC p 0 c) k (fun y => y ≠ ⟨t, i, 0⟩)) ∧ St [] w0 w [(some g6, 52, [.slice none 0 0, .slice none 0 0, .slice none 0 0]), (some g5, 68, [.int .i64 t, .int .i64 i, .int .i64 0]), (some g4, 52, [.slice Xm xm ym, .slice Xa xa ya, .slice Xb xb yb]), (some g3, 27, [.slice Ac nc cc, .slice Am nm cm, .slice Al nl cl, .slice At nt ct])] ∧ Sl ε [(3, .pointer (some ⟨g3, 0, none⟩)), (4, .pointer (some ⟨g4, 0, none⟩)), (5, .pointer (some ⟨g5, 0, none⟩)), (6, .pointer (some ⟨g6, 0, none⟩)), (22, .slice Ar nr cr), (23, .int .i64 nr), (24, .int .i64 k)]) (μ := ((choicesC p 0 c).length)) ⟨rfl, 0, by omega, K22, AllTo.zero, S22, rfl⟩ ?_)
 rintro μk D ε w ⟨rfl, k, _, K22, hs, S, eZ⟩
 refine wK eZ (wB0 rfl ⟨⟩ (fun h25 => ?_) fun h25 => ?_)
 ·obtain ⟨y, b26, p26, _, hxy, hA26, _, hl26, hc26, hr26⟩ := RdS.get ((hr.keep K22.of_nil)) (k) (by omega)
  obtain ⟨rfl, _, _, _⟩ := id hr26
  refine lO (S.k.b hc26) [.x b26 p26,.v 0] rfl ⟨⟨rfl,hl26⟩,⟨hA26,by omega⟩,⟨⟩⟩ (o_alloc S zv_68 rfl rfl ?_)
  intro g9 w9 S9 X9 G9
  have GK229 := Nat.le_trans K22.size G9
  replace K22 := K22.trans X9
  refine o_storeN (kk := 0) (vs := [_, _, _]) S9 sz_68 rfl rfl rfl rfl rfl rfl rfl ?_
  intro w5_3 S5_3 X5_3
  dsimp only [setsAt, List.set] at S5_3
  replace K22 := K22.fresh X5_3 (by first | exact GK229)
  refine lOn 6 S5_3.k [.w 2,.w 0] rfl ⟨⟨rfl,by rfl⟩,⟨rfl,rfl⟩,⟨⟩⟩ (o_eql3 eq_choice rfl rfl rfl (fun h30 => ?_) fun h30 => ?_)
  ·refine lO S5_3.k [.w 4,.w 3,.w 2] rfl ⟨⟨rfl,rfl⟩,⟨rfl,rfl⟩,⟨rfl,rfl⟩,⟨⟩⟩ (o_calln S5_3 has_171 rfl rfl (machExecute_fn p c t i th s (g6 :: M) _ _ _ (hI.add S5_3 (k := 1) rfl) (RdConf.add hX S5_3 (k := 1) rfl) hf he hxth hxs hf') ?_)
   rintro v34 w34 ⟨ys, rfl, hy⟩ S34 X34
   obtain ⟨_, _, _, _, _, _, _, _, _, rfl, -⟩ := hy.open_
   first | refine o_storeN (kk := 1) (vs := [_, _, _]) S34 sz_52 rfl rfl rfl rfl rfl rfl rfl ?_
   intro w7_4 S7_4 X7_4
   dsimp only [setsAt, List.set] at S7_4
   replace hy := hy.keep (X7_4.mono (by simp))
   exact lR0 rfl ⟨⟩ (ret_cell_tmp (n := 3) rfl many_52 rfl (S7_4.cells 1 rfl) rfl rfl ⟨⟨_, rfl, hy.less (fun g hg => List.mem_cons_of_mem _ hg)⟩, S7_4.fin⟩)
  refine lP0 rfl ⟨by omega,⟨⟩⟩ ?_
  refine ⟨μk - 1, by omega, rfl, (k + 1), (by omega), (K22), (hs.succ hxy (fun h => h30 (by rw [h]; exact ⟨rfl, rfl, rfl⟩))), S5_3.tail, rfl⟩
 refine lO0 rfl ⟨⟩ (o_build bld_52 (vs := []) (cs := [_, _, _]) rfl rfl rfl rfl ?_)
 refine o_storeN (kk := 0) (vs := [_, _, _]) S sz_52 rfl rfl rfl rfl rfl rfl rfl ?_
 intro w9_1 S9_1 X9_1
 dsimp only [setsAt, List.set] at S9_1
 exact lR0 rfl ⟨⟩ (absurd rfl (hs.all (by omega) _ hx))
end Go.Proofs.YtjjmdcnmeommbaaGreatDoor
namespace Go.Fw
open Go.RowKit
theorem RdS.take {α : Type} {M : List Nat} {w : World} {size : Nat} {R : List Value → α → Prop} {A : Option Addr} {n c : Nat} {l : List α} (h : RdS M w size R (.slice A n c) l) (i : Nat) (hi : i ≤ n) : RdS M w size R (.slice A i c) (l.take i) := by
 obtain ⟨_, _, _, he, _, _, h3, _, h5⟩ := h
 cases he
 refine ⟨_, _, _, rfl, by rw [List.length_take]; omega, by omega, h3, by omega, fun h0 => ?_⟩
 obtain ⟨b, o, hA, hb, hel⟩ := h5 (by omega)
 refine ⟨b, o, hA, hb, fun j x hx => hel j x ?_⟩
 rw [List.getElem?_take] at hx
 split at hx
 ·exact hx
 ·cases hx
theorem not_take {l : List Int} (h : l.Nodup) {k : Nat} {x : Int} (hx : l[k]? = some x) : x ∉ l.take k := fun hh => by
 obtain ⟨i, hi, he⟩ := List.getElem_of_mem hh
 rw [List.length_take] at hi
 obtain ⟨hk, hx⟩ := List.getElem?_eq_some_iff.1 hx
 rw [List.getElem_take] at he
 exact (List.pairwise_iff_getElem.1 h i k (by omega) hk (by omega)) (he.trans hx.symm)
theorem zip_some {a b : List Int} {k : Nat} {x y : Int} (hx : a[k]? = some x) (hy : b[k]? = some y) : (x, y) ∈ a.zip b := List.mem_of_getElem? (i := k) (by rw [List.getElem?_zip_eq_some]; exact ⟨hx, hy⟩)
end Go.Fw
namespace Go.Proofs.YtjjmdcnmeommbaaGreatDoor
open Go.Fw Go.RowKit
theorem indexI_fn (M : List Nat) (w0 : World) (v : Value) (l : List Int) (a : Int) (hR : RdI M w0 v l) :
 Does Tryz.prog 190 #[v, .int .i64 a] w0 fun v w' => (∃ n, v = .int .i64 n ∧ (0 ≤ n ↔ a ∈ l)) ∧ Below w0.heap.size w0 w' := by
 obtain ⟨A, n, c, rfl⟩ := hR.form
 obtain ⟨_, _, _⟩ := hR.len
 have S := St.refl w0
 refine dnR Tryz.func190 rfl Tryz.ntmps190 rfl ?_
 refine wC0 rfl ⟨⟩ (wL (fun μk D ε w => D = [] ∧ ∃ k : Nat, (k + μk = (l.length)) ∧ (AllTo (l) k (fun x => a ≠ x)) ∧ St [] w0 w [] ∧ Sl ε [(0, .slice A n c), (1, .int .i64 a), (7, .int .i64 n), (8, .int .i64 k)]) (μ := (l.length)) ⟨rfl, 0, by omega, AllTo.zero, S, rfl⟩ ?_)
 rintro μk D ε w ⟨rfl, k, _, ha, S, eZ⟩
 refine wK eZ (wB0 rfl ⟨⟩ (fun h9 => ?_) fun h9 => ?_)
 ·obtain ⟨x, b14, p14, _, hxx, hA14, _, _, hc14, hr14⟩ := RdS.get (hR) (k) (by omega)
  obtain ⟨rfl, _⟩ := id hr14
  refine lB (S.k.a hc14) [.x b14 p14,.f 0 0] rfl ⟨rfl,⟨hA14,by omega⟩,⟨⟩⟩ (fun h16 => ?_) fun h16 => ?_
  ·exact lT rfl ⟨⟩ rfl ⟨⟨_, rfl, ⟨fun _ => h16 ▸ some_mem hxx, fun _ => by omega⟩⟩, S.fin⟩
  refine lP0 rfl ⟨by omega,⟨⟩⟩ ⟨μk - 1, by omega, rfl, (k + 1), (by omega), (ha.succ hxx (h16)), S, rfl⟩
 exact lT rfl ⟨⟩ rfl ⟨⟨_, rfl, ⟨fun h => by omega, fun h => absurd rfl (ha.all (by omega) a h)⟩⟩, S.fin⟩
theorem containsI_fn (M : List Nat) (w0 : World) (v : Value) (l : List Int) (a : Int) (hR : RdI M w0 v l) :
 Does Tryz.prog 156 #[v, .int .i64 a] w0 fun v w' => v = .bool (decide (a ∈ l)) ∧ Below w0.heap.size w0 w' := by
 obtain ⟨_, _, _, rfl⟩ := hR.form
 have S := St.refl w0
 refine dnR Tryz.func156 rfl Tryz.ntmps156 rfl ?_
 refine wO0 rfl ⟨⟩ (o_calln S has_190 rfl rfl (indexI_fn M _ _ l a (hR.keep (S.keep0 M))) ?_)
 rintro v7 w7 ⟨_, rfl, hm⟩ S7 X7
 refine lB0 rfl ⟨⟩ (fun h8 => ?_) fun h8 => ?_
 ·refine lR0 rfl ⟨⟩ (ret_1 rfl (by conv => lhs; whnf) ?_)
  exact ⟨by rw [decide_eq_true (hm.1 (by omega))], S7.fin⟩
 refine lR0 rfl ⟨⟩ (ret_1 rfl (by conv => lhs; whnf) ?_)
 exact ⟨by rw [decide_eq_false (fun hh => absurd (hm.2 hh) (by omega))], S7.fin⟩
theorem bufValid_fn (p : ProgD) (M : List Nat) (w0 : World) (cs : List Value) (hI : InP p M w0 cs) :
 Does Tryz.prog 172 #[.agg cs.toArray] w0 fun v w' => v = .bool true ∧ Below w0.heap.size w0 w' := by
 obtain ⟨_, _, _, _, _, _, _, _, _, _, _, _, rfl, _, _, _, _, _, _, _, _, _, _, _, _⟩ := hI.rd.open_
 have S := St.refl w0
 refine dnR Tryz.func172 rfl Tryz.ntmps172 rfl ?_
 refine wO0 rfl ⟨⟩ (o_boxa S (by conv => lhs; whnf) rfl ?_)
 intro g1 w1 S1 X1 G1
 refine lO S1.k [.w 0] rfl ⟨⟨rfl,by rfl⟩,⟨⟩⟩ (o_callr S1 has_42 rfl rfl (validP_fn p M _ _ (hI.keep (S1.keep0 M)).rd hI.ok (hI.keep (S1.keep0 M)).msk (hI.keep (S1.keep0 M)).lt) ?_)
 intro w8 S8 X8
 refine lB0 rfl ⟨⟩ (fun h13 => ?_) (fun h13 => by exfalso; omega)
 exact lT rfl ⟨⟩ rfl ⟨rfl, S8.fin⟩
theorem proper_fn (p : ProgD) (en : EntryD) (M : List Nat) (w0 : World) (cs es : List Value) (hI : InP p M w0 cs) (hE : REntry M w0 es en) (ho : EntOK p en) :
 Does Tryz.prog 205 #[.agg cs.toArray, .agg es.toArray] w0 fun v w' => v = .bool true ∧ Below w0.heap.size w0 w' := by
 obtain ⟨Ac, nc, cc, Am, nm, cm, Al, nl, cl, At, nt, ct, rfl, hC, _, _, _, _, _, _, _, _, _, _, _⟩ := hI.rd.open_
 obtain ⟨Ec, ec, fc, Ev, ev', fv, rfl, hCe, hVa, _, _, _, _⟩ := hE.open_
 have S := St.refl w0
 have l1 := ho.len
 have l2 : en.values.length = en.cells.length := ho.even
 have l3 : en.cells.length ≠ 0 := fun h => ho.some_ (List.length_eq_zero_iff.1 h)
 refine dnR Tryz.func205 rfl Tryz.ntmps205 rfl ?_
 refine wO0 rfl ⟨⟩ (o_boxa S (by conv => lhs; whnf) rfl ?_)
 intro g2 w2 S2 X2 G2
 refine o_boxa S2 (by conv => lhs; whnf) rfl ?_
 intro g3 w3 S3 X3 G3
 refine lB S3.k [.o 0] rfl ⟨rfl,⟨⟩⟩ (fun h11 => by exfalso; omega) fun h11 => ?_
 refine lB S3.k [.o 0,.o 1] rfl ⟨rfl,rfl,⟨⟩⟩ (fun h19 => by exfalso; omega) fun h19 => ?_
 refine lB S3.k [.o 0,.o 0] rfl ⟨rfl,rfl,⟨⟩⟩ (fun h28 => by exfalso; omega) fun h28 => ?_
 refine lC S3.k [.o 0] rfl ⟨rfl,⟨⟩⟩ (wL (fun μk D ε w => D = [] ∧ ∃ k : Nat, (k + μk = (en.cells.length)) ∧ St [] w0 w [(some g3, 121, [.slice Ec ec fc, .slice Ev ev' fv]), (some g2, 27, [.slice Ac nc cc, .slice Am nm cm, .slice Al nl cl, .slice At nt ct])] ∧ Sl ε [(2, .pointer (some ⟨g2, 0, none⟩)), (3, .pointer (some ⟨g3, 0, none⟩)), (31, .slice Ec ec fc), (32, .int .i64 ec), (33, .int .i64 k)]) (μ := (en.cells.length)) ⟨rfl, 0, by omega, S3, rfl⟩ ?_)
 rintro μk D ε w ⟨rfl, k, _, S, eZ⟩
 refine wK eZ (wB0 rfl ⟨⟩ (fun h34 => ?_) fun h34 => ?_)
 ·obtain ⟨x, b36, p36, _, hxx, hA36, _, _, hc36, hr36⟩ := RdS.get (hCe) (k) (by omega)
  obtain ⟨rfl, _⟩ := id hr36
  have q1 := ho.cells k x hxx
  obtain ⟨q2, q3, q4⟩ := q1
  unfold isIn at q2
  have hCe2 : RdI M w0 (.slice (some ⟨b36, p36, none⟩) ec fc) en.cells := hA36 ▸ hCe
  refine lB (S.k.a hc36) [.x b36 p36,.f 0 0] rfl ⟨rfl,⟨hA36,by omega⟩,⟨⟩⟩ (fun h39 => by exfalso; omega) fun h39 => ?_
  refine lB S.k [.o 1] rfl ⟨rfl,⟨⟩⟩ (fun h45 => by exfalso; omega) fun h45 => ?_
  refine lO S.k [.o 0] rfl ⟨rfl,⟨⟩⟩ ?_
  refine o_cutTo (k := k) slz_49.slT (show _ = Value.slice (some ⟨b36, p36, none⟩) ec fc by rw [← hA36]; rfl) rfl (by have := hCe.len; omega) hCe.len.2.1 rfl ?_
  refine lO0 rfl ⟨⟩ (o_callr S has_156 rfl rfl ((containsI_fn M _ _ (en.cells.take k) x (RdS.take (hCe2.keep (S.keep0 M)) k (by omega))).mono (fun v w' h => ⟨h.1.trans (by rw [decide_eq_false (not_take ho.once hxx)]), h.2⟩)) ?_)
  intro w53 S53 X53
  obtain ⟨cl', b58, p58, _, hxcl', hA58, _, hl58, hc58, hr58⟩ := RdS.get (hC) (x.toNat) (by omega)
  obtain ⟨rfl, _, _, _, _⟩ := RCell.open_ hr58
  rw [thr_some hxcl'] at q3
  rw [gh_some hxcl'] at q4
  have q5 := (hI.ok.cells cl' (some_mem hxcl')).w
  refine lO (S53.k.a hc58) [.o 1,.x b58 p58,.v 0] rfl ⟨⟨rfl,hl58⟩,⟨hA58,by omega⟩,rfl,⟨⟩⟩ (o_alloc S53 zv_96 rfl rfl ?_)
  intro g7 w7 S7 X7 G7
  refine o_storeN (kk := 0) (vs := [_, _, _, _, _, _]) S7 sz_96 rfl rfl rfl rfl rfl rfl rfl ?_
  intro w8_6 S8_6 X8_6
  dsimp only [setsAt, List.set] at S8_6
  refine lC0 rfl ⟨⟩ (W_draw fmx [0, 1, 2, 3, 4, 5, 6, 7, 8, 9, 10, 11, 12, 13, 14, 15, 16, 17, 18, 19, 20, 21, 22, 23, 24, 25, 26, 27, 28] [] [] (by kernel_rfl) rfl (Cl _ _ _ _) (Cl.start S8_6) ?_)
  refine qB S8_6.q [.o 0] rfl ⟨rfl,⟨⟩⟩ (fun h62 => by exfalso; omega) fun h62 => ?_
  refine qO0 rfl ⟨⟩ ?_
  rcases (Bool.eq_false_or_eq_true (cl'.ghost)).symm with hb65 | hb65
  ·refine q_load one_4 rfl (fun w1 hw => by exact (hw.1.cell 0 rfl rfl).trans (congrArg (fun b => some (Value.bool b)) hb65)) rfl ?_
   refine qB0 rfl ⟨⟩ (fun h67 => ?_) fun h67 => ?_
   ·refine qD rfl ⟨⟩ ?_
    rintro wR9 ⟨SR9, XR9⟩
    refine lR0 rfl ⟨⟩ (ret_1 rfl (by conv => lhs; whnf) ?_)
    exfalso; rw [hb65] at q4; simp at q4; omega
   obtain ⟨y, b74, p74, c74, hxy, hA74, hM74, hl74, hc74, hr74⟩ := RdS.get (hVa) (k) (by omega)
   obtain ⟨rfl, i174⟩ := id hr74
   have q6 := ho.vals (x, y) (zip_some hxx hxy)
   simp only at q6
   rw [w_some q2.1 hxcl', pow2_eq] at q6
   refine qB (S8_6.q.a hc74) [.o 1,.x b74 p74,.f 0 0] rfl ⟨rfl,⟨hA74,by omega⟩,rfl,⟨⟩⟩ (fun h76 => by exfalso; omega) fun h76 => ?_
   refine qO S8_6.q [.o 1] rfl ⟨rfl,⟨⟩⟩ (q_indexAddr slz_49.slT rfl (by assumption) rfl (by omega) (by omega) rfl ?_)
   refine qO0 rfl ⟨⟩ (q_load one_3 rfl (fun w1 hw => by exact hw.1.old (hc74 0 _ rfl)) rfl ?_)
   refine qO S8_6.q [.o 0] rfl ⟨rfl,⟨⟩⟩ ?_
   rw [show cl'.w = ((cl'.w.toNat : Nat) : Int) by omega]
   refine q_shl1 (n := cl'.w.toNat) rfl (by rfl) (by omega) rfl ?_
   refine qB0 rfl ⟨⟩ (fun h87 => by exfalso; omega) fun h87 => ?_
   refine qD rfl ⟨⟩ ?_
   rintro wR9 ⟨SR9, XR9⟩
   refine lP0 rfl ⟨by omega,⟨⟩⟩ ⟨μk - 1, by omega, rfl, (k + 1), (by omega), SR9.tail, rfl⟩
  refine q_load one_4 rfl (fun w1 hw => by exact (hw.1.cell 0 rfl rfl).trans (congrArg (fun b => some (Value.bool b)) hb65)) rfl ?_
  refine qB0 rfl ⟨⟩ (fun h67 => ?_) fun h67 => ?_
  ·obtain ⟨y, b74, p74, c74, hxy, hA74, hM74, hl74, hc74, hr74⟩ := RdS.get (hVa) (k) (by omega)
   obtain ⟨rfl, i174⟩ := id hr74
   have q6 := ho.vals (x, y) (zip_some hxx hxy)
   simp only at q6
   rw [w_some q2.1 hxcl', pow2_eq] at q6
   refine qB (S8_6.q.a hc74) [.o 1,.x b74 p74,.f 0 0] rfl ⟨rfl,⟨hA74,by omega⟩,rfl,⟨⟩⟩ (fun h76 => by exfalso; omega) fun h76 => ?_
   refine qO S8_6.q [.o 1] rfl ⟨rfl,⟨⟩⟩ (q_indexAddr slz_49.slT rfl (by assumption) rfl (by omega) (by omega) rfl ?_)
   refine qO0 rfl ⟨⟩ (q_load one_3 rfl (fun w1 hw => by exact hw.1.old (hc74 0 _ rfl)) rfl ?_)
   refine qO S8_6.q [.o 0] rfl ⟨rfl,⟨⟩⟩ ?_
   rw [show cl'.w = ((cl'.w.toNat : Nat) : Int) by omega]
   refine q_shl1 (n := cl'.w.toNat) rfl (by rfl) (by omega) rfl ?_
   refine qB0 rfl ⟨⟩ (fun h87 => by exfalso; omega) fun h87 => ?_
   refine qD rfl ⟨⟩ ?_
   rintro wR9 ⟨SR9, XR9⟩
   refine lP0 rfl ⟨by omega,⟨⟩⟩ ⟨μk - 1, by omega, rfl, (k + 1), (by omega), SR9.tail, rfl⟩
  refine qD rfl ⟨⟩ ?_
  rintro wR9 ⟨SR9, XR9⟩
  refine lR0 rfl ⟨⟩ (ret_1 rfl (by conv => lhs; whnf) ?_)
  exfalso; rw [hb65] at q4; simp at q4; omega
 exact lT rfl ⟨⟩ rfl ⟨rfl, S.fin⟩
theorem bufFits_fn (p : ProgD) (c : ConfD) (M : List Nat) (w0 : World) (cs xs : List Value) (hI : InP p M w0 cs) (hX : RdConf M w0 c xs) (hf : FitC p c) :
 Does Tryz.prog 173 #[.agg cs.toArray, .agg xs.toArray] w0 fun v w' => v = .bool true ∧ Below w0.heap.size w0 w' := by
 obtain ⟨Ac, nc, cc, Am, nm, cm, Al, nl, cl, At, nt, ct, rfl, hC, _, _, hTh, _, _, _, _, _, _, _, _⟩ := hI.rd.open_
 obtain ⟨Xm, xm, ym, Xa, xa, ya, Xb, xb, yb, rfl, hMem, hAt, hBuf, _, _, hxb, _, _, _⟩ := hX.open_
 have S := St.refl w0
 have f1 := hf.mem.len
 have f2 := hf.nat
 have f3 := hf.nbuf
 refine dnR Tryz.func173 rfl Tryz.ntmps173 rfl ?_
 refine wO0 rfl ⟨⟩ (o_boxa S (by conv => lhs; whnf) rfl ?_)
 intro g2 w2 S2 X2 G2
 refine o_boxa S2 (by conv => lhs; whnf) rfl ?_
 intro g3 w3 S3 X3 G3
 refine lB S3.k [.o 0,.o 1] rfl ⟨rfl,rfl,⟨⟩⟩ (fun h18 => by exfalso; omega) fun h18 => ?_
 refine lB S3.k [.o 0,.o 1] rfl ⟨rfl,rfl,⟨⟩⟩ (fun h26 => by exfalso; omega) fun h26 => ?_
 refine lB S3.k [.o 0,.o 1] rfl ⟨rfl,rfl,⟨⟩⟩ (fun h35 => by exfalso; omega) fun h35 => ?_
 refine lC S3.k [.o 0] rfl ⟨rfl,⟨⟩⟩ (wL (fun μk D ε w => D = [] ∧ ∃ k : Nat, (k + μk = (c.mem.length)) ∧ St [] w0 w [(some g3, 52, [.slice Xm xm ym, .slice Xa xa ya, .slice Xb xb yb]), (some g2, 27, [.slice Ac nc cc, .slice Am nm cm, .slice Al nl cl, .slice At nt ct])] ∧ Sl ε [(2, .pointer (some ⟨g2, 0, none⟩)), (3, .pointer (some ⟨g3, 0, none⟩)), (38, .slice Xm xm ym), (39, .int .i64 xm), (40, .int .i64 k)]) (μ := (c.mem.length)) ⟨rfl, 0, by omega, S3, rfl⟩ ?_)
 rintro μk D ε w ⟨rfl, k, hk, S, eZ⟩
 refine wK eZ (wB0 rfl ⟨⟩ (fun h41 => ?_) fun h41 => ?_)
 ·obtain ⟨v, b43, p43, _, hxv, hA43, _, _, hc43, hr43⟩ := RdS.get (hMem) (k) (by omega)
  obtain ⟨rfl, _⟩ := id hr43
  have q1 := hf.mem.vals k v hxv
  refine lB (S.k.a hc43) [.x b43 p43,.f 0 0] rfl ⟨rfl,⟨hA43,by omega⟩,⟨⟩⟩ (fun h46 => by exfalso; omega) fun h46 => ?_
  obtain ⟨x, b52, p52, _, hxx, hA52, _, _, hc52, hr52⟩ := RdS.get (hC) (k) (by omega)
  obtain ⟨rfl, _, _, _, _⟩ := RCell.open_ hr52
  have q2 := (hI.ok.cells x (some_mem hxx)).w
  rw [w_at hxx, pow2_eq] at q1
  refine lO (S.k.a hc52) [.o 1,.x b52 p52,.f 0 1] rfl ⟨rfl,⟨hA52,by omega⟩,rfl,⟨⟩⟩ ?_
  rw [show x.w = ((x.w.toNat : Nat) : Int) by omega]
  refine o_shl1 (n := x.w.toNat) rfl (by rfl) (by omega) rfl ?_
  refine lB0 rfl ⟨⟩ (fun h56 => by exfalso; omega) fun h56 => ?_
  refine lP0 rfl ⟨by omega,⟨⟩⟩ ⟨μk - 1, by omega, rfl, (k + 1), (by omega), S, rfl⟩
 refine lC S.k [.o 0] rfl ⟨rfl,⟨⟩⟩ (wL (fun μk D ε w => D = [] ∧ ∃ k : Nat, (k + μk = (c.at_.length)) ∧ St [] w0 w [(some g3, 52, [.slice Xm xm ym, .slice Xa xa ya, .slice Xb xb yb]), (some g2, 27, [.slice Ac nc cc, .slice Am nm cm, .slice Al nl cl, .slice At nt ct])] ∧ Sl ε [(2, .pointer (some ⟨g2, 0, none⟩)), (3, .pointer (some ⟨g3, 0, none⟩)), (60, .slice Xa xa ya), (61, .int .i64 xa), (62, .int .i64 k)]) (μ := (c.at_.length)) ⟨rfl, 0, by omega, S, rfl⟩ ?_)
 rintro μk D ε w ⟨rfl, k, hk, S, eZ⟩
 refine wK eZ (wB0 rfl ⟨⟩ (fun h63 => ?_) fun h63 => ?_)
 ·obtain ⟨v, b65, p65, _, hxv, hA65, _, _, hc65, hr65⟩ := RdS.get (hAt) (k) (by omega)
  obtain ⟨rfl, _⟩ := id hr65
  obtain ⟨th, b70, p70, _, hxth, hA70, _, hl70, hc70, hr70⟩ := RdS.get (hTh) (k) (by omega)
  obtain ⟨Aa70, na70, ca70, Am70, nm70, cm70, As70, ns70, cs70, Al70, nl70, cl70, rfl, _, _, _, _, _, _, _, _, _, _, _, _, _⟩ := RThread.open_ hr70
  have q1 := hf.atr k v hxv th hxth
  refine lO ((S.k.a hc70).a hc65) [.x b65 p65,.f 0 0,.o 1,.x b70 p70,.v 1] rfl ⟨⟨rfl,hl70⟩,⟨hA70,by omega⟩,rfl,rfl,⟨hA65,by omega⟩,⟨⟩⟩ (o_alloc S zv_60 rfl rfl ?_)
  intro g9 w9 S9 X9 G9
  refine o_storeN (kk := 0) (vs := [_, _, _, _, _, _, _]) S9 sz_60 rfl rfl rfl rfl rfl rfl rfl ?_
  intro w12_6 S12_6 X12_6
  dsimp only [setsAt, List.set] at S12_6
  refine lB0 rfl ⟨⟩ (fun h73 => by exfalso; omega) fun h73 => ?_
  refine lB S12_6.k [.o 0] rfl ⟨rfl,⟨⟩⟩ (fun h78 => by exfalso; omega) fun h78 => ?_
  obtain ⟨b, b84, p84, _, hxb, hA84, _, _, hc84, hr84⟩ := RdS.get (hBuf) (k) (by omega)
  obtain ⟨_, _, _, rfl, _, _, _⟩ := RBuf.open_ hr84
  have q3 := hf.bufs k b hxb
  refine lB (S12_6.k.a hc84) [.o 1,.x b84 p84,.f 0 0] rfl ⟨rfl,⟨hA84,by omega⟩,rfl,⟨⟩⟩ (fun h87 => by exfalso; omega) fun h87 => ?_
  refine lB0 rfl ⟨⟩ (fun h90 => ?_) fun h90 => ?_
  ·refine lO0 rfl ⟨⟩ ?_
   cases hb93 : th.asleep
   ·refine o_load one_4 rfl (by exact (S12_6.cell 0 rfl rfl).trans (congrArg (fun b => some (Value.bool b)) hb93)) rfl ?_
    rw [q1.2.2 (by omega)] at hb93
    refine lR0 rfl ⟨⟩ (ret_1 rfl (by conv => lhs; whnf) ?_)
    cases hb93
   refine o_load one_4 rfl (by exact (S12_6.cell 0 rfl rfl).trans (congrArg (fun b => some (Value.bool b)) hb93)) rfl ?_
   rw [q1.2.2 (by omega)] at hb93
   have q4 := q3.2.2 (by rw [hxv]; exact congrArg some (by omega))
   have q4 : b.length = 0 := by rw [q4]; rfl
   obtain ⟨_, b99, p99, _, hx99, hA99, _, _, hc99, hr99⟩ := RdS.get (hBuf) (k) (by omega)
   obtain rfl := Option.some.inj (hxb.symm.trans hx99)
   obtain ⟨_, _, _, rfl, _, _, _⟩ := RBuf.open_ hr99
   refine lB (S12_6.k.a hc99) [.o 1,.x b99 p99,.f 0 0] rfl ⟨rfl,⟨hA99,by omega⟩,rfl,⟨⟩⟩ (fun h102 => by exfalso; omega) fun h102 => ?_
   obtain ⟨x108, b108, p108, c108, hx108, hA108, hM108, hl108, hc108, hr108⟩ := RdS.get (hBuf) (k) (by omega)
   obtain rfl := Option.some.inj (hxb.symm.trans hx108)
   obtain ⟨Ab108, nb108, cb108, rfl, hBu108, hnb108, bb108⟩ := RBuf.open_ hr108
   refine lC (S12_6.k.a hc108) [.o 1,.x b108 p108,.f 0 0] rfl ⟨rfl,⟨hA108,by omega⟩,rfl,⟨⟩⟩ (wL (fun μj D ε w => D = [] ∧ ∃ j : Nat, (j + μj = (b.length)) ∧ St [] w0 w [(some g9, 60, [.string th.name, .int .i64 th.points, .slice Aa70 na70 ca70, .slice Am70 nm70 cm70, .slice As70 ns70 cs70, .slice Al70 nl70 cl70, .bool th.asleep]), (some g3, 52, [.slice Xm xm ym, .slice Xa xa ya, .slice Xb xb yb]), (some g2, 27, [.slice Ac nc cc, .slice Am nm cm, .slice Al nl cl, .slice At nt ct])] ∧ Sl ε [(2, .pointer (some ⟨g2, 0, none⟩)), (3, .pointer (some ⟨g3, 0, none⟩)), (60, .slice Xa xa ya), (61, .int .i64 xa), (62, .int .i64 k), (109, .slice Ab108 nb108 cb108), (110, .int .i64 nb108), (111, .int .i64 j)]) (μ := (b.length)) ⟨rfl, 0, by omega, S12_6, rfl⟩ ?_)
   rintro μj D ε w ⟨rfl, j, hj, S, eZ⟩
   refine wK eZ (wB0 rfl ⟨⟩ (fun h112 => ?_) fun h112 => ?_)
   ·obtain ⟨en, b113, p113, c113, hxen, hA113, hM113, hl113, hc113, hr113⟩ := RdS.get (hBu108) (j) (by omega)
    obtain ⟨Ac113, nc113, cc113, Av113, nv113, cv113, rfl, hCe113, hVa113, hnc113, hnv113, bc113, bv113⟩ := REntry.open_ hr113
    have q5 := q3.2.1 en (some_mem hxen)
    refine lO (S.k.a hc113) [.x b113 p113,.v 0] rfl ⟨⟨rfl,hl113⟩,⟨hA113,by omega⟩,⟨⟩⟩ (o_alloc S zv_121 rfl rfl ?_)
    intro g11 w11 S11 X11 G11
    refine o_storeN (kk := 0) (vs := [_, _]) S11 sz_121 rfl rfl rfl rfl rfl rfl rfl ?_
    intro w19_3 S19_3 X19_3
    dsimp only [setsAt, List.set] at S19_3
    refine lO S19_3.k [.w 3,.w 0] rfl ⟨⟨rfl,by rfl⟩,⟨rfl,rfl⟩,⟨⟩⟩ (o_callr S19_3 has_205 rfl rfl (proper_fn p en M _ _ _ (hI.keep (S19_3.keep0 M)) (REntry.keep (S19_3.keep0 M) _ _ hr113) q5) ?_)
    intro w117 S117 X117
    refine lP0 rfl ⟨by omega,⟨⟩⟩ ⟨μj - 1, by omega, rfl, (j + 1), (by omega), S117.tail, rfl⟩
   refine lP0 rfl ⟨by omega,⟨⟩⟩ ⟨μk - 1, by omega, rfl, (k + 1), (by omega), S.tail, rfl⟩
  obtain ⟨x108, b108, p108, c108, hx108, hA108, hM108, hl108, hc108, hr108⟩ := RdS.get (hBuf) (k) (by omega)
  obtain rfl := Option.some.inj (hxb.symm.trans hx108)
  obtain ⟨Ab108, nb108, cb108, rfl, hBu108, hnb108, bb108⟩ := RBuf.open_ hr108
  refine lC (S12_6.k.a hc108) [.o 1,.x b108 p108,.f 0 0] rfl ⟨rfl,⟨hA108,by omega⟩,rfl,⟨⟩⟩ (wL (fun μj D ε w => D = [] ∧ ∃ j : Nat, (j + μj = (b.length)) ∧ St [] w0 w [(some g9, 60, [.string th.name, .int .i64 th.points, .slice Aa70 na70 ca70, .slice Am70 nm70 cm70, .slice As70 ns70 cs70, .slice Al70 nl70 cl70, .bool th.asleep]), (some g3, 52, [.slice Xm xm ym, .slice Xa xa ya, .slice Xb xb yb]), (some g2, 27, [.slice Ac nc cc, .slice Am nm cm, .slice Al nl cl, .slice At nt ct])] ∧ Sl ε [(2, .pointer (some ⟨g2, 0, none⟩)), (3, .pointer (some ⟨g3, 0, none⟩)), (60, .slice Xa xa ya), (61, .int .i64 xa), (62, .int .i64 k), (109, .slice Ab108 nb108 cb108), (110, .int .i64 nb108), (111, .int .i64 j)]) (μ := (b.length)) ⟨rfl, 0, by omega, S12_6, rfl⟩ ?_)
  rintro μj D ε w ⟨rfl, j, hj, S, eZ⟩
  refine wK eZ (wB0 rfl ⟨⟩ (fun h112 => ?_) fun h112 => ?_)
  ·obtain ⟨en, b113, p113, c113, hxen, hA113, hM113, hl113, hc113, hr113⟩ := RdS.get (hBu108) (j) (by omega)
   obtain ⟨Ac113, nc113, cc113, Av113, nv113, cv113, rfl, hCe113, hVa113, hnc113, hnv113, bc113, bv113⟩ := REntry.open_ hr113
   have q5 := q3.2.1 en (some_mem hxen)
   refine lO (S.k.a hc113) [.x b113 p113,.v 0] rfl ⟨⟨rfl,hl113⟩,⟨hA113,by omega⟩,⟨⟩⟩ (o_alloc S zv_121 rfl rfl ?_)
   intro g11 w11 S11 X11 G11
   refine o_storeN (kk := 0) (vs := [_, _]) S11 sz_121 rfl rfl rfl rfl rfl rfl rfl ?_
   intro w19_3 S19_3 X19_3
   dsimp only [setsAt, List.set] at S19_3
   refine lO S19_3.k [.w 3,.w 0] rfl ⟨⟨rfl,by rfl⟩,⟨rfl,rfl⟩,⟨⟩⟩ (o_callr S19_3 has_205 rfl rfl (proper_fn p en M _ _ _ (hI.keep (S19_3.keep0 M)) (REntry.keep (S19_3.keep0 M) _ _ hr113) q5) ?_)
   intro w117 S117 X117
   refine lP0 rfl ⟨by omega,⟨⟩⟩ ⟨μj - 1, by omega, rfl, (j + 1), (by omega), S117.tail, rfl⟩
  refine lP0 rfl ⟨by omega,⟨⟩⟩ ⟨μk - 1, by omega, rfl, (k + 1), (by omega), S.tail, rfl⟩
 exact lT rfl ⟨⟩ rfl ⟨rfl, S.fin⟩
theorem load_fn (p : ProgD) (c : ConfD) (m : Int) (hm : m = 1 ∨ m = 2) (M : List Nat) (w0 : World) (cs xs : List Value) (hI : InP p M w0 cs) (hX : RdConf M w0 c xs) (hf : FitC p c) :
 Does Tryz.prog 136 #[.agg cs.toArray, .int .i64 m, .agg xs.toArray] w0 fun v w' => v = .tuple #[.agg (xs ++ (cs ++ [Value.int .i64 m])).toArray, .bool true] ∧ Below w0.heap.size w0 w' := by
 obtain ⟨_, _, _, _, _, _, _, _, _, _, _, _, rfl, _, _, _, _, _, _, _, _, _, _, _, _⟩ := hI.rd.open_
 obtain ⟨_, _, _, _, _, _, _, _, _, rfl, _, _, _, _, _, _, _, _, _⟩ := hX.open_
 have S := St.refl w0
 refine dnR Tryz.func136 rfl Tryz.ntmps136 rfl ?_
 refine wO0 rfl ⟨⟩ (o_boxa S (by conv => lhs; whnf) rfl ?_)
 intro g3 w3 S3 X3 G3
 refine o_boxa S3 (by conv => lhs; whnf) rfl ?_
 intro g5 w5 S5 X5 G5
 refine o_alloc S5 zv_189 rfl rfl ?_
 intro g6 w6 S6 X6 G6
 refine lB0 rfl ⟨⟩ (fun h9 => ?_) fun h9 => ?_
 ·refine lB0 rfl ⟨⟩ (fun h12 => by exfalso; omega) fun h12 => ?_
  refine lO S6.k [.w 2] rfl ⟨⟨rfl,by rfl⟩,⟨⟩⟩ (o_callr S6 has_172 rfl rfl (bufValid_fn p M _ _ (hI.keep (S6.keep0 M))) ?_)
  intro w16 S16 X16
  refine lO S16.k [.w 2,.w 1] rfl ⟨⟨rfl,by rfl⟩,⟨rfl,by rfl⟩,⟨⟩⟩ (o_callr S16 has_173 rfl rfl (bufFits_fn p c M _ _ _ (hI.keep (S16.keep0 M)) (hX.keep (S16.keep0 M)) hf) ?_)
  intro w22 S22 X22
  refine lO S22.k [.w 1,.w 2] rfl ⟨⟨rfl,by rfl⟩,⟨rfl,by rfl⟩,⟨⟩⟩ (o_build bld_189 (vs := [(0, .agg _), (1, .agg _), (2, .int .i64 _)]) (cs := [_, _, _, _, _, _, _, _]) rfl rfl rfl rfl ?_)
  refine o_storeN (kk := 0) (vs := [_, _, _, _, _, _, _, _]) S22 sz_189 rfl rfl rfl rfl rfl rfl rfl ?_
  intro w3_4 S3_4 X3_4
  dsimp only [setsAt, List.set] at S3_4
  exact lR0 rfl ⟨⟩ (ret_cell_tmp (n := 8) rfl many_189 rfl (S3_4.cells 0 rfl) rfl rfl ⟨rfl, S3_4.fin⟩)
 refine lO S6.k [.w 2] rfl ⟨⟨rfl,by rfl⟩,⟨⟩⟩ (o_callr S6 has_172 rfl rfl (bufValid_fn p M _ _ (hI.keep (S6.keep0 M))) ?_)
 intro w16 S16 X16
 refine lO S16.k [.w 2,.w 1] rfl ⟨⟨rfl,by rfl⟩,⟨rfl,by rfl⟩,⟨⟩⟩ (o_callr S16 has_173 rfl rfl (bufFits_fn p c M _ _ _ (hI.keep (S16.keep0 M)) (hX.keep (S16.keep0 M)) hf) ?_)
 intro w22 S22 X22
 refine lO S22.k [.w 1,.w 2] rfl ⟨⟨rfl,by rfl⟩,⟨rfl,by rfl⟩,⟨⟩⟩ (o_build bld_189 (vs := [(0, .agg _), (1, .agg _), (2, .int .i64 _)]) (cs := [_, _, _, _, _, _, _, _]) rfl rfl rfl rfl ?_)
 refine o_storeN (kk := 0) (vs := [_, _, _, _, _, _, _, _]) S22 sz_189 rfl rfl rfl rfl rfl rfl rfl ?_
 intro w3_4 S3_4 X3_4
 dsimp only [setsAt, List.set] at S3_4
 exact lR0 rfl ⟨⟩ (ret_cell_tmp (n := 8) rfl many_189 rfl (S3_4.cells 0 rfl) rfl rfl ⟨rfl, S3_4.fin⟩)
end Go.Proofs.YtjjmdcnmeommbaaGreatDoor
namespace Go.Fw
open Go.RowKit
section
variable {P : Program} {r : Option Nat} {N : Nat} {D : List Deferred} {e : Env} {w w0 : World} {ops : Array Oper} {rest : List Oper} {K : List Deferred → Env → World → Prop} {L : List Ent} {M : List Nat}
variable {d : Nat} {t : TypeId} {p : String} {af : Array Edge} {x y : Operand} {yt : TypeId}
theorem o_eqlNil {ty size n c : Nat} {A : Option Addr} (hT : SlT P ty size) (hx : ev e x = .slice A n c) (hy : ev e y = .slice none 0 0) (hd : Nat.ble (d + 1) N = true)
 (h1 : A = none → WL P r N ops rest K D (upd e d (.bool true)) w) (h2 : A.isSome = true → WL P r N ops rest K D (upd e d (.bool false)) w) :
 WL P r N ops (⟨some d, .binOp .eql ty x y yt, t, p, af, none⟩ :: rest) K D e w := by
 obtain ⟨el, hu, _⟩ := slT_size hT
 have hr := Lib.run_eql_slice_nil (P := P) w ty el A n c 0 0 hu
 cases A with
 | none => exact WL_val rfl rfl hd (by simp) (by simp [execOp, hx, hy, eqGuard, hr]) (h1 rfl)
 | some a => exact WL_val rfl rfl hd (by simp) (by simp [execOp, hx, hy, eqGuard, hr]) (h2 rfl)
end
theorem RowV.pad {G : Option Nat} {n : Nat} {cs : List Value} {v : Value} {l : List Int} (h : RowV G 1 n cs v (l.map (Value.int .i64))) (h0 : 0 < l.length) : ∃ g pad, G = some g ∧ v = .slice (some ⟨g, 0, none⟩) l.length (l.length + pad.length) ∧ cs = l.map (Value.int .i64) ++ pad ∧ l.length + pad.length ≤ maxLen := by
 obtain ⟨h1, h2⟩ := h
 simp only [List.length_map, Nat.mul_one] at h1
 rcases h2 with ⟨_, _, h2⟩ | ⟨g, cap, rfl, rfl, h3, h4, h5, h6⟩
 ·omega
 ·simp only [Nat.mul_one] at h5 h6
  refine ⟨g, cs.drop n, rfl, ?_, ?_, ?_⟩
  ·rw [List.length_drop, h5, h1]; congr 1; omega
  ·rw [← h6, List.take_append_drop]
  ·rw [List.length_drop, h5, h1]; omega
theorem RowV.ofPad {g : Nat} {l : List Int} {pad : List Value} (h : l.length + pad.length ≤ maxLen) : RowV (some g) 1 l.length (l.map (Value.int .i64) ++ pad) (.slice (some ⟨g, 0, none⟩) l.length (l.length + pad.length)) (l.map (Value.int .i64)) :=
 ⟨by simp, .inr ⟨g, _, rfl, rfl, by omega, h, by simp, by simp⟩⟩
def writeTo (mem : List Int) (e : EntryD) (k : Nat) : List Int := ((e.cells.zip e.values).take k).foldl (fun m x => m.set x.1.toNat x.2) mem
theorem writeTo_zero (mem : List Int) (e : EntryD) : writeTo mem e 0 = mem := by simp [writeTo]
theorem writeTo_all (mem : List Int) (e : EntryD) {k : Nat} (h : e.cells.length ≤ k) : writeTo mem e k = writeE mem e := by
 unfold writeTo writeE; rw [List.take_of_length_le (by rw [List.length_zip]; omega)]
theorem writeTo_succ {mem : List Int} {e : EntryD} {k : Nat} {x y : Int} (hx : e.cells[k]? = some x) (hy : e.values[k]? = some y) : writeTo mem e (k + 1) = (writeTo mem e k).set x.toNat y := by
 unfold writeTo
 rw [take_some (x := (x, y)) (by rw [List.getElem?_zip_eq_some]; exact ⟨hx, hy⟩), List.foldl_append]; rfl
theorem foldSet_len : ∀ (l : List (Int × Int)) (mem : List Int), (l.foldl (fun m x => m.set x.1.toNat x.2) mem).length = mem.length
 | [], _ => rfl
 | x :: l, mem => by rw [List.foldl_cons, foldSet_len l, List.length_set]
@[simp] theorem writeTo_len (mem : List Int) (e : EntryD) (k : Nat) : (writeTo mem e k).length = mem.length := foldSet_len _ _
@[simp] theorem writeE_len (mem : List Int) (e : EntryD) : (writeE mem e).length = mem.length := foldSet_len _ _
theorem set_pad {l : List Int} {pad : List Value} {i : Nat} {y : Int} (hi : i < l.length) : (l.map (Value.int .i64) ++ pad).set i (.int .i64 y) = (l.set i y).map (Value.int .i64) ++ pad := by
 rw [List.set_append_left _ _ (by simpa using hi), List.map_set]
def viewTo (c : ConfD) (b : List EntryD) (k : Nat) : List Int := (b.take k).foldl writeE c.mem
theorem viewTo_succ {c : ConfD} {b : List EntryD} {k : Nat} {e : EntryD} (h : b[k]? = some e) : viewTo c b (k + 1) = writeE (viewTo c b k) e := by
 unfold viewTo; rw [take_some h, List.foldl_append]; rfl
theorem viewTo_all {c : ConfD} {t : Nat} {b : List EntryD} (h : c.buf[t]? = some b) {k : Nat} (hk : b.length ≤ k) : viewTo c b k = viewC c t := by
 unfold viewTo viewC; rw [List.take_of_length_le hk, getD_some h]
theorem foldW_len : ∀ (l : List EntryD) (m : List Int), (l.foldl writeE m).length = m.length
 | [], _ => rfl
 | x :: l, m => by rw [List.foldl_cons, foldW_len l, writeE_len]
@[simp] theorem viewTo_len (c : ConfD) (b : List EntryD) (k : Nat) : (viewTo c b k).length = c.mem.length := foldW_len _ _
theorem viewTo_ok {p : ProgD} {c : ConfD} (hf : FitC p c) {b : List EntryD} (hb : ∀ e ∈ b, EntOK p e) (k : Nat) : MemOK p (viewTo c b k) := by
 unfold viewTo
 have key : ∀ (l : List EntryD) (m : List Int), MemOK p m → (∀ e ∈ l, EntOK p e) → MemOK p (l.foldl writeE m) := by
  intro l
  induction l with
  | nil => intro m h _; exact h
  | cons e l ih => intro m h hl; rw [List.foldl_cons]; exact ih _ (h.write (hl e (by simp))) fun x hx => hl x (by simp [hx])
 exact key _ _ hf.mem fun e he => hb e (List.mem_of_mem_take he)
end Go.Fw
namespace Go.Proofs.YtjjmdcnmeommbaaGreatDoor
open Go.Fw Go.RowKit
theorem cloneI_fn (M : List Nat) (w0 : World) (v : Value) (l : List Int) (hR : RdI M w0 v l) (hl : l.length ≤ 100000000) :
 Does Tryz.prog 179 #[v] w0 fun v w' => NewRow 3 w0 w' v l ∧ Below w0.heap.size w0 w' := by
 obtain ⟨_, n, _, rfl⟩ := hR.form
 obtain ⟨_, _, _⟩ := hR.len
 have S := St.refl w0
 refine dnR Tryz.func179 rfl Tryz.ntmps179 rfl ?_
 refine wOn 9 S.k [] rfl ⟨⟩ (o_eqlNil slz_49.slT rfl rfl rfl (fun h4 => ?_) fun h4 => ?_)
 ·refine lR0 rfl ⟨⟩ (ret_1 rfl (by conv => lhs; whnf) ?_)
  subst h4; obtain ⟨A', n', c', he, h1, h2, h3, h5, h6⟩ := hR; cases he
  have h0 : l.length = 0 := by
   rcases Nat.eq_zero_or_pos n with h | h
   ·omega
   ·obtain ⟨_, _, h7, _⟩ := h6 h; cases h7
  obtain rfl := List.length_eq_zero_iff.1 h0
  exact ⟨⟨none, [], RowV.nil 1, fun g hg => by cases hg⟩, S.fin⟩
 refine lO0 rfl ⟨⟩ (o_build0 S slz_49 rfl ?_)
 intro g5 w5 S5 X5 G5
 refine lO0 rfl ⟨⟩ (o_appendI (k := 0) (xs := []) S5 slz_49 rfl RowV.new rfl rfl (hR.keep (S5.keep0 M)) (by simpa using hl) (by decide) rfl ?_)
 intro v7 G7 cs7 w7 S7 R7 X7
 refine o_assign (by conv => lhs; whnf) rfl ?_
 refine lR0 rfl ⟨⟩ (ret_1 rfl (by conv => lhs; whnf) ?_)
 refine ⟨⟨G7, cs7, by simpa using R7, fun g hg => ?_⟩, S7.fin⟩; subst hg; exact ⟨by simpa using S7.new 0 rfl, S7.blk 0 rfl⟩
theorem write_fn (en : EntryD) (mem : List Int) (g cap : Nat) (pad : List Value) (M : List Nat) (w0 : World) (es : List Value) (hE : REntry M w0 es en) (hgM : g ∈ M) (hB : hasBlk w0 (g, 3, mem.map (Value.int .i64) ++ pad)) (hev : en.even) (hin : ∀ x ∈ en.cells, 0 ≤ x ∧ x < mem.length) :
 Does Tryz.prog 177 #[.slice (some ⟨g, 0, none⟩) mem.length cap, .agg es.toArray] w0 fun _ w' => hasBlk w' (g, 3, (writeE mem en).map (Value.int .i64) ++ pad) ∧ BelowB [g] w0 w' := by
 obtain ⟨Ec, ec, fc, Ev, ev', fv, rfl, hCe, hVa, _, _, _, _⟩ := hE.open_
 have S := St.borrow1 hB
 have hsub : ∀ x ∈ [g], x ∈ M := fun x hx => by rw [List.mem_singleton] at hx; subst hx; exact hgM
 have hev : en.values.length = en.cells.length := hev
 refine dnR Tryz.func177 rfl Tryz.ntmps177 rfl ?_
 refine wO0 rfl ⟨⟩ (o_boxa S (by conv => lhs; whnf) rfl ?_)
 intro g3 w3 S3 X3 G3
 refine lC S3.k [.o 0] rfl ⟨rfl,⟨⟩⟩ (wL (fun μk D ε w => D = [] ∧ ∃ k : Nat, (k + μk = (en.cells.length)) ∧ St [g] w0 w [(some g3, 121, [.slice Ec ec fc, .slice Ev ev' fv]), (some g, 3, (writeTo mem en k).map (Value.int .i64) ++ pad)] ∧ Sl ε [(0, .slice (some ⟨g, 0, none⟩) mem.length cap), (3, .pointer (some ⟨g3, 0, none⟩)), (7, .slice Ec ec fc), (8, .int .i64 ec), (9, .int .i64 k)]) (μ := (en.cells.length)) ⟨rfl, 0, by omega, (S3.setEnt 1 rfl (by rw [writeTo_zero])), rfl⟩ ?_)
 rintro μk D ε w ⟨rfl, k, _, S, eZ⟩
 refine wK eZ (wB0 rfl ⟨⟩ (fun h10 => ?_) fun h10 => ?_)
 ·obtain ⟨x, b12, p12, _, hxx, hA12, hM12, _, hc12, hr12⟩ := RdS.get (hCe) (k) (by omega)
  obtain ⟨rfl, _⟩ := id hr12
  have q1 := hin x (some_mem hxx)
  obtain ⟨_, b19, p19, _, hxy, hA19, hM19, _, hc19, hr19⟩ := RdS.get (hVa) (k) (by omega)
  obtain ⟨rfl, _⟩ := id hr19
  refine lO ((S.k.b (hc19.keep (S.keepM.mono hsub) hM19)).b (hc12.keep (S.keepM.mono hsub) hM12)) [.x b12 p12,.f 0 0,.o 0,.x b19 p19,.f 1 0,.i] rfl ⟨by omega,rfl,⟨hA19,by omega⟩,rfl,rfl,⟨hA12,by omega⟩,⟨⟩⟩ ?_
  first | refine o_store (kk := 1) S sz_3 rfl (by conv => lhs; whnf) rfl rfl (by (simp; omega)) ?_
  intro w4_8 S4_8 X4_8
  refine lP0 rfl ⟨by omega,⟨⟩⟩ ?_
  refine ⟨μk - 1, by omega, rfl, (k + 1), (by omega), (S4_8.setEnt 1 rfl (by rw [writeTo_succ hxx hxy]; simp only [Nat.zero_add, Nat.mul_one]; exact set_pad (by simp; omega))), rfl⟩
 refine lF0 rfl ⟨⟩ (ret_none rfl ?_)
 have SF := S.setEnt 1 rfl (show _ = (writeE mem en).map (Value.int .i64) ++ pad by rw [writeTo_all _ _ (by omega)])
 exact ⟨SF.blk 1 rfl, SF.below⟩
end Go.Proofs.YtjjmdcnmeommbaaGreatDoor
namespace Go.Fw
open Go.RowKit
theorem meet_iff {o e : EntryD} : meetE o e = true ↔ ∃ c ∈ e.cells, c ∈ o.cells := by
 unfold meetE
 rw [List.any_eq_true]
 constructor
 ·rintro ⟨x, h1, h2⟩; exact ⟨x, by simpa using h2, h1⟩
 ·rintro ⟨x, h1, h2⟩; exact ⟨x, h2, by simpa using h1⟩
theorem meet_no {o e : EntryD} (h : ∀ c ∈ e.cells, c ∉ o.cells) : meetE o e = false := by
 cases hm : meetE o e with
 | false => rfl
 | true => obtain ⟨c, h1, h2⟩ := meet_iff.1 hm; exact absurd h2 (h c h1)
section
variable {p : ProgD} {m : Int} {c : ConfD} {t : Nat} {s : StepD} {a : Int} {b : List EntryD} {nb : Nat}
theorem en_base (hx : c.at_[t]? = some a) (h1 : ¬ a = s.frm) : enabledC p m c t s = false := by unfold enabledC; rw [getD_some hx]; simp [h1]
theorem en_guard (h2 : ¬ s.guard.evl (viewC c t) (viewC c t) = 1) : enabledC p m c t s = false := by unfold enabledC; simp [h2]
theorem en_3 (hm : ¬ m = 0) (hx : c.at_[t]? = some a) (h1 : a = s.frm) (h2 : s.guard.evl (viewC c t) (viewC c t) = 1) (hb : c.buf[t]? = some b) (hn : nb = b.length) (hk : s.kind = 3) (hr : s.release = false) : enabledC p m c t s = decide ((nb : Int) < 3) := by
 unfold enabledC; rw [getD_some hx, getD_some hb]; subst hn; simp [h1, h2, hk, hr, hm]; omega
theorem en_3r (hm : ¬ m = 0) (hx : c.at_[t]? = some a) (h1 : a = s.frm) (h2 : s.guard.evl (viewC c t) (viewC c t) = 1) (hb : c.buf[t]? = some b) (hn : nb = b.length) (hk : s.kind = 3) (hr : s.release = true) : enabledC p m c t s = decide ((nb : Int) = 0) := by
 unfold enabledC; rw [getD_some hx, getD_some hb]; subst hn
 cases b <;> simp [h1, h2, hk, hr, hm]
 omega
theorem en_45 (hx : c.at_[t]? = some a) (h1 : a = s.frm) (h2 : s.guard.evl (viewC c t) (viewC c t) = 1) (hb : c.buf[t]? = some b) (hn : nb = b.length) (hk : s.kind = 4 ∨ s.kind = 5) : enabledC p m c t s = decide ((nb : Int) = 0) := by
 unfold enabledC; rw [getD_some hx, getD_some hb]; subst hn
 rw [if_neg (by omega), if_neg (by omega), if_neg (by omega), if_neg (by omega)]
 cases b <;> simp [h1, h2]
 omega
theorem en_6 (hx : c.at_[t]? = some a) (h1 : a = s.frm) (h2 : s.guard.evl (viewC c t) (viewC c t) = 1) (hb : c.buf[t]? = some b) (hn : nb = b.length) (hk : s.kind = 6) {a2 : Int} (hx2 : c.at_[s.target.toNat]? = some a2) : enabledC p m c t s = (decide ((nb : Int) = 0) && decide (a2 = -1)) := by
 unfold enabledC; rw [getD_some hx, getD_some hb, getD_some hx2]; subst hn
 cases b <;> simp [h1, h2, hk]
 omega
theorem en_6n (hb : c.buf[t]? = some b) (hn : nb = b.length) (hk : s.kind = 6 ∨ s.kind = 7) (h0 : ¬ (nb : Int) = 0) : enabledC p m c t s = false := by
 unfold enabledC; rw [getD_some hb]; subst hn
 cases b with
 | nil => simp at h0
 | cons e b => rcases hk with hk | hk <;> simp [hk]
theorem en_7 (hx : c.at_[t]? = some a) (h1 : a = s.frm) (h2 : s.guard.evl (viewC c t) (viewC c t) = 1) (hb : c.buf[t]? = some b) (hn : nb = b.length) (hk : s.kind = 7) {a2 : Int} (hx2 : c.at_[s.target.toNat]? = some a2) {u : ThreadD} (hu : p.threads[s.target.toNat]? = some u) {b2 : List EntryD} {nb2 : Nat} (hb2 : c.buf[s.target.toNat]? = some b2) (hn2 : nb2 = b2.length) : enabledC p m c t s = (decide ((nb : Int) = 0) && (decide (a2 = u.points - 1) && decide ((nb2 : Int) = 0))) := by
 unfold enabledC; rw [getD_some hx, getD_some hb, getD_some hx2, getD_some hu, getD_some hb2]; subst hn; subst hn2
 cases b with
 | nil => cases b2 with
   | nil => simp [h1, h2, hk]
   | cons e b2 => simp [h1, h2, hk]; omega
 | cons e b => simp [h1, h2, hk]; omega
theorem en_7n (hk : s.kind = 7) {a2 : Int} (hx2 : c.at_[s.target.toNat]? = some a2) {u : ThreadD} (hu : p.threads[s.target.toNat]? = some u) (h0 : ¬ a2 = u.points - 1) : enabledC p m c t s = false := by
 unfold enabledC; rw [getD_some hx2, getD_some hu]; simp [hk, h0]
theorem en_12 (hx : c.at_[t]? = some a) (h1 : a = s.frm) (h2 : s.guard.evl (viewC c t) (viewC c t) = 1) (hk : s.kind = 1 ∨ s.kind = 2) : enabledC p m c t s = true := by
 unfold enabledC; rw [getD_some hx]
 rw [if_neg (by omega), if_neg (by omega), if_neg (by omega), if_pos hk]
 simp [h1, h2]
end
theorem EntOK.i64s {p : ProgD} {e : EntryD} (h : EntOK p e) : ∀ x ∈ e.cells, 0 ≤ x ∧ x < p.cells.length := fun x hx => by
 obtain ⟨i, hi, rfl⟩ := List.getElem_of_mem hx
 exact (h.cells i _ (List.getElem?_eq_getElem hi)).1
end Go.Fw
namespace Go.Proofs.YtjjmdcnmeommbaaGreatDoor
open Go.Fw Go.RowKit
theorem view_fn (p : ProgD) (hp : ProgOK p) (c : ConfD) (t : Nat) (b : List EntryD) (M : List Nat) (w0 : World) (hM : ∀ g ∈ M, g < w0.heap.size) (xs : List Value) (hX : RdConf M w0 c xs) (hf : FitC p c) (hxb : c.buf[t]? = some b) :
 Does Tryz.prog 139 #[.agg xs.toArray, .int .i64 t] w0 fun v w' => RdI M w' v (viewC c t) ∧ Below w0.heap.size w0 w' := by
 obtain ⟨Xm, xm, ym, Xa, xa, ya, Xb, xb, yb, rfl, hMem, _, hBuf, _, _, _, _, _, _⟩ := hX.open_
 have S := St.refl w0
 have f1 := hf.mem.len
 have n1 := hp.ncells
 have n2 := hp.nthreads
 have f3 := hf.nbuf
 have ht := some_lt hxb
 have hbo := (hf.bufs t b hxb).2.1
 refine dnR Tryz.func139 rfl Tryz.ntmps139 rfl ?_
 refine wO0 rfl ⟨⟩ (o_boxa S (by conv => lhs; whnf) rfl ?_)
 intro g2 w2 S2 X2 G2
 refine lO S2.k [.o 0] rfl ⟨rfl,⟨⟩⟩ (o_calln S2 has_179 rfl rfl (cloneI_fn M _ _ c.mem (hMem.keep (S2.keep0 M)) (by omega)) ?_)
 rintro v10 w10 hN S10 X10
 obtain ⟨G10, cs10, R10, S10b⟩ := hN.open_ S10 S2
 refine o_assign (by conv => lhs; whnf) rfl ?_
 obtain ⟨_, b14, p14, _, hx14, hA14, _, _, hc14, hr14⟩ := RdS.get (hBuf) (t) (by omega)
 obtain rfl := Option.some.inj (hxb.symm.trans hx14)
 obtain ⟨Ab14, nb14, cb14, rfl, hBu14, _, _⟩ := RBuf.open_ hr14
 refine lC (S10b.k.a hc14) [.o 1,.x b14 p14,.f 0 0] rfl ⟨rfl,⟨hA14,by omega⟩,rfl,⟨⟩⟩ (wL (fun μk D ε w => D = [] ∧ ∃ k : Nat, ∃ G : Option Nat, ∃ cs' : List Value, (k + μk = (b.length)) ∧ (RowV G 1 c.mem.length cs' v10 ((viewTo c b k).map (Value.int .i64))) ∧ St [] w0 w [(G, 3, cs'), (some g2, 52, [.slice Xm xm ym, .slice Xa xa ya, .slice Xb xb yb])] ∧ Sl ε [(5, v10), (15, .slice Ab14 nb14 cb14), (16, .int .i64 nb14), (17, .int .i64 k)]) (μ := (b.length)) ⟨rfl, 0, G10, cs10, by omega, by simpa [viewTo] using R10, S10b, rfl⟩ ?_)
 rintro μk D ε w ⟨rfl, k, G, cs', _, hrow, S, eZ⟩
 refine wK eZ (wB0 rfl ⟨⟩ (fun h18 => ?_) fun h18 => ?_)
 ·obtain ⟨en, b19, p19, _, hxen, hA19, _, hl19, hc19, hr19⟩ := RdS.get (hBu14) (k) (by omega)
  obtain ⟨_, _, _, _, _, _, rfl, _, _, _, _, _, _⟩ := REntry.open_ hr19
  have q1 := hbo en (some_mem hxen)
  have q2 := q1.i64s
  have q3 : 0 < c.mem.length := by
   have := q1.some_
   cases hcl : en.cells with
   | nil => exact absurd hcl this
   | cons x l => have := q2 x (by rw [hcl]; simp); omega
  refine lO (S.k.a hc19) [.x b19 p19,.v 0] rfl ⟨⟨rfl,hl19⟩,⟨hA19,by omega⟩,⟨⟩⟩ (o_alloc S zv_121 rfl rfl ?_)
  intro g7 w7 S7 X7 G7
  refine o_storeN (kk := 0) (vs := [_, _]) S7 sz_121 rfl rfl rfl rfl rfl rfl rfl ?_
  intro w4_3 S4_3 X4_3
  dsimp only [setsAt, List.set] at S4_3
  refine lOn 3 S4_3.k [] rfl ⟨⟩ (o_move (by conv => lhs; whnf) rfl ?_)
  refine lO S4_3.k [.w 0] rfl ⟨⟨rfl,by rfl⟩,⟨⟩⟩ ?_
  obtain ⟨g, pad, rfl, hv, rfl, hmx⟩ := hrow.pad (by simpa using q3)
  subst hv
  refine o_call has_177 rfl rfl (write_fn en (viewTo c b k) g _ pad (g :: M) _ _ (REntry.keep (S4_3.keep0 _) _ _ (REntry.more (own_new S4_3 (k := 1) rfl) _ _ hr19)) (by simp) (S4_3.blk 1 rfl) q1.even (fun x hx => by have := q2 x hx; simp; omega)) ?_
  rintro v23 w23 ⟨hb23, B23⟩
  have S23 := S4_3.changed1 1 rfl B23 hb23
  refine lP0 rfl ⟨by omega,⟨⟩⟩ ?_
  refine ⟨μk - 1, by omega, rfl, (k + 1), (some g), (_), (by omega), (by rw [viewTo_succ hxen]; have := RowV.ofPad (g := g) (l := writeE (viewTo c b k) en) (pad := pad) (by simpa using hmx); simpa using this), S23.tail, rfl⟩
 refine lOn 8 S.k [] rfl ⟨⟩ (o_move (by conv => lhs; whnf) rfl ?_)
 refine o_assign (by conv => lhs; whnf) rfl ?_
 refine lR0 rfl ⟨⟩ (ret_1 rfl (by conv => lhs; whnf) ?_)
 obtain rfl : k = b.length := by omega
 rw [viewTo_all hxb (Nat.le_refl _)] at hrow
 have hok := viewTo_ok hf hbo b.length
 rw [viewTo_all hxb (Nat.le_refl _)] at hok
 exact ⟨hrow.rdI S (k := 0) rfl hM (mem_i64 hp hok) (by have := hok.len; omega), S.fin⟩
theorem blocked_fn (old : List EntryD) (en : EntryD) (M : List Nat) (w0 : World) (v : Value) (es : List Value) (hO : RdBu M w0 v old) (hE : REntry M w0 es en) :
 Does Tryz.prog 175 #[v, .agg es.toArray] w0 fun v w' => v = .bool (old.any fun o => meetE o en) ∧ Below w0.heap.size w0 w' := by
 obtain ⟨A, n, cc, rfl⟩ := hO.form
 obtain ⟨_, _, _⟩ := hO.len
 obtain ⟨Ec, ec, fc, Ev, ev', fv, rfl, hCe, _, _, _, _, _⟩ := hE.open_
 have S := St.refl w0
 refine dnR Tryz.func175 rfl Tryz.ntmps175 rfl ?_
 refine wO0 rfl ⟨⟩ (o_boxa S (by conv => lhs; whnf) rfl ?_)
 intro g3 w3 S3 X3 G3
 refine lC0 rfl ⟨⟩ (wL (fun μk D ε w => D = [] ∧ ∃ k : Nat, (k + μk = (old.length)) ∧ (AllTo (old) k (fun o => meetE o en = false)) ∧ St [] w0 w [(some g3, 121, [.slice Ec ec fc, .slice Ev ev' fv])] ∧ Sl ε [(3, .pointer (some ⟨g3, 0, none⟩)), (9, .slice A n cc), (10, .int .i64 n), (11, .int .i64 k)]) (μ := (old.length)) ⟨rfl, 0, by omega, AllTo.zero, S3, rfl⟩ ?_)
 rintro μk D ε w ⟨rfl, k, _, ha, S, eZ⟩
 refine wK eZ (wB0 rfl ⟨⟩ (fun h12 => ?_) fun h12 => ?_)
 ·obtain ⟨o, b13, p13, _, hxo, hA13, _, hl13, hc13, hr13⟩ := RdS.get (hO) (k) (by omega)
  obtain ⟨Ac13, nc13, cc13, Av13, nv13, cv13, rfl, hCe13, _, _, _, _, _⟩ := REntry.open_ hr13
  refine lO (S.k.a hc13) [.x b13 p13,.v 0] rfl ⟨⟨rfl,hl13⟩,⟨hA13,by omega⟩,⟨⟩⟩ (o_alloc S zv_121 rfl rfl ?_)
  intro g6 w6 S6 X6 G6
  refine o_storeN (kk := 0) (vs := [_, _]) S6 sz_121 rfl rfl rfl rfl rfl rfl rfl ?_
  intro w3_3 S3_3 X3_3
  dsimp only [setsAt, List.set] at S3_3
  refine lC S3_3.k [.o 1] rfl ⟨rfl,⟨⟩⟩ (wL (fun μj D ε w => D = [] ∧ ∃ j : Nat, (j + μj = (en.cells.length)) ∧ (AllTo (en.cells) j (fun x => x ∉ o.cells)) ∧ St [] w0 w [(some g6, 121, [.slice Ac13 nc13 cc13, .slice Av13 nv13 cv13]), (some g3, 121, [.slice Ec ec fc, .slice Ev ev' fv])] ∧ Sl ε [(3, .pointer (some ⟨g3, 0, none⟩)), (6, .pointer (some ⟨g6, 0, none⟩)), (9, .slice A n cc), (10, .int .i64 n), (11, .int .i64 k), (16, .slice Ec ec fc), (17, .int .i64 ec), (18, .int .i64 j)]) (μ := (en.cells.length)) ⟨rfl, 0, by omega, AllTo.zero, S3_3, rfl⟩ ?_)
  rintro μj D ε w ⟨rfl, j, _, hj2, S, eZ⟩
  refine wK eZ (wB0 rfl ⟨⟩ (fun h19 => ?_) fun h19 => ?_)
  ·obtain ⟨x, b20, p20, _, hxx, hA20, _, _, hc20, hr20⟩ := RdS.get (hCe) (j) (by omega)
   obtain ⟨rfl, _⟩ := id hr20
   refine lO (S.k.a hc20) [.x b20 p20,.f 0 0,.o 0] rfl ⟨rfl,rfl,⟨hA20,by omega⟩,⟨⟩⟩ (o_callb S has_156 rfl rfl (containsI_fn M _ _ o.cells x (hCe13.keep (S.keep0 M))) (fun h25 w25 S25 X25 => ?_) (fun h25 w25 S25 X25 => ?_))
   ·exact lT rfl ⟨⟩ rfl ⟨congrArg Value.bool (Eq.symm (List.any_eq_true.2 ⟨o, some_mem hxo, meet_iff.2 ⟨x, some_mem hxx, of_decide_eq_true h25⟩⟩)), S25.fin⟩
   refine lP0 rfl ⟨by omega,⟨⟩⟩ ⟨μj - 1, by omega, rfl, (j + 1), (by omega), (hj2.succ hxx (of_decide_eq_false h25)), S25, rfl⟩
  refine lP0 rfl ⟨by omega,⟨⟩⟩ ⟨μk - 1, by omega, rfl, (k + 1), (by omega), (ha.succ hxo (meet_no (hj2.all (by omega)))), S.tail, rfl⟩
 refine lT rfl ⟨⟩ rfl ?_
 refine ⟨congrArg Value.bool ?_, S.fin⟩; symm; rw [List.any_eq_false]; intro o ho; rw [ha.all (by omega) o ho]; simp
theorem bufEnabled_fn (p : ProgD) (c : ConfD) (m : Int) (hm : m = 1 ∨ m = 2) (t i : Nat) (th : ThreadD) (s : StepD) (M : List Nat) (w0 : World) (cs xs : List Value) (vs : Value) (hI : InP p M w0 cs) (hX : RdConf M w0 c xs) (hV : RdI M w0 vs (viewC c t)) (hf : FitC p c) (hxth : p.threads[t]? = some th) (hxs : th.steps[i]? = some s) :
 Does Tryz.prog 140 #[.agg (xs ++ (cs ++ [Value.int .i64 m])).toArray, .int .i64 t, .int .i64 i, vs] w0 fun v w' => v = .bool (enabledC p m c t s) ∧ Below w0.heap.size w0 w' := by
 obtain ⟨_, _, _, _, _, _, _, _, _, _, _, _, rfl, _, _, _, hTh, _, _, _, _, _, _, _, _⟩ := hI.rd.open_
 obtain ⟨_, _, _, _, _, _, _, _, _, rfl, _, hAt, hBuf, _, hxa, _, _, b2, _⟩ := hX.open_
 obtain ⟨_, _, _, rfl⟩ := hV.form
 have S := St.refl w0
 have f2 := hf.nat
 have f3 := hf.nbuf
 have hp := hI.ok
 have ht := some_lt hxth
 have hi := some_lt hxs
 have hto := hp.thread hxth
 have hso := hto.steps s (some_mem hxs)
 have hkd := hso.kind
 have hk6 : 6 ≤ s.kind → 0 ≤ s.target ∧ s.target < p.threads.length := fun h => (hso.row.k6 h).1
 have hrel := hso.rel
 have hm0 : ¬ m = 0 := by omega
 refine dnR Tryz.func140 rfl Tryz.ntmps140 rfl ?_
 refine wO0 rfl ⟨⟩ (o_boxa S (by conv => lhs; whnf) rfl ?_)
 intro g4 w4 S4 X4 G4
 obtain ⟨_, b16, p16, _, hx16, hA16, _, _, hc16, hr16⟩ := RdS.get (hTh) (t) (by omega)
 obtain rfl := Option.some.inj (hxth.symm.trans hx16)
 obtain ⟨_, _, _, _, _, _, _, _, _, _, _, _, rfl, _, _, _, hSt16, _, _, _, _, _, _, _, _, _⟩ := RThread.open_ hr16
 obtain ⟨_, b20, p20, _, hx20, hA20, _, hl20, hc20, hr20⟩ := RdS.get (hSt16) (i) (by omega)
 obtain rfl := Option.some.inj (hxs.symm.trans hx20)
 obtain ⟨_, _, _, _, _, _, rfl, ⟨_, _, _, _, _⟩, hG20, _, _, _⟩ := RStep.open_ hr20
 refine lO ((S4.k.a hc20).a hc16) [.o 0,.x b16 p16,.f 0 4,.x b20 p20,.v 1] rfl ⟨⟨rfl,hl20⟩,⟨hA20,by omega⟩,rfl,⟨hA16,by omega⟩,rfl,⟨⟩⟩ (o_alloc S4 zv_88 rfl rfl ?_)
 intro g9 w9 S9 X9 G9
 refine o_storeN (kk := 0) (vs := [_, _, _, _, _, _, _, _, _, _, _]) S9 sz_88 rfl rfl rfl rfl rfl rfl rfl ?_
 intro w1_11 S1_11 X1_11
 dsimp only [setsAt, List.set] at S1_11
 refine lC0 rfl ⟨⟩ (W_draw fmx [0, 1, 2, 3, 4, 5, 6, 7, 8, 9, 10, 11, 12, 13, 14, 15, 16] [] [] (by kernel_rfl) rfl (Cl _ _ _ _) (Cl.start S1_11) ?_)
 obtain ⟨a, b26, p26, _, hxa, hA26, _, _, hc26, hr26⟩ := RdS.get (hAt) (t) (by omega)
 obtain ⟨rfl, _⟩ := id hr26
 refine qB (S1_11.q.a hc26) [.o 1,.x b26 p26,.f 0 0,.o 0] rfl ⟨rfl,rfl,⟨hA26,by omega⟩,rfl,⟨⟩⟩ (fun h30 => ?_) fun h30 => ?_
 ·refine qD rfl ⟨⟩ ?_
  rintro wR2 ⟨SR2, XR2⟩
  refine lT rfl ⟨⟩ rfl ⟨congrArg Value.bool ?_, SR2.fin⟩
  rw [en_base hxa h30]; done
 refine qO S1_11.q [.o 0] rfl ⟨rfl,⟨⟩⟩ (q_callr has_23 rfl rfl (fun w1 S1 X1 => eval_fn s.guard M _ _ _ _ (viewC c t) (viewC c t) (RdE.keep (S1.keep0 M) _ _ hG20) (hI.keep (S1.keep0 M)).msk (hV.keep (S1.keep0 M)) (hV.keep (S1.keep0 M))) ?_)
 refine qB0 rfl ⟨⟩ (fun h37 => ?_) fun h37 => ?_
 ·refine qD rfl ⟨⟩ ?_
  rintro wR2 ⟨SR2, XR2⟩
  refine lT rfl ⟨⟩ rfl ⟨congrArg Value.bool ?_, SR2.fin⟩
  rw [en_guard h37]; done
 refine qD rfl ⟨⟩ ?_
 rintro wR2 ⟨SR2, XR2⟩
 obtain ⟨b, b43, p43, _, hxb, hA43, _, _, hc43, hr43⟩ := RdS.get (hBuf) (t) (by omega)
 obtain ⟨_, _, _, rfl, _, hnb43, _⟩ := RBuf.open_ hr43
 have q3 := (hf.bufs t b hxb).1
 refine lB (SR2.k.a hc43) [.o 1,.x b43 p43,.f 0 0,.o 0] rfl ⟨rfl,rfl,⟨hA43,by omega⟩,rfl,⟨⟩⟩ (fun h49 => ?_) fun h49 => ?_
 ·refine lO0 rfl ⟨⟩ ?_
  cases hb58 : s.release
  ·refine o_load one_4 rfl (by exact (SR2.cell 0 rfl rfl).trans (congrArg (fun b => some (Value.bool b)) hb58)) rfl ?_
   refine lB0 rfl ⟨⟩ (fun h61 => ?_) fun h61 => ?_
   ·refine lT rfl ⟨⟩ rfl ⟨congrArg Value.bool ?_, SR2.fin⟩
    rw [en_3 hm0 hxa h30 h37 hxb hnb43 h49 hb58]; exact (decide_eq_true h61).symm
   refine lT rfl ⟨⟩ rfl ⟨congrArg Value.bool ?_, SR2.fin⟩
   rw [en_3 hm0 hxa h30 h37 hxb hnb43 h49 hb58]; exact (decide_eq_false (Int.not_lt.2 h61)).symm
  refine o_load one_4 rfl (by exact (SR2.cell 0 rfl rfl).trans (congrArg (fun b => some (Value.bool b)) hb58)) rfl ?_
  refine lB0 rfl ⟨⟩ (fun h63 => ?_) fun h63 => ?_
  ·refine lT rfl ⟨⟩ rfl ⟨congrArg Value.bool ?_, SR2.fin⟩
   rw [en_3r hm0 hxa h30 h37 hxb hnb43 h49 hb58]; exact (decide_eq_true h63).symm
  refine lT rfl ⟨⟩ rfl ⟨congrArg Value.bool ?_, SR2.fin⟩
  rw [en_3r hm0 hxa h30 h37 hxb hnb43 h49 hb58]; exact (decide_eq_false h63).symm
 refine lB0 rfl ⟨⟩ (fun h51 => ?_) fun h51 => ?_
 ·refine lB0 rfl ⟨⟩ (fun h63 => ?_) fun h63 => ?_
  ·refine lT rfl ⟨⟩ rfl ⟨congrArg Value.bool ?_, SR2.fin⟩
   rw [en_45 hxa h30 h37 hxb hnb43 (.inl h51)]; exact (decide_eq_true h63).symm
  refine lT rfl ⟨⟩ rfl ⟨congrArg Value.bool ?_, SR2.fin⟩
  rw [en_45 hxa h30 h37 hxb hnb43 (.inl h51)]; exact (decide_eq_false h63).symm
 refine lB0 rfl ⟨⟩ (fun h52 => ?_) fun h52 => ?_
 ·refine lB0 rfl ⟨⟩ (fun h63 => ?_) fun h63 => ?_
  ·refine lT rfl ⟨⟩ rfl ⟨congrArg Value.bool ?_, SR2.fin⟩
   rw [en_45 hxa h30 h37 hxb hnb43 (.inr h52)]; exact (decide_eq_true h63).symm
  refine lT rfl ⟨⟩ rfl ⟨congrArg Value.bool ?_, SR2.fin⟩
  rw [en_45 hxa h30 h37 hxb hnb43 (.inr h52)]; exact (decide_eq_false h63).symm
 refine lB0 rfl ⟨⟩ (fun h54 => ?_) fun h54 => ?_
 ·refine lB0 rfl ⟨⟩ (fun h65 => ?_) fun h65 => ?_
  ·have q6 := hk6 (by omega)
   obtain ⟨a2, b72, p72, _, hxa2, hA72, _, _, hc72, hr72⟩ := RdS.get (hAt) (s.target.toNat) (by omega)
   obtain ⟨rfl, _⟩ := id hr72
   refine lB (SR2.k.a hc72) [.o 1,.o 0,.x b72 p72,.f 0 0] rfl ⟨rfl,⟨hA72,by omega⟩,rfl,rfl,⟨⟩⟩ (fun h74 => ?_) fun h74 => ?_
   ·refine lT rfl ⟨⟩ rfl ⟨congrArg Value.bool ?_, SR2.fin⟩
    rw [en_6 hxa h30 h37 hxb hnb43 h54 hxa2]; rw [decide_eq_true h65]; (rw [decide_eq_true h74]; rfl)
   refine lT rfl ⟨⟩ rfl ⟨congrArg Value.bool ?_, SR2.fin⟩
   rw [en_6 hxa h30 h37 hxb hnb43 h54 hxa2]; rw [decide_eq_true h65]; (rw [decide_eq_false h74]; rfl)
  refine lT rfl ⟨⟩ rfl ⟨congrArg Value.bool ?_, SR2.fin⟩
  rw [en_6n hxb hnb43 (.inl h54) h65]; done
 refine lB0 rfl ⟨⟩ (fun h56 => ?_) fun h56 => ?_
 ·have q6 := hk6 (by omega)
  obtain ⟨_, b81, p81, _, hxu, hA81, _, _, hc81, hr81⟩ := RdS.get (hTh) (s.target.toNat) (by omega)
  obtain ⟨_, _, _, _, _, _, _, _, _, _, _, _, rfl, _, _, _, _, _, _, _, _, _, _, _, _, _⟩ := RThread.open_ hr81
  have q7 := (hp.thread hxu).points
  refine lB (SR2.k.a hc81) [.o 1,.o 0,.x b81 p81,.f 0 1] rfl ⟨by omega,rfl,⟨hA81,by omega⟩,rfl,rfl,⟨⟩⟩ (fun h86 => ?_) fun h86 => ?_
  ·obtain ⟨a2, b93, p93, _, hxa2, hA93, _, _, hc93, hr93⟩ := RdS.get (hAt) (s.target.toNat) (by omega)
   obtain ⟨rfl, _⟩ := id hr93
   refine lB (SR2.k.a hc93) [.o 1,.o 0,.x b93 p93,.f 0 0] rfl ⟨rfl,⟨hA93,by omega⟩,rfl,rfl,⟨⟩⟩ (fun h96 => ?_) fun h96 => ?_
   ·obtain ⟨b2, b104, p104, _, hxb2, hA104, _, _, hc104, hr104⟩ := RdS.get (hBuf) (s.target.toNat) (by omega)
    obtain ⟨_, _, _, rfl, _, hnb104, _⟩ := RBuf.open_ hr104
    refine lB (SR2.k.a hc104) [.o 1,.o 0,.x b104 p104,.f 0 0] rfl ⟨rfl,⟨hA104,by omega⟩,rfl,rfl,⟨⟩⟩ (fun h107 => ?_) fun h107 => ?_
    ·refine lT rfl ⟨⟩ rfl ⟨congrArg Value.bool ?_, SR2.fin⟩
     rw [en_7 hxa h30 h37 hxb hnb43 h56 hxa2 hxu hxb2 hnb104]; rw [decide_eq_true h86, decide_eq_true h96]; (rw [decide_eq_true h107]; rfl)
    refine lT rfl ⟨⟩ rfl ⟨congrArg Value.bool ?_, SR2.fin⟩
    rw [en_7 hxa h30 h37 hxb hnb43 h56 hxa2 hxu hxb2 hnb104]; rw [decide_eq_true h86, decide_eq_true h96]; (rw [decide_eq_false h107]; rfl)
   refine lT rfl ⟨⟩ rfl ⟨congrArg Value.bool ?_, SR2.fin⟩
   rw [en_7n h56 hxa2 hxu h96]; done
  refine lT rfl ⟨⟩ rfl ⟨congrArg Value.bool ?_, SR2.fin⟩
  rw [en_6n hxb hnb43 (.inr h56) h86]; done
 refine lT rfl ⟨⟩ rfl ⟨congrArg Value.bool ?_, SR2.fin⟩
 rw [en_12 hxa h30 h37 (by omega)]; done
end Go.Proofs.YtjjmdcnmeommbaaGreatDoor
namespace Go.Fw
open Go.RowKit
section
variable {M : List Nat} {w0 w w' : World} {L : List Ent}
theorem St.join {L2 : List Ent} (S : St M w0 w L) (S2 : St [] w w' L2) : St M w0 w' (L2 ++ L) := by
 have hnew : ∀ b ∈ L2, ∀ g, b.1 = some g → w.heap.size ≤ g ∧ hasBlk w' (g, b.2) := fun b hb g hg => by
  obtain ⟨h1, h2⟩ := S2.own b hb g hg
  rcases h1 with h1 | h1
  ·exact ⟨h1, h2⟩
  ·cases h1
 have S' := S.later S2.fin
 refine ⟨S'.below, fun b hb g hg => ?_, List.pairwise_append.2 ⟨S2.apart, S.apart, fun a ha b hb g hg hg' => ?_⟩⟩
 ·rcases List.mem_append.1 hb with h | h
  ·obtain ⟨h1, h2⟩ := hnew b h g hg
   exact ⟨.inl (Nat.le_trans S.size h1), h2⟩
  ·exact S'.own b h g hg
 ·have h1 := (hnew a ha g hg).1
  have h2 := (S.own b hb g hg').2.lt
  simp at h2; omega
theorem St.fill (S : St M w0 w L) (j : Nat) {t' : TypeId} {cs' : List Value} {g : Nat} (hb : Below w.heap.size w w') (hg : hasBlk w' (g, t', cs')) (hlo : w.heap.size ≤ g) : St M w0 w' (L.set j (some g, t', cs')) := by
 have S' := S.later hb
 have hold : ∀ b ∈ L, b.1 ≠ some g := fun b hm hh => by
  have := (S.own b hm g hh).2.lt
  simp at this; omega
 refine ⟨S'.below, fun b hm x hx => ?_, ?_⟩
 ·rcases List.mem_or_eq_of_mem_set hm with h | rfl
  ·exact S'.own b h x hx
  ·cases hx
   exact ⟨.inl (Nat.le_trans S.size hlo), hg⟩
 ·rw [List.pairwise_iff_getElem]
  intro i k hi hk hik x hx
  rw [List.length_set] at hi hk
  rw [List.getElem_set] at hx ⊢
  split at hx
  ·cases hx
   split
   ·omega
   ·exact hold _ (List.getElem_mem hk)
  ·split
   ·intro hh; cases hh; exact hold _ (List.getElem_mem hi) hx
   ·exact (List.pairwise_iff_getElem.1 S.apart) i k hi hk hik x hx
theorem St.nils (S : St M w0 w L) {R : List Ent} (hR : ∀ b ∈ R, b.1 = none) : St M w0 w (L ++ R) := by
 refine ⟨S.below, fun b hb g hg => ?_, List.pairwise_append.2 ⟨S.apart, ?_, fun a _ b hb g _ hg' => ?_⟩⟩
 ·rcases List.mem_append.1 hb with h | h
  ·exact S.own b h g hg
  ·rw [hR b h] at hg; cases hg
 ·exact List.Pairwise.imp_of_mem (fun ha _ _ g hg => (by rw [hR _ ha] at hg; cases hg)) (List.pairwise_of_forall (R := fun _ _ => True) (fun _ _ => trivial))
 ·rw [hR b hb] at hg'; cases hg'
theorem St.place {x : Ent} (S : St M w0 w (x :: L)) (j : Nat) : St M w0 w (L.set j x) := by
 obtain ⟨h1, h2⟩ := List.pairwise_cons.1 S.apart
 refine ⟨S.below, fun b hm g hg => ?_, ?_⟩
 ·rcases List.mem_or_eq_of_mem_set hm with h | rfl
  ·exact S.own b (List.mem_cons_of_mem _ h) g hg
  ·exact S.own _ (by simp) g hg
 ·rw [List.pairwise_iff_getElem]
  intro i k hi hk hik g hg
  rw [List.length_set] at hi hk
  rw [List.getElem_set] at hg ⊢
  split at hg
  ·split
   ·omega
   ·exact h1 _ (List.getElem_mem hk) g hg
  ·split
   ·intro hh; exact h1 _ (List.getElem_mem hi) g hh hg
   ·exact (List.pairwise_iff_getElem.1 h2) i k hi hk hik g hg
theorem St.front {A R : List Ent} (S : St M w0 w (A ++ R)) : St M w0 w A :=
 ⟨S.below, fun b hm => S.own b (List.mem_append_left _ hm), (List.pairwise_append.1 S.apart).1⟩
abbrev clF {A R : List Ent} (_ : St M w0 w (A ++ R)) (K : List Nat) : World → Prop := fun w1 => St M w0 w1 A ∧ Keep K w w1
end
theorem RowV.form {G : Option Nat} {size n : Nat} {cs xs : List Value} {v : Value} (h : RowV G size n cs v xs) : ∃ A n c, v = .slice A n c := by
 rcases h with ⟨_, ⟨_, rfl, _⟩ | ⟨g, cap, _, rfl, _⟩⟩
 ·exact ⟨_, _, _, rfl⟩
 ·exact ⟨_, _, _, rfl⟩
theorem getR (A rows : List Ent) (k n : Nat) (hn : A.length = n) : (A ++ rows)[n + k]? = rows[k]? := by
 subst hn; rw [List.getElem?_append_right (by omega)]; congr 1; omega
theorem setR (A rows : List Ent) (k n : Nat) (hn : A.length = n) (x : Ent) : (A ++ rows).set (n + k) x = A ++ rows.set k x := by
 subst hn; rw [List.set_append_right _ _ (by omega)]; congr 2; omega
theorem RowR.more {α : Type} {R : List Nat → World → List Value → α → Prop} {size : Nat} (hL : RdLaw R size) {M M' : List Nat} {w : World} {G : Option Nat} {cs : List Value} {v : Value} {l : List α} (h : RowR R size M w G cs v l) (hm : ∀ g ∈ M', (g ∈ G.toList ∨ g ∈ M) ∨ w.heap.size ≤ g) : RowR R size M' w G cs v l := by
 obtain ⟨css, h1, h2, h3, h4⟩ := h
 refine ⟨css, h1, h2, h3, fun i x hi => ?_⟩
 obtain ⟨c, h5, h6⟩ := h4 i x hi
 refine ⟨c, h5, hL.more (fun g hg => ?_) h6⟩
 rcases List.mem_append.1 hg with hg | hg
 ·exact .inl (List.mem_append_left _ hg)
 ·rcases hm g hg with h | h
  ·exact .inl (List.mem_append.2 h)
  ·exact .inr h
def blks (rows : List Ent) : List Nat := rows.filterMap (·.1)
theorem mem_blks {rows : List Ent} {g : Nat} : g ∈ blks rows ↔ ∃ b ∈ rows, b.1 = some g := by unfold blks; rw [List.mem_filterMap]
def RowsOK (tE : TypeId) (M : List Nat) (w : World) (rows : List Ent) (vs : List Value) (bs : List (List EntryD)) : Prop :=
 rows.length = bs.length ∧ vs.length = bs.length ∧ ∀ (i : Nat) (b : List EntryD), bs[i]? = some b → ∃ G cs v, rows[i]? = some (G, tE, cs) ∧ vs[i]? = some v ∧ RowR REntry 2 (M ++ blks rows) w G cs v b
theorem RowsOK.keep {tE : TypeId} {M : List Nat} {w w' : World} {rows : List Ent} {vs : List Value} {bs : List (List EntryD)} (h : RowsOK tE M w rows vs bs) (hk : Keep (M ++ blks rows) w w') : RowsOK tE M w' rows vs bs := by
 obtain ⟨h1, h2, h3⟩ := h
 refine ⟨h1, h2, fun i b hi => ?_⟩
 obtain ⟨G, cs, v, h4, h5, h6⟩ := h3 i b hi
 exact ⟨G, cs, v, h4, h5, h6.keep law_entry (hk.mono fun g hg => List.mem_append_right _ hg)⟩
theorem RowsOK.nil {tE : TypeId} {M : List Nat} {w : World} (n : Nat) : RowsOK tE M w (List.replicate n (none, tE, [])) (List.replicate n (.slice none 0 0)) (List.replicate n []) := by
 refine ⟨by simp, by simp, fun i b hi => ?_⟩
 obtain ⟨hlt, rfl⟩ := List.getElem?_eq_some_iff.1 hi
 simp only [List.length_replicate] at hlt
 refine ⟨none, [], .slice none 0 0, by simp [hlt], by simp [hlt], ?_⟩
 simp only [List.getElem_replicate]
 exact RowR.nil
theorem set_blk {rows : List Ent} {k : Nat} {G' : Option Nat} {tE : TypeId} {cs' : List Value} {g : Nat} (h : g ∈ blks (rows.set k (G', tE, cs'))) : g ∈ blks rows ∨ g ∈ G'.toList := by
 obtain ⟨b, hb, hg⟩ := mem_blks.1 h
 rcases List.mem_or_eq_of_mem_set hb with h | rfl
 ·exact .inl (mem_blks.2 ⟨b, h, hg⟩)
 ·right; cases hg; simp
theorem RowsOK.put {tE : TypeId} {M : List Nat} {w w1 : World} {rows : List Ent} {vs : List Value} {bs : List (List EntryD)} (h : RowsOK tE M w rows vs bs) {k : Nat} {G G' : Option Nat} {cs cs' : List Value} {v' : Value} {b' : List EntryD} (hk : k < bs.length)
 (hrow : RowR REntry 2 (M ++ blks rows) w1 G' cs' v' b') (X : Keep G.toList w w1) (F : ∀ g ∈ G'.toList, g ∈ G.toList ∨ w.heap.size ≤ g) (hrk : rows[k]? = some (G, tE, cs)) : RowsOK tE M w1 (rows.set k (G', tE, cs')) (vs.set k v') (bs.set k b') := by
 obtain ⟨h1, h2, h3⟩ := h
 have hGb : ∀ g ∈ G.toList, g ∈ blks rows := fun g hg => mem_blks.2 ⟨_, List.mem_of_getElem? hrk, by cases G <;> simp at hg ⊢; exact hg.symm⟩
 have hsub : ∀ g ∈ M ++ blks (rows.set k (G', tE, cs')), (g ∈ M ++ blks rows ∨ g ∈ G'.toList) := fun g hg => by
  rcases List.mem_append.1 hg with h | h
  ·exact .inl (List.mem_append_left _ h)
  ·rcases set_blk h with h | h
   ·exact .inl (List.mem_append_right _ h)
   ·exact .inr h
 refine ⟨by simp [h1], by simp [h2], fun i b hi => ?_⟩
 rw [List.getElem?_set] at hi
 by_cases hik : k = i
 ·subst hik
  rw [if_pos rfl, if_pos hk] at hi
  cases hi
  exact ⟨G', cs', v', by rw [List.getElem?_set_self (by omega)], by rw [List.getElem?_set_self (by omega)], hrow.more law_entry fun g hg => by
   rcases hsub g hg with h | h
   ·exact .inl (.inr h)
   ·exact .inl (.inl h)⟩
 ·rw [if_neg hik] at hi
  obtain ⟨Gi, csi, vi, h4, h5, h6⟩ := h3 i b hi
  refine ⟨Gi, csi, vi, by rw [List.getElem?_set_ne hik]; exact h4, by rw [List.getElem?_set_ne hik]; exact h5, ?_⟩
  have e1 : RowR REntry 2 (G.toList ++ (M ++ blks (rows.set k (G', tE, cs')))) w Gi csi vi b := h6.more law_entry fun g hg => by
   rcases List.mem_append.1 hg with h | h
   ·exact .inl (.inr (List.mem_append_right _ (hGb g h)))
   ·rcases hsub g h with h | h
    ·exact .inl (.inr h)
    ·rcases F g h with h | h
     ·exact .inl (.inr (List.mem_append_right _ (hGb g h)))
     ·exact .inr h
  exact (e1.keep law_entry (X.mono fun g hg => List.mem_append_right _ (List.mem_append_left _ hg))).more law_entry fun g hg => .inl (.inr (List.mem_append_right _ hg))
theorem RowsOK.rd {tE : TypeId} {M M' Mx : List Nat} {w0 w : World} {A rows : List Ent} {vs : List Value} {bs : List (List EntryD)} (h : RowsOK tE M w rows vs bs) (S : St M' w0 w (A ++ rows)) (hx : ∀ g ∈ Mx, g ∈ M) (hM : ∀ g ∈ Mx, g ∉ blks rows) (hl : ∀ b ∈ bs, b.length ≤ 1000) :
 ∀ (i : Nat) (b : List EntryD), bs[i]? = some b → ∃ v, vs[i]? = some v ∧ RdBu Mx w v b := fun i b hi => by
 obtain ⟨_, _, h3⟩ := h
 obtain ⟨G, cs, v, h4, h5, h6⟩ := h3 i b hi
 refine ⟨v, h5, ?_⟩
 have h7 : RowR REntry 2 Mx w G cs v b := h6.more law_entry fun g hg => .inl (.inr (List.mem_append_left _ (hx g hg)))
 refine h7.rd law_entry S (k := A.length + i) (el := tE) (by rw [getR A rows i _ rfl]; exact h4) (fun g hg hm => hM g hm (mem_blks.2 ⟨_, List.mem_of_getElem? h4, hg⟩)) (by have := hl b (List.mem_of_getElem? hi); omega)
theorem St.rdBs {M M' : List Nat} {w0 w : World} {L : List Ent} (S : St M' w0 w L) (j : Nat) {g t : Nat} {vs : List Value} {bs : List (List EntryD)} (hj : L[j]? = some (some g, t, vs)) (hg : g ∉ M) (hbig : bs.length ≤ 140737488355328) (h : ∀ (i : Nat) (b : List EntryD), bs[i]? = some b → ∃ v, vs[i]? = some v ∧ RdBu M w v b) : RdBs M w (.slice (some ⟨g, 0, none⟩) bs.length bs.length) bs :=
 S.rd1 hj hg rfl hbig fun i x hi => by
  obtain ⟨v, h1, h2⟩ := h i x hi
  exact ⟨v, h1, v, rfl, h2⟩
theorem RowsOK.less {tE : TypeId} {M M' : List Nat} {w : World} {rows : List Ent} {vs : List Value} {bs : List (List EntryD)} (h : RowsOK tE M w rows vs bs) (hm : ∀ g ∈ M', g ∈ M) : RowsOK tE M' w rows vs bs := by
 obtain ⟨h1, h2, h3⟩ := h
 refine ⟨h1, h2, fun i b hi => ?_⟩
 obtain ⟨G, cs, v, h4, h5, h6⟩ := h3 i b hi
 exact ⟨G, cs, v, h4, h5, h6.more law_entry fun g hg => .inl (.inr (by
  rcases List.mem_append.1 hg with h | h
  ·exact List.mem_append_left _ (hm g h)
  ·exact List.mem_append_right _ h))⟩
theorem set_some {α : Type} {l : List α} {k : Nat} {x : α} (h : l[k]? = some x) : l.set k x = l := by
 obtain ⟨hlt, rfl⟩ := List.getElem?_eq_some_iff.1 h
 exact List.set_getElem_self hlt
theorem fillTo_get {α : Type} {l : List α} {z : α} {k : Nat} (h : k < l.length) : (fillTo l z k)[k]? = some z := by
 unfold fillTo
 rw [List.getElem?_append_right (by simp; omega), List.getElem?_replicate, if_pos (by simp; omega)]
theorem RdI.i64s {M : List Nat} {w : World} {v : Value} {l : List Int} (h : RdI M w v l) : ∀ x ∈ l, i64 x := fun x hx => by
 obtain ⟨_, _, _, rfl⟩ := h.form
 obtain ⟨i, hi, rfl⟩ := List.getElem_of_mem hx
 obtain ⟨_, _, _, _, h5⟩ := h.at
 obtain ⟨_, _, _, _, hel⟩ := h5 (by omega)
 obtain ⟨_, _, _, h6⟩ := hel i _ (List.getElem?_eq_getElem hi)
 exact h6.2
theorem NewRow.rd {el : Nat} {w w1 : World} {v : Value} {l : List Int} (h : NewRow el w w1 v l) {M : List Nat} (hM : ∀ g ∈ M, g < w.heap.size) (hl : ∀ x ∈ l, i64 x) (hb : Below w.heap.size w w1) (hbig : l.length ≤ 140737488355328) : RdI M w1 v l := by
 obtain ⟨_, _, h1, S⟩ := h.open_ ((St.refl w).later hb) (St.refl w)
 exact h1.rdI S (k := 0) rfl hM hl hbig
theorem St.sublist {M : List Nat} {w0 w : World} {L L' : List Ent} (S : St M w0 w L) (h : L'.Sublist L) : St M w0 w L' := ⟨S.below, fun b hb => S.own b (h.subset hb), S.apart.sublist h⟩
theorem St.perm {M : List Nat} {w0 w : World} {L L' : List Ent} (S : St M w0 w L) (h : L.Perm L') : St M w0 w L' :=
 ⟨S.below, fun b hb => S.own b (h.symm.subset hb), (h.pairwise_iff (fun hxy g hg hg' => hxy g hg' hg)).1 S.apart⟩
theorem St.joinR {M : List Nat} {w0 w w' : World} {L A R : List Ent} (S : St M w0 w L) (S2 : St [] w w' (A ++ R)) : St M w0 w' ((A ++ L) ++ R) := by
 refine (S.join S2).perm ?_
 rw [List.append_assoc, List.append_assoc]
 exact (List.perm_append_comm).append_left A
theorem RowR.erase {α : Type} {R : List Nat → World → List Value → α → Prop} {size : Nat} (hL : RdLaw R size) {M : List Nat} {w w1 : World} {G : Option Nat} {cs' : List Value} {v : Value} {l : List α} {css : List (List Value)} (l1 : css.length = l.length) (l2 : ∀ x ∈ css, x.length = size) (l4 : ∀ (i : Nat) (x : α), l[i]? = some x → ∃ c, css[i]? = some c ∧ R (G.toList ++ M) w c x)
 {i : Nat} (hi : i < l.length) (rv : RowV G size (l.length - 1) cs' v (css.eraseIdx i).flatten) (hk : Keep (G.toList ++ M) w w1) : RowR R size M w1 G cs' v (l.eraseIdx i) := by
 have hle : (l.eraseIdx i).length = l.length - 1 := by rw [List.length_eraseIdx, if_pos hi]
 refine ⟨css.eraseIdx i, by rw [hle, List.length_eraseIdx, if_pos (by omega), l1], fun x hx => l2 x (List.mem_of_mem_eraseIdx hx), by rw [hle]; exact rv, fun k x hx => ?_⟩
 rw [List.getElem?_eraseIdx] at hx ⊢
 split
 ·rename_i h
  rw [if_pos h] at hx
  obtain ⟨c, h5, h6⟩ := l4 k x hx
  exact ⟨c, h5, hL.keep hk h6⟩
 ·rename_i h
  rw [if_neg h] at hx
  obtain ⟨c, h5, h6⟩ := l4 (k + 1) x hx
  exact ⟨c, h5, hL.keep hk h6⟩
theorem row_one {M : List Nat} {w : World} {G : Option Nat} {l : List EntryD} {css : List (List Value)} (l1 : css.length = l.length) (l4 : ∀ (i : Nat) (x : EntryD), l[i]? = some x → ∃ c, css[i]? = some c ∧ REntry (G.toList ++ M) w c x) : ∀ u ∈ css.flatten, u.oneCell' = true := fun u hu => by
 obtain ⟨x, hx, hu⟩ := List.mem_flatten.1 hu
 obtain ⟨i, hi, rfl⟩ := List.getElem_of_mem hx
 obtain ⟨c, h5, h6⟩ := l4 i l[i] (List.getElem?_eq_getElem (by omega))
 rw [List.getElem?_eq_getElem hi] at h5; cases h5
 exact law_entry.one h6 u hu
theorem St.apartM {w0 w : World} {A rows : List Ent} (S : St [] w0 w (A ++ rows)) {M : List Nat} (hM : ∀ g ∈ M, g < w0.heap.size) : ∀ g ∈ M, g ∉ blks rows := fun g hg hb => by
 obtain ⟨x, hx, hg'⟩ := mem_blks.1 hb
 have h2 := hM g hg
 rcases (S.own x (List.mem_append_right _ hx) g hg').1 with h | h
 ·omega
 ·cases h
theorem Keep.fresh2 {a b c : World} {Q : List Nat} {g : Nat} (h : Keep Q a b) (k : Keep [g] b c) (hg : a.heap.size ≤ g ∨ g ∈ Q) : Keep Q a c :=
 ⟨Nat.le_trans h.size k.size, fun i hi hm => (k.same i (Nat.lt_of_lt_of_le hi h.size) (fun hh => by rw [List.mem_singleton] at hh; subst hh; rcases hg with hg | hg; omega; exact hm hg)).trans (h.same i hi hm)⟩
theorem Keep.freshL {a b c : World} {Q Gs : List Nat} (h : Keep Q a b) (k : Keep Gs b c) (hg : ∀ g ∈ Gs, a.heap.size ≤ g ∨ g ∈ Q) : Keep Q a c :=
 ⟨Nat.le_trans h.size k.size, fun i hi hm => (k.same i (Nat.lt_of_lt_of_le hi h.size) (fun hh => by rcases hg i hh with hg | hg; omega; exact hm hg)).trans (h.same i hi hm)⟩
end Go.Fw
namespace Go.Proofs.YtjjmdcnmeommbaaGreatDoor
open Go.Fw Go.RowKit
def NewConf (M : List Nat) (w0 w : World) (c : ConfD) (v : Value) : Prop :=
 ∃ (Gm Ga : Option Nat) (csm csa : List Value) (vm va : Value) (gb : Nat) (rows : List Ent) (vs : List Value), v = .agg #[vm, va, .slice (some ⟨gb, 0, none⟩) c.buf.length c.buf.length] ∧ RowV Gm 1 c.mem.length csm vm (c.mem.map (Value.int .i64)) ∧ RowV Ga 1 c.at_.length csa va (c.at_.map (Value.int .i64)) ∧
  St [] w0 w ([(some gb, 118, vs), (Ga, 3, csa), (Gm, 3, csm)] ++ rows) ∧ RowsOK 121 (Gm.toList ++ (Ga.toList ++ (gb :: M))) w rows vs c.buf
theorem opt_lt {M : List Nat} {w0 w : World} {L : List Ent} (S : St M w0 w L) {G : Option Nat} {t : TypeId} {cs : List Value} {k : Nat} (hk : L[k]? = some (G, t, cs)) : ∀ g ∈ G.toList, g < w.heap.size := fun g hg => by
 have : G = some g := by cases G <;> simp at hg ⊢; exact hg.symm
 subst this
 exact S.lt k hk
theorem cloneR_fn (Mx M : List Nat) (w0 : World) (v : Value) (l : List Int) (hR : RdI M w0 v l) (hl : l.length ≤ 100000000) (hM : ∀ g ∈ Mx, g < w0.heap.size) :
 Does Tryz.prog 179 #[v] w0 fun v w' => RdI Mx w' v l ∧ Below w0.heap.size w0 w' :=
 (cloneI_fn M w0 v l hR hl).mono fun _ _ h => ⟨h.1.rd hM hR.i64s h.2 (by omega), h.2⟩
theorem clone_fn (p : ProgD) (hp : ProgOK p) (c : ConfD) (M : List Nat) (w0 : World) (hM : ∀ g ∈ M, g < w0.heap.size) (xs : List Value) (hX : RdConf M w0 c xs) (hf : FitC p c) :
 Does Tryz.prog 176 #[.agg xs.toArray] w0 fun v w' => NewConf M w0 w' c v ∧ Below w0.heap.size w0 w' := by
 obtain ⟨Xm, xm, ym, Xa, xa, ya, Xb, xb, yb, rfl, hMem, hAt, hBuf, _, _, hnb, _, _, _⟩ := hX.open_
 have S := St.refl w0
 have f1 := hf.mem.len
 have f2 := hf.nat
 have n1 := hp.ncells
 have n2 := hp.nthreads
 have f3 := hf.nbuf
 refine dnR Tryz.func176 rfl Tryz.ntmps176 rfl ?_
 refine wO0 rfl ⟨⟩ (o_boxa S (by conv => lhs; whnf) rfl ?_)
 intro g1 w1 S1 X1 G1
 refine o_alloc S1 zv_52 rfl rfl ?_
 intro g2 w2 S2 X2 G2
 refine lC0 rfl ⟨⟩ (W_any fmx (by kernel_rfl) (fun f ε w => ε 1 = .pointer (some ⟨g1, 0, none⟩) ∧ ε 2 = .pointer (some ⟨g2, 0, none⟩) ∧ ∃ E11 E9 E5 E2 : Ent, St [] w0 w [E11, E9, E5, E2, (some g2, 52, [.slice none 0 0, .slice none 0 0, .slice none 0 0]), (some g1, 52, [.slice Xm xm ym, .slice Xa xa ya, .slice Xb xb yb])] ∧ (f 0 = true → ε 8 = .pointer (some ⟨g1, 0, none⟩)) ∧ (f 1 = true → ε 9 = .slice Xm xm ym) ∧ (f 2 = true → ∃ G cs A n c', ε 10 = .slice A n c' ∧ E2 = (G, 3, cs) ∧ RowV G 1 c.mem.length cs (.slice A n c') (c.mem.map (Value.int .i64))) ∧ (f 3 = true → ε 11 = .pointer (some ⟨g1, 1, none⟩)) ∧ (f 4 = true → ε 12 = .slice Xa xa ya) ∧ (f 5 = true → ∃ G cs A n c', ε 13 = .slice A n c' ∧ E5 = (G, 3, cs) ∧ RowV G 1 c.at_.length cs (.slice A n c') (c.at_.map (Value.int .i64))) ∧ (f 6 = true → ε 14 = .pointer (some ⟨g1, 2, none⟩)) ∧ (f 7 = true → ε 15 = .slice Xb xb yb) ∧ (f 8 = true → ε 16 = .int .i64 xb) ∧ (f 9 = true → ∃ g, ε 17 = .slice (some ⟨g, 0, none⟩) xb xb ∧ E9 = (some g, 118, List.replicate xb (.slice none 0 0))) ∧ (f 10 = true → (f 2 = true ∧ f 5 = true ∧ f 9 = true) ∧ ε 18 = .agg #[ε 10, ε 13, ε 17]) ∧ (f 11 = true → f 12 = false → ∃ g, ε 3 = .pointer (some ⟨g, 0, none⟩) ∧ E11 = (some g, 52, [.slice none 0 0, .slice none 0 0, .slice none 0 0])) ∧ (f 12 = true → (∀ k, k < 12 → f k = true) ∧ ∃ g, ε 3 = .pointer (some ⟨g, 0, none⟩) ∧ E11 = (some g, 52, [ε 10, ε 13, ε 17]))) ?_ ?_ ?_)
 ·exact ⟨rfl, rfl, (none, 0, []), (none, 0, []), (none, 0, []), (none, 0, []), ((((S2.drew.nilEnt 0).nilEnt 0).nilEnt 0).nilEnt 0), by simp, by simp, by simp, by simp, by simp, by simp, by simp, by simp, by simp, by simp, by simp, by simp, by simp⟩
 ·rintro f ε w i o ⟨e1, e2, E11, E9, E5, E2, S, h0, h1, h2, h3, h4, h5, h6, h7, h8, h9, h10, h11, h12⟩ ho hfi hpr
  have hi : i < 13 := (List.getElem?_eq_some_iff.1 ho).1
  refine WL_known 1 e1 (WL_known 2 e2 ?_)
  rcases (show i = 0 ∨ i = 1 ∨ i = 2 ∨ i = 3 ∨ i = 4 ∨ i = 5 ∨ i = 6 ∨ i = 7 ∨ i = 8 ∨ i = 9 ∨ i = 10 ∨ i = 11 ∨ i = 12 by omega) with rfl | rfl | rfl | rfl | rfl | rfl | rfl | rfl | rfl | rfl | rfl | rfl | rfl
  ·cases ho
   refine o_fieldAddr fa_52_0 rfl rfl ?_
   refine WL_nil ⟨rfl, rfl, rfl, E11, E9, E5, E2, S, fun _ => rfl, fun hh => h1 (by simpa using hh), fun hh => h2 (by simpa using hh), fun hh => h3 (by simpa using hh), fun hh => h4 (by simpa using hh), fun hh => h5 (by simpa using hh), fun hh => h6 (by simpa using hh), fun hh => h7 (by simpa using hh), fun hh => h8 (by simpa using hh), fun hh => h9 (by simpa using hh), fun hh => ⟨⟨by simp [(h10 (by simpa using hh)).1.1], by simp [(h10 (by simpa using hh)).1.2.1], by simp [(h10 (by simpa using hh)).1.2.2]⟩, (h10 (by simpa using hh)).2⟩, fun hh hh' => h11 (by simpa using hh) (by simpa using hh'), fun hh => absurd ((h12 (by simpa using hh)).1 0 (by omega)) (by simp [hfi])⟩
  ·cases ho
   refine WL_known 8 (h0 (hpr 0 (by decide))) ?_
   refine o_load one_49 rfl (S.cell 5 rfl rfl) rfl ?_
   refine WL_nil ⟨rfl, rfl, rfl, E11, E9, E5, E2, S, fun _ => rfl, fun _ => rfl, fun hh => h2 (by simpa using hh), fun hh => h3 (by simpa using hh), fun hh => h4 (by simpa using hh), fun hh => h5 (by simpa using hh), fun hh => h6 (by simpa using hh), fun hh => h7 (by simpa using hh), fun hh => h8 (by simpa using hh), fun hh => h9 (by simpa using hh), fun hh => ⟨⟨by simp [(h10 (by simpa using hh)).1.1], by simp [(h10 (by simpa using hh)).1.2.1], by simp [(h10 (by simpa using hh)).1.2.2]⟩, (h10 (by simpa using hh)).2⟩, fun hh hh' => h11 (by simpa using hh) (by simpa using hh'), fun hh => absurd ((h12 (by simpa using hh)).1 1 (by omega)) (by simp [hfi])⟩
  ·cases ho
   refine WL_known 9 (h1 (hpr 1 (by decide))) ?_
   refine o_call has_179 rfl rfl (cloneI_fn M _ _ c.mem (hMem.keep (S.keep0 M)) (by omega)) ?_
   rintro v w1 ⟨hN, hB⟩
   obtain ⟨G, cs', R1, S1⟩ := hN.open_ (S.later hB) S
   obtain ⟨A, n, c', rfl⟩ := R1.form
   refine WL_nil ⟨rfl, rfl, rfl, E11, E9, E5, (G, 3, cs'), S1.place 3, fun hh => h0 (by simpa using hh), fun _ => rfl, fun _ => ⟨G, cs', A, n, c', rfl, rfl, R1⟩, fun hh => h3 (by simpa using hh), fun hh => h4 (by simpa using hh), fun hh => h5 (by simpa using hh), fun hh => h6 (by simpa using hh), fun hh => h7 (by simpa using hh), fun hh => h8 (by simpa using hh), fun hh => h9 (by simpa using hh), fun hh => absurd (h10 (by simpa using hh)).1.1 (by simp [hfi]), fun hh hh' => h11 (by simpa using hh) (by simpa using hh'), fun hh => absurd ((h12 (by simpa using hh)).1 2 (by omega)) (by simp [hfi])⟩
  ·cases ho
   refine o_fieldAddr fa_52_1 rfl rfl ?_
   refine WL_nil ⟨rfl, rfl, rfl, E11, E9, E5, E2, S, fun hh => h0 (by simpa using hh), fun hh => h1 (by simpa using hh), fun hh => h2 (by simpa using hh), fun _ => rfl, fun hh => h4 (by simpa using hh), fun hh => h5 (by simpa using hh), fun hh => h6 (by simpa using hh), fun hh => h7 (by simpa using hh), fun hh => h8 (by simpa using hh), fun hh => h9 (by simpa using hh), fun hh => ⟨⟨by simp [(h10 (by simpa using hh)).1.1], by simp [(h10 (by simpa using hh)).1.2.1], by simp [(h10 (by simpa using hh)).1.2.2]⟩, (h10 (by simpa using hh)).2⟩, fun hh hh' => h11 (by simpa using hh) (by simpa using hh'), fun hh => absurd ((h12 (by simpa using hh)).1 3 (by omega)) (by simp [hfi])⟩
  ·cases ho
   refine WL_known 11 (h3 (hpr 3 (by decide))) ?_
   refine o_load one_49 rfl (S.cell 5 rfl rfl) rfl ?_
   refine WL_nil ⟨rfl, rfl, rfl, E11, E9, E5, E2, S, fun hh => h0 (by simpa using hh), fun hh => h1 (by simpa using hh), fun hh => h2 (by simpa using hh), fun _ => rfl, fun _ => rfl, fun hh => h5 (by simpa using hh), fun hh => h6 (by simpa using hh), fun hh => h7 (by simpa using hh), fun hh => h8 (by simpa using hh), fun hh => h9 (by simpa using hh), fun hh => ⟨⟨by simp [(h10 (by simpa using hh)).1.1], by simp [(h10 (by simpa using hh)).1.2.1], by simp [(h10 (by simpa using hh)).1.2.2]⟩, (h10 (by simpa using hh)).2⟩, fun hh hh' => h11 (by simpa using hh) (by simpa using hh'), fun hh => absurd ((h12 (by simpa using hh)).1 4 (by omega)) (by simp [hfi])⟩
  ·cases ho
   refine WL_known 12 (h4 (hpr 4 (by decide))) ?_
   refine o_call has_179 rfl rfl (cloneI_fn M _ _ c.at_ (hAt.keep (S.keep0 M)) (by omega)) ?_
   rintro v w1 ⟨hN, hB⟩
   obtain ⟨G, cs', R1, S1⟩ := hN.open_ (S.later hB) S
   obtain ⟨A, n, c', rfl⟩ := R1.form
   refine WL_nil ⟨rfl, rfl, rfl, E11, E9, (G, 3, cs'), E2, S1.place 2, fun hh => h0 (by simpa using hh), fun hh => h1 (by simpa using hh), fun hh => h2 (by simpa using hh), fun hh => h3 (by simpa using hh), fun _ => rfl, fun _ => ⟨G, cs', A, n, c', rfl, rfl, R1⟩, fun hh => h6 (by simpa using hh), fun hh => h7 (by simpa using hh), fun hh => h8 (by simpa using hh), fun hh => h9 (by simpa using hh), fun hh => absurd (h10 (by simpa using hh)).1.2.1 (by simp [hfi]), fun hh hh' => h11 (by simpa using hh) (by simpa using hh'), fun hh => absurd ((h12 (by simpa using hh)).1 5 (by omega)) (by simp [hfi])⟩
  ·cases ho
   refine o_fieldAddr fa_52_2 rfl rfl ?_
   refine WL_nil ⟨rfl, rfl, rfl, E11, E9, E5, E2, S, fun hh => h0 (by simpa using hh), fun hh => h1 (by simpa using hh), fun hh => h2 (by simpa using hh), fun hh => h3 (by simpa using hh), fun hh => h4 (by simpa using hh), fun hh => h5 (by simpa using hh), fun _ => rfl, fun hh => h7 (by simpa using hh), fun hh => h8 (by simpa using hh), fun hh => h9 (by simpa using hh), fun hh => ⟨⟨by simp [(h10 (by simpa using hh)).1.1], by simp [(h10 (by simpa using hh)).1.2.1], by simp [(h10 (by simpa using hh)).1.2.2]⟩, (h10 (by simpa using hh)).2⟩, fun hh hh' => h11 (by simpa using hh) (by simpa using hh'), fun hh => absurd ((h12 (by simpa using hh)).1 6 (by omega)) (by simp [hfi])⟩
  ·cases ho
   refine WL_known 14 (h6 (hpr 6 (by decide))) ?_
   refine o_load one_50 rfl (S.cell 5 rfl rfl) rfl ?_
   refine WL_nil ⟨rfl, rfl, rfl, E11, E9, E5, E2, S, fun hh => h0 (by simpa using hh), fun hh => h1 (by simpa using hh), fun hh => h2 (by simpa using hh), fun hh => h3 (by simpa using hh), fun hh => h4 (by simpa using hh), fun hh => h5 (by simpa using hh), fun _ => rfl, fun _ => rfl, fun hh => h8 (by simpa using hh), fun hh => h9 (by simpa using hh), fun hh => ⟨⟨by simp [(h10 (by simpa using hh)).1.1], by simp [(h10 (by simpa using hh)).1.2.1], by simp [(h10 (by simpa using hh)).1.2.2]⟩, (h10 (by simpa using hh)).2⟩, fun hh hh' => h11 (by simpa using hh) (by simpa using hh'), fun hh => absurd ((h12 (by simpa using hh)).1 7 (by omega)) (by simp [hfi])⟩
  ·cases ho
   refine WL_known 15 (h7 (hpr 7 (by decide))) ?_
   refine o_len slz_50.slT rfl rfl ?_
   refine WL_nil ⟨rfl, rfl, rfl, E11, E9, E5, E2, S, fun hh => h0 (by simpa using hh), fun hh => h1 (by simpa using hh), fun hh => h2 (by simpa using hh), fun hh => h3 (by simpa using hh), fun hh => h4 (by simpa using hh), fun hh => h5 (by simpa using hh), fun hh => h6 (by simpa using hh), fun _ => rfl, fun _ => rfl, fun hh => h9 (by simpa using hh), fun hh => ⟨⟨by simp [(h10 (by simpa using hh)).1.1], by simp [(h10 (by simpa using hh)).1.2.1], by simp [(h10 (by simpa using hh)).1.2.2]⟩, (h10 (by simpa using hh)).2⟩, fun hh hh' => h11 (by simpa using hh) (by simpa using hh'), fun hh => absurd ((h12 (by simpa using hh)).1 8 (by omega)) (by simp [hfi])⟩
  ·cases ho
   refine WL_known 16 (h8 (hpr 8 (by decide))) ?_
   refine o_make (n := xb) (c := xb) S slz_50 rfl rfl (by omega) (by omega) (by omega) rfl rfl ?_
   intro g w1 S1 X1 G1
   refine WL_nil ⟨rfl, rfl, rfl, E11, (some g, 118, List.replicate xb (.slice none 0 0)), E5, E2, S1.place 1, fun hh => h0 (by simpa using hh), fun hh => h1 (by simpa using hh), fun hh => h2 (by simpa using hh), fun hh => h3 (by simpa using hh), fun hh => h4 (by simpa using hh), fun hh => h5 (by simpa using hh), fun hh => h6 (by simpa using hh), fun hh => h7 (by simpa using hh), fun _ => rfl, fun _ => ⟨g, rfl, rfl⟩, fun hh => absurd (h10 (by simpa using hh)).1.2.2 (by simp [hfi]), fun hh hh' => h11 (by simpa using hh) (by simpa using hh'), fun hh => absurd ((h12 (by simpa using hh)).1 9 (by omega)) (by simp [hfi])⟩
  ·cases ho
   obtain ⟨G2, cs2, A2, n2, c2, q2, r2⟩ := h2 (hpr 2 (by decide))
   obtain ⟨G5, cs5, A5, n5, c5, q5, r5⟩ := h5 (hpr 5 (by decide))
   obtain ⟨g9, q9, r9⟩ := h9 (hpr 9 (by decide))
   refine WL_known 10 q2 (WL_known 13 q5 (WL_known 17 q9 ?_))
   refine o_build bld_52 (vs := [(0, .slice _ _ _), (1, .slice _ _ _), (2, .slice _ _ _)]) (cs := [_, _, _]) rfl rfl rfl rfl ?_
   refine WL_nil ⟨rfl, rfl, rfl, E11, E9, E5, E2, S, fun hh => h0 (by simpa using hh), fun hh => h1 (by simpa using hh), fun _ => ⟨G2, cs2, A2, n2, c2, rfl, r2⟩, fun hh => h3 (by simpa using hh), fun hh => h4 (by simpa using hh), fun _ => ⟨G5, cs5, A5, n5, c5, rfl, r5⟩, fun hh => h6 (by simpa using hh), fun hh => h7 (by simpa using hh), fun hh => h8 (by simpa using hh), fun _ => ⟨g9, rfl, r9⟩, fun _ => ⟨⟨by simp [hpr 2 (by decide)], by simp [hpr 5 (by decide)], by simp [hpr 9 (by decide)]⟩, rfl⟩, fun hh hh' => h11 (by simpa using hh) (by simpa using hh'), fun hh => absurd ((h12 (by simpa using hh)).1 10 (by omega)) (by simp [hfi])⟩
  ·cases ho
   refine o_alloc S zv_52 rfl rfl ?_
   intro g w1 S1 X1 G1
   refine WL_nil ⟨rfl, rfl, rfl, (some g, 52, [.slice none 0 0, .slice none 0 0, .slice none 0 0]), E9, E5, E2, S1.place 0, fun hh => h0 (by simpa using hh), fun hh => h1 (by simpa using hh), fun hh => h2 (by simpa using hh), fun hh => h3 (by simpa using hh), fun hh => h4 (by simpa using hh), fun hh => h5 (by simpa using hh), fun hh => h6 (by simpa using hh), fun hh => h7 (by simpa using hh), fun hh => h8 (by simpa using hh), fun hh => h9 (by simpa using hh), fun hh => ⟨⟨by simp [(h10 (by simpa using hh)).1.1], by simp [(h10 (by simpa using hh)).1.2.1], by simp [(h10 (by simpa using hh)).1.2.2]⟩, (h10 (by simpa using hh)).2⟩, fun _ _ => ⟨g, rfl, rfl⟩, fun hh => absurd ((h12 (by simpa using hh)).1 11 (by omega)) (by simp [hfi])⟩
  ·cases ho
   have hall : ∀ k, k < 12 → f k = true := fun k hk => hpr k (by revert k; decide)
   obtain ⟨g, q3, rfl⟩ := h11 (hall 11 (by omega)) hfi
   have q10 := (h10 (hall 10 (by omega))).2
   obtain ⟨G2, cs2, A2, n2, c2, q2, r2⟩ := h2 (hall 2 (by omega))
   obtain ⟨G5, cs5, A5, n5, c5, q5, r5⟩ := h5 (hall 5 (by omega))
   obtain ⟨g9, q9, r9⟩ := h9 (hall 9 (by omega))
   rw [q2, q5, q9] at q10
   refine WL_known 10 q2 (WL_known 13 q5 (WL_known 17 q9 (WL_known 3 q3 (WL_known 18 q10 ?_))))
   refine o_storeN (kk := 0) (vs := [_, _, _]) S sz_52 rfl rfl rfl rfl rfl rfl rfl ?_
   intro w1 S1 X1
   dsimp only [setsAt, List.set] at S1
   refine WL_nil ⟨rfl, rfl, rfl, (some g, 52, [.slice A2 n2 c2, .slice A5 n5 c5, .slice (some ⟨g9, 0, none⟩) xb xb]), E9, E5, E2, S1, fun hh => h0 (by simpa using hh), fun hh => h1 (by simpa using hh), fun _ => ⟨G2, cs2, A2, n2, c2, rfl, r2⟩, fun hh => h3 (by simpa using hh), fun hh => h4 (by simpa using hh), fun _ => ⟨G5, cs5, A5, n5, c5, rfl, r5⟩, fun hh => h6 (by simpa using hh), fun hh => h7 (by simpa using hh), fun hh => h8 (by simpa using hh), fun _ => ⟨g9, rfl, r9⟩, fun _ => ⟨⟨by simp [hall 2 (by omega)], by simp [hall 5 (by omega)], by simp [hall 9 (by omega)]⟩, rfl⟩, fun _ hh => by simp at hh, fun _ => ⟨fun k hk => by simp [hall k hk], g, rfl, rfl⟩⟩
 rintro f ε w ⟨e1, e2, E11, E9, E5, E2, S, h0, h1, h2, h3, h4, h5, h6, h7, h8, h9, h10, h11, h12⟩ hall
 obtain ⟨-, g3, q3, rfl⟩ := h12 (hall 12 (by decide))
 obtain ⟨Gm, csm, Am, nm, cm, q10, rfl, Rm⟩ := h2 (hall 2 (by decide))
 obtain ⟨Ga, csa, Aa, na, ca, q13, rfl, Ra⟩ := h5 (hall 5 (by decide))
 obtain ⟨gb, q17, rfl⟩ := h9 (hall 9 (by decide))
 rw [q10, q13, q17] at S
 clear hall h0 h1 h2 h3 h4 h5 h6 h7 h8 h9 h10 h11 h12 q10 q13 q17
 refine fN 1 e1 (fN 2 e2 (fN 3 q3 ?_))
 replace S := S.nils (R := List.replicate xb (none, 121, [])) (fun b hb => by rw [List.eq_of_mem_replicate hb])
 refine fC S.k [.o 5] rfl ⟨rfl,⟨⟩⟩ ?_
 refine wL (fun μk D ε w => D = [] ∧ ∃ k : Nat, ∃ rows : List Ent, ∃ vs : List Value, (k + μk = (c.buf.length)) ∧ (RowsOK 121 (Gm.toList ++ (Ga.toList ++ ([gb, g3, g2] ++ M))) w rows vs (fillTo c.buf [] k)) ∧ St [] w0 w ([(some g3, 52, [.slice Am nm cm, .slice Aa na ca, .slice (some ⟨gb, 0, none⟩) xb xb]), (some gb, 118, vs), (Ga, 3, csa), (Gm, 3, csm), (some g2, 52, [.slice none 0 0, .slice none 0 0, .slice none 0 0]), (some g1, 52, [.slice Xm xm ym, .slice Xa xa ya, .slice Xb xb yb])] ++ rows) ∧ Sl ε [(2, .pointer (some ⟨g2, 0, none⟩)), (3, .pointer (some ⟨g3, 0, none⟩)), (20, .slice Xb xb yb), (21, .int .i64 xb), (22, .int .i64 k)]) (μ := (c.buf.length)) ⟨rfl, 0, List.replicate xb (none, 121, []), List.replicate xb (.slice none 0 0), by omega, by rw [fillTo_zero, ← hnb]; exact RowsOK.nil xb, S, rfl⟩ ?_
 rintro μk D ε w ⟨rfl, k, rows, vs, hk, hR, S, eZ⟩
 refine wK eZ (wB0 rfl ⟨⟩ (fun h23 => ?_) fun h23 => ?_)
 ·obtain ⟨b, b25, p25, _, hxb, hA25, _, _, hc25, hr25⟩ := RdS.get (hBuf) (k) (by omega)
  obtain ⟨Ab25, nb25, cb25, rfl, hBu25, _, _⟩ := RBuf.open_ hr25
  have q3 := (hf.bufs k b hxb)
  have hR0 : RowsOK 121 (Gm.toList ++ (Ga.toList ++ ([gb, g3, g2] ++ M))) w rows vs ((fillTo c.buf [] k).set k (b.take 0)) := by rw [List.take_zero, set_some (fillTo_get (some_lt hxb))]; exact hR
  refine lC (S.k.a hc25) [.x b25 p25,.f 0 0] rfl ⟨rfl,⟨hA25,by omega⟩,⟨⟩⟩ (wL (fun μj D ε w => D = [] ∧ ∃ j : Nat, ∃ rows2 : List Ent, ∃ vs2 : List Value, (j + μj = (b.length)) ∧ (RowsOK 121 (Gm.toList ++ (Ga.toList ++ ([gb, g3, g2] ++ M))) w rows2 vs2 ((fillTo c.buf [] k).set k (b.take j))) ∧ St [] w0 w ([(some g3, 52, [.slice Am nm cm, .slice Aa na ca, .slice (some ⟨gb, 0, none⟩) xb xb]), (some gb, 118, vs2), (Ga, 3, csa), (Gm, 3, csm), (some g2, 52, [.slice none 0 0, .slice none 0 0, .slice none 0 0]), (some g1, 52, [.slice Xm xm ym, .slice Xa xa ya, .slice Xb xb yb])] ++ rows2) ∧ Sl ε [(2, .pointer (some ⟨g2, 0, none⟩)), (3, .pointer (some ⟨g3, 0, none⟩)), (4, .int .i64 k), (20, .slice Xb xb yb), (21, .int .i64 xb), (22, .int .i64 k), (27, .slice Ab25 nb25 cb25), (28, .int .i64 nb25), (29, .int .i64 j)]) (μ := (b.length)) ⟨rfl, 0, rows, vs, by omega, hR0, S, rfl⟩ ?_)
  rintro μj D ε w ⟨rfl, j, rows2, vs2, _, hR2, S, eZ⟩
  refine wK eZ ?_
  have K := Keep.refl [] w
  have hGl : ∀ g ∈ (Gm.toList ++ (Ga.toList ++ ([gb, g3, g2] ++ M))) ++ blks rows2, g < w.heap.size := by
   intro g hg
   simp only [List.mem_append, List.mem_cons, List.not_mem_nil, or_false] at hg
   rcases hg with (hg | hg | (rfl | rfl | rfl) | hg) | hg
   ·exact opt_lt S (k := 3) rfl g hg
   ·exact opt_lt S (k := 2) rfl g hg
   ·exact S.lt 1 rfl
   ·exact S.lt 0 rfl
   ·exact S.lt 4 rfl
   ·have := hM g hg; have := S.size; omega
   ·obtain ⟨x, hx, hg⟩ := mem_blks.1 hg; exact (S.own x (List.mem_append_right _ hx) g hg).2.lt
  refine wB0 rfl ⟨⟩ (fun h30 => ?_) fun h30 => ?_
  ·obtain ⟨en, b31, p31, _, hxen, hA31, _, hl31, hc31, hr31⟩ := RdS.get (hBu25) (j) (by omega)
   obtain ⟨_, _, _, _, _, _, rfl, hCe31, hVa31, _, _, _, _⟩ := REntry.open_ hr31
   have q4 := (q3.2.1 en (some_mem hxen)).len
   have q5 := (q3.2.1 en (some_mem hxen)).even
   unfold EntryD.even at q5
   refine lO (S.k.a hc31) [.x b31 p31,.v 0] rfl ⟨⟨rfl,hl31⟩,⟨hA31,by omega⟩,⟨⟩⟩ (o_alloc S zv_121 rfl rfl ?_)
   intro g7 w7 S7 X7 G7
   have GK7 := Nat.le_trans K.size G7
   replace K := K.trans X7
   refine o_storeN (kk := 0) (vs := [_, _]) S7 sz_121 rfl rfl rfl rfl rfl rfl rfl ?_
   intro w7_3 S7_3 X7_3
   dsimp only [setsAt, List.set] at S7_3
   replace K := K.fresh X7_3 (by first | exact GK7)
   obtain ⟨G, cs', v, hrk, hvk, hrow⟩ := hR2.2.2 k (b.take j) (by rw [List.getElem?_set_self (by simp; omega)])
   obtain ⟨_, _, rfl⟩ := hrow.form
   have hvl : vs2.length = c.buf.length := by have := hR2.2.1; simpa using this
   have hlen0 : (b.take j).length = j := by rw [List.length_take]; omega
   have hGb : ∀ g ∈ G.toList, g ∈ (Gm.toList ++ (Ga.toList ++ ([gb, g3, g2] ++ M))) ++ blks rows2 := fun g hg => List.mem_append_right _ (mem_blks.2 ⟨_, List.mem_of_getElem? hrk, by cases G <;> simp at hg ⊢; exact hg.symm⟩)
   refine lC0 rfl ⟨⟩ (W_mixS fmx (fun i => [0, 1, 2, 3, 4, 5, 6, 7, 8, 9, 11, 12, 14, 17].contains i) [0, 1, 2, 3, 4, 5, 6, 7, 8, 9, 10, 11, 12, 13, 14, 15, 16, 17] 18 (by kernel_rfl) (by kernel_rfl) (clF (A := [_, _, _, _, _, _, _]) (R := rows2) S7_3 G.toList) _ rfl ?_)
   have SR8 := S7_3.drew
   have YR8 : Keep [] w7_3 w7_3.drew := keep_drew _ _
   generalize w7_3.drew = wR8 at SR8 YR8 ⊢
   have XR8 : Keep (G.toList) _ _ := YR8.of_nil
   replace K := K.trans YR8
   refine WM_q ⟨(St.front (A := [_, _, _, _, _, _, _]) SR8), XR8⟩ rfl rfl rfl ?_
   refine q_fieldAddr fa_52_2 rfl rfl ?_
   refine QL_nil ?_
   refine WM_q ⟨(St.front (A := [_, _, _, _, _, _, _]) SR8), XR8⟩ rfl rfl rfl ?_
   refine q_load one_50 rfl (fun w1 hw => by exact hw.1.cell 1 rfl rfl) rfl ?_
   refine QL_nil ?_
   refine WM_q ⟨(St.front (A := [_, _, _, _, _, _, _]) SR8), XR8⟩ rfl rfl rfl ?_
   refine q_move (v := .int .i64 _) rfl rfl ?_
   refine QL_nil ?_
   refine WM_q ⟨(St.front (A := [_, _, _, _, _, _, _]) SR8), XR8⟩ rfl rfl rfl ?_
   refine q_fieldAddr fa_52_2 rfl rfl ?_
   refine QL_nil ?_
   refine WM_q ⟨(St.front (A := [_, _, _, _, _, _, _]) SR8), XR8⟩ rfl rfl rfl ?_
   refine q_load one_50 rfl (fun w1 hw => by exact hw.1.cell 1 rfl rfl) rfl ?_
   refine QL_nil ?_
   refine WM_q ⟨(St.front (A := [_, _, _, _, _, _, _]) SR8), XR8⟩ rfl rfl rfl ?_
   refine q_move (v := .int .i64 _) rfl rfl ?_
   refine QL_nil ?_
   refine WM_q ⟨(St.front (A := [_, _, _, _, _, _, _]) SR8), XR8⟩ rfl rfl rfl ?_
   refine q_indexAddr slz_50.slT rfl (by rfl) rfl (by omega) (by omega) rfl ?_
   refine QL_nil ?_
   refine WM_q ⟨(St.front (A := [_, _, _, _, _, _, _]) SR8), XR8⟩ rfl rfl rfl ?_
   refine q_load one_118 rfl (fun w1 hw => by exact hw.1.cell 2 rfl ((congrArg (vs2[·]?) (show 0 + (k : Int).toNat * 1 = k by simp)).trans hvk)) rfl ?_
   refine QL_nil ?_
   refine WM_q ⟨(St.front (A := [_, _, _, _, _, _, _]) SR8), XR8⟩ rfl rfl rfl ?_
   refine q_fieldAddr fa_121_0 rfl rfl ?_
   refine QL_nil ?_
   refine WM_q ⟨(St.front (A := [_, _, _, _, _, _, _]) SR8), XR8⟩ rfl rfl rfl ?_
   refine q_load one_49 rfl (fun w1 hw => by exact hw.1.cell 0 rfl rfl) rfl ?_
   refine QL_nil ?_
   refine WM_o ⟨(St.front (A := [_, _, _, _, _, _, _]) SR8), XR8⟩ rfl rfl rfl rfl ?_
   have hG43 : ∀ g ∈ (Gm.toList ++ (Ga.toList ++ ([gb, g3, g2] ++ M))) ++ blks rows2, g < wR8.heap.size := fun g hg => Nat.lt_of_lt_of_le (hGl g hg) K.size
   refine o_calln SR8 has_179 rfl rfl (cloneR_fn _ M _ _ en.cells (hCe31.keep (SR8.keep0 M)) (by omega) hG43) ?_
   rintro v43 w43 hC43 S43 X43
   have XCw43 := XR8.trans (X43.mono (by simp))
   replace K := K.trans X43
   obtain ⟨_, _, _, rfl⟩ := hC43.form
   refine WL_nil ⟨rfl, ?_⟩
   refine WM_q ⟨(St.front (A := [_, _, _, _, _, _, _]) S43), XCw43⟩ rfl rfl rfl ?_
   refine q_fieldAddr fa_121_1 rfl rfl ?_
   refine QL_nil ?_
   refine WM_q ⟨(St.front (A := [_, _, _, _, _, _, _]) S43), XCw43⟩ rfl rfl rfl ?_
   refine q_load one_49 rfl (fun w1 hw => by exact hw.1.cell 0 rfl rfl) rfl ?_
   refine QL_nil ?_
   refine WM_o ⟨(St.front (A := [_, _, _, _, _, _, _]) S43), XCw43⟩ rfl rfl rfl rfl ?_
   have hG46 : ∀ g ∈ (Gm.toList ++ (Ga.toList ++ ([gb, g3, g2] ++ M))) ++ blks rows2, g < w43.heap.size := fun g hg => Nat.lt_of_lt_of_le (hGl g hg) K.size
   refine o_calln S43 has_179 rfl rfl (cloneR_fn _ M _ _ en.values (hVa31.keep (S43.keep0 M)) (by omega) hG46) ?_
   rintro v46 w46 hC46 S46 X46
   have XCw46 := XCw43.trans (X46.mono (by simp))
   replace K := K.trans X46
   replace hC43 := hC43.keep (X46.of_nil)
   obtain ⟨_, _, _, rfl⟩ := hC46.form
   refine WL_nil ⟨rfl, ?_⟩
   refine WM_q ⟨(St.front (A := [_, _, _, _, _, _, _]) S46), XCw46⟩ rfl rfl rfl ?_
   refine q_build bld_121 (vs := [(0, .slice _ _ _), (1, .slice _ _ _)]) (cs := [_, _]) rfl rfl rfl rfl ?_
   refine QL_nil ?_
   refine WM_o ⟨(St.front (A := [_, _, _, _, _, _, _]) S46), XCw46⟩ rfl rfl rfl rfl ?_
   refine o_buildSlice S46 slz_118 (vs := [.agg _]) (cs := [_, _]) (by rfl) rfl rfl rfl rfl rfl rfl ?_
   intro g48 w48 S48 X48 G48
   have XCw48 := XCw46.trans (X48.mono (by simp))
   replace K := K.trans X48
   replace hC43 := hC43.keep (X48.of_nil)
   replace hC46 := hC46.keep (X48.of_nil)
   refine WL_nil ⟨rfl, ?_⟩
   refine WM_o ⟨(St.front (A := [_, _, _, _, _, _, _, _]) S48).tail, XCw48⟩ rfl rfl rfl rfl ?_
   have hR3 := hR2.keep (K.of_nil)
   obtain ⟨G', cs'', _, hrk', hvk', hrow2⟩ := hR3.2.2 k (b.take j) (by rw [List.getElem?_set_self (by simp; omega)])
   obtain ⟨rfl, rfl⟩ : G = G' ∧ cs' = cs'' := by rw [hrk] at hrk'; cases hrk'; exact ⟨rfl, rfl⟩
   obtain rfl := Option.some.inj (hvk.symm.trans hvk')
   refine o_append1 law_entry (k := 8 + k) (e1 := en) S48 slz_118 (by decide) ((getR [_, _, _, _, _, _, _, _] rows2 k 8 rfl).trans hrk) hrow2 rfl rfl (S48.cells 0 rfl) ⟨_, _, rfl, hC43.more (by omega) (fun g hg => .inl (by rcases List.mem_append.1 hg with h | h; exact hGb g h; exact h)), hC46.more (by omega) (fun g hg => .inl (by rcases List.mem_append.1 hg with h | h; exact hGb g h; exact h))⟩ (by omega) rfl ?_
   intro v49 G49 cs49 w49 S49' hrow49 X49 F49
   have S49 : St [] w0 w49 ([_, _, _, _, _, _, _, _] ++ rows2.set k (G49, 121, cs49)) := (setR [_, _, _, _, _, _, _, _] rows2 k 8 rfl _) ▸ S49'
   have S49b := S49.tail
   have XC49 := XCw48.trans X49
   have hR49 : RowsOK 121 (Gm.toList ++ (Ga.toList ++ ([gb, g3, g2] ++ M))) w49 (rows2.set k (G49, 121, cs49)) (vs2.set k v49) ((fillTo c.buf [] k).set k (b.take (j + 1))) := by
    have := hR3.put (k := k) (by simp; omega) hrow49 X49 F49 hrk
    rw [List.set_set] at this
    rw [take_some hxen]; exact this
   obtain ⟨_, _, hv49⟩ := hrow49.form
   subst hv49
   refine WL_nil ⟨rfl, ?_⟩
   refine WM_q ⟨(St.front (A := [_, _, _, _, _, _, _]) S49b), XC49⟩ rfl rfl rfl ?_
   refine q_indexAddr slz_50.slT rfl (by rfl) rfl (by omega) (by omega) rfl ?_
   refine QL_nil ?_
   refine WM_nil ⟨(St.front (A := [_, _, _, _, _, _, _]) S49b), XC49⟩ ?_
   first | refine o_store (kk := 2) S49b sz_118 rfl (by conv => lhs; whnf) rfl rfl (by (simp; omega)) ?_
   intro w8_18 S8_18 X8_18
   replace hR49 := hR49.keep (X8_18.mono (by simp))
   refine WL_nil ⟨rfl, ?_⟩
   refine fP0 rfl ⟨by omega,⟨⟩⟩ ⟨μj - 1, by omega, rfl, (j + 1), (rows2.set k (G49, 121, cs49)), (vs2.set k _), (by omega), (hR49), (S8_18.tail.setEnt 1 rfl (by simp)), rfl⟩
  refine lP0 rfl ⟨by omega,⟨⟩⟩ ?_
  refine ⟨μk - 1, by omega, rfl, (k + 1), (rows2), (vs2), (by omega), (by rw [← fillTo_set hxb rfl]; rw [List.take_of_length_le (by omega)] at hR2; exact hR2), S, rfl⟩
 refine lO0 rfl ⟨⟩ (o_loadN many_52 rfl (S.cells 0 rfl) rfl rfl ?_)
 first | refine o_storeN (kk := 4) (vs := [_, _, _]) S sz_52 rfl rfl rfl rfl rfl rfl rfl ?_
 intro w11_1 S11_1 X11_1
 dsimp only [setsAt, List.set] at S11_1
 replace hR := hR.keep (X11_1.mono (by simp))
 refine lR0 rfl ⟨⟩ ?_
 rw [fillTo_all _ _ (by omega)] at hR
 refine ret_cell1 (n := 3) rfl many_52 rfl (S11_1.cells 4 rfl) rfl ⟨⟨Gm, Ga, csm, csa, _, _, gb, rows, vs, by rw [← hnb], Rm, Ra, S11_1.sublist ?_, hR.less ?_⟩, S11_1.fin⟩
 ·exact .cons _ (.cons_cons _ (.cons_cons _ (.cons_cons _ (.cons _ (.cons _ (List.Sublist.refl _))))))
 ·intro g hg
  simp only [List.mem_append, List.mem_cons] at hg ⊢
  rcases hg with h | h | h | h <;> simp [h]
end Go.Proofs.YtjjmdcnmeommbaaGreatDoor
namespace Go.Fw
open Go.RowKit
section
variable {P : Program} {r : Option Nat} {N : Nat} {D : List Deferred} {e : Env} {w w0 : World} {ops : Array Oper} {rest : List Oper} {K : List Deferred → Env → World → Prop} {L : List Ent} {M : List Nat}
variable {d : Nat} {t : TypeId} {p : String} {af : Array Edge} {x y : Operand} {kd : IntKind}
theorem WL_val0 {o : Oper} {v : Value} {w' : World} (hg : o.guard = none) (hdst : o.dst = none) (hdef : ∀ c, o.op ≠ .defer c)
 (hrun : (execOp (ev e) o).run P w = .ok (.value v) w') (h : WL P r N ops rest K D e w') : WL P r N ops (o :: rest) K D e w := by
 unfold WL at *; intro a Q hs hdd he hK
 have hrec := h a Q hs hdd he hK
 simp only [wpListIn, Region.wanted, hg, if_true]
 refine ⟨about_trivial o w _, ?_⟩
 have : Oper.semAt (fc r).round a.eval o = execOp (ev e) o := by rw [Oper.semAt_eq _ _ _ hdef, eval_eq, he]
 rw [this, hrun, Oper.uponIn_value, hdst]
 exact hrec
theorem o_appendFits {ty el size bytes k n m c b o g cap : Nat} {z : Value} {cs xs news : List Value} (S : St M w0 w L) (hS : SlZ P ty el size z bytes) (hk : L[k]? = some (some g, el, cs)) (hR : RowV (some g) size n cs (.slice (some ⟨g, 0, none⟩) n cap) xs)
 (hx : ev e x = .slice (some ⟨g, 0, none⟩) n cap) (hy : ev e y = .slice (some ⟨b, o, none⟩) m c) (hnews : Cells w b o news) (hl : news.length = m * size) (h1 : ∀ u ∈ news, u.oneCell' = true) (hroom : n + m ≤ cap) (hd : Nat.ble (d + 1) N = true)
 (h : ∀ cs' w1, St M w0 w1 (L.set k (some g, el, cs')) → RowV (some g) size (n + m) cs' (.slice (some ⟨g, 0, none⟩) (n + m) cap) (xs ++ news) → Keep [g] w w1 → WL P r N ops rest K D (upd e d (.slice (some ⟨g, 0, none⟩) (n + m) cap)) w1) :
 WL P r N ops (⟨some d, .call { callee := .builtin .append, args := #[x, y], argTypes := #[ty, ty] }, t, p, af, none⟩ :: rest) K D e w := by
 obtain ⟨i, hi, _, hsz, _⟩ := hS.parts
 obtain ⟨hown, _⟩ := hR.own S hk
 obtain ⟨w1, hrun, hown', hgrow⟩ := run_append_fits (P := P) w 0 ty t el i size hS.und hi hsz g n cap xs hown ⟨b, o, none⟩ m c news hl (fun j u hj => by rw [Addr.add_lit]; exact hnews j u hj) h1 hroom
 obtain ⟨G', cs', hR', hG', hnew⟩ := row_of_own hown'
 obtain rfl : G' = some g := hG'.symm
 obtain ⟨_, hblk⟩ := hnew g rfl
 have hsame : ∀ q, q < w.heap.size → some g ≠ some q → w1.heap[q]? = w.heap[q]? := fun q hq hne => hgrow.block q hq hne.symm
 have hB : BelowB [g] w w1 := ⟨hgrow.os, hgrow.tape, hgrow.output, hgrow.size, fun q hq hm => hsame q hq (fun hh => hm (by cases hh; simp))⟩
 refine WL_val (v := .slice (some ⟨g, 0, none⟩) (n + m) cap) (w' := w1) rfl rfl hd (by simp) ?_ (h cs' w1 (S.changed1 k hk hB hblk) hR' ⟨hgrow.size, fun q hq hm => hsame q hq (fun hh => hm (by cases hh; simp))⟩)
 simp [execOp, resolve, invoke, builtin, hx, hy, hrun]
theorem o_clear1 {ty el size bytes g o c tb kk : Nat} {z : Value} {cs : List Value} (S : St M w0 w L) (hS : SlZ P ty el size z bytes) (hx : ev e x = .slice (some ⟨g, o, none⟩) 1 c) (hk : L[kk]? = some (some g, tb, cs)) (ho : o + z.cells.toList.length ≤ cs.length) (h1 : ∀ v ∈ z.cells.toList, oneV v = true)
 (h : ∀ w1, St M w0 w1 (L.set kk (some g, tb, setsAt cs o z.cells.toList)) → Keep [g] w w1 → WL P r N ops rest K D e w1) :
 WL P r N ops (⟨none, .call { callee := .builtin .clear, args := #[x], argTypes := #[ty] }, t, p, af, none⟩ :: rest) K D e w := by
 obtain ⟨_, hi, hz, _, _⟩ := hS.parts
 obtain ⟨w1, h2, h3, h4⟩ := St.setN (P := P) (o := o) z.cells.toList 0 cs w L hk S (by simpa using ho) h1
 have hzc : (Builtin.zeroCells z.cells 1).toList = z.cells.toList := by
  apply List.ext_getElem
  ·simp [Builtin.zeroCells]
  ·intro j q1 q2
   simp [Builtin.zeroCells] at q1 q2 ⊢
   simp [Nat.mod_eq_of_lt q2, q2]
 have hzv : ∀ w, (zeroValue el).run P w = .ok z w := fun w => by simp [zeroValue, typeInfo, hi, hz]
 refine WL_val0 (v := .tuple #[]) rfl rfl (by simp) ?_ (h w1 h3 h4)
 simp [execOp, resolve, invoke, builtin, Builtin.clear_, hx, run_underlying hS.und, hzv, hzc, h2]
theorem o_slice3 {ty size lo hi mx c n o b : Nat} {xl xh xm : Operand} (hT : SlT P ty size) (hx : ev e x = .slice (some ⟨b, o, none⟩) n c) (hl : ev e xl = .int kd (lo : Int)) (hh : ev e xh = .int kd (hi : Int)) (hm : ev e xm = .int kd (mx : Int)) (h1 : lo ≤ hi) (h2 : hi ≤ mx) (h3 : mx ≤ c) (hd : Nat.ble (d + 1) N = true)
 (h : ∀ v, WL P r N ops rest K D (upd e d v) w) :
 WL P r N ops (⟨some d, .slice ty x (some xl) (some xh) (some xm), t, p, af, none⟩ :: rest) K D e w := by
 obtain ⟨_, hu, hsz⟩ := slT_size hT
 have e0 : (0 : Int) ≤ (mx : Int) ∧ (mx : Int) ≤ (c : Int) := by omega
 have e1 : (0 : Int) ≤ (lo : Int) ∧ (lo : Int) ≤ (hi : Int) := by omega
 have e2 : (0 : Int) ≤ (hi : Int) ∧ (hi : Int) ≤ (mx : Int) := by omega
 refine WL_val (v := .slice (if mx = lo then some ⟨b, o, none⟩ else some ⟨b, o + lo * size, none⟩) (hi - lo) (mx - lo)) rfl rfl hd (by simp) ?_ (h _)
 have hrun : (Instr.slice ty (.slice (some ⟨b, o, none⟩) n c) (some (.int kd (lo : Int))) (some (.int kd (hi : Int))) (some (.int kd (mx : Int)))).run P w = .ok (.slice (if mx = lo then some ⟨b, o, none⟩ else some ⟨b, o + lo * size, none⟩) (hi - lo) (mx - lo)) w := by
  simp [Instr.slice, Instr.sliceBounds, Instr.sliceBound, asIntOf, run_underlying hu, hsz, e0, e1, e2, h1, h2, h3, Addr.add_lit]
 simp only [execOp, Instr.sliceAt, Sem.run_bind, run_underlying hu, Result.andThen_ok, hx, Option.map_some, hl, hh, hm, hrun, Sem.run_pure]
end
theorem flat_take {size : Nat} : ∀ (css : List (List Value)) (i : Nat), (∀ x ∈ css, x.length = size) → css.flatten.take (i * size) = (css.take i).flatten
 | [], i, _ => by simp
 | x :: css, 0, _ => by simp
 | x :: css, i + 1, h => by
   have hx := h x (by simp)
   rw [List.flatten_cons, List.take_succ_cons, List.flatten_cons, ← flat_take css i (fun y hy => h y (by simp [hy])), Nat.add_mul, Nat.one_mul, List.take_append, hx, Nat.add_sub_cancel, List.take_of_length_le (by omega)]
theorem flat_drop {size : Nat} : ∀ (css : List (List Value)) (i : Nat), (∀ x ∈ css, x.length = size) → css.flatten.drop (i * size) = (css.drop i).flatten
 | [], i, _ => by simp
 | x :: css, 0, _ => by simp
 | x :: css, i + 1, h => by
   have hx := h x (by simp)
   rw [List.flatten_cons, List.drop_succ_cons, ← flat_drop css i (fun y hy => h y (by simp [hy])), Nat.add_mul, Nat.one_mul, List.drop_append, hx, Nat.add_sub_cancel, List.drop_eq_nil_of_le (by omega), List.nil_append]
theorem setsAt_len : ∀ (vs cs : List Value) (o : Nat), (setsAt cs o vs).length = cs.length
 | [], _, _ => rfl
 | v :: vs, cs, o => by rw [setsAt, setsAt_len vs, List.length_set]
theorem setsAt_take : ∀ (vs cs : List Value) (o n : Nat), n ≤ o → (setsAt cs o vs).take n = cs.take n
 | [], _, _, _, _ => rfl
 | v :: vs, cs, o, n, h => by rw [setsAt, setsAt_take vs _ _ _ (by omega), List.take_set_of_le h]
end Go.Fw
namespace Go.Proofs.YtjjmdcnmeommbaaGreatDoor
open Go.Fw Go.RowKit
theorem delete_fn (g cap n i : Nat) (css : List (List Value)) (cs : List Value) (w0 : World) (hB : hasBlk w0 (g, 121, cs)) (hR : RowV (some g) 2 n cs (.slice (some ⟨g, 0, none⟩) n cap) css.flatten) (hn : css.length = n) (h2 : ∀ x ∈ css, x.length = 2) (h1 : ∀ u ∈ css.flatten, u.oneCell' = true) (hi : i < n) (hbig : n ≤ 1000000) :
 Does Tryz.prog 178 #[.slice (some ⟨g, 0, none⟩) n cap, .int .i64 i, .int .i64 ((i : Int) + 1)] w0 fun v w' => v = .slice (some ⟨g, 0, none⟩) (n - 1) cap ∧ BelowB [g] w0 w' ∧ ∃ cs', hasBlk w' (g, 121, cs') ∧ RowV (some g) 2 (n - 1) cs' (.slice (some ⟨g, 0, none⟩) (n - 1) cap) (css.eraseIdx i).flatten := by
 have S := St.borrow1 hB
 obtain ⟨_, r2⟩ := hR
 obtain ⟨hcap, hmax, hcl, htk⟩ : n ≤ cap ∧ cap ≤ maxLen ∧ cs.length = cap * 2 ∧ cs.take (n * 2) = css.flatten := by
  rcases r2 with ⟨h, _⟩ | ⟨g', cap', h, h', a, b, c, d⟩
  ·cases h
  ·cases h; cases h'; exact ⟨a, b, c, d⟩
 have hpre : RowV (some g) 2 i cs (.slice (some ⟨g, 0, none⟩) i cap) (css.take i).flatten := by
  refine ⟨?_, .inr ⟨g, cap, rfl, rfl, by omega, hmax, hcl, ?_⟩⟩
  ·rw [flatN_len _ (fun x hx => h2 x (List.mem_of_mem_take hx)), List.length_take]; congr 1; omega
  ·rw [← flat_take css i h2, ← htk, List.take_take]; congr 1; omega
 have hsrc : ∃ o, (if cap = i + 1 then (⟨g, 0, none⟩ : Addr) else ⟨g, 0 + (i + 1) * 2, none⟩) = ⟨g, o, none⟩ ∧ Cells w0 g o (css.drop (i + 1)).flatten := by
  by_cases hc : cap = i + 1
  ·refine ⟨0, by rw [if_pos hc], ?_⟩
   rw [List.drop_eq_nil_of_le (by omega)]
   intro j v hj; simp at hj
  ·refine ⟨0 + (i + 1) * 2, by rw [if_neg hc], fun j v hj => ?_⟩
   rw [← flat_drop css (i + 1) h2, ← htk, List.getElem?_drop, List.getElem?_take] at hj
   split at hj
   ·exact hB.cell (by rw [Nat.zero_add]; exact hj)
   ·cases hj
 obtain ⟨_, hos, hcells⟩ := hsrc
 have hnl : (css.drop (i + 1)).flatten.length = (n - (i + 1)) * 2 := by rw [flatN_len _ (fun x hx => h2 x (List.mem_of_mem_drop hx)), List.length_drop, hn]
 have hone : ∀ u ∈ (css.drop (i + 1)).flatten, u.oneCell' = true := fun u hu => h1 u (by
  obtain ⟨x, hx, hu⟩ := List.mem_flatten.1 hu
  exact List.mem_flatten.2 ⟨x, List.mem_of_mem_drop hx, hu⟩)
 have hcast : ((i : Int) + 1) = ((i + 1 : Nat) : Int) := by omega
 refine dnR Tryz.func178 rfl Tryz.ntmps178 rfl ?_
 refine wO0 rfl ⟨⟩ ?_
 refine o_slice3 (lo := i) (hi := i + 1) (mx := n) slz_118.slT rfl rfl (by rw [← hcast]; rfl) rfl (by omega) (by omega) hcap rfl ?_
 intro v13
 refine lB0 rfl ⟨⟩ (fun h16 => by exfalso; omega) fun h16 => ?_
 refine lC0 rfl ⟨⟩ (W_draw fmx [0, 1, 2, 3, 4, 5] [] [6, 7] (by kernel_rfl) rfl (Cl _ _ _ _) (Cl.start S) ?_)
 refine qO0 rfl ⟨⟩ (q_slice (lo := 0) (hi := i) (kd := .i64) slz_118.slT rfl (.inl ⟨rfl, rfl⟩) (.inr rfl) (by omega) (by omega) hcap rfl ?_)
 simp only [Nat.zero_mul, Nat.add_zero, Nat.sub_zero, ite_self]
 refine qO0 rfl ⟨⟩ ?_
 refine q_slice (lo := i + 1) (hi := n) (kd := .i64) slz_118.slT rfl (.inr (by rw [← hcast]; rfl)) (.inl ⟨rfl, rfl⟩) (by omega) (by omega) hcap rfl ?_
 rw [hos]
 refine qD rfl ⟨⟩ ?_
 rintro wR5 ⟨SR5, XR5⟩
 refine o_appendFits (k := 0) SR5 slz_118 rfl hpre rfl rfl (hcells.keep (M := []) XR5 (by simp)) hnl hone (by omega) rfl ?_
 intro cs26 w26 S26 R26 X26
 have e26 : i + (n - (i + 1)) = n - 1 := by omega
 rw [e26] at R26 ⊢
 refine lO0 rfl ⟨⟩ (o_slice (lo := n - 1) (hi := n) (kd := .i64) slz_118.slT rfl (.inr rfl) (.inr rfl) (by omega) (by omega) (by omega) rfl ?_)
 rw [if_neg (show ¬ cap = n - 1 by omega), show n - (n - 1) = 1 by omega]
 obtain ⟨rc, rt⟩ : cs26.length = cap * 2 ∧ cs26.take ((n - 1) * 2) = (css.take i).flatten ++ (css.drop (i + 1)).flatten := by
  rcases R26.2 with ⟨h, _⟩ | ⟨g', cap', h, h', a, b, c, d⟩
  ·cases h
  ·cases h; cases h'; exact ⟨c, d⟩
 refine o_clear1 (kk := 0) S26 slz_118 rfl rfl (by rw [rc]; simp [Value.cells]; omega) (by simp [Value.cells, oneV]) ?_
 intro w65 S65 X65
 refine lT rfl ⟨⟩ rfl ⟨rfl, S65.below, _, S65.blk 0 rfl, ?_, .inr ⟨g, cap, rfl, rfl, by omega, hmax, ?_, ?_⟩⟩
 ·rw [flatN_len _ (fun x hx => h2 x (List.mem_of_mem_eraseIdx hx)), List.length_eraseIdx, if_pos (by omega), hn]
 ·rw [setsAt_len]; exact rc
 ·rw [setsAt_take _ _ _ _ (by omega), rt, List.eraseIdx_eq_take_drop_succ, List.flatten_append]
theorem commit_fn (p : ProgD) (hp : ProgOK p) (c : ConfD) (t i : Nat) (b : List EntryD) (M : List Nat) (w0 : World) (hM : ∀ g ∈ M, g < w0.heap.size) (cs xs : List Value) (m : Int) (hI : InP p M w0 cs) (hX : RdConf M w0 c xs) (hf : FitC p c) (hxb : c.buf[t]? = some b) (hi : i < b.length) :
 Does Tryz.prog 138 #[.agg (xs ++ (cs ++ [Value.int .i64 m])).toArray, .int .i64 t, .int .i64 i] w0 fun v w' => (∃ ys, v = .agg ys.toArray ∧ RdConf M w' (commitC c t i) ys) ∧ Below w0.heap.size w0 w' := by
 obtain ⟨_, _, _, _, _, _, _, _, _, _, _, _, rfl, -⟩ := hI.rd.open_
 obtain ⟨_, _, _, _, _, _, _, _, _, rfl, _, _, _, _, _, _, _, _, _⟩ := hX.open_
 have S := St.refl w0
 have f1 := hf.mem.len
 have n1 := hp.ncells
 have n2 := hp.nthreads
 have f3 := hf.nbuf
 have ht := some_lt hxb
 have hbo := hf.bufs t b hxb
 have hf' := fit_commit hf t i
 obtain ⟨en, hxen⟩ : ∃ en, b[i]? = some en := ⟨b[i], List.getElem?_eq_getElem hi⟩
 have q1 := hbo.2.1 en (some_mem hxen)
 have q2 := q1.i64s
 have q3 : 0 < c.mem.length := by
  cases hcl : en.cells with
  | nil => exact absurd hcl q1.some_
  | cons x l => have := q2 x (by rw [hcl]; simp); omega
 have hce : commitC c t i = ⟨writeE c.mem en, c.at_, c.buf.set t (b.eraseIdx i)⟩ := by unfold commitC; rw [getD_some hxb, getD_some hxen]
 rw [hce] at hf' ⊢
 refine dnR Tryz.func138 rfl Tryz.ntmps138 rfl ?_
 refine wO0 rfl ⟨⟩ (o_boxa S (by conv => lhs; whnf) rfl ?_)
 intro g3 w3 S3 X3 G3
 refine o_alloc S3 zv_52 rfl rfl ?_
 intro g6 w6 S6 X6 G6
 refine lO S6.k [.o 1] rfl ⟨rfl,⟨⟩⟩ ?_
 have hX2 : RdConf (g6 :: g3 :: M) w6 c _ := (hX.more (fun g hg => by rcases List.mem_cons.1 hg with rfl | hg; exact .inr (by simpa using S6.new 0 rfl); rcases List.mem_cons.1 hg with rfl | hg; exact .inr (by simpa using S6.new 1 rfl); exact .inl hg)).keep (S6.keep0 _)
 have hM2 : ∀ g ∈ g6 :: g3 :: M, g < w6.heap.size := fun g hg => by
  rcases List.mem_cons.1 hg with rfl | hg
  ·exact S6.lt 0 rfl
  ·rcases List.mem_cons.1 hg with rfl | hg
   ·exact S6.lt 1 rfl
   ·have := hM g hg; have := S6.size; omega
 refine o_call has_176 rfl rfl (clone_fn p hp c (g6 :: g3 :: M) _ hM2 _ hX2 hf) ?_
 rintro v10 w10 ⟨⟨_, _, _, _, _, _, _, rows, vs, rfl, Rm, Ra, S10', hR⟩, -⟩
 have S10 := S6.joinR S10'
 obtain ⟨gm, pad, rfl, rfl, rfl, hmx⟩ := Rm.pad q3
 obtain ⟨_, _, _, rfl⟩ := Ra.form
 have K := Keep.refl [] w10
 refine o_alloc S10 zv_52 rfl rfl ?_
 intro g7 w7 S7 X7 G7
 have GK7 := Nat.le_trans K.size G7
 replace K := K.trans X7
 refine o_storeN (kk := 0) (vs := [_, _, _]) S7 sz_52 rfl rfl rfl rfl rfl rfl rfl ?_
 intro w1_4 S1_4 X1_4
 dsimp only [setsAt, List.set] at S1_4
 replace K := K.fresh X1_4 (by first | exact GK7)
 have hR2 := hR.keep (K.of_nil)
 obtain ⟨G, cs', v, hrk, hvk, hrow⟩ := hR2.2.2 t b hxb
 obtain ⟨g, cap, _, rfl, rfl, _, hcE, hrE⟩ := hrow.get S1_4 (k := 6 + t) ((getR [_, _, _, _, _, _] rows t 6 rfl).trans hrk) hxen
 obtain ⟨_, _, _, _, _, _, rfl, -⟩ := hrE.open_
 have hvl : vs.length = c.buf.length := hR2.2.1
 refine lC0 rfl ⟨⟩ (W_draw fmx [0, 1, 2, 3, 4, 5, 6, 7, 8, 9] [] [10] (by kernel_rfl) rfl (Cl _ _ _ _) (Cl.start S1_4) ?_)
 refine qO S1_4.q [.o 0,.o 0] rfl ⟨rfl,rfl,⟨⟩⟩ (q_indexAddr slz_50.slT rfl (by rfl) rfl (by omega) (by omega) rfl ?_)
 refine q_load one_118 rfl (fun w1 hw => by exact hw.1.cell 1 rfl ((congrArg (vs[·]?) (show 0 + (t : Int).toNat * 1 = t by simp)).trans hvk)) rfl ?_
 refine qO0 rfl ⟨⟩ (q_indexAddr slz_118.slT rfl (by rfl) rfl (by omega) (by omega) rfl ?_)
 refine q_loadN many_121 rfl (fun w1 hw => hcE.keep (M := []) hw.2 (by simp)) (by rfl) rfl ?_
 refine qD rfl ⟨⟩ ?_
 rintro wR2 ⟨SR2, XR2⟩
 refine o_call has_177 rfl rfl (write_fn en c.mem gm _ pad (gm :: []) _ _ (REntry.keep XR2.of_nil _ _ (REntry.more (fun x hx => by simp at hx; subst hx; simp) _ _ hrE)) (by simp) (SR2.blk 3 rfl) q1.even (fun x hx => by have := q2 x hx; omega)) ?_
 rintro v21 w21 ⟨hb21, B21⟩
 have S21 := SR2.changed1 3 rfl B21 hb21
 have X21 : Keep [gm] _ w21 := Keep.of_belowB B21
 have hR3 := (hR2.keep XR2.of_nil).keep (X21.mono (by simp))
 refine lC0 rfl ⟨⟩ (W_mixS fmx (fun i => [0, 1, 2, 3, 4, 5, 6, 7, 8, 9, 10, 12].contains i) [0, 1, 2, 3, 4, 5, 6, 7, 8, 9, 10, 11, 12] 13 (by kernel_rfl) (by kernel_rfl) (clF (A := [_, _, _, _, _, _]) (R := rows) S21 [g]) _ rfl ?_)
 have SR3 := S21.drew
 have YR3 : Keep [] w21 w21.drew := keep_drew _ _
 generalize w21.drew = wR3 at SR3 YR3 ⊢
 have XR3 : Keep ([g]) _ _ := YR3.of_nil
 refine WM_q ⟨(St.front (A := [_, _, _, _, _, _]) SR3), XR3⟩ rfl rfl rfl ?_
 refine q_fieldAddr fa_52_2 rfl rfl ?_
 refine QL_nil ?_
 refine WM_q ⟨(St.front (A := [_, _, _, _, _, _]) SR3), XR3⟩ rfl rfl rfl ?_
 refine q_load one_50 rfl (fun w1 hw => by exact hw.1.cell 0 rfl rfl) rfl ?_
 refine QL_nil ?_
 refine WM_q ⟨(St.front (A := [_, _, _, _, _, _]) SR3), XR3⟩ rfl rfl rfl ?_
 refine q_move (v := .int .i64 _) rfl rfl ?_
 refine QL_nil ?_
 refine WM_q ⟨(St.front (A := [_, _, _, _, _, _]) SR3), XR3⟩ rfl rfl rfl ?_
 refine q_fieldAddr fa_52_2 rfl rfl ?_
 refine QL_nil ?_
 refine WM_q ⟨(St.front (A := [_, _, _, _, _, _]) SR3), XR3⟩ rfl rfl rfl ?_
 refine q_load one_50 rfl (fun w1 hw => by exact hw.1.cell 0 rfl rfl) rfl ?_
 refine QL_nil ?_
 refine WM_q ⟨(St.front (A := [_, _, _, _, _, _]) SR3), XR3⟩ rfl rfl rfl ?_
 refine q_move (v := .int .i64 _) rfl rfl ?_
 refine QL_nil ?_
 refine WM_q ⟨(St.front (A := [_, _, _, _, _, _]) SR3), XR3⟩ rfl rfl rfl ?_
 refine q_indexAddr slz_50.slT rfl (by rfl) rfl (by omega) (by omega) rfl ?_
 refine QL_nil ?_
 refine WM_q ⟨(St.front (A := [_, _, _, _, _, _]) SR3), XR3⟩ rfl rfl rfl ?_
 refine q_load one_118 rfl (fun w1 hw => by exact hw.1.cell 1 rfl ((congrArg (vs[·]?) (show 0 + (t : Int).toNat * 1 = t by simp)).trans hvk)) rfl ?_
 refine QL_nil ?_
 refine WM_q ⟨(St.front (A := [_, _, _, _, _, _]) SR3), XR3⟩ rfl rfl rfl ?_
 refine q_move (v := .int .i64 _) rfl rfl ?_
 refine QL_nil ?_
 refine WM_q ⟨(St.front (A := [_, _, _, _, _, _]) SR3), XR3⟩ rfl rfl rfl ?_
 refine q_move (v := .int .i64 _) rfl rfl ?_
 refine QL_nil ?_
 refine WM_q ⟨(St.front (A := [_, _, _, _, _, _]) SR3), XR3⟩ rfl rfl rfl ?_
 refine q_add rfl rfl (by unfold i64; omega) rfl ?_
 refine QL_nil ?_
 refine WM_o ⟨(St.front (A := [_, _, _, _, _, _]) SR3), XR3⟩ rfl rfl rfl rfl ?_
 have hR5 := hR3.keep YR3.of_nil
 obtain ⟨G', cs'', _, hrk', hvk', hrow3⟩ := hR5.2.2 t b hxb
 obtain ⟨rfl, rfl⟩ : some g = G' ∧ cs' = cs'' := by rw [hrk] at hrk'; cases hrk'; exact ⟨rfl, rfl⟩
 obtain rfl := Option.some.inj (hvk.symm.trans hvk')
 obtain ⟨css, l1, l2, rv, l4⟩ := hrow3
 refine o_call has_178 rfl rfl (delete_fn g cap b.length i css cs' _ (SR3.blk (6 + t) ((getR [_, _, _, _, _, _] rows t 6 rfl).trans hrk)) rv l1 l2 (row_one l1 l4) hi (by omega)) ?_
 rintro v33 w33 ⟨rfl, B33, cs33, hb33, R33⟩
 have X33 : Keep [g] _ w33 := Keep.of_belowB B33
 have S33 : St [] w0 w33 ([_, _, _, _, _, _] ++ rows.set t (some g, 121, cs33)) := (setR [_, _, _, _, _, _] rows t 6 rfl _) ▸ SR3.changed1 (6 + t) ((getR [_, _, _, _, _, _] rows t 6 rfl).trans hrk) B33 hb33
 have XC33 := XR3.trans X33
 have hR4 := hR5.put (k := t) ht (RowR.erase law_entry l1 l2 l4 hi R33 (X33.mono (by simp))) (G := some g) (by simpa using X33) (fun g hg => .inl hg) hrk
 refine WL_nil ⟨rfl, ?_⟩
 refine WM_q ⟨(St.front (A := [_, _, _, _, _, _]) S33), XC33⟩ rfl rfl rfl ?_
 refine q_indexAddr slz_50.slT rfl (by rfl) rfl (by omega) (by omega) rfl ?_
 refine QL_nil ?_
 refine WM_nil ⟨(St.front (A := [_, _, _, _, _, _]) S33), XC33⟩ ?_
 first | refine o_store (kk := 1) S33 sz_118 rfl (by conv => lhs; whnf) rfl rfl (by (simp; omega)) ?_
 intro w3_13 S3_13 X3_13
 replace hR4 := hR4.keep (X3_13.mono (by simp))
 refine WL_nil ⟨rfl, ?_⟩
 refine fO S3_13.k [.w 0] rfl ⟨⟨rfl,by rfl⟩,⟨⟩⟩ ?_
 first | refine o_storeN (kk := 4) (vs := [_, _, _]) S3_13 sz_52 rfl rfl rfl rfl rfl rfl rfl ?_
 intro w4_1 S4_1 X4_1
 dsimp only [setsAt, List.set] at S4_1
 replace hR4 := hR4.keep (X4_1.mono (by simp))
 refine lR0 rfl ⟨⟩ ?_
 have SF := S4_1.setEnt 1 rfl (show _ = vs.set t (.slice (some ⟨g, 0, none⟩) (b.length - 1) cap) by simp)
 refine ret_cell1 (n := 3) rfl many_52 rfl (SF.cells 4 rfl) rfl ⟨⟨_, rfl, _, _, _, rfl, ?_, Ra.rdI SF (k := 2) rfl hM (at_i64 hp hf) (by omega), ?_⟩, SF.fin⟩
 ·have := (RowV.ofPad (g := gm) (l := writeE c.mem en) (pad := pad) (by simpa using hmx)).rdI SF (k := 3) rfl hM (mem_i64 hp hf'.mem) (by simp; omega)
  simpa using this
 ·have hA := SF.apartM (A := [_, _, _, _, _, _]) hM
  have := SF.rdBs (M := M) 1 rfl (fresh_not hM (SF.new 1 rfl)) (bs := c.buf.set t (b.eraseIdx i)) (by simp; omega) (hR4.rd (A := [_, _, _, _, _, _]) SF (Mx := M) (fun g hg => by simp [hg]) hA (fun x hx => by
   obtain ⟨k, hk, rfl⟩ := List.getElem_of_mem hx
   have := (hf'.bufs k _ (List.getElem?_eq_getElem hk)).1
   omega))
  rw [List.length_set] at this
  exact this
end Go.Proofs.YtjjmdcnmeommbaaGreatDoor
namespace Go.Fw
open Go.RowKit
def shTo (p : ProgD) (s : StepD) (k : Nat) : List AssignD := if s.kind = 3 then (s.set.take k).filter (fun a => thrAt p.cells a.cell = -1) else []
def loTo (p : ProgD) (s : StepD) (k : Nat) : List AssignD := if s.kind = 3 then (s.set.take k).filter (fun a => thrAt p.cells a.cell ≠ -1) else s.set.take k
section
variable {p : ProgD} {s : StepD} {k : Nat} {a : AssignD}
theorem shTo_zero : shTo p s 0 = [] := by unfold shTo; simp
theorem loTo_zero : loTo p s 0 = [] := by unfold loTo; simp
theorem shTo_yes (h3 : s.kind = 3) (hx : s.set[k]? = some a) (ht : thrAt p.cells a.cell = -1) : shTo p s (k + 1) = shTo p s k ++ [a] ∧ loTo p s (k + 1) = loTo p s k := by
 unfold shTo loTo
 rw [if_pos h3, if_pos h3, if_pos h3, if_pos h3, take_some hx, List.filter_append, List.filter_append]
 simp [ht]
theorem shTo_no (hx : s.set[k]? = some a) (ht : s.kind = 3 → ¬ thrAt p.cells a.cell = -1) : shTo p s (k + 1) = shTo p s k ∧ loTo p s (k + 1) = loTo p s k ++ [a] := by
 unfold shTo loTo
 by_cases h3 : s.kind = 3
 ·rw [if_pos h3, if_pos h3, if_pos h3, if_pos h3, take_some hx, List.filter_append, List.filter_append]
  simp [ht h3]
 ·rw [if_neg h3, if_neg h3, if_neg h3, if_neg h3, take_some hx]; simp
theorem shTo_len : (shTo p s k).length ≤ s.set.length := by
 unfold shTo
 split
 ·exact Nat.le_trans (List.length_filter_le _ _) (by rw [List.length_take]; omega)
 ·simp
end
theorem set_len {p : ProgD} {t n : Int} {s : StepD} (h : StepOK p t n s) : s.set.length ≤ p.cells.length := by
 have := nodup_len p.cells.length (s.set.map AssignD.cell) (by unfold List.Nodup; rw [List.pairwise_map]; exact h.once) (fun x hx => by
  obtain ⟨a, ha, rfl⟩ := List.mem_map.1 hx
  exact (h.set a ha).1)
 simpa using this
theorem exec_store {p : ProgD} {m : Int} (hm : ¬ m = 0) {c : ConfD} {t : Nat} {s : StepD} {b : List EntryD} (h3 : s.kind = 3) (hb : c.buf[t]? = some b) {k : Nat} (hk : s.set.length ≤ k) : execC p m c t s = ⟨setC (loTo p s k) (viewC c t) c.mem, atC c t s, c.buf.set t (b ++ [⟨(shTo p s k).map AssignD.cell, (shTo p s k).map fun a => a.to.evl (viewC c t) (viewC c t)⟩])⟩ := by
 unfold execC shTo loTo entOf
 rw [if_pos ⟨h3, hm⟩, if_pos h3, if_pos h3, List.take_of_length_le hk, getD_some hb]
theorem exec_other {p : ProgD} {m : Int} {c : ConfD} {t : Nat} {s : StepD} (h3 : ¬ s.kind = 3) {k : Nat} (hk : s.set.length ≤ k) : execC p m c t s = ⟨setC (loTo p s k) (viewC c t) c.mem, atC c t s, c.buf⟩ := by
 unfold execC loTo
 rw [if_neg (fun h => h3 h.1), if_neg h3, List.take_of_length_le hk]
theorem at_pad {c : ConfD} {t : Nat} {s : StepD} {pad : List Value} (h : ¬ s.kind = 6) (ht : t < c.at_.length) {i : Nat} (hi : i = t) : (c.at_.map (Value.int .i64) ++ pad).set i (.int .i64 s.to) = (atC c t s).map (Value.int .i64) ++ pad := by
 subst hi; rw [set_pad ht]; unfold atC; rw [if_neg h]
theorem at_pad6 {c : ConfD} {t : Nat} {s : StepD} {pad : List Value} (h : s.kind = 6) (ht : t < c.at_.length) (hg : s.target.toNat < c.at_.length) {i j : Nat} (hi : i = t) (hj : j = s.target.toNat) : ((c.at_.map (Value.int .i64) ++ pad).set i (.int .i64 s.to)).set j (.int .i64 0) = (atC c t s).map (Value.int .i64) ++ pad := by
 subst hi; subst hj; rw [set_pad ht, set_pad (by simpa using hg)]; unfold atC; rw [if_pos h]
abbrev RIntF : List Nat → World → List Value → Int → Prop := fun _ _ => RInt
end Go.Fw
namespace Go.Proofs.YtjjmdcnmeommbaaGreatDoor
open Go.Fw Go.RowKit
set_option maxHeartbeats 1000000 in
theorem execute_fn (p : ProgD) (c : ConfD) (m : Int) (hm : m = 1 ∨ m = 2) (t i : Nat) (th : ThreadD) (s : StepD) (M : List Nat) (w0 : World) (cs xs : List Value) (vsn : Value) (hI : InP p M w0 cs) (hX : RdConf M w0 c xs) (hV : RdI M w0 vsn (viewC c t)) (hf : FitC p c) (hxth : p.threads[t]? = some th) (hxs : th.steps[i]? = some s) (hf' : FitC p (execC p m c t s)) :
 Does Tryz.prog 141 #[.agg (xs ++ (cs ++ [Value.int .i64 m])).toArray, .agg #[.int .i64 t, .int .i64 i, .int .i64 0], vsn] w0 fun v w' => (∃ ys, v = .agg ys.toArray ∧ RdConf M w' (execC p m c t s) ys) ∧ Below w0.heap.size w0 w' := by
 obtain ⟨Ac, nc, cc, Am, nm, cm, Al, nl, cl, At, nt, ct, rfl, hC, _, _, hTh, _, _, _, _, _, _, _, _⟩ := hI.rd.open_
 obtain ⟨Xm, xm, ym, Xa, xa, ya, Xb, xb, yb, rfl, _, _, _, _, _, _, _, _, _⟩ := hX.open_
 obtain ⟨Av, nv, cv, rfl⟩ := hV.form
 have S := St.refl w0
 have hM := hI.lt
 have f1 := hf.mem.len
 have f2 := hf.nat
 have f3 := hf.nbuf
 have hp := hI.ok
 have n1 := hp.ncells
 have n2 := hp.nthreads
 have ht := some_lt hxth
 have hi := some_lt hxs
 have hso := (hp.thread hxth).steps s (some_mem hxs)
 have hsl := set_len hso
 have hk6 : 6 ≤ s.kind → 0 ≤ s.target ∧ s.target < p.threads.length := fun h => (hso.row.k6 h).1
 have hm0 : ¬ m = 0 := by omega
 obtain ⟨b, hxb⟩ : ∃ b, c.buf[t]? = some b := ⟨c.buf[t]'(by omega), List.getElem?_eq_getElem _⟩
 have hbo := hf.bufs t b hxb
 refine dnR Tryz.func141 rfl Tryz.ntmps141 rfl ?_
 refine wO0 rfl ⟨⟩ (o_boxa S (by conv => lhs; whnf) rfl ?_)
 intro g3 w3 S3 X3 G3
 refine o_boxa S3 (by conv => lhs; whnf) rfl ?_
 intro g4 w4 S4 X4 G4
 refine o_alloc S4 zv_52 rfl rfl ?_
 intro g6 w6 S6 X6 G6
 refine lO S6.k [.o 2] rfl ⟨rfl,⟨⟩⟩ ?_
 have hX2 : RdConf (g6 :: g4 :: g3 :: M) w6 c _ := (hX.more (fun g hg => by rcases List.mem_cons.1 hg with rfl | hg; exact .inr (by simpa using S6.new 0 rfl); rcases List.mem_cons.1 hg with rfl | hg; exact .inr (by simpa using S6.new 1 rfl); rcases List.mem_cons.1 hg with rfl | hg; exact .inr (by simpa using S6.new 2 rfl); exact .inl hg)).keep (S6.keep0 _)
 have hM2 : ∀ g ∈ g6 :: g4 :: g3 :: M, g < w6.heap.size := fun g hg => by
  rcases List.mem_cons.1 hg with rfl | hg
  ·exact S6.lt 0 rfl
  ·rcases List.mem_cons.1 hg with rfl | hg
   ·exact S6.lt 1 rfl
   ·rcases List.mem_cons.1 hg with rfl | hg
    ·exact S6.lt 2 rfl
    ·have := hM g hg; have := S6.size; omega
 refine o_call has_176 rfl rfl (clone_fn p hp c (g6 :: g4 :: g3 :: M) _ hM2 _ hX2 hf) ?_
 rintro v15 w15 ⟨⟨Gm, _, csm, _, _, _, gb, rows, vs, rfl, Rm, Ra, S15', hR⟩, -⟩
 have S15 := S6.joinR S15'
 obtain ⟨ga, pada, rfl, rfl, rfl, hmxa⟩ := Ra.pad (by omega)
 obtain ⟨Bm, bm', dm, rfl⟩ := Rm.form
 have KM := Keep.refl Gm.toList w15
 have hQ15 : ∀ g ∈ (Gm.toList ++ ((some ga).toList ++ (gb :: g6 :: g4 :: g3 :: M))) ++ blks rows, g < w15.heap.size := by
  intro g hg
  simp only [List.mem_append, List.mem_cons] at hg
  rcases hg with (hg | hg | rfl | rfl | rfl | rfl | hg) | hg
  ·exact opt_lt S15 (k := 2) rfl g hg
  ·exact opt_lt S15 (k := 1) rfl g hg
  ·exact S15.lt 0 rfl
  ·exact S15.lt 3 rfl
  ·exact S15.lt 4 rfl
  ·exact S15.lt 5 rfl
  ·have := hM g hg; have := S15.size; omega
  ·obtain ⟨x, hx, hg⟩ := mem_blks.1 hg; exact (S15.own x (List.mem_append_right _ hx) g hg).2.lt
 refine o_alloc S15 zv_52 rfl rfl ?_
 intro g7 w7 S7 X7 G7
 have GKM7 := Nat.le_trans KM.size G7
 replace KM := KM.trans (X7.of_nil)
 refine o_storeN (kk := 0) (vs := [_, _, _]) S7 sz_52 rfl rfl rfl rfl rfl rfl rfl ?_
 intro w1_4 S1_4 X1_4
 dsimp only [setsAt, List.set] at S1_4
 replace KM := KM.fresh2 X1_4 (by exact .inl GKM7)
 refine lC0 rfl ⟨⟩ (W_draw fmx [0, 1, 2, 3, 4, 5, 6, 7, 8, 9, 10, 11] [12] [13] (by kernel_rfl) rfl (Cl _ _ _ _) (Cl.start S1_4) ?_)
 obtain ⟨_, b21, p21, _, hx21, hA21, _, _, hc21, hr21⟩ := RdS.get (hTh) (t) (by omega)
 obtain rfl := Option.some.inj (hxth.symm.trans hx21)
 obtain ⟨_, _, _, _, _, _, _, _, _, _, _, _, rfl, _, _, _, hSt21, _, _, _, _, _, _, _, _, _⟩ := RThread.open_ hr21
 obtain ⟨_, b26, p26, _, hx26, hA26, _, hl26, hc26, hr26⟩ := RdS.get (hSt21) (i) (by omega)
 obtain rfl := Option.some.inj (hxs.symm.trans hx26)
 obtain ⟨Ag26, ng26, cg26, As26, ns26, cs26, rfl, ⟨_, _, _, _, _⟩, _, hSet26, _, _⟩ := RStep.open_ hr26
 refine qN ((S1_4.q.a hc26).a hc21) [.o 6,.o 5,.x b21 p21,.f 0 4,.o 5,.x b26 p26,.v 1] rfl ⟨⟨rfl,hl26⟩,⟨hA26,by omega⟩,rfl,rfl,⟨hA21,by omega⟩,rfl,rfl,⟨⟩⟩ (BK_of ?_)
 refine BKL_alloc rfl rfl zv_88 rfl ?_
 refine BKL_nil ?_
 rintro wR2 ⟨SR2, XR2⟩
 intro g8 hg8 G8 ng8
 dsimp only [upds]
 have GKM8 := Nat.le_trans KM.size G8
 replace KM := KM.trans (XR2.of_nil)
 clear ng8
 replace SR2 := SR2.push_new S1_4 hg8 G8
 refine o_storeN (kk := 0) (vs := [_, _, _, _, _, _, _, _, _, _, _]) SR2 sz_88 rfl rfl rfl rfl rfl rfl rfl ?_
 intro w2_13 S2_13 X2_13
 dsimp only [setsAt, List.set] at S2_13
 replace KM := KM.fresh2 X2_13 (by exact .inl GKM8)
 refine lO0 rfl ⟨⟩ (o_alloc S2_13 zv_121 rfl rfl ?_)
 intro g9 w9 S9 X9 G9
 have GKM9 := Nat.le_trans KM.size G9
 replace KM := KM.trans (X9.of_nil)
 refine lC S9.k [.o 1] rfl ⟨rfl,⟨⟩⟩ ?_
 refine wL (fun μk D ε w => D = [] ∧ ∃ k : Nat, ∃ Gc : Option Nat, ∃ csc : List Value, ∃ vc : Value, ∃ Gv : Option Nat, ∃ csv : List Value, ∃ vv : Value, ∃ csm' : List Value, (k + μk = (s.set.length)) ∧ (RowR RIntF 1 [] w0 Gc csc vc ((shTo p s k).map AssignD.cell)) ∧ (RowR RIntF 1 [] w0 Gv csv vv ((shTo p s k).map fun a => a.to.evl (viewC c t) (viewC c t))) ∧ (∀ g ∈ Gc.toList ++ Gv.toList, w15.heap.size ≤ g) ∧ (RowV Gm 1 c.mem.length csm' (.slice Bm bm' dm) ((setC (loTo p s k) (viewC c t) c.mem).map (Value.int .i64))) ∧ (Keep Gm.toList w15 w) ∧ St [] w0 w ([(Gc, 3, csc), (Gv, 3, csv), (some g9, 121, [vc, vv]), (some g8, 88, [.int .i64 s.kind, .int .i64 s.frm, .int .i64 s.to, .int .i64 s.guard.op, .int .i64 s.guard.w, .int .i64 s.guard.n, .slice Ag26 ng26 cg26, .slice As26 ns26 cs26, .bool s.release, .int .i64 s.target, .int .i64 s.module_]), (some g7, 52, [.slice Bm bm' dm, .slice (some ⟨ga, 0, none⟩) c.at_.length (c.at_.length + pada.length), .slice (some ⟨gb, 0, none⟩) c.buf.length c.buf.length]), (some gb, 118, vs), (some ga, 3, c.at_.map (Value.int .i64) ++ pada), (Gm, 3, csm'), (some g6, 52, [.slice none 0 0, .slice none 0 0, .slice none 0 0]), (some g4, 68, [.int .i64 t, .int .i64 i, .int .i64 0]), (some g3, 189, [.slice Xm xm ym, .slice Xa xa ya, .slice Xb xb yb, .slice Ac nc cc, .slice Am nm cm, .slice Al nl cl, .slice At nt ct, .int .i64 m])] ++ rows) ∧ Sl ε [(2, .slice Av nv cv), (3, .pointer (some ⟨g3, 0, none⟩)), (4, .pointer (some ⟨g4, 0, none⟩)), (6, .pointer (some ⟨g6, 0, none⟩)), (7, .pointer (some ⟨g7, 0, none⟩)), (8, .pointer (some ⟨g8, 0, none⟩)), (9, .pointer (some ⟨g9, 0, none⟩)), (29, .slice As26 ns26 cs26), (30, .int .i64 ns26), (31, .int .i64 k)]) (μ := (s.set.length)) ⟨rfl, 0, none, [], .slice none 0 0, none, [], .slice none 0 0, csm, by omega, by rw [shTo_zero]; exact RowR.nil, by rw [shTo_zero]; exact RowR.nil, by simp, by rw [loTo_zero]; exact Rm, KM, ((S9.nilEnt 3).nilEnt 3), rfl⟩ ?_
 rintro μk D ε w ⟨rfl, k, Gc, csc, vc, Gv, csv, vv, csm', _, hrc, hrv, hgc, hrm, KM, S, eZ⟩
 refine wK eZ (wB0 rfl ⟨⟩ (fun h32 => ?_) fun h32 => ?_)
 ·obtain ⟨a, b33, p33, _, hxa, hA33, _, hl33, hc33, hr33⟩ := RdS.get (hSet26) (k) (by omega)
  obtain ⟨_, _, _, rfl, ia33, hE33⟩ := RAssign.open_ hr33
  have hxa' := hxa
  have q1 := (hso.set a (some_mem hxa')).1
  unfold isIn at q1
  have q2 := evl_range (hso.set a (some_mem hxa')).2.1 (viewC c t) (viewC c t)
  rw [(hso.set a (some_mem hxa')).2.2] at q2
  have q2' := pow2_w hp a.cell
  have q3 : i64 (a.to.evl (viewC c t) (viewC c t)) := by unfold i64; omega
  refine lO (S.k.a hc33) [.x b33 p33,.v 0] rfl ⟨⟨rfl,hl33⟩,⟨hA33,by omega⟩,⟨⟩⟩ (o_alloc S zv_98 rfl rfl ?_)
  intro g11 w11 S11 X11 G11
  have GKM11 := Nat.le_trans KM.size G11
  replace KM := KM.trans (X11.of_nil)
  refine o_storeN (kk := 0) (vs := [_, _, _, _, _]) S11 sz_98 rfl rfl rfl rfl rfl rfl rfl ?_
  intro w6_3 S6_3 X6_3
  dsimp only [setsAt, List.set] at S6_3
  replace KM := KM.fresh2 X6_3 (by exact .inl GKM11)
  refine lO S6_3.k [.o 0] rfl ⟨rfl,⟨⟩⟩ (o_callr S6_3 has_23 rfl rfl (eval_fn a.to M _ _ _ _ (viewC c t) (viewC c t) (RdE.keep (S6_3.keep0 M) _ _ hE33) (hI.keep (S6_3.keep0 M)).msk (hV.keep (S6_3.keep0 M)) (hV.keep (S6_3.keep0 M))) ?_)
  intro w39 S39 X39
  replace KM := KM.trans (X39.of_nil)
  refine lO0 rfl ⟨⟩ (o_load one_3 rfl (by exact S39.cell 4 rfl rfl) rfl ?_)
  refine lB0 rfl ⟨⟩ (fun h42 => ?_) fun h42 => ?_
  ·refine lO0 rfl ⟨⟩ (o_load one_22 rfl (by exact S39.cell 11 rfl rfl) rfl ?_)
   obtain ⟨_, b49, p49, _, hxcl', hA49, _, _, hc49, hr49⟩ := RdS.get (hC) (a.cell.toNat) (by omega)
   obtain ⟨rfl, _, _, _, _⟩ := RCell.open_ hr49
   have hthr := thr_some hxcl'
   refine lB (S39.k.a hc49) [.o 0,.x b49 p49,.f 0 3] rfl ⟨rfl,⟨hA49,by omega⟩,rfl,⟨⟩⟩ (fun h52 => ?_) fun h52 => ?_
   ·refine lO0 rfl ⟨⟩ (o_load one_49 rfl (by exact S39.cell 3 rfl rfl) rfl ?_)
    refine lO S39.k [.o 0] rfl ⟨rfl,⟨⟩⟩ (o_buildSlice S39 slz_49 (vs := [.int .i64 _]) (cs := [_]) (by rfl) rfl rfl rfl rfl rfl rfl ?_)
    intro g58 w58 S58 X58 G58
    replace KM := KM.trans (X58.of_nil)
    refine o_append1 law_int (k := 2) (M2 := []) (e1 := a.cell) S58 slz_49 (by decide) rfl hrc rfl rfl (S58.cells 0 rfl) ⟨rfl, ia33⟩ (by have := shTo_len (p := p) (s := s) (k := k); simp; omega) rfl ?_
    intro v59 Gc' csc' w59 S59 hrc' X59 F59
    have Z59 := KM.size
    obtain ⟨_, _, rfl⟩ := hrc'.form
    replace KM := KM.freshL X59 (fun g hg => .inl (hgc g (List.mem_append_left _ hg)))
    refine lO0 rfl ⟨⟩ ?_
    first | refine o_store (kk := 4) S59 sz_49 rfl (by conv => lhs; whnf) rfl rfl (by exact Nat.le_of_ble_eq_true rfl) ?_
    intro w9_7 S9_7 X9_7
    replace KM := KM.fresh2 X9_7 (by exact .inl GKM9)
    refine lO0 rfl ⟨⟩ (o_load one_49 rfl (by exact S9_7.cell 4 rfl rfl) rfl ?_)
    refine lO0 rfl ⟨⟩ (o_buildSlice S9_7 slz_49 (vs := [.int .i64 _]) (cs := [_]) (by rfl) rfl rfl rfl rfl rfl rfl ?_)
    intro g64 w64 S64 X64 G64
    replace KM := KM.trans (X64.of_nil)
    refine o_append1 law_int (k := 4) (M2 := []) (e1 := a.to.evl (viewC c t) (viewC c t)) S64 slz_49 (by decide) rfl hrv rfl rfl (S64.cells 0 rfl) ⟨rfl, q3⟩ (by have := shTo_len (p := p) (s := s) (k := k); simp; omega) rfl ?_
    intro v65 Gv' csv' w65 S65 hrv' X65 F65
    have Z65 := KM.size
    obtain ⟨_, _, rfl⟩ := hrv'.form
    replace KM := KM.freshL X65 (fun g hg => .inl (hgc g (List.mem_append_right _ hg)))
    refine lO0 rfl ⟨⟩ ?_
    first | refine o_store (kk := 5) S65 sz_49 rfl (by conv => lhs; whnf) rfl rfl (by exact Nat.le_of_ble_eq_true rfl) ?_
    intro w10_6 S10_6 X10_6
    replace KM := KM.fresh2 X10_6 (by exact .inl GKM9)
    refine lP0 rfl ⟨by omega,⟨⟩⟩ ⟨μk - 1, by omega, rfl, (k + 1), (_), (_), (_), (_), (_), (_), (_), (by omega), ?_, ?_, ?_, ?_, (KM), S10_6.tail.tail.tail, rfl⟩
    ·rw [(shTo_yes h42 hxa' (hthr.trans h52)).1, List.map_append]; exact hrc'
    ·rw [(shTo_yes h42 hxa' (hthr.trans h52)).1, List.map_append]; exact hrv'
    ·intro g hg
     rcases List.mem_append.1 hg with hg | hg
     ·rcases F59 g hg with h | h
      ·exact hgc g (List.mem_append_left _ h)
      ·omega
     ·rcases F65 g hg with h | h
      ·exact hgc g (List.mem_append_right _ h)
      ·omega
    ·rw [(shTo_yes h42 hxa' (hthr.trans h52)).2]; exact hrm
   obtain ⟨gm, pad, rfl, hvm, rfl, hmx⟩ := hrm.pad (by simp; omega)
   have hml : (setC (loTo p s k) (viewC c t) c.mem).length = c.mem.length := by simp
   cases hvm
   refine lO0 rfl ⟨⟩ (o_load one_49 rfl (by exact S39.cell 5 rfl rfl) rfl ?_)
   refine lO S39.k [.o 0] rfl ⟨rfl,⟨⟩⟩ (o_indexAddr slz_49.slT rfl (by rfl) rfl (by omega) (by omega) rfl ?_)
   first | refine o_store (kk := 8) S39 sz_3 rfl (by conv => lhs; whnf) rfl rfl (by (simp; omega)) ?_
   intro w11_6 S11_6 X11_6
   replace KM := KM.fresh2 X11_6 (by exact .inr (by simp))
   refine lP0 rfl ⟨by omega,⟨⟩⟩ ⟨μk - 1, by omega, rfl, (k + 1), (_), (_), (_), (_), (_), (_), (_), (by omega), ?_, ?_, ?_, ?_, (KM), S11_6.tail, rfl⟩
   ·rw [(shTo_no hxa' (fun _ => by rw [hthr]; exact h52)).1]; exact hrc
   ·rw [(shTo_no hxa' (fun _ => by rw [hthr]; exact h52)).1]; exact hrv
   ·exact hgc
   ·have e2 : loTo p s (k + 1) = loTo p s k ++ [a] := by exact (shTo_no hxa' (fun _ => by rw [hthr]; exact h52)).2
    rw [e2, setC_snoc]
    have := RowV.ofPad (g := gm) (l := (setC (loTo p s k) (viewC c t) c.mem).set a.cell.toNat (a.to.evl (viewC c t) (viewC c t))) (pad := pad) (by simpa using hmx)
    rw [← set_pad (by omega)] at this
    simpa using this
  obtain ⟨gm, pad, rfl, hvm, rfl, hmx⟩ := hrm.pad (by simp; omega)
  have hml : (setC (loTo p s k) (viewC c t) c.mem).length = c.mem.length := by simp
  cases hvm
  refine lO0 rfl ⟨⟩ (o_load one_49 rfl (by exact S39.cell 5 rfl rfl) rfl ?_)
  refine lO S39.k [.o 0] rfl ⟨rfl,⟨⟩⟩ (o_indexAddr slz_49.slT rfl (by rfl) rfl (by omega) (by omega) rfl ?_)
  first | refine o_store (kk := 8) S39 sz_3 rfl (by conv => lhs; whnf) rfl rfl (by (simp; omega)) ?_
  intro w11_6 S11_6 X11_6
  replace KM := KM.fresh2 X11_6 (by exact .inr (by simp))
  refine lP0 rfl ⟨by omega,⟨⟩⟩ ⟨μk - 1, by omega, rfl, (k + 1), (_), (_), (_), (_), (_), (_), (_), (by omega), ?_, ?_, ?_, ?_, (KM), S11_6.tail, rfl⟩
  ·rw [(shTo_no hxa' (fun h => absurd h h42)).1]; exact hrc
  ·rw [(shTo_no hxa' (fun h => absurd h h42)).1]; exact hrv
  ·exact hgc
  ·have e2 : loTo p s (k + 1) = loTo p s k ++ [a] := by exact (shTo_no hxa' (fun h => absurd h h42)).2
   rw [e2, setC_snoc]
   have := RowV.ofPad (g := gm) (l := (setC (loTo p s k) (viewC c t) c.mem).set a.cell.toNat (a.to.evl (viewC c t) (viewC c t))) (pad := pad) (by simpa using hmx)
   rw [← set_pad (by omega)] at this
   simpa using this
 refine lO0 rfl ⟨⟩ (o_load one_3 rfl (by exact S.cell 3 rfl rfl) rfl ?_)
 refine lB0 rfl ⟨⟩ (fun h76 => ?_) fun h76 => ?_
 ·have hR2 := hR.keep (KM.mono (fun g hg => List.mem_append_left _ (List.mem_append_left _ hg)))
  obtain ⟨G, cs', v, hrk, hvk, hrow⟩ := hR2.2.2 t b hxb
  obtain ⟨_, _, rfl⟩ := hrow.form
  obtain ⟨_, _, rfl⟩ := hrc.form
  obtain ⟨_, _, rfl⟩ := hrv.form
  have hvl : vs.length = c.buf.length := hR2.2.1
  have hGb : ∀ g ∈ G.toList, g ∈ (Gm.toList ++ ((some ga).toList ++ (gb :: g6 :: g4 :: g3 :: M))) ++ blks rows := fun g hg => List.mem_append_right _ (mem_blks.2 ⟨_, List.mem_of_getElem? hrk, by cases G <;> simp at hg ⊢; exact hg.symm⟩)
  have hC1 : RdI ((Gm.toList ++ ((some ga).toList ++ (gb :: g6 :: g4 :: g3 :: M))) ++ blks rows) w _ _ := RowR.rd (M := (Gm.toList ++ ((some ga).toList ++ (gb :: g6 :: g4 :: g3 :: M))) ++ blks rows) (w := w) law_int hrc S (k := 0) rfl (fun g hg hm => by have := hgc g (by rw [hg]; simp); have := hQ15 g hm; omega) (by have := shTo_len (p := p) (s := s) (k := k); simp; omega)
  have hC2 : RdI ((Gm.toList ++ ((some ga).toList ++ (gb :: g6 :: g4 :: g3 :: M))) ++ blks rows) w _ _ := RowR.rd (M := (Gm.toList ++ ((some ga).toList ++ (gb :: g6 :: g4 :: g3 :: M))) ++ blks rows) (w := w) law_int hrv S (k := 1) rfl (fun g hg hm => by have := hgc g (by rw [hg]; simp); have := hQ15 g hm; omega) (by have := shTo_len (p := p) (s := s) (k := k); simp; omega)
  refine lC0 rfl ⟨⟩ (W_mixS fmx (fun i => [0, 1, 2, 3, 4, 5, 6, 7, 8, 9, 10, 13].contains i) [0, 1, 2, 3, 4, 5, 6, 7, 8, 9, 10, 11, 12, 13] 14 (by kernel_rfl) (by kernel_rfl) (clF (A := [_, _, _, _, _, _, _, _, _, _, _]) (R := rows) S G.toList) _ rfl ?_)
  have SR14 := S.drew
  have YR14 : Keep [] w w.drew := keep_drew _ _
  generalize w.drew = wR14 at SR14 YR14 ⊢
  have XR14 : Keep (G.toList) _ _ := YR14.of_nil
  replace hR2 := hR2.keep YR14.of_nil
  replace hC1 := hC1.keep YR14.of_nil
  replace hC2 := hC2.keep YR14.of_nil
  refine WM_q ⟨(St.front (A := [_, _, _, _, _, _, _, _, _, _, _]) SR14), XR14⟩ rfl rfl rfl ?_
  refine q_fieldAddr fa_52_2 rfl rfl ?_
  refine QL_nil ?_
  refine WM_q ⟨(St.front (A := [_, _, _, _, _, _, _, _, _, _, _]) SR14), XR14⟩ rfl rfl rfl ?_
  refine q_load one_50 rfl (fun w1 hw => by exact hw.1.cell 4 rfl rfl) rfl ?_
  refine QL_nil ?_
  refine WM_q ⟨(St.front (A := [_, _, _, _, _, _, _, _, _, _, _]) SR14), XR14⟩ rfl rfl rfl ?_
  refine q_fieldAddr fa_68_0 rfl rfl ?_
  refine QL_nil ?_
  refine WM_q ⟨(St.front (A := [_, _, _, _, _, _, _, _, _, _, _]) SR14), XR14⟩ rfl rfl rfl ?_
  refine q_load one_3 rfl (fun w1 hw => by exact hw.1.cell 9 rfl rfl) rfl ?_
  refine QL_nil ?_
  refine WM_q ⟨(St.front (A := [_, _, _, _, _, _, _, _, _, _, _]) SR14), XR14⟩ rfl rfl rfl ?_
  refine q_fieldAddr fa_52_2 rfl rfl ?_
  refine QL_nil ?_
  refine WM_q ⟨(St.front (A := [_, _, _, _, _, _, _, _, _, _, _]) SR14), XR14⟩ rfl rfl rfl ?_
  refine q_load one_50 rfl (fun w1 hw => by exact hw.1.cell 4 rfl rfl) rfl ?_
  refine QL_nil ?_
  refine WM_q ⟨(St.front (A := [_, _, _, _, _, _, _, _, _, _, _]) SR14), XR14⟩ rfl rfl rfl ?_
  refine q_fieldAddr fa_68_0 rfl rfl ?_
  refine QL_nil ?_
  refine WM_q ⟨(St.front (A := [_, _, _, _, _, _, _, _, _, _, _]) SR14), XR14⟩ rfl rfl rfl ?_
  refine q_load one_3 rfl (fun w1 hw => by exact hw.1.cell 9 rfl rfl) rfl ?_
  refine QL_nil ?_
  refine WM_q ⟨(St.front (A := [_, _, _, _, _, _, _, _, _, _, _]) SR14), XR14⟩ rfl rfl rfl ?_
  refine q_indexAddr slz_50.slT rfl (by rfl) rfl (by omega) (by omega) rfl ?_
  refine QL_nil ?_
  refine WM_q ⟨(St.front (A := [_, _, _, _, _, _, _, _, _, _, _]) SR14), XR14⟩ rfl rfl rfl ?_
  refine q_load one_118 rfl (fun w1 hw => by exact hw.1.cell 5 rfl ((congrArg (vs[·]?) (show 0 + (t : Int).toNat * 1 = t by simp)).trans hvk)) rfl ?_
  refine QL_nil ?_
  refine WM_q ⟨(St.front (A := [_, _, _, _, _, _, _, _, _, _, _]) SR14), XR14⟩ rfl rfl rfl ?_
  refine q_loadN many_121 rfl (fun w1 hw => hw.1.cells 2 rfl) rfl rfl ?_
  refine QL_nil ?_
  refine WM_o ⟨(St.front (A := [_, _, _, _, _, _, _, _, _, _, _]) SR14), XR14⟩ rfl rfl rfl rfl ?_
  refine o_buildSlice SR14 slz_118 (vs := [.agg _]) (cs := [_, _]) (by rfl) rfl rfl rfl rfl rfl rfl ?_
  intro g88 w88 S88 X88 G88
  have XCw88 := XR14.trans (X88.mono (by simp))
  replace hR2 := hR2.keep (X88.of_nil)
  replace hC1 := hC1.keep (X88.of_nil)
  replace hC2 := hC2.keep (X88.of_nil)
  refine WL_nil ⟨rfl, ?_⟩
  refine WM_o ⟨(St.front (A := [_, _, _, _, _, _, _, _, _, _, _, _]) S88).tail, XCw88⟩ rfl rfl rfl rfl ?_
  obtain ⟨G', cs'', _, hrk', hvk', hrow2⟩ := hR2.2.2 t b hxb
  obtain ⟨rfl, rfl⟩ : G = G' ∧ cs' = cs'' := by rw [hrk] at hrk'; cases hrk'; exact ⟨rfl, rfl⟩
  obtain rfl := Option.some.inj (hvk.symm.trans hvk')
  refine o_append1 law_entry (k := 12 + t) (e1 := ⟨(shTo p s k).map AssignD.cell, (shTo p s k).map fun a => a.to.evl (viewC c t) (viewC c t)⟩) S88 slz_118 (by decide) ((getR [_, _, _, _, _, _, _, _, _, _, _, _] rows t 12 rfl).trans hrk) hrow2 rfl rfl (S88.cells 0 rfl) ⟨_, _, rfl, hC1.more (by omega) (fun g hg => .inl (by rcases List.mem_append.1 hg with h | h; exact hGb g h; exact h)), hC2.more (by omega) (fun g hg => .inl (by rcases List.mem_append.1 hg with h | h; exact hGb g h; exact h))⟩ (by omega) rfl ?_
  intro v89 G89 cs89 w89 S89' hrow89 X89 F89
  have S89 : St [] w0 w89 ([_, _, _, _, _, _, _, _, _, _, _, _] ++ rows.set t (G89, 121, cs89)) := (setR [_, _, _, _, _, _, _, _, _, _, _, _] rows t 12 rfl _) ▸ S89'
  have S89b := S89.tail
  have XC89 := XCw88.trans X89
  have hR4 := hR2.put (k := t) (by omega) hrow89 X89 F89 hrk
  obtain ⟨_, _, hv89⟩ := hrow89.form
  subst hv89
  clear hR
  refine WL_nil ⟨rfl, ?_⟩
  refine WM_q ⟨(St.front (A := [_, _, _, _, _, _, _, _, _, _, _]) S89b), XC89⟩ rfl rfl rfl ?_
  refine q_indexAddr slz_50.slT rfl (by rfl) rfl (by omega) (by omega) rfl ?_
  refine QL_nil ?_
  refine WM_nil ⟨(St.front (A := [_, _, _, _, _, _, _, _, _, _, _]) S89b), XC89⟩ ?_
  first | refine o_store (kk := 5) S89b sz_118 rfl (by conv => lhs; whnf) rfl rfl (by (simp; omega)) ?_
  intro w14_14 S14_14 X14_14
  replace hR4 := hR4.keep (X14_14.mono (by simp))
  refine WL_nil ⟨rfl, ?_⟩
  try have hR4 := hR.keep (KM.mono (fun g hg => List.mem_append_left _ (List.mem_append_left _ hg)))
  refine fO0 rfl ⟨⟩ (o_load one_49 rfl (by exact S14_14.cell 4 rfl rfl) rfl ?_)
  refine lO0 rfl ⟨⟩ (o_load one_3 rfl (by exact S14_14.cell 9 rfl rfl) rfl ?_)
  refine lO0 rfl ⟨⟩ (o_load one_3 rfl (by exact S14_14.cell 3 rfl rfl) rfl ?_)
  refine o_indexAddr slz_49.slT rfl (by rfl) rfl (by omega) (by omega) rfl ?_
  first | refine o_store (kk := 6) S14_14 sz_3 rfl (by conv => lhs; whnf) rfl rfl (by (simp; omega)) ?_
  intro w15_7 S15_7 X15_7
  replace hR4 := hR4.keep (X15_7.mono (by simp))
  refine lO0 rfl ⟨⟩ (o_load one_3 rfl (by exact S15_7.cell 3 rfl rfl) rfl ?_)
  refine lB0 rfl ⟨⟩ (fun h100 => ?_) fun h100 => ?_
  ·refine lO0 rfl ⟨⟩ (o_load one_49 rfl (by exact S15_7.cell 4 rfl rfl) rfl ?_)
   refine lO0 rfl ⟨⟩ (o_load one_3 rfl (by exact S15_7.cell 3 rfl rfl) rfl ?_)
   have q6 := hk6 (by omega)
   refine o_indexAddr slz_49.slT rfl (by rfl) rfl (by omega) (by omega) rfl ?_
   first | refine o_store (kk := 6) S15_7 sz_3 rfl (by conv => lhs; whnf) rfl rfl (by (simp; omega)) ?_
   intro w17_5 S17_5 X17_5
   replace hR4 := hR4.keep (X17_5.mono (by simp))
   refine lO0 rfl ⟨⟩ (o_loadN many_52 rfl (S17_5.cells 4 rfl) rfl rfl ?_)
   first | refine o_storeN (kk := 8) (vs := [_, _, _]) S17_5 sz_52 rfl rfl rfl rfl rfl rfl rfl ?_
   intro w18_1 S18_1 X18_1
   dsimp only [setsAt, List.set] at S18_1
   replace hR4 := hR4.keep (X18_1.mono (by simp))
   refine lR0 rfl ⟨⟩ ?_
   have SF := S18_1.setEnt 6 rfl (show _ = (atC c t s).map (Value.int .i64) ++ pada by exact at_pad6 h100 (by omega) (by omega) (by simp) (by simp))
   have hal := atC_len c t s
   rw [exec_store hm0 h76 hxb (k := k) (by omega)] at hf' ⊢
   have SG := SF.setEnt 5 rfl (congrArg (fun i => vs.set i _) (show 0 + (t : Int).toNat * 1 = t by simp))
   refine ret_cell1 (n := 3) rfl many_52 rfl (SG.cells 8 rfl) rfl ⟨⟨_, rfl, _, _, _, rfl, hrm.rdI SG (k := 7) rfl hM (mem_i64 hp hf'.mem) (by simp; omega), ?_, ?_⟩, SG.fin⟩
   ·have := (RowV.ofPad (g := ga) (l := atC c t s) (pad := pada) (by rw [hal]; exact hmxa)).rdI SG (k := 6) rfl hM (at_i64 hp hf') (by rw [hal]; omega)
    rw [hal] at this
    exact this
   ·have hA := SG.apartM (A := [_, _, _, _, _, _, _, _, _, _, _]) hM
    have := SG.rdBs (M := M) 5 rfl (fresh_not hM (SG.new 5 rfl)) (bs := c.buf.set t _) (by simp; omega) (hR4.rd (A := [_, _, _, _, _, _, _, _, _, _, _]) SG (Mx := M) (fun g hg => by simp [hg]) hA (fun x hx => by
     obtain ⟨q, hq, rfl⟩ := List.getElem_of_mem hx
     have := (hf'.bufs q _ (List.getElem?_eq_getElem hq)).1
     omega))
    rw [List.length_set] at this
    exact this
  refine lO0 rfl ⟨⟩ (o_loadN many_52 rfl (S15_7.cells 4 rfl) rfl rfl ?_)
  first | refine o_storeN (kk := 8) (vs := [_, _, _]) S15_7 sz_52 rfl rfl rfl rfl rfl rfl rfl ?_
  intro w18_1 S18_1 X18_1
  dsimp only [setsAt, List.set] at S18_1
  replace hR4 := hR4.keep (X18_1.mono (by simp))
  refine lR0 rfl ⟨⟩ ?_
  have SF := S18_1.setEnt 6 rfl (show _ = (atC c t s).map (Value.int .i64) ++ pada by exact at_pad h100 (by omega) (by simp))
  have hal := atC_len c t s
  rw [exec_store hm0 h76 hxb (k := k) (by omega)] at hf' ⊢
  have SG := SF.setEnt 5 rfl (congrArg (fun i => vs.set i _) (show 0 + (t : Int).toNat * 1 = t by simp))
  refine ret_cell1 (n := 3) rfl many_52 rfl (SG.cells 8 rfl) rfl ⟨⟨_, rfl, _, _, _, rfl, hrm.rdI SG (k := 7) rfl hM (mem_i64 hp hf'.mem) (by simp; omega), ?_, ?_⟩, SG.fin⟩
  ·have := (RowV.ofPad (g := ga) (l := atC c t s) (pad := pada) (by rw [hal]; exact hmxa)).rdI SG (k := 6) rfl hM (at_i64 hp hf') (by rw [hal]; omega)
   rw [hal] at this
   exact this
  ·have hA := SG.apartM (A := [_, _, _, _, _, _, _, _, _, _, _]) hM
   have := SG.rdBs (M := M) 5 rfl (fresh_not hM (SG.new 5 rfl)) (bs := c.buf.set t _) (by simp; omega) (hR4.rd (A := [_, _, _, _, _, _, _, _, _, _, _]) SG (Mx := M) (fun g hg => by simp [hg]) hA (fun x hx => by
    obtain ⟨q, hq, rfl⟩ := List.getElem_of_mem hx
    have := (hf'.bufs q _ (List.getElem?_eq_getElem hq)).1
    omega))
   rw [List.length_set] at this
   exact this
 try have hR4 := hR.keep (KM.mono (fun g hg => List.mem_append_left _ (List.mem_append_left _ hg)))
 refine lO0 rfl ⟨⟩ (o_load one_49 rfl (by exact S.cell 4 rfl rfl) rfl ?_)
 refine lO0 rfl ⟨⟩ (o_load one_3 rfl (by exact S.cell 9 rfl rfl) rfl ?_)
 refine lO0 rfl ⟨⟩ (o_load one_3 rfl (by exact S.cell 3 rfl rfl) rfl ?_)
 refine o_indexAddr slz_49.slT rfl (by rfl) rfl (by omega) (by omega) rfl ?_
 first | refine o_store (kk := 6) S sz_3 rfl (by conv => lhs; whnf) rfl rfl (by (simp; omega)) ?_
 intro w15_7 S15_7 X15_7
 replace hR4 := hR4.keep (X15_7.mono (by simp))
 refine lO0 rfl ⟨⟩ (o_load one_3 rfl (by exact S15_7.cell 3 rfl rfl) rfl ?_)
 refine lB0 rfl ⟨⟩ (fun h100 => ?_) fun h100 => ?_
 ·refine lO0 rfl ⟨⟩ (o_load one_49 rfl (by exact S15_7.cell 4 rfl rfl) rfl ?_)
  refine lO0 rfl ⟨⟩ (o_load one_3 rfl (by exact S15_7.cell 3 rfl rfl) rfl ?_)
  have q6 := hk6 (by omega)
  refine o_indexAddr slz_49.slT rfl (by rfl) rfl (by omega) (by omega) rfl ?_
  first | refine o_store (kk := 6) S15_7 sz_3 rfl (by conv => lhs; whnf) rfl rfl (by (simp; omega)) ?_
  intro w17_5 S17_5 X17_5
  replace hR4 := hR4.keep (X17_5.mono (by simp))
  refine lO0 rfl ⟨⟩ (o_loadN many_52 rfl (S17_5.cells 4 rfl) rfl rfl ?_)
  first | refine o_storeN (kk := 8) (vs := [_, _, _]) S17_5 sz_52 rfl rfl rfl rfl rfl rfl rfl ?_
  intro w18_1 S18_1 X18_1
  dsimp only [setsAt, List.set] at S18_1
  replace hR4 := hR4.keep (X18_1.mono (by simp))
  refine lR0 rfl ⟨⟩ ?_
  have SF := S18_1.setEnt 6 rfl (show _ = (atC c t s).map (Value.int .i64) ++ pada by exact at_pad6 h100 (by omega) (by omega) (by simp) (by simp))
  have hal := atC_len c t s
  rw [exec_other h76 (k := k) (by omega)] at hf' ⊢
  have SG := SF
  refine ret_cell1 (n := 3) rfl many_52 rfl (SG.cells 8 rfl) rfl ⟨⟨_, rfl, _, _, _, rfl, hrm.rdI SG (k := 7) rfl hM (mem_i64 hp hf'.mem) (by simp; omega), ?_, ?_⟩, SG.fin⟩
  ·have := (RowV.ofPad (g := ga) (l := atC c t s) (pad := pada) (by rw [hal]; exact hmxa)).rdI SG (k := 6) rfl hM (at_i64 hp hf') (by rw [hal]; omega)
   rw [hal] at this
   exact this
  ·have hA := SG.apartM (A := [_, _, _, _, _, _, _, _, _, _, _]) hM
   have := SG.rdBs (M := M) 5 rfl (fresh_not hM (SG.new 5 rfl)) (bs := c.buf) (by omega) (hR4.rd (A := [_, _, _, _, _, _, _, _, _, _, _]) SG (Mx := M) (fun g hg => by simp [hg]) hA (fun x hx => by
    obtain ⟨q, hq, rfl⟩ := List.getElem_of_mem hx
    have := (hf'.bufs q _ (List.getElem?_eq_getElem hq)).1
    omega))
   exact this
 refine lO0 rfl ⟨⟩ (o_loadN many_52 rfl (S15_7.cells 4 rfl) rfl rfl ?_)
 first | refine o_storeN (kk := 8) (vs := [_, _, _]) S15_7 sz_52 rfl rfl rfl rfl rfl rfl rfl ?_
 intro w18_1 S18_1 X18_1
 dsimp only [setsAt, List.set] at S18_1
 replace hR4 := hR4.keep (X18_1.mono (by simp))
 refine lR0 rfl ⟨⟩ ?_
 have SF := S18_1.setEnt 6 rfl (show _ = (atC c t s).map (Value.int .i64) ++ pada by exact at_pad h100 (by omega) (by simp))
 have hal := atC_len c t s
 rw [exec_other h76 (k := k) (by omega)] at hf' ⊢
 have SG := SF
 refine ret_cell1 (n := 3) rfl many_52 rfl (SG.cells 8 rfl) rfl ⟨⟨_, rfl, _, _, _, rfl, hrm.rdI SG (k := 7) rfl hM (mem_i64 hp hf'.mem) (by simp; omega), ?_, ?_⟩, SG.fin⟩
 ·have := (RowV.ofPad (g := ga) (l := atC c t s) (pad := pada) (by rw [hal]; exact hmxa)).rdI SG (k := 6) rfl hM (at_i64 hp hf') (by rw [hal]; omega)
  rw [hal] at this
  exact this
 ·have hA := SG.apartM (A := [_, _, _, _, _, _, _, _, _, _, _]) hM
  have := SG.rdBs (M := M) 5 rfl (fresh_not hM (SG.new 5 rfl)) (bs := c.buf) (by omega) (hR4.rd (A := [_, _, _, _, _, _, _, _, _, _, _]) SG (Mx := M) (fun g hg => by simp [hg]) hA (fun x hx => by
   obtain ⟨q, hq, rfl⟩ := List.getElem_of_mem hx
   have := (hf'.bufs q _ (List.getElem?_eq_getElem hq)).1
   omega))
  exact this
end Go.Proofs.YtjjmdcnmeommbaaGreatDoor
namespace Go.Fw
open Go.RowKit
def NC (w : World) (rs : List (Nat × Obj)) : Prop := ∀ x ∈ rs, w.heap[x.1]? = some x.2 ∧ ∀ a t f, x.2 ≠ .cells a t f
theorem NC.nil {w : World} : NC w [] := fun x hx => by cases hx
theorem NC.lt {w : World} {rs : List (Nat × Obj)} (h : NC w rs) : ∀ x ∈ rs, x.1 < w.heap.size := fun x hx => by
 have := (h x hx).1
 rcases Nat.lt_or_ge x.1 w.heap.size with h' | h'
 ·exact h'
 ·rw [Array.getElem?_eq_none h'] at this; cases this
theorem NC.keep {w w' : World} {rs : List (Nat × Obj)} (h : NC w rs) (k : Keep [] w w') : NC w' rs := fun x hx => ⟨(k.same x.1 (h.lt x hx) (by simp)).trans (h x hx).1, (h x hx).2⟩
theorem NC.ne {w : World} {rs : List (Nat × Obj)} (h : NC w rs) {g t : Nat} {cs : List Value} (hg : hasBlk w (g, t, cs)) : ∀ x ∈ rs, x.1 ≠ g := fun x hx he => by
 have h1 := (h x hx).1
 rw [he] at h1
 unfold hasBlk at hg
 rw [hg] at h1
 exact (h x hx).2 _ _ _ (Option.some.inj h1).symm
theorem NC.keepS {w w' : World} {rs : List (Nat × Obj)} (h : NC w rs) {g t : Nat} {cs : List Value} (k : Keep [g] w w') (hg : hasBlk w (g, t, cs)) : NC w' rs := fun x hx =>
 ⟨(k.same x.1 (h.lt x hx) (by rw [List.mem_singleton]; exact h.ne hg x hx)).trans (h x hx).1, (h x hx).2⟩
theorem NC.keepL {w w' : World} {rs : List (Nat × Obj)} (h : NC w rs) {Gs : List Nat} (k : Keep Gs w w') (hg : ∀ g ∈ Gs, ∃ t cs, hasBlk w (g, t, cs)) : NC w' rs := fun x hx =>
 ⟨(k.same x.1 (h.lt x hx) (fun hh => by obtain ⟨t, cs, hb⟩ := hg _ hh; exact h.ne hb x hx rfl)).trans (h x hx).1, (h x hx).2⟩
theorem NC.tail {w : World} {x : Nat × Obj} {rs : List (Nat × Obj)} (h : NC w (x :: rs)) : NC w rs := fun y hy => h y (List.mem_cons_of_mem _ hy)
theorem NC.cons {w : World} {x : Nat × Obj} {rs : List (Nat × Obj)} (h : NC w rs) (h1 : w.heap[x.1]? = some x.2) (h2 : ∀ a t f, x.2 ≠ .cells a t f) : NC w (x :: rs) := fun y hy => by
 rcases List.mem_cons.1 hy with rfl | hy
 ·exact ⟨h1, h2⟩
 ·exact h y hy
theorem NC.put {w : World} {l : Nat} {o o' : Obj} {rs : List (Nat × Obj)} (h : NC w ((l, o) :: rs)) (hl : ∀ x ∈ rs, x.1 ≠ l) (ho : ∀ a t f, o' ≠ .cells a t f) : NC (w.putObj l o') ((l, o') :: rs) := by
 have hlt := h.lt (l, o) (by simp)
 refine NC.cons (fun x hx => ⟨?_, (h.tail x hx).2⟩) (World.putObj_heap_same hlt) ho
 rw [World.putObj_heap_other (hl x hx)]; exact (h.tail x hx).1
theorem St.putObj {M : List Nat} {w0 w : World} {L : List Ent} (S : St M w0 w L) {l : Nat} (o : Obj) {rs : List (Nat × Obj)} {o1 : Obj} (h : NC w rs) (hx : (l, o1) ∈ rs) (hl : w0.heap.size ≤ l ∨ l ∈ M) : St M w0 (w.putObj l o) L := by
 refine ⟨S.below.putObj o hl, fun b hb g hg => ⟨(S.own b hb g hg).1, (S.own b hb g hg).2.putObj (fun he => ?_)⟩, S.apart⟩
 exact h.ne (S.own b hb g hg).2 _ hx he.symm
def marks (rs : List Nat) : List (Nat × Obj) := rs.map fun r => (r, .deferred (some []))
theorem mem_marks {rs : List Nat} {x : Nat × Obj} (h : x ∈ marks rs) : x.1 ∈ rs := by
 obtain ⟨_, hr, rfl⟩ := List.mem_map.1 h; exact hr
def RetPostL (P : Program) (fn : Func) (R : Value → World → Prop) (D : List Deferred) (e : Env) (w : World) : Prop :=
 ∃ rs : List Nat, D = rs.map mark0 ∧ rs.Nodup ∧ NC w (marks rs) ∧ ∀ w', BelowB rs w w' → w'.heap.size = w.heap.size → ∀ tmps : Array Value, envOf { tmps, defers := [] } = e → ∃ v, (results fn tmps).run P w' = .ok v w' ∧ R v w'
theorem leaves_marks {P : Program} {fn : Func} {tmps : Array Value} {R : Value → World → Prop} : ∀ (rs : List Nat) (w : World), rs.Nodup → NC w (marks rs) → (∀ w', BelowB rs w w' → w'.heap.size = w.heap.size → ∃ v, (results fn tmps).run P w' = .ok v w' ∧ R v w') →
 LeavesInM Fence.wide 0 P fn tmps (fun en w' => ∃ v, en = .returned v ∧ R v w') (rs.map mark0) .returning w
 | [], w, _, _, h => by
   obtain ⟨v, h1, h2⟩ := h w (BelowB.refl _ _) rfl
   exact ⟨v, h1, v, rfl, h2⟩
 | r :: rs, w, hn, hO, h => by
   obtain ⟨hn1, hn2⟩ := List.nodup_cons.1 hn
   have hr : w.heap[r]? = some (.deferred (some [])) := (hO (r, .deferred (some [])) (by simp [marks])).1
   refine ⟨by simp, .inl ⟨r, _, rfl, run_takeDeferred hr, leaves_marks rs _ hn2 (fun x hx => ⟨?_, (hO x (by simp [marks] at hx ⊢; exact .inr hx)).2⟩) fun w' hb hs => ?_⟩⟩
   ·rw [World.putObj_heap_other (show x.1 ≠ r from fun he => hn1 (by rw [← he]; exact mem_marks hx))]
    exact (hO x (by simp [marks] at hx ⊢; exact .inr hx)).1
   ·refine h w' ⟨hb.os, hb.tape, hb.output, by simpa using hb.size, fun k hk hm => ?_⟩ (by simpa using hs)
    simp only [List.mem_cons, not_or] at hm
    rw [hb.block k (by simpa using hk) hm.2, World.putObj_heap_other hm.1]
theorem Does_enterL {P : Program} {N : Nat} {w : World} {f : FuncId} {fn : Func} {c : Code} {args : Array Value} {R : Value → World → Prop} (hf : P.funcs[f]? = some fn) (hb : fn.body = some c) (hN : fn.ntmps = N) (hle : Nat.ble args.size N = true)
 (h : W P none N c ⟨RetPostL P fn R, fun _ _ _ _ => False, RetPostL P fn R⟩ [] (initEnv args) w) : Does P f args w R := by
 subst hN
 unfold W at h
 have hsz : (args ++ Array.replicate (fn.ntmps - args.size) undef).size = fn.ntmps := by
  have := Nat.le_of_ble_eq_true hle
  simp; omega
 have h1 := h { tmps := args ++ Array.replicate (fn.ntmps - args.size) undef, defers := [] } hsz rfl (envOf_enter _ _)
 have key : ∀ (a : Act) (w : World), RetPostL P fn R a.defers (envOf a) w → LeavesInM Fence.wide 0 P fn a.tmps (fun en w' => ∃ v, en = .returned v ∧ R v w') a.defers .returning w := by
  intro a w hq
  obtain ⟨rs, hD, hn, hO, hq⟩ := hq
  rw [hD]
  exact leaves_marks rs w hn hO fun w' hb hs => hq w' hb hs a.tmps rfl
 refine callsIn_wide (n := 0).1 (callsIn_of_wp_marks hf hb trivial (wpIn_mono h1 fun ex a w hq => ?_))
 cases ex with
 | normal => exact key a w hq.2
 | ret => exact key a w hq.2
 | exit id => exact hq.2
 | goto l => exact hq
 | panic c => exact hq.elim
 | outgrown => exact hq.elim
section
variable {P : Program} {fn : Func} {R : Value → World → Prop} {D : List Deferred} {e : Env} {w : World}
theorem retL_cells2 {a1 t1 n a2 t2 g1 g2 : Nat} {cs : List Value} {v2 : Value} (h : fn.results = #[.cell a1 t1, .cell a2 t2]) (hM : Many P t1 n) (hO2 : One P t2) (e1 : e a1 = .pointer (some ⟨g1, 0, none⟩)) (e2 : e a2 = .pointer (some ⟨g2, 0, none⟩)) (hn1 : cs.length = n)
 (rs : List Nat) (hD : D = rs.map mark0) (hn : rs.Nodup) (hO : NC w (marks rs)) (hc1 : Cells w g1 0 cs) (hc2 : w.cell? ⟨g2, 0, none⟩ = some v2) (hg1 : g1 ∉ rs) (hg2 : g2 ∉ rs) (hR : ∀ w', BelowB rs w w' → R (.tuple #[.agg cs.toArray, v2]) w') : RetPostL P fn R D e w :=
 ⟨rs, hD, hn, hO, fun w' hb _ tmps he => by
  have hk : Keep rs w w' := ⟨hb.size, hb.block⟩
  have c1 := hc1.keep hk hg1
  have c2 := hk.cell (a := ⟨g2, 0, none⟩) hg2 hc2
  subst he; subst hn1
  simp only [envOf, Array.getD_eq_getD_getElem?] at e1 e2
  have h1 := run_loadCells_list (P := P) w' ⟨g1, 0, none⟩ cs (fun j v hj => by rw [Addr.add_lit]; exact c1 j v hj)
  have h2 : (loadVar t2 ⟨g2, 0, none⟩).run P w' = .ok v2 w' := by rw [hO2 w']; simp [load, Sem.run, c2]
  exact ⟨_, by simp [results, h, asAddr, e1, e2, hM w', h1, h2], hR w' hb⟩⟩
end
theorem Keep.of_belowM {M : List Nat} {w w' : World} (h : BelowB M w w') : Keep M w w' := ⟨h.size, h.block⟩
theorem range_start {w wi : World} {rs : List (Nat × Obj)} {rc : Loop} (hO : NC w rs) (hdr : wi.heap[w.heap.size]? = some (.deferred (some []))) (hl : wi.heap[w.heap.size + 1]? = some (.loop rc)) (hB : Below w.heap.size w wi) : NC wi ((w.heap.size + 1, .loop rc) :: (w.heap.size, .deferred (some [])) :: rs) :=
 ((hO.keep (Keep.of_below hB)).cons hdr (by simp)).cons hl (by simp)
end Go.Fw
namespace Go.Fw
open Go.RowKit
theorem ready_eq {m : Int} {b : List EntryD} {i : Nat} {en : EntryD} (h : b[i]? = some en) : readyC m b i = (decide (i = 0) || (decide (m = 2) && !((b.take i).any fun o => meetE o en))) := by
 unfold readyC
 congr 2
 rw [Bool.eq_iff_iff]
 rw [List.all_eq_true, Bool.not_eq_true', List.any_eq_false]
 have hlt := some_lt h
 constructor
 ·intro h1 o ho
  obtain ⟨j, hj, rfl⟩ := List.getElem_of_mem ho
  rw [List.length_take] at hj
  have := h1 j (List.mem_range.2 (by omega))
  rw [h, List.getElem?_eq_getElem (by omega)] at this
  rw [List.getElem_take]
  simpa using this
 ·intro h1 j hj
  have hj := List.mem_range.1 hj
  rw [h, List.getElem?_eq_getElem (show j < b.length by omega)]
  have := h1 b[j] (by rw [List.mem_take_iff_getElem]; exact ⟨j, by omega, rfl⟩)
  simpa using this
end Go.Fw
namespace Go.Proofs.YtjjmdcnmeommbaaGreatDoor
open Go.Fw Go.RowKit
theorem open_fn (cs : List Value) (h8 : cs.length = 8) (t : Int) (w0 : World) :
 Does Tryz.prog 137 #[.agg cs.toArray, .int .i64 t] w0 fun v w' => (∃ gs gt, v = .func (.func 174) #[] #[.pointer (some ⟨gs, 0, none⟩), .pointer (some ⟨gt, 0, none⟩)] ∧ w0.heap.size ≤ gs ∧ w0.heap.size ≤ gt ∧ hasBlk w' (gs, 189, cs) ∧ hasBlk w' (gt, 3, [.int .i64 t])) ∧ Below w0.heap.size w0 w' := by
 have S := St.refl w0
 match cs, h8 with
 | [c0, c1, c2, c3, c4, c5, c6, c7], _ =>
 refine dnR Tryz.func137 rfl Tryz.ntmps137 rfl ?_
 refine wO0 rfl ⟨⟩ (o_boxa S (by conv => lhs; whnf) rfl ?_)
 intro g2 w2 S2 X2 G2
 refine o_box1 S2 (v := .int .i64 _) rfl rfl rfl ?_
 intro g3 w3 S3 X3 G3
 refine lO0 rfl ⟨⟩ (o_makeFunc rfl rfl ?_)
 refine lR0 rfl ⟨⟩ (ret_1 rfl (by conv => lhs; whnf) ?_)
 exact ⟨⟨g2, g3, rfl, by simpa using S3.new 1 rfl, by simpa using S3.new 0 rfl, S3.blk 1 rfl, S3.blk 0 rfl⟩, S3.fin⟩
theorem open1_fn (c : ConfD) (m : Int) (t : Nat) (b : List EntryD) (hxb : c.buf[t]? = some b) (gs gt l : Nat) (Mf : List Nat) (w0 : World) (xs ps : List Value) (hps : ps.length = 4) (J : Nat → World → Prop) (Q : World → Prop)
 (hX : RdConf Mf w0 c xs) (hgs : gs ∉ Mf) (hbs : hasBlk w0 (gs, 189, xs ++ (ps ++ [.int .i64 m]))) (hbt : hasBlk w0 (gt, 3, [.int .i64 t]))
 (hJ0 : J 0 w0) (hJK : ∀ i w, J i w → Keep Mf w0 w) (hJs : ∀ i w w', J i w → Below w.heap.size w w' → J i w') (hJn : ∀ i w, J i w → i < b.length → readyC m b i = false → J (i + 1) w)
 (hY : ∀ (i : Nat) (en : EntryD) (w : World) (es : List Value), b[i]? = some en → readyC m b i = true → J i w → (∀ (M' : List Nat) (w' : World), (∀ g ∈ M', g ∈ Mf ∨ w0.heap.size ≤ g) → Keep M' w0 w' → REntry M' w' es en) → Yld Tryz.prog l #[.int .i64 i, .agg es.toArray] w fun v w' => (v = .bool true ∧ J (i + 1) w') ∨ (v = .bool false ∧ Q w')) :
 Does Tryz.prog 174 #[.func (.yield l) #[] #[], .pointer (some ⟨gs, 0, none⟩), .pointer (some ⟨gt, 0, none⟩)] w0 fun _ w' => J b.length w' ∨ Q w' := by
 obtain ⟨_, _, _, _, _, _, Xb, xb, yb, rfl, _, _, hBuf, _, _, _, _, _, _⟩ := hX.open_
 match ps, hps with
 | [c3, c4, c5, c6], _ =>
 have S := St.refl w0
 have hbs2 : w0.cell? ⟨gs, 2, none⟩ = some (.slice Xb xb yb) := hbs.cell rfl
 have hbt2 : w0.cell? ⟨gt, 0, none⟩ = some (.int .i64 t) := hbt.cell rfl
 have ht := some_lt hxb
 refine dnR Tryz.func174 rfl Tryz.ntmps174 rfl ?_
 refine wO0 rfl ⟨⟩ (o_load one_50 rfl (by exact S.old hbs2) rfl ?_)
 refine o_load one_3 rfl (by exact S.old hbt2) rfl ?_
 obtain ⟨_, b11, p11, _, hx11, hA11, _, _, hc11, hr11⟩ := RdS.get (hBuf) (t) (by omega)
 obtain rfl := Option.some.inj (hxb.symm.trans hx11)
 obtain ⟨Ab11, nb11, cb11, rfl, hBu11, _, _⟩ := RBuf.open_ hr11
 refine lC (S.k.a hc11) [.x b11 p11,.f 0 0] rfl ⟨rfl,⟨hA11,by omega⟩,⟨⟩⟩ (wL (fun μ D ε w => D = [] ∧ ∃ k : Nat, (k + μ = b.length) ∧ (J k w) ∧ ε 0 = .func (.yield l) #[] #[] ∧ ε 1 = .pointer (some ⟨gs, 0, none⟩) ∧ ε 4 = .slice Ab11 nb11 cb11 ∧ ε 13 = .slice Ab11 nb11 cb11 ∧ ε 14 = .int .i64 nb11 ∧ ε 15 = .int .i64 k) (μ := b.length) ⟨rfl, 0, by omega, hJ0, rfl, rfl, rfl, rfl, rfl, rfl⟩ ?_)
 rintro μ D ε w ⟨rfl, k, hk, hJ, e0, e1, e4, e13, e14, e15⟩
 refine W_known 0 e0 (W_known 1 e1 (W_known 4 e4 (W_known 13 e13 (W_known 14 e14 (W_known 15 e15 ?_)))))
 clear e0 e1 e4 e13 e14 e15
 have hKw := hJK _ _ hJ
 have hBu3 := RdS.keepW hBu11 hKw (REntry.keep hKw)
 have hBu2 := (RdS.mono hBu11 (R' := fun cs x => ∀ (M' : List Nat) (w' : World), (∀ g ∈ M', g ∈ Mf ∨ w0.heap.size ≤ g) → Keep M' w0 w' → REntry M' w' cs x) (fun cs x h M' w' hm hk => REntry.keep hk _ _ (REntry.more hm _ _ h))).keep hKw
 have hbm2 : w.cell? ⟨gs, 7, none⟩ = some (.int .i64 m) := hKw.cell (a := ⟨gs, 7, none⟩) hgs (hbs.cell rfl)
 replace S := St.refl w
 refine wB0 rfl ⟨⟩ (fun h16 => ?_) fun h16 => ?_
 ·obtain ⟨en, b18, p18, _, hxen, hA18, _, hl18, hc18, hr18⟩ := RdS.get (hBu2) (k) (by omega)
  have hrE := hr18 Mf _ (fun g hg => .inl hg) hKw
  obtain ⟨_, _, _, _, _, _, rfl, -⟩ := REntry.open_ hrE
  refine lO (S.k.a hc18) [.x b18 p18,.v 0] rfl ⟨⟨rfl,hl18⟩,⟨hA18,by omega⟩,⟨⟩⟩ (o_alloc S zv_121 rfl rfl ?_)
  intro g6 w6 S6 X6 G6
  refine lO0 rfl ⟨⟩ ?_
  first | refine o_storeN (kk := 0) (vs := [_, _]) S6 sz_121 rfl rfl rfl rfl rfl rfl rfl ?_
  intro w3_5 S3_5 X3_5
  dsimp only [setsAt, List.set] at S3_5
  refine lC0 rfl ⟨⟩ (W_draw fmx [0, 1, 2, 3, 4, 5, 6, 7, 8, 9, 10, 11, 12, 13] [] [] (by kernel_rfl) rfl (Cl _ _ _ _) (Cl.start S3_5) ?_)
  refine qB0 rfl ⟨⟩ (fun h21 => ?_) fun h21 => ?_
  ·refine qO0 rfl ⟨⟩ (q_load one_3 rfl (fun w1 hw => by exact hw.1.old hbm2) rfl ?_)
   refine qB0 rfl ⟨⟩ (fun h25 => ?_) fun h25 => ?_
   ·refine qD rfl ⟨⟩ ?_
    rintro wR4 ⟨SR4, XR4⟩
    refine lP0 rfl ⟨by omega,⟨⟩⟩ ?_
    exact ⟨μ - 1, by omega, rfl, k + 1, by omega, hJs _ _ _ (hJn _ _ hJ (by omega) (by rw [ready_eq hxen, decide_eq_false (show ¬ k = 0 by omega), decide_eq_false (show ¬ m = 2 from h25)]; rfl)) SR4.fin, rfl, rfl, rfl, rfl, rfl, rfl⟩
   refine qO0 rfl ⟨⟩ ?_
   refine q_slice (lo := 0) (hi := k) (kd := .i64) slz_118.slT (show _ = Value.slice (some ⟨b18, p18, none⟩) nb11 cb11 by rw [← hA18]; rfl) (.inl ⟨rfl, rfl⟩) (.inr rfl) (by omega) (by have := hBu2.len; omega) hBu2.len.2.1 rfl ?_
   simp only [Nat.zero_mul, Nat.add_zero, Nat.sub_zero, ite_self]
   refine qO S3_5.q [.w 0] rfl ⟨⟨rfl,by rfl⟩,⟨⟩⟩ (q_callb has_175 rfl rfl (fun w1 S1 X1 => blocked_fn (b.take k) en Mf _ _ _ (RdS.take (RdS.keepW (hA18 ▸ hBu3) (S1.keep0 Mf) (REntry.keep (S1.keep0 Mf))) k (by omega)) (REntry.keep (S1.keep0 Mf) _ _ hrE)) (fun h31 => ?_) fun h31 => ?_)
   ·refine qD rfl ⟨⟩ ?_
    rintro wR4 ⟨SR4, XR4⟩
    refine lP0 rfl ⟨by omega,⟨⟩⟩ ?_
    exact ⟨μ - 1, by omega, rfl, k + 1, by omega, hJs _ _ _ (hJn _ _ hJ (by omega) (by rw [ready_eq hxen, decide_eq_false (show ¬ k = 0 by omega), h31]; simp)) SR4.fin, rfl, rfl, rfl, rfl, rfl, rfl⟩
   refine qD rfl ⟨⟩ ?_
   rintro wR4 ⟨SR4, XR4⟩
   refine lO SR4.k [.w 0] rfl ⟨⟨rfl,by rfl⟩,⟨⟩⟩ ?_
   have hrd : readyC m b k = true := by
    rw [ready_eq hxen]
    rw [decide_eq_true (show m = 2 by omega), h31]; simp
   refine o_yield rfl rfl rfl (hY k en _ _ hxen hrd (hJs _ _ _ hJ SR4.fin) hr18) ?_
   rintro v37 w37 (⟨rfl, hJ37⟩ | ⟨rfl, hQ37⟩)
   ·exact lP0 rfl ⟨by omega,⟨⟩⟩ ⟨μ - 1, by omega, rfl, k + 1, by omega, hJ37, rfl, rfl, rfl, rfl, rfl, rfl⟩
   refine lR0 rfl ⟨⟩ (ret_none rfl ?_)
   exact .inr hQ37
  refine qD rfl ⟨⟩ ?_
  rintro wR4 ⟨SR4, XR4⟩
  refine lO SR4.k [.w 0] rfl ⟨⟨rfl,by rfl⟩,⟨⟩⟩ ?_
  have hrd : readyC m b k = true := by
   rw [ready_eq hxen]
   rw [decide_eq_true (show k = 0 by omega)]; rfl
  refine o_yield rfl rfl rfl (hY k en _ _ hxen hrd (hJs _ _ _ hJ SR4.fin) hr18) ?_
  rintro v37 w37 (⟨rfl, hJ37⟩ | ⟨rfl, hQ37⟩)
  ·exact lP0 rfl ⟨by omega,⟨⟩⟩ ⟨μ - 1, by omega, rfl, k + 1, by omega, hJ37, rfl, rfl, rfl, rfl, rfl, rfl⟩
  refine lR0 rfl ⟨⟩ (ret_none rfl ?_)
  exact .inr hQ37
 refine lF0 rfl ⟨⟩ (ret_none rfl ?_)
 obtain rfl : k = b.length := by omega
 exact .inl hJ
end Go.Proofs.YtjjmdcnmeommbaaGreatDoor
namespace Go.Fw
open Go.RowKit
theorem rec_back {rc : Loop} (hst : rc.state = .ready) (hpe : rc.pending = none) : ({ ({ rc with state := .busy } : Loop) with state := if (none : Option Code).isNone then .ready else .done, pending := none } : Loop) = rc := by
 cases rc; simp at hst hpe ⊢; exact ⟨hst.symm, hpe.symm⟩
theorem opt_blk {M : List Nat} {w0 w : World} {L : List Ent} (S : St M w0 w L) (k : Nat) {G : Option Nat} {t : TypeId} {cs : List Value} (hk : L[k]? = some (G, t, cs)) : ∀ g ∈ G.toList, ∃ t cs, hasBlk w (g, t, cs) := fun g hg => by
 have : G = some g := by cases G <;> simp at hg ⊢; exact hg.symm
 subst this
 exact ⟨_, _, S.blk k hk⟩
end Go.Fw
namespace Go.Proofs.YtjjmdcnmeommbaaGreatDoor
open Go.Fw Go.RowKit
end Go.Proofs.YtjjmdcnmeommbaaGreatDoor
