/-
  Part 6 of 6 of a proof: ScheduleSteps of package relyguardlaw13 returns true for every input, and its arguments read as before.
  Conditions: those of the given row (the listed package variables as the program's text lays them).
-/
import Derived.Test.YtgnbfmifjlnigaaGreatDoorZScheduleSteps5
set_option maxRecDepth 100000
namespace Go.Fw
open Go.RowKit
section
variable {P : Program} {r : Option Nat} {N : Nat} {l : List Oper} {D : List Deferred} {C : World → Prop} {K : List Deferred → Env → World → Prop} {pur : Nat → Bool}
def updO (e : Env) (d : Option Nat) (v : Value) : Env := match d with | some d => upd e d v | none => e
def dstLt (N : Nat) (o : Oper) : Prop := ∀ d, o.dst = some d → d < N
theorem envOf_putO {a : Act} (o : Oper) (v : Value) (h : dstLt a.tmps.size o) : envOf (a.put o.dst v) = updO (envOf a) o.dst v := by
 cases hd : o.dst with
 | none => rfl
 | some d => exact envOf_put v (h d hd)
theorem putO_size (a : Act) (o : Oper) (v : Value) : (a.put o.dst v).tmps.size = a.tmps.size := by
 cases o.dst <;> simp [Act.put]
theorem putO_defers (a : Act) (o : Oper) (v : Value) : (a.put o.dst v).defers = a.defers := by
 cases o.dst <;> simp [Act.put]
theorem updO_undef {e : Env} {o : Oper} {v : Value} (hN : dstLt N o) (hz : ∀ i, N ≤ i → e i = undef) : ∀ i, N ≤ i → updO e o.dst v i = undef := by
 cases hd : o.dst with
 | none => exact hz
 | some d => exact upd_undef (hN d hd) hz
theorem WLO_transfer {o : Oper} {K1 : List Deferred → Env → World → Prop} {e e1 : Env} {w : World} (hN : dstLt N o) (hsel : Op.isSelect o.op = false) (hdef : ∀ c, o.op ≠ .defer c) (hz : ∀ i, N ≤ i → e1 i = undef)
 (agree : ∀ s ∈ Oper.looksAt l.toArray o, e s = e1 s) (h : WL P r N l.toArray [o] K1 D e1 w) : WL P r N l.toArray [o] (fun D' e' w' => ∃ v, e' = updO e o.dst v ∧ K1 D' (updO e1 o.dst v) w') D e w := by
 unfold WL at *
 intro a Q hs hD he hK
 obtain ⟨a1, hs1, hD1, he1⟩ := act_of_env e1 N D hz
 have h1 := h a1 (fun ex a' w' => ex = .normal ∧ K1 a'.defers (envOf a') w') hs1 hD1 he1 (fun a' w' _ hk => ⟨rfl, hk⟩)
 have hw : Region.wanted o (yielded l.toArray a.tmps) = Region.wanted o (yielded l.toArray a1.tmps) := by rw [wanted_env, wanted_env, he, he1]; exact wantedE_congr agree
 have fin : ∀ (v : Value) (w' : World), K1 (a1.put o.dst v).defers (envOf (a1.put o.dst v)) w' → Q .normal (a.put o.dst v) w' := by
  intro v w' hk
  rw [envOf_putO o v (by rw [hs1]; exact hN), he1, putO_defers, hD1] at hk
  refine hK _ _ (by rw [putO_size, hs]) ⟨v, by rw [envOf_putO o v (by rw [hs]; exact hN), he], ?_⟩
  rw [putO_defers, hD]; exact hk
 simp only [wpListIn] at h1 ⊢
 rw [hw]
 split
 ·rename_i hww
  simp only [hww, if_true] at h1
  refine ⟨about_trivial _ _ _, ?_⟩
  have h4 := h1.2
  have hsem : Oper.semAt (fc r).round a.eval o = Oper.semAt (fc r).round a1.eval o := by
   rw [Oper.semAt_eq _ _ _ hdef, Oper.semAt_eq _ _ _ hdef, eval_eq, eval_eq, he, he1]; exact exec_congr hsel agree
  rw [hsem]
  revert h4
  generalize (Oper.semAt (fc r).round a1.eval o).run P w = res
  intro h4
  cases res with
  | ok x w' =>
    cases x with
    | value v => simp only [Oper.uponIn] at h4 ⊢; exact fin v w' h4.2
    | skip => simp only [Oper.uponIn] at h4 ⊢; exact fin undef w' h4.2
    | defer dd =>
      simp only [Oper.uponIn] at h4 ⊢
      have hk := h4.2
      have ee1 : envOf ({ a1 with defers := dd :: a1.defers } : Act) = e1 := he1
      have ee : envOf ({ a with defers := dd :: a.defers } : Act) = e := he
      rw [envOf_putO (a := { a1 with defers := dd :: a1.defers }) o undef (by rw [show ({ a1 with defers := dd :: a1.defers } : Act).tmps.size = N from hs1]; exact hN), ee1, putO_defers] at hk
      refine hK _ _ (by rw [putO_size]; exact hs) ⟨undef, by rw [envOf_putO (a := { a with defers := dd :: a.defers }) o undef (by rw [show ({ a with defers := dd :: a.defers } : Act).tmps.size = N from hs]; exact hN), ee], ?_⟩
      rw [putO_defers]
      show K1 (dd :: a.defers) _ _
      rw [hD, ← hD1]; exact hk
    | enter f args =>
      simp only [Oper.uponIn] at h4 ⊢
      exact ⟨h4.1, CallsIn.mono h4.2 (fun en w'' hh => by
       cases en
       ·exact fin _ _ hh.2
       ·exact absurd hh.1 (by simp)
       ·obtain ⟨a0, w0, hh⟩ := hh; exact absurd hh.1 (by simp))⟩
    | row rw' args => simp only [Oper.uponIn] at h4 ⊢; exact ⟨h4.1, RowsIn.mono h4.2 (fun _ _ hh => fin _ _ hh.2)⟩
    | round l' f tmps assign body =>
      simp only [Oper.uponIn] at h4 ⊢
      exact ⟨h4.1, RoundIn.mono h4.2 (fun en w'' hh => by
       cases en
       ·exact fin _ _ hh.2
       ·exact absurd hh.1 (by simp)
       ·obtain ⟨a0, w0, hh⟩ := hh; exact absurd hh.1 (by simp))⟩
    | _ => simp only [Oper.uponIn] at h4
  | halt x w' => cases x <;> simp only [Oper.uponIn] at h4 ⊢ <;> exact absurd h4.1 (by simp)
 ·rename_i hww
  simp only [hww] at h1
  exact ⟨about_trivial _ _ _, fin undef w h1.2.2⟩
theorem WLO_some {o : Oper} {K1 : List Deferred → Env → World → Prop} {e : Env} {w : World} (hN : dstLt N o) (hz : ∀ i, N ≤ i → e i = undef)
 (h : WL P r N l.toArray [o] K1 D e w) : ∃ D' v w', K1 D' (updO e o.dst v) w' := by
 unfold WL at h
 obtain ⟨a1, hs1, hD1, he1⟩ := act_of_env e N D hz
 have h1 := h a1 (fun ex a' w' => ex = .normal ∧ K1 a'.defers (envOf a') w') hs1 hD1 he1 (fun a' w' _ hk => ⟨rfl, hk⟩)
 have fin : ∀ (v : Value) (w' : World), K1 (a1.put o.dst v).defers (envOf (a1.put o.dst v)) w' → ∃ D' v w', K1 D' (updO e o.dst v) w' := by
  intro v w' hk
  rw [envOf_putO o v (by rw [hs1]; exact hN), he1] at hk
  exact ⟨_, v, w', hk⟩
 simp only [wpListIn] at h1
 split at h1
 ·have h4 := h1.2
  revert h4
  generalize (Oper.semAt (fc r).round a1.eval o).run P w = res
  intro h4
  cases res with
  | ok x w' =>
    cases x with
    | value v => simp only [Oper.uponIn] at h4; exact fin v w' h4.2
    | skip => simp only [Oper.uponIn] at h4; exact fin undef w' h4.2
    | defer dd =>
      simp only [Oper.uponIn] at h4
      have hk := h4.2
      rw [envOf_putO (a := { a1 with defers := dd :: a1.defers }) o undef (by rw [show ({ a1 with defers := dd :: a1.defers } : Act).tmps.size = N from hs1]; exact hN), show envOf ({ a1 with defers := dd :: a1.defers } : Act) = e from he1] at hk
      exact ⟨_, _, _, hk⟩
    | enter f args =>
      simp only [Oper.uponIn] at h4
      obtain ⟨en, w2, _, hR, _⟩ := h4.2.2 [] (room_wide _)
      cases en
      ·exact fin _ _ hR.2
      ·exact absurd hR.1 (by simp)
      ·obtain ⟨a0, w0, hh⟩ := hR; exact absurd hh.1 (by simp)
    | row rw' args =>
      simp only [Oper.uponIn] at h4
      obtain ⟨v, w2, hR, _⟩ := h4.2 default [] (room_wide _)
      exact fin _ _ hR.2
    | round l' f tmps assign body =>
      simp only [Oper.uponIn] at h4
      obtain ⟨en, w2, hR, _⟩ := h4.2.2 default [] (room_wide _)
      cases en
      ·exact fin _ _ hR.2
      ·exact absurd hR.1 (by simp)
      ·obtain ⟨a0, w0, hh⟩ := hR; exact absurd hh.1 (by simp)
    | _ => simp only [Oper.uponIn] at h4
  | halt x w' => cases x <;> simp only [Oper.uponIn] at h4 <;> exact absurd h4.1 (by simp)
 ·exact fin undef w h1.2.2
def WN (P : Program) (r : Option Nat) (N : Nat) (l : List Oper) (C : World → Prop) (pur : Nat → Bool) (K : List Deferred → Env → World → Prop) (D : List Deferred) : List Nat → Env → World → Prop
 | [], e, w => C w ∧ K D e w
 | i :: rest, e, w => C w ∧ ∃ o, l[i]? = some o ∧ dstLt N o ∧
  ((pur i = true ∧ ∃ d v, o.dst = some d ∧ PV P l C o e v ∧ WN P r N l C pur K D rest (upd e d v) w) ∨
   (pur i = false ∧ WL P r N l.toArray [o] (fun D' e' w' => D' = D ∧ WN P r N l C pur K D rest e' w') D e w))
theorem WN.inC {rem : List Nat} {e : Env} {w : World} (h : WN P r N l C pur K D rem e w) : C w := by cases rem <;> exact h.1
def indepO (l : List Oper) (pur : Nat → Bool) (j i : Nat) : Bool :=
 match l[j]?, l[i]? with
 | some p, some q => (pur i || pur j) && (match p.dst, q.dst with
   | some c, some d => !(c == d) && !(Oper.looksAt l.toArray p).contains d && !(Oper.looksAt l.toArray q).contains c
   | some c, none => pur j && !(Oper.looksAt l.toArray q).contains c
   | none, some d => pur i && !(Oper.looksAt l.toArray p).contains d
   | _, _ => false)
 | _, _ => false
structure IndO (l : List Oper) (pur : Nat → Bool) (j i : Nat) (o1 o2 : Oper) : Prop where
 pur : pur i = true ∨ pur j = true
 dst : ∀ c d, o1.dst = some c → o2.dst = some d → c ≠ d
 p : ∀ d, o2.dst = some d → d ∉ Oper.looksAt l.toArray o1
 q : ∀ c, o1.dst = some c → c ∉ Oper.looksAt l.toArray o2
theorem indepO_spec {j i : Nat} {p q : Oper} (h : indepO l pur j i = true) (hj : l[j]? = some p) (hi : l[i]? = some q) : IndO l pur j i p q := by
 unfold indepO at h
 simp only [hj, hi, Bool.and_eq_true, Bool.or_eq_true] at h
 obtain ⟨h1, h2⟩ := h
 cases hc : p.dst with
 | none =>
   cases hd : q.dst with
   | none => simp [hc, hd] at h2
   | some d =>
     simp only [hc, hd, Bool.and_eq_true, Bool.not_eq_true', List.contains_eq_mem, decide_eq_false_iff_not] at h2
     exact ⟨h1, fun c d h => (by rw [hc] at h; cases h), fun x hx => (by rw [hd] at hx; cases hx; exact h2.2), fun c h => (by rw [hc] at h; cases h)⟩
 | some c =>
   cases hd : q.dst with
   | none =>
     simp only [hc, hd, Bool.and_eq_true, Bool.not_eq_true', List.contains_eq_mem, decide_eq_false_iff_not] at h2
     exact ⟨h1, fun c d _ h => (by rw [hd] at h; cases h), fun d h => (by rw [hd] at h; cases h), fun x hx => (by rw [hc] at hx; cases hx; exact h2.2)⟩
   | some d =>
     simp only [hc, hd, Bool.and_eq_true, Bool.not_eq_true', beq_eq_false_iff_ne, List.contains_eq_mem, decide_eq_false_iff_not] at h2
     exact ⟨h1, fun x y hx hy => (by rw [hc] at hx; rw [hd] at hy; cases hx; cases hy; exact h2.1.1), fun x hx => (by rw [hd] at hx; cases hx; exact h2.1.2), fun x hx => (by rw [hc] at hx; cases hx; exact h2.2)⟩
theorem updO_agree {e : Env} {o : Oper} {u : Value} {s : Nat} {X : List Nat} (hc : ∀ c, o.dst = some c → c ∉ X) (hs : s ∈ X) : updO e o.dst u s = e s := by
 cases hd : o.dst with
 | none => rfl
 | some c => exact upd_agree (hc c hd) hs
theorem updO_comm (e : Env) {p q : Oper} (u v : Value) (h : ∀ c d, p.dst = some c → q.dst = some d → c ≠ d) : updO (updO e p.dst u) q.dst v = updO (updO e q.dst v) p.dst u := by
 cases hc : p.dst with
 | none => rfl
 | some c =>
   cases hd : q.dst with
   | none => rfl
   | some d => exact upd_comm e u v (h c d hc hd)
theorem WN.first (hpl : plainOps l = true) {i : Nat} {post : List Nat} : ∀ (pre : List Nat) (e : Env) (w : World), (∀ j ∈ pre, indepO l pur j i = true) → (∀ i, N ≤ i → e i = undef) → WN P r N l C pur K D (pre ++ i :: post) e w →
 ∃ o, l[i]? = some o ∧ dstLt N o ∧
  ((pur i = true ∧ ∃ d v, o.dst = some d ∧ PV P l C o e v ∧ WN P r N l C pur K D (pre ++ post) (upd e d v) w) ∨
   (pur i = false ∧ WL P r N l.toArray [o] (fun D' e' w' => D' = D ∧ ∃ v, e' = updO e o.dst v ∧ WN P r N l C pur K D (pre ++ post) e' w') D e w)) := by
 intro pre
 induction pre with
 | nil =>
   intro e w _ hz h
   obtain ⟨hC, o, ho, hN, h⟩ := h
   refine ⟨o, ho, hN, ?_⟩
   rcases h with h | ⟨hp, h⟩
   ·exact .inl h
   ·refine .inr ⟨hp, ?_⟩
    have h2 := WLO_transfer (e := e) (e1 := e) hN (plain_at hpl ho).1 (plain_at hpl ho).2 hz (fun _ _ => rfl) h
    unfold WL at *
    exact fun a Q hs hD he hK => h2 a Q hs hD he (fun a' w' hs' ⟨v, h1, h3, h4⟩ => hK a' w' hs' ⟨h3, v, h1, by rw [h1]; exact h4⟩)
 | cons q pre ih =>
   intro e w hind hz h
   obtain ⟨hC, p, hp, hcN, h⟩ := h
   have hq := hind q (by simp)
   have hind' : ∀ j ∈ pre, indepO l pur j i = true := fun j hj => hind j (by simp [hj])
   rcases h with ⟨hpq, c, u, hc, hu, h⟩ | ⟨hpq, h⟩
   ·obtain ⟨o, ho, hN, h2⟩ := ih (upd e c u) w hind' (upd_undef (hcN c hc) hz) h
    have hI := indepO_spec hq hp ho
    refine ⟨o, ho, hN, ?_⟩
    rcases h2 with ⟨hpi, d, v, hd, hv, h2⟩ | ⟨hpi, h2⟩
    ·refine .inl ⟨hpi, d, v, hd, hv.congr (plain_at hpl ho).1 (fun s hs => upd_agree (hI.q c hc) hs), hC, p, hp, hcN, .inl ⟨hpq, c, u, hc, hu.congr (plain_at hpl hp).1 (fun s hs => (upd_agree (hI.p d hd) hs).symm), ?_⟩⟩
     rw [← upd_comm _ _ _ (hI.dst c d hc hd)]; exact h2
    ·refine .inr ⟨hpi, ?_⟩
     have h3 := WLO_transfer (e := e) (e1 := upd e c u) hN (plain_at hpl ho).1 (plain_at hpl ho).2 (upd_undef (hcN c hc) hz) (fun s hs => (upd_agree (hI.q c hc) hs).symm) h2
     unfold WL at *
     refine fun a Q hs hD he hK => h3 a Q hs hD he (fun a' w' hs' hh => hK a' w' hs' ?_)
     obtain ⟨v, h1, h4, _, h5, h6⟩ := hh
     refine ⟨h4, v, h1, ?_⟩
     rw [h1]
     refine ⟨h6.inC, p, hp, hcN, .inl ⟨hpq, c, u, hc, hu.congr (plain_at hpl hp).1 (fun s hs => (updO_agree hI.p hs).symm), ?_⟩⟩
     have e1 : updO (upd e c u) o.dst v = upd (updO e o.dst v) c u := by
      have := updO_comm e (p := p) (q := o) u v hI.dst
      rw [hc] at this; exact this
     rw [← e1]; exact h6
   ·have h0 := WLO_transfer (e := e) (e1 := e) hcN (plain_at hpl hp).1 (plain_at hpl hp).2 hz (fun _ _ => rfl) h
    obtain ⟨_, u1, w1, _, hu2, _, h1⟩ := WLO_some hcN hz h0
    rw [← hu2] at h1
    obtain ⟨o, ho, hN, h2⟩ := ih (updO e p.dst u1) w1 hind' (updO_undef hcN hz) h1
    have hI := indepO_spec hq hp ho
    have hpi : pur i = true := by
     rcases hI.pur with h | h
     ·exact h
     ·rw [hpq] at h; cases h
    rcases h2 with ⟨_, d, v0, hd, hv0, _⟩ | ⟨hpi', _⟩
    ·have hv0' : PV P l C o e v0 := hv0.congr (plain_at hpl ho).1 (fun s hs => updO_agree hI.q hs)
     refine ⟨o, ho, hN, .inl ⟨hpi, d, v0, hd, hv0', hC, p, hp, hcN, .inr ⟨hpq, ?_⟩⟩⟩
     have h3 := WLO_transfer (e := upd e d v0) (e1 := e) hcN (plain_at hpl hp).1 (plain_at hpl hp).2 hz (fun s hs => upd_agree (hI.p d hd) hs) h
     unfold WL at *
     refine fun a Q hs hD he hK => h3 a Q hs hD he (fun a' w' hs' hh => hK a' w' hs' ?_)
     obtain ⟨u, hu, hDD, h4⟩ := hh
     refine ⟨hDD, ?_⟩
     obtain ⟨o', ho', _, h5⟩ := ih (updO e p.dst u) w' hind' (updO_undef hcN hz) h4
     obtain rfl : o' = o := Option.some.inj (ho'.symm.trans ho)
     rcases h5 with ⟨_, d', v, hd', hv, h5⟩ | ⟨hpi', _⟩
     ·obtain rfl : d' = d := Option.some.inj (hd'.symm.trans hd)
      have hv' : PV P l C o' e v := hv.congr (plain_at hpl ho).1 (fun s hs => updO_agree hI.q hs)
      obtain rfl : v = v0 := PV.uniq hC hv' hv0'
      have e1 : upd (updO e p.dst u) d' v = updO (upd e d' v) p.dst u := by
       have := updO_comm e (p := p) (q := o') u v hI.dst
       rw [hd] at this; exact this
      rw [hu, ← e1]; exact h5
     ·rw [hpi] at hpi'; cases hpi'
    ·rw [hpi] at hpi'; cases hpi'
def ordOk (l : List Oper) (pur : Nat → Bool) (x y : Nat) : List Nat → List Nat → Bool
 | _, [] => true
 | acc, i :: rest => (acc.all fun j => (waits l i).contains j || indepO l pur j i || (j == x && i == y)) && ordOk l pur x y (acc ++ [i]) rest
theorem ordOk_spec {x y : Nat} : ∀ (ix acc : List Nat), ordOk l pur x y acc ix = true → ∀ (pre : List Nat) (i : Nat) (post : List Nat), ix = pre ++ i :: post → ∀ j ∈ acc ++ pre, j ∈ waits l i ∨ indepO l pur j i = true ∨ (j = x ∧ i = y)
 | [], _, _, pre, i, post, h => by simp at h
 | k :: ix, acc, h, pre, i, post, he => by
   simp only [ordOk, Bool.and_eq_true] at h
   cases pre with
   | nil =>
     simp at he
     obtain ⟨rfl, -⟩ := he
     intro j hj
     rw [List.append_nil] at hj
     have := List.all_eq_true.1 h.1 j hj
     simp only [Bool.or_eq_true, List.contains_eq_mem, decide_eq_true_eq, Bool.and_eq_true, beq_iff_eq] at this
     rcases this with (h | h) | h
     ·exact .inl h
     ·exact .inr (.inl h)
     ·exact .inr (.inr h)
   | cons q pre =>
     simp at he
     obtain ⟨rfl, he⟩ := he
     intro j hj
     exact ordOk_spec ix (acc ++ [k]) h.2 pre i post he j (by simpa using hj)
def remI (ix : List Nat) (f : Nat → Bool) : List Nat := ix.filter fun i => !f i
theorem remI_split {ix : List Nat} (hnd : ix.Nodup) (f : Nat → Bool) {i : Nat} (hi : i ∈ ix) (hf : f i = false) : ∃ pre post P Q, ix = P ++ i :: Q ∧ remI ix f = pre ++ i :: post ∧ remI ix (fun j => f j || j == i) = pre ++ post ∧ ∀ j ∈ pre, j ∈ P ∧ f j = false := by
 obtain ⟨P, Q, rfl⟩ := List.append_of_mem hi
 rw [List.nodup_append] at hnd
 obtain ⟨_, h2, h3⟩ := hnd
 rw [List.nodup_cons] at h2
 refine ⟨P.filter fun j => !f j, Q.filter fun j => !f j, P, Q, rfl, ?_, ?_, ?_⟩
 ·unfold remI; rw [List.filter_append, List.filter_cons]; simp [hf]
 ·unfold remI; rw [List.filter_append, List.filter_cons]
  simp only [beq_self_eq_true, Bool.or_true, Bool.not_true, Bool.false_eq_true, if_false]
  congr 1
  ·apply List.filter_congr; intro j hj
   have : (j == i) = false := by simp; exact fun e => h3 j hj i (by simp) e
   simp [this]
  ·apply List.filter_congr; intro j hj
   have : (j == i) = false := by simp; exact fun e => h2.1 (e ▸ hj)
   simp [this]
 ·intro j hj; rw [List.mem_filter] at hj; exact ⟨hj.1, by simpa using hj.2⟩
def nodupB : List Nat → Bool
 | [] => true
 | x :: l => !l.contains x && nodupB l
theorem nodupB_ok : ∀ {l : List Nat}, nodupB l = true → l.Nodup
 | [], _ => List.nodup_nil
 | x :: l, h => by
   simp only [nodupB, Bool.and_eq_true, Bool.not_eq_true', List.contains_eq_mem, decide_eq_false_iff_not] at h
   exact List.nodup_cons.2 ⟨h.1, nodupB_ok h.2⟩
def fullB (n : Nat) (ix : List Nat) : Bool := nodupB ix && (List.range n).all (fun i => ix.contains i) && ix.all (fun i => decide (i < n))
def twoOk (l : List Oper) (pur : Nat → Bool) (a c : Nat) (ixA ixB : List Nat) : Bool :=
 plainOps l && ((List.range l.length).all fun i => (predsAt l i).all fun j => decide (j < i)) && fullB l.length ixA && fullB l.length ixB && ordOk l pur a c [] ixA && ordOk l pur c a [] ixB &&
 ((List.range l.length).all fun i => pur i || i == a || i == c || ((waits l i).contains a && (waits l i).contains c)) && !(a == c) && !pur a && !pur c
theorem WN.step {ix : List Nat} {x y : Nat} (hpl : plainOps l = true) (hnd : ix.Nodup) (hor : ordOk l pur x y [] ix = true) {f : Nat → Bool} (hcl : ∀ i, f i = true → ∀ j ∈ predsAt l i, f j = true) {i : Nat} {o : Oper} (hi : i ∈ ix) (ho : l[i]? = some o) (hfi : f i = false)
 (hpr : ∀ j ∈ predsAt l i, f j = true) (hxy : i = y → f x = true) {e : Env} {w : World} (hz : ∀ i, N ≤ i → e i = undef) (h : WN P r N l C pur K D (remI ix f) e w) :
 dstLt N o ∧ ((pur i = true ∧ ∃ d v, o.dst = some d ∧ PV P l C o e v ∧ WN P r N l C pur K D (remI ix (fun j => f j || j == i)) (upd e d v) w) ∨
  (pur i = false ∧ WL P r N l.toArray [o] (fun D' e' w' => D' = D ∧ ∃ v, e' = updO e o.dst v ∧ WN P r N l C pur K D (remI ix (fun j => f j || j == i)) e' w') D e w)) := by
 obtain ⟨pre, _, A, B, h1, h2, h3, h4⟩ := remI_split hnd f hi hfi
 rw [h2] at h
 have hwt : ∀ j ∈ waits l i, f j = true := closure_f hcl _ _ hpr
 obtain ⟨o', ho', hN, h5⟩ := WN.first hpl pre e w (fun j hj => by
  obtain ⟨h6, h7⟩ := h4 j hj
  rcases ordOk_spec ix [] hor A i B h1 j (by simpa using h6) with h | h | ⟨h, h'⟩
  ·have := hwt j h; rw [h7] at this; cases this
  ·exact h
  ·subst h; have := hxy h'; rw [h7] at this; cases this) hz h
 obtain rfl : o' = o := Option.some.inj (ho'.symm.trans ho)
 rw [h3]
 exact ⟨hN, h5⟩
theorem W_two {id : Nat} {n t : List Deferred → Env → World → Prop} {b : Nat → List Deferred → Env → World → Prop} {e : Env} {w : World} (hm : P.follows .mixedOrders = true) (pur : Nat → Bool) (a c : Nat) (ixA ixB : List Nat)
 (hok : twoOk l pur a c ixA ixB = true) (C : World → Prop) (hA : WN P r N l C pur n D ixA e w.drew) (hB : WN P r N l C pur n D ixB e w.drew) : W P r N (.region id l.toArray true) ⟨n, b, t⟩ D e w := by
 unfold twoOk fullB at hok
 simp only [Bool.and_eq_true, Bool.not_eq_true', beq_eq_false_iff_ne] at hok
 obtain ⟨⟨⟨⟨⟨⟨⟨⟨⟨hpl, hac⟩, ⟨hndA, hfA⟩, hbA⟩, ⟨hndB, hfB⟩, hbB⟩, hoA⟩, hoB⟩, hlo⟩, hne⟩, _⟩, _⟩ := hok
 have hndA := nodupB_ok hndA
 have hndB := nodupB_ok hndB
 have inA : ∀ i, i < l.length → i ∈ ixA := fun i hi => by simpa using List.all_eq_true.1 hfA i (List.mem_range.2 hi)
 have inB : ∀ i, i < l.length → i ∈ ixB := fun i hi => by simpa using List.all_eq_true.1 hfB i (List.mem_range.2 hi)
 have hz : (∀ i, N ≤ i → e i = undef) → W P r N (.region id l.toArray true) ⟨n, b, t⟩ D e w := by
  intro hz
  refine W_any hm hac (fun f e w => (∀ i, N ≤ i → e i = undef) ∧ (∀ i, f i = true → ∀ j ∈ predsAt l i, f j = true) ∧
   ((f a = false ∧ f c = false ∧ WN P r N l C pur n D (remI ixA f) e w ∧ WN P r N l C pur n D (remI ixB f) e w) ∨ (f a = true ∧ WN P r N l C pur n D (remI ixA f) e w) ∨ (f c = true ∧ WN P r N l C pur n D (remI ixB f) e w))) ⟨hz, by simp, .inl ⟨rfl, rfl, ?_, ?_⟩⟩ ?_ ?_
  ·have : remI ixA (fun _ => false) = ixA := by unfold remI; simp
   rw [this]; exact hA
  ·have : remI ixB (fun _ => false) = ixB := by unfold remI; simp
   rw [this]; exact hB
  ·rintro f e w i o ⟨hz, hcl, hM⟩ ho hfi hpr
   have hil : i < l.length := (List.getElem?_eq_some_iff.1 ho).1
   have hcl' : ∀ k, (f k || k == i) = true → ∀ j ∈ predsAt l k, (f j || j == i) = true := by
    intro k hk j hj
    simp only [Bool.or_eq_true, beq_iff_eq] at hk ⊢
    rcases hk with hk | rfl
    ·exact .inl (hcl k hk j hj)
    ·exact .inl (hpr j hj)
   have hwt : ∀ j ∈ waits l i, f j = true := closure_f hcl _ _ hpr
   have one : ∀ (ix : List Nat) (x y : Nat) (J : (Nat → Bool) → Env → World → Prop), ix.Nodup → i ∈ ix → ordOk l pur x y [] ix = true → (i = y → f x = true) → WN P r N l C pur n D (remI ix f) e w →
    (∀ e' w', WN P r N l C pur n D (remI ix (fun j => f j || j == i)) e' w' → J (fun j => f j || j == i) e' w') →
    WL P r N l.toArray [o] (fun D' e' w' => D' = D ∧ (∀ i, N ≤ i → e' i = undef) ∧ (∀ k, (f k || k == i) = true → ∀ j ∈ predsAt l k, (f j || j == i) = true) ∧ J (fun j => f j || j == i) e' w') D e w := by
    intro ix x y J hnd hi hor hxy hw hJ
    obtain ⟨hN, h5⟩ := WN.step hpl hnd hor hcl hi ho hfi hpr hxy hz hw
    have hCw := hw.inC
    rcases h5 with ⟨hpi, d, v, hd, hv, h5⟩ | ⟨hpi, h5⟩
    ·rcases hv with ⟨hww, hv⟩ | ⟨hww, rfl⟩
     ·unfold WL; intro a Q hs hD he hK
      simp only [wpListIn]
      have hw' : Region.wanted o (yielded l.toArray a.tmps) = true := by rw [wanted_env, he]; exact hww
      simp only [hw', if_true]
      refine ⟨about_trivial _ _ _, ?_⟩
      rw [Oper.semAt_eq _ _ _ (plain_at hpl ho).2, eval_eq, he, hv w hCw, Oper.uponIn_value]
      refine hK _ _ (by rw [putO_size, hs]) ⟨by rw [putO_defers, hD], ?_⟩
      rw [hd, envOf_put v (by rw [hs]; exact hN d hd), he]
      exact ⟨upd_undef (hN d hd) hz, hcl', hJ _ _ h5⟩
     ·unfold WL; intro a Q hs hD he hK
      simp only [wpListIn]
      have hw' : Region.wanted o (yielded l.toArray a.tmps) = false := by rw [wanted_env, he]; exact hww
      simp only [hw']
      refine ⟨about_trivial _ _ _, ?_⟩
      refine hK _ _ (by rw [putO_size, hs]) ⟨by rw [putO_defers, hD], ?_⟩
      rw [hd, envOf_put undef (by rw [hs]; exact hN d hd), he]
      exact ⟨upd_undef (hN d hd) hz, hcl', hJ _ _ h5⟩
    ·unfold WL at *
     refine fun a Q hs hD he hK => h5 a Q hs hD he (fun a' w' hs' hh => hK a' w' hs' ?_)
     obtain ⟨hDD, v, hv, h6⟩ := hh
     exact ⟨hDD, by rw [hv]; exact updO_undef hN hz, hcl', hJ _ _ h6⟩
   rcases hM with ⟨hfa, hfc, hMA, hMB⟩ | ⟨hfa, hMA⟩ | ⟨hfc, hMB⟩
   ·by_cases hia : i = a
    ·exact one ixA a c (fun f e w => (f a = false ∧ f c = false ∧ WN P r N l C pur n D (remI ixA f) e w ∧ WN P r N l C pur n D (remI ixB f) e w) ∨ (f a = true ∧ WN P r N l C pur n D (remI ixA f) e w) ∨ (f c = true ∧ WN P r N l C pur n D (remI ixB f) e w)) hndA (inA i hil) hoA (fun h => absurd (hia.symm.trans h) hne) hMA (fun e' w' h => .inr (.inl ⟨by simp [hia], h⟩))
    by_cases hic : i = c
    ·exact one ixB c a (fun f e w => (f a = false ∧ f c = false ∧ WN P r N l C pur n D (remI ixA f) e w ∧ WN P r N l C pur n D (remI ixB f) e w) ∨ (f a = true ∧ WN P r N l C pur n D (remI ixA f) e w) ∨ (f c = true ∧ WN P r N l C pur n D (remI ixB f) e w)) hndB (inB i hil) hoB (fun h => absurd h hia) hMB (fun e' w' h => .inr (.inr ⟨by simp [hic], h⟩))
    have hpi : pur i = true := by
     have := List.all_eq_true.1 hlo i (List.mem_range.2 hil)
     simp only [Bool.or_eq_true, beq_iff_eq, hia, hic, or_false, Bool.and_eq_true, List.contains_eq_mem, decide_eq_true_eq] at this
     rcases this with h | h
     ·exact h
     ·have := hwt a h.1; rw [hfa] at this; cases this
    obtain ⟨hN, h5⟩ := WN.step hpl hndA hoA hcl (inA i hil) ho hfi hpr (fun h => absurd h hic) hz hMA
    obtain ⟨-, h6⟩ := WN.step hpl hndB hoB hcl (inB i hil) ho hfi hpr (fun h => absurd h hia) hz hMB
    have hCw := hMA.inC
    rcases h5 with ⟨_, d, v, hd, hv, h5⟩ | ⟨hp', _⟩
    rotate_left
    ·rw [hpi] at hp'; cases hp'
    rcases h6 with ⟨_, d', v', hd', hv', h6⟩ | ⟨hp', _⟩
    rotate_left
    ·rw [hpi] at hp'; cases hp'
    obtain rfl : d' = d := Option.some.inj (hd'.symm.trans hd)
    obtain rfl : v' = v := PV.uniq hCw hv' hv
    have hfa' : (f a || a == i) = false := by simp [hfa]; exact fun e => hia e.symm
    have hfc' : (f c || c == i) = false := by simp [hfc]; exact fun e => hic e.symm
    rcases hv with ⟨hww, hv⟩ | ⟨hww, rfl⟩
    ·unfold WL; intro a Q hs hD he hK
     simp only [wpListIn]
     have hw' : Region.wanted o (yielded l.toArray a.tmps) = true := by rw [wanted_env, he]; exact hww
     simp only [hw', if_true]
     refine ⟨about_trivial _ _ _, ?_⟩
     rw [Oper.semAt_eq _ _ _ (plain_at hpl ho).2, eval_eq, he, hv w hCw, Oper.uponIn_value]
     refine hK _ _ (by rw [putO_size, hs]) ⟨by rw [putO_defers, hD], ?_⟩
     rw [hd, envOf_put v' (by rw [hs]; exact hN d' hd), he]
     exact ⟨upd_undef (hN d' hd) hz, hcl', .inl ⟨hfa', hfc', h5, h6⟩⟩
    ·unfold WL; intro a Q hs hD he hK
     simp only [wpListIn]
     have hw' : Region.wanted o (yielded l.toArray a.tmps) = false := by rw [wanted_env, he]; exact hww
     simp only [hw']
     refine ⟨about_trivial _ _ _, ?_⟩
     refine hK _ _ (by rw [putO_size, hs]) ⟨by rw [putO_defers, hD], ?_⟩
     rw [hd, envOf_put undef (by rw [hs]; exact hN d' hd), he]
     exact ⟨upd_undef (hN d' hd) hz, hcl', .inl ⟨hfa', hfc', h5, h6⟩⟩
   ·exact one ixA a c (fun f e w => (f a = false ∧ f c = false ∧ WN P r N l C pur n D (remI ixA f) e w ∧ WN P r N l C pur n D (remI ixB f) e w) ∨ (f a = true ∧ WN P r N l C pur n D (remI ixA f) e w) ∨ (f c = true ∧ WN P r N l C pur n D (remI ixB f) e w)) hndA (inA i hil) hoA (fun _ => hfa) hMA (fun e' w' h => .inr (.inl ⟨by simp [hfa], h⟩))
   ·exact one ixB c a (fun f e w => (f a = false ∧ f c = false ∧ WN P r N l C pur n D (remI ixA f) e w ∧ WN P r N l C pur n D (remI ixB f) e w) ∨ (f a = true ∧ WN P r N l C pur n D (remI ixA f) e w) ∨ (f c = true ∧ WN P r N l C pur n D (remI ixB f) e w)) hndB (inB i hil) hoB (fun _ => hfc) hMB (fun e' w' h => .inr (.inr ⟨by simp [hfc], h⟩))
  ·rintro f e w ⟨hz, hcl, hM⟩ hall
   have rA : remI ixA f = [] := by
    unfold remI; rw [List.filter_eq_nil_iff]; intro j hj; simp [hall j (by simpa using List.all_eq_true.1 hbA j hj)]
   have rB : remI ixB f = [] := by
    unfold remI; rw [List.filter_eq_nil_iff]; intro j hj; simp [hall j (by simpa using List.all_eq_true.1 hbB j hj)]
   rw [rA, rB] at hM
   rcases hM with ⟨_, _, h, _⟩ | ⟨_, h⟩ | ⟨_, h⟩
   ·exact h.2
   ·exact h.2
   ·exact h.2
 unfold W at *
 intro a hs hd he
 refine hz (fun i hi => ?_) a hs hd he
 rw [← he]; simp only [envOf, Array.getD_eq_getD_getElem?]; rw [Array.getElem?_eq_none (by omega)]; rfl
variable {e : Env} {w : World}
theorem WN_nil (hC : C w) (h : K D e w) : WN P r N l C pur K D [] e w := ⟨hC, h⟩
theorem WN_q {i : Nat} {rest : List Nat} {o : Oper} (hC : C w) (ho : l[i]? = some o) (hp : pur i = true) (hv : valOp o.op = true) (h : QL P N l.toArray C [o] (fun e' => WN P r N l C pur K D rest e' w) e) : WN P r N l C pur K D (i :: rest) e w := by
 unfold QL at h
 obtain ⟨pa, hl, hq, hk⟩ := h
 obtain ⟨d, v, h1, h2, h3, h4⟩ := hq 0 o rfl
 obtain rfl : pa = [(d, v)] := by
  match pa, hl, h1 with
  | [x], _, h1 => simpa using h1
 refine ⟨hC, o, ho, fun d' hd' => by rw [h2] at hd'; cases hd'; exact h3, .inl ⟨hp, d, v, h2, ?_, hk⟩⟩
 rcases h4 with ⟨h5, h6⟩ | h5
 ·refine .inl ⟨h5, fun w hw => ?_⟩
  rcases h6 w hw with h7 | ⟨f, args, h7, _⟩
  ·exact h7
  ·obtain ⟨_, hv'⟩ := valOp_value hv h7; cases hv'
 ·exact .inr h5
theorem WN_o {i : Nat} {rest : List Nat} {o : Oper} (hC : C w) (ho : l[i]? = some o) (hp : pur i = false) (hN : (o.dst.all fun d => Nat.ble (d + 1) N) = true)
 (h : WL P r N l.toArray [o] (fun D' e' w' => D' = D ∧ WN P r N l C pur K D rest e' w') D e w) : WN P r N l C pur K D (i :: rest) e w :=
 ⟨hC, o, ho, fun d hd => by rw [hd] at hN; exact Nat.le_of_ble_eq_true (by simpa using hN), .inr ⟨hp, h⟩⟩
end
end Go.Fw
namespace Go.Fw
open Go.RowKit
section
variable {p : ProgD} {m : Int}
theorem run_step {run : List ChoiceD} {i : Nat} (hi : i + 1 < (runC p m run).length) {c : ConfD} (hc : (runC p m run)[i]? = some c) {x : ChoiceD} (hx : run[i]? = some x) : x ∈ choicesC p m c ∧ (runC p m run)[i + 1]? = some (doC p m c x) := by
 by_cases h : x ∈ choicesC p m c
 ·exact ⟨h, runC_yes hc hx h⟩
 ·have := runC_no hc hx h; omega
theorem run_end {run : List ChoiceD} {i : Nat} (hi : i + 1 = (runC p m run).length) {c : ConfD} (hc : (runC p m run)[i]? = some c) {x : ChoiceD} (hx : run[i]? = some x) : x ∉ choicesC p m c := fun h => by
 have := runC_yes hc hx h
 have := some_lt this
 omega
theorem Good.model {c : ConfD} (hg : Good p m c) (hm : m = 0 ∨ m = 1 ∨ m = 2) : (m = 0 ∧ noBuf c) ∨ m = 1 ∨ m = 2 := by
 rcases hm with h | h
 ·exact .inl ⟨h, hg.2 h⟩
 ·exact .inr h
theorem errC_or (run : List ChoiceD) : errC p m run = 0 ∨ errC p m run = 110 := by unfold errC; split <;> simp
end
end Go.Fw
namespace Go.Proofs.YtgnbfmifjlnigaaGreatDoor
open Go.Fw Go.RowKit
theorem bufNextIn_fn (p : ProgD) (c : ConfD) (m : Int) (x : ChoiceD) (hm : (m = 0 ∧ noBuf c) ∨ m = 1 ∨ m = 2) (hx : x ∈ choicesC p m c) (M : List Nat) (w0 : World) (cs xs : List Value) (hI : InP p M w0 cs) (hX : RdConf M w0 c xs) (hf : FitC p c) :
 Does Tryz.prog 19 #[.agg cs.toArray, .int .i64 m, .agg xs.toArray, .agg #[.int .i64 x.thread, .int .i64 x.step, .int .i64 x.cell]] w0 fun v w' => (∃ ys, v = .tuple #[.agg ys.toArray, .int .i64 0] ∧ RdConf M w' (doC p m c x) ys) ∧ Below w0.heap.size w0 w' := by
 have := bufNext_fn p c m x hm M w0 cs xs hI hX hf
 rw [nextC_in hx] at this; exact this
theorem scheduleSteps_fn (p : ProgD) (m : Int) (hm : 0 ≤ m ∧ m ≤ 255) (run : List ChoiceD) (w0 : World) (cs : List Value) (vr : Value) (hP : RdProg [] w0 p cs) (hN : Named p) (hRun : RdCh [] w0 vr run) (hK : Masks [] w0) :
 Does Tryz.prog 6 #[.agg cs.toArray, .int .u8 m, vr] w0 fun v w' => v = .bool true ∧ Below w0.heap.size w0 w' := by
 obtain ⟨Ac, nc, cc, Am, nm, cm, Al, nl, cl, At, nt, ct, rfl, _, _, _, _, _, _, _, _, _, _, _, _⟩ := hP.open_
 obtain ⟨Ar, nr, cr, rfl⟩ := hRun.form
 obtain ⟨_, _, _⟩ := hRun.len
 have S := St.refl w0
 refine Does_enterR Tryz.func6 rfl Tryz.ntmps6 rfl ?_
 refine wO0 rfl ⟨⟩ (o_boxa S (by conv => lhs; whnf) rfl ?_)
 intro g3 w3 S3 X3 G3
 refine lO0 rfl ⟨⟩ ?_
 skip
 refine o_callr S3 has_8 rfl rfl (head_fn _ (hK.keep (S3.keep0 []))) ?_
 intro w15 S15 X15
 refine lO S15.k [.w 0] rfl ⟨⟨rfl,rfl⟩,⟨⟩⟩ (o_calls S15 has_12 rfl rfl (small13_fn p [] _ _ (hP.keep (S15.keep0 [])) (by simp) hN) (fun h17 w17 S17 X17 => ?_) (fun w17 S17 X17 => ?_))
 ·refine lB0 rfl ⟨⟩ (fun h22 => ?_) fun h22 => ?_
  ·exact lT rfl ⟨⟩ rfl ⟨rfl, S17.fin⟩
  refine lO0 rfl ⟨⟩ (o_rem rfl rfl (by omega) (by omega) rfl ?_)
  have hI : InP p [] w0 _ := ⟨hP, h17, hK, by simp⟩
  refine o_convI Tryz.underlying5 Tryz.underlying3 rfl rfl ?_
  rw [wrap_id (by unfold i64; omega)]
  obtain ⟨k3, hk3⟩ : ∃ k, k = m % 3 := ⟨_, rfl⟩
  rw [← hk3]
  have hmk : k3 = 0 ∨ k3 = 1 ∨ k3 = 2 := by omega
  have hle := runC_le p k3 run
  have hl1 := runC_pos (p := p) (m := k3) run
  obtain ⟨nn, hnn⟩ : ∃ nn, (runC p k3 run).length = nn + 1 := ⟨(runC p k3 run).length - 1, by omega⟩
  refine lO S17.k [.w 0] rfl ⟨⟨rfl,rfl⟩,⟨⟩⟩ (o_calln S17 has_13 rfl rfl (run_fn p k3 hmk run [] _ _ _ (hI.keep (S17.keep0 [])) (hRun.keep (S17.keep0 [])) (by omega)) ?_)
  rintro v32 w32 ⟨_, rfl, hL⟩ S32 X32
  have KL := Keep.refl [] w32
  rw [show (((runC p k3 run).length : Int) - 1) = (nn : Int) by omega]
  obtain ⟨Ax, nx, cx, rfl⟩ := hL.form
  obtain ⟨_, _, -⟩ := hL.len
  have hei := errC_iff (p := p) (m := k3) (run := run)
  have heo := errC_or (p := p) (m := k3) run
  obtain ⟨_, _, _, _, hxa, _, _, _, hca, hra⟩ := RdS.get (RdS.keepW hL KL (RConf.keep KL)) 0 (by omega)
  obtain rfl := Option.some.inj (hxa.symm.trans (show (runC p k3 run)[0]? = some (startC p) from rfl))
  obtain ⟨Ya, ya, za, Yb, yb, zb, Yc, yc, zc, rfl, -⟩ := hra.open_
  have KA := Keep.refl [] w32
  refine lC0 rfl ⟨⟩ (W_draw follows_mixed [0, 1, 2, 3, 4, 5, 6, 7, 8, 9, 10, 11, 12, 13, 14, 15, 16, 17, 18, 19] [20] [21, 22, 23] (by kernel_rfl) rfl (Cl _ _ _ _) (Cl.start S32) ?_)
  refine qB0 rfl ⟨⟩ (fun h37 => by exfalso; omega) fun h37 => ?_
  refine qB0 rfl ⟨⟩ (fun h42 => by exfalso; omega) fun h42 => ?_
  refine qB0 rfl ⟨by omega,⟨⟩⟩ (fun h49 => by exfalso; omega) fun h49 => ?_
  refine qO0 rfl ⟨⟩ (q_indexAddr slz_38.slT rfl (by assumption) rfl (by omega) (by omega) rfl ?_)
  refine qO0 rfl ⟨⟩ (q_loadN many_46 rfl (fun w1 hw => hca.keep hw.2 List.not_mem_nil) (by rfl) rfl ?_)
  refine qN S32.q [.w 0] rfl ⟨⟨rfl,rfl⟩,⟨⟩⟩ (BK_of ?_)
  refine BKL_call (_) rfl rfl has_15 rfl (fun _ _ _ ⟨xs, h, hX⟩ K => ⟨xs, h, hX.keep K⟩) (fun w1 S1 X1 => machStart_fn p [] _ _ (hI.keep (S1.keep0 []))) ?_
  refine BKL_nil ?_
  rintro wR6 ⟨SR6, XR6⟩
  rintro v56 ⟨xs, rfl, hX⟩
  dsimp only [upds]
  replace KL := KL.trans XR6
  replace KA := KA.trans XR6
  refine lO0 rfl ⟨⟩ (o_callr SR6 has_17 rfl rfl (does_true (same_fn (startC p) (startC p) [] _ _ _ (hra.keep KA) hX) (decide_eq_true rfl)) ?_)
  intro w57 S57 X57
  replace KL := KL.trans X57
  refine lC0 rfl ⟨⟩ (wL (fun μi D ε w => D = [] ∧ ∃ i : Nat, (i + μi = (nn)) ∧ (Keep [] w32 w) ∧ St [] w0 w [(some g3, 36, [.slice Ac nc cc, .slice Am nm cm, .slice Al nl cl, .slice At nt ct])] ∧ Sl ε [(2, .slice Ar nr cr), (3, .pointer (some ⟨g3, 0, none⟩)), (7, .bool true), (8, .int .i64 k3), (9, .slice Ax nx cx), (10, .int .i64 (errC p k3 run)), (11, .int .i64 nn), (12, .int .i64 i)]) (μ := (nn)) ⟨rfl, 0, by omega, KL, S57, rfl⟩ ?_)
  rintro μi D ε w ⟨rfl, i, hi, hKL, S, e⟩
  refine wK e (wB0 rfl ⟨⟩ (fun h62 => ?_) fun h62 => ?_)
  ·refine lCn 7 S.k [] rfl ⟨⟩ (wX (fun D ε w => D = [] ∧ ∃ g13 : Nat, ∃ ys : List Value, ∃ x : ChoiceD, ∃ c : ConfD, (i < nn) ∧ ((runC p k3 run)[i]? = some c) ∧ (run[i]? = some x) ∧ (RdConf [] w (doC p k3 c x) ys) ∧ (Keep [] w32 w) ∧ St [] w0 w [(some g13, 46, ys), (some g3, 36, [.slice Ac nc cc, .slice Am nm cm, .slice Al nl cl, .slice At nt ct])] ∧ Sl ε [(2, .slice Ar nr cr), (3, .pointer (some ⟨g3, 0, none⟩)), (7, .bool true), (8, .int .i64 k3), (9, .slice Ax nx cx), (10, .int .i64 (errC p k3 run)), (11, .int .i64 nn), (12, .int .i64 i), (13, .pointer (some ⟨g13, 0, none⟩)), (14, .int .i64 0)]) ?_ ?_)
   ·obtain ⟨x, hxx⟩ : ∃ x, run[i]? = some x := ⟨run[i]'(by omega), List.getElem?_eq_getElem _⟩
    obtain ⟨c, bb, pb, cb, hxb, hAb, hMb, hlb, hcb, hrb⟩ := RdS.get (RdS.keepW hL hKL (RConf.keep hKL)) i (by omega)
    obtain ⟨Ya, ya, za, Yb, yb, zb, Yc, yc, zc, rfl, -⟩ := hrb.open_
    obtain ⟨hin, hxd⟩ := run_step (by omega) hxb hxx
    have hg := good_run h17 (List.mem_of_getElem? hxb)
    have KB := Keep.refl [] w
    refine W_two follows_mixed (fun i => [0, 1, 2, 3, 4, 5, 6, 7, 8, 9, 11, 12, 13, 16].contains i) 14 10 [14, 0, 1, 2, 3, 4, 5, 6, 7, 8, 9, 10, 11, 12, 13, 15, 16] [0, 1, 2, 3, 4, 5, 6, 7, 8, 9, 10, 14, 11, 12, 13, 15, 16] (by kernel_rfl) (clOf S) ?_ ?_
    ·have SR11 := S.drew
     have XR11 : Keep [] w w.drew := keep_drew _ _
     generalize w.drew = wR11 at SR11 XR11 ⊢
     replace KB := KB.trans XR11
     have XTR11 := XR11
     refine WN_o ⟨SR11, XTR11⟩ rfl rfl rfl ?_
     refine o_alloc SR11 zv_46 rfl rfl ?_
     intro g13 w13 S13 X13 G13
     have GKB13 := Nat.le_trans KB.size G13
     have GXTR1113 := Nat.le_trans XTR11.size G13
     replace KB := KB.trans X13
     replace XTR11 := XTR11.trans X13
     refine WL_nil ⟨rfl, ?_⟩
     refine WN_q ⟨S13.tail, XTR11⟩ rfl rfl rfl ?_
     refine q_loadN many_36 rfl (fun w1 hw => hw.1.cells 0 rfl) rfl rfl ?_
     refine QL_nil ?_
     refine WN_q ⟨S13.tail, XTR11⟩ rfl rfl rfl ?_
     refine q_move (v := .int .i64 _) rfl rfl ?_
     refine QL_nil ?_
     refine WN_q ⟨S13.tail, XTR11⟩ rfl rfl rfl ?_
     refine q_move (v := .slice _ _ _) rfl rfl ?_
     refine QL_nil ?_
     refine WN_q ⟨S13.tail, XTR11⟩ rfl rfl rfl ?_
     refine q_move (v := .int .i64 _) rfl rfl ?_
     refine QL_nil ?_
     refine WN_q ⟨S13.tail, XTR11⟩ rfl rfl rfl ?_
     refine q_indexAddr slz_38.slT rfl (by assumption) rfl (by omega) (by omega) rfl ?_
     refine QL_nil ?_
     refine WN_q ⟨S13.tail, XTR11⟩ rfl rfl rfl ?_
     refine q_loadN many_46 rfl (fun w1 hw => hcb.keep hw.2 List.not_mem_nil) (by rfl) rfl ?_
     refine QL_nil ?_
     refine WN_q ⟨S13.tail, XTR11⟩ rfl rfl rfl ?_
     refine q_move (v := .slice _ _ _) rfl rfl ?_
     refine QL_nil ?_
     refine WN_q ⟨S13.tail, XTR11⟩ rfl rfl rfl ?_
     refine q_move (v := .int .i64 _) rfl rfl ?_
     refine QL_nil ?_
     refine WN_q ⟨S13.tail, XTR11⟩ rfl rfl rfl ?_
     obtain ⟨x74, b74, p74, c74, hx74, hA74, hM74, hl74, hc74, hr74⟩ := RdS.get (hRun) (i) (by omega)
     obtain rfl := Option.some.inj (hxx.symm.trans hx74)
     obtain ⟨rfl, i174, i274, i374⟩ := id hr74
     refine q_indexAddr slz_22.slT rfl (by assumption) rfl (by omega) (by omega) rfl ?_
     refine QL_nil ?_
     refine WN_q ⟨S13.tail, XTR11⟩ rfl rfl rfl ?_
     refine q_loadN many_53 rfl (fun w1 hw => hc74.keep (hw.1.keep0 _) hM74) (by rfl) rfl ?_
     refine QL_nil ?_
     refine WN_o ⟨S13.tail, XTR11⟩ rfl rfl rfl ?_
     refine o_calln S13 has_19 rfl rfl (bufNextIn_fn p c k3 x (hg.model hmk) hin [g13] _ _ _ (hI.add S13 (k := 0) rfl) ((hrb.more (fun g hg => .inr (by rw [List.mem_singleton.1 hg]; exact GKB13))).keep KB.of_nil) hg.1) ?_
     rintro v76 w76 ⟨ys, rfl, hY⟩ S76 X76
     replace KB := KB.trans X76
     replace XTR11 := XTR11.trans X76
     obtain ⟨Ua, ua, va, Ub, ub, vb, Uc, uc, vc, rfl, -⟩ := hY.open_
     refine WL_nil ⟨rfl, ?_⟩
     refine WN_q ⟨S76.tail, XTR11⟩ rfl rfl rfl ?_
     refine q_move (v := .tuple _) rfl rfl ?_
     refine QL_nil ?_
     refine WN_q ⟨S76.tail, XTR11⟩ rfl rfl rfl ?_
     refine q_extract rfl rfl rfl ?_
     refine QL_nil ?_
     refine WN_q ⟨S76.tail, XTR11⟩ rfl rfl rfl ?_
     refine q_extract rfl rfl rfl ?_
     refine QL_nil ?_
     refine WN_o ⟨S76.tail, XTR11⟩ rfl rfl rfl ?_
     refine o_storeN (kk := 0) (vs := [_, _, _]) S76 sz_46 rfl rfl rfl rfl rfl rfl rfl ?_
     intro w11_15 S11_15 X11_15
     dsimp only [setsAt, List.set] at S11_15
     replace KB := KB.fresh X11_15 (by exact GXTR1113)
     replace XTR11 := XTR11.fresh X11_15 (by exact GXTR1113)
     replace hY := hY.keep (X11_15.mono (by simp))
     refine WL_nil ⟨rfl, ?_⟩
     refine WN_q ⟨S11_15.tail, XTR11⟩ rfl rfl rfl ?_
     refine q_assign (v := .int .i64 _) rfl rfl ?_
     refine QL_nil ?_
     refine WN_nil ⟨S11_15.tail, XTR11⟩ ?_
     refine fP0 rfl ⟨⟩ ⟨rfl, (g13), (_), (x), (c), (by omega), (hxb), (hxx), ((by exact hY.less (by simp))), (hKL.trans KB), S11_15, rfl⟩
    have SR11 := S.drew
    have XR11 : Keep [] w w.drew := keep_drew _ _
    generalize w.drew = wR11 at SR11 XR11 ⊢
    replace KB := KB.trans XR11
    have XTR11 := XR11
    refine WN_q ⟨SR11, XTR11⟩ rfl rfl rfl ?_
    refine q_loadN many_36 rfl (fun w1 hw => hw.1.cells 0 rfl) rfl rfl ?_
    refine QL_nil ?_
    refine WN_q ⟨SR11, XTR11⟩ rfl rfl rfl ?_
    refine q_move (v := .int .i64 _) rfl rfl ?_
    refine QL_nil ?_
    refine WN_q ⟨SR11, XTR11⟩ rfl rfl rfl ?_
    refine q_move (v := .slice _ _ _) rfl rfl ?_
    refine QL_nil ?_
    refine WN_q ⟨SR11, XTR11⟩ rfl rfl rfl ?_
    refine q_move (v := .int .i64 _) rfl rfl ?_
    refine QL_nil ?_
    refine WN_q ⟨SR11, XTR11⟩ rfl rfl rfl ?_
    refine q_indexAddr slz_38.slT rfl (by assumption) rfl (by omega) (by omega) rfl ?_
    refine QL_nil ?_
    refine WN_q ⟨SR11, XTR11⟩ rfl rfl rfl ?_
    refine q_loadN many_46 rfl (fun w1 hw => hcb.keep hw.2 List.not_mem_nil) (by rfl) rfl ?_
    refine QL_nil ?_
    refine WN_q ⟨SR11, XTR11⟩ rfl rfl rfl ?_
    refine q_move (v := .slice _ _ _) rfl rfl ?_
    refine QL_nil ?_
    refine WN_q ⟨SR11, XTR11⟩ rfl rfl rfl ?_
    refine q_move (v := .int .i64 _) rfl rfl ?_
    refine QL_nil ?_
    refine WN_q ⟨SR11, XTR11⟩ rfl rfl rfl ?_
    obtain ⟨x74, b74, p74, c74, hx74, hA74, hM74, hl74, hc74, hr74⟩ := RdS.get (hRun) (i) (by omega)
    obtain rfl := Option.some.inj (hxx.symm.trans hx74)
    obtain ⟨rfl, i174, i274, i374⟩ := id hr74
    refine q_indexAddr slz_22.slT rfl (by assumption) rfl (by omega) (by omega) rfl ?_
    refine QL_nil ?_
    refine WN_q ⟨SR11, XTR11⟩ rfl rfl rfl ?_
    refine q_loadN many_53 rfl (fun w1 hw => hc74.keep (hw.1.keep0 _) hM74) (by rfl) rfl ?_
    refine QL_nil ?_
    refine WN_o ⟨SR11, XTR11⟩ rfl rfl rfl ?_
    refine o_calln SR11 has_19 rfl rfl (bufNextIn_fn p c k3 x (hg.model hmk) hin [] _ _ _ (hI.keep (SR11.keep0 [])) (hrb.keep KB) hg.1) ?_
    rintro v76 w76 ⟨ys, rfl, hY⟩ S76 X76
    replace KB := KB.trans X76
    replace XTR11 := XTR11.trans X76
    have KC := Keep.refl [] w76
    obtain ⟨Ua, ua, va, Ub, ub, vb, Uc, uc, vc, rfl, -⟩ := hY.open_
    refine WL_nil ⟨rfl, ?_⟩
    refine WN_o ⟨S76, XTR11⟩ rfl rfl rfl ?_
    refine o_alloc S76 zv_46 rfl rfl ?_
    intro g13 w13 S13 X13 G13
    have GXTR1113 := Nat.le_trans XTR11.size G13
    have GKC13 := Nat.le_trans KC.size G13
    replace KB := KB.trans X13
    replace XTR11 := XTR11.trans X13
    replace KC := KC.trans X13
    refine WL_nil ⟨rfl, ?_⟩
    refine WN_q ⟨S13.tail, XTR11⟩ rfl rfl rfl ?_
    refine q_move (v := .tuple _) rfl rfl ?_
    refine QL_nil ?_
    refine WN_q ⟨S13.tail, XTR11⟩ rfl rfl rfl ?_
    refine q_extract rfl rfl rfl ?_
    refine QL_nil ?_
    refine WN_q ⟨S13.tail, XTR11⟩ rfl rfl rfl ?_
    refine q_extract rfl rfl rfl ?_
    refine QL_nil ?_
    refine WN_o ⟨S13.tail, XTR11⟩ rfl rfl rfl ?_
    refine o_storeN (kk := 0) (vs := [_, _, _]) S13 sz_46 rfl rfl rfl rfl rfl rfl rfl ?_
    intro w11_15 S11_15 X11_15
    dsimp only [setsAt, List.set] at S11_15
    replace KB := KB.fresh X11_15 (by exact GXTR1113)
    replace XTR11 := XTR11.fresh X11_15 (by exact GXTR1113)
    replace KC := KC.fresh X11_15 (by exact GKC13)
    refine WL_nil ⟨rfl, ?_⟩
    refine WN_q ⟨S11_15.tail, XTR11⟩ rfl rfl rfl ?_
    refine q_assign (v := .int .i64 _) rfl rfl ?_
    refine QL_nil ?_
    refine WN_nil ⟨S11_15.tail, XTR11⟩ ?_
    refine fP0 rfl ⟨⟩ ⟨rfl, (g13), (_), (x), (c), (by omega), (hxb), (hxx), ((by exact hY.keep KC)), (hKL.trans KB), S11_15, rfl⟩
   rintro D ε w ⟨rfl, g13, ys, x, c, hi, hxb, hxx, hY, hKX, S, e⟩
   refine wK e ?_
   obtain ⟨hin, hxd⟩ := run_step (by omega) hxb hxx
   have hg := good_run h17 (List.mem_of_getElem? hxb)
   obtain ⟨Ua, ua, va, Ub, ub, vb, Uc, uc, vc, rfl, -⟩ := hY.open_
   obtain ⟨_, bb, pb, cb, hxb2, hAb, hMb, hlb, hcb, hrb⟩ := RdS.get (RdS.keepW hL hKX (RConf.keep hKX)) (i + 1) (by omega)
   obtain rfl := Option.some.inj (hxb2.symm.trans hxd)
   obtain ⟨Ya, ya, za, Yb, yb, zb, Yc, yc, zc, rfl, -⟩ := hrb.open_
   obtain ⟨_, _, _, _, hxd3, hAd, _, _, hcd, hrd⟩ := RdS.get (RdS.keepW hL hKX (RConf.keep hKX)) i (by omega)
   obtain rfl := Option.some.inj (hxd3.symm.trans hxb)
   cases Option.some.inj (hAb.symm.trans hAd)
   obtain ⟨_, _, _, _, _, _, _, _, _, rfl, -⟩ := hrd.open_
   have KY := Keep.refl [] w
   refine wC0 rfl ⟨⟩ (W_mix follows_mixed (fun i => [0, 1, 2, 3, 4, 5, 6, 7, 8, 10, 11, 12, 13, 14, 15, 16, 17, 18, 20, 21, 22, 23, 25, 26].contains i) [0, 1, 2, 3, 4, 5, 6, 7, 8, 9, 10, 11, 12, 13, 14, 15, 16, 17, 18, 19, 20, 21, 22, 23, 24, 25, 26] (by kernel_rfl) (by kernel_rfl) (Cl _ _ _ _) (Cl.start S) ?_)
   rintro wR12 ⟨SR12, XR12⟩
   replace KY := KY.trans XR12
   refine WM_q ⟨SR12, XR12⟩ rfl rfl rfl ?_
   refine q_move (v := .int .i64 _) rfl rfl ?_
   refine QL_nil ?_
   refine WM_q ⟨SR12, XR12⟩ rfl rfl rfl ?_
   refine q_neq rfl rfl rfl (fun h80 => ?_) fun h80 => ?_
   ·exact absurd rfl h80
   refine QL_nil ?_
   refine WM_q ⟨SR12, XR12⟩ rfl rfl rfl ?_
   refine q_move (v := .bool _) rfl rfl ?_
   refine QL_nil ?_
   refine WM_q ⟨SR12, XR12⟩ rfl rfl rfl ?_
   refine QL_on rfl rfl ?_
   refine q_loadN many_46 rfl (fun w1 hw => hw.1.cells 0 rfl) rfl rfl ?_
   refine QL_nil ?_
   refine WM_q ⟨SR12, XR12⟩ rfl rfl rfl ?_
   refine QL_on rfl rfl ?_
   refine q_move (v := .slice _ _ _) rfl rfl ?_
   refine QL_nil ?_
   refine WM_q ⟨SR12, XR12⟩ rfl rfl rfl ?_
   refine QL_on rfl rfl ?_
   refine q_move (v := .int .i64 _) rfl rfl ?_
   refine QL_nil ?_
   refine WM_q ⟨SR12, XR12⟩ rfl rfl rfl ?_
   refine QL_on rfl rfl ?_
   refine q_add rfl rfl (by unfold i64; omega) rfl ?_
   refine QL_nil ?_
   refine WM_q ⟨SR12, XR12⟩ rfl rfl rfl ?_
   refine QL_on rfl rfl ?_
   refine q_indexAddr slz_38.slT rfl (by assumption) rfl (by omega) (by omega) rfl ?_
   refine QL_nil ?_
   refine WM_q ⟨SR12, XR12⟩ rfl rfl rfl ?_
   refine QL_on rfl rfl ?_
   refine q_loadN many_46 rfl (fun w1 hw => hcb.keep hw.2 List.not_mem_nil) (by rfl) rfl ?_
   refine QL_nil ?_
   refine WM_o ⟨SR12, XR12⟩ rfl rfl rfl rfl ?_
   refine WL_on rfl rfl rfl ?_
   refine o_callr SR12 has_17 rfl rfl (does_true (same_fn _ _ [] _ _ _ (hY.keep KY) (hrb.keep KY)) (decide_eq_true rfl)) ?_
   intro w88 S88 X88
   have XCw88 := XR12.trans X88
   replace KY := KY.trans X88
   refine WL_nil ⟨rfl, ?_⟩
   refine WM_q ⟨S88, XCw88⟩ rfl rfl rfl ?_
   refine QL_on rfl rfl ?_
   refine q_not rfl rfl ?_
   refine QL_nil ?_
   refine WM_q ⟨S88, XCw88⟩ rfl rfl rfl ?_
   refine q_pick rfl (v := .bool _) rfl rfl ?_
   refine QL_nil ?_
   refine WM_q ⟨S88, XCw88⟩ rfl rfl rfl ?_
   refine q_move (v := .bool _) rfl rfl ?_
   refine QL_nil ?_
   refine WM_q ⟨S88, XCw88⟩ rfl rfl rfl ?_
   refine QL_on rfl rfl ?_
   refine q_loadN many_36 rfl (fun w1 hw => hw.1.cells 1 rfl) rfl rfl ?_
   refine QL_nil ?_
   refine WM_q ⟨S88, XCw88⟩ rfl rfl rfl ?_
   refine QL_on rfl rfl ?_
   refine q_move (v := .int .i64 _) rfl rfl ?_
   refine QL_nil ?_
   refine WM_q ⟨S88, XCw88⟩ rfl rfl rfl ?_
   refine QL_on rfl rfl ?_
   refine q_move (v := .slice _ _ _) rfl rfl ?_
   refine QL_nil ?_
   refine WM_q ⟨S88, XCw88⟩ rfl rfl rfl ?_
   refine QL_on rfl rfl ?_
   refine q_move (v := .int .i64 _) rfl rfl ?_
   refine QL_nil ?_
   refine WM_q ⟨S88, XCw88⟩ rfl rfl rfl ?_
   refine QL_on rfl rfl ?_
   refine q_indexAddr slz_38.slT rfl (by assumption) rfl (by omega) (by omega) rfl ?_
   refine QL_nil ?_
   refine WM_q ⟨S88, XCw88⟩ rfl rfl rfl ?_
   refine QL_on rfl rfl ?_
   refine q_loadN many_46 rfl (fun w1 hw => hcd.keep hw.2 List.not_mem_nil) (by rfl) rfl ?_
   refine QL_nil ?_
   refine WM_o ⟨S88, XCw88⟩ rfl rfl rfl rfl ?_
   refine WL_on rfl rfl rfl ?_
   refine o_calln S88 has_21 rfl rfl (bufEnabledAll_fn p _ k3 (hg.model hmk) [] _ _ _ (hI.keep (S88.keep0 [])) (hrd.keep KY) hg.1) ?_
   rintro v98 w98 hE S98 X98
   have XCw98 := XCw88.trans X98
   replace KY := KY.trans X98
   obtain ⟨Ae, ne, ce, rfl⟩ := hE.form
   refine WL_nil ⟨rfl, ?_⟩
   refine WM_q ⟨S98, XCw98⟩ rfl rfl rfl ?_
   refine QL_on rfl rfl ?_
   refine q_move (v := .slice _ _ _) rfl rfl ?_
   refine QL_nil ?_
   refine WM_q ⟨S98, XCw98⟩ rfl rfl rfl ?_
   refine QL_on rfl rfl ?_
   refine q_move (v := .int .i64 _) rfl rfl ?_
   refine QL_nil ?_
   refine WM_q ⟨S98, XCw98⟩ rfl rfl rfl ?_
   refine QL_on rfl rfl ?_
   obtain ⟨_, _, _, _, hx101, _, hM101, _, hc101, hr101⟩ := RdS.get (hRun) (i) (by omega)
   obtain rfl := Option.some.inj (hxx.symm.trans hx101)
   obtain ⟨rfl, _, _, _⟩ := id hr101
   refine q_indexAddr slz_22.slT rfl (by assumption) rfl (by omega) (by omega) rfl ?_
   refine QL_nil ?_
   refine WM_q ⟨S98, XCw98⟩ rfl rfl rfl ?_
   refine QL_on rfl rfl ?_
   refine q_loadN many_53 rfl (fun w1 hw => hc101.keep (hw.1.keep0 _) hM101) (by rfl) rfl ?_
   refine QL_nil ?_
   refine WM_o ⟨S98, XCw98⟩ rfl rfl rfl rfl ?_
   refine WL_on rfl rfl rfl ?_
   refine o_callr S98 has_20 rfl rfl (does_true (among_fn _ x [] _ _ hE) (decide_eq_true hin)) ?_
   intro w103 S103 X103
   have XCw103 := XCw98.trans X103
   replace KY := KY.trans X103
   replace hE := hE.keep (X103.of_nil)
   refine WL_nil ⟨rfl, ?_⟩
   refine WM_q ⟨S103, XCw103⟩ rfl rfl rfl ?_
   refine QL_on rfl rfl ?_
   refine q_not rfl rfl ?_
   refine QL_nil ?_
   refine WM_q ⟨S103, XCw103⟩ rfl rfl rfl ?_
   refine q_pick rfl (v := .bool _) rfl rfl ?_
   refine QL_nil ?_
   refine WM_nil ⟨S103, XCw103⟩ ?_
   refine fP0 rfl ⟨by omega,⟨⟩⟩ ⟨μi - 1, by omega, rfl, (i + 1), (by omega), (hKX.trans KY), S103.tail, rfl⟩
  refine lB0 rfl ⟨⟩ (fun h107 => ?_) fun h107 => ?_
  ·skip
   refine lB0 rfl ⟨⟩ (fun h113 => ?_) (fun h113 => by exfalso; omega)
   exact lT rfl ⟨⟩ rfl ⟨rfl, S.fin⟩
  obtain ⟨x, hxx⟩ : ∃ x, run[nn]? = some x := ⟨run[nn]'(by omega), List.getElem?_eq_getElem _⟩
  obtain ⟨c, bb, pb, cb, hxb, hAb, hMb, hlb, hcb, hrb⟩ := RdS.get (RdS.keepW hL hKL (RConf.keep hKL)) (nn) (by omega)
  obtain ⟨Ya, ya, za, Yb, yb, zb, Yc, yc, zc, rfl, -⟩ := hrb.open_
  have hout := run_end (by omega) hxb hxx
  have hg := good_run h17 (List.mem_of_getElem? hxb)
  have KB := Keep.refl [] w
  refine lC0 rfl ⟨⟩ (W_mix follows_mixed (fun i => [0, 1, 2, 3, 4, 5, 6, 7, 9, 10, 11, 12, 13, 14, 15, 16, 17, 19, 20, 21, 22, 24, 25, 26].contains i) [0, 1, 2, 3, 4, 5, 6, 7, 8, 9, 10, 11, 12, 13, 14, 15, 16, 17, 18, 19, 20, 21, 22, 23, 24, 25, 26] (by kernel_rfl) (by kernel_rfl) (Cl _ _ _ _) (Cl.start S) ?_)
  rintro wR16 ⟨SR16, XR16⟩
  replace KB := KB.trans XR16
  refine WM_q ⟨SR16, XR16⟩ rfl rfl rfl ?_
  refine q_move (v := .bool _) rfl rfl ?_
  refine QL_nil ?_
  refine WM_q ⟨SR16, XR16⟩ rfl rfl rfl ?_
  refine q_move (v := .bool _) rfl rfl ?_
  refine QL_nil ?_
  refine WM_q ⟨SR16, XR16⟩ rfl rfl rfl ?_
  refine QL_on rfl rfl ?_
  refine q_move (v := .int .i64 _) rfl rfl ?_
  refine QL_nil ?_
  refine WM_q ⟨SR16, XR16⟩ rfl rfl rfl ?_
  refine QL_on rfl rfl ?_
  refine q_eql rfl rfl rfl (fun h118 => ?_) fun h118 => ?_
  ·refine QL_nil ?_
   refine WM_q ⟨SR16, XR16⟩ rfl rfl rfl ?_
   refine q_pick rfl (v := .bool _) rfl rfl ?_
   refine QL_nil ?_
   refine WM_q ⟨SR16, XR16⟩ rfl rfl rfl ?_
   refine q_move (v := .bool _) rfl rfl ?_
   refine QL_nil ?_
   refine WM_q ⟨SR16, XR16⟩ rfl rfl rfl ?_
   refine QL_on rfl rfl ?_
   refine q_move (v := .int .i64 _) rfl rfl ?_
   refine QL_nil ?_
   refine WM_q ⟨SR16, XR16⟩ rfl rfl rfl ?_
   refine QL_on rfl rfl ?_
   refine q_move (v := .slice _ _ _) rfl rfl ?_
   refine QL_nil ?_
   refine WM_o ⟨SR16, XR16⟩ rfl rfl rfl rfl ?_
   refine WL_on rfl rfl rfl ?_
   refine o_len slz_22.slT rfl rfl ?_
   refine WL_nil ⟨rfl, ?_⟩
   refine WM_q ⟨SR16, XR16⟩ rfl rfl rfl ?_
   refine QL_on rfl rfl ?_
   refine q_lss rfl rfl rfl (fun h124 => ?_) fun h124 => ?_
   ·refine QL_nil ?_
    refine WM_q ⟨SR16, XR16⟩ rfl rfl rfl ?_
    refine q_pick rfl (v := .bool _) rfl rfl ?_
    refine QL_nil ?_
    refine WM_q ⟨SR16, XR16⟩ rfl rfl rfl ?_
    refine q_move (v := .bool _) rfl rfl ?_
    refine QL_nil ?_
    refine WM_q ⟨SR16, XR16⟩ rfl rfl rfl ?_
    refine QL_on rfl rfl ?_
    refine q_loadN many_36 rfl (fun w1 hw => hw.1.cells 0 rfl) rfl rfl ?_
    refine QL_nil ?_
    refine WM_q ⟨SR16, XR16⟩ rfl rfl rfl ?_
    refine QL_on rfl rfl ?_
    refine q_move (v := .int .i64 _) rfl rfl ?_
    refine QL_nil ?_
    refine WM_q ⟨SR16, XR16⟩ rfl rfl rfl ?_
    refine QL_on rfl rfl ?_
    refine q_move (v := .slice _ _ _) rfl rfl ?_
    refine QL_nil ?_
    refine WM_q ⟨SR16, XR16⟩ rfl rfl rfl ?_
    refine QL_on rfl rfl ?_
    refine q_move (v := .int .i64 _) rfl rfl ?_
    refine QL_nil ?_
    refine WM_q ⟨SR16, XR16⟩ rfl rfl rfl ?_
    refine QL_on rfl rfl ?_
    refine q_indexAddr slz_38.slT rfl (by assumption) rfl (by omega) (by omega) rfl ?_
    refine QL_nil ?_
    refine WM_q ⟨SR16, XR16⟩ rfl rfl rfl ?_
    refine QL_on rfl rfl ?_
    refine q_loadN many_46 rfl (fun w1 hw => hcb.keep hw.2 List.not_mem_nil) (by rfl) rfl ?_
    refine QL_nil ?_
    refine WM_o ⟨SR16, XR16⟩ rfl rfl rfl rfl ?_
    refine WL_on rfl rfl rfl ?_
    refine o_calln SR16 has_21 rfl rfl (bufEnabledAll_fn p c k3 (hg.model hmk) [] _ _ _ (hI.keep (SR16.keep0 [])) (hrb.keep KB) hg.1) ?_
    rintro v133 w133 hE S133 X133
    have XCw133 := XR16.trans X133
    obtain ⟨Ae, ne, ce, rfl⟩ := hE.form
    refine WL_nil ⟨rfl, ?_⟩
    refine WM_q ⟨S133, XCw133⟩ rfl rfl rfl ?_
    refine QL_on rfl rfl ?_
    refine q_move (v := .slice _ _ _) rfl rfl ?_
    refine QL_nil ?_
    refine WM_q ⟨S133, XCw133⟩ rfl rfl rfl ?_
    refine QL_on rfl rfl ?_
    refine q_move (v := .int .i64 _) rfl rfl ?_
    refine QL_nil ?_
    refine WM_q ⟨S133, XCw133⟩ rfl rfl rfl ?_
    refine QL_on rfl rfl ?_
    obtain ⟨_, _, _, _, hx136, _, hM136, _, hc136, hr136⟩ := RdS.get (hRun) (nn) (by omega)
    obtain rfl := Option.some.inj (hxx.symm.trans hx136)
    obtain ⟨rfl, _, _, _⟩ := id hr136
    refine q_indexAddr slz_22.slT rfl (by assumption) rfl (by omega) (by omega) rfl ?_
    refine QL_nil ?_
    refine WM_q ⟨S133, XCw133⟩ rfl rfl rfl ?_
    refine QL_on rfl rfl ?_
    refine q_loadN many_53 rfl (fun w1 hw => hc136.keep (hw.1.keep0 _) hM136) (by rfl) rfl ?_
    refine QL_nil ?_
    refine WM_o ⟨S133, XCw133⟩ rfl rfl rfl rfl ?_
    refine WL_on rfl rfl rfl ?_
    refine o_callr S133 has_20 rfl rfl (does_false (among_fn _ x [] _ _ hE) (decide_eq_false hout)) ?_
    intro w138 S138 X138
    have XCw138 := XCw133.trans X138
    refine WL_nil ⟨rfl, ?_⟩
    refine WM_q ⟨S138, XCw138⟩ rfl rfl rfl ?_
    refine QL_on rfl rfl ?_
    refine q_not rfl rfl ?_
    refine QL_nil ?_
    refine WM_q ⟨S138, XCw138⟩ rfl rfl rfl ?_
    refine q_pick rfl (v := .bool _) rfl rfl ?_
    refine QL_nil ?_
    refine WM_q ⟨S138, XCw138⟩ rfl rfl rfl ?_
    refine q_assign (v := .bool _) rfl rfl ?_
    refine QL_nil ?_
    refine WM_nil ⟨S138, XCw138⟩ ?_
    refine fR0 rfl ⟨⟩ (ret_1 rfl (by conv => lhs; whnf) ?_)
    exact ⟨rfl, S138.fin⟩
   exfalso; omega
  exfalso; omega
 exact lT rfl ⟨⟩ rfl ⟨rfl, S17.fin⟩
end Go.Proofs.YtgnbfmifjlnigaaGreatDoor
namespace Go.Proofs.YtgnbfmifjlnigaaGreatDoor
open Go.Fw Go.RowKit Go.ChangeShapes Go.WideShapes
set_option maxRecDepth 100000 in
set_option maxHeartbeats 2000000 in
theorem scheduleSteps_lifted (os : Os) (started : os.Started) (H : Type) (enc : TypeId × Value → H) :
 ReturnsInHanded {} Tryz.checked os 6 .any (fun w args => (Rows.scheduleStepsSpec.pre enc Tryz.prog Tryz.f6 [] false w args ∧ laidMetH Tryz.prog tableLaid w) ∧ sizedMet enc Tryz.prog Tryz.f6 (OpenSpec.ofChange Rows.scheduleStepsSpec) false w args)
  (Rows.scheduleStepsSpec.post enc Tryz.prog Tryz.f6 false true false false) := by
 refine returnsInHanded_of_change_and (C := Tryz.checked) (X := fun w _ => laidMetH Tryz.prog tableLaid w) (fun _ _ _ hh h => h.of_heap hh) own started (by kernel_rfl) Tryz.func6
  (ChangeSpec.witness_shaped (enc := enc) (C := Tryz.checked) (os := os) (X := fun w _ => laidMetH Tryz.prog tableLaid w) false (World.doorLaid Tryz.prog 400 os)
    #[.agg #[.slice none 0 0, .slice none 0 0, .slice none 0 0, .slice none 0 0], .int .u8 0, .slice none 0 0] 8 rfl
    (World.shaped_of_RefB (by kernel_rfl) (by kernel_rfl)) (by kernel_rfl) (by kernel_rfl) (by kernel_rfl) (door_met os _)) ?_
 intro W base args ds gs before hval0 hW _ hsz hL _
 have hval : ∀ (j : Nat) t v, Tryz.f6.params[j]? = some t → args[j]? = some v → Value.okWide Tryz.prog W .any base t v := hval0
 have hW' := hW
 obtain ⟨p, _, hA0, hV, rfl, _, _⟩ := hW
 have hA : DataW.TrodAll enc Tryz.prog W 0 (fun _ => true) true Tryz.f6.params.toList args.toList ds p := hA0
 obtain ⟨rfl, rfl⟩ := trodVars_none hV
 rw [Tryz.params6] at hA hval hsz
 obtain ⟨_, _, _, _, _, _, _, _, _, rfl, rfl, rfl, ⟨_, t0⟩, ⟨_, t1⟩, ⟨_, t2⟩⟩ := trodAll_three hA
 obtain ⟨_, rfl, -⟩ := okWide_struct Tryz.underlying36 (hval 0 _ _ rfl rfl)
 obtain ⟨c1, rfl⟩ := okWide_int Tryz.underlying5 (hval 1 _ _ rfl rfl)
 obtain ⟨_, _, _, rfl⟩ := okWide_slice Tryz.underlying22 (hval 2 _ _ rfl rfl)
 obtain ⟨c0, h0⟩ := open_program t0 (light_of hsz (j := 0) rfl rfl)
 obtain ⟨_, e1, -, w1⟩ := DataW.trod_int Tryz.underlying5 t1
 cases e1
 have h1 := u8_wf w1
 obtain ⟨c2, h2⟩ := open_choices t2 (light_of hsz (j := 2) rfl rfl)
 refine calls_of_does (scheduleSteps_fn c0 c1 h1 c2 W _ _ h0.1 h0.2 h2 (masks_of_laid hL)) fun v W'' hr => ⟨v, rfl, ?_⟩
 obtain ⟨rfl, hb⟩ := hr
 exact post_true rfl (by kernel_rfl) (by
  rw [Tryz.params6]
  intro t ht
  have hall : ([36, 5, 22].all fun u => Tryz.prog.readableRec u && decide (u < Tryz.prog.types.size)) = true := by kernel_rfl
  simpa using List.all_eq_true.1 hall t ht) hW' rfl rfl rfl hb
theorem scheduleSteps_holds : Rows.ScheduleStepsSaid :=
 OpenClaim.holds_of_wide 6 Tryz.f6 rfl rfl rfl rfl rfl rfl rfl ⟨rfl, rfl, rfl, rfl, rfl⟩ rfl rfl rfl rfl rfl (by kernel_rfl) Tryz.func6 (by kernel_rfl)
  (of_decide_eq_true (by kernel_rfl)) (by unfold Func.isWrapper; (rw [if_neg (by decide +kernel)]; exact ⟨rfl, rfl⟩))
  (fun os started H enc _ => scheduleSteps_lifted os started H enc)
theorem scheduleSteps_card : Rows.ScheduleStepsCardSaid :=
 Claim7.holds_tied_plain_at .later [] [.data, .data, .data, .data] true Rows.scheduleStepsCard.stood.harness false
  scheduleSteps_holds (fun _ h => by cases h) (by kernel_rfl) (fun _ h => by cases h) scheduleSteps_row_tie rfl ⟨rfl, rfl⟩ (by kernel_rfl) rfl
  (fun f fn hf hfn => by
    obtain rfl : f = 6 := Option.some.inj ((show Tryz.prog.funcNamed Rows.scheduleStepsRow.func = some 6 by kernel_rfl).symm.trans hf) |>.symm
    obtain rfl : fn = Tryz.f6 := (Option.some.inj (Tryz.func6.symm.trans hfn)).symm
    exact ⟨by kernel_rfl, fun j t ht => by
     rw [Tryz.params6] at ht
     have hm : t ∈ [36, 5, 22] := by simpa using Array.mem_of_getElem? ht
     have hall : ([36, 5, 22].all fun u => !Tryz.prog.wantsStandIn u) = true := by kernel_rfl
     exact (show Tryz.prog.wantsStandIn t = false by simpa using List.all_eq_true.1 hall t hm)⟩)
  (by kernel_rfl)
#print axioms scheduleSteps_card
end Go.Proofs.YtgnbfmifjlnigaaGreatDoor
