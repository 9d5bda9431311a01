/-
  Part 6 of 6 of a proof: ScheduleComposition of package relyguardlaw13 returns true for every input, and its arguments read as before.
  Conditions: those of the given row (the listed package variables as the program's text lays them).
-/
import Derived.Test.YtgnbfmifjlnigaaGreatDoorZScheduleComposition5
set_option maxRecDepth 100000
namespace Go.Fw
open Go.RowKit
section
variable {P : Program} {r : Option Nat} {N : Nat} {l : List Oper} {D : List Deferred} {C : World → Prop} {K : List Deferred → Env → World → Prop} {pur : Nat → Bool}
def updO (e : Env) (d : Option Nat) (v : Value) : Env := match d with | some d => upd e d v | none => e
def dstLt (N : Nat) (o : Oper) : Prop := ∀ d, o.dst = some d → d < N
theorem envOf_putO {a : Act} (o : Oper) (v : Value) (h : dstLt a.tmps.size o) : envOf (a.put o.dst v) = updO (envOf a) o.dst v := by
 cases hd : o.dst with
 | none => rfl
 | some d => exact envOf_put v (h d hd)
theorem putO_size (a : Act) (o : Oper) (v : Value) : (a.put o.dst v).tmps.size = a.tmps.size := by
 cases o.dst <;> simp [Act.put]
theorem putO_defers (a : Act) (o : Oper) (v : Value) : (a.put o.dst v).defers = a.defers := by
 cases o.dst <;> simp [Act.put]
theorem updO_undef {e : Env} {o : Oper} {v : Value} (hN : dstLt N o) (hz : ∀ i, N ≤ i → e i = undef) : ∀ i, N ≤ i → updO e o.dst v i = undef := by
 cases hd : o.dst with
 | none => exact hz
 | some d => exact upd_undef (hN d hd) hz
theorem WLO_transfer {o : Oper} {K1 : List Deferred → Env → World → Prop} {e e1 : Env} {w : World} (hN : dstLt N o) (hsel : Op.isSelect o.op = false) (hdef : ∀ c, o.op ≠ .defer c) (hz : ∀ i, N ≤ i → e1 i = undef)
 (agree : ∀ s ∈ Oper.looksAt l.toArray o, e s = e1 s) (h : WL P r N l.toArray [o] K1 D e1 w) : WL P r N l.toArray [o] (fun D' e' w' => ∃ v, e' = updO e o.dst v ∧ K1 D' (updO e1 o.dst v) w') D e w := by
 unfold WL at *
 intro a Q hs hD he hK
 obtain ⟨a1, hs1, hD1, he1⟩ := act_of_env e1 N D hz
 have h1 := h a1 (fun ex a' w' => ex = .normal ∧ K1 a'.defers (envOf a') w') hs1 hD1 he1 (fun a' w' _ hk => ⟨rfl, hk⟩)
 have hw : Region.wanted o (yielded l.toArray a.tmps) = Region.wanted o (yielded l.toArray a1.tmps) := by rw [wanted_env, wanted_env, he, he1]; exact wantedE_congr agree
 have fin : ∀ (v : Value) (w' : World), K1 (a1.put o.dst v).defers (envOf (a1.put o.dst v)) w' → Q .normal (a.put o.dst v) w' := by
  intro v w' hk
  rw [envOf_putO o v (by rw [hs1]; exact hN), he1, putO_defers, hD1] at hk
  refine hK _ _ (by rw [putO_size, hs]) ⟨v, by rw [envOf_putO o v (by rw [hs]; exact hN), he], ?_⟩
  rw [putO_defers, hD]; exact hk
 simp only [wpListIn] at h1 ⊢
 rw [hw]
 split
 ·rename_i hww
  simp only [hww, if_true] at h1
  refine ⟨about_trivial _ _ _, ?_⟩
  have h4 := h1.2
  have hsem : Oper.semAt (fc r).round a.eval o = Oper.semAt (fc r).round a1.eval o := by
   rw [Oper.semAt_eq _ _ _ hdef, Oper.semAt_eq _ _ _ hdef, eval_eq, eval_eq, he, he1]; exact exec_congr hsel agree
  rw [hsem]
  revert h4
  generalize (Oper.semAt (fc r).round a1.eval o).run P w = res
  intro h4
  cases res with
  | ok x w' =>
    cases x with
    | value v => simp only [Oper.uponIn] at h4 ⊢; exact fin v w' h4.2
    | skip => simp only [Oper.uponIn] at h4 ⊢; exact fin undef w' h4.2
    | defer dd =>
      simp only [Oper.uponIn] at h4 ⊢
      have hk := h4.2
      have ee1 : envOf ({ a1 with defers := dd :: a1.defers } : Act) = e1 := he1
      have ee : envOf ({ a with defers := dd :: a.defers } : Act) = e := he
      rw [envOf_putO (a := { a1 with defers := dd :: a1.defers }) o undef (by rw [show ({ a1 with defers := dd :: a1.defers } : Act).tmps.size = N from hs1]; exact hN), ee1, putO_defers] at hk
      refine hK _ _ (by rw [putO_size]; exact hs) ⟨undef, by rw [envOf_putO (a := { a with defers := dd :: a.defers }) o undef (by rw [show ({ a with defers := dd :: a.defers } : Act).tmps.size = N from hs]; exact hN), ee], ?_⟩
      rw [putO_defers]
      show K1 (dd :: a.defers) _ _
      rw [hD, ← hD1]; exact hk
    | enter f args =>
      simp only [Oper.uponIn] at h4 ⊢
      exact ⟨h4.1, CallsIn.mono h4.2 (fun en w'' hh => by
       cases en
       ·exact fin _ _ hh.2
       ·exact absurd hh.1 (by simp)
       ·obtain ⟨a0, w0, hh⟩ := hh; exact absurd hh.1 (by simp))⟩
    | row rw' args => simp only [Oper.uponIn] at h4 ⊢; exact ⟨h4.1, RowsIn.mono h4.2 (fun _ _ hh => fin _ _ hh.2)⟩
    | round l' f tmps assign body =>
      simp only [Oper.uponIn] at h4 ⊢
      exact ⟨h4.1, RoundIn.mono h4.2 (fun en w'' hh => by
       cases en
       ·exact fin _ _ hh.2
       ·exact absurd hh.1 (by simp)
       ·obtain ⟨a0, w0, hh⟩ := hh; exact absurd hh.1 (by simp))⟩
    | _ => simp only [Oper.uponIn] at h4
  | halt x w' => cases x <;> simp only [Oper.uponIn] at h4 ⊢ <;> exact absurd h4.1 (by simp)
 ·rename_i hww
  simp only [hww] at h1
  exact ⟨about_trivial _ _ _, fin undef w h1.2.2⟩
theorem WLO_some {o : Oper} {K1 : List Deferred → Env → World → Prop} {e : Env} {w : World} (hN : dstLt N o) (hz : ∀ i, N ≤ i → e i = undef)
 (h : WL P r N l.toArray [o] K1 D e w) : ∃ D' v w', K1 D' (updO e o.dst v) w' := by
 unfold WL at h
 obtain ⟨a1, hs1, hD1, he1⟩ := act_of_env e N D hz
 have h1 := h a1 (fun ex a' w' => ex = .normal ∧ K1 a'.defers (envOf a') w') hs1 hD1 he1 (fun a' w' _ hk => ⟨rfl, hk⟩)
 have fin : ∀ (v : Value) (w' : World), K1 (a1.put o.dst v).defers (envOf (a1.put o.dst v)) w' → ∃ D' v w', K1 D' (updO e o.dst v) w' := by
  intro v w' hk
  rw [envOf_putO o v (by rw [hs1]; exact hN), he1] at hk
  exact ⟨_, v, w', hk⟩
 simp only [wpListIn] at h1
 split at h1
 ·have h4 := h1.2
  revert h4
  generalize (Oper.semAt (fc r).round a1.eval o).run P w = res
  intro h4
  cases res with
  | ok x w' =>
    cases x with
    | value v => simp only [Oper.uponIn] at h4; exact fin v w' h4.2
    | skip => simp only [Oper.uponIn] at h4; exact fin undef w' h4.2
    | defer dd =>
      simp only [Oper.uponIn] at h4
      have hk := h4.2
      rw [envOf_putO (a := { a1 with defers := dd :: a1.defers }) o undef (by rw [show ({ a1 with defers := dd :: a1.defers } : Act).tmps.size = N from hs1]; exact hN), show envOf ({ a1 with defers := dd :: a1.defers } : Act) = e from he1] at hk
      exact ⟨_, _, _, hk⟩
    | enter f args =>
      simp only [Oper.uponIn] at h4
      obtain ⟨en, w2, _, hR, _⟩ := h4.2.2 [] (room_wide _)
      cases en
      ·exact fin _ _ hR.2
      ·exact absurd hR.1 (by simp)
      ·obtain ⟨a0, w0, hh⟩ := hR; exact absurd hh.1 (by simp)
    | row rw' args =>
      simp only [Oper.uponIn] at h4
      obtain ⟨v, w2, hR, _⟩ := h4.2 default [] (room_wide _)
      exact fin _ _ hR.2
    | round l' f tmps assign body =>
      simp only [Oper.uponIn] at h4
      obtain ⟨en, w2, hR, _⟩ := h4.2.2 default [] (room_wide _)
      cases en
      ·exact fin _ _ hR.2
      ·exact absurd hR.1 (by simp)
      ·obtain ⟨a0, w0, hh⟩ := hR; exact absurd hh.1 (by simp)
    | _ => simp only [Oper.uponIn] at h4
  | halt x w' => cases x <;> simp only [Oper.uponIn] at h4 <;> exact absurd h4.1 (by simp)
 ·exact fin undef w h1.2.2
def WN (P : Program) (r : Option Nat) (N : Nat) (l : List Oper) (C : World → Prop) (pur : Nat → Bool) (K : List Deferred → Env → World → Prop) (D : List Deferred) : List Nat → Env → World → Prop
 | [], e, w => C w ∧ K D e w
 | i :: rest, e, w => C w ∧ ∃ o, l[i]? = some o ∧ dstLt N o ∧
  ((pur i = true ∧ ∃ d v, o.dst = some d ∧ PV P l C o e v ∧ WN P r N l C pur K D rest (upd e d v) w) ∨
   (pur i = false ∧ WL P r N l.toArray [o] (fun D' e' w' => D' = D ∧ WN P r N l C pur K D rest e' w') D e w))
theorem WN.inC {rem : List Nat} {e : Env} {w : World} (h : WN P r N l C pur K D rem e w) : C w := by cases rem <;> exact h.1
def indepO (l : List Oper) (pur : Nat → Bool) (j i : Nat) : Bool :=
 match l[j]?, l[i]? with
 | some p, some q => (pur i || pur j) && (match p.dst, q.dst with
   | some c, some d => !(c == d) && !(Oper.looksAt l.toArray p).contains d && !(Oper.looksAt l.toArray q).contains c
   | some c, none => pur j && !(Oper.looksAt l.toArray q).contains c
   | none, some d => pur i && !(Oper.looksAt l.toArray p).contains d
   | _, _ => false)
 | _, _ => false
structure IndO (l : List Oper) (pur : Nat → Bool) (j i : Nat) (o1 o2 : Oper) : Prop where
 pur : pur i = true ∨ pur j = true
 dst : ∀ c d, o1.dst = some c → o2.dst = some d → c ≠ d
 p : ∀ d, o2.dst = some d → d ∉ Oper.looksAt l.toArray o1
 q : ∀ c, o1.dst = some c → c ∉ Oper.looksAt l.toArray o2
theorem indepO_spec {j i : Nat} {p q : Oper} (h : indepO l pur j i = true) (hj : l[j]? = some p) (hi : l[i]? = some q) : IndO l pur j i p q := by
 unfold indepO at h
 simp only [hj, hi, Bool.and_eq_true, Bool.or_eq_true] at h
 obtain ⟨h1, h2⟩ := h
 cases hc : p.dst with
 | none =>
   cases hd : q.dst with
   | none => simp [hc, hd] at h2
   | some d =>
     simp only [hc, hd, Bool.and_eq_true, Bool.not_eq_true', List.contains_eq_mem, decide_eq_false_iff_not] at h2
     exact ⟨h1, fun c d h => (by rw [hc] at h; cases h), fun x hx => (by rw [hd] at hx; cases hx; exact h2.2), fun c h => (by rw [hc] at h; cases h)⟩
 | some c =>
   cases hd : q.dst with
   | none =>
     simp only [hc, hd, Bool.and_eq_true, Bool.not_eq_true', List.contains_eq_mem, decide_eq_false_iff_not] at h2
     exact ⟨h1, fun c d _ h => (by rw [hd] at h; cases h), fun d h => (by rw [hd] at h; cases h), fun x hx => (by rw [hc] at hx; cases hx; exact h2.2)⟩
   | some d =>
     simp only [hc, hd, Bool.and_eq_true, Bool.not_eq_true', beq_eq_false_iff_ne, List.contains_eq_mem, decide_eq_false_iff_not] at h2
     exact ⟨h1, fun x y hx hy => (by rw [hc] at hx; rw [hd] at hy; cases hx; cases hy; exact h2.1.1), fun x hx => (by rw [hd] at hx; cases hx; exact h2.1.2), fun x hx => (by rw [hc] at hx; cases hx; exact h2.2)⟩
theorem updO_agree {e : Env} {o : Oper} {u : Value} {s : Nat} {X : List Nat} (hc : ∀ c, o.dst = some c → c ∉ X) (hs : s ∈ X) : updO e o.dst u s = e s := by
 cases hd : o.dst with
 | none => rfl
 | some c => exact upd_agree (hc c hd) hs
theorem updO_comm (e : Env) {p q : Oper} (u v : Value) (h : ∀ c d, p.dst = some c → q.dst = some d → c ≠ d) : updO (updO e p.dst u) q.dst v = updO (updO e q.dst v) p.dst u := by
 cases hc : p.dst with
 | none => rfl
 | some c =>
   cases hd : q.dst with
   | none => rfl
   | some d => exact upd_comm e u v (h c d hc hd)
theorem WN.first (hpl : plainOps l = true) {i : Nat} {post : List Nat} : ∀ (pre : List Nat) (e : Env) (w : World), (∀ j ∈ pre, indepO l pur j i = true) → (∀ i, N ≤ i → e i = undef) → WN P r N l C pur K D (pre ++ i :: post) e w →
 ∃ o, l[i]? = some o ∧ dstLt N o ∧
  ((pur i = true ∧ ∃ d v, o.dst = some d ∧ PV P l C o e v ∧ WN P r N l C pur K D (pre ++ post) (upd e d v) w) ∨
   (pur i = false ∧ WL P r N l.toArray [o] (fun D' e' w' => D' = D ∧ ∃ v, e' = updO e o.dst v ∧ WN P r N l C pur K D (pre ++ post) e' w') D e w)) := by
 intro pre
 induction pre with
 | nil =>
   intro e w _ hz h
   obtain ⟨hC, o, ho, hN, h⟩ := h
   refine ⟨o, ho, hN, ?_⟩
   rcases h with h | ⟨hp, h⟩
   ·exact .inl h
   ·refine .inr ⟨hp, ?_⟩
    have h2 := WLO_transfer (e := e) (e1 := e) hN (plain_at hpl ho).1 (plain_at hpl ho).2 hz (fun _ _ => rfl) h
    unfold WL at *
    exact fun a Q hs hD he hK => h2 a Q hs hD he (fun a' w' hs' ⟨v, h1, h3, h4⟩ => hK a' w' hs' ⟨h3, v, h1, by rw [h1]; exact h4⟩)
 | cons q pre ih =>
   intro e w hind hz h
   obtain ⟨hC, p, hp, hcN, h⟩ := h
   have hq := hind q (by simp)
   have hind' : ∀ j ∈ pre, indepO l pur j i = true := fun j hj => hind j (by simp [hj])
   rcases h with ⟨hpq, c, u, hc, hu, h⟩ | ⟨hpq, h⟩
   ·obtain ⟨o, ho, hN, h2⟩ := ih (upd e c u) w hind' (upd_undef (hcN c hc) hz) h
    have hI := indepO_spec hq hp ho
    refine ⟨o, ho, hN, ?_⟩
    rcases h2 with ⟨hpi, d, v, hd, hv, h2⟩ | ⟨hpi, h2⟩
    ·refine .inl ⟨hpi, d, v, hd, hv.congr (plain_at hpl ho).1 (fun s hs => upd_agree (hI.q c hc) hs), hC, p, hp, hcN, .inl ⟨hpq, c, u, hc, hu.congr (plain_at hpl hp).1 (fun s hs => (upd_agree (hI.p d hd) hs).symm), ?_⟩⟩
     rw [← upd_comm _ _ _ (hI.dst c d hc hd)]; exact h2
    ·refine .inr ⟨hpi, ?_⟩
     have h3 := WLO_transfer (e := e) (e1 := upd e c u) hN (plain_at hpl ho).1 (plain_at hpl ho).2 (upd_undef (hcN c hc) hz) (fun s hs => (upd_agree (hI.q c hc) hs).symm) h2
     unfold WL at *
     refine fun a Q hs hD he hK => h3 a Q hs hD he (fun a' w' hs' hh => hK a' w' hs' ?_)
     obtain ⟨v, h1, h4, _, h5, h6⟩ := hh
     refine ⟨h4, v, h1, ?_⟩
     rw [h1]
     refine ⟨h6.inC, p, hp, hcN, .inl ⟨hpq, c, u, hc, hu.congr (plain_at hpl hp).1 (fun s hs => (updO_agree hI.p hs).symm), ?_⟩⟩
     have e1 : updO (upd e c u) o.dst v = upd (updO e o.dst v) c u := by
      have := updO_comm e (p := p) (q := o) u v hI.dst
      rw [hc] at this; exact this
     rw [← e1]; exact h6
   ·have h0 := WLO_transfer (e := e) (e1 := e) hcN (plain_at hpl hp).1 (plain_at hpl hp).2 hz (fun _ _ => rfl) h
    obtain ⟨_, u1, w1, _, hu2, _, h1⟩ := WLO_some hcN hz h0
    rw [← hu2] at h1
    obtain ⟨o, ho, hN, h2⟩ := ih (updO e p.dst u1) w1 hind' (updO_undef hcN hz) h1
    have hI := indepO_spec hq hp ho
    have hpi : pur i = true := by
     rcases hI.pur with h | h
     ·exact h
     ·rw [hpq] at h; cases h
    rcases h2 with ⟨_, d, v0, hd, hv0, _⟩ | ⟨hpi', _⟩
    ·have hv0' : PV P l C o e v0 := hv0.congr (plain_at hpl ho).1 (fun s hs => updO_agree hI.q hs)
     refine ⟨o, ho, hN, .inl ⟨hpi, d, v0, hd, hv0', hC, p, hp, hcN, .inr ⟨hpq, ?_⟩⟩⟩
     have h3 := WLO_transfer (e := upd e d v0) (e1 := e) hcN (plain_at hpl hp).1 (plain_at hpl hp).2 hz (fun s hs => upd_agree (hI.p d hd) hs) h
     unfold WL at *
     refine fun a Q hs hD he hK => h3 a Q hs hD he (fun a' w' hs' hh => hK a' w' hs' ?_)
     obtain ⟨u, hu, hDD, h4⟩ := hh
     refine ⟨hDD, ?_⟩
     obtain ⟨o', ho', _, h5⟩ := ih (updO e p.dst u) w' hind' (updO_undef hcN hz) h4
     obtain rfl : o' = o := Option.some.inj (ho'.symm.trans ho)
     rcases h5 with ⟨_, d', v, hd', hv, h5⟩ | ⟨hpi', _⟩
     ·obtain rfl : d' = d := Option.some.inj (hd'.symm.trans hd)
      have hv' : PV P l C o' e v := hv.congr (plain_at hpl ho).1 (fun s hs => updO_agree hI.q hs)
      obtain rfl : v = v0 := PV.uniq hC hv' hv0'
      have e1 : upd (updO e p.dst u) d' v = updO (upd e d' v) p.dst u := by
       have := updO_comm e (p := p) (q := o') u v hI.dst
       rw [hd] at this; exact this
      rw [hu, ← e1]; exact h5
     ·rw [hpi] at hpi'; cases hpi'
    ·rw [hpi] at hpi'; cases hpi'
def ordOk (l : List Oper) (pur : Nat → Bool) (x y : Nat) : List Nat → List Nat → Bool
 | _, [] => true
 | acc, i :: rest => (acc.all fun j => (waits l i).contains j || indepO l pur j i || (j == x && i == y)) && ordOk l pur x y (acc ++ [i]) rest
theorem ordOk_spec {x y : Nat} : ∀ (ix acc : List Nat), ordOk l pur x y acc ix = true → ∀ (pre : List Nat) (i : Nat) (post : List Nat), ix = pre ++ i :: post → ∀ j ∈ acc ++ pre, j ∈ waits l i ∨ indepO l pur j i = true ∨ (j = x ∧ i = y)
 | [], _, _, pre, i, post, h => by simp at h
 | k :: ix, acc, h, pre, i, post, he => by
   simp only [ordOk, Bool.and_eq_true] at h
   cases pre with
   | nil =>
     simp at he
     obtain ⟨rfl, -⟩ := he
     intro j hj
     rw [List.append_nil] at hj
     have := List.all_eq_true.1 h.1 j hj
     simp only [Bool.or_eq_true, List.contains_eq_mem, decide_eq_true_eq, Bool.and_eq_true, beq_iff_eq] at this
     rcases this with (h | h) | h
     ·exact .inl h
     ·exact .inr (.inl h)
     ·exact .inr (.inr h)
   | cons q pre =>
     simp at he
     obtain ⟨rfl, he⟩ := he
     intro j hj
     exact ordOk_spec ix (acc ++ [k]) h.2 pre i post he j (by simpa using hj)
def remI (ix : List Nat) (f : Nat → Bool) : List Nat := ix.filter fun i => !f i
theorem remI_split {ix : List Nat} (hnd : ix.Nodup) (f : Nat → Bool) {i : Nat} (hi : i ∈ ix) (hf : f i = false) : ∃ pre post P Q, ix = P ++ i :: Q ∧ remI ix f = pre ++ i :: post ∧ remI ix (fun j => f j || j == i) = pre ++ post ∧ ∀ j ∈ pre, j ∈ P ∧ f j = false := by
 obtain ⟨P, Q, rfl⟩ := List.append_of_mem hi
 rw [List.nodup_append] at hnd
 obtain ⟨_, h2, h3⟩ := hnd
 rw [List.nodup_cons] at h2
 refine ⟨P.filter fun j => !f j, Q.filter fun j => !f j, P, Q, rfl, ?_, ?_, ?_⟩
 ·unfold remI; rw [List.filter_append, List.filter_cons]; simp [hf]
 ·unfold remI; rw [List.filter_append, List.filter_cons]
  simp only [beq_self_eq_true, Bool.or_true, Bool.not_true, Bool.false_eq_true, if_false]
  congr 1
  ·apply List.filter_congr; intro j hj
   have : (j == i) = false := by simp; exact fun e => h3 j hj i (by simp) e
   simp [this]
  ·apply List.filter_congr; intro j hj
   have : (j == i) = false := by simp; exact fun e => h2.1 (e ▸ hj)
   simp [this]
 ·intro j hj; rw [List.mem_filter] at hj; exact ⟨hj.1, by simpa using hj.2⟩
def nodupB : List Nat → Bool
 | [] => true
 | x :: l => !l.contains x && nodupB l
theorem nodupB_ok : ∀ {l : List Nat}, nodupB l = true → l.Nodup
 | [], _ => List.nodup_nil
 | x :: l, h => by
   simp only [nodupB, Bool.and_eq_true, Bool.not_eq_true', List.contains_eq_mem, decide_eq_false_iff_not] at h
   exact List.nodup_cons.2 ⟨h.1, nodupB_ok h.2⟩
def fullB (n : Nat) (ix : List Nat) : Bool := nodupB ix && (List.range n).all (fun i => ix.contains i) && ix.all (fun i => decide (i < n))
def twoOk (l : List Oper) (pur : Nat → Bool) (a c : Nat) (ixA ixB : List Nat) : Bool :=
 plainOps l && ((List.range l.length).all fun i => (predsAt l i).all fun j => decide (j < i)) && fullB l.length ixA && fullB l.length ixB && ordOk l pur a c [] ixA && ordOk l pur c a [] ixB &&
 ((List.range l.length).all fun i => pur i || i == a || i == c || ((waits l i).contains a && (waits l i).contains c)) && !(a == c) && !pur a && !pur c
theorem WN.step {ix : List Nat} {x y : Nat} (hpl : plainOps l = true) (hnd : ix.Nodup) (hor : ordOk l pur x y [] ix = true) {f : Nat → Bool} (hcl : ∀ i, f i = true → ∀ j ∈ predsAt l i, f j = true) {i : Nat} {o : Oper} (hi : i ∈ ix) (ho : l[i]? = some o) (hfi : f i = false)
 (hpr : ∀ j ∈ predsAt l i, f j = true) (hxy : i = y → f x = true) {e : Env} {w : World} (hz : ∀ i, N ≤ i → e i = undef) (h : WN P r N l C pur K D (remI ix f) e w) :
 dstLt N o ∧ ((pur i = true ∧ ∃ d v, o.dst = some d ∧ PV P l C o e v ∧ WN P r N l C pur K D (remI ix (fun j => f j || j == i)) (upd e d v) w) ∨
  (pur i = false ∧ WL P r N l.toArray [o] (fun D' e' w' => D' = D ∧ ∃ v, e' = updO e o.dst v ∧ WN P r N l C pur K D (remI ix (fun j => f j || j == i)) e' w') D e w)) := by
 obtain ⟨pre, _, A, B, h1, h2, h3, h4⟩ := remI_split hnd f hi hfi
 rw [h2] at h
 have hwt : ∀ j ∈ waits l i, f j = true := closure_f hcl _ _ hpr
 obtain ⟨o', ho', hN, h5⟩ := WN.first hpl pre e w (fun j hj => by
  obtain ⟨h6, h7⟩ := h4 j hj
  rcases ordOk_spec ix [] hor A i B h1 j (by simpa using h6) with h | h | ⟨h, h'⟩
  ·have := hwt j h; rw [h7] at this; cases this
  ·exact h
  ·subst h; have := hxy h'; rw [h7] at this; cases this) hz h
 obtain rfl : o' = o := Option.some.inj (ho'.symm.trans ho)
 rw [h3]
 exact ⟨hN, h5⟩
theorem W_two {id : Nat} {n t : List Deferred → Env → World → Prop} {b : Nat → List Deferred → Env → World → Prop} {e : Env} {w : World} (hm : P.follows .mixedOrders = true) (pur : Nat → Bool) (a c : Nat) (ixA ixB : List Nat)
 (hok : twoOk l pur a c ixA ixB = true) (C : World → Prop) (hA : WN P r N l C pur n D ixA e w.drew) (hB : WN P r N l C pur n D ixB e w.drew) : W P r N (.region id l.toArray true) ⟨n, b, t⟩ D e w := by
 unfold twoOk fullB at hok
 simp only [Bool.and_eq_true, Bool.not_eq_true', beq_eq_false_iff_ne] at hok
 obtain ⟨⟨⟨⟨⟨⟨⟨⟨⟨hpl, hac⟩, ⟨hndA, hfA⟩, hbA⟩, ⟨hndB, hfB⟩, hbB⟩, hoA⟩, hoB⟩, hlo⟩, hne⟩, _⟩, _⟩ := hok
 have hndA := nodupB_ok hndA
 have hndB := nodupB_ok hndB
 have inA : ∀ i, i < l.length → i ∈ ixA := fun i hi => by simpa using List.all_eq_true.1 hfA i (List.mem_range.2 hi)
 have inB : ∀ i, i < l.length → i ∈ ixB := fun i hi => by simpa using List.all_eq_true.1 hfB i (List.mem_range.2 hi)
 have hz : (∀ i, N ≤ i → e i = undef) → W P r N (.region id l.toArray true) ⟨n, b, t⟩ D e w := by
  intro hz
  refine W_any hm hac (fun f e w => (∀ i, N ≤ i → e i = undef) ∧ (∀ i, f i = true → ∀ j ∈ predsAt l i, f j = true) ∧
   ((f a = false ∧ f c = false ∧ WN P r N l C pur n D (remI ixA f) e w ∧ WN P r N l C pur n D (remI ixB f) e w) ∨ (f a = true ∧ WN P r N l C pur n D (remI ixA f) e w) ∨ (f c = true ∧ WN P r N l C pur n D (remI ixB f) e w))) ⟨hz, by simp, .inl ⟨rfl, rfl, ?_, ?_⟩⟩ ?_ ?_
  ·have : remI ixA (fun _ => false) = ixA := by unfold remI; simp
   rw [this]; exact hA
  ·have : remI ixB (fun _ => false) = ixB := by unfold remI; simp
   rw [this]; exact hB
  ·rintro f e w i o ⟨hz, hcl, hM⟩ ho hfi hpr
   have hil : i < l.length := (List.getElem?_eq_some_iff.1 ho).1
   have hcl' : ∀ k, (f k || k == i) = true → ∀ j ∈ predsAt l k, (f j || j == i) = true := by
    intro k hk j hj
    simp only [Bool.or_eq_true, beq_iff_eq] at hk ⊢
    rcases hk with hk | rfl
    ·exact .inl (hcl k hk j hj)
    ·exact .inl (hpr j hj)
   have hwt : ∀ j ∈ waits l i, f j = true := closure_f hcl _ _ hpr
   have one : ∀ (ix : List Nat) (x y : Nat) (J : (Nat → Bool) → Env → World → Prop), ix.Nodup → i ∈ ix → ordOk l pur x y [] ix = true → (i = y → f x = true) → WN P r N l C pur n D (remI ix f) e w →
    (∀ e' w', WN P r N l C pur n D (remI ix (fun j => f j || j == i)) e' w' → J (fun j => f j || j == i) e' w') →
    WL P r N l.toArray [o] (fun D' e' w' => D' = D ∧ (∀ i, N ≤ i → e' i = undef) ∧ (∀ k, (f k || k == i) = true → ∀ j ∈ predsAt l k, (f j || j == i) = true) ∧ J (fun j => f j || j == i) e' w') D e w := by
    intro ix x y J hnd hi hor hxy hw hJ
    obtain ⟨hN, h5⟩ := WN.step hpl hnd hor hcl hi ho hfi hpr hxy hz hw
    have hCw := hw.inC
    rcases h5 with ⟨hpi, d, v, hd, hv, h5⟩ | ⟨hpi, h5⟩
    ·rcases hv with ⟨hww, hv⟩ | ⟨hww, rfl⟩
     ·unfold WL; intro a Q hs hD he hK
      simp only [wpListIn]
      have hw' : Region.wanted o (yielded l.toArray a.tmps) = true := by rw [wanted_env, he]; exact hww
      simp only [hw', if_true]
      refine ⟨about_trivial _ _ _, ?_⟩
      rw [Oper.semAt_eq _ _ _ (plain_at hpl ho).2, eval_eq, he, hv w hCw, Oper.uponIn_value]
      refine hK _ _ (by rw [putO_size, hs]) ⟨by rw [putO_defers, hD], ?_⟩
      rw [hd, envOf_put v (by rw [hs]; exact hN d hd), he]
      exact ⟨upd_undef (hN d hd) hz, hcl', hJ _ _ h5⟩
     ·unfold WL; intro a Q hs hD he hK
      simp only [wpListIn]
      have hw' : Region.wanted o (yielded l.toArray a.tmps) = false := by rw [wanted_env, he]; exact hww
      simp only [hw']
      refine ⟨about_trivial _ _ _, ?_⟩
      refine hK _ _ (by rw [putO_size, hs]) ⟨by rw [putO_defers, hD], ?_⟩
      rw [hd, envOf_put undef (by rw [hs]; exact hN d hd), he]
      exact ⟨upd_undef (hN d hd) hz, hcl', hJ _ _ h5⟩
    ·unfold WL at *
     refine fun a Q hs hD he hK => h5 a Q hs hD he (fun a' w' hs' hh => hK a' w' hs' ?_)
     obtain ⟨hDD, v, hv, h6⟩ := hh
     exact ⟨hDD, by rw [hv]; exact updO_undef hN hz, hcl', hJ _ _ h6⟩
   rcases hM with ⟨hfa, hfc, hMA, hMB⟩ | ⟨hfa, hMA⟩ | ⟨hfc, hMB⟩
   ·by_cases hia : i = a
    ·exact one ixA a c (fun f e w => (f a = false ∧ f c = false ∧ WN P r N l C pur n D (remI ixA f) e w ∧ WN P r N l C pur n D (remI ixB f) e w) ∨ (f a = true ∧ WN P r N l C pur n D (remI ixA f) e w) ∨ (f c = true ∧ WN P r N l C pur n D (remI ixB f) e w)) hndA (inA i hil) hoA (fun h => absurd (hia.symm.trans h) hne) hMA (fun e' w' h => .inr (.inl ⟨by simp [hia], h⟩))
    by_cases hic : i = c
    ·exact one ixB c a (fun f e w => (f a = false ∧ f c = false ∧ WN P r N l C pur n D (remI ixA f) e w ∧ WN P r N l C pur n D (remI ixB f) e w) ∨ (f a = true ∧ WN P r N l C pur n D (remI ixA f) e w) ∨ (f c = true ∧ WN P r N l C pur n D (remI ixB f) e w)) hndB (inB i hil) hoB (fun h => absurd h hia) hMB (fun e' w' h => .inr (.inr ⟨by simp [hic], h⟩))
    have hpi : pur i = true := by
     have := List.all_eq_true.1 hlo i (List.mem_range.2 hil)
     simp only [Bool.or_eq_true, beq_iff_eq, hia, hic, or_false, Bool.and_eq_true, List.contains_eq_mem, decide_eq_true_eq] at this
     rcases this with h | h
     ·exact h
     ·have := hwt a h.1; rw [hfa] at this; cases this
    obtain ⟨hN, h5⟩ := WN.step hpl hndA hoA hcl (inA i hil) ho hfi hpr (fun h => absurd h hic) hz hMA
    obtain ⟨-, h6⟩ := WN.step hpl hndB hoB hcl (inB i hil) ho hfi hpr (fun h => absurd h hia) hz hMB
    have hCw := hMA.inC
    rcases h5 with ⟨_, d, v, hd, hv, h5⟩ | ⟨hp', _⟩
    rotate_left
    ·rw [hpi] at hp'; cases hp'
    rcases h6 with ⟨_, d', v', hd', hv', h6⟩ | ⟨hp', _⟩
    rotate_left
    ·rw [hpi] at hp'; cases hp'
    obtain rfl : d' = d := Option.some.inj (hd'.symm.trans hd)
    obtain rfl : v' = v := PV.uniq hCw hv' hv
    have hfa' : (f a || a == i) = false := by simp [hfa]; exact fun e => hia e.symm
    have hfc' : (f c || c == i) = false := by simp [hfc]; exact fun e => hic e.symm
    rcases hv with ⟨hww, hv⟩ | ⟨hww, rfl⟩
    ·unfold WL; intro a Q hs hD he hK
     simp only [wpListIn]
     have hw' : Region.wanted o (yielded l.toArray a.tmps) = true := by rw [wanted_env, he]; exact hww
     simp only [hw', if_true]
     refine ⟨about_trivial _ _ _, ?_⟩
     rw [Oper.semAt_eq _ _ _ (plain_at hpl ho).2, eval_eq, he, hv w hCw, Oper.uponIn_value]
     refine hK _ _ (by rw [putO_size, hs]) ⟨by rw [putO_defers, hD], ?_⟩
     rw [hd, envOf_put v' (by rw [hs]; exact hN d' hd), he]
     exact ⟨upd_undef (hN d' hd) hz, hcl', .inl ⟨hfa', hfc', h5, h6⟩⟩
    ·unfold WL; intro a Q hs hD he hK
     simp only [wpListIn]
     have hw' : Region.wanted o (yielded l.toArray a.tmps) = false := by rw [wanted_env, he]; exact hww
     simp only [hw']
     refine ⟨about_trivial _ _ _, ?_⟩
     refine hK _ _ (by rw [putO_size, hs]) ⟨by rw [putO_defers, hD], ?_⟩
     rw [hd, envOf_put undef (by rw [hs]; exact hN d' hd), he]
     exact ⟨upd_undef (hN d' hd) hz, hcl', .inl ⟨hfa', hfc', h5, h6⟩⟩
   ·exact one ixA a c (fun f e w => (f a = false ∧ f c = false ∧ WN P r N l C pur n D (remI ixA f) e w ∧ WN P r N l C pur n D (remI ixB f) e w) ∨ (f a = true ∧ WN P r N l C pur n D (remI ixA f) e w) ∨ (f c = true ∧ WN P r N l C pur n D (remI ixB f) e w)) hndA (inA i hil) hoA (fun _ => hfa) hMA (fun e' w' h => .inr (.inl ⟨by simp [hfa], h⟩))
   ·exact one ixB c a (fun f e w => (f a = false ∧ f c = false ∧ WN P r N l C pur n D (remI ixA f) e w ∧ WN P r N l C pur n D (remI ixB f) e w) ∨ (f a = true ∧ WN P r N l C pur n D (remI ixA f) e w) ∨ (f c = true ∧ WN P r N l C pur n D (remI ixB f) e w)) hndB (inB i hil) hoB (fun _ => hfc) hMB (fun e' w' h => .inr (.inr ⟨by simp [hfc], h⟩))
  ·rintro f e w ⟨hz, hcl, hM⟩ hall
   have rA : remI ixA f = [] := by
    unfold remI; rw [List.filter_eq_nil_iff]; intro j hj; simp [hall j (by simpa using List.all_eq_true.1 hbA j hj)]
   have rB : remI ixB f = [] := by
    unfold remI; rw [List.filter_eq_nil_iff]; intro j hj; simp [hall j (by simpa using List.all_eq_true.1 hbB j hj)]
   rw [rA, rB] at hM
   rcases hM with ⟨_, _, h, _⟩ | ⟨_, h⟩ | ⟨_, h⟩
   ·exact h.2
   ·exact h.2
   ·exact h.2
 unfold W at *
 intro a hs hd he
 refine hz (fun i hi => ?_) a hs hd he
 rw [← he]; simp only [envOf, Array.getD_eq_getD_getElem?]; rw [Array.getElem?_eq_none (by omega)]; rfl
variable {e : Env} {w : World}
theorem WN_nil (hC : C w) (h : K D e w) : WN P r N l C pur K D [] e w := ⟨hC, h⟩
theorem WN_q {i : Nat} {rest : List Nat} {o : Oper} (hC : C w) (ho : l[i]? = some o) (hp : pur i = true) (hv : valOp o.op = true) (h : QL P N l.toArray C [o] (fun e' => WN P r N l C pur K D rest e' w) e) : WN P r N l C pur K D (i :: rest) e w := by
 unfold QL at h
 obtain ⟨pa, hl, hq, hk⟩ := h
 obtain ⟨d, v, h1, h2, h3, h4⟩ := hq 0 o rfl
 obtain rfl : pa = [(d, v)] := by
  match pa, hl, h1 with
  | [x], _, h1 => simpa using h1
 refine ⟨hC, o, ho, fun d' hd' => by rw [h2] at hd'; cases hd'; exact h3, .inl ⟨hp, d, v, h2, ?_, hk⟩⟩
 rcases h4 with ⟨h5, h6⟩ | h5
 ·refine .inl ⟨h5, fun w hw => ?_⟩
  rcases h6 w hw with h7 | ⟨f, args, h7, _⟩
  ·exact h7
  ·obtain ⟨_, hv'⟩ := valOp_value hv h7; cases hv'
 ·exact .inr h5
theorem WN_o {i : Nat} {rest : List Nat} {o : Oper} (hC : C w) (ho : l[i]? = some o) (hp : pur i = false) (hN : (o.dst.all fun d => Nat.ble (d + 1) N) = true)
 (h : WL P r N l.toArray [o] (fun D' e' w' => D' = D ∧ WN P r N l C pur K D rest e' w') D e w) : WN P r N l C pur K D (i :: rest) e w :=
 ⟨hC, o, ho, fun d hd => by rw [hd] at hN; exact Nat.le_of_ble_eq_true (by simpa using hN), .inr ⟨hp, h⟩⟩
end
end Go.Fw
namespace Go.Fw
open Go.RowKit
section
variable {p : ProgD} {m : Int}
theorem run_step {run : List ChoiceD} {i : Nat} (hi : i + 1 < (runC p m run).length) {c : ConfD} (hc : (runC p m run)[i]? = some c) {x : ChoiceD} (hx : run[i]? = some x) : x ∈ choicesC p m c ∧ (runC p m run)[i + 1]? = some (doC p m c x) := by
 by_cases h : x ∈ choicesC p m c
 ·exact ⟨h, runC_yes hc hx h⟩
 ·have := runC_no hc hx h; omega
theorem Good.model {c : ConfD} (hg : Good p m c) (hm : m = 0 ∨ m = 1 ∨ m = 2) : (m = 0 ∧ noBuf c) ∨ m = 1 ∨ m = 2 := by
 rcases hm with h | h
 ·exact .inl ⟨h, hg.2 h⟩
 ·exact .inr h
end
end Go.Fw
namespace Go.Proofs.YtgnbfmifjlnigaaGreatDoor
open Go.Fw Go.RowKit
theorem bufNextIn_fn (p : ProgD) (c : ConfD) (m : Int) (x : ChoiceD) (hm : (m = 0 ∧ noBuf c) ∨ m = 1 ∨ m = 2) (hx : x ∈ choicesC p m c) (M : List Nat) (w0 : World) (cs xs : List Value) (hI : InP p M w0 cs) (hX : RdConf M w0 c xs) (hf : FitC p c) :
 Does Tryz.prog 19 #[.agg cs.toArray, .int .i64 m, .agg xs.toArray, .agg #[.int .i64 x.thread, .int .i64 x.step, .int .i64 x.cell]] w0 fun v w' => (∃ ys, v = .tuple #[.agg ys.toArray, .int .i64 0] ∧ RdConf M w' (doC p m c x) ys) ∧ Below w0.heap.size w0 w' := by
 have := bufNext_fn p c m x hm M w0 cs xs hI hX hf
 rw [nextC_in hx] at this; exact this
end Go.Proofs.YtgnbfmifjlnigaaGreatDoor
namespace Go.Fw
open Go.RowKit
section
variable {p : ProgD} {m : Int}
theorem runTo_snoc : ∀ (run : List ChoiceD) (c0 c : ConfD) (x : ChoiceD), (c0 :: runTo p m c0 run)[run.length]? = some c → x ∈ choicesC p m c → runTo p m c0 (run ++ [x]) = runTo p m c0 run ++ [doC p m c x]
 | [], c0, c, x, hc, hx => by
   simp at hc
   subst hc
   simp [runTo, hx]
 | y :: l, c0, c, x, hc, hx => by
   by_cases hy : y ∈ choicesC p m c0
   ·have e : runTo p m c0 (y :: l) = doC p m c0 y :: runTo p m (doC p m c0 y) l := by rw [runTo, if_pos hy]
    rw [e] at hc ⊢
    have hc' : (doC p m c0 y :: runTo p m (doC p m c0 y) l)[l.length]? = some c := by simpa using hc
    rw [List.cons_append, runTo, if_pos hy, runTo_snoc l _ c x hc' hx, List.cons_append]
   ·have e : runTo p m c0 (y :: l) = [] := by rw [runTo, if_neg hy]
    rw [e] at hc; simp at hc
def EndsC (p : ProgD) (m : Int) (run : List ChoiceD) (c : ConfD) : Prop := (runC p m run).length = run.length + 1 ∧ (runC p m run)[run.length]? = some c
theorem EndsC.start : EndsC p m [] (startC p) := ⟨rfl, rfl⟩
theorem EndsC.snoc {run : List ChoiceD} {c : ConfD} (h : EndsC p m run c) {x : ChoiceD} (hx : x ∈ choicesC p m c) : EndsC p m (run ++ [x]) (doC p m c x) := by
 have e : runC p m (run ++ [x]) = runC p m run ++ [doC p m c x] := by
  unfold runC; rw [runTo_snoc run _ c x h.2 hx]; rfl
 refine ⟨by rw [e]; simp [h.1], ?_⟩
 rw [e, List.length_append, List.getElem?_append_right (by have := h.1; simp; omega)]
 simp [h.1]
end
end Go.Fw
namespace Go.Proofs.YtgnbfmifjlnigaaGreatDoor
open Go.Fw Go.RowKit
theorem InP.owns {p : ProgD} {w0 w : World} {cs : List Value} {L : List Ent} (h : InP p [] w0 cs) (S : St [] w0 w L) {Gs : List Nat} (hn : ∀ g ∈ Gs, w0.heap.size ≤ g) (hl : ∀ g ∈ Gs, g < w.heap.size) : InP p Gs w cs :=
 ⟨(h.rd.more (fun g hg => .inr (hn g hg))).keep (S.keep0 _), h.ok, (h.msk.more (fun g hg => .inr (hn g hg))).keep (S.keep0 _), hl⟩
theorem row_new {w0 w : World} {L : List Ent} (S : St [] w0 w L) {i j g t t' : Nat} {G : Option Nat} {cs cs' : List Value} (hi : L[i]? = some (G, t, cs)) (hj : L[j]? = some (some g, t', cs')) : (∀ x ∈ G.toList ++ [g], w0.heap.size ≤ x) ∧ ∀ x ∈ G.toList ++ [g], x < w.heap.size := by
 refine ⟨fun x hx => ?_, fun x hx => ?_⟩ <;> rcases List.mem_append.1 hx with hx | hx
 ·exact opt_new S i hi x hx
 ·rw [List.mem_singleton.1 hx]; exact (S.new j hj).resolve_right (by simp)
 ·obtain ⟨_, _, hb⟩ := opt_blk S i hi x hx
  exact hb.lt
 ·rw [List.mem_singleton.1 hx]; exact S.lt j hj
theorem walk_fn (p : ProgD) (m : Int) (hm : m = 0 ∨ m = 1 ∨ m = 2) (picks : List Int) (w0 : World) (cs : List Value) (vp : Value) (hI : InP p [] w0 cs) (hPk : RdU8 [] w0 vp picks) :
 Does Tryz.prog 22 #[.agg cs.toArray, .int .i64 m, vp] w0 fun v w' => (∃ run, RdCh [] w' v run ∧ run.length ≤ 40 ∧ (runC p m run).length = run.length + 1) ∧ Below w0.heap.size w0 w' := by
 obtain ⟨Ac, nc, cc, Am, nm, cm, Al, nl, cl, At, nt, ct, rfl, _, _, _, _, _, _, _, _, _, _, _, _⟩ := hI.rd.open_
 obtain ⟨Ar, nr, cr, rfl⟩ := hPk.form
 obtain ⟨_, _, _⟩ := hPk.len
 have S := (St.refl w0).nilEnt 53
 refine dnR Tryz.func22 rfl Tryz.ntmps22 rfl ?_
 refine wO0 rfl ⟨⟩ (o_boxa S (by conv => lhs; whnf) rfl ?_)
 intro g3 w3 S3 X3 G3
 refine lO S3.k [.w 0] rfl ⟨⟨rfl,rfl⟩,⟨⟩⟩ (o_calln S3 has_15 rfl rfl (machStart_fn p [] _ _ (hI.keep (S3.keep0 []))) ?_)
 rintro v15 w15 ⟨_, rfl, hX⟩ S15 X15
 have KX := Keep.refl [] w15
 obtain ⟨Ua, ua, va, Ub, ub, vb, Uc, uc, vc, rfl, -⟩ := hX.open_
 refine o_alloc S15 zv_46 rfl rfl ?_
 intro g7 w7 S7 X7 G7
 have GKX7 := Nat.le_trans KX.size G7
 replace KX := KX.trans X7
 refine o_storeN (kk := 0) (vs := [_, _, _]) S7 sz_46 rfl rfl rfl rfl rfl rfl rfl ?_
 intro w1_3 S1_3 X1_3
 dsimp only [setsAt, List.set] at S1_3
 replace KX := KX.fresh X1_3 (by first | exact GKX7)
 refine lC0 rfl ⟨⟩ ?_
 refine wL (fun μi D ε w => D = [] ∧ ∃ i : Nat, ∃ c : ConfD, ∃ ys : List Value, ∃ run : List ChoiceD, ∃ G : Option Nat, ∃ cs' : List Value, ∃ v : Value, (i + μi = (picks.length)) ∧ (RowR (fun _ _ => RChoice) 3 [] w0 G cs' v run) ∧ (EndsC p m run c) ∧ (run.length = i) ∧ (i ≤ 40) ∧ (RdConf (G.toList ++ [g7]) w c ys) ∧ St [] w0 w [(some g7, 46, ys), (some g3, 36, [.slice Ac nc cc, .slice Am nm cm, .slice Al nl cl, .slice At nt ct]), (G, 53, cs')] ∧ Sl ε [(1, .int .i64 m), (2, .slice Ar nr cr), (3, .pointer (some ⟨g3, 0, none⟩)), (7, .pointer (some ⟨g7, 0, none⟩)), (8, v), (9, .int .i64 i)]) (μ := (picks.length)) ⟨rfl, 0, startC p, _, [], none, [], .slice none 0 0, by omega, RowR.nil, EndsC.start, rfl, by omega, (hX.more (fun g (hg : g ∈ [g7]) => .inr (by rw [List.mem_singleton.1 hg]; exact GKX7))).keep KX.of_nil, S1_3, rfl⟩ ?_
 rintro μi D ε w ⟨rfl, i, c, ys, run, G, cs', v, _, hrow, hen, hrl, _, hY, S, e⟩
 refine wK e ?_
 obtain ⟨Ua, ua, va, Ub, ub, vb, Uc, uc, vc, rfl, -⟩ := hY.open_
 have hg := good_run hI.ok (List.mem_of_getElem? hen.2)
 have KI := Keep.refl [] w
 refine wB0 rfl ⟨⟩ (fun h19 => ?_) fun h19 => ?_
 ·refine lB0 rfl ⟨⟩ (fun h22 => ?_) fun h22 => ?_
  ·refine lO S.k [.w 1,.w 0] rfl ⟨⟨rfl,by rfl⟩,⟨rfl,rfl⟩,⟨⟩⟩ (o_calln S has_21 rfl rfl (bufEnabledAll_fn p c m (hg.model hm) [] _ _ _ (hI.keep (S.keep0 [])) ((hY.keep KI.of_nil).less (by simp)) hg.1) ?_)
   rintro v29 w29 hE S29 X29
   replace KI := KI.trans X29
   have KE := Keep.refl [] w29
   obtain ⟨_, ne, _, rfl⟩ := hE.form
   obtain ⟨_, -, -⟩ := hE.len
   refine lB0 rfl ⟨⟩ (fun h32 => ?_) fun h32 => ?_
   ·refine lOn 5 S29.k [] rfl ⟨⟩ (o_move (by conv => lhs; whnf) rfl ?_)
    refine o_assign (by conv => lhs; whnf) rfl ?_
    refine lR0 rfl ⟨⟩ (ret_1 rfl (by conv => lhs; whnf) ?_)
    first
     | exact ⟨⟨run, RowR.rd (M := []) law_choice hrow S29 (k := 2) rfl (fun g hg => by simp) (by omega), by omega, hen.1⟩, S29.fin⟩
   obtain ⟨pk, b37, p37, _, _, hA37, _, _, hc37, hr37⟩ := RdS.get (hPk) (i) (by omega)
   obtain ⟨rfl, _, _⟩ := hr37
   refine lO (S29.k.a hc37) [.x b37 p37,.f 0 0] rfl ⟨rfl,⟨hA37,by omega⟩,⟨⟩⟩ (o_convI Tryz.underlying5 Tryz.underlying3 rfl rfl ?_)
   rw [wrap_id (by unfold i64; omega)]
   refine lO0 rfl ⟨⟩ (o_rem rfl rfl (by omega) (by omega) rfl ?_)
   obtain ⟨k, hk, _⟩ := mod_nat (a := pk) (b := (ne : Int)) (by omega)
   rw [hk]
   obtain ⟨x, b43, p43, _, hxx, hA43, _, hl43, hc43, hr43⟩ := RdS.get ((hE.keep KE)) (k) (by omega)
   obtain ⟨rfl, i143, i243, i343⟩ := id hr43
   have hxin := some_mem hxx
   refine lO (S29.k.b hc43) [.x b43 p43,.v 0] rfl ⟨⟨rfl,hl43⟩,⟨hA43,by omega⟩,⟨⟩⟩ (o_alloc S29 zv_53 rfl rfl ?_)
   intro g11 w11 S11 X11 G11
   have GKI11 := Nat.le_trans KI.size G11
   replace KI := KI.trans X11
   refine o_storeN (kk := 0) (vs := [_, _, _]) S11 sz_53 rfl rfl rfl rfl rfl rfl rfl ?_
   intro w9_12 S9_12 X9_12
   dsimp only [setsAt, List.set] at S9_12
   replace KI := KI.fresh X9_12 (by exact GKI11)
   refine lO S9_12.k [.w 2,.w 1,.w 0] rfl ⟨⟨rfl,by rfl⟩,⟨rfl,by rfl⟩,⟨rfl,rfl⟩,⟨⟩⟩ (o_calln S9_12 has_19 rfl rfl (bufNextIn_fn p c m x (hg.model hm) hxin (G.toList ++ [g7]) _ _ _ (hI.owns S9_12 (row_new S9_12 (i := 3) (j := 1) rfl rfl).1 (row_new S9_12 (i := 3) (j := 1) rfl rfl).2) (hY.keep KI.of_nil) hg.1) ?_)
   rintro v50 w50 ⟨_, rfl, hZ0⟩ S50 X50
   have KN := Keep.refl [] w50
   obtain ⟨_, _, _, _, _, _, _, _, _, rfl, -⟩ := hZ0.open_
   refine lO0 rfl ⟨⟩ (o_alloc S50 zv_46 rfl rfl ?_)
   intro g12 w12 S12 X12 G12
   have GKN12 := Nat.le_trans KN.size G12
   replace KN := KN.trans X12
   refine o_storeN (kk := 0) (vs := [_, _, _]) S12 sz_46 rfl rfl rfl rfl rfl rfl rfl ?_
   intro w10_9 S10_9 X10_9
   dsimp only [setsAt, List.set] at S10_9
   replace KN := KN.fresh X10_9 (by exact GKN12)
   refine lB0 rfl ⟨⟩ (fun h54 => by exact absurd rfl h54) (fun h54 => ?_)
   have hZ := hZ0.keep KN.of_nil
   refine lO S10_9.k [.w 0] rfl ⟨⟨rfl,by rfl⟩,⟨⟩⟩ ?_
   first | refine o_storeN (kk := 2) (vs := [_, _, _]) S10_9 sz_46 rfl rfl rfl rfl rfl rfl rfl ?_
   intro w13_1 S13_1 X13_1
   dsimp only [setsAt, List.set] at S13_1
   replace hZ := hZ.keep (X13_1.mono (by simp))
   refine lOn 3 S13_1.k [] rfl ⟨⟩ (o_move (by conv => lhs; whnf) rfl ?_)
   refine lO S13_1.k [.w 1] rfl ⟨⟨rfl,by rfl⟩,⟨⟩⟩ (o_buildSlice S13_1 slz_22 (vs := [.agg _]) (cs := [_, _, _]) (by rfl) rfl rfl rfl rfl rfl rfl ?_)
   intro g59 w59 S59 X59 G59
   replace hZ := hZ.keep (X59.of_nil)
   refine o_append1 law_choice (k := 5) (M2 := []) (e1 := x) S59 slz_22 (by decide) rfl hrow rfl rfl (S59.cells 0 rfl) (RChoice.of i143 i243 i343) (by omega) rfl ?_
   intro v60 G60 cs60 w60 S60 hrow60 X60 F60
   have hZ2 : RdConf (G60.toList ++ [g7]) w60 _ _ := RdConf.less (fun g hg => List.mem_append_right _ hg) (RdConf.keep (X60.mono (fun g hg => List.mem_append_left _ hg)) (RdConf.more (M' := G.toList ++ (G60.toList ++ [g7])) (fun g hg => by
    rcases List.mem_append.1 hg with hg | hg
    ·exact .inl (List.mem_append_left _ hg)
    ·rcases List.mem_append.1 hg with hg | hg
     ·rcases F60 g hg with h | h
      ·exact .inl (List.mem_append_left _ h)
      ·exact .inr h
     ·exact .inl (List.mem_append_right _ hg)) hZ))
   refine o_assign (by conv => lhs; whnf) rfl ?_
   refine lP0 rfl ⟨by omega,⟨⟩⟩ ⟨μi - 1, by omega, rfl, (i + 1), (doC p m c x), (_), (run ++ [x]), (_), (_), (_), (by omega), (hrow60), (hen.snoc hxin), (by simp [hrl]), (by omega), (hZ2), S60.tail.tail.tail, rfl⟩
  refine lOn 8 S.k [] rfl ⟨⟩ (o_move (by conv => lhs; whnf) rfl ?_)
  refine o_assign (by conv => lhs; whnf) rfl ?_
  refine lR0 rfl ⟨⟩ (ret_1 rfl (by conv => lhs; whnf) ?_)
  first
   | exact ⟨⟨run, RowR.rd (M := []) law_choice hrow S (k := 2) rfl (fun g hg => by simp) (by omega), by omega, hen.1⟩, S.fin⟩
 refine lOn 11 S.k [] rfl ⟨⟩ (o_move (by conv => lhs; whnf) rfl ?_)
 refine o_assign (by conv => lhs; whnf) rfl ?_
 refine lR0 rfl ⟨⟩ (ret_1 rfl (by conv => lhs; whnf) ?_)
 first
  | exact ⟨⟨run, RowR.rd (M := []) law_choice hrow S (k := 2) rfl (fun g hg => by simp) (by omega), by omega, hen.1⟩, S.fin⟩
end Go.Proofs.YtgnbfmifjlnigaaGreatDoor
namespace Go.Proofs.YtgnbfmifjlnigaaGreatDoor
open Go.Fw Go.RowKit
theorem scheduleComposition_fn (p : ProgD) (m : Int) (hm : 0 ≤ m ∧ m ≤ 255) (picks : List Int) (cut : Int) (hcut : 0 ≤ cut ∧ cut ≤ 255) (w0 : World) (cs : List Value) (vp : Value) (hP : RdProg [] w0 p cs) (hN : Named p) (hPk : RdU8 [] w0 vp picks) (hK : Masks [] w0) :
 Does Tryz.prog 7 #[.agg cs.toArray, .int .u8 m, vp, .int .u8 cut] w0 fun v w' => v = .bool true ∧ Below w0.heap.size w0 w' := by
 obtain ⟨Ac, nc, cc, Am, nm, cm, Al, nl, cl, At, nt, ct, rfl, _, _, _, _, _, _, _, _, _, _, _, _⟩ := hP.open_
 obtain ⟨_, _, _, rfl⟩ := hPk.form
 have S := St.refl w0
 refine dnR Tryz.func7 rfl Tryz.ntmps7 rfl ?_
 refine wO0 rfl ⟨⟩ (o_boxa S (by conv => lhs; whnf) rfl ?_)
 intro g4 w4 S4 X4 G4
 refine lO0 rfl ⟨⟩ (o_callr S4 has_8 rfl rfl (head_fn _ (hK.keep (S4.keep0 []))) ?_)
 intro w23 S23 X23
 refine lO S23.k [.w 0] rfl ⟨⟨rfl,rfl⟩,⟨⟩⟩ (o_calls S23 has_12 rfl rfl (small13_fn p [] _ _ (hP.keep (S23.keep0 [])) (by simp) hN) (fun h25 w25 S25 X25 => ?_) (fun w25 S25 X25 => ?_))
 ·refine lO0 rfl ⟨⟩ (o_rem rfl rfl (by omega) (by omega) rfl ?_)
  have hI : InP p [] w0 _ := ⟨hP, h25, hK, by simp⟩
  refine o_convI Tryz.underlying5 Tryz.underlying3 rfl rfl ?_
  rw [wrap_id (by unfold i64; omega)]
  obtain ⟨k3, hk3⟩ : ∃ k, k = m % 3 := ⟨_, rfl⟩
  rw [← hk3]
  have hmk : k3 = 0 ∨ k3 = 1 ∨ k3 = 2 := by omega
  refine lO S25.k [.w 0] rfl ⟨⟨rfl,rfl⟩,⟨⟩⟩ (o_calln S25 has_22 rfl rfl (walk_fn p k3 hmk picks _ _ _ (hI.keep (S25.keep0 [])) (hPk.keep (S25.keep0 []))) ?_)
  rintro v34 w34 ⟨run, hR, _, hre⟩ S34 X34
  have KR := Keep.refl [] w34
  obtain ⟨Ar, nr, cr, rfl⟩ := hR.form
  obtain ⟨_, _, -⟩ := hR.len
  obtain ⟨nn, hnn⟩ : ∃ nn, (runC p k3 run).length = nn + 1 := ⟨run.length, hre⟩
  refine lO S34.k [.w 0] rfl ⟨⟨rfl,rfl⟩,⟨⟩⟩ (o_calln S34 has_13 rfl rfl (run_fn p k3 hmk run [] _ _ _ (hI.keep (S34.keep0 [])) (hR.keep KR) (by omega)) ?_)
  rintro v39 w39 ⟨_, rfl, hL⟩ S39 X39
  replace KR := KR.trans X39
  have KL := Keep.refl [] w39
  rw [show (((runC p k3 run).length : Int) - 1) = (nn : Int) by omega]
  obtain ⟨Ax, nx, cx, rfl⟩ := hL.form
  obtain ⟨_, _, -⟩ := hL.len
  have hei := errC_iff.2 hre
  have hR2 := hR.keep KR
  refine lB0 rfl ⟨⟩ (fun h44 => by exact absurd hei h44) (fun h44 => ?_)
  refine lB0 rfl ⟨⟩ (fun h49 => by exfalso; omega) fun h49 => ?_
  refine lB0 rfl ⟨by omega,⟨⟩⟩ (fun h56 => by exfalso; omega) fun h56 => ?_
  refine lO0 rfl ⟨⟩ (o_convI Tryz.underlying5 Tryz.underlying3 rfl rfl ?_)
  rw [wrap_id (by unfold i64; omega)]
  refine lO0 rfl ⟨by omega,⟨⟩⟩ (o_rem rfl rfl (by omega) (by omega) rfl ?_)
  obtain ⟨k, hk, _⟩ := mod_nat (a := cut) (b := (nn : Int) + 1) (by omega)
  rw [hk]
  have hkl : k < (runC p k3 run).length := by omega
  have hlt := runC_take_len hkl
  refine lC0 rfl ⟨⟩ (W_mix fmx (fun i => [0, 1, 2, 3, 6, 7, 8, 9, 10, 11, 12].contains i) [0, 1, 2, 3, 4, 5, 6, 7, 8, 9, 10, 11, 12] (by kernel_rfl) (by kernel_rfl) (Cl _ _ _ _) (Cl.start S39) ?_)
  rintro wR10 ⟨SR10, XR10⟩
  replace KL := KL.trans XR10
  refine WM_q ⟨SR10, XR10⟩ rfl rfl rfl ?_
  refine q_loadN many_36 rfl (fun w1 hw => hw.1.cells 0 rfl) rfl rfl ?_
  refine QL_nil ?_
  refine WM_q ⟨SR10, XR10⟩ rfl rfl rfl ?_
  refine q_move (v := .int .i64 _) rfl rfl ?_
  refine QL_nil ?_
  refine WM_q ⟨SR10, XR10⟩ rfl rfl rfl ?_
  refine q_move (v := .slice _ _ _) rfl rfl ?_
  refine QL_nil ?_
  refine WM_q ⟨SR10, XR10⟩ rfl rfl rfl ?_
  refine q_move (v := .int .i64 _) rfl rfl ?_
  refine QL_nil ?_
  refine WM_o ⟨SR10, XR10⟩ rfl rfl rfl rfl ?_
  refine o_sliceTo (k := k) slz_22.slT rfl rfl (by omega) rfl ?_
  refine WL_nil ⟨rfl, ?_⟩
  refine WM_o ⟨SR10, XR10⟩ rfl rfl rfl rfl ?_
  refine o_calln SR10 has_13 rfl rfl (run_fn p k3 hmk (run.take k) [] _ _ _ (hI.keep (SR10.keep0 [])) (RdS.take (hR2.keep KL) k (by omega)) (by rw [List.length_take]; omega)) ?_
  rintro v69 w69 ⟨_, rfl, hL2⟩ S69 X69
  have XCw69 := XR10.trans X69
  replace KL := KL.trans X69
  have K2 := Keep.refl [] w69
  obtain ⟨_, _, _, rfl⟩ := hL2.form
  obtain ⟨_, _, -⟩ := hL2.len
  refine WL_nil ⟨rfl, ?_⟩
  refine WM_q ⟨S69, XCw69⟩ rfl rfl rfl ?_
  refine q_move (v := .tuple _) rfl rfl ?_
  refine QL_nil ?_
  refine WM_q ⟨S69, XCw69⟩ rfl rfl rfl ?_
  refine q_extract rfl rfl rfl ?_
  refine QL_nil ?_
  refine WM_q ⟨S69, XCw69⟩ rfl rfl rfl ?_
  refine q_extract rfl rfl rfl ?_
  refine QL_nil ?_
  refine WM_q ⟨S69, XCw69⟩ rfl rfl rfl ?_
  refine q_extract rfl rfl rfl ?_
  refine QL_nil ?_
  refine WM_q ⟨S69, XCw69⟩ rfl rfl rfl ?_
  refine q_assign (v := .slice _ _ _) rfl rfl ?_
  refine QL_nil ?_
  refine WM_q ⟨S69, XCw69⟩ rfl rfl rfl ?_
  refine q_assign (v := .int .i64 _) rfl rfl ?_
  refine QL_nil ?_
  refine WM_q ⟨S69, XCw69⟩ rfl rfl rfl ?_
  refine q_assign (v := .int .i64 _) rfl rfl ?_
  refine QL_nil ?_
  refine WM_nil ⟨S69, XCw69⟩ ?_
  refine fB0 rfl ⟨by omega,⟨⟩⟩ (fun h77 => by exfalso; omega) fun h77 => ?_
  refine lO0 rfl ⟨⟩ ?_
  obtain ⟨c0, _, _, _, hxa, _, _, _, hca, hra⟩ := RdS.get (RdS.keepW hL2 K2 (RConf.keep K2)) k (by omega)
  rw [runC_take hkl, List.getElem?_take, if_pos (by omega)] at hxa
  obtain ⟨Ua, ua, va, Ub, ub, vb, Uc, uc, vc, rfl, -⟩ := hra.open_
  have KA := Keep.refl [] w69
  refine o_indexAddr slz_38.slT rfl (by assumption) rfl (by omega) (by omega) rfl ?_
  refine o_loadN many_46 rfl (hca) (by rfl) rfl ?_
  refine o_alloc S69 zv_46 rfl rfl ?_
  intro g19 w19 S19 X19 G19
  have GKL19 := Nat.le_trans KL.size G19
  have GKA19 := Nat.le_trans KA.size G19
  replace KL := KL.trans X19
  replace KA := KA.trans X19
  refine o_storeN (kk := 0) (vs := [_, _, _]) S19 sz_46 rfl rfl rfl rfl rfl rfl rfl ?_
  intro w13_5 S13_5 X13_5
  dsimp only [setsAt, List.set] at S13_5
  replace KL := KL.fresh X13_5 (by exact GKL19)
  replace KA := KA.fresh X13_5 (by exact GKA19)
  refine lC0 rfl ⟨⟩ ?_
  refine wL (fun μ D ε w => D = [] ∧ ∃ i : Nat, ∃ c : ConfD, ∃ ys : List Value, (i + μ = nn) ∧ ((runC p k3 run)[i]? = some c) ∧ (RdConf [g19] w c ys) ∧ (w39.heap.size ≤ g19) ∧ (Keep [] w39 w) ∧ St [] w0 w [(some g19, 46, ys), (some g4, 36, [.slice Ac nc cc, .slice Am nm cm, .slice Al nl cl, .slice At nt ct])] ∧ Sl ε [(4, .pointer (some ⟨g4, 0, none⟩)), (9, .bool true), (10, .int .i64 k3), (11, .slice Ar nr cr), (12, .slice Ax nx cx), (14, .int .i64 nn), (19, .pointer (some ⟨g19, 0, none⟩)), (20, .int .i64 i)]) (μ := nn - k) ⟨rfl, k, c0, _, by omega, hxa, (hra.more (fun g hg => .inr (by rw [List.mem_singleton.1 hg]; exact GKA19))).keep KA.of_nil, GKL19, KL, S13_5, rfl⟩ ?_
  rintro μ D ε w ⟨rfl, i, c, ys, _, hc, hY, hg19, hKL, S, e⟩
  refine wK e ?_
  obtain ⟨Ua, ua, va, Ub, ub, vb, Uc, uc, vc, rfl, -⟩ := hY.open_
  refine wB0 rfl ⟨⟩ (fun h85 => ?_) fun h85 => ?_
  ·refine lCn 7 S.k [] rfl ⟨⟩ (wX (fun D ε w => D = [] ∧ ∃ g21 : Nat, ∃ zs : List Value, ∃ x : ChoiceD, (i < nn) ∧ ((runC p k3 run)[i + 1]? = some (doC p k3 c x)) ∧ (RdConf [g19] w (doC p k3 c x) zs) ∧ (Keep [] w39 w) ∧ St [] w0 w [(some g21, 46, zs), (some g19, 46, [.slice Ua ua va, .slice Ub ub vb, .slice Uc uc vc]), (some g4, 36, [.slice Ac nc cc, .slice Am nm cm, .slice Al nl cl, .slice At nt ct])] ∧ Sl ε [(4, .pointer (some ⟨g4, 0, none⟩)), (9, .bool true), (10, .int .i64 k3), (11, .slice Ar nr cr), (12, .slice Ax nx cx), (14, .int .i64 nn), (19, .pointer (some ⟨g19, 0, none⟩)), (20, .int .i64 i), (21, .pointer (some ⟨g21, 0, none⟩)), (22, .int .i64 0)]) ?_ ?_)
   ·obtain ⟨x, _, _, _, hxx, _, _, _, hcr, ⟨rfl, _, _, _⟩⟩ := RdS.get (hR2.keep hKL) i (by omega)
    obtain ⟨hin, hxd⟩ := run_step (by omega) hc hxx
    have hg := good_run h25 (List.mem_of_getElem? hc)
    have KB := Keep.refl [] w
    refine W_two fmx (fun i => [0, 1, 2, 3, 4, 5, 6, 8, 9, 10, 13].contains i) 11 7 [11, 0, 1, 2, 3, 4, 5, 6, 7, 8, 9, 10, 12, 13] [0, 1, 2, 3, 4, 5, 6, 7, 11, 8, 9, 10, 12, 13] (by kernel_rfl) (clOf S) ?_ ?_
    ·have SR17 := S.drew
     have XR17 : Keep [] w w.drew := keep_drew _ _
     generalize w.drew = wR17 at SR17 XR17 ⊢
     replace hKL := hKL.trans XR17
     replace KB := KB.trans XR17
     have XTR17 := XR17
     refine WN_o ⟨SR17, XTR17⟩ rfl rfl rfl ?_
     refine o_alloc SR17 zv_46 rfl rfl ?_
     intro g21 w21 S21 X21 G21
     have GhKL21 := Nat.le_trans hKL.size G21
     have GKB21 := Nat.le_trans KB.size G21
     have GXTR1721 := Nat.le_trans XTR17.size G21
     replace hKL := hKL.trans X21
     replace KB := KB.trans X21
     replace XTR17 := XTR17.trans X21
     refine WL_nil ⟨rfl, ?_⟩
     refine WN_q ⟨S21.tail, XTR17⟩ rfl rfl rfl ?_
     refine q_loadN many_36 rfl (fun w1 hw => hw.1.cells 1 rfl) rfl rfl ?_
     refine QL_nil ?_
     refine WN_q ⟨S21.tail, XTR17⟩ rfl rfl rfl ?_
     refine q_move (v := .int .i64 _) rfl rfl ?_
     refine QL_nil ?_
     refine WN_q ⟨S21.tail, XTR17⟩ rfl rfl rfl ?_
     refine q_loadN many_46 rfl (fun w1 hw => hw.1.cells 0 rfl) rfl rfl ?_
     refine QL_nil ?_
     refine WN_q ⟨S21.tail, XTR17⟩ rfl rfl rfl ?_
     refine q_move (v := .slice _ _ _) rfl rfl ?_
     refine QL_nil ?_
     refine WN_q ⟨S21.tail, XTR17⟩ rfl rfl rfl ?_
     refine q_move (v := .int .i64 _) rfl rfl ?_
     refine QL_nil ?_
     refine WN_q ⟨S21.tail, XTR17⟩ rfl rfl rfl ?_
     refine q_indexAddr slz_22.slT rfl (by assumption) rfl (by omega) (by omega) rfl ?_
     refine QL_nil ?_
     refine WN_q ⟨S21.tail, XTR17⟩ rfl rfl rfl ?_
     refine q_loadN many_53 rfl (fun w1 hw => hcr.keep hw.2 List.not_mem_nil) (by rfl) rfl ?_
     refine QL_nil ?_
     refine WN_o ⟨S21.tail, XTR17⟩ rfl rfl rfl ?_
     refine o_calln S21 has_19 rfl rfl (bufNextIn_fn p c k3 x (hg.model hmk) hin [g21, g19] _ _ _ (hI.two S21 (i := 0) (j := 1) rfl rfl) ((hY.more (fun g hg => by rcases List.mem_cons.1 hg with rfl | hg; exact .inr GKB21; exact .inl hg)).keep KB.of_nil) hg.1) ?_
     rintro v96 w96 ⟨zs, rfl, hZ⟩ S96 X96
     replace hKL := hKL.trans X96
     replace KB := KB.trans X96
     replace XTR17 := XTR17.trans X96
     obtain ⟨Za, za', zza, Zb, zb', zzb, Zc, zc', zzc, rfl, -⟩ := hZ.open_
     refine WL_nil ⟨rfl, ?_⟩
     refine WN_q ⟨S96.tail, XTR17⟩ rfl rfl rfl ?_
     refine q_move (v := .tuple _) rfl rfl ?_
     refine QL_nil ?_
     refine WN_q ⟨S96.tail, XTR17⟩ rfl rfl rfl ?_
     refine q_extract rfl rfl rfl ?_
     refine QL_nil ?_
     refine WN_q ⟨S96.tail, XTR17⟩ rfl rfl rfl ?_
     refine q_extract rfl rfl rfl ?_
     refine QL_nil ?_
     refine WN_o ⟨S96.tail, XTR17⟩ rfl rfl rfl ?_
     refine o_storeN (kk := 0) (vs := [_, _, _]) S96 sz_46 rfl rfl rfl rfl rfl rfl rfl ?_
     intro w17_12 S17_12 X17_12
     dsimp only [setsAt, List.set] at S17_12
     replace hKL := hKL.fresh X17_12 (by exact GhKL21)
     replace KB := KB.fresh X17_12 (by exact GXTR1721)
     replace XTR17 := XTR17.fresh X17_12 (by exact GXTR1721)
     replace hZ := hZ.keep (X17_12.mono (by simp))
     refine WL_nil ⟨rfl, ?_⟩
     refine WN_q ⟨S17_12.tail, XTR17⟩ rfl rfl rfl ?_
     refine q_assign (v := .int .i64 _) rfl rfl ?_
     refine QL_nil ?_
     refine WN_nil ⟨S17_12.tail, XTR17⟩ ?_
     refine fP0 rfl ⟨⟩ ⟨rfl, (g21), (_), (x), (by omega), (hxd), ((by exact hZ.less (by simp))), (hKL), S17_12, rfl⟩
    have SR17 := S.drew
    have XR17 : Keep [] w w.drew := keep_drew _ _
    generalize w.drew = wR17 at SR17 XR17 ⊢
    replace hKL := hKL.trans XR17
    replace KB := KB.trans XR17
    have XTR17 := XR17
    refine WN_q ⟨SR17, XTR17⟩ rfl rfl rfl ?_
    refine q_loadN many_36 rfl (fun w1 hw => hw.1.cells 1 rfl) rfl rfl ?_
    refine QL_nil ?_
    refine WN_q ⟨SR17, XTR17⟩ rfl rfl rfl ?_
    refine q_move (v := .int .i64 _) rfl rfl ?_
    refine QL_nil ?_
    refine WN_q ⟨SR17, XTR17⟩ rfl rfl rfl ?_
    refine q_loadN many_46 rfl (fun w1 hw => hw.1.cells 0 rfl) rfl rfl ?_
    refine QL_nil ?_
    refine WN_q ⟨SR17, XTR17⟩ rfl rfl rfl ?_
    refine q_move (v := .slice _ _ _) rfl rfl ?_
    refine QL_nil ?_
    refine WN_q ⟨SR17, XTR17⟩ rfl rfl rfl ?_
    refine q_move (v := .int .i64 _) rfl rfl ?_
    refine QL_nil ?_
    refine WN_q ⟨SR17, XTR17⟩ rfl rfl rfl ?_
    refine q_indexAddr slz_22.slT rfl (by assumption) rfl (by omega) (by omega) rfl ?_
    refine QL_nil ?_
    refine WN_q ⟨SR17, XTR17⟩ rfl rfl rfl ?_
    refine q_loadN many_53 rfl (fun w1 hw => hcr.keep hw.2 List.not_mem_nil) (by rfl) rfl ?_
    refine QL_nil ?_
    refine WN_o ⟨SR17, XTR17⟩ rfl rfl rfl ?_
    refine o_calln SR17 has_19 rfl rfl (bufNextIn_fn p c k3 x (hg.model hmk) hin [g19] _ _ _ (hI.add SR17 (k := 0) rfl) (hY.keep KB.of_nil) hg.1) ?_
    rintro v96 w96 ⟨zs, rfl, hZ⟩ S96 X96
    replace hKL := hKL.trans X96
    replace XTR17 := XTR17.trans X96
    have KC := Keep.refl [] w96
    obtain ⟨Za, za', zza, Zb, zb', zzb, Zc, zc', zzc, rfl, -⟩ := hZ.open_
    refine WL_nil ⟨rfl, ?_⟩
    refine WN_o ⟨S96, XTR17⟩ rfl rfl rfl ?_
    refine o_alloc S96 zv_46 rfl rfl ?_
    intro g21 w21 S21 X21 G21
    have GhKL21 := Nat.le_trans hKL.size G21
    have GXTR1721 := Nat.le_trans XTR17.size G21
    have GKC21 := Nat.le_trans KC.size G21
    replace hKL := hKL.trans X21
    replace XTR17 := XTR17.trans X21
    replace KC := KC.trans X21
    refine WL_nil ⟨rfl, ?_⟩
    refine WN_q ⟨S21.tail, XTR17⟩ rfl rfl rfl ?_
    refine q_move (v := .tuple _) rfl rfl ?_
    refine QL_nil ?_
    refine WN_q ⟨S21.tail, XTR17⟩ rfl rfl rfl ?_
    refine q_extract rfl rfl rfl ?_
    refine QL_nil ?_
    refine WN_q ⟨S21.tail, XTR17⟩ rfl rfl rfl ?_
    refine q_extract rfl rfl rfl ?_
    refine QL_nil ?_
    refine WN_o ⟨S21.tail, XTR17⟩ rfl rfl rfl ?_
    refine o_storeN (kk := 0) (vs := [_, _, _]) S21 sz_46 rfl rfl rfl rfl rfl rfl rfl ?_
    intro w17_12 S17_12 X17_12
    dsimp only [setsAt, List.set] at S17_12
    replace hKL := hKL.fresh X17_12 (by exact GhKL21)
    replace XTR17 := XTR17.fresh X17_12 (by exact GXTR1721)
    replace KC := KC.fresh X17_12 (by exact GKC21)
    refine WL_nil ⟨rfl, ?_⟩
    refine WN_q ⟨S17_12.tail, XTR17⟩ rfl rfl rfl ?_
    refine q_assign (v := .int .i64 _) rfl rfl ?_
    refine QL_nil ?_
    refine WN_nil ⟨S17_12.tail, XTR17⟩ ?_
    refine fP0 rfl ⟨⟩ ⟨rfl, (g21), (_), (x), (by omega), (hxd), ((by exact hZ.keep KC.of_nil)), (hKL), S17_12, rfl⟩
   rintro D ε w ⟨rfl, g21, zs, x, hin, hxd, hZ, hKL, S, e⟩
   refine wK e ?_
   obtain ⟨Za, za', zza, Zb, zb', zzb, Zc, zc', zzc, rfl, -⟩ := hZ.open_
   obtain ⟨_, _, _, _, hxb2, _, _, _, hcb, hrb⟩ := RdS.get (RdS.keepW hL hKL (RConf.keep hKL)) (i + 1) (by omega)
   obtain rfl := Option.some.inj (hxb2.symm.trans hxd)
   obtain ⟨_, _, _, _, _, _, _, _, _, rfl, -⟩ := hrb.open_
   have KY := Keep.refl [] w
   refine wC0 rfl ⟨⟩ (W_mix fmx (fun i => [0, 1, 2, 3, 4, 5, 6, 7, 8, 10, 11].contains i) [0, 1, 2, 3, 4, 5, 6, 7, 8, 9, 10, 11] (by kernel_rfl) (by kernel_rfl) (Cl _ _ _ _) (Cl.start S) ?_)
   rintro wR18 ⟨SR18, XR18⟩
   replace hKL := hKL.trans XR18
   replace KY := KY.trans XR18
   replace hZ := hZ.keep (XR18.of_nil)
   refine WM_q ⟨SR18, XR18⟩ rfl rfl rfl ?_
   refine q_move (v := .int .i64 _) rfl rfl ?_
   refine QL_nil ?_
   refine WM_q ⟨SR18, XR18⟩ rfl rfl rfl ?_
   refine q_neq rfl rfl rfl (fun h100 => ?_) fun h100 => ?_
   ·exact absurd rfl h100
   refine QL_nil ?_
   refine WM_q ⟨SR18, XR18⟩ rfl rfl rfl ?_
   refine q_move (v := .bool _) rfl rfl ?_
   refine QL_nil ?_
   refine WM_q ⟨SR18, XR18⟩ rfl rfl rfl ?_
   refine QL_on rfl rfl ?_
   refine q_loadN many_46 rfl (fun w1 hw => hw.1.cells 0 rfl) rfl rfl ?_
   refine QL_nil ?_
   refine WM_q ⟨SR18, XR18⟩ rfl rfl rfl ?_
   refine QL_on rfl rfl ?_
   refine q_move (v := .slice _ _ _) rfl rfl ?_
   refine QL_nil ?_
   refine WM_q ⟨SR18, XR18⟩ rfl rfl rfl ?_
   refine QL_on rfl rfl ?_
   refine q_move (v := .int .i64 _) rfl rfl ?_
   refine QL_nil ?_
   refine WM_q ⟨SR18, XR18⟩ rfl rfl rfl ?_
   refine QL_on rfl rfl ?_
   refine q_add rfl rfl (by unfold i64; omega) rfl ?_
   refine QL_nil ?_
   refine WM_q ⟨SR18, XR18⟩ rfl rfl rfl ?_
   refine QL_on rfl rfl ?_
   refine q_indexAddr slz_38.slT rfl (by assumption) rfl (by omega) (by omega) rfl ?_
   refine QL_nil ?_
   refine WM_q ⟨SR18, XR18⟩ rfl rfl rfl ?_
   refine QL_on rfl rfl ?_
   refine q_loadN many_46 rfl (fun w1 hw => hcb.keep hw.2 List.not_mem_nil) (by rfl) rfl ?_
   refine QL_nil ?_
   refine WM_o ⟨SR18, XR18⟩ rfl rfl rfl rfl ?_
   refine WL_on rfl rfl rfl ?_
   refine o_callr SR18 has_17 rfl rfl (does_true (same_fn _ _ [] _ _ _ (hZ.less (by simp)) (hrb.keep KY)) (decide_eq_true rfl)) ?_
   intro w108 S108 X108
   have XCw108 := XR18.trans X108
   replace hKL := hKL.trans X108
   replace hZ := hZ.keep (X108.of_nil)
   refine WL_nil ⟨rfl, ?_⟩
   refine WM_q ⟨S108, XCw108⟩ rfl rfl rfl ?_
   refine QL_on rfl rfl ?_
   refine q_not rfl rfl ?_
   refine QL_nil ?_
   refine WM_q ⟨S108, XCw108⟩ rfl rfl rfl ?_
   refine q_pick rfl (v := .bool _) rfl rfl ?_
   refine QL_nil ?_
   refine WM_nil ⟨S108, XCw108⟩ ?_
   refine fO S108.k [.w 0] rfl ⟨⟨rfl,by rfl⟩,⟨⟩⟩ ?_
   first | refine o_storeN (kk := 1) (vs := [_, _, _]) S108 sz_46 rfl rfl rfl rfl rfl rfl rfl ?_
   intro w20_1 S20_1 X20_1
   dsimp only [setsAt, List.set] at S20_1
   replace hKL := hKL.fresh X20_1 (by exact GKL19)
   replace hZ := hZ.keep (X20_1.mono (by simp))
   refine lP0 rfl ⟨by omega,⟨⟩⟩ ⟨μ - 1, by omega, rfl, (i + 1), (_), (_), (by omega), (hxd), (hZ), (hg19), (hKL), S20_1.tail, rfl⟩
  exact lT rfl ⟨⟩ rfl ⟨rfl, S.fin⟩
 exact lT rfl ⟨⟩ rfl ⟨rfl, S25.fin⟩
end Go.Proofs.YtgnbfmifjlnigaaGreatDoor
namespace Go.Proofs.YtgnbfmifjlnigaaGreatDoor
open Go.Fw Go.RowKit Go.ChangeShapes Go.WideShapes
set_option maxRecDepth 100000 in
set_option maxHeartbeats 2000000 in
theorem scheduleComposition_lifted (os : Os) (started : os.Started) (H : Type) (enc : TypeId × Value → H) :
 ReturnsInHanded {} Tryz.checked os 7 .any (fun w args => (Rows.scheduleCompositionSpec.pre enc Tryz.prog Tryz.f7 [] false w args ∧ laidMetH Tryz.prog tableLaid w) ∧ sizedMet enc Tryz.prog Tryz.f7 (OpenSpec.ofChange Rows.scheduleCompositionSpec) false w args)
  (Rows.scheduleCompositionSpec.post enc Tryz.prog Tryz.f7 false true false false) := by
 refine returnsInHanded_of_change_and (C := Tryz.checked) (X := fun w _ => laidMetH Tryz.prog tableLaid w) (fun _ _ _ hh h => h.of_heap hh) own started (by kernel_rfl) Tryz.func7
  (ChangeSpec.witness_shaped (enc := enc) (C := Tryz.checked) (os := os) (X := fun w _ => laidMetH Tryz.prog tableLaid w) false (World.doorLaid Tryz.prog 400 os)
    #[.agg #[.slice none 0 0, .slice none 0 0, .slice none 0 0, .slice none 0 0], .int .u8 0, .slice none 0 0, .int .u8 0] 8 rfl
    (World.shaped_of_RefB (by kernel_rfl) (by kernel_rfl)) (by kernel_rfl) (by kernel_rfl) (by kernel_rfl) (door_met os _)) ?_
 intro W base args ds gs before hval0 hW _ hsz hL _
 have hval : ∀ (j : Nat) t v, Tryz.f7.params[j]? = some t → args[j]? = some v → Value.okWide Tryz.prog W .any base t v := hval0
 have hW' := hW
 obtain ⟨p, _, hA0, hV, rfl, _, _⟩ := hW
 have hA : DataW.TrodAll enc Tryz.prog W 0 (fun _ => true) true Tryz.f7.params.toList args.toList ds p := hA0
 obtain ⟨rfl, rfl⟩ := trodVars_none hV
 rw [Tryz.params7] at hA hval hsz
 obtain ⟨_, _, _, _, _, _, _, _, _, _, _, _, rfl, rfl, rfl, ⟨_, t0⟩, ⟨_, t1⟩, ⟨_, t2⟩, ⟨_, t3⟩⟩ := trodAll_four hA
 obtain ⟨_, rfl, -⟩ := okWide_struct Tryz.underlying36 (hval 0 _ _ rfl rfl)
 obtain ⟨c1, rfl⟩ := okWide_int Tryz.underlying5 (hval 1 _ _ rfl rfl)
 obtain ⟨_, _, _, rfl⟩ := okWide_slice Tryz.underlying59 (hval 2 _ _ rfl rfl)
 obtain ⟨c3, rfl⟩ := okWide_int Tryz.underlying5 (hval 3 _ _ rfl rfl)
 obtain ⟨c0, h0⟩ := open_program t0 (light_of hsz (j := 0) rfl rfl)
 obtain ⟨_, e1, -, w1⟩ := DataW.trod_int Tryz.underlying5 t1
 cases e1
 have h1 := u8_wf w1
 obtain ⟨c2, h2⟩ := open_bytes t2 (light_of hsz (j := 2) rfl rfl)
 obtain ⟨_, e3, -, w3⟩ := DataW.trod_int Tryz.underlying5 t3
 cases e3
 have h3 := u8_wf w3
 refine calls_of_does (scheduleComposition_fn c0 c1 h1 c2 c3 h3 W _ _ h0.1 h0.2 h2 (masks_of_laid hL)) fun v W'' hr => ⟨v, rfl, ?_⟩
 obtain ⟨rfl, hb⟩ := hr
 exact post_true rfl (by kernel_rfl) (by
  rw [Tryz.params7]
  intro t ht
  have hall : ([36, 5, 59, 5].all fun u => Tryz.prog.readableRec u && decide (u < Tryz.prog.types.size)) = true := by kernel_rfl
  simpa using List.all_eq_true.1 hall t ht) hW' rfl rfl rfl hb
theorem scheduleComposition_holds : Rows.ScheduleCompositionSaid :=
 OpenClaim.holds_of_wide 7 Tryz.f7 rfl rfl rfl rfl rfl rfl rfl ⟨rfl, rfl, rfl, rfl, rfl⟩ rfl rfl rfl rfl rfl (by kernel_rfl) Tryz.func7 (by kernel_rfl)
  (of_decide_eq_true (by kernel_rfl)) (by unfold Func.isWrapper; (rw [if_neg (by decide +kernel)]; exact ⟨rfl, rfl⟩))
  (fun os started H enc _ => scheduleComposition_lifted os started H enc)
theorem scheduleComposition_card : Rows.ScheduleCompositionCardSaid :=
 Claim7.holds_tied_plain_at .later [] [.data, .data, .data, .data] true Rows.scheduleCompositionCard.stood.harness false
  scheduleComposition_holds (fun _ h => by cases h) (by kernel_rfl) (fun _ h => by cases h) scheduleComposition_row_tie rfl ⟨rfl, rfl⟩ (by kernel_rfl) rfl
  (fun f fn hf hfn => by
    obtain rfl : f = 7 := Option.some.inj ((show Tryz.prog.funcNamed Rows.scheduleCompositionRow.func = some 7 by kernel_rfl).symm.trans hf) |>.symm
    obtain rfl : fn = Tryz.f7 := (Option.some.inj (Tryz.func7.symm.trans hfn)).symm
    exact ⟨by kernel_rfl, fun j t ht => by
     rw [Tryz.params7] at ht
     have hm : t ∈ [36, 5, 59, 5] := by simpa using Array.mem_of_getElem? ht
     have hall : ([36, 5, 59, 5].all fun u => !Tryz.prog.wantsStandIn u) = true := by kernel_rfl
     exact (show Tryz.prog.wantsStandIn t = false by simpa using List.all_eq_true.1 hall t hm)⟩)
  (by kernel_rfl)
#print axioms scheduleComposition_card
end Go.Proofs.YtgnbfmifjlnigaaGreatDoor
