/-
  The framework: a region that draws its order, whose loud operations come in a forced order and whose quiet ones may come anywhere between: walked in the order of the text.
-/
import Derived.Test.YtinhchacppkmgaaDoorFwAny
namespace Go.Fw
open Go.RowKit

/-- Operations that yield a value and call nothing. -/
def valOp : Op → Bool
  | .move _ | .assign _ | .pick _ _ _ | .load _ _ | .binOp _ _ _ _ _ | .unOp _ _ _ | .fieldAddr _ _ _ | .field _ _ _ | .indexAddr _ _ _ | .index _ _ _ | .extract _ _ | .build _ _ => true
  | _ => false

theorem then_value {P : Program} {s : Result Value} {w' : World} {n : Next} (h : s.andThen (fun a w' => (Sem.run P (pure (Next.value a)) w')) = .ok n w') : ∃ v, n = .value v := by
  cases s with
  | ok a w1 => simp at h; exact ⟨a, h.1.symm⟩
  | halt x w1 => simp [Result.andThen] at h

theorem valOp_value {P : Program} {ρ : Operand → Value} {o : Oper} {w w' : World} {n : Next} (ho : valOp o.op = true) (h : (execOp ρ o).run P w = .ok n w') : ∃ v, n = .value v := by
  obtain ⟨d, op, t, p, af, g⟩ := o
  simp only at ho
  cases op <;> first | (cases ho; done) | skip
  all_goals simp only [execOp, Sem.run_bind] at h
  all_goals first
    | exact then_value h
    | (simp at h; exact ⟨_, h.1.symm⟩)
    | (cases hb : (Sem.run P (asBool (ρ _)) w) with
       | ok a w1 => rw [hb] at h; simp at h; exact ⟨_, h.1.symm⟩
       | halt x w1 => rw [hb] at h; simp [Result.andThen] at h)

section
variable {P : Program} {r : Option Nat} {N : Nat} {l : List Oper} {D : List Deferred} {C : World → Prop} {K : List Deferred → Env → World → Prop}

/-- In every world of C the operation yields v. -/
def PV (P : Program) (l : List Oper) (C : World → Prop) (o : Oper) (e : Env) (v : Value) : Prop :=
  (wantedE l.toArray e o = true ∧ ∀ w, C w → (execOp (ev e) o).run P w = .ok (.value v) w) ∨ (wantedE l.toArray e o = false ∧ v = undef)

theorem PV.congr {o : Oper} {e e' : Env} {v : Value} (hs : Op.isSelect o.op = false) (h : ∀ s ∈ Oper.looksAt l.toArray o, e s = e' s) (hp : PV P l C o e v) : PV P l C o e' v := by
  unfold PV at *; rw [← wantedE_congr h, ← exec_congr hs h]; exact hp

theorem PV.uniq {o : Oper} {e : Env} {v v' : Value} {w : World} (hw : C w) (h : PV P l C o e v) (h' : PV P l C o e v') : v = v' := by
  rcases h with ⟨h1, h2⟩ | ⟨h1, h2⟩ <;> rcases h' with ⟨h3, h4⟩ | ⟨h3, h4⟩
  · have := (h2 w hw).symm.trans (h4 w hw); cases this; rfl
  · rw [h1] at h3; cases h3
  · rw [h1] at h3; cases h3
  · rw [h2, h4]

/-- The operations that are left, in the order of the text. -/
def WM (P : Program) (r : Option Nat) (N : Nat) (l : List Oper) (C : World → Prop) (pur : Nat → Bool) (K : List Deferred → Env → World → Prop) (D : List Deferred) : List Nat → Env → World → Prop
  | [], e, w => C w ∧ K D e w
  | i :: rest, e, w => C w ∧ ∃ o d, l[i]? = some o ∧ o.dst = some d ∧ d < N ∧
      ((pur i = true ∧ ∃ v, PV P l C o e v ∧ WM P r N l C pur K D rest (upd e d v) w) ∨
       (pur i = false ∧ WL P r N l.toArray [o] (fun D' e' w' => D' = D ∧ WM P r N l C pur K D rest e' w') D e w))

variable {pur : Nat → Bool}

theorem WM.inC {rem : List Nat} {e : Env} {w : World} (h : WM P r N l C pur K D rem e w) : C w := by cases rem <;> exact h.1

theorem upd_comm (e : Env) {c d : Nat} (u v : Value) (h : c ≠ d) : upd (upd e c u) d v = upd (upd e d v) c u := by
  funext i
  by_cases h1 : i = c
  · subst h1; rw [upd_other _ _ h, upd_same, upd_same]
  · by_cases h2 : i = d
    · subst h2; rw [upd_same, upd_other _ _ h1, upd_same]
    · rw [upd_other _ _ h2, upd_other _ _ h1, upd_other _ _ h1, upd_other _ _ h2]

theorem act_of_env (e : Env) (N : Nat) (D : List Deferred) (hz : ∀ i, N ≤ i → e i = undef) : ∃ a : Act, a.tmps.size = N ∧ a.defers = D ∧ envOf a = e := by
  refine ⟨{ tmps := Array.ofFn (n := N) fun i => e i.1, defers := D }, by simp, rfl, ?_⟩
  funext i
  simp only [envOf, Array.getD_eq_getD_getElem?]
  by_cases hi : i < N
  · simp [hi]
  · simp [hi, hz i (by omega)]

/-- What one operation does at an environment it does at one that agrees where it looks. -/
theorem WL1_transfer {o : Oper} {d : Nat} {K1 : List Deferred → Env → World → Prop} {e e1 : Env} {w : World} (hd : o.dst = some d) (hN : d < N) (hsel : Op.isSelect o.op = false) (hdef : ∀ c, o.op ≠ .defer c) (hz : ∀ i, N ≤ i → e1 i = undef)
    (agree : ∀ s ∈ Oper.looksAt l.toArray o, e s = e1 s) (h : WL P r N l.toArray [o] K1 D e1 w) : WL P r N l.toArray [o] (fun D' e' w' => ∃ v, e' = upd e d v ∧ K1 D' (upd e1 d v) w') D e w := by
  unfold WL at *
  intro a Q hs hD he hK
  obtain ⟨a1, hs1, hD1, he1⟩ := act_of_env e1 N D hz
  have h1 := h a1 (fun ex a' w' => ex = .normal ∧ K1 a'.defers (envOf a') w') hs1 hD1 he1 (fun a' w' _ hk => ⟨rfl, hk⟩)
  have hw : Region.wanted o (yielded l.toArray a.tmps) = Region.wanted o (yielded l.toArray a1.tmps) := by rw [wanted_env, wanted_env, he, he1]; exact wantedE_congr agree
  have fin : ∀ (v : Value) (w' : World), K1 (a1.put o.dst v).defers (envOf (a1.put o.dst v)) w' → Q .normal (a.put o.dst v) w' := by
    intro v w' hk
    rw [hd] at hk ⊢
    rw [envOf_put v (by rw [hs1]; exact hN), he1] at hk
    refine hK _ _ (by simp [Act.put, hs]) ⟨v, by rw [envOf_put v (by rw [hs]; exact hN), he], ?_⟩
    have e3 : (a1.put (some d) v).defers = (a.put (some d) v).defers := by simp [Act.put, hD1, hD]
    rw [← e3]; exact hk
  simp only [wpListIn] at h1 ⊢
  rw [hw]
  split
  · rename_i hww
    simp only [hww, if_true] at h1
    refine ⟨about_trivial _ _ _, ?_⟩
    have h4 := h1.2
    have hsem : Oper.semAt (fc r).round a.eval o = Oper.semAt (fc r).round a1.eval o := by
      rw [Oper.semAt_eq _ _ _ hdef, Oper.semAt_eq _ _ _ hdef, eval_eq, eval_eq, he, he1]; exact exec_congr hsel agree
    rw [hsem]
    revert h4
    generalize (Oper.semAt (fc r).round a1.eval o).run P w = res
    intro h4
    cases res with
    | ok x w' =>
      cases x with
      | value v => simp only [Oper.uponIn] at h4 ⊢; exact fin v w' h4.2
      | skip => simp only [Oper.uponIn] at h4 ⊢; exact fin undef w' h4.2
      | defer dd =>
        simp only [Oper.uponIn] at h4 ⊢
        have hk := h4.2
        rw [hd] at hk ⊢
        have e5 : ({ a1 with defers := dd :: a1.defers } : Act).tmps.size = N := hs1
        have ee1 : envOf ({ a1 with defers := dd :: a1.defers } : Act) = e1 := he1
        have ee : envOf ({ a with defers := dd :: a.defers } : Act) = e := he
        rw [envOf_put (a := { a1 with defers := dd :: a1.defers }) undef (by rw [e5]; exact hN), ee1] at hk
        refine hK _ _ (by simp [Act.put, hs]) ⟨undef, by rw [envOf_put (a := { a with defers := dd :: a.defers }) undef (by show d < a.tmps.size; rw [hs]; exact hN), ee], ?_⟩
        have e3 : (({ a1 with defers := dd :: a1.defers } : Act).put (some d) undef).defers = (({ a with defers := dd :: a.defers } : Act).put (some d) undef).defers := by simp [Act.put, hD1, hD]
        rw [← e3]; exact hk
      | enter f args =>
        simp only [Oper.uponIn] at h4 ⊢
        exact ⟨h4.1, CallsIn.mono h4.2 (fun en w'' hh => by
          cases en
          · exact fin _ _ hh.2
          · exact absurd hh.1 (by simp)
          · obtain ⟨a0, w0, hh⟩ := hh; exact absurd hh.1 (by simp))⟩
      | row rw' args => simp only [Oper.uponIn] at h4 ⊢; exact ⟨h4.1, RowsIn.mono h4.2 (fun _ _ hh => fin _ _ hh.2)⟩
      | round l' f tmps assign body =>
        simp only [Oper.uponIn] at h4 ⊢
        exact ⟨h4.1, RoundIn.mono h4.2 (fun en w'' hh => by
          cases en
          · exact fin _ _ hh.2
          · exact absurd hh.1 (by simp)
          · obtain ⟨a0, w0, hh⟩ := hh; exact absurd hh.1 (by simp))⟩
      | _ => simp only [Oper.uponIn] at h4
    | halt x w' => cases x <;> simp only [Oper.uponIn] at h4 ⊢ <;> exact absurd h4.1 (by simp)
  · rename_i hww
    simp only [hww] at h1
    exact ⟨about_trivial _ _ _, fin undef w h1.2.2⟩

/-- There is an outcome. -/
theorem WL1_some {o : Oper} {d : Nat} {K1 : List Deferred → Env → World → Prop} {e : Env} {w : World} (hd : o.dst = some d) (hN : d < N) (hz : ∀ i, N ≤ i → e i = undef)
    (h : WL P r N l.toArray [o] K1 D e w) : ∃ D' v w', K1 D' (upd e d v) w' := by
  unfold WL at h
  obtain ⟨a1, hs1, hD1, he1⟩ := act_of_env e N D hz
  have h1 := h a1 (fun ex a' w' => ex = .normal ∧ K1 a'.defers (envOf a') w') hs1 hD1 he1 (fun a' w' _ hk => ⟨rfl, hk⟩)
  have fin : ∀ (v : Value) (w' : World), K1 (a1.put o.dst v).defers (envOf (a1.put o.dst v)) w' → ∃ D' v w', K1 D' (upd e d v) w' := by
    intro v w' hk
    rw [hd, envOf_put v (by rw [hs1]; exact hN), he1] at hk
    exact ⟨_, v, w', hk⟩
  simp only [wpListIn] at h1
  split at h1
  · have h4 := h1.2
    revert h4
    generalize (Oper.semAt (fc r).round a1.eval o).run P w = res
    intro h4
    cases res with
    | ok x w' =>
      cases x with
      | value v => simp only [Oper.uponIn] at h4; exact fin v w' h4.2
      | skip => simp only [Oper.uponIn] at h4; exact fin undef w' h4.2
      | defer dd =>
        simp only [Oper.uponIn] at h4
        have hk := h4.2
        rw [hd, envOf_put (a := { a1 with defers := dd :: a1.defers }) undef (by show d < a1.tmps.size; rw [hs1]; exact hN), show envOf ({ a1 with defers := dd :: a1.defers } : Act) = e from he1] at hk
        exact ⟨_, _, _, hk⟩
      | enter f args =>
        simp only [Oper.uponIn] at h4
        obtain ⟨en, w2, fr, hR, _⟩ := h4.2.2 [] (room_wide _)
        cases en
        · exact fin _ _ hR.2
        · exact absurd hR.1 (by simp)
        · obtain ⟨a0, w0, hh⟩ := hR; exact absurd hh.1 (by simp)
      | row rw' args =>
        simp only [Oper.uponIn] at h4
        obtain ⟨v, w2, hR, _⟩ := h4.2 default [] (room_wide _)
        exact fin _ _ hR.2
      | round l' f tmps assign body =>
        simp only [Oper.uponIn] at h4
        obtain ⟨en, w2, hR, _⟩ := h4.2.2 default [] (room_wide _)
        cases en
        · exact fin _ _ hR.2
        · exact absurd hR.1 (by simp)
        · obtain ⟨a0, w0, hh⟩ := hR; exact absurd hh.1 (by simp)
      | _ => simp only [Oper.uponIn] at h4
    | halt x w' => cases x <;> simp only [Oper.uponIn] at h4 <;> exact absurd h4.1 (by simp)
  · exact fin undef w h1.2.2

/-- Two operations that may change places. -/
def indep (l : List Oper) (pur : Nat → Bool) (j i : Nat) : Bool :=
  match l[j]?, l[i]? with
  | some p, some q => (pur i || pur j) && (match p.dst, q.dst with
    | some c, some d => !(c == d) && !(Oper.looksAt l.toArray p).contains d && !(Oper.looksAt l.toArray q).contains c
    | _, _ => false)
  | _, _ => false

def plainOps (l : List Oper) : Bool := l.all fun o => !Op.isSelect o.op && !Op.isDefer o.op

theorem plain_at (h : plainOps l = true) {i : Nat} {o : Oper} (ho : l[i]? = some o) : Op.isSelect o.op = false ∧ ∀ c, o.op ≠ .defer c := by
  have := List.all_eq_true.1 h o (List.mem_of_getElem? ho)
  simp only [Bool.and_eq_true, Bool.not_eq_true'] at this
  exact ⟨this.1, fun c hc => by rw [hc] at this; simp [Op.isDefer] at this⟩

theorem indep_spec {j i : Nat} {p q : Oper} {c d : Nat} (h : indep l pur j i = true) (hj : l[j]? = some p) (hi : l[i]? = some q) (hc : p.dst = some c) (hd : q.dst = some d) :
    (pur i = true ∨ pur j = true) ∧ c ≠ d ∧ d ∉ Oper.looksAt l.toArray p ∧ c ∉ Oper.looksAt l.toArray q := by
  unfold indep at h
  simp only [hj, hi, hc, hd, Bool.and_eq_true, Bool.or_eq_true, Bool.not_eq_true', beq_eq_false_iff_ne, List.contains_eq_mem, decide_eq_false_iff_not] at h
  exact ⟨h.1, h.2.1.1, h.2.1.2, h.2.2⟩

theorem upd_agree {e : Env} {c : Nat} {u : Value} {s : Nat} {X : List Nat} (hc : c ∉ X) (hs : s ∈ X) : upd e c u s = e s := upd_other _ _ (fun h => hc (h ▸ hs))
theorem upd_undef {e : Env} {d : Nat} {v : Value} (hN : d < N) (hz : ∀ i, N ≤ i → e i = undef) : ∀ i, N ≤ i → upd e d v i = undef := fun i hi => by rw [upd_other _ _ (by omega)]; exact hz i hi

/-- An operation that is ready is taken first. -/
theorem WM.first (hpl : plainOps l = true) {i : Nat} {post : List Nat} : ∀ (pre : List Nat) (e : Env) (w : World), (∀ j ∈ pre, indep l pur j i = true) → (∀ i, N ≤ i → e i = undef) → WM P r N l C pur K D (pre ++ i :: post) e w →
    ∃ o d, l[i]? = some o ∧ o.dst = some d ∧ d < N ∧
      ((pur i = true ∧ ∃ v, PV P l C o e v ∧ WM P r N l C pur K D (pre ++ post) (upd e d v) w) ∨
       (pur i = false ∧ WL P r N l.toArray [o] (fun D' e' w' => D' = D ∧ ∃ v, e' = upd e d v ∧ WM P r N l C pur K D (pre ++ post) e' w') D e w)) := by
  intro pre
  induction pre with
  | nil =>
    intro e w _ hz h
    obtain ⟨hC, o, d, ho, hd, hN, h⟩ := h
    refine ⟨o, d, ho, hd, hN, ?_⟩
    rcases h with h | ⟨hp, h⟩
    · exact .inl h
    · refine .inr ⟨hp, ?_⟩
      have h2 := WL1_transfer (e := e) (e1 := e) hd hN (plain_at hpl ho).1 (plain_at hpl ho).2 hz (fun _ _ => rfl) h
      unfold WL at *
      exact fun a Q hs hD he hK => h2 a Q hs hD he (fun a' w' hs' ⟨v, h1, h3, h4⟩ => hK a' w' hs' ⟨h3, v, h1, by rw [h1]; exact h4⟩)
  | cons q pre ih =>
    intro e w hind hz h
    obtain ⟨hC, p, c, hp, hc, hcN, h⟩ := h
    have hq := hind q (by simp)
    have hind' : ∀ j ∈ pre, indep l pur j i = true := fun j hj => hind j (by simp [hj])
    rcases h with ⟨hpq, u, hu, h⟩ | ⟨hpq, h⟩
    · obtain ⟨o, d, ho, hd, hN, h2⟩ := ih (upd e c u) w hind' (upd_undef hcN hz) h
      obtain ⟨_, hcd, hdp, hco⟩ := indep_spec hq hp ho hc hd
      refine ⟨o, d, ho, hd, hN, ?_⟩
      rcases h2 with ⟨hpi, v, hv, h2⟩ | ⟨hpi, h2⟩
      · refine .inl ⟨hpi, v, hv.congr (plain_at hpl ho).1 (fun s hs => upd_agree hco hs), hC, p, c, hp, hc, hcN, .inl ⟨hpq, u, hu.congr (plain_at hpl hp).1 (fun s hs => (upd_agree hdp hs).symm), ?_⟩⟩
        rw [← upd_comm _ _ _ hcd]; exact h2
      · refine .inr ⟨hpi, ?_⟩
        have h3 := WL1_transfer (e := e) (e1 := upd e c u) hd hN (plain_at hpl ho).1 (plain_at hpl ho).2 (upd_undef hcN hz) (fun s hs => (upd_agree hco hs).symm) h2
        unfold WL at *
        refine fun a Q hs hD he hK => h3 a Q hs hD he (fun a' w' hs' hh => hK a' w' hs' ?_)
        obtain ⟨v, h1, h4, v', h5, h6⟩ := hh
        have hvv : v = v' := by have := congrFun h5 d; rwa [upd_same, upd_same] at this
        subst hvv
        refine ⟨h4, v, h1, ?_⟩
        rw [h1]
        refine ⟨h6.inC, p, c, hp, hc, hcN, .inl ⟨hpq, u, hu.congr (plain_at hpl hp).1 (fun s hs => (upd_agree hdp hs).symm), ?_⟩⟩
        rw [← upd_comm _ _ _ hcd]; exact h6
    · have h0 := WL1_transfer (e := e) (e1 := e) hc hcN (plain_at hpl hp).1 (plain_at hpl hp).2 hz (fun _ _ => rfl) h
      obtain ⟨D1, u1, w1, u2, hu2, hD1, h1⟩ := WL1_some hc hcN hz h0
      rw [← hu2] at h1
      obtain ⟨o, d, ho, hd, hN, h2⟩ := ih (upd e c u1) w1 hind' (upd_undef hcN hz) h1
      obtain ⟨hor, hcd, hdp, hco⟩ := indep_spec hq hp ho hc hd
      have hpi : pur i = true := by
        rcases hor with h | h
        · exact h
        · rw [hpq] at h; cases h
      rcases h2 with ⟨_, v0, hv0, _⟩ | ⟨hpi', _⟩
      · have hv0' : PV P l C o e v0 := hv0.congr (plain_at hpl ho).1 (fun s hs => upd_agree hco hs)
        refine ⟨o, d, ho, hd, hN, .inl ⟨hpi, v0, hv0', hC, p, c, hp, hc, hcN, .inr ⟨hpq, ?_⟩⟩⟩
        have h3 := WL1_transfer (e := upd e d v0) (e1 := e) hc hcN (plain_at hpl hp).1 (plain_at hpl hp).2 hz (fun s hs => upd_agree hdp hs) h
        unfold WL at *
        refine fun a Q hs hD he hK => h3 a Q hs hD he (fun a' w' hs' hh => hK a' w' hs' ?_)
        obtain ⟨u, hu, hDD, h4⟩ := hh
        refine ⟨hDD, ?_⟩
        obtain ⟨o', d', ho', hd', _, h5⟩ := ih (upd e c u) w' hind' (upd_undef hcN hz) h4
        obtain rfl : o' = o := Option.some.inj (ho'.symm.trans ho)
        obtain rfl : d' = d := Option.some.inj (hd'.symm.trans hd)
        rcases h5 with ⟨_, v, hv, h5⟩ | ⟨hpi', _⟩
        · have hv' : PV P l C o' e v := hv.congr (plain_at hpl ho).1 (fun s hs => upd_agree hco hs)
          obtain rfl : v = v0 := PV.uniq hC hv' hv0'
          rw [hu, ← upd_comm _ _ _ hcd]; exact h5
        · rw [hpi] at hpi'; cases hpi'
      · rw [hpi] at hpi'; cases hpi'

theorem closure_f {f : Nat → Bool} (hc : ∀ i, f i = true → ∀ j ∈ predsAt l i, f j = true) : ∀ (k : Nat) (m : List Nat), (∀ i ∈ m, f i = true) → ∀ i ∈ closure l k m, f i = true := by
  intro k
  induction k with
  | zero => exact fun m h => h
  | succ k ih =>
    intro m h
    refine ih _ fun i hi => ?_
    rw [List.mem_eraseDups, List.mem_append] at hi
    rcases hi with hi | hi
    · exact h i hi
    · obtain ⟨j, hj, hij⟩ := List.mem_flatMap.1 hi
      exact hc j (h j hj) i hij

/-- The region fits. -/
def mixOk (l : List Oper) (pur : Nat → Bool) : Bool :=
  plainOps l && ((List.range l.length).all fun i => (predsAt l i).all fun j => decide (j < i)) && ((List.range l.length).all fun i => (List.range i).all fun j => (waits l i).contains j || indep l pur j i)

def remOf (l : List Oper) (f : Nat → Bool) : List Nat := (List.range l.length).filter fun i => !f i

theorem rem_split (f : Nat → Bool) {i : Nat} (hi : i < l.length) (hf : f i = false) : ∃ pre post, remOf l f = pre ++ i :: post ∧ remOf l (fun j => f j || j == i) = pre ++ post ∧ ∀ j ∈ pre, j < i ∧ f j = false := by
  have hr : List.range l.length = List.range i ++ i :: (List.range' (i + 1) (l.length - (i + 1))) := by
    have h1 : l.length = i + (l.length - i) := by omega
    have h2 : l.length - i = (l.length - (i + 1)) + 1 := by omega
    rw [List.range_eq_range', List.range_eq_range', show List.range' 0 l.length = List.range' 0 (i + ((l.length - (i + 1)) + 1)) by rw [← h2, ← h1], ← List.range'_append_1]
    simp [List.range'_succ]
  refine ⟨(List.range i).filter fun j => !f j, (List.range' (i + 1) (l.length - (i + 1))).filter fun j => !f j, ?_, ?_, ?_⟩
  · unfold remOf; rw [hr, List.filter_append, List.filter_cons]; simp [hf]
  · unfold remOf; rw [hr, List.filter_append, List.filter_cons]
    simp only [beq_self_eq_true, Bool.or_true, Bool.not_true, Bool.false_eq_true, if_false]
    congr 1
    · apply List.filter_congr; intro j hj; have := List.mem_range.1 hj; have : (j == i) = false := by simp; omega
      simp [this]
    · apply List.filter_congr; intro j hj; have := List.mem_range'.1 hj; have : (j == i) = false := by simp; omega
      simp [this]
  · intro j hj; rw [List.mem_filter] at hj; exact ⟨List.mem_range.1 hj.1, by simpa using hj.2⟩

/-- A REGION THAT DRAWS ITS ORDER, WALKED IN THE ORDER OF THE TEXT. -/
theorem W_mixD {id : Nat} {n t : List Deferred → Env → World → Prop} {b : Nat → List Deferred → Env → World → Prop} {e : Env} {w : World} (hm : P.follows .mixedOrders = true) (pur : Nat → Bool) (ix : List Nat)
    (hok : mixOk l pur = true) (hix : (List.range l.length == ix) = true) (C : World → Prop) (h : WM P r N l C pur n D ix e w.drew) : W P r N (.region id l.toArray true) ⟨n, b, t⟩ D e w := by
  obtain rfl : List.range l.length = ix := eq_of_beq hix
  unfold mixOk at hok
  simp only [Bool.and_eq_true] at hok
  obtain ⟨⟨hpl, hac⟩, hin⟩ := hok
  have hz : (∀ i, N ≤ i → e i = undef) → W P r N (.region id l.toArray true) ⟨n, b, t⟩ D e w := by
    intro hz
    refine W_any hm hac (fun f e w => (∀ i, N ≤ i → e i = undef) ∧ (∀ i, f i = true → ∀ j ∈ predsAt l i, f j = true) ∧ WM P r N l C pur n D (remOf l f) e w) ⟨hz, by simp, ?_⟩ ?_ ?_
    · have : remOf l (fun _ => false) = List.range l.length := by unfold remOf; simp
      rw [this]; exact h
    · rintro f e w i o ⟨hz, hcl, hM⟩ ho hfi hpr
      have hil : i < l.length := (List.getElem?_eq_some_iff.1 ho).1
      obtain ⟨pre, post, h1, h2, h3⟩ := rem_split (l := l) f hil hfi
      rw [h1] at hM
      have hwt : ∀ j ∈ waits l i, f j = true := closure_f hcl _ _ hpr
      obtain ⟨o', d, ho', hd, hN, h4⟩ := WM.first hpl pre e w (fun j hj => by
        have := List.all_eq_true.1 (List.all_eq_true.1 hin i (List.mem_range.2 hil)) j (List.mem_range.2 (h3 j hj).1)
        simp only [Bool.or_eq_true, List.contains_eq_mem, decide_eq_true_eq] at this
        rcases this with h | h
        · have := hwt j h; rw [(h3 j hj).2] at this; cases this
        · exact h) hz hM
      obtain rfl : o' = o := Option.some.inj (ho'.symm.trans ho)
      have hcl' : ∀ k, (f k || k == i) = true → ∀ j ∈ predsAt l k, (f j || j == i) = true := by
        intro k hk j hj
        simp only [Bool.or_eq_true, beq_iff_eq] at hk ⊢
        rcases hk with hk | rfl
        · exact .inl (hcl k hk j hj)
        · exact .inl (hpr j hj)
      rcases h4 with ⟨hpi, v, hv, h4⟩ | ⟨hpi, h4⟩
      · have hCw := hM.inC
        rcases hv with ⟨hw, hv⟩ | ⟨hw, rfl⟩
        · unfold WL; intro a Q hs hD he hK
          simp only [wpListIn]
          have hw' : Region.wanted o' (yielded l.toArray a.tmps) = true := by rw [wanted_env, he]; exact hw
          simp only [hw', if_true]
          refine ⟨about_trivial _ _ _, ?_⟩
          rw [Oper.semAt_eq _ _ _ (plain_at hpl ho).2, eval_eq, he, hv w hCw, Oper.uponIn_value]
          refine hK _ _ (by simp [Act.put, hd, hs]) ⟨by simp [Act.put, hd, hD], ?_⟩
          rw [hd, envOf_put v (by rw [hs]; exact hN), he]
          exact ⟨upd_undef hN hz, hcl', by rw [h2]; exact h4⟩
        · unfold WL; intro a Q hs hD he hK
          simp only [wpListIn]
          have hw' : Region.wanted o' (yielded l.toArray a.tmps) = false := by rw [wanted_env, he]; exact hw
          simp only [hw']
          refine ⟨about_trivial _ _ _, ?_⟩
          refine hK _ _ (by simp [Act.put, hd, hs]) ⟨by simp [Act.put, hd, hD], ?_⟩
          rw [hd, envOf_put undef (by rw [hs]; exact hN), he]
          exact ⟨upd_undef hN hz, hcl', by rw [h2]; exact h4⟩
      · unfold WL at *
        refine fun a Q hs hD he hK => h4 a Q hs hD he (fun a' w' hs' hh => hK a' w' hs' ?_)
        obtain ⟨hDD, v, hv, h5⟩ := hh
        exact ⟨hDD, by rw [hv]; exact upd_undef hN hz, hcl', by rw [h2]; exact h5⟩
    · rintro f e w ⟨hz, hcl, hM⟩ hall
      have : remOf l f = [] := by
        unfold remOf; rw [List.filter_eq_nil_iff]; intro i hi; simp [hall i (List.mem_range.1 hi)]
      rw [this] at hM
      exact hM.2
  unfold W at *
  intro a hs hd he
  refine hz (fun i hi => ?_) a hs hd he
  rw [← he]; simp only [envOf, Array.getD_eq_getD_getElem?]; rw [Array.getElem?_eq_none (by omega)]; rfl

theorem W_mix {id : Nat} {n t : List Deferred → Env → World → Prop} {b : Nat → List Deferred → Env → World → Prop} {e : Env} {w : World} (hm : P.follows .mixedOrders = true) (pur : Nat → Bool) (ix : List Nat)
    (hok : mixOk l pur = true) (hix : (List.range l.length == ix) = true) (C : World → Prop) (hC : C w.drew) (h : ∀ w1, C w1 → WM P r N l C pur n D ix e w1) : W P r N (.region id l.toArray true) ⟨n, b, t⟩ D e w :=
  W_mixD hm pur ix hok hix C (h _ hC)

/-- Rules of the walk. -/
theorem WM_nil {e : Env} {w : World} (hC : C w) (h : K D e w) : WM P r N l C pur K D [] e w := ⟨hC, h⟩
theorem WM_q {i : Nat} {rest : List Nat} {e : Env} {w : World} {o : Oper} (hC : C w) (hp : pur i = true) (ho : l[i]? = some o) (hv : valOp o.op = true) (h : QL P N l.toArray C [o] (fun e' => WM P r N l C pur K D rest e' w) e) : WM P r N l C pur K D (i :: rest) e w := by
  unfold QL at h
  obtain ⟨pa, hl, hq, hk⟩ := h
  obtain ⟨d, v, h1, h2, h3, h4⟩ := hq 0 o rfl
  obtain rfl : pa = [(d, v)] := by
    match pa, hl, h1 with
    | [x], _, h1 => simpa using h1
  refine ⟨hC, o, d, ho, h2, h3, .inl ⟨hp, v, ?_, hk⟩⟩
  rcases h4 with ⟨h5, h6⟩ | h5
  · refine .inl ⟨h5, fun w hw => ?_⟩
    rcases h6 w hw with h7 | ⟨f, args, h7, _⟩
    · exact h7
    · obtain ⟨v', hv'⟩ := valOp_value hv h7; cases hv'
  · exact .inr h5
theorem WM_o {i d : Nat} {rest : List Nat} {e : Env} {w : World} {o : Oper} (hC : C w) (hp : pur i = false) (ho : l[i]? = some o) (hd : o.dst = some d) (hN : Nat.ble (d + 1) N = true)
    (h : WL P r N l.toArray [o] (fun D' e' w' => D' = D ∧ WM P r N l C pur K D rest e' w') D e w) : WM P r N l C pur K D (i :: rest) e w :=
  ⟨hC, o, d, ho, hd, Nat.le_of_ble_eq_true hN, .inr ⟨hp, h⟩⟩
end
end Go.Fw
