/-
  The framework, third part: a region that draws its order. Its operations are parted in three: A: operations that yield one value in every world of a class C (loads, arithmetic, calls that only make memory and hand back a known value);
  B: operations that make one new block; T: a tail whose order is forced and that waits for all of A and B. One walk serves every order.
-/
import Derived.Test.YtinhchacppkmgaaDoorFwOps
namespace Go.Fw
open Go.RowKit

def preds (o : Oper) : List Nat := (o.after.toList.filter (Region.binds .any ·)).map (·.on)
def predsAt (l : List Oper) (i : Nat) : List Nat := ((l[i]?).map preds).getD []
def closure (l : List Oper) : Nat → List Nat → List Nat
  | 0, m => m
  | f + 1, m => closure l f ((m ++ m.flatMap (predsAt l)).eraseDups)

def Lst (listed : Array Bool) (i : Nat) : Prop := listed.getD i false = true

def Closed (l : List Oper) (listed : Array Bool) : Prop := ∀ i, Lst listed i → ∀ j ∈ predsAt l i, Lst listed j

theorem closure_listed {l : List Oper} {listed : Array Bool} (hc : Closed l listed) : ∀ (f : Nat) (m : List Nat), (∀ i ∈ m, Lst listed i) → ∀ i ∈ closure l f m, Lst listed i := by
  intro f
  induction f with
  | zero => exact fun m h => h
  | succ f ih =>
    intro m h
    refine ih _ fun i hi => ?_
    rw [List.mem_eraseDups, List.mem_append] at hi
    rcases hi with hi | hi
    · exact h i hi
    · obtain ⟨j, hj, hij⟩ := List.mem_flatMap.1 hi
      exact hc j (h j hj) i hij

/-- What operation i waits for, directly or not. -/
def waits (l : List Oper) (i : Nat) : List Nat := closure l l.length (predsAt l i)

theorem waits_listed {l : List Oper} {listed : Array Bool} (hc : Closed l listed) {i : Nat} (h : Lst listed i) : ∀ j ∈ waits l i, Lst listed j := closure_listed hc _ _ (hc i h)
theorem waits_ready {l : List Oper} {listed : Array Bool} (hc : Closed l listed) {i : Nat} (h : ∀ j ∈ predsAt l i, Lst listed j) : ∀ j ∈ waits l i, Lst listed j := closure_listed hc _ _ h

def dstAt (l : List Oper) (i : Nat) : Option Nat := (l[i]?).bind (·.dst)
def looksAt (l : List Oper) (i : Nat) : List Nat := ((l[i]?).map (Oper.looksAt l.toArray)).getD []
def Op.isSelect : Op → Bool
  | .select _ _ => true
  | _ => false
def Op.isDefer : Op → Bool
  | .defer _ => true
  | _ => false

def ready (l : List Oper) (listed : List Nat) : List Nat :=
  (List.range l.length).filter fun i => !listed.contains i && (predsAt l i).all (listed.contains ·)

def forced (l : List Oper) : List Nat → List Nat → Bool
  | listed, [] => ready l listed == []
  | listed, t :: ts => ready l listed == [t] && forced l (t :: listed) ts

/-- The parting fits the region. -/
def drawOk (l : List Oper) (A B T : List Nat) : Bool :=
  ((List.range l.length).all fun i => (A ++ B ++ T).contains i) && ((A ++ B ++ T).all fun i => decide (i < l.length)) && decide ((A ++ B ++ T).Pairwise (· ≠ ·)) &&
  ((A ++ B).all fun i => (dstAt l i).isSome) && decide (((A ++ B).map (dstAt l)).Pairwise (· ≠ ·)) &&
  (l.all fun o => !Op.isSelect o.op && !Op.isDefer o.op) && ((List.range l.length).all fun i => (predsAt l i).all fun j => decide (j < i)) &&
  ((List.range A.length).all fun p => (List.range A.length).all fun q =>
    let i := A.getD p 0; let j := A.getD q 0
    !((dstAt l j).any fun s => (looksAt l i).contains s) || (if q < p then (waits l i).contains j else if p < q then (waits l j).contains i else false)) &&
  (A.all fun i => B.all fun j => !((dstAt l j).any fun s => (looksAt l i).contains s)) &&
  (B.all fun i => A.all fun j => !((dstAt l j).any fun s => (looksAt l i).contains s) || (waits l i).contains j) &&
  (B.all fun i => B.all fun j => !((dstAt l j).any fun s => (looksAt l i).contains s)) &&
  (T.all fun t => (A ++ B).all fun i => (waits l t).contains i) &&
  forced l (A ++ B) T

/-! ### Environments -/

def upds (e : Env) : List (Nat × Value) → Env
  | [] => e
  | (d, v) :: r => upds (upd e d v) r

theorem upds_none : ∀ (l : List (Nat × Value)) (e : Env) (s : Nat), s ∉ l.map (·.1) → upds e l s = e s
  | [], _, _, _ => rfl
  | (d, v) :: r, e, s, h => by
    have h1 : s ≠ d := fun hh => h (by simp [hh])
    rw [upds, upds_none r _ s (fun hh => h (by simp [hh])), upd_other _ _ h1]

theorem upds_some : ∀ (l : List (Nat × Value)) (e : Env) (k d : Nat) (v : Value), (l.map (·.1)).Pairwise (· ≠ ·) → l[k]? = some (d, v) → upds e l d = v
  | [], _, _, _, _, _, h => by simp at h
  | (d', v') :: r, e, 0, d, v, hp, h => by
    simp only [List.getElem?_cons_zero, Option.some.injEq, Prod.mk.injEq] at h
    obtain ⟨rfl, rfl⟩ := h
    simp only [List.map_cons, List.pairwise_cons] at hp
    rw [upds, upds_none r _ _ (fun hm => (hp.1 _ hm) rfl), upd_same]
  | (d', v') :: r, e, k + 1, d, v, hp, h => by
    simp only [List.map_cons, List.pairwise_cons] at hp
    exact upds_some r _ k d v hp.2 (by simpa using h)

theorem upds_append : ∀ (l m : List (Nat × Value)) (e : Env), upds e (l ++ m) = upds (upds e l) m
  | [], _, _ => rfl
  | (_, _) :: r, m, e => by rw [List.cons_append, upds, upds, upds_append r m]

/-! ### Operations that yield one value in every world of a class -/

def wantedE (ops : Array Oper) (e : Env) (o : Oper) : Bool :=
  match o.guard with
  | none => true
  | some (j, want) => ((ops[j]?).bind (·.dst)).any fun s => isB want (e s)

theorem wanted_env {ops : Array Oper} {a : Act} (o : Oper) : Region.wanted o (yielded ops a.tmps) = wantedE ops (envOf a) o := by
  unfold Region.wanted wantedE
  cases hg : o.guard with
  | none => rfl
  | some jw =>
    obtain ⟨j, want⟩ := jw
    simp only [yielded, envOf, Array.getD_eq_getD_getElem?]
    cases hd : (ops[j]?).bind (·.dst) with
    | none => simp
    | some s =>
      simp only [Option.bind_some, Option.any_some]
      cases hs : a.tmps[s]? with
      | none => rfl
      | some v => cases v <;> simp [isB]

/-- In every world of C the operation yields v. -/
def Quiet (P : Program) (ops : Array Oper) (C : World → Prop) (o : Oper) (e : Env) (v : Value) : Prop :=
  (wantedE ops e o = true ∧ ∀ w, C w → (execOp (ev e) o).run P w = .ok (.value v) w ∨
      ∃ f args, (execOp (ev e) o).run P w = .ok (.enter f args) w ∧ Does P f args w (fun v' w' => v' = v ∧ C w' ∧ Keep [] w w')) ∨
  (wantedE ops e o = false ∧ v = undef)

/-- THE WALK OF THE OPERATIONS A. -/
@[irreducible] def QL (P : Program) (N : Nat) (ops : Array Oper) (C : World → Prop) (l : List Oper) (K : Env → Prop) (e : Env) : Prop :=
  ∃ pa : List (Nat × Value), pa.length = l.length ∧ (∀ p o, l[p]? = some o → ∃ d v, pa[p]? = some (d, v) ∧ o.dst = some d ∧ d < N ∧ Quiet P ops C o (upds e (pa.take p)) v) ∧ K (upds e pa)

section
variable {P : Program} {N : Nat} {ops : Array Oper} {C : World → Prop} {rest : List Oper} {K : Env → Prop} {e : Env}

theorem QL_nil (h : K e) : QL P N ops C [] K e := by
  unfold QL; exact ⟨[], rfl, by simp, h⟩

theorem QL_step {o : Oper} {d : Nat} {v : Value} (hd : o.dst = some d) (hN : Nat.ble (d + 1) N = true) (hq : Quiet P ops C o e v) (h : QL P N ops C rest K (upd e d v)) : QL P N ops C (o :: rest) K e := by
  unfold QL at *
  obtain ⟨pa, hl, hp, hK⟩ := h
  refine ⟨(d, v) :: pa, by simp [hl], ?_, hK⟩
  intro p o' hp'
  cases p with
  | zero =>
    simp only [List.getElem?_cons_zero, Option.some.injEq] at hp'
    subst hp'
    exact ⟨d, v, rfl, hd, Nat.le_of_ble_eq_true hN, hq⟩
  | succ p =>
    simp only [List.getElem?_cons_succ] at hp'
    obtain ⟨d', v', h1, h2, h3, h4⟩ := hp p o' hp'
    exact ⟨d', v', by simpa using h1, h2, h3, by simpa [upds] using h4⟩

theorem QL_val {o : Oper} {d : Nat} {v : Value} (hg : o.guard = none) (hd : o.dst = some d) (hN : Nat.ble (d + 1) N = true) (hrun : ∀ w, C w → (execOp (ev e) o).run P w = .ok (.value v) w)
    (h : QL P N ops C rest K (upd e d v)) : QL P N ops C (o :: rest) K e :=
  QL_step hd hN (.inl ⟨by simp [wantedE, hg], fun w hw => .inl (hrun w hw)⟩) h

theorem QL_call {o : Oper} {d : Nat} {v : Value} {f : FuncId} {args : Array Value} (hg : o.guard = none) (hd : o.dst = some d) (hN : Nat.ble (d + 1) N = true)
    (hrun : ∀ w, (execOp (ev e) o).run P w = .ok (.enter f args) w) (hc : ∀ w, C w → Does P f args w (fun v' w' => v' = v ∧ C w' ∧ Keep [] w w')) (h : QL P N ops C rest K (upd e d v)) : QL P N ops C (o :: rest) K e :=
  QL_step hd hN (.inl ⟨by simp [wantedE, hg], fun w hw => .inr ⟨f, args, hrun w, hc w hw⟩⟩) h

theorem QL_on {d : Option Nat} {op : Op} {t : TypeId} {p : String} {af : Array Edge} {j s : Nat} {want : Bool} (hs : (ops[j]?).bind (·.dst) = some s) (hb : isB want (e s) = true)
    (h : QL P N ops C (⟨d, op, t, p, af, none⟩ :: rest) K e) : QL P N ops C (⟨d, op, t, p, af, some (j, want)⟩ :: rest) K e := by
  unfold QL at *
  obtain ⟨pa, hl, hp, hK⟩ := h
  refine ⟨pa, hl, fun q o hq => ?_, hK⟩
  cases q with
  | zero =>
    simp only [List.getElem?_cons_zero, Option.some.injEq] at hq
    subst hq
    obtain ⟨d', v', h1, h2, h3, h4⟩ := hp 0 _ rfl
    refine ⟨d', v', h1, h2, h3, .inl ⟨by simp [wantedE, hs, upds, hb], fun w hw => ?_⟩⟩
    rcases h4 with ⟨_, h4⟩ | ⟨h4, _⟩
    · exact h4 w hw
    · simp [wantedE] at h4
  | succ q => exact hp (q + 1) o hq

theorem QL_off {d : Nat} {op : Op} {t : TypeId} {p : String} {af : Array Edge} {j s : Nat} {want : Bool} (hs : (ops[j]?).bind (·.dst) = some s) (hb : isB want (e s) = false) (hN : Nat.ble (d + 1) N = true)
    (h : QL P N ops C rest K (upd e d undef)) : QL P N ops C (⟨some d, op, t, p, af, some (j, want)⟩ :: rest) K e :=
  QL_step rfl hN (.inr ⟨by simp [wantedE, hs, hb], rfl⟩) h
end

/-! ### The theorem -/

/-- What an operation of B does: nothing (its guard says no), or it yields a value of which φ holds. -/
abbrev BSpec := Option (Value → World → Prop)

def Stable (φ : Value → World → Prop) : Prop := ∀ v w w', φ v w → Keep [] w w' → φ v w'

/-- The block that a value of the kinds that operations of B make lies in. -/
def blkOf : Value → Option Nat
  | .slice (some a) _ _ => some a.block
  | .pointer (some a) => some a.block
  | _ => none

/-- The operation makes a block of its own. -/
def BNew (P : Program) (C : World → Prop) (o : Oper) (e : Env) (φ : Value → World → Prop) : Prop :=
  (∀ v w g, φ v w → blkOf v = some g → g < w.heap.size) ∧
    ∀ w, C w → ∃ v w', (execOp (ev e) o).run P w = .ok (.value v) w' ∧ C w' ∧ Keep [] w w' ∧ φ v w' ∧ ∀ g, blkOf v = some g → w.heap.size ≤ g

def BOk (P : Program) (ops : Array Oper) (C : World → Prop) (o : Oper) (e : Env) : BSpec → Prop
  | none => wantedE ops e o = false
  | some φ => wantedE ops e o = true ∧ Stable φ ∧ (BNew P C o e φ ∨ ∀ w, C w → (∃ v w', (execOp (ev e) o).run P w = .ok (.value v) w' ∧ C w' ∧ Keep [] w w' ∧ φ v w') ∨
      ∃ f args, (execOp (ev e) o).run P w = .ok (.enter f args) w ∧ Does P f args w (fun v w' => C w' ∧ Keep [] w w' ∧ φ v w'))

def BHas (w : World) (s : BSpec) (v : Value) : Prop := match s with
  | none => v = undef
  | some φ => φ v w

/-- The q-th operation of B makes a block of its own. -/
def Nw (P : Program) (l : List Oper) (C : World → Prop) (B : List Nat) (sp : List BSpec) (e : Env) (q : Nat) : Prop :=
  ∃ φ b o, sp[q]? = some (some φ) ∧ B[q]? = some b ∧ l[b]? = some o ∧ BNew P C o e φ

/-- What is asked behind A: of each operation of B what it does, and the tail. -/
def BK (P : Program) (r : Option Nat) (N : Nat) (l : List Oper) (C : World → Prop) (B T : List Nat) (k : List Deferred → Env → World → Prop) (D : List Deferred) (e : Env) : Prop :=
  ∃ sp : List BSpec, sp.length = B.length ∧ (∀ (q b : Nat) (o : Oper) (s : BSpec), B[q]? = some b → l[b]? = some o → sp[q]? = some s → BOk P l.toArray C o e s) ∧
    ∀ (w : World) (V : Nat → Value), C w → (∀ (q : Nat) (s : BSpec), sp[q]? = some s → BHas w s (V q)) →
      (∀ q q' g, q ≠ q' → Nw P l C B sp e q → Nw P l C B sp e q' → blkOf (V q) = some g → blkOf (V q') = some g → False) →
      WL P r N l.toArray (T.filterMap (l[·]?)) k D (upds e ((List.range B.length).map fun q => ((dstAt l (B.getD q 0)).getD 0, V q))) w

section
variable {P : Program} {r : Option Nat} {N : Nat} {l : List Oper} {Q : Exit → Act → World → Prop}

theorem predsAt_lt (h : ((List.range l.length).all fun i => (predsAt l i).all fun j => decide (j < i)) = true) {i j : Nat} (hj : j ∈ predsAt l i) : j < i := by
  have hi : i < l.length := by
    rcases Nat.lt_or_ge i l.length with h' | h'
    · exact h'
    · simp [predsAt, List.getElem?_eq_none h'] at hj
  simpa using List.all_eq_true.1 (List.all_eq_true.1 h i (List.mem_range.2 hi)) j hj

theorem ready_iff {listed : Array Bool} {i : Nat} (hsz : listed.size = l.length) : i ∈ Region.ready .any l.toArray listed ↔ (i < l.length ∧ ¬ Lst listed i ∧ ∀ j ∈ predsAt l i, Lst listed j) := by
  rw [mem_ready]
  constructor
  · rintro ⟨h1, o, ho, h2⟩
    have ho' : l[i]? = some o := by simpa using ho
    have hi : i < l.length := (List.getElem?_eq_some_iff.1 ho').1
    refine ⟨hi, ?_, fun j hj => ?_⟩
    · unfold Lst
      have : i < listed.size := by omega
      simp [this] at h1 ⊢
      exact h1
    · simp only [predsAt, ho', Option.map_some, Option.getD_some, preds, List.mem_map, List.mem_filter] at hj
      obtain ⟨ed, ⟨he, hb⟩, rfl⟩ := hj
      exact h2 ed (by simpa using he) hb
  · rintro ⟨hi, h1, h2⟩
    refine ⟨?_, l[i], by simp [hi], fun ed he hb => h2 _ ?_⟩
    · unfold Lst at h1
      have : i < listed.size := by omega
      simp [this] at h1 ⊢
      exact h1
    · simp only [predsAt, List.getElem?_eq_getElem hi, Option.map_some, Option.getD_some, preds, List.mem_map, List.mem_filter]
      exact ⟨ed, ⟨by simpa using he, hb⟩, rfl⟩

theorem Lst_set {listed : Array Bool} {i j : Nat} (hi : i < listed.size) : Lst (listed.setIfInBounds i true) j ↔ j = i ∨ Lst listed j := by
  unfold Lst
  by_cases h : i = j
  · subst h; simp [hi]
  · have h' : j ≠ i := fun e => h e.symm
    simp [Array.getElem?_setIfInBounds_ne h, h']

/-- The tail, whose order is forced. -/
theorem tail_any : ∀ (T done : List Nat) (listed : Array Bool) (fuel : Nat) (a : Act) (w : World), forced l done T = true → listed.size = l.length → (∀ i, Lst listed i ↔ i ∈ done) → T.length ≤ fuel →
    wpListIn (fc r) 0 P l.toArray Q (T.filterMap (l[·]?)) a w → wpAnyIn (fc r) 0 P .any l.toArray Q fuel listed a w := by
  have rdy : ∀ (done : List Nat) (listed : Array Bool), listed.size = l.length → (∀ i, Lst listed i ↔ i ∈ done) → ∀ i, i ∈ Region.ready .any l.toArray listed ↔ i ∈ ready l done := by
    intro done listed hsz hd i
    rw [ready_iff hsz]
    unfold ready
    simp only [List.mem_filter, List.mem_range, Bool.and_eq_true, Bool.not_eq_true', List.all_eq_true, List.contains_eq_mem, decide_eq_true_eq, decide_eq_false_iff_not, hd]
  intro T
  induction T with
  | nil =>
    intro done listed fuel a w hf hsz hd _ h
    simp only [forced, beq_iff_eq] at hf
    have h0 : Region.ready .any l.toArray listed = [] := by
      apply List.eq_nil_iff_forall_not_mem.2
      intro i hi
      rw [rdy done listed hsz hd, hf] at hi
      cases hi
    cases fuel with
    | zero => exact ⟨h0, h⟩
    | succ f => exact ⟨fun _ => h, fun i hi => by rw [h0] at hi; cases hi⟩
  | cons t ts ih =>
    intro done listed fuel a w hf hsz hd hfu h
    simp only [forced, Bool.and_eq_true, beq_iff_eq] at hf
    obtain ⟨hr, hf⟩ := hf
    cases fuel with
    | zero => simp at hfu
    | succ f =>
      have ht : t ∈ Region.ready .any l.toArray listed := by rw [rdy done listed hsz hd, hr]; simp
      have htl : t < l.length := ((ready_iff hsz).1 ht).1
      refine ⟨fun h0 => (by rw [h0] at ht; cases ht), fun i hi => ?_⟩
      have hi' : i = t := by rw [rdy done listed hsz hd, hr] at hi; simpa using hi
      subst hi'
      have hget : l[i]? = some l[i] := List.getElem?_eq_getElem htl
      simp only [List.filterMap_cons, hget] at h
      unfold wpOpIn
      have : (l.toArray)[i]? = some l[i] := by simp [htl]
      simp only [this]
      simp only [wpListIn] at h
      have step : ∀ a w, wpListIn (fc r) 0 P l.toArray Q (ts.filterMap (l[·]?)) a w → wpAnyIn (fc r) 0 P .any l.toArray Q f (listed.setIfInBounds i true) a w := fun a w h =>
        ih (i :: done) _ f a w hf (by simp [hsz]) (fun j => by rw [Lst_set (by omega), hd]; simp) (by simpa using hfu) h
      split
      · rename_i hw; simp only [hw, if_true] at h; exact Oper.wpIn_mono step h
      · rename_i hw; simp only [hw] at h; exact ⟨h.1, step _ _ h.2⟩

/-- What 'drawOk' says. -/
structure DrawOk (l : List Oper) (A B T : List Nat) : Prop where
  bound : ∀ i ∈ A ++ B ++ T, i < l.length
  nodup : (A ++ B ++ T).Pairwise (· ≠ ·)
  all_ : ∀ i, i < l.length → i ∈ A ++ B ++ T
  some_ : ∀ i ∈ A ++ B, (dstAt l i).isSome = true
  dst : ((A ++ B).map (dstAt l)).Pairwise (· ≠ ·)
  plain : ∀ o ∈ l, Op.isSelect o.op = false ∧ Op.isDefer o.op = false
  back : ((List.range l.length).all fun i => (predsAt l i).all fun j => decide (j < i)) = true
  AA : ∀ (p q i j s : Nat), A[p]? = some i → A[q]? = some j → dstAt l j = some s → s ∈ looksAt l i → (q < p ∧ j ∈ waits l i) ∨ (p < q ∧ i ∈ waits l j)
  AB : ∀ i ∈ A, ∀ j ∈ B, ∀ s, dstAt l j = some s → s ∉ looksAt l i
  BA : ∀ i ∈ B, ∀ j ∈ A, ∀ s, dstAt l j = some s → s ∈ looksAt l i → j ∈ waits l i
  BB : ∀ i ∈ B, ∀ j ∈ B, ∀ s, dstAt l j = some s → s ∉ looksAt l i
  TT : ∀ t ∈ T, ∀ i ∈ A ++ B, i ∈ waits l t
  force : forced l (A ++ B) T = true

theorem drawOk_spec {A B T : List Nat} (h : drawOk l A B T = true) : DrawOk l A B T := by
  unfold drawOk at h
  simp only [Bool.and_eq_true] at h
  obtain ⟨⟨⟨⟨⟨⟨⟨⟨⟨⟨⟨⟨h1, h2⟩, h3⟩, h4⟩, h5⟩, h6⟩, h7⟩, h8⟩, h9⟩, h10⟩, h11⟩, h12⟩, h13⟩ := h
  refine ⟨fun i hi => ?_, of_decide_eq_true h3, fun i hi => by simpa using List.all_eq_true.1 h1 i (List.mem_range.2 hi), fun i hi => List.all_eq_true.1 h4 i hi, of_decide_eq_true h5, fun o ho => ?_, h7, ?_, ?_, ?_, ?_, fun t ht i hi => ?_, h13⟩
  · simpa using List.all_eq_true.1 h2 i hi
  · have := List.all_eq_true.1 h6 o ho
    simp only [Bool.and_eq_true, Bool.not_eq_true'] at this
    exact this
  · intro p q i j s hp hq hd hs
    have hpl : p < A.length := (List.getElem?_eq_some_iff.1 hp).1
    have hql : q < A.length := (List.getElem?_eq_some_iff.1 hq).1
    have := List.all_eq_true.1 (List.all_eq_true.1 h8 p (List.mem_range.2 hpl)) q (List.mem_range.2 hql)
    simp only [List.getD_eq_getElem?_getD, hp, hq, Option.getD_some, hd, Option.any_some, Bool.or_eq_true, Bool.not_eq_true', List.contains_eq_mem, decide_eq_false_iff_not] at this
    rcases this with h | h
    · exact absurd hs h
    · split at h
      · rename_i hlt; exact .inl ⟨hlt, by simpa using h⟩
      · split at h
        · rename_i hlt; exact .inr ⟨hlt, by simpa using h⟩
        · cases h
  · intro i hi j hj s hd hs
    have := List.all_eq_true.1 (List.all_eq_true.1 h9 i hi) j hj
    simp [hd, hs] at this
  · intro i hi j hj s hd hs
    have := List.all_eq_true.1 (List.all_eq_true.1 h10 i hi) j hj
    simpa [hd, hs] using this
  · intro i hi j hj s hd hs
    have := List.all_eq_true.1 (List.all_eq_true.1 h11 i hi) j hj
    simp [hd, hs] at this
  · have := List.all_eq_true.1 (List.all_eq_true.1 h12 t ht) i hi
    simpa using this

theorem ev_congr {e e' : Env} {o : Oper} (h : ∀ s ∈ Oper.looksAt l.toArray o, e s = e' s) : ∀ x ∈ o.op.operands, ev e x = ev e' x := by
  intro x hx
  cases x with
  | tmp t =>
    refine h t (List.mem_append_left _ (List.mem_filterMap.2 ⟨.tmp t, by simpa using hx, rfl⟩))
  | _ => rfl

theorem wantedE_congr {e e' : Env} {o : Oper} (h : ∀ s ∈ Oper.looksAt l.toArray o, e s = e' s) : wantedE l.toArray e o = wantedE l.toArray e' o := by
  unfold wantedE
  cases hg : o.guard with
  | none => rfl
  | some jw =>
    obtain ⟨j, want⟩ := jw
    show Option.any (fun s => isB want (e s)) _ = Option.any (fun s => isB want (e' s)) _
    cases hd : (l.toArray[j]?).bind (·.dst) with
    | none => simp only [Option.any_none]
    | some s =>
      have hm : s ∈ Oper.looksAt l.toArray o := List.mem_append_right _ (by simp only [hg, hd]; simp)
      simp only [Option.any_some, h s hm]

theorem exec_congr {e e' : Env} {o : Oper} (hs : Op.isSelect o.op = false) (h : ∀ s ∈ Oper.looksAt l.toArray o, e s = e' s) : execOp (ev e) o = execOp (ev e') o :=
  execOp_congr o (fun cs b hh => by rw [hh] at hs; cases hs) (ev_congr h)


/-- How things stand while operations of A and B are being carried out. -/
structure Inv (l : List Oper) (A B T : List Nat) (C : World → Prop) (N : Nat) (D : List Deferred) (e : Env) (pa : List (Nat × Value)) (sp : List BSpec) (nw : Nat → Prop) (listed : Array Bool) (a : Act) (w : World) : Prop where
  lsz : listed.size = l.length
  asz : a.tmps.size = N
  adf : a.defers = D
  inC : C w
  clo : Closed l listed
  noT : ∀ t ∈ T, ¬ Lst listed t
  hA : ∀ (p i d : Nat) (v : Value), A[p]? = some i → Lst listed i → pa[p]? = some (d, v) → envOf a d = v
  hB : ∀ (q b : Nat) (s : BSpec), B[q]? = some b → Lst listed b → sp[q]? = some s → ∀ d, dstAt l b = some d → BHas w s (envOf a d)
  rest : ∀ s, (∀ i ∈ A ++ B, Lst listed i → dstAt l i ≠ some s) → envOf a s = e s
  apart : ∀ (q q' b b' d d' g : Nat), q ≠ q' → nw q → nw q' → B[q]? = some b → B[q']? = some b' → Lst listed b → Lst listed b' → dstAt l b = some d → dstAt l b' = some d' → blkOf (envOf a d) = some g → blkOf (envOf a d') = some g → False

theorem nodup_idx {X : List Nat} (h : X.Pairwise (· ≠ ·)) {p q i : Nat} (hp : X[p]? = some i) (hq : X[q]? = some i) : p = q := pairwise_get h hp hq

theorem nodup_opt {X : List (Option Nat)} (h : X.Pairwise (· ≠ ·)) {i j : Nat} {a : Option Nat} (hi : X[i]? = some a) (hj : X[j]? = some a) : i = j := by
  induction X generalizing i j with
  | nil => simp at hi
  | cons x xs ih =>
    obtain ⟨hx, hxs⟩ := List.pairwise_cons.1 h
    cases i <;> cases j
    · rfl
    · simp at hi hj; subst hi; exact absurd rfl (hx _ (List.mem_of_getElem? hj))
    · simp at hi hj; subst hj; exact absurd rfl (hx _ (List.mem_of_getElem? hi))
    · simp at hi hj; rw [ih hxs hi hj]

/-- Two operations of A and B that write one slot are one. -/
theorem DrawOk.same {A B T : List Nat} (ok : DrawOk l A B T) {i j s : Nat} (hi : i ∈ A ++ B) (hj : j ∈ A ++ B) (hs : dstAt l i = some s) (hs' : dstAt l j = some s) : i = j := by
  obtain ⟨p, hp⟩ := List.getElem?_of_mem hi
  obtain ⟨q, hq⟩ := List.getElem?_of_mem hj
  have h1 : ((A ++ B).map (dstAt l))[p]? = some (some s) := by simp only [List.getElem?_map, hp, Option.map_some, hs]
  have h2 : ((A ++ B).map (dstAt l))[q]? = some (some s) := by simp only [List.getElem?_map, hq, Option.map_some, hs']
  have := nodup_opt ok.dst h1 h2
  subst this
  rw [hp] at hq
  exact Option.some.inj hq

theorem keep_hasBlk {w w' : World} (h : Keep [] w w') {b : Blk} (hb : hasBlk w b) : hasBlk w' b := (h.same b.1 hb.lt (by simp)).trans hb

theorem BHas.keep {w w' : World} (h : Keep [] w w') {s : BSpec} {v : Value} (hs : ∀ φ, s = some φ → Stable φ) (hb : BHas w s v) : BHas w' s v := by
  cases s with
  | none => exact hb
  | some φ => exact hs φ rfl v w w' hb h

section
variable {A B T : List Nat} {C : World → Prop} {D : List Deferred} {e : Env} {pa : List (Nat × Value)} {sp : List BSpec} {nw : Nat → Prop} {listed : Array Bool} {a : Act} {w w' : World}

theorem DrawOk.disj {A B T : List Nat} (ok : DrawOk l A B T) {i : Nat} (hi : i ∈ A) (hj : i ∈ B) : False := by
  have := ok.nodup
  rw [List.append_assoc, List.pairwise_append] at this
  exact this.2.2 i hi i (List.mem_append_left _ hj) rfl
theorem DrawOk.disjT {A B T : List Nat} (ok : DrawOk l A B T) {i : Nat} (hi : i ∈ A ++ B) (hj : i ∈ T) : False := by
  have := ok.nodup
  rw [List.pairwise_append] at this
  exact this.2.2 i hi i hj rfl
theorem DrawOk.nodA {A B T : List Nat} (ok : DrawOk l A B T) : A.Pairwise (· ≠ ·) := by
  have := ok.nodup; rw [List.append_assoc, List.pairwise_append] at this; exact this.1
theorem DrawOk.nodB {A B T : List Nat} (ok : DrawOk l A B T) : B.Pairwise (· ≠ ·) := by
  have := ok.nodup; rw [List.append_assoc, List.pairwise_append] at this
  have := this.2.1; rw [List.pairwise_append] at this; exact this.1

/-- An operation of A has yielded its value. -/
theorem Inv.stepA (I : Inv l A B T C N D e pa sp nw listed a w) (ok : DrawOk l A B T) (hpd : ∀ (p i d : Nat) (v : Value), A[p]? = some i → pa[p]? = some (d, v) → dstAt l i = some d)
    {p i d : Nat} {v : Value} (hp : A[p]? = some i) (hpa : pa[p]? = some (d, v)) (hdN : d < N)
    (hpre : ∀ j ∈ predsAt l i, Lst listed j) (hst : ∀ (q : Nat) (φ : Value → World → Prop), sp[q]? = some (some φ) → Stable φ) (hC : C w') (hk : Keep [] w w') : Inv l A B T C N D e pa sp nw (listed.setIfInBounds i true) (a.put (some d) v) w' := by
  have hd := hpd p i d v hp hpa
  have hiA' : i ∈ A := List.mem_of_getElem? hp
  have hiA : i ∈ A ++ B := List.mem_append_left _ hiA'
  have hil : i < listed.size := by rw [I.lsz]; exact ok.bound i (List.mem_append_left _ hiA)
  have henv : envOf (a.put (some d) v) = upd (envOf a) d v := envOf_put v (by rw [I.asz]; exact hdN)
  refine ⟨by simp [I.lsz], by simp [Act.put, I.asz], by simp [Act.put, I.adf], hC, ?_, ?_, ?_, ?_, ?_, ?_⟩
  · intro j hj m hm
    rw [Lst_set hil] at hj ⊢
    rcases hj with rfl | hj
    · exact .inr (hpre m hm)
    · exact .inr (I.clo j hj m hm)
  · intro t ht hl
    rw [Lst_set hil] at hl
    rcases hl with rfl | hl
    · exact ok.disjT hiA ht
    · exact I.noT t ht hl
  · intro p' i' d' v' hp' hl hpa'
    rw [henv]
    rw [Lst_set hil] at hl
    by_cases hii : i' = i
    · subst hii
      have := nodup_idx ok.nodA hp hp'
      subst this
      rw [hpa] at hpa'
      obtain ⟨rfl, rfl⟩ := Prod.mk.inj (Option.some.inj hpa')
      rw [upd_same]
    · rcases hl with hl | hl
      · exact absurd hl hii
      · by_cases hdd : d' = d
        · subst hdd
          exact absurd (ok.same (List.mem_append_left _ (List.mem_of_getElem? hp')) hiA (hpd p' i' d' v' hp' hpa') hd) hii
        · rw [upd_other _ _ hdd]; exact I.hA p' i' d' v' hp' hl hpa'
  · intro q b s hq hl hs d' hd'
    have hl' : Lst listed b := by
      rw [Lst_set hil] at hl
      rcases hl with rfl | hl
      · exact (ok.disj hiA' (List.mem_of_getElem? hq)).elim
      · exact hl
    have hdd : d' ≠ d := by
      rintro rfl
      have := ok.same (List.mem_append_right _ (List.mem_of_getElem? hq)) hiA hd' hd
      subst this
      exact ok.disj hiA' (List.mem_of_getElem? hq)
    rw [henv, upd_other _ _ hdd]
    exact (I.hB q b s hq hl' hs d' hd').keep hk (fun φ hφ => hst q φ (by rw [hs, hφ]))
  · intro s hs
    have hsd : s ≠ d := by
      rintro rfl
      exact hs i hiA ((Lst_set hil).2 (.inl rfl)) hd
    rw [henv, upd_other _ _ hsd]
    exact I.rest s fun j hj hl => hs j hj ((Lst_set hil).2 (.inr hl))
  · intro q q' b b' d1 d2 g hqq n1 n2 hq hq' hl hl' hd1 hd2
    have key : ∀ (q b d' : Nat), B[q]? = some b → Lst (listed.setIfInBounds i true) b → dstAt l b = some d' → Lst listed b ∧ envOf (a.put (some d) v) d' = envOf a d' := by
      intro q b d' hq hl hd'
      have hne : b ≠ i := by rintro rfl; exact ok.disj hiA' (List.mem_of_getElem? hq)
      refine ⟨?_, ?_⟩
      · rw [Lst_set hil] at hl
        rcases hl with hl | hl
        · exact absurd hl hne
        · exact hl
      · rw [henv, upd_other]
        rintro rfl
        exact hne (ok.same (List.mem_append_right _ (List.mem_of_getElem? hq)) hiA hd' hd)
    obtain ⟨k1, k2⟩ := key q b d1 hq hl hd1
    obtain ⟨k3, k4⟩ := key q' b' d2 hq' hl' hd2
    rw [k2, k4]
    exact I.apart q q' b b' d1 d2 g hqq n1 n2 hq hq' k1 k3 hd1 hd2

/-- An operation of B has been carried out, or was left out. -/
theorem Inv.stepB (I : Inv l A B T C N D e pa sp nw listed a w) (ok : DrawOk l A B T) (hpd : ∀ (p i d : Nat) (v : Value), A[p]? = some i → pa[p]? = some (d, v) → dstAt l i = some d)
    {q i d : Nat} {s : BSpec} {v : Value} (hq : B[q]? = some i) (hsp : sp[q]? = some s) (hd : dstAt l i = some d) (hdN : d < N)
    (hpre : ∀ j ∈ predsAt l i, Lst listed j) (hst : ∀ (q : Nat) (φ : Value → World → Prop), sp[q]? = some (some φ) → Stable φ) (hns : ∀ q, nw q → ∃ φ, sp[q]? = some (some φ) ∧ ∀ v w g, φ v w → blkOf v = some g → g < w.heap.size) (hnw : nw q → ∀ g, blkOf v = some g → w.heap.size ≤ g) (hC : C w') (hk : Keep [] w w') (hs : BHas w' s v) :
    Inv l A B T C N D e pa sp nw (listed.setIfInBounds i true) (a.put (some d) v) w' := by
  have hiB : i ∈ B := List.mem_of_getElem? hq
  have hiA : i ∈ A ++ B := List.mem_append_right _ hiB
  have hil : i < listed.size := by rw [I.lsz]; exact ok.bound i (List.mem_append_left _ hiA)
  have henv : envOf (a.put (some d) v) = upd (envOf a) d v := envOf_put _ (by rw [I.asz]; exact hdN)
  refine ⟨by simp [I.lsz], by simp [Act.put, I.asz], by simp [Act.put, I.adf], hC, ?_, ?_, ?_, ?_, ?_, ?_⟩
  · intro j hj m hm
    rw [Lst_set hil] at hj ⊢
    rcases hj with rfl | hj
    · exact .inr (hpre m hm)
    · exact .inr (I.clo j hj m hm)
  · intro t ht hl
    rw [Lst_set hil] at hl
    rcases hl with rfl | hl
    · exact ok.disjT hiA ht
    · exact I.noT t ht hl
  · intro p' i' d' v' hp' hl hpa'
    rw [henv]
    rw [Lst_set hil] at hl
    have hii : i' ≠ i := by rintro rfl; exact ok.disj (List.mem_of_getElem? hp') hiB
    rcases hl with hl | hl
    · exact absurd hl hii
    · by_cases hdd : d' = d
      · subst hdd
        exact absurd (ok.same (List.mem_append_left _ (List.mem_of_getElem? hp')) hiA (hpd p' i' d' v' hp' hpa') hd) hii
      · rw [upd_other _ _ hdd]; exact I.hA p' i' d' v' hp' hl hpa'
  · intro q' b s' hq' hl hs' d' hd'
    by_cases hqq : q' = q
    · subst hqq
      rw [hq] at hq'; obtain rfl := Option.some.inj hq'
      rw [hsp] at hs'; obtain rfl := Option.some.inj hs'
      rw [hd] at hd'; obtain rfl := Option.some.inj hd'
      rw [henv, upd_same]; exact hs
    · have hl' : Lst listed b := by
        rw [Lst_set hil] at hl
        rcases hl with rfl | hl
        · exact absurd (nodup_idx ok.nodB hq' hq) hqq
        · exact hl
      have hdd : d' ≠ d := by
        rintro rfl
        have hbi := ok.same (List.mem_append_right _ (List.mem_of_getElem? hq')) hiA hd' hd
        subst hbi
        exact hqq (nodup_idx ok.nodB hq' hq)
      rw [henv, upd_other _ _ hdd]
      exact (I.hB q' b s' hq' hl' hs' d' hd').keep hk (fun φ hφ => hst q' φ (by rw [hs', hφ]))
  · intro s' hs'
    have hsd : s' ≠ d := by
      rintro rfl
      exact hs' i hiA ((Lst_set hil).2 (.inl rfl)) hd
    rw [henv, upd_other _ _ hsd]
    exact I.rest s' fun j hj hl => hs' j hj ((Lst_set hil).2 (.inr hl))
  · intro q1 q2 b1 b2 d1 d2 g hqq n1 n2 hq1 hq2 hl1 hl2 hd1 hd2
    have key : ∀ (q' b d' : Nat), q' ≠ q → B[q']? = some b → Lst (listed.setIfInBounds i true) b → dstAt l b = some d' → Lst listed b ∧ envOf (a.put (some d) v) d' = envOf a d' := by
      intro q' b d' hne' hq' hl hd'
      have hne : b ≠ i := by rintro rfl; exact hne' (nodup_idx ok.nodB hq' hq)
      refine ⟨?_, ?_⟩
      · rw [Lst_set hil] at hl
        rcases hl with hl | hl
        · exact absurd hl hne
        · exact hl
      · rw [henv, upd_other]
        rintro rfl
        exact hne (ok.same (List.mem_append_right _ (List.mem_of_getElem? hq')) hiA hd' hd)
    have old : ∀ (q' b d' g : Nat), nw q' → B[q']? = some b → Lst listed b → dstAt l b = some d' → blkOf (envOf a d') = some g → g < w.heap.size := by
      intro q' b d' g hn hq' hl hd' hg
      obtain ⟨φ, h1, h2⟩ := hns q' hn
      exact h2 _ _ g (I.hB q' b _ hq' hl h1 d' hd') hg
    have self : ∀ (b d' : Nat), B[q]? = some b → dstAt l b = some d' → envOf (a.put (some d) v) d' = v := by
      intro b d' hb hd'
      rw [hq] at hb; obtain rfl := Option.some.inj hb
      rw [hd] at hd'; obtain rfl := Option.some.inj hd'
      rw [henv, upd_same]
    by_cases e1 : q1 = q
    · have hne2 : q2 ≠ q := fun h => hqq (e1.trans h.symm)
      obtain ⟨k3, k4⟩ := key q2 b2 d2 hne2 hq2 hl2 hd2
      subst e1
      rw [self b1 d1 hq1 hd1, k4]
      intro h1 h2
      have := hnw n1 g h1
      have := old q2 b2 d2 g n2 hq2 k3 hd2 h2
      omega
    · obtain ⟨k1, k2⟩ := key q1 b1 d1 e1 hq1 hl1 hd1
      by_cases e2 : q2 = q
      · subst e2
        rw [self b2 d2 hq2 hd2, k2]
        intro h1 h2
        have := hnw n2 g h2
        have := old q1 b1 d1 g n1 hq1 k1 hd1 h1
        omega
      · obtain ⟨k3, k4⟩ := key q2 b2 d2 e2 hq2 hl2 hd2
        rw [k2, k4]
        exact I.apart q1 q2 b1 b2 d1 d2 g hqq n1 n2 hq1 hq2 k1 k3 hd1 hd2

theorem pa_nodup (ok : DrawOk l A B T) (hlen : pa.length = A.length) (hpd : ∀ (p i d : Nat) (v : Value), A[p]? = some i → pa[p]? = some (d, v) → dstAt l i = some d) : (pa.map (·.1)).Pairwise (· ≠ ·) := by
  rw [List.pairwise_iff_getElem]
  intro p p' h1 h2 hlt heq
  simp only [List.length_map] at h1 h2
  simp only [List.getElem_map] at heq
  have g1 : A[p]? = some A[p] := List.getElem?_eq_getElem (by omega)
  have g2 : A[p']? = some A[p'] := List.getElem?_eq_getElem (by omega)
  have k1 := hpd p _ pa[p].1 pa[p].2 g1 (List.getElem?_eq_getElem h1)
  have k2 := hpd p' _ pa[p'].1 pa[p'].2 g2 (List.getElem?_eq_getElem h2)
  rw [← heq] at k2
  have := ok.same (List.mem_append_left _ (List.mem_of_getElem? g1)) (List.mem_append_left _ (List.mem_of_getElem? g2)) k1 k2
  have := nodup_idx ok.nodA g1 (by rw [g2, this])
  omega

/-- The environment behind all of A and B. -/
theorem Inv.final (I : Inv l A B T C N D e pa sp nw listed a w) (ok : DrawOk l A B T) (hlen : pa.length = A.length)
    (hpd : ∀ (p i d : Nat) (v : Value), A[p]? = some i → pa[p]? = some (d, v) → dstAt l i = some d) (hall : ∀ i ∈ A ++ B, Lst listed i)
    : envOf a = upds (upds e pa) ((List.range B.length).map fun q => ((dstAt l (B.getD q 0)).getD 0, envOf a ((dstAt l (B.getD q 0)).getD 0))) := by
  have keyB : ∀ q b : Nat, B[q]? = some b → ∃ d, dstAt l b = some d := fun q b hq => by
    have := ok.some_ b (List.mem_append_right _ (List.mem_of_getElem? hq))
    exact Option.isSome_iff_exists.1 this
  have nodB : (((List.range B.length).map fun q => ((dstAt l (B.getD q 0)).getD 0, envOf a ((dstAt l (B.getD q 0)).getD 0))).map (·.1)).Pairwise (· ≠ ·) := by
    rw [List.map_map, List.pairwise_map]
    refine List.Pairwise.imp_of_mem ?_ (List.nodup_range (n := B.length))
    intro q q' hq hq' hne heq
    obtain hq := List.mem_range.1 hq
    obtain hq' := List.mem_range.1 hq'
    have g1 : B[q]? = some B[q] := List.getElem?_eq_getElem hq
    have g2 : B[q']? = some B[q'] := List.getElem?_eq_getElem hq'
    obtain ⟨d, hd⟩ := keyB q _ g1
    obtain ⟨d', hd'⟩ := keyB q' _ g2
    simp only [Function.comp, List.getD_eq_getElem?_getD, g1, g2, Option.getD_some, hd, hd'] at heq
    subst heq
    have := ok.same (List.mem_append_right _ (List.mem_of_getElem? g1)) (List.mem_append_right _ (List.mem_of_getElem? g2)) hd hd'
    exact hne (nodup_idx ok.nodB g1 (by rw [g2, this]))
  have nodA := pa_nodup ok hlen hpd
  funext s
  by_cases hsB : ∃ q b : Nat, B[q]? = some b ∧ dstAt l b = some s
  · obtain ⟨q, b, hq, hs⟩ := hsB
    have hql : q < B.length := (List.getElem?_eq_some_iff.1 hq).1
    symm
    refine upds_some _ _ q s _ nodB ?_
    simp only [List.getElem?_map, List.getElem?_range hql, Option.map_some, List.getD_eq_getElem?_getD, hq, Option.getD_some, hs]
  · rw [upds_none _ _ s ?_]
    · by_cases hsA : ∃ p i : Nat, A[p]? = some i ∧ dstAt l i = some s
      · obtain ⟨p, i, hp, hs⟩ := hsA
        have hpl : p < A.length := (List.getElem?_eq_some_iff.1 hp).1
        have hpp : pa[p]? = some pa[p] := List.getElem?_eq_getElem (by omega)
        have hd := hpd p i pa[p].1 pa[p].2 hp hpp
        rw [hs] at hd
        have hds : s = pa[p].1 := Option.some.inj hd
        rw [hds, I.hA p i pa[p].1 pa[p].2 hp (hall i (List.mem_append_left _ (List.mem_of_getElem? hp))) hpp]
        exact (upds_some _ _ p _ _ nodA hpp).symm
      · rw [upds_none _ _ s ?_]
        · refine I.rest s fun i hi _ hs => ?_
          rcases List.mem_append.1 hi with hi | hi
          · obtain ⟨p, hp⟩ := List.getElem?_of_mem hi; exact hsA ⟨p, i, hp, hs⟩
          · obtain ⟨p, hp⟩ := List.getElem?_of_mem hi; exact hsB ⟨p, i, hp, hs⟩
        · intro hm
          obtain ⟨x, hx, rfl⟩ := List.mem_map.1 hm
          obtain ⟨p, hp⟩ := List.getElem?_of_mem hx
          have hpl : p < pa.length := (List.getElem?_eq_some_iff.1 hp).1
          have g1 : A[p]? = some A[p] := List.getElem?_eq_getElem (by omega)
          exact hsA ⟨p, _, g1, hpd p _ x.1 x.2 g1 hp⟩
    · intro hm
      obtain ⟨x, hx, rfl⟩ := List.mem_map.1 hm
      obtain ⟨q, hq, rfl⟩ := List.mem_map.1 hx
      have hql := List.mem_range.1 hq
      have g1 : B[q]? = some B[q] := List.getElem?_eq_getElem hql
      obtain ⟨d, hd⟩ := keyB q _ g1
      refine hsB ⟨q, _, g1, ?_⟩
      simp only [List.getD_eq_getElem?_getD, g1, Option.getD_some, hd]

theorem look_eq {i : Nat} {o : Oper} (ho : l[i]? = some o) : looksAt l i = Oper.looksAt l.toArray o := by simp [looksAt, ho]

theorem filter_lt {X : List Nat} {p q : Nat → Bool} (hpq : ∀ x, q x = true → p x = true) {i : Nat} (hi : i ∈ X) (hp : p i = true) (hq : q i = false) : (X.filter q).length < (X.filter p).length := by
  induction X with
  | nil => cases hi
  | cons x xs ih =>
    have hle : (xs.filter q).length ≤ (xs.filter p).length := by
      clear ih hi
      induction xs with
      | nil => simp
      | cons y ys ih =>
        simp only [List.filter_cons]
        by_cases h1 : q y = true
        · simp [h1, hpq y h1, ih]
        · by_cases h2 : p y = true
          · simp [h1, h2]; omega
          · simp [h1, h2, ih]
    simp only [List.filter_cons]
    rcases List.mem_cons.1 hi with rfl | hi
    · simp [hp, hq]; omega
    · have := ih hi
      by_cases h1 : q x = true
      · simp [h1, hpq x h1, this]
      · by_cases h2 : p x = true
        · simp [h1, h2]; omega
        · simp [h1, h2, this]

theorem least_unlisted {n : Nat} (h : ∃ i, i < n ∧ ¬ Lst listed i) : ∃ i, i < n ∧ ¬ Lst listed i ∧ ∀ j, j < i → Lst listed j := by
  obtain ⟨i, ⟨h1, h2⟩, hmin⟩ := exists_least h
  exact ⟨i, h1, h2, fun j hj => Classical.byContradiction fun hn => by have := hmin j ⟨by omega, hn⟩; omega⟩

theorem any_main (ok : DrawOk l A B T) (hlen : pa.length = A.length) (hsl : sp.length = B.length)
    (hQ : ∀ (p i : Nat) (o : Oper), A[p]? = some i → l[i]? = some o → ∃ d v, pa[p]? = some (d, v) ∧ o.dst = some d ∧ d < N ∧ Quiet P l.toArray C o (upds e (pa.take p)) v)
    (hBN : ∀ (q b d : Nat), B[q]? = some b → dstAt l b = some d → d < N)
    (hBo : ∀ (q b : Nat) (o : Oper) (s : BSpec), B[q]? = some b → l[b]? = some o → sp[q]? = some s → BOk P l.toArray C o (upds e pa) s)
    (hT : ∀ (w : World) (V : Nat → Value) (a : Act), C w → a.tmps.size = N → a.defers = D → (∀ (q : Nat) (s : BSpec), sp[q]? = some s → BHas w s (V q)) →
      (∀ q q' g, q ≠ q' → Nw P l C B sp (upds e pa) q → Nw P l C B sp (upds e pa) q' → blkOf (V q) = some g → blkOf (V q') = some g → False) →
      envOf a = upds (upds e pa) ((List.range B.length).map fun q => ((dstAt l (B.getD q 0)).getD 0, V q)) →
      wpListIn (fc r) 0 P l.toArray Q (T.filterMap (l[·]?)) a w) :
    ∀ (fuel : Nat) (listed : Array Bool) (a : Act) (w : World), Inv l A B T C N D e pa sp (Nw P l C B sp (upds e pa)) listed a w → ((A ++ B).filter fun i => !listed.getD i false).length + T.length ≤ fuel →
      wpAnyIn (fc r) 0 P .any l.toArray Q fuel listed a w := by
  have hpd : ∀ (p i d : Nat) (v : Value), A[p]? = some i → pa[p]? = some (d, v) → dstAt l i = some d := by
    intro p i d v hp hpa
    have hi : i < l.length := ok.bound i (List.mem_append_left _ (List.mem_append_left _ (List.mem_of_getElem? hp)))
    obtain ⟨d', v', h1, h2, _⟩ := hQ p i l[i] hp (List.getElem?_eq_getElem hi)
    rw [hpa] at h1
    obtain ⟨rfl, rfl⟩ := Prod.mk.inj (Option.some.inj h1)
    simp [dstAt, List.getElem?_eq_getElem hi, h2]
  have onlyAB : ∀ (listed : Array Bool) (a : Act) (w : World), Inv l A B T C N D e pa sp (Nw P l C B sp (upds e pa)) listed a w → ∀ i, Lst listed i → i ∈ A ++ B := by
    intro listed a w I i hl
    have hi : i < l.length := by
      rw [← I.lsz]
      rcases Nat.lt_or_ge i listed.size with h' | h'
      · exact h'
      · unfold Lst at hl; simp [Array.getElem?_eq_none h'] at hl
    rcases List.mem_append.1 (ok.all_ i hi) with h | h
    · exact h
    · exact absurd hl (I.noT i h)
  have hst : ∀ (q : Nat) (φ : Value → World → Prop), sp[q]? = some (some φ) → Stable φ := by
    intro q φ hs
    have hq : q < B.length := by have := (List.getElem?_eq_some_iff.1 hs).1; omega
    have g1 : B[q]? = some B[q] := List.getElem?_eq_getElem hq
    have hb : B[q] < l.length := ok.bound _ (List.mem_append_left _ (List.mem_append_right _ (List.mem_of_getElem? g1)))
    exact (hBo q _ _ _ g1 (List.getElem?_eq_getElem hb) hs).2.1
  have finB : ∀ (listed : Array Bool) (a : Act) (w : World), Inv l A B T C N D e pa sp (Nw P l C B sp (upds e pa)) listed a w → (∀ i ∈ A ++ B, Lst listed i) → ∀ (q : Nat) (s : BSpec), sp[q]? = some s → BHas w s (envOf a ((dstAt l (B.getD q 0)).getD 0)) := by
    intro listed a w I hall q s hs
    have hq : q < B.length := by have := (List.getElem?_eq_some_iff.1 hs).1; omega
    have g1 : B[q]? = some B[q] := List.getElem?_eq_getElem hq
    have hm := List.mem_append_right A (List.mem_of_getElem? g1)
    obtain ⟨d, hd⟩ := Option.isSome_iff_exists.1 (ok.some_ _ hm)
    simp only [List.getD_eq_getElem?_getD, g1, Option.getD_some, hd]
    exact I.hB q _ s g1 (hall _ hm) hs d hd
  have hns : ∀ q, Nw P l C B sp (upds e pa) q → ∃ φ, sp[q]? = some (some φ) ∧ ∀ v w g, φ v w → blkOf v = some g → g < w.heap.size := by
    rintro q ⟨φ, b, o, h1, h2, h3, h4⟩
    exact ⟨φ, h1, h4.1⟩
  have finP : ∀ (listed : Array Bool) (a : Act) (w : World), Inv l A B T C N D e pa sp (Nw P l C B sp (upds e pa)) listed a w → (∀ i ∈ A ++ B, Lst listed i) → ∀ q q' g, q ≠ q' → Nw P l C B sp (upds e pa) q → Nw P l C B sp (upds e pa) q' →
      blkOf (envOf a ((dstAt l (B.getD q 0)).getD 0)) = some g → blkOf (envOf a ((dstAt l (B.getD q' 0)).getD 0)) = some g → False := by
    intro listed a w I hall q q' g hqq n1 n2
    obtain ⟨_, b, _, _, g1, _⟩ := id n1
    obtain ⟨_, b', _, _, g1', _⟩ := id n2
    have hm := List.mem_append_right A (List.mem_of_getElem? g1)
    have hm' := List.mem_append_right A (List.mem_of_getElem? g1')
    obtain ⟨d, hd⟩ := Option.isSome_iff_exists.1 (ok.some_ _ hm)
    obtain ⟨d', hd'⟩ := Option.isSome_iff_exists.1 (ok.some_ _ hm')
    simp only [List.getD_eq_getElem?_getD, g1, g1', Option.getD_some, hd, hd']
    exact I.apart q q' b b' d d' g hqq n1 n2 g1 g1' (hall _ hm) (hall _ hm') hd hd'
  intro fuel
  induction fuel with
  | zero =>
    intro listed a w I hf
    have hall : ∀ i ∈ A ++ B, Lst listed i := by
      intro i hi
      by_cases hl : Lst listed i
      · exact hl
      · exfalso
        have : i ∈ (A ++ B).filter fun i => !listed.getD i false := List.mem_filter.2 ⟨hi, by unfold Lst at hl; simpa using hl⟩
        have := List.length_pos_of_mem this
        omega
    exact tail_any T (A ++ B) listed 0 a w ok.force I.lsz (fun i => ⟨onlyAB listed a w I i, hall i⟩) (by omega) (hT w (fun q => envOf a ((dstAt l (B.getD q 0)).getD 0)) a I.inC I.asz I.adf (finB listed a w I hall) (finP listed a w I hall) (I.final ok hlen hpd hall))
  | succ f ih =>
    intro listed a w I hf
    by_cases hall : ∀ i ∈ A ++ B, Lst listed i
    · exact tail_any T (A ++ B) listed (f + 1) a w ok.force I.lsz (fun i => ⟨onlyAB listed a w I i, hall i⟩) (by omega) (hT w (fun q => envOf a ((dstAt l (B.getD q 0)).getD 0)) a I.inC I.asz I.adf (finB listed a w I hall) (finP listed a w I hall) (I.final ok hlen hpd hall))
    · have hex : ∃ i, i < l.length ∧ ¬ Lst listed i := Classical.byContradiction fun hn => hall fun i hi => Classical.byContradiction fun hl => hn ⟨i, ok.bound i (List.mem_append_left _ hi), hl⟩
      obtain ⟨i0, h0, h1, h2⟩ := least_unlisted hex
      have hr0 : i0 ∈ Region.ready .any l.toArray listed := (ready_iff I.lsz).2 ⟨h0, h1, fun j hj => h2 j (predsAt_lt ok.back hj)⟩
      refine ⟨fun hn => (by rw [hn] at hr0; cases hr0), fun i hi => ?_⟩
      obtain ⟨hil, hun, hpre⟩ := (ready_iff I.lsz).1 hi
      have hisz : i < listed.size := by rw [I.lsz]; exact hil
      have ho : l[i]? = some l[i] := List.getElem?_eq_getElem hil
      have hoa : l.toArray[i]? = some l[i] := by simp [hil]
      have hplain := ok.plain l[i] (List.getElem_mem hil)
      have hfuel : i ∈ A ++ B → ((A ++ B).filter fun j => !(listed.setIfInBounds i true).getD j false).length + T.length ≤ f := fun hm => by
        have := filter_lt (X := A ++ B) (p := fun j => !listed.getD j false) (q := fun j => !(listed.setIfInBounds i true).getD j false) (fun x hx => by
          by_cases hxl : Lst listed x
          · have : Lst (listed.setIfInBounds i true) x := (Lst_set hisz).2 (.inr hxl)
            unfold Lst at this; rw [this] at hx; cases hx
          · unfold Lst at hxl; simpa using hxl) hm (by unfold Lst at hun; simpa using hun) (by
          have : Lst (listed.setIfInBounds i true) i := (Lst_set hisz).2 (.inl rfl)
          unfold Lst at this; rw [this]; rfl)
        omega
      rcases List.mem_append.1 (ok.all_ i hil) with hAB | hiT
      · rcases List.mem_append.1 hAB with hiA | hiB
        · obtain ⟨p, hp⟩ := List.getElem?_of_mem hiA
          obtain ⟨d, v, hpa, hdst, hdN, hq⟩ := hQ p i l[i] hp ho
          have hagree : ∀ s ∈ Oper.looksAt l.toArray l[i], envOf a s = upds e (pa.take p) s := by
            intro s hs
            rw [← look_eq ho] at hs
            by_cases hex : ∃ (q : Nat) (v' : Value), q < p ∧ pa[q]? = some (s, v')
            · obtain ⟨q, v', hqp, hpq⟩ := hex
              have hqA : q < A.length := by have := (List.getElem?_eq_some_iff.1 hpq).1; omega
              have hAq : A[q]? = some A[q] := List.getElem?_eq_getElem hqA
              rcases ok.AA p q i A[q] s hp hAq (hpd q _ s v' hAq hpq) hs with ⟨_, hw⟩ | ⟨hlt, _⟩
              · rw [I.hA q _ s v' hAq (waits_ready I.clo hpre _ hw) hpq]
                refine (upds_some _ _ q s v' ?_ ?_).symm
                · rw [List.map_take]; exact (pa_nodup ok hlen hpd).sublist (List.take_sublist _ _)
                · rw [List.getElem?_take, if_pos hqp]; exact hpq
              · omega
            · rw [upds_none]
              · refine I.rest s fun i' hi' hl' hs' => ?_
                rcases List.mem_append.1 hi' with hi' | hi'
                · obtain ⟨q, hq'⟩ := List.getElem?_of_mem hi'
                  have hqA : q < A.length := (List.getElem?_eq_some_iff.1 hq').1
                  have hpq : pa[q]? = some pa[q] := List.getElem?_eq_getElem (by omega)
                  have hk := hpd q i' pa[q].1 pa[q].2 hq' hpq
                  rw [hs'] at hk
                  have hks : s = pa[q].1 := Option.some.inj hk
                  rcases ok.AA p q i i' s hp hq' hs' hs with ⟨hlt, _⟩ | ⟨_, hw⟩
                  · exact hex ⟨q, pa[q].2, hlt, by rw [hks]; exact hpq⟩
                  · exact hun (waits_listed I.clo hl' _ hw)
                · exact ok.AB i hiA i' hi' s hs' hs
              · intro hm
                obtain ⟨x, hx, hxs⟩ := List.mem_map.1 hm
                obtain ⟨q, hq'⟩ := List.getElem?_of_mem hx
                rw [List.getElem?_take] at hq'
                split at hq'
                · rename_i hlt; exact hex ⟨q, x.2, hlt, by rw [hq', ← hxs]⟩
                · cases hq'
          have hexec : execOp (ev (envOf a)) l[i] = execOp (ev (upds e (pa.take p))) l[i] := exec_congr hplain.1 hagree
          have hwant : Region.wanted l[i] (yielded l.toArray a.tmps) = wantedE l.toArray (upds e (pa.take p)) l[i] := by rw [wanted_env]; exact wantedE_congr hagree
          have hsem : Oper.semAt (fc r).round a.eval l[i] = execOp (ev (upds e (pa.take p))) l[i] := by
            rw [Oper.semAt_eq _ _ _ (fun c hc => by have := hplain.2; rw [hc] at this; cases this), eval_eq, hexec]
          unfold wpOpIn
          simp only [hoa, hwant]
          rcases hq with ⟨hw, hrun⟩ | ⟨hw, hv⟩
          · simp only [hw, if_true]
            refine ⟨about_trivial _ _ _, ?_⟩
            rw [hsem]
            rcases hrun w I.inC with hrun | ⟨fn, args, hrun, hcall⟩
            · rw [hrun, Oper.uponIn_value, hdst]
              exact ih _ _ _ (I.stepA ok hpd hp hpa hdN hpre hst I.inC (Keep.refl _ _)) (hfuel hAB)
            · rw [hrun, Oper.uponIn_enter]
              refine ⟨fun hh => by simp [fc, Fence.wide] at hh, callsIn_fc (Calls.mono hcall ?_)⟩
              rintro en w' ⟨v', rfl, rfl, hC', hk'⟩
              rw [hdst]
              exact ih _ _ _ (I.stepA ok hpd hp hpa hdN hpre hst hC' hk') (hfuel hAB)
          · simp only [hw]
            refine ⟨about_trivial _ _ _, ?_⟩
            rw [hdst, ← hv]
            exact ih _ _ _ (I.stepA ok hpd hp hpa hdN hpre hst I.inC (Keep.refl _ _)) (hfuel hAB)
        · obtain ⟨q, hq⟩ := List.getElem?_of_mem hiB
          have hqB : q < B.length := (List.getElem?_eq_some_iff.1 hq).1
          have hsp : sp[q]? = some sp[q] := List.getElem?_eq_getElem (by omega)
          obtain ⟨d, hd⟩ := Option.isSome_iff_exists.1 (ok.some_ i hAB)
          have hdst : l[i].dst = some d := by simpa [dstAt, ho] using hd
          have hok := hBo q i l[i] sp[q] hq ho hsp
          have hagree : ∀ s ∈ Oper.looksAt l.toArray l[i], envOf a s = upds e pa s := by
            intro s hs
            rw [← look_eq ho] at hs
            by_cases hex : ∃ (p : Nat) (v' : Value), pa[p]? = some (s, v')
            · obtain ⟨p, v', hpp⟩ := hex
              have hpA : p < A.length := by have := (List.getElem?_eq_some_iff.1 hpp).1; omega
              have hAp : A[p]? = some A[p] := List.getElem?_eq_getElem hpA
              have hw := ok.BA i hiB A[p] (List.getElem_mem hpA) s (hpd p _ s v' hAp hpp) hs
              rw [I.hA p _ s v' hAp (waits_ready I.clo hpre _ hw) hpp]
              exact (upds_some _ _ p s v' (pa_nodup ok hlen hpd) hpp).symm
            · rw [upds_none]
              · refine I.rest s fun i' hi' hl' hs' => ?_
                rcases List.mem_append.1 hi' with hi' | hi'
                · obtain ⟨p, hp'⟩ := List.getElem?_of_mem hi'
                  have hpA : p < A.length := (List.getElem?_eq_some_iff.1 hp').1
                  have hpp : pa[p]? = some pa[p] := List.getElem?_eq_getElem (by omega)
                  have hk := hpd p i' pa[p].1 pa[p].2 hp' hpp
                  rw [hs'] at hk
                  have hks : s = pa[p].1 := Option.some.inj hk
                  exact hex ⟨p, pa[p].2, by rw [hks]; exact hpp⟩
                · exact ok.BB i hiB i' hi' s hs' hs
              · intro hm
                obtain ⟨x, hx, hxs⟩ := List.mem_map.1 hm
                obtain ⟨p, hp'⟩ := List.getElem?_of_mem hx
                exact hex ⟨p, x.2, by rw [hp', ← hxs]⟩
          have hexec : execOp (ev (envOf a)) l[i] = execOp (ev (upds e pa)) l[i] := exec_congr hplain.1 hagree
          have hwant : Region.wanted l[i] (yielded l.toArray a.tmps) = wantedE l.toArray (upds e pa) l[i] := by rw [wanted_env]; exact wantedE_congr hagree
          have hsem : Oper.semAt (fc r).round a.eval l[i] = execOp (ev (upds e pa)) l[i] := by
            rw [Oper.semAt_eq _ _ _ (fun c hc => by have := hplain.2; rw [hc] at this; cases this), eval_eq, hexec]
          have hdN := hBN q i d hq hd
          unfold wpOpIn
          simp only [hoa, hwant]
          cases hspec : sp[q] with
          | none =>
            rw [hspec] at hok hsp
            have hw : wantedE l.toArray (upds e pa) l[i] = false := hok
            simp only [hw]
            refine ⟨about_trivial _ _ _, ?_⟩
            rw [hdst]
            refine ih _ _ _ (I.stepB ok hpd hq hsp hd hdN hpre hst hns ?_ I.inC (Keep.refl _ _) rfl) (hfuel hAB)
            rintro ⟨φ, b, o, h1, _⟩
            rw [hsp] at h1; cases h1
          | some φ =>
            rw [hspec] at hok hsp
            obtain ⟨hw, _, hrun⟩ := hok
            simp only [hw, if_true]
            refine ⟨about_trivial _ _ _, ?_⟩
            rw [hsem]
            by_cases hnew : BNew P C l[i] (upds e pa) φ
            · obtain ⟨v, w', hrun, hC', hk', hφ, hfr⟩ := hnew.2 w I.inC
              rw [hrun, Oper.uponIn_value, hdst]
              exact ih _ _ _ (I.stepB ok hpd hq hsp hd hdN hpre hst hns (fun _ => hfr) hC' hk' hφ) (hfuel hAB)
            · have hnq : ¬ Nw P l C B sp (upds e pa) q := by
                rintro ⟨φ', b, o, h1, h2, h3, h4⟩
                rw [hsp] at h1; cases h1
                rw [hq] at h2; cases h2
                rw [ho] at h3; cases h3
                exact hnew h4
              rcases (hrun.resolve_left hnew) w I.inC with ⟨v, w', hrun, hC', hk', hφ⟩ | ⟨fn, args, hrun, hcall⟩
              · rw [hrun, Oper.uponIn_value, hdst]
                exact ih _ _ _ (I.stepB ok hpd hq hsp hd hdN hpre hst hns (fun h => absurd h hnq) hC' hk' hφ) (hfuel hAB)
              · rw [hrun, Oper.uponIn_enter]
                refine ⟨fun hh => by simp [fc, Fence.wide] at hh, callsIn_fc (Calls.mono hcall ?_)⟩
                rintro en w' ⟨v', rfl, hC', hk', hφ⟩
                rw [hdst]
                exact ih _ _ _ (I.stepB ok hpd hq hsp hd hdN hpre hst hns (fun h => absurd h hnq) hC' hk' hφ) (hfuel hAB)
      · exact absurd (fun j hj => waits_ready I.clo hpre j (ok.TT i hiT j hj)) hall

end

theorem filterMap_get {A : List Nat} (h : ∀ i ∈ A, i < l.length) : ∀ (p i : Nat) (o : Oper), A[p]? = some i → l[i]? = some o → (A.filterMap (l[·]?))[p]? = some o := by
  induction A with
  | nil => intro p i o hp; simp at hp
  | cons x xs ih =>
    intro p i o hp ho
    have hxl : x < l.length := h x (by simp)
    have hx : l[x]? = some l[x] := List.getElem?_eq_getElem hxl
    simp only [List.filterMap_cons, hx]
    cases p with
    | zero => simp at hp; subst hp; rw [hx] at ho; simpa using ho
    | succ p => simpa using ih (fun i hi => h i (by simp [hi])) p i o (by simpa using hp) ho

theorem filterMap_len {A : List Nat} (h : ∀ i ∈ A, i < l.length) : (A.filterMap (l[·]?)).length = A.length := by
  induction A with
  | nil => rfl
  | cons x xs ih =>
    have hxl : x < l.length := h x (by simp)
    have hx : l[x]? = some l[x] := List.getElem?_eq_getElem hxl
    simp only [List.filterMap_cons, hx, List.length_cons, ih (fun i hi => h i (by simp [hi]))]

/-- A REGION THAT DRAWS ITS ORDER. -/
theorem W_draw {id : Nat} {n t : List Deferred → Env → World → Prop} {b : Nat → List Deferred → Env → World → Prop} {D : List Deferred} {e : Env} {w : World} (hm : P.follows .mixedOrders = true) (A B T : List Nat)
    (hok : drawOk l A B T = true) (hBN : (B.all fun i => (dstAt l i).all fun d => Nat.ble (d + 1) N) = true) (C : World → Prop) (hC : C w.drew)
    (h : QL P N l.toArray C (A.filterMap (l[·]?)) (BK P r N l C B T n D) e) : W P r N (.region id l.toArray true) ⟨n, b, t⟩ D e w := by
  have ok := drawOk_spec hok
  have hbA : ∀ i ∈ A, i < l.length := fun i hi => ok.bound i (List.mem_append_left _ (List.mem_append_left _ hi))
  unfold QL at h
  obtain ⟨pa, hlen, hQ, sp, hsl, hBo, hT⟩ := h
  rw [filterMap_len hbA] at hlen
  unfold W; intro a hs hd he; subst hd he
  refine wpIn_region_any hm (any_main (N := N) (C := C) (pa := pa) (sp := sp) (D := a.defers) (e := envOf a) ok hlen hsl (fun p i o hp ho => ?_) (fun q b d hq hdq => ?_) hBo ?_ _ _ _ _ ?_ ?_)
  · exact hQ p o (filterMap_get hbA p i o hp ho)
  · have := List.all_eq_true.1 hBN b (List.mem_of_getElem? hq)
    rw [hdq] at this
    exact Nat.le_of_ble_eq_true (by simpa using this)
  · intro w' V a' hCw hs' hd' hG hP henv
    have hh := hT w' V hCw hG hP
    unfold WL at hh
    exact hh a' _ hs' hd' henv (fun a'' w'' h1 h2 => ⟨h1, h2⟩)
  · exact {
      lsz := by simp
      asz := hs
      adf := rfl
      inC := hC
      clo := fun i hi => by unfold Lst at hi; simp [Array.getElem?_replicate] at hi; split at hi <;> simp_all
      noT := fun t _ hi => by unfold Lst at hi; simp [Array.getElem?_replicate] at hi; split at hi <;> simp_all
      hA := fun p i d v _ hi => by unfold Lst at hi; simp [Array.getElem?_replicate] at hi; split at hi <;> simp_all
      hB := fun q b s _ hi => by unfold Lst at hi; simp [Array.getElem?_replicate] at hi; split at hi <;> simp_all
      rest := fun s _ => rfl
      apart := fun q q' b b' d d' g _ _ _ _ _ hi => by unfold Lst at hi; simp [Array.getElem?_replicate] at hi; split at hi <;> simp_all }
  · have h1 : ((A ++ B).filter fun i => !(Array.replicate l.toArray.size false).getD i false).length ≤ (A ++ B).length := List.length_filter_le _ _
    have h2 : (A ++ B ++ T).length ≤ l.length := by
      have hsub : ∀ (X : List Nat) (m : Nat), X.Pairwise (· ≠ ·) → (∀ i ∈ X, i < m) → X.length ≤ m := by
        intro X m hX hb
        have := List.Nodup.length_le_of_subset (l₁ := X) (l₂ := List.range m) hX (fun i hi => List.mem_range.2 (hb i hi))
        simpa using this
      exact hsub _ _ ok.nodup ok.bound
    simp only [List.length_append] at h1 h2 ⊢
    simp only [List.size_toArray]
    simp only [List.size_toArray] at h1
    omega

end
end Go.Fw
