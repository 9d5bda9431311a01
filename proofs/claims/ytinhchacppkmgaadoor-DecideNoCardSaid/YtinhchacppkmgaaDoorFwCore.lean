/-
  The framework: a judgement 'W' on code over an environment of slots (a function from slot numbers to values) and a world, with one rule for each construct.
  No program occurs here.
-/
import Derived.RangeFuncIn
import Derived.RangeFuncLeaves
import Derived.RangeFuncSeq
import Derived.TacticsIn
import Derived.OrdersIn
import Derived.Below
import Derived.Laws.Entries
import Derived.Laws.Rows
import Derived.Laws.World
import Derived.Laws.Sem
import Derived.Laws.NewBlocks
import Derived.Deep.Draws
namespace Go.Fw

abbrev Env := Nat → Value

/-- One slot is set. -/
def upd (e : Env) (d : Nat) (v : Value) : Env := fun i => bif Nat.beq i d then v else e i

theorem upd_same (e : Env) (d : Nat) (v : Value) : upd e d v d = v := by simp [upd]
theorem upd_other (e : Env) {d i : Nat} (v : Value) (h : i ≠ d) : upd e d v i = e i := by
  have : Nat.beq i d = false := by
    cases hb : Nat.beq i d with
    | false => rfl
    | true => exact absurd (Nat.eq_of_beq_eq_true hb) h
  simp [upd, this]
theorem upd_self (e : Env) {d : Nat} {v : Value} (h : e d = v) : upd e d v = e := by
  funext i
  by_cases hi : i = d
  · subst hi; rw [upd_same, h]
  · rw [upd_other _ _ hi]

/-- What an operand is worth. -/
def ev (e : Env) : Operand → Value
  | .tmp t => e t
  | .const v => v
  | .global g => .pointer (some ⟨g, 0, none⟩)
  | .func f => .func (.func f) #[] #[]

def envOf (a : Act) : Env := fun i => a.tmps.getD i undef

theorem eval_eq (a : Act) : a.eval = ev (envOf a) := by
  funext x; cases x <;> rfl

theorem envOf_put {a : Act} {d : Nat} (v : Value) (h : d < a.tmps.size) : envOf (a.put (some d) v) = upd (envOf a) d v := by
  funext i
  by_cases hi : i = d
  · subst hi
    simp [envOf, Act.put, upd_same, h]
  · have hne : d ≠ i := fun e => hi e.symm
    simp [envOf, Act.put, upd_other _ _ hi, Array.getElem?_setIfInBounds_ne hne]

/-- Where control goes. 'D': the activation's deferred calls (marks of loops over functions). -/
structure Cont where
  norm : List Deferred → Env → World → Prop
  brk : Nat → List Deferred → Env → World → Prop
  ret : List Deferred → Env → World → Prop

def Cont.post (N : Nat) (k : Cont) : Exit → Act → World → Prop
  | .normal, a, w => a.tmps.size = N ∧ k.norm a.defers (envOf a) w
  | .exit id, a, w => a.tmps.size = N ∧ k.brk id a.defers (envOf a) w
  | .ret, a, w => a.tmps.size = N ∧ k.ret a.defers (envOf a) w
  | _, _, _ => False

/-- The widest fence, in a round of a loop over a function or outside. -/
def fc (r : Option Nat) : Fence := { Fence.wide with round := r }

theorem fc_fn (r : Option Nat) (f : FuncId) : (fc r).fn f := trivial
theorem fc_none : fc none = Fence.wide := rfl

/-- THE JUDGEMENT: the code 'c', begun in slots 'e' and world 'w', goes where 'k' wants it. -/
@[irreducible] def W (P : Program) (r : Option Nat) (N : Nat) (c : Code) (k : Cont) (D : List Deferred) (e : Env) (w : World) : Prop :=
  ∀ a : Act, a.tmps.size = N → a.defers = D → envOf a = e → c.wpIn (fc r) 0 P (k.post N) a w

/-- The same for the operations of a region in their order. -/
@[irreducible] def WL (P : Program) (r : Option Nat) (N : Nat) (ops : Array Oper) (l : List Oper) (k : List Deferred → Env → World → Prop) (D : List Deferred) (e : Env) (w : World) : Prop :=
  ∀ (a : Act) (Q : Exit → Act → World → Prop), a.tmps.size = N → a.defers = D → envOf a = e →
    (∀ a' w', a'.tmps.size = N → k a'.defers (envOf a') w' → Q .normal a' w') → wpListIn (fc r) 0 P ops Q l a w

section
variable {P : Program} {r : Option Nat} {N : Nat} {n t : List Deferred → Env → World → Prop} {b : Nat → List Deferred → Env → World → Prop} {D : List Deferred} {e : Env} {w : World}

theorem W_skip (h : n D e w) : W P r N .skip ⟨n, b, t⟩ D e w := by
  unfold W; intro a hs hd he; subst hd he
  exact wpIn_skip ⟨hs, h⟩
theorem W_label {l : Nat} (h : n D e w) : W P r N (.label l) ⟨n, b, t⟩ D e w := by
  unfold W; intro a hs hd he; subst hd he
  exact wpIn_label ⟨hs, h⟩
theorem W_ret (h : t D e w) : W P r N .ret ⟨n, b, t⟩ D e w := by
  unfold W; intro a hs hd he; subst hd he
  exact wpIn_ret ⟨hs, h⟩
theorem W_exit {id : Nat} (h : b id D e w) : W P r N (.exit id) ⟨n, b, t⟩ D e w := by
  unfold W; intro a hs hd he; subst hd he
  exact wpIn_exit ⟨hs, h⟩

theorem W_mono {c : Code} {k k' : Cont} (h : W P r N c k' D e w) (hn : ∀ D e w, k'.norm D e w → k.norm D e w) (hb : ∀ i D e w, k'.brk i D e w → k.brk i D e w)
    (hr : ∀ D e w, k'.ret D e w → k.ret D e w) : W P r N c k D e w := by
  unfold W at *; intro a hs hd he
  refine wpIn_mono (h a hs hd he) fun ex a w hq => ?_
  cases ex <;> first | exact hq.elim | exact ⟨hq.1, hn _ _ _ hq.2⟩ | exact ⟨hq.1, hb _ _ _ _ hq.2⟩ | exact ⟨hq.1, hr _ _ _ hq.2⟩

theorem W_seq {x y : Code} (h : W P r N x ⟨fun D e w => W P r N y ⟨n, b, t⟩ D e w, b, t⟩ D e w) : W P r N (.seq x y) ⟨n, b, t⟩ D e w := by
  unfold W at h ⊢; intro a hs hd he
  refine wpIn_seq (wpIn_mono (h a hs hd he) fun ex a w hq => ?_)
  cases ex with
  | normal => obtain ⟨hs', hq⟩ := hq; exact hq a hs' rfl rfl
  | exit id => exact hq
  | ret => exact hq
  | goto l => exact hq
  | panic c => exact hq
  | outgrown => exact hq

/-- A cut: what holds between two pieces of code. -/
theorem W_cut {x y : Code} (I : List Deferred → Env → World → Prop) (h : W P r N x ⟨I, b, t⟩ D e w) (h' : ∀ D e w, I D e w → W P r N y ⟨n, b, t⟩ D e w) : W P r N (.seq x y) ⟨n, b, t⟩ D e w :=
  W_seq (W_mono h h' (fun _ _ _ _ h => h) (fun _ _ _ h => h))

theorem W_if {c : Operand} {x y : Code} {k : Cont} {z : Bool} (hc : ev e c = .bool z) (h : W P r N (bif z then x else y) k D e w) : W P r N (.cond c x y) k D e w := by
  unfold W at *; intro a hs hd he
  refine wpIn_cond (t := z) (by rw [eval_eq, he, hc]) ?_
  cases z <;> exact h a hs hd he
theorem W_then {c : Operand} {x y : Code} {k : Cont} (hc : ev e c = .bool true) (h : W P r N x k D e w) : W P r N (.cond c x y) k D e w := W_if hc h
theorem W_else {c : Operand} {x y : Code} {k : Cont} (hc : ev e c = .bool false) (h : W P r N y k D e w) : W P r N (.cond c x y) k D e w := W_if hc h

/-- The exits of a block. -/
def bcons (id : Nat) (n : List Deferred → Env → World → Prop) (b : Nat → List Deferred → Env → World → Prop) : Nat → List Deferred → Env → World → Prop :=
  fun i => if i = id then n else b i

theorem W_block {id : Nat} {c : Code} (h : W P r N c ⟨n, bcons id n b, t⟩ D e w) : W P r N (.block id c) ⟨n, b, t⟩ D e w := by
  unfold W at *; intro a hs hd he
  refine wpIn_block (wpIn_mono (h a hs hd he) fun ex a w hq => ?_)
  cases ex with
  | exit i =>
    show (if i = id then _ else _)
    by_cases hi : i = id
    · rw [if_pos hi]; obtain ⟨h1, h2⟩ := hq; refine ⟨h1, ?_⟩; simpa [bcons, hi] using h2
    · rw [if_neg hi]; obtain ⟨h1, h2⟩ := hq; refine ⟨h1, ?_⟩; simpa [bcons, hi] using h2
  | normal => exact hq
  | ret => exact hq
  | goto l => exact hq
  | panic c => exact hq
  | outgrown => exact hq

theorem bcons_here {id : Nat} {n : List Deferred → Env → World → Prop} {b : Nat → List Deferred → Env → World → Prop} (h : n D e w) : bcons id n b id D e w := by
  simpa [bcons] using h
theorem bcons_far {id id' : Nat} {n : List Deferred → Env → World → Prop} {b : Nat → List Deferred → Env → World → Prop} (hne : Nat.beq id id' = false) (h : b id D e w) : bcons id' n b id D e w := by
  have : id ≠ id' := fun h => by subst h; simp at hne
  simpa [bcons, this] using h

end

theorem exists_least {p : Nat → Prop} (h : ∃ n, p n) : ∃ n, p n ∧ ∀ m, p m → n ≤ m := by
  obtain ⟨n, hn⟩ := h
  induction n using Nat.strongRecOn with
  | _ n ih =>
    by_cases hm : ∃ m, m < n ∧ p m
    · obtain ⟨m, hlt, hp⟩ := hm; exact ih m hlt hp
    · exact ⟨n, hn, fun m hp => Nat.le_of_not_lt fun hlt => hm ⟨m, hlt, hp⟩⟩

open Classical in
noncomputable def leastOf (p : Nat → Prop) : Nat := if h : ∃ n, p n then Classical.choose (exists_least h) else 0

theorem leastOf_spec {p : Nat → Prop} (h : ∃ n, p n) : p (leastOf p) ∧ ∀ m, p m → leastOf p ≤ m := by
  unfold leastOf; rw [dif_pos h]; exact Classical.choose_spec (exists_least h)

section
variable {P : Program} {r : Option Nat} {N : Nat} {k : Cont} {D : List Deferred} {e : Env} {w : World}

/-- A loop; the number falls with every round. -/
theorem W_loop {c : Code} {n t : List Deferred → Env → World → Prop} {b : Nat → List Deferred → Env → World → Prop} (I : Nat → List Deferred → Env → World → Prop) {μ : Nat} (h0 : I μ D e w)
    (round : ∀ μ D e w, I μ D e w → W P r N c ⟨fun D' e' w' => ∃ m, m < μ ∧ I m D' e' w', b, t⟩ D e w) : W P r N (.loop c) ⟨n, b, t⟩ D e w := by
  unfold W at *; intro a hs hd he; subst hd he
  refine wpIn_loop (fun a w => a.tmps.size = N ∧ ∃ n, I n a.defers (envOf a) w) (fun a w => leastOf fun n => I n a.defers (envOf a) w) ⟨hs, μ, h0⟩ ?_
  rintro a w ⟨hs, hI⟩
  obtain ⟨h1, h2⟩ := leastOf_spec hI
  refine wpIn_mono (round _ a.defers (envOf a) w h1 a hs rfl rfl) fun ex a' w' hq => ?_
  cases ex with
  | normal =>
    obtain ⟨hs', m, hm, hI'⟩ := hq
    exact ⟨⟨hs', m, hI'⟩, Nat.lt_of_le_of_lt ((leastOf_spec ⟨m, hI'⟩).2 m hI') hm⟩
  | exit id => exact hq
  | ret => exact hq
  | goto l => exact hq
  | panic c => exact hq
  | outgrown => exact hq

/-- A known slot is written into the environment. -/
theorem W_known {c : Code} (i : Nat) {v : Value} (hi : e i = v) (h : W P r N c k D (upd e i v) w) : W P r N c k D e w := by
  rwa [upd_self e hi] at h

theorem W_region {id : Nat} {l : List Oper} {n t : List Deferred → Env → World → Prop} {b : Nat → List Deferred → Env → World → Prop} (h : WL P r N l.toArray l n D e w) : W P r N (.region id l.toArray false) ⟨n, b, t⟩ D e w := by
  unfold W WL at *; intro a hs hd he
  exact wpIn_region_lit (h a _ hs hd he fun a' w' hs' hk => ⟨hs', hk⟩)

variable {ops : Array Oper} {rest : List Oper} {K : List Deferred → Env → World → Prop}

theorem WL_nil (h : K D e w) : WL P r N ops [] K D e w := by
  unfold WL; intro a Q hs hd he hK; subst hd he
  exact hK a w hs h

theorem about_trivial (o : Oper) (w : World) (ρ : Operand → Value) : ∀ f, o.about P w ρ = some f → (fc r).fn f := fun _ _ => trivial

/-- An operation that yields a value. -/
theorem WL_val {o : Oper} {d : Nat} {v : Value} {w' : World} (hg : o.guard = none) (hdst : o.dst = some d) (hd : Nat.ble (d + 1) N = true) (hdef : ∀ c, o.op ≠ .defer c)
    (hrun : (execOp (ev e) o).run P w = .ok (.value v) w') (h : WL P r N ops rest K D (upd e d v) w') : WL P r N ops (o :: rest) K D e w := by
  unfold WL at *; intro a Q hs hdd he hK
  have hlt : d < a.tmps.size := by rw [hs]; exact Nat.le_of_ble_eq_true hd
  have hrec := h (a.put (some d) v) Q (by simp [Act.put, hs]) (by simp [Act.put, hdd]) (by rw [envOf_put v hlt, he]) hK
  simp only [wpListIn, Region.wanted, hg, if_true]
  refine ⟨about_trivial o w _, ?_⟩
  have : Oper.semAt (fc r).round a.eval o = execOp (ev e) o := by rw [Oper.semAt_eq _ _ _ hdef, eval_eq, he]
  rw [this, hrun, Oper.uponIn_value, hdst]
  exact hrec

/-- An operation that yields nothing. -/
theorem WL_unit {o : Oper} {w' : World} (hg : o.guard = none) (hdst : o.dst = none) (hdef : ∀ c, o.op ≠ .defer c)
    (hrun : (execOp (ev e) o).run P w = .ok .skip w') (h : WL P r N ops rest K D e w') : WL P r N ops (o :: rest) K D e w := by
  unfold WL at *; intro a Q hs hdd he hK
  have hrec := h a Q hs hdd he hK
  simp only [wpListIn, Region.wanted, hg, if_true]
  refine ⟨about_trivial o w _, ?_⟩
  have : Oper.semAt (fc r).round a.eval o = execOp (ev e) o := by rw [Oper.semAt_eq _ _ _ hdef, eval_eq, he]
  rw [this, hrun, Oper.uponIn_skip, hdst]
  exact hrec

/-- A function's contract: it returns, and 'R' holds of the result and the world. -/
def Does (P : Program) (f : FuncId) (args : Array Value) (w : World) (R : Value → World → Prop) : Prop :=
  Calls P f args w fun en w' => ∃ v, en = .returned v ∧ R v w'

theorem Does.mono {f : FuncId} {args : Array Value} {R R' : Value → World → Prop} (h : Does P f args w R) (hr : ∀ v w', R v w' → R' v w') : Does P f args w R' :=
  Calls.mono h fun _ _ ⟨v, he, hv⟩ => ⟨v, he, hr v _ hv⟩

theorem callsIn_fc {f : FuncId} {args : Array Value} {n : Nat} {R : Ending → World → Prop} (h : Calls P f args w R) : CallsIn (fc r) n P f args w R :=
  ⟨trivial, fun cs _ => (callsIn_wide (n := 0).2 h).2 cs (room_wide _)⟩

/-- A call, met by a contract. -/
theorem WL_call {o : Oper} {d : Nat} {f : FuncId} {args : Array Value} {R : Value → World → Prop} (hg : o.guard = none) (hdst : o.dst = some d) (hd : Nat.ble (d + 1) N = true) (hdef : ∀ c, o.op ≠ .defer c)
    (hrun : (execOp (ev e) o).run P w = .ok (.enter f args) w) (hc : Does P f args w R) (h : ∀ v w', R v w' → WL P r N ops rest K D (upd e d v) w') : WL P r N ops (o :: rest) K D e w := by
  unfold WL at *; intro a Q hs hdd he hK
  have hlt : d < a.tmps.size := by rw [hs]; exact Nat.le_of_ble_eq_true hd
  simp only [wpListIn, Region.wanted, hg, if_true]
  refine ⟨about_trivial o w _, ?_⟩
  have : Oper.semAt (fc r).round a.eval o = execOp (ev e) o := by rw [Oper.semAt_eq _ _ _ hdef, eval_eq, he]
  rw [this, hrun, Oper.uponIn_enter]
  refine ⟨fun hh => by simp [fc, Fence.wide] at hh, callsIn_fc (Calls.mono hc ?_)⟩
  rintro en w' ⟨v, rfl, hv⟩
  rw [hdst]
  exact h v w' hv (a.put (some d) v) Q (by simp [Act.put, hs]) (by simp [Act.put, hdd]) (by rw [envOf_put v hlt, he]) hK

theorem WL_call0 {o : Oper} {f : FuncId} {args : Array Value} {R : Value → World → Prop} (hg : o.guard = none) (hdst : o.dst = none) (hdef : ∀ c, o.op ≠ .defer c)
    (hrun : (execOp (ev e) o).run P w = .ok (.enter f args) w) (hc : Does P f args w R) (h : ∀ v w', R v w' → WL P r N ops rest K D e w') : WL P r N ops (o :: rest) K D e w := by
  unfold WL at *; intro a Q hs hdd he hK
  simp only [wpListIn, Region.wanted, hg, if_true]
  refine ⟨about_trivial o w _, ?_⟩
  have : Oper.semAt (fc r).round a.eval o = execOp (ev e) o := by rw [Oper.semAt_eq _ _ _ hdef, eval_eq, he]
  rw [this, hrun, Oper.uponIn_enter]
  refine ⟨fun hh => by simp [fc, Fence.wide] at hh, callsIn_fc (Calls.mono hc ?_)⟩
  rintro en w' ⟨v, rfl, hv⟩
  rw [hdst]
  exact h v w' hv a Q hs hdd he hK

/-! ### Guards -/

def isB (want : Bool) : Value → Bool
  | .bool b => b == want
  | _ => false

theorem yielded_env {a : Act} {j s : Nat} (hs : (ops[j]?).bind (·.dst) = some s) (want : Bool) (hlt : s < a.tmps.size) : (yielded ops a.tmps j == some want) = isB want (envOf a s) := by
  unfold yielded envOf
  rw [hs]
  simp only [Option.bind_some, Array.getD_eq_getD_getElem?]
  rw [Array.getElem?_eq_getElem hlt]
  simp only [Option.getD_some]
  cases a.tmps[s] <;> simp [isB]

theorem WL_on {d : Option Nat} {op : Op} {t : TypeId} {p : String} {af : Array Edge} {j s : Nat} {want : Bool} (hs : (ops[j]?).bind (·.dst) = some s) (hlt : Nat.ble (s + 1) N = true)
    (hb : isB want (e s) = true) (h : WL P r N ops (⟨d, op, t, p, af, none⟩ :: rest) K D e w) : WL P r N ops (⟨d, op, t, p, af, some (j, want)⟩ :: rest) K D e w := by
  unfold WL at *; intro a Q hss hdd he hK
  have hh := h a Q hss hdd he hK
  have hw : Region.wanted ⟨d, op, t, p, af, some (j, want)⟩ (yielded ops a.tmps) = true := by
    simp only [Region.wanted]
    rw [yielded_env hs want (by rw [hss]; exact Nat.le_of_ble_eq_true hlt), he]; exact hb
  simp only [wpListIn, hw, if_true]
  simp only [wpListIn, Region.wanted, if_true] at hh
  exact hh

theorem WL_off {d : Nat} {op : Op} {t : TypeId} {p : String} {af : Array Edge} {j s : Nat} {want : Bool} (hs : (ops[j]?).bind (·.dst) = some s) (hlt : Nat.ble (s + 1) N = true)
    (hb : isB want (e s) = false) (hd : Nat.ble (d + 1) N = true) (h : WL P r N ops rest K D (upd e d undef) w) : WL P r N ops (⟨some d, op, t, p, af, some (j, want)⟩ :: rest) K D e w := by
  unfold WL at *; intro a Q hss hdd he hK
  have hlt' : d < a.tmps.size := by rw [hss]; exact Nat.le_of_ble_eq_true hd
  have hh := h (a.put (some d) undef) Q (by simp [Act.put, hss]) (by simp [Act.put, hdd]) (by rw [envOf_put undef hlt', he]) hK
  have hw : Region.wanted ⟨some d, op, t, p, af, some (j, want)⟩ (yielded ops a.tmps) = false := by
    simp only [Region.wanted]
    rw [yielded_env hs want (by rw [hss]; exact Nat.le_of_ble_eq_true hlt), he]; exact hb
  simp only [wpListIn, hw]
  exact ⟨about_trivial _ _ _, hh⟩

theorem WL_off0 {op : Op} {t : TypeId} {p : String} {af : Array Edge} {j s : Nat} {want : Bool} (hs : (ops[j]?).bind (·.dst) = some s) (hlt : Nat.ble (s + 1) N = true)
    (hb : isB want (e s) = false) (h : WL P r N ops rest K D e w) : WL P r N ops (⟨none, op, t, p, af, some (j, want)⟩ :: rest) K D e w := by
  unfold WL at *; intro a Q hss hdd he hK
  have hh := h a Q hss hdd he hK
  have hw : Region.wanted ⟨none, op, t, p, af, some (j, want)⟩ (yielded ops a.tmps) = false := by
    simp only [Region.wanted]
    rw [yielded_env hs want (by rw [hss]; exact Nat.le_of_ble_eq_true hlt), he]; exact hb
  simp only [wpListIn, hw]
  exact ⟨about_trivial _ _ _, hh⟩

/-! ### Entering a function -/

def initEnv (args : Array Value) : Env := fun i => args.getD i undef

def resEval (e : Env) : List ResultVar → Option (List Value)
  | [] => some []
  | .tmp t :: l => (resEval e l).map (e t :: ·)
  | .cell _ _ :: _ => none

theorem envOf_enter (args : Array Value) (m : Nat) : envOf { tmps := args ++ Array.replicate m undef, defers := [] } = initEnv args := by
  funext i
  simp only [envOf, initEnv, Array.getD_eq_getD_getElem?]
  rw [Array.getElem?_append]
  split
  · rfl
  · rename_i h
    rw [Array.getElem?_eq_none (xs := args) (by omega)]
    simp only [Array.getElem?_replicate]
    split <;> rfl

/-- What is asked at a function's end. -/
def RetPost (P : Program) (fn : Func) (R : Value → World → Prop) (D : List Deferred) (e : Env) (w : World) : Prop :=
  D = [] ∧ ∀ tmps : Array Value, envOf { tmps, defers := [] } = e → ∃ v, (results fn tmps).run P w = .ok v w ∧ R v w

theorem Does_enter {f : FuncId} {fn : Func} {c : Code} {args : Array Value} {R : Value → World → Prop} (hf : P.funcs[f]? = some fn) (hb : fn.body = some c) (hN : fn.ntmps = N) (hle : Nat.ble args.size N = true)
    (h : W P none N c ⟨RetPost P fn R, fun _ _ _ _ => False, RetPost P fn R⟩ [] (initEnv args) w) : Does P f args w R := by
  subst hN
  unfold W at h
  have hsz : (args ++ Array.replicate (fn.ntmps - args.size) undef).size = fn.ntmps := by
    have := Nat.le_of_ble_eq_true hle
    simp; omega
  have h1 := h { tmps := args ++ Array.replicate (fn.ntmps - args.size) undef, defers := [] } hsz rfl (envOf_enter _ _)
  refine callsIn_wide (n := 0).1 (callsIn_of_wp hf hb trivial (wpIn_mono h1 fun ex a w hq => ?_))
  cases ex with
  | normal => obtain ⟨_, hD, hq⟩ := hq; obtain ⟨v, h1, h2⟩ := hq a.tmps rfl; exact ⟨hD, v, h1, v, rfl, h2⟩
  | ret => obtain ⟨_, hD, hq⟩ := hq; obtain ⟨v, h1, h2⟩ := hq a.tmps rfl; exact ⟨hD, v, h1, v, rfl, h2⟩
  | exit id => exact hq.2
  | goto l => exact hq
  | panic c => exact hq.elim
  | outgrown => exact hq.elim

theorem ret_none {fn : Func} {R : Value → World → Prop} (h : fn.results = #[]) (hR : R (.tuple #[]) w) : RetPost P fn R [] e w :=
  ⟨rfl, fun tmps he => ⟨_, by simp [results, h], hR⟩⟩
theorem ret_1 {fn : Func} {R : Value → World → Prop} {t : Nat} (h : fn.results = #[.tmp t]) {v : Value} (hv : e t = v) (hR : R v w) : RetPost P fn R [] e w :=
  ⟨rfl, fun tmps he => by subst he; subst hv; exact ⟨_, by simp [results, h]; rfl, by simpa [envOf] using hR⟩⟩
theorem ret_2 {fn : Func} {R : Value → World → Prop} {t u : Nat} (h : fn.results = #[.tmp t, .tmp u]) {v v' : Value} (hv : e t = v) (hv' : e u = v') (hR : R (.tuple #[v, v']) w) : RetPost P fn R [] e w :=
  ⟨rfl, fun tmps he => by subst he; subst hv; subst hv'; exact ⟨_, by simp [results, h]; rfl, by simpa [envOf] using hR⟩⟩
theorem ret_4 {fn : Func} {R : Value → World → Prop} {t u x y : Nat} (h : fn.results = #[.tmp t, .tmp u, .tmp x, .tmp y]) {v1 v2 v3 v4 : Value} (h1 : e t = v1) (h2 : e u = v2) (h3 : e x = v3) (h4 : e y = v4) (hR : R (.tuple #[v1, v2, v3, v4]) w) : RetPost P fn R [] e w :=
  ⟨rfl, fun tmps he => by subst he; subst h1; subst h2; subst h3; subst h4; exact ⟨_, by simp [results, h]; rfl, by simpa [envOf] using hR⟩⟩
end
end Go.Fw
