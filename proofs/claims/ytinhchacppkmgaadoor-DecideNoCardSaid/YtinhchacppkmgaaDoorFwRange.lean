/-
  The framework: loops over functions (range over func): a call of yield, one round, the statement, and a function's end with a mark.
-/
import Derived.Test.YtinhchacppkmgaaDoorFwMem2
import Derived.RangeFuncRecord
namespace Go.Fw
open Go.RowKit

/-- yield of the loop 'l', called at 'args': the round returns, and 'R' holds of the result and the world. -/
def Yld (P : Program) (l : Nat) (args : Array Value) (w : World) (R : Value → World → Prop) : Prop :=
  ∃ rc : Loop, w.heap[l]? = some (.loop rc) ∧ args.size = rc.params.size ∧
    RoundIn Fence.wide 0 P l rc.fn ((rc.params.zip args).foldl (fun tmps (t, a) => tmps.setIfInBounds t a) rc.tmps) rc.assign rc.body w fun en w' => ∃ v, en = .returned v ∧ R v w'

theorem Yld.mono {P : Program} {l : Nat} {args : Array Value} {w : World} {R R' : Value → World → Prop} (h : Yld P l args w R) (hr : ∀ v w', R v w' → R' v w') : Yld P l args w R' := by
  obtain ⟨rc, h1, h2, h3⟩ := h
  exact ⟨rc, h1, h2, h3.mono fun _ _ ⟨v, he, hv⟩ => ⟨v, he, hr v _ hv⟩⟩

theorem roundIn_fc {P : Program} {r : Option Nat} {l n : Nat} {f : FuncId} {tmps : Array Value} {assign body : Code} {w : World} {R : Ending → World → Prop} (h : RoundIn Fence.wide 0 P l f tmps assign body w R) : RoundIn (fc r) n P l f tmps assign body w R :=
  ⟨trivial, fun c cs _ => h.2 c cs (room_wide _)⟩

section
variable {P : Program} {r : Option Nat} {N : Nat} {D : List Deferred} {e : Env} {w : World}
variable {ops : Array Oper} {rest : List Oper} {K : List Deferred → Env → World → Prop} {d : Nat} {t : TypeId} {p : String} {af : Array Edge}

/-- A call of yield. -/
theorem o_yield {g : Operand} {l : Nat} {args : Array Operand} {at_ : Array TypeId} {vs : List Value} {R : Value → World → Prop} (hg : ev e g = .func (.yield l) #[] #[])
    (hvs : args.toList.map (ev e) = vs) (hd : Nat.ble (d + 1) N = true)
    (hc : Yld P l vs.toArray w R) (h : ∀ v w', R v w' → WL P r N ops rest K D (upd e d v) w') :
    WL P r N ops (⟨some d, .call { callee := .value g, args := args, argTypes := at_ }, t, p, af, none⟩ :: rest) K D e w := by
  obtain ⟨rc, h1, h2, h3⟩ := hc
  subst hvs
  have hargs : (args.map (ev e)) = (args.toList.map (ev e)).toArray := by apply Array.ext'; simp
  unfold WL at *; intro a Q hs hdd he hK
  have hlt : d < a.tmps.size := by rw [hs]; exact Nat.le_of_ble_eq_true hd
  simp only [wpListIn, Region.wanted, if_true]
  refine ⟨about_trivial _ w _, ?_⟩
  rw [Oper.semAt_eq _ _ _ (by simp), eval_eq, he]
  have hrun : (execOp (ev e) ⟨some d, .call { callee := .value g, args := args, argTypes := at_ }, t, p, af, none⟩).run P w =
      .ok (.round l rc.fn ((rc.params.zip (args.toList.map (ev e)).toArray).foldl (fun tmps (t, a) => tmps.setIfInBounds t a) rc.tmps) rc.assign rc.body) w := by
    have := run_yield (P := P) h1 h2
    simp [execOp, resolve, Deferred.ofValue, invoke, hg, hargs, this]
  rw [hrun, Oper.uponIn_round]
  refine ⟨fun hh => by simp [fc, Fence.wide] at hh, roundIn_fc (h3.mono ?_)⟩
  rintro en w' ⟨v, rfl, hv⟩
  exact h v w' hv (a.put (some d) v) Q (by simp [Act.put, hs]) (by simp [Act.put, hdd]) (by rw [envOf_put v hlt, he]) hK

/-- What is asked at a round's end. -/
def RoundPost (l : Nat) (jump : Option Code) (R : Value → World → Prop) (w : World) : Prop :=
  ∃ rc : Loop, w.heap[l]? = some (.loop rc) ∧ R (.bool jump.isNone) (w.putObj l (.loop { rc with state := if jump.isNone then .ready else .done, pending := jump }))

/-- A round of two variables. -/
theorem yields2 {l p q N : Nat} {rc : Loop} {x y : Value} {assign body : Code} {R : Value → World → Prop} (hl : w.heap[l]? = some (.loop rc)) (hr : rc.state = .ready) (hN : rc.tmps.size = N) (he0 : envOf { tmps := rc.tmps, defers := [] } = e) (hps : rc.params = #[p, q]) (has : rc.assign = assign) (hbo : rc.body = body) (hp : Nat.ble (p + 1) N = true) (hq : Nat.ble (q + 1) N = true)
    (h : W P (some l) N assign ⟨fun D e w1 => w1.heap[l]? = some (.loop rc) ∧
        W P (some l) N body ⟨fun _ _ w3 => RoundPost l none R w3, fun id _ _ w3 => RoundPost l (some (.exit id)) R w3, fun _ _ w3 => RoundPost l (some .ret) R w3⟩ D e (w1.putObj l (.loop { rc with state := .busy })),
      fun _ _ _ _ => False, fun _ _ _ => False⟩ [] (upd (upd e p x) q y) w) : Yld P l #[x, y] w R := by
  subst he0 has hbo
  have hp' := Nat.le_of_ble_eq_true hp
  have hq' := Nat.le_of_ble_eq_true hq
  refine ⟨rc, hl, by simp [hps], ?_⟩
  have hz : (rc.params.zip #[x, y]).foldl (fun tmps (t, a) => tmps.setIfInBounds t a) rc.tmps = (rc.tmps.setIfInBounds p x).setIfInBounds q y := by rw [hps]; simp
  rw [hz]
  refine roundIn_of_wpIn (F := Fence.wide) trivial ?_
  unfold W at h
  have he : envOf { tmps := (rc.tmps.setIfInBounds p x).setIfInBounds q y, defers := [] } = upd (upd (envOf { tmps := rc.tmps, defers := [] }) p x) q y := by
    have h1 := envOf_put (a := { tmps := rc.tmps, defers := [] }) (d := p) x (by simp; omega)
    have h2 := envOf_put (a := { tmps := rc.tmps.setIfInBounds p x, defers := [] }) (d := q) y (by simp; omega)
    simp only [Act.put] at h1 h2
    rw [h2, ← h1]
  refine wpIn_mono (h { tmps := (rc.tmps.setIfInBounds p x).setIfInBounds q y, defers := [] } (by simp [hN]) rfl he) fun ex a w1 hq => ?_
  cases ex with
  | normal =>
    obtain ⟨hs, hl1, hb⟩ := hq
    refine ⟨_, run_beginRound hl1 hr, wpIn_mono (hb a hs rfl rfl) fun ex a w3 hq => ?_⟩
    cases ex with
    | normal => obtain ⟨_, rc3, h3, hR⟩ := hq; exact ⟨_, _, run_endRound none h3, _, rfl, hR⟩
    | ret => obtain ⟨_, rc3, h3, hR⟩ := hq; exact ⟨_, _, run_endRound (some .ret) h3, _, rfl, hR⟩
    | exit id => obtain ⟨_, rc3, h3, hR⟩ := hq; exact ⟨_, _, run_endRound (some (.exit id)) h3, _, rfl, hR⟩
    | goto l => exact hq.elim
    | panic c => exact hq.elim
    | outgrown => exact hq.elim
  | exit id => exact hq.2
  | ret => exact hq.2
  | goto l => exact hq.elim
  | panic c => exact hq.elim
  | outgrown => exact hq.elim

/-- The record of a loop over a function that begins. -/
def rec0 (fn : FuncId) (tm : Array Value) (ps : Array Tmp) (assign body : Code) (df : Nat) : Loop := { state := .ready, pending := none, fn, tmps := tm, params := ps, assign, body, defers := df }
def mark0 (b : Nat) : Deferred := { target := .collected b, args := #[] }

/-- The statement. -/
theorem W_rangeFunc {g : Operand} {ps : Array Tmp} {assign body : Code} {f : FuncId} {caps : Array Value} {vs : Value → Array Value} {n t : List Deferred → Env → World → Prop} {b : Nat → List Deferred → Env → World → Prop}
    (hH : Has P f) (hg : ev e g = .func (.func f) #[] caps) (hvs : ∀ y, #[y] ++ caps = vs y)
    (h : ∀ (rc : Loop) (wi : World), rc.state = .ready → rc.pending = none → rc.tmps.size = N → envOf { tmps := rc.tmps, defers := [] } = e → rc.params = ps → rc.assign = assign → rc.body = body →
      wi.heap[w.heap.size]? = some (.deferred (some [])) → wi.heap[w.heap.size + 1]? = some (.loop rc) → Below w.heap.size w wi → wi.heap.size = w.heap.size + 2 →
      Does P f (vs (.func (.yield (w.heap.size + 1)) #[] #[])) wi fun _ w3 =>
        ∃ rc : Loop, w3.heap[w.heap.size + 1]? = some (.loop rc) ∧ rc.state ≠ .busy ∧
          ((rc.pending = none ∧ n (mark0 w.heap.size :: D) e (w3.putObj (w.heap.size + 1) (.loop { rc with state := .exhausted }))) ∨
           (rc.pending = some .ret ∧ t (mark0 w.heap.size :: D) e (w3.putObj (w.heap.size + 1) (.loop { rc with state := .exhausted }))))) :
    W P none N (.rangeFunc g ps assign body) ⟨n, b, t⟩ D e w := by
  unfold W; intro a hs hd he
  have hea : envOf { tmps := a.tmps, defers := [] } = e := he
  refine wpIn_rangeFunc (F := fc none) (n := 0) ?_
  intro fn _
  have hi1 : ((w.alloc (.deferred (some []))).alloc (.loop (rec0 fn a.tmps ps assign body w.heap.size))).heap[w.heap.size]? = some (.deferred (some [])) :=
    (Below.heap_alloc _ _ _ (by simp)).trans (World.alloc_heap_new w _)
  have hi2 : ((w.alloc (.deferred (some []))).alloc (.loop (rec0 fn a.tmps ps assign body w.heap.size))).heap[w.heap.size + 1]? = some (.loop (rec0 fn a.tmps ps assign body w.heap.size)) := by
    have := World.alloc_heap_new (w.alloc (.deferred (some []))) (.loop (rec0 fn a.tmps ps assign body w.heap.size)); rwa [World.size_alloc] at this
  have hi3 : Below w.heap.size w ((w.alloc (.deferred (some []))).alloc (.loop (rec0 fn a.tmps ps assign body w.heap.size))) := (((Below.refl _ w).alloc (Nat.le_refl _) _).alloc (by simp) _)
  have h1 := h (rec0 fn a.tmps ps assign body w.heap.size) _ rfl rfl hs hea rfl rfl rfl hi1 hi2 hi3 (by simp)
  rw [← hvs] at h1
  have hag : a.eval g = .func (.func f) #[] caps := by rw [eval_eq, he]; exact hg
  have hen := run_enterLoop_outer (P := P) (w := w) fn a.tmps ps assign body
  change (Instr.enterLoop fn a.tmps ps assign body none).run P w = .ok (w.heap.size + 1, [mark0 w.heap.size]) ((w.alloc (.deferred (some []))).alloc (.loop (rec0 fn a.tmps ps assign body w.heap.size))) at hen
  clear hi1 hi2 hi3
  generalize ((w.alloc (.deferred (some []))).alloc (.loop (rec0 fn a.tmps ps assign body w.heap.size))) = W1 at h1 hen
  have hres : (resolve a.eval (rangeCall g (w.heap.size + 1)) 0).run P W1 = .ok { target := .fn (.func f) caps, args := #[.func (.yield (w.heap.size + 1)) #[] #[]] } W1 := by
    simp only [resolve, hag]; simp [go_sem]
  have hinv : (invoke (.fn (.func f) caps) #[.func (.yield (w.heap.size + 1)) #[] #[]]).run P W1 = .ok (.enter f (#[.func (.yield (w.heap.size + 1)) #[] #[]] ++ caps)) W1 := by
    simp [invoke, go_sem, hH _ _]
  refine ⟨w.heap.size + 1, [mark0 w.heap.size], W1, { target := .fn (.func f) caps, args := #[.func (.yield (w.heap.size + 1)) #[] #[]] }, W1, f, #[.func (.yield (w.heap.size + 1)) #[] #[]] ++ caps, W1, hen, hres, fun _ _ => trivial, hinv, fun hh => (by simp [fc, Fence.wide] at hh), ?_⟩
  refine callsIn_fc (Calls.mono h1 ?_)
  rintro en w3 ⟨v, rfl, rc, hl, hst, hcase⟩
  have hend := run_endLoop (P := P) hl hst
  generalize (w3.putObj (w.heap.size + 1) (.loop { rc with state := .exhausted })) = W4 at hend hcase
  refine ⟨rc.pending, W4, hend, ?_⟩
  subst hd
  have henv : envOf { tmps := a.tmps, defers := [mark0 w.heap.size] ++ a.defers } = e := hea
  rcases hcase with ⟨hp, hn⟩ | ⟨hp, ht⟩
  · rw [hp]
    show a.tmps.size = N ∧ n (mark0 w.heap.size :: a.defers) (envOf _) W4
    rw [henv]; exact ⟨hs, hn⟩
  · rw [hp]
    refine wpIn_ret ?_
    show a.tmps.size = N ∧ t (mark0 w.heap.size :: a.defers) (envOf _) W4
    rw [henv]; exact ⟨hs, ht⟩

theorem hasBlk.putObj {w : World} {l : Nat} {o : Obj} {b : Blk} (h : hasBlk w b) (hne : b.1 ≠ l) : hasBlk (w.putObj l o) b := by
  unfold hasBlk at *; rw [World.putObj_heap_other hne]; exact h
theorem BelowB.putObj {M : List Nat} {w0 w : World} {l : Nat} (o : Obj) (h : BelowB M w0 w) (hl : w0.heap.size ≤ l ∨ l ∈ M) : BelowB M w0 (w.putObj l o) :=
  ⟨h.os, h.tape, h.output, by simpa using h.size, fun k hk hm => by
    rw [World.putObj_heap_other]; exact h.block k hk hm
    intro hh; subst hh; rcases hl with hl | hl
    · omega
    · exact hm hl⟩
theorem BelowB.step {Ms : List Nat} {w0 w w' : World} (h : BelowB [] w0 w) (k : BelowB Ms w w') (hM : ∀ g ∈ Ms, w0.heap.size ≤ g) : BelowB [] w0 w' :=
  ⟨k.os.trans h.os, k.tape.trans h.tape, k.output.trans h.output, Nat.le_trans h.size k.size, fun i hi hm => (k.block i (Nat.lt_of_lt_of_le hi h.size) (fun hh => by have := hM i hh; omega)).trans (h.block i hi hm)⟩
theorem keep_putObj (w : World) (l : Nat) (o : Obj) : Keep [l] w (w.putObj l o) := ⟨by simp, fun k _ hm => World.putObj_heap_other (by simpa using hm)⟩

/-- What is asked at the end of a function that may have come through one loop over a function. -/
def RetPostM (P : Program) (fn : Func) (R : Value → World → Prop) (D : List Deferred) (e : Env) (w : World) : Prop :=
  (D = [] ∧ ∀ tmps : Array Value, envOf { tmps, defers := [] } = e → ∃ v, (results fn tmps).run P w = .ok v w ∧ R v w) ∨
  ∃ r, D = [mark0 r] ∧ w.heap[r]? = some (.deferred (some [])) ∧ ∀ tmps : Array Value, envOf { tmps, defers := [] } = e → ∃ v, (results fn tmps).run P (w.putObj r (.deferred none)) = .ok v (w.putObj r (.deferred none)) ∧ R v (w.putObj r (.deferred none))

theorem Does_enterM {f : FuncId} {fn : Func} {c : Code} {args : Array Value} {R : Value → World → Prop} (hf : P.funcs[f]? = some fn) (hb : fn.body = some c) (hN : fn.ntmps = N) (hle : Nat.ble args.size N = true)
    (h : W P none N c ⟨RetPostM P fn R, fun _ _ _ _ => False, RetPostM P fn R⟩ [] (initEnv args) w) : Does P f args w R := by
  subst hN
  unfold W at h
  have hsz : (args ++ Array.replicate (fn.ntmps - args.size) undef).size = fn.ntmps := by
    have := Nat.le_of_ble_eq_true hle
    simp; omega
  have h1 := h { tmps := args ++ Array.replicate (fn.ntmps - args.size) undef, defers := [] } hsz rfl (envOf_enter _ _)
  have key : ∀ (a : Act) (w : World), RetPostM P fn R a.defers (envOf a) w → LeavesInM Fence.wide 0 P fn a.tmps (fun en w' => ∃ v, en = .returned v ∧ R v w') a.defers .returning w := by
    intro a w hq
    rcases hq with ⟨hD, hq⟩ | ⟨r, hD, hr, hq⟩
    · obtain ⟨v, h1, h2⟩ := hq a.tmps rfl
      rw [hD]; exact ⟨v, h1, v, rfl, h2⟩
    · obtain ⟨v, h1, h2⟩ := hq a.tmps rfl
      rw [hD]
      exact ⟨by simp, .inl ⟨r, _, rfl, run_takeDeferred hr, v, h1, v, rfl, h2⟩⟩
  refine callsIn_wide (n := 0).1 (callsIn_of_wp_marks hf hb trivial (wpIn_mono h1 fun ex a w hq => ?_))
  cases ex with
  | normal => exact key a w hq.2
  | ret => exact key a w hq.2
  | exit id => exact hq.2
  | goto l => exact hq
  | panic c => exact hq.elim
  | outgrown => exact hq.elim

/-- Four results that lie in cells. -/
theorem run_results_cells4 {fn : Func} {a1 a2 a3 a4 t1 t2 t3 t4 : Nat} {g1 g2 g3 g4 : Nat} {v1 v2 v3 v4 : Value} (h : fn.results = #[.cell a1 t1, .cell a2 t2, .cell a3 t3, .cell a4 t4])
    (o1 : One P t1) (o2 : One P t2) (o3 : One P t3) (o4 : One P t4) (e1 : e a1 = .pointer (some ⟨g1, 0, none⟩)) (e2 : e a2 = .pointer (some ⟨g2, 0, none⟩)) (e3 : e a3 = .pointer (some ⟨g3, 0, none⟩)) (e4 : e a4 = .pointer (some ⟨g4, 0, none⟩))
    (c1 : w.cell? ⟨g1, 0, none⟩ = some v1) (c2 : w.cell? ⟨g2, 0, none⟩ = some v2) (c3 : w.cell? ⟨g3, 0, none⟩ = some v3) (c4 : w.cell? ⟨g4, 0, none⟩ = some v4)
    {tmps : Array Value} (he : envOf { tmps, defers := [] } = e) : (results fn tmps).run P w = .ok (.tuple #[v1, v2, v3, v4]) w := by
  subst he
  simp only [envOf, Array.getD_eq_getD_getElem?] at e1 e2 e3 e4
  have hl : ∀ (t g : Nat) (v : Value), One P t → w.cell? ⟨g, 0, none⟩ = some v → (loadVar t ⟨g, 0, none⟩).run P w = .ok v w := fun t g v ho hc => by rw [ho w]; simp [load, Sem.run, hc]
  simp [results, h, asAddr, e1, e2, e3, e4, hl _ _ _ o1 c1, hl _ _ _ o2 c2, hl _ _ _ o3 c3, hl _ _ _ o4 c4]
end
end Go.Fw
