/-
  Part 2 of 5 of a proof: ScheduleText of package relyguardlaw13 returns true for every input, and its arguments read as before.
  Conditions: those of the given row (the listed package variables as the program's text lays them).
-/
import Derived.Test.YtgnbfmifjlnigaaGreatDoorZScheduleText1
import Derived.Maps.Keyed
import Derived.Carry
import Derived.StringKeys
namespace Go.Fw
open Go.RowKit
section
variable {M : List Nat} {w : World}
theorem RdProg.open_ {p : ProgD} {cs : List Value} (h : RdProg M w p cs) : ∃ Ac nc cc Am nm cm Al nl cl At nt ct, cs = [.slice Ac nc cc, .slice Am nm cm, .slice Al nl cl, .slice At nt ct] ∧
    RdCs M w (.slice Ac nc cc) p.cells ∧ RdCo M w (.slice Am nm cm) p.modules ∧ RdLk M w (.slice Al nl cl) p.locks ∧ RdTh M w (.slice At nt ct) p.threads ∧
    nc = p.cells.length ∧ nm = p.modules.length ∧ nl = p.locks.length ∧ nt = p.threads.length ∧ nc ≤ 140737488355328 ∧ nm ≤ 140737488355328 ∧ nl ≤ 140737488355328 ∧ nt ≤ 140737488355328 := by
  obtain ⟨vc, vm, vl, vt, rfl, h1, h2, h3, h4⟩ := h
  obtain ⟨Ac, nc, cc, rfl⟩ := h1.form
  obtain ⟨Am, nm, cm, rfl⟩ := h2.form
  obtain ⟨Al, nl, cl, rfl⟩ := h3.form
  obtain ⟨At, nt, ct, rfl⟩ := h4.form
  exact ⟨_, _, _, _, _, _, _, _, _, _, _, _, rfl, h1, h2, h3, h4, h1.len.1, h2.len.1, h3.len.1, h4.len.1, h1.len.2.2, h2.len.2.2, h3.len.2.2, h4.len.2.2⟩
theorem RdE.cells {e : E} {cs : List Value} (h : RdE M w e cs) : ∃ A n c, cs = [.int .i64 e.op, .int .i64 e.w, .int .i64 e.n, .slice A n c] ∧ n = e.kids.length ∧ n ≤ 140737488355328 ∧ i64 e.op ∧ i64 e.w ∧ i64 e.n := by
  obtain ⟨A, n, c, rfl, o1, o2, o3, hn, hc, hm, hbig, hks⟩ := h.open_
  exact ⟨A, n, c, rfl, hn, hbig, o1, o2, o3⟩
theorem RAssign.open_ {a : AssignD} {cs : List Value} (h : RAssign M w cs a) : ∃ A n c, cs = [.int .i64 a.cell, .int .i64 a.to.op, .int .i64 a.to.w, .int .i64 a.to.n, .slice A n c] ∧ i64 a.cell ∧ RdE M w a.to [.int .i64 a.to.op, .int .i64 a.to.w, .int .i64 a.to.n, .slice A n c] := by
  obtain ⟨ce, rfl, h1, h2⟩ := h
  obtain ⟨A, n, c, rfl, _⟩ := h2.cells
  exact ⟨A, n, c, rfl, h1, h2⟩
theorem RStep.open_ {s : StepD} {cs : List Value} (h : RStep M w cs s) : ∃ Ag ng cg As ns cs', cs = [.int .i64 s.kind, .int .i64 s.frm, .int .i64 s.to, .int .i64 s.guard.op, .int .i64 s.guard.w, .int .i64 s.guard.n, .slice Ag ng cg, .slice As ns cs', .bool s.release, .int .i64 s.target, .int .i64 s.module_] ∧
    (i64 s.kind ∧ i64 s.frm ∧ i64 s.to ∧ i64 s.target ∧ i64 s.module_) ∧ RdE M w s.guard [.int .i64 s.guard.op, .int .i64 s.guard.w, .int .i64 s.guard.n, .slice Ag ng cg] ∧ RdAs M w (.slice As ns cs') s.set ∧ ns = s.set.length ∧ ns ≤ 140737488355328 := by
  obtain ⟨g0, g1, g2, g3, vs, rfl, h1, h2, h3, h4, h5, h6, h7⟩ := h
  obtain ⟨A, n, c, he, _⟩ := h6.cells
  simp only [List.cons.injEq, and_true] at he
  obtain ⟨rfl, rfl, rfl, rfl⟩ := he
  obtain ⟨As, ns, cs', rfl⟩ := h7.form
  exact ⟨_, _, _, _, _, _, rfl, ⟨h1, h2, h3, h4, h5⟩, h6, h7, h7.len.1, h7.len.2.2⟩
theorem RLoop.open_ {l : LoopD} {cs : List Value} (h : RLoop M w cs l) : ∃ Ab nb cb Ag ng cg, cs = [.int .i64 l.head, .slice Ab nb cb, .int .i64 l.variant.op, .int .i64 l.variant.w, .int .i64 l.variant.n, .slice Ag ng cg] ∧ i64 l.head ∧ RdI M w (.slice Ab nb cb) l.body ∧
    RdE M w l.variant [.int .i64 l.variant.op, .int .i64 l.variant.w, .int .i64 l.variant.n, .slice Ag ng cg] ∧ nb = l.body.length ∧ nb ≤ 140737488355328 := by
  obtain ⟨vb, g0, g1, g2, g3, rfl, h1, h2, h3⟩ := h
  obtain ⟨A, n, c, he, _⟩ := h3.cells
  simp only [List.cons.injEq, and_true] at he
  obtain ⟨rfl, rfl, rfl, rfl⟩ := he
  obtain ⟨Ab, nb, cb, rfl⟩ := h2.form
  exact ⟨_, _, _, _, _, _, rfl, h1, h2, h3, h2.len.1, h2.len.2.2⟩
theorem RThread.open_ {t : ThreadD} {cs : List Value} (h : RThread M w cs t) : ∃ Aa na ca Am nm cm As ns cs' Al nl cl, cs = [.string t.name, .int .i64 t.points, .slice Aa na ca, .slice Am nm cm, .slice As ns cs', .slice Al nl cl, .bool t.asleep] ∧ i64 t.points ∧
    RdEs M w (.slice Aa na ca) t.asserts ∧ RdI M w (.slice Am nm cm) t.modules ∧ RdSt M w (.slice As ns cs') t.steps ∧ RdLo M w (.slice Al nl cl) t.loops ∧
    na = t.asserts.length ∧ nm = t.modules.length ∧ ns = t.steps.length ∧ nl = t.loops.length ∧ na ≤ 140737488355328 ∧ nm ≤ 140737488355328 ∧ ns ≤ 140737488355328 ∧ nl ≤ 140737488355328 := by
  obtain ⟨va, vm, vs, vl, rfl, h0, h1, h2, h3, h4⟩ := h
  obtain ⟨Aa, na, ca, rfl⟩ := h1.form
  obtain ⟨Am, nm, cm, rfl⟩ := h2.form
  obtain ⟨As, ns, cs', rfl⟩ := h3.form
  obtain ⟨Al, nl, cl, rfl⟩ := h4.form
  exact ⟨_, _, _, _, _, _, _, _, _, _, _, _, rfl, h0, h1, h2, h3, h4, h1.len.1, h2.len.1, h3.len.1, h4.len.1, h1.len.2.2, h2.len.2.2, h3.len.2.2, h4.len.2.2⟩
theorem RContract.open_ {c : ContractD} {cs : List Value} (h : RContract M w cs c) : ∃ Ar nr cr Ag ng cg Af nf cf, cs = [.string c.name, .string c.owner, .int .i64 c.rely.op, .int .i64 c.rely.w, .int .i64 c.rely.n, .slice Ar nr cr, .int .i64 c.guar.op, .int .i64 c.guar.w, .int .i64 c.guar.n, .slice Ag ng cg, .slice Af nf cf] ∧
    RdE M w c.rely [.int .i64 c.rely.op, .int .i64 c.rely.w, .int .i64 c.rely.n, .slice Ar nr cr] ∧ RdE M w c.guar [.int .i64 c.guar.op, .int .i64 c.guar.w, .int .i64 c.guar.n, .slice Ag ng cg] ∧ RdI M w (.slice Af nf cf) c.frame ∧ nf = c.frame.length ∧ nf ≤ 140737488355328 := by
  obtain ⟨g0, g1, g2, g3, k0, k1, k2, k3, vf, rfl, h1, h2, h3⟩ := h
  obtain ⟨A, n, c', he, _⟩ := h1.cells
  simp only [List.cons.injEq, and_true] at he
  obtain ⟨rfl, rfl, rfl, rfl⟩ := he
  obtain ⟨A2, n2, c2, he, _⟩ := h2.cells
  simp only [List.cons.injEq, and_true] at he
  obtain ⟨rfl, rfl, rfl, rfl⟩ := he
  obtain ⟨Af, nf, cf, rfl⟩ := h3.form
  exact ⟨_, _, _, _, _, _, _, _, _, rfl, h1, h2, h3, h3.len.1, h3.len.2.2⟩
theorem RLock.open_ {l : LockD} {cs : List Value} (h : RLock M w cs l) : ∃ Ag ng cg, cs = [.int .i64 l.cell, .int .i64 l.inv.op, .int .i64 l.inv.w, .int .i64 l.inv.n, .slice Ag ng cg, .int .i64 l.module_] ∧ i64 l.cell ∧ i64 l.module_ ∧ RdE M w l.inv [.int .i64 l.inv.op, .int .i64 l.inv.w, .int .i64 l.inv.n, .slice Ag ng cg] := by
  obtain ⟨g0, g1, g2, g3, rfl, h1, h2, h3⟩ := h
  obtain ⟨A, n, c, he, _⟩ := h3.cells
  simp only [List.cons.injEq, and_true] at he
  obtain ⟨rfl, rfl, rfl, rfl⟩ := he
  exact ⟨_, _, _, rfl, h1, h2, h3⟩
theorem RCell.open_ {c : CellD} {cs : List Value} (h : RCell cs c) : cs = [.string c.name, .int .i64 c.w, .int .i64 c.init, .int .i64 c.thread, .bool c.ghost, .int .i64 c.module_] ∧ i64 c.w ∧ i64 c.init ∧ i64 c.thread ∧ i64 c.module_ := h
end
section
variable {cells : List CellD} {x : Int} {c : CellD}
theorem thr_some (h : cells[x.toNat]? = some c) : thrAt cells x = c.thread := by unfold thrAt; rw [List.getD_eq_getElem?_getD, h]; rfl
theorem gh_some (h : cells[x.toNat]? = some c) : ghAt cells x = c.ghost := by unfold ghAt; rw [List.getD_eq_getElem?_getD, h]; rfl
theorem w_some (h0 : 0 ≤ x) (h : cells[x.toNat]? = some c) : wAt cells x = c.w := by unfold wAt; rw [if_pos h0, h]; rfl
end
theorem rising_at {l : List Int} {i j : Nat} {x y : Int} (h : rising l) (hx : l[i]? = some x) (hy : l[j]? = some y) (hij : i < j) : x < y := by
  obtain ⟨h1, rfl⟩ := List.getElem?_eq_some_iff.1 hx
  obtain ⟨h2, rfl⟩ := List.getElem?_eq_some_iff.1 hy
  exact (List.pairwise_iff_getElem.1 h) i j h1 h2 hij
theorem valid_cell {cells : List CellD} {pair : Bool} {e : E} (h : e.valid cells pair = true) (ho : e.op = 2) : 0 ≤ e.n ∧ e.n < cells.length := by
  obtain ⟨_, h2, h3⟩ := valid_parts h
  have := valid_occ (.inl rfl) e 40 h2 h3 e.n (by rw [E.occ_def]; simp [ho])
  omega
theorem E.ext {a b : E} (h1 : a.op = b.op) (h2 : a.w = b.w) (h3 : a.n = b.n) (h4 : a.kids = b.kids) : a = b := by
  cases a; cases b; simp only at h1 h2 h3 h4; subst h1 h2 h3 h4; rfl
end Go.Fw
namespace Go.Fw
open Go.RowKit
theorem run_results_cell1 {P : Program} {fn : Func} {e : Env} {w : World} {a t n g : Nat} {cs : List Value} (h : fn.results = #[.cell a t]) (hM : Many P t n) (ha : e a = .pointer (some ⟨g, 0, none⟩)) (hc : Cells w g 0 cs) (hn : cs.length = n)
    {tmps : Array Value} (he : envOf { tmps, defers := [] } = e) : (results fn tmps).run P w = .ok (.agg cs.toArray) w := by
  subst he; subst hn
  simp only [envOf, Array.getD_eq_getD_getElem?] at ha
  have := run_loadCells_list (P := P) w ⟨g, 0, none⟩ cs (fun j v hj => by rw [Addr.add_lit]; exact hc j v hj)
  simp [results, h, asAddr, ha, hM w, this]
theorem ret_cell1 {P : Program} {fn : Func} {e : Env} {w : World} {R : Value → World → Prop} {a t n g : Nat} {cs : List Value} (h : fn.results = #[.cell a t]) (hM : Many P t n) (ha : e a = .pointer (some ⟨g, 0, none⟩)) (hc : Cells w g 0 cs) (hn : cs.length = n)
    (hR : R (.agg cs.toArray) w) : RetPost P fn R [] e w :=
  ⟨rfl, fun _ he => ⟨_, run_results_cell1 h hM ha hc hn he, hR⟩⟩
theorem ret_cell_tmp {P : Program} {fn : Func} {e : Env} {w : World} {R : Value → World → Prop} {a t n g u : Nat} {cs : List Value} {v : Value} (h : fn.results = #[.cell a t, .tmp u]) (hM : Many P t n) (ha : e a = .pointer (some ⟨g, 0, none⟩)) (hc : Cells w g 0 cs) (hn : cs.length = n) (hu : e u = v)
    (hR : R (.tuple #[.agg cs.toArray, v]) w) : RetPost P fn R [] e w := by
  refine ⟨rfl, fun tmps he => ⟨_, ?_, hR⟩⟩
  subst he; subst hn; subst hu
  simp only [envOf, Array.getD_eq_getD_getElem?] at ha
  have := run_loadCells_list (P := P) w ⟨g, 0, none⟩ cs (fun j v hj => by rw [Addr.add_lit]; exact hc j v hj)
  simp [results, h, asAddr, ha, hM w, this, envOf]
theorem rdE_leaf {M : List Nat} {w : World} {op wd n : Int} (h1 : i64 op) (h2 : i64 wd) (h3 : i64 n) : RdE M w ⟨op, wd, n, []⟩ [.int .i64 op, .int .i64 wd, .int .i64 n, .slice none 0 0] := by
  rw [RdE]; exact ⟨none, 0, 0, rfl, h1, h2, h3, rfl, Nat.le_refl _, by unfold maxLen; omega, by omega, fun h => absurd h (by omega)⟩
theorem rdE_two {M : List Nat} {w : World} {op wd : Int} {a b : E} {ca cb : List Value} {g : Nat} (h1 : i64 op) (h2 : i64 wd) (hg : g ∉ M) (hc : Cells w g 0 (ca ++ cb)) (ha : RdE M w a ca) (hb : RdE M w b cb) :
    RdE M w ⟨op, wd, 0, [a, b]⟩ [.int .i64 op, .int .i64 wd, .int .i64 0, .slice (some ⟨g, 0, none⟩) 2 2] := by
  have la := ha.length
  rw [RdE]
  refine ⟨_, 2, 2, rfl, h1, h2, by unfold i64; simp, rfl, Nat.le_refl _, by unfold maxLen; omega, by omega, fun _ => ⟨g, 0, rfl, hg, fun i hi => ?_⟩⟩
  have hi2 : i < 2 := hi
  rcases (show i = 0 ∨ i = 1 by omega) with rfl | rfl
  · refine ⟨ca, fun j v hj => ?_, ha⟩
    have hl : j < ca.length := (List.getElem?_eq_some_iff.1 hj).1
    have := hc j v (by rw [List.getElem?_append_left hl]; exact hj)
    simpa using this
  · refine ⟨cb, fun j v hj => ?_, hb⟩
    have := hc (4 + j) v (by rw [List.getElem?_append_right (by omega)]; simpa [la] using hj)
    simpa using this
end Go.Fw
namespace Go.Fw
open Go.RowKit
open Go.Maps (Keyed)
section
variable {P : Program} {r : Option Nat} {N : Nat} {D : List Deferred} {e : Env} {w w0 : World} {ops : Array Oper} {rest : List Oper} {K : List Deferred → Env → World → Prop} {L : List Ent} {M : List Nat}
variable {K' : List Deferred → Env → World → Prop} {d : Nat} {t : TypeId} {p : String} {af : Array Edge} {f : FuncId} {args : Array Operand} {at_ : Array TypeId} {vs : List Value} {x y z : Operand}
theorem o_callf {g : Operand} {first caps : Array Value} {R : Value → World → Prop} (hH : Has P f) (hg : ev e g = .func (.func f) first caps) (hvs : first.toList ++ args.toList.map (ev e) ++ caps.toList = vs) (hd : Nat.ble (d + 1) N = true)
    (hc : Does P f vs.toArray w R) (h : ∀ v w', R v w' → WL P r N ops rest K D (upd e d v) w') :
    WL P r N ops (⟨some d, .call { callee := .value g, args := args, argTypes := at_ }, t, p, af, none⟩ :: rest) K D e w := by
  refine WL_call rfl rfl hd (by simp) ?_ hc h
  subst hvs
  have : (first ++ args.map (ev e) ++ caps) = (first.toList ++ args.toList.map (ev e) ++ caps.toList).toArray := by apply Array.ext'; simp
  simp [execOp, resolve, Deferred.ofValue, invoke, hg, hH _ w, this]
theorem o_makeFuncB {fn : Fn} {fst cap : Array Operand} {us vs : List Value} (hus : fst.toList.map (ev e) = us) (hvs : cap.toList.map (ev e) = vs) (hd : Nat.ble (d + 1) N = true) (h : WL P r N ops rest K D (upd e d (.func fn us.toArray vs.toArray)) w) :
    WL P r N ops (⟨some d, .makeFunc fn fst cap, t, p, af, none⟩ :: rest) K D e w := by
  have hc : (cap.map (ev e)) = vs.toArray := by subst hvs; apply Array.ext'; simp
  have hf : (fst.map (ev e)) = us.toArray := by subst hus; apply Array.ext'; simp
  exact WL_val rfl rfl hd (by simp) (by simp [execOp, Instr.makeFunc, hc, hf]) h
def IsPred (P : Program) (M : List Nat) (w : World) (v : Value) (q : Int → Bool) : Prop :=
  ∃ f first caps, v = .func (.func f) first caps ∧ Has P f ∧ ∀ w', Keep M w w' → ∀ c, i64 c → Does P f (first.toList ++ [Value.int .i64 c] ++ caps.toList).toArray w' fun v w'' => v = .bool (q c) ∧ Below w'.heap.size w' w''
theorem IsPred.keep {v : Value} {q : Int → Bool} {w' : World} (h : IsPred P M w v q) (hk : Keep M w w') : IsPred P M w' v q := by
  obtain ⟨f, first, caps, h1, h2, h3⟩ := h
  exact ⟨f, first, caps, h1, h2, fun w'' hk' => h3 w'' (hk.trans hk')⟩
theorem IsPred.less {M' : List Nat} {v : Value} {q : Int → Bool} (h : IsPred P M w v q) (hM : ∀ g ∈ M', g ∈ M) : IsPred P M' w v q := by
  obtain ⟨f, first, caps, h1, h2, h3⟩ := h
  exact ⟨f, first, caps, h1, h2, fun w'' hk' => h3 w'' (hk'.mono hM)⟩
theorem o_callp {M' : List Nat} {g : Operand} {c : Int} {q : Int → Bool} {v : Value} {a : Operand} (S : St M w0 w L) (hp : IsPred P M' w v q) (hg : ev e g = v) (ha : ev e a = .int .i64 c) (hc : i64 c) (hd : Nat.ble (d + 1) N = true)
    (h1 : q c = true → ∀ w1, St M w0 w1 L → Keep [] w w1 → WL P r N ops rest K D (upd e d (.bool true)) w1) (h2 : q c = false → ∀ w1, St M w0 w1 L → Keep [] w w1 → WL P r N ops rest K D (upd e d (.bool false)) w1) :
    WL P r N ops (⟨some d, .call { callee := .value g, args := #[a], argTypes := at_ }, t, p, af, none⟩ :: rest) K D e w := by
  obtain ⟨f, first, caps, rfl, hH, hf⟩ := hp
  refine o_callf hH hg (by simp [ha]) hd (hf w (Keep.refl _ _) c hc) fun v w' ⟨hv, hb⟩ => ?_
  subst hv
  cases hq : q c
  · exact h2 hq w' (S.later hb) (Keep.of_below hb)
  · exact h1 hq w' (S.later hb) (Keep.of_below hb)
theorem o_callpT {M' : List Nat} {g : Operand} {c : Int} {q : Int → Bool} {v : Value} {a : Operand} (S : St M w0 w L) (hp : IsPred P M' w v q) (hg : ev e g = v) (ha : ev e a = .int .i64 c) (hc : i64 c) (hq : q c = true) (hd : Nat.ble (d + 1) N = true)
    (h1 : ∀ w1, St M w0 w1 L → Keep [] w w1 → WL P r N ops rest K D (upd e d (.bool true)) w1) :
    WL P r N ops (⟨some d, .call { callee := .value g, args := #[a], argTypes := at_ }, t, p, af, none⟩ :: rest) K D e w :=
  o_callp S hp hg ha hc hd (fun _ => h1) (fun h => by rw [hq] at h; cases h)
def MapAt (P : Program) (k : TypeId) (w : World) (b : Nat) (l : List (Value × Value)) : Prop :=
  ∃ es clock, w.heap[b]? = some (.map es clock) ∧ es.toList.map (fun x => (x.key, x.val)) = l ∧ ∀ x ∈ l, ∃ q, keyOf P k x.1 = some q
theorem MapAt.keep {k : TypeId} {b : Nat} {l : List (Value × Value)} {w' : World} (h : MapAt P k w b l) (hk : Keep M w w') (hb : b ∉ M) : MapAt P k w' b l := by
  obtain ⟨es, clock, h1, h2, h3⟩ := h
  refine ⟨es, clock, ?_, h2, h3⟩
  rw [hk.same b (Array.getElem?_eq_some_iff.1 h1).1 hb]; exact h1
theorem MapAt.lt {k : TypeId} {b : Nat} {l : List (Value × Value)} (h : MapAt P k w b l) : b < w.heap.size := by
  obtain ⟨es, clock, h1, h2, h3⟩ := h
  exact (Array.getElem?_eq_some_iff.1 h1).1
theorem MapAt.ne {k : TypeId} {b g tb : Nat} {cs : List Value} {l : List (Value × Value)} (h : MapAt P k w b l) (hg : hasBlk w (g, tb, cs)) : b ≠ g := by
  obtain ⟨es, clock, h1, h2, h3⟩ := h
  rintro rfl
  unfold hasBlk at hg
  rw [h1] at hg
  cases hg
theorem St.notMap {k : TypeId} {b : Nat} {l : List (Value × Value)} (S : St M w0 w L) (h : MapAt P k w b l) : ∀ x ∈ L, x.1 ≠ some b := fun x hx hb => by
  have := (S.own x hx b hb).2
  exact h.ne this rfl
theorem o_makeMap {k ty : TypeId} (S : St M w0 w L) (hd : Nat.ble (d + 1) N = true)
    (h : ∀ g w1, St M w0 w1 L → Keep [] w w1 → w.heap.size ≤ g → MapAt P k w1 g [] → WL P r N ops rest K D (upd e d (.map (some g))) w1) :
    WL P r N ops (⟨some d, .makeMap ty none, t, p, af, none⟩ :: rest) K D e w := by
  refine WL_val (v := .map (some w.heap.size)) (w' := w.alloc (.map #[] 0)) rfl rfl hd (by simp) ?_ (h _ _ (S.keeps (S.below.alloc _) fun b hb g hg => Below.heap_alloc w _ g ((S.own b hb g hg).2.lt)) (keep_alloc _ _ _) (Nat.le_refl _) ⟨#[], 0, (MapKept.heap_alloc w _).1, rfl, by simp⟩)
  simp [execOp, run_makeMap]
theorem run_look {k el : TypeId} {ty b : Nat} {l : List (Value × Value)} {key zv : Value} {q : Lit} (ok : Bool) (K : Keyed P k) (ht : P.underlying ty = some (.map k el)) (hz : ∀ w, (zeroValue el).run P w = .ok zv w) (h : MapAt P k w b l) (hkey : keyOf P k key = some q) :
    ((Instr.lookup ty (.map (some b)) key ok).run P w = .ok (if ok then .tuple #[zv, .bool false] else zv) w ∧ ∀ x ∈ l, x.1 ≠ key) ∨
    ∃ v, (key, v) ∈ l ∧ (Instr.lookup ty (.map (some b)) key ok).run P w = .ok (if ok then .tuple #[v, .bool true] else v) w := by
  obtain ⟨es, clock, h1, rfl, h3⟩ := h
  rcases K.find w hkey es.toList (fun x hx => h3 _ (List.mem_map.2 ⟨x, hx, rfl⟩)) with ⟨h4, h5⟩ | ⟨j, e0, h4, h5, h6⟩
  · refine .inl ⟨by simp [Instr.lookup, run_underlying ht, MapKept.run_getObj_map h1, K.check w _ hkey, h4, hz w, Result.andThen], fun x hx => ?_⟩
    obtain ⟨y, hy, rfl⟩ := List.mem_map.1 hx
    exact h5 y hy
  · refine .inr ⟨e0.val, List.mem_map.2 ⟨e0, List.mem_of_getElem? h5, by rw [← h6]⟩, by simp [Instr.lookup, run_underlying ht, MapKept.run_getObj_map h1, K.check w _ hkey, h4, Result.andThen]⟩
theorem o_lookup2 {k el : TypeId} {ty b : Nat} {l : List (Value × Value)} {key zv : Value} {q : Lit} (K : Keyed P k) (ht : P.underlying ty = some (.map k el)) (hz : ∀ w, (zeroValue el).run P w = .ok zv w) (h : MapAt P k w b l) (hx : ev e x = .map (some b)) (hy : ev e y = key) (hkey : keyOf P k key = some q) (hd : Nat.ble (d + 1) N = true)
    (h1 : ∀ v, (key, v) ∈ l → WL P r N ops rest K' D (upd e d (.tuple #[v, .bool true])) w) (h2 : (∀ x ∈ l, x.1 ≠ key) → WL P r N ops rest K' D (upd e d (.tuple #[zv, .bool false])) w) :
    WL P r N ops (⟨some d, .lookup ty x y true, t, p, af, none⟩ :: rest) K' D e w := by
  rcases run_look true K ht hz h hkey with ⟨h4, h5⟩ | ⟨v, h4, h5⟩
  · exact WL_val rfl rfl hd (by simp) (by simp [execOp, hx, hy, h4]) (h2 h5)
  · exact WL_val rfl rfl hd (by simp) (by simp [execOp, hx, hy, h5]) (h1 v h4)
theorem o_mapPut {k el : TypeId} {ty b : Nat} {l : List (Value × Value)} {key v : Value} {q : Lit} (S : St M w0 w L) (K : Keyed P k) (ht : P.underlying ty = some (.map k el)) (h : MapAt P k w b l) (hx : ev e x = .map (some b)) (hy : ev e y = key) (hz : ev e z = v) (hkey : keyOf P k key = some q) (hnew : ∀ x ∈ l, x.1 ≠ key) (hb : w0.heap.size ≤ b ∨ b ∈ M)
    (hk : ∀ w1, St M w0 w1 L → Keep [b] w w1 → MapAt P k w1 b (l ++ [(key, v)]) → WL P r N ops rest K' D e w1) :
    WL P r N ops (⟨none, .mapUpdate ty x y z, t, p, af, none⟩ :: rest) K' D e w := by
  have hmap := h
  obtain ⟨es, clock, h1, rfl, h3⟩ := h
  have hlt : b < w.heap.size := (Array.getElem?_eq_some_iff.1 h1).1
  have hsame : ∀ g, g ≠ b → (w.heap.setIfInBounds b (.map (es.push ⟨key, v, clock⟩) (clock + 1)))[g]? = w.heap[g]? := fun g hg => Array.getElem?_setIfInBounds_ne (fun e => hg e.symm)
  rcases K.find w hkey es.toList (fun x hx => h3 _ (List.mem_map.2 ⟨x, hx, rfl⟩)) with ⟨h4, h5⟩ | ⟨j, e0, h4, h5, h6⟩
  · refine WL_unit (w' := { w with heap := w.heap.setIfInBounds b (.map (es.push ⟨key, v, clock⟩) (clock + 1)) }) rfl rfl (by simp) ?_ (hk _ ?_ ?_ ?_)
    · simp [execOp, hx, hy, hz, Instr.mapUpdate, run_underlying ht, MapKept.run_getObj_map h1, K.check w false hkey, h4, MapKept.run_setObj_map _ h1, Result.andThen]
    · refine S.keeps ⟨S.below.os, S.below.tape, S.below.output, by simpa using S.below.size, fun g hg hm => ?_⟩ (fun x hx g hg => hsame g (fun hh => S.notMap hmap x hx (hh ▸ hg)))
      refine (hsame g (fun hh => ?_)).trans (S.below.block g hg hm)
      subst hh
      rcases hb with hb | hb
      · omega
      · exact hm hb
    · exact ⟨by simp, fun g _ hm => hsame g (fun hh => hm (by simp [hh]))⟩
    · refine ⟨es.push ⟨key, v, clock⟩, clock + 1, by simp [hlt], by simp, fun x hx => ?_⟩
      rcases List.mem_append.1 hx with hx | hx
      · exact h3 x hx
      · rw [List.mem_singleton.1 hx]; exact ⟨q, hkey⟩
  · exact absurd h6 (hnew _ (List.mem_map.2 ⟨e0, List.mem_of_getElem? h5, rfl⟩))
theorem St.reflM (M : List Nat) (w : World) : St M w w [] := ⟨BelowB.refl _ _, by simp, by simp⟩
theorem St.turned {b : Nat} {w1 : World} {k : TypeId} {l : List (Value × Value)} (S : St M w0 w L) (hm : MapAt P k w b l) (hb : w0.heap.size ≤ b ∨ b ∈ M) (h : BelowB [b] w w1) : St M w0 w1 L :=
  S.keeps ⟨h.os.trans S.below.os, h.tape.trans S.below.tape, h.output.trans S.below.output, Nat.le_trans S.below.size h.size, fun g hg hm' => (h.block g (Nat.lt_of_lt_of_le hg S.below.size) (fun hh => by
    rw [List.mem_singleton] at hh; subst hh
    rcases hb with hb | hb
    · omega
    · exact hm' hb)).trans (S.below.block g hg hm')⟩
    fun x hx g hg => h.block g (S.own x hx g hg).2.lt (fun hh => by rw [List.mem_singleton] at hh; subst hh; exact S.notMap hm x hx hg)
theorem Keep.of_belowB {b : Nat} {w1 : World} (h : BelowB [b] w w1) : Keep [b] w w1 := ⟨h.size, fun i hi hm => h.block i hi hm⟩
variable {kd k2 : IntKind} {a : Int} {src dst xt yt : TypeId}
theorem o_convI {ds : TypeDesc} (hs : P.underlying src = some ds) (ht : P.underlying dst = some (.int k2)) (hx : ev e x = .int kd a) (hd : Nat.ble (d + 1) N = true) (h : WL P r N ops rest K D (upd e d (.int k2 (k2.wrap a))) w) :
    WL P r N ops (⟨some d, .convert src dst x, t, p, af, none⟩ :: rest) K D e w :=
  WL_val rfl rfl hd (by simp) (by simp [execOp, hx, convert, run_underlying hs, run_underlying ht, Conv.intToInt]) h
theorem o_shl1u {n : Nat} (hx : ev e x = .int .i64 1) (hy : ev e y = .int kd (n : Int)) (hn : n ≤ 62) (hd : Nat.ble (d + 1) N = true) (h : WL P r N ops rest K D (upd e d (.int .i64 ((2 ^ n : Nat) : Int))) w) :
    WL P r N ops (⟨some d, .binOp .shl xt x y yt, t, p, af, none⟩ :: rest) K D e w :=
  WL_val rfl rfl hd (by simp) (by
    have h2 : (2 : Nat) ^ n ≤ 2 ^ 62 := Nat.pow_le_pow_right (by omega) hn
    have h3 : min n IntKind.i64.bits = n := by simp [IntKind.bits]; omega
    have h4 : ((1 : Int) * 2 ^ n) = ((2 ^ n : Nat) : Int) := by simp
    have h5 : IntKind.i64.wrap ((2 ^ n : Nat) : Int) = ((2 ^ n : Nat) : Int) := by
      generalize (2 : Nat) ^ n = q at h2
      exact wrap_id ⟨by omega, by omega⟩
    have h6 : ¬ ((n : Int) < 0) := by omega
    simp only [execOp, hx, hy, eqGuard_shl, binOp_shl, Op.shift, h6, if_false, Int.toNat_natCast, h3, h4, h5, Sem.run_bind, Sem.run_pure, Result.andThen_ok]) h
end
end Go.Fw
namespace Go.Fw
open Go.RowKit
def RdP (M : List Nat) (w : World) (e : E) (b o : Nat) : Prop := b ∉ M ∧ ∃ cs, Cells w b o cs ∧ RdE M w e cs
theorem RdP.keep {M : List Nat} {w w' : World} {e : E} {b o : Nat} (h : RdP M w e b o) (hk : Keep M w w') : RdP M w' e b o := by
  obtain ⟨h1, cs, h2, h3⟩ := h
  exact ⟨h1, cs, h2.keep hk h1, RdE.keep hk _ _ h3⟩
theorem RdP.more {M M' : List Nat} {w : World} {e : E} {b o : Nat} (h : RdP M w e b o) (hM : ∀ g ∈ M', g ∈ M ∨ w.heap.size ≤ g) : RdP M' w e b o := by
  obtain ⟨h1, cs, h2, h3⟩ := h
  refine ⟨fun hh => ?_, cs, h2, RdE.more hM _ _ h3⟩
  rcases hM b hh with h | h
  · exact h1 h
  · have hl := h3.length
    have := World.block_lt_of_cell? w _ (h2 0 cs[0] (List.getElem?_eq_getElem (by omega)))
    simp at this; omega
theorem RdP.less {M M' : List Nat} {w : World} {e : E} {b o : Nat} (h : RdP M w e b o) (hM : ∀ g ∈ M', g ∈ M) : RdP M' w e b o := by
  obtain ⟨h1, cs, h2, h3⟩ := h
  exact ⟨fun hh => h1 (hM b hh), cs, h2, RdE.less hM _ _ h3⟩
theorem RdP.kid {M : List Nat} {w : World} {e : E} {b o : Nat} (hb : b ∉ M) (hkk : ∀ (i : Nat) (h : i < e.kids.length), ∃ cs', Cells w b (o + i * 4) cs' ∧ RdE M w e.kids[i] cs') (i : Nat) (hi : i < e.kids.length) : RdP M w e.kids[i] b (o + i * 4) := by
  obtain ⟨cs, h1, h2⟩ := hkk i hi
  exact ⟨hb, cs, h1, h2⟩
theorem RdP.open_ {M : List Nat} {w : World} {e : E} {b o : Nat} (h : RdP M w e b o) : b ∉ M ∧ i64 e.op ∧ i64 e.w ∧ i64 e.n ∧ w.cell? ⟨b, o, none⟩ = some (.int .i64 e.op) ∧ w.cell? ⟨b, o + 1, none⟩ = some (.int .i64 e.w) ∧ w.cell? ⟨b, o + 2, none⟩ = some (.int .i64 e.n) ∧
    ∃ A n c, w.cell? ⟨b, o + 3, none⟩ = some (.slice A n c) ∧ n = e.kids.length ∧ n ≤ c ∧ c ≤ maxLen ∧ n ≤ 140737488355328 ∧
    (0 < n → ∃ b o, A = some ⟨b, o, none⟩ ∧ b ∉ M ∧ ∀ (i : Nat) (h : i < e.kids.length), ∃ cs', Cells w b (o + i * 4) cs' ∧ RdE M w e.kids[i] cs') ∧ RdE M w e [.int .i64 e.op, .int .i64 e.w, .int .i64 e.n, .slice A n c] := by
  obtain ⟨h1, cs, h2, h3⟩ := h
  obtain ⟨A, n, c, rfl, o1, o2, o3, h4, h5, h6, h7, h8⟩ := h3.open_
  exact ⟨h1, o1, o2, o3, h2 0 _ rfl, h2 1 _ rfl, h2 2 _ rfl, A, n, c, h2 3 _ rfl, h4, h5, h6, h7, h8, h3⟩
def Masks (M : List Nat) (w : World) : Prop := 1 ∉ M ∧ ∀ i : Nat, i ≤ 8 → w.cell? ⟨1, i, none⟩ = some (.int .i64 (pow2 i - 1))
theorem Masks.keep {M : List Nat} {w w' : World} (h : Masks M w) (hk : Keep M w w') : Masks M w' := ⟨h.1, fun i hi => hk.cell (a := ⟨1, i, none⟩) h.1 (h.2 i hi)⟩
theorem Masks.more {M M' : List Nat} {w : World} (h : Masks M w) (hM : ∀ g ∈ M', g ∈ M ∨ w.heap.size ≤ g) : Masks M' w := by
  refine ⟨fun hh => ?_, h.2⟩
  rcases hM _ hh with h' | h'
  · exact h.1 h'
  · have := World.block_lt_of_cell? w _ (h.2 0 (by omega))
    simp at this; omega
theorem Masks.at {M : List Nat} {w : World} (h : Masks M w) {x : Int} (h0 : 0 ≤ x) (h8 : x ≤ 8) : w.cell? ⟨1, 0 + x.toNat * 1, none⟩ = some (.int .i64 (pow2 x.toNat - 1)) := by
  have := h.2 x.toNat (by omega)
  simpa using this
theorem St.ne {M : List Nat} {w0 w : World} {L : List Ent} (S : St M w0 w L) (i j : Nat) {g g' t t' : Nat} {cs cs' : List Value} (hi : L[i]? = some (some g, t, cs)) (hj : L[j]? = some (some g', t', cs')) (hij : i < j) : g ≠ g' := by
  obtain ⟨h1, e1⟩ := List.getElem?_eq_some_iff.1 hi
  obtain ⟨h2, e2⟩ := List.getElem?_eq_some_iff.1 hj
  have := List.pairwise_iff_getElem.1 S.apart i j h1 h2 hij g (by rw [e1])
  rw [e2] at this
  exact fun h => this (by rw [h])
def wideB (e : E) (ws : List Int) : Bool := decide (e.kids.length = ws.length ∧ ∀ j, j < ws.length → e.kw j = ws.getD j 0)
theorem wideB_1 {e : E} {a : Int} : wideB e [a] = true ↔ e.kids.length = 1 ∧ e.kw 0 = a := by
  simp only [wideB, decide_eq_true_eq, List.length_cons, List.length_nil]
  constructor
  · rintro ⟨h1, h2⟩; exact ⟨h1, by simpa using h2 0 (by omega)⟩
  · rintro ⟨h1, h2⟩; exact ⟨h1, fun j hj => by obtain rfl : j = 0 := by omega
                                               simpa using h2⟩
theorem wideB_2 {e : E} {a b : Int} : wideB e [a, b] = true ↔ e.kids.length = 2 ∧ e.kw 0 = a ∧ e.kw 1 = b := by
  simp only [wideB, decide_eq_true_eq, List.length_cons, List.length_nil]
  constructor
  · rintro ⟨h1, h2⟩; exact ⟨h1, by simpa using h2 0 (by omega), by simpa using h2 1 (by omega)⟩
  · rintro ⟨h1, h2, h3⟩
    refine ⟨h1, fun j hj => ?_⟩
    rcases (show j = 0 ∨ j = 1 by omega) with rfl | rfl
    · simpa using h2
    · simpa using h3
theorem wideB_3 {e : E} {a b c : Int} : wideB e [a, b, c] = true ↔ e.kids.length = 3 ∧ e.kw 0 = a ∧ e.kw 1 = b ∧ e.kw 2 = c := by
  simp only [wideB, decide_eq_true_eq, List.length_cons, List.length_nil]
  constructor
  · rintro ⟨h1, h2⟩; exact ⟨h1, by simpa using h2 0 (by omega), by simpa using h2 1 (by omega), by simpa using h2 2 (by omega)⟩
  · rintro ⟨h1, h2, h3, h4⟩
    refine ⟨h1, fun j hj => ?_⟩
    rcases (show j = 0 ∨ j = 1 ∨ j = 2 by omega) with rfl | rfl | rfl
    · simpa using h2
    · simpa using h3
    · simpa using h4
theorem rdI_own {w0 w : World} {L : List Ent} {k g el n : Nat} {M M' : List Nat} {l : List Int} (S : St M' w0 w L) (hk : L[k]? = some (some g, el, l.map (Value.int .i64))) (hM : g ∉ M) (hn : n = l.length) (hb : n ≤ 140737488355328) (hl : ∀ x ∈ l, i64 x) : RdI M w (.slice (some ⟨g, 0, none⟩) n n) l :=
  S.rd1 hk hM hn hb fun i x hi => ⟨.int .i64 x, by simp [hi], rfl, hl x (List.mem_of_getElem? hi)⟩
end Go.Fw
namespace Go.Proofs.YtgnbfmifjlnigaaGreatDoor
open Go.Fw Go.RowKit
theorem wide_fn (e : E) (M : List Nat) (w0 : World) (v0 v1 v2 : Value) (A : Option Addr) (n c : Nat) (vw : Value) (ws : List Int) (hR : RdE M w0 e [v0, v1, v2, .slice A n c]) (hW : RdI M w0 vw ws) :
    Does Tryz.prog 150 #[.slice A n c, vw] w0 fun v w' => v = .bool (wideB e ws) ∧ Below w0.heap.size w0 w' := by
  obtain ⟨A', n', c', heq, o1, o2, o3, hn, hc, hm, hbig, hks⟩ := hR.open_
  obtain ⟨rfl, rfl, rfl, rfl, rfl, rfl⟩ : v0 = .int .i64 e.op ∧ v1 = .int .i64 e.w ∧ v2 = .int .i64 e.n ∧ A = A' ∧ n = n' ∧ c = c' := by simpa using heq
  clear heq
  obtain ⟨Aw, nw, cw, rfl⟩ := hW.form
  obtain ⟨hnw, hcw, hmw, hbw, hew⟩ := hW.at
  have S := St.refl w0
  refine Does_enter Tryz.func150 rfl Tryz.ntmps150 rfl ?_
  refine W_seq ?_
  refine W_region ?_
  refine o_assign (v := .bool _) rfl rfl ?_
  refine WL_nil ?_
  refine W_seq ?_
  refine W_seq ?_
  refine W_region ?_
  refine o_move (by conv => lhs; whnf) rfl ?_
  refine o_len slz_71.slT rfl rfl ?_
  refine o_move (by conv => lhs; whnf) rfl ?_
  refine o_len slz_43.slT rfl rfl ?_
  refine o_neq rfl rfl rfl (fun h11 => ?_) (fun h11 => ?_)
  · refine WL_nil ?_
    refine W_then rfl ?_
    refine W_seq ?_
    refine W_region ?_
    refine o_assign (v := .bool _) rfl rfl ?_
    refine WL_nil ?_
    refine W_ret ?_
    refine ret_1 rfl (by conv => lhs; whnf) ?_
    refine ⟨congrArg Value.bool ?_, S.fin⟩
    unfold wideB
    exact (decide_eq_false (fun h => by have := h.1; omega)).symm
  refine WL_nil ?_
  refine W_else rfl ?_
  refine W_skip ?_
  refine W_seq ?_
  refine W_seq ?_
  refine W_region ?_
  refine o_move (by conv => lhs; whnf) rfl ?_
  refine o_len slz_43.slT rfl rfl ?_
  refine o_move (v := .int .i64 _) rfl rfl ?_
  refine WL_nil ?_
  refine W_block ?_
  refine W_loop (fun μ D ε w => D = [] ∧ ∃ k : Nat, (k + μ = ws.length) ∧ (∀ (j : Nat), j < k → e.kw j = ws.getD j 0) ∧ St [] w0 w [] ∧ ε 0 = .slice A n c ∧ ε 12 = .slice Aw nw cw ∧ ε 13 = .int .i64 nw ∧ ε 14 = .int .i64 k) (μ := ws.length) ⟨rfl, 0, by omega, fun j h => absurd h (by omega), S, rfl, rfl, rfl, rfl⟩ ?_
  rintro μ D ε w ⟨rfl, k, hk, hs, S, e0, e12, e13, e14⟩
  refine W_known 0 e0 ?_
  refine W_known 12 e12 ?_
  refine W_known 13 e13 ?_
  refine W_known 14 e14 ?_
  clear e0 e12 e13 e14
  refine W_seq ?_
  refine W_region ?_
  refine o_lss rfl rfl rfl (fun h15 => ?_) (fun h15 => ?_)
  · refine WL_nil ?_
    refine W_seq ?_
    refine W_then rfl ?_
    refine W_skip ?_
    refine W_seq ?_
    refine W_block ?_
    refine W_seq ?_
    refine W_region ?_
    refine o_move (v := .int .i64 _) rfl rfl ?_
    have hlt : k < ws.length := by omega
    obtain ⟨bw, ow, hAw, hbwM, hee⟩ := hew (by omega)
    obtain ⟨cw1, hcl, hcw2, hcw3⟩ := hee k ws[k] (List.getElem?_eq_getElem hlt)
    have hcw' : w0.cell? ⟨bw, ow + k * 1, none⟩ = some (.int .i64 ws[k]) := hcw2 0 _ (by rw [hcw3.1]; rfl)
    refine o_indexAddr slz_43.slT rfl (by assumption) rfl (by omega) (by omega) rfl ?_
    refine o_load one_3 rfl (by exact S.old hcw') rfl ?_
    refine o_assign (v := .int .i64 _) rfl rfl ?_
    refine o_assign (v := .int .i64 _) rfl rfl ?_
    refine WL_nil ?_
    refine W_seq ?_
    refine W_region ?_
    refine o_move (by conv => lhs; whnf) rfl ?_
    refine o_move (v := .int .i64 _) rfl rfl ?_
    obtain ⟨b, o, hA, hbM, hkk⟩ := hks (by omega)
    have hck' : w0.cell? ⟨b, o + k * 4 + 1, none⟩ = some (.int .i64 (e.kw k)) := kid_cells hkk k (by omega)
    refine o_indexAddr slz_71.slT rfl (by assumption) rfl (by omega) (by omega) rfl ?_
    refine o_fieldAddr fa_73_1 rfl rfl ?_
    refine o_load one_3 rfl (by exact S.old hck') rfl ?_
    refine o_move (v := .int .i64 _) rfl rfl ?_
    refine o_neq rfl rfl rfl (fun h25 => ?_) (fun h25 => ?_)
    · refine WL_nil ?_
      refine W_then rfl ?_
      refine W_seq ?_
      refine W_region ?_
      refine o_assign (v := .bool _) rfl rfl ?_
      refine WL_nil ?_
      refine W_ret ?_
      refine ret_1 rfl (by conv => lhs; whnf) ?_
      refine ⟨congrArg Value.bool ?_, S.fin⟩
      unfold wideB
      exact (decide_eq_false (fun h => h25 (by have := h.2 k hlt; simpa [hlt] using this))).symm
    refine WL_nil ?_
    refine W_else rfl ?_
    refine W_skip ?_
    refine W_region ?_
    refine o_add rfl rfl (by unfold i64; omega) rfl ?_
    refine o_move (v := .int .i64 _) rfl rfl ?_
    refine WL_nil ?_
    refine ⟨μ - 1, by omega, rfl, k + 1, by omega, fun j h => ?_, S, rfl, rfl, rfl, rfl⟩
    by_cases hjk : j = k
    · subst hjk; simpa [hlt] using h25
    · exact hs j (by omega)
  refine WL_nil ?_
  refine W_seq ?_
  refine W_else rfl ?_
  refine W_exit ?_
  refine bcons_here ?_
  refine W_seq ?_
  refine W_region ?_
  refine o_assign (v := .bool _) rfl rfl ?_
  refine WL_nil ?_
  refine W_ret ?_
  refine ret_1 rfl (by conv => lhs; whnf) ?_
  refine ⟨congrArg Value.bool ?_, S.fin⟩
  unfold wideB
  exact (decide_eq_true ⟨by omega, fun j hj => hs j (by omega)⟩).symm
set_option maxHeartbeats 4000000 in
theorem shaped_fn (e : E) (M : List Nat) (w0 : World) (b o : Nat) (hR : RdP M w0 e b o) (hK : Masks M w0) :
    Does Tryz.prog 122 #[.pointer (some ⟨b, o, none⟩)] w0 fun v w' => v = .bool e.shapeB ∧ Below w0.heap.size w0 w' := by
  obtain ⟨hbM, o1, o2, o3, c0, c1, c2, A, n, c, c3, hn, hc, hm, hbig, hks, hRE⟩ := hR.open_
  have S := St.refl w0
  refine Does_enter Tryz.func122 rfl Tryz.ntmps122 rfl ?_
  refine W_seq ?_
  refine W_region ?_
  refine o_assign (v := .bool _) rfl rfl ?_
  refine WL_nil ?_
  refine W_seq ?_
  refine W_seq ?_
  refine W_region ?_
  refine o_move (by conv => lhs; whnf) rfl ?_
  refine o_nilCheck rfl rfl ?_
  refine o_fieldAddr fa_73_1 rfl rfl ?_
  refine o_load one_3 rfl (by exact S.old c1) rfl ?_
  refine o_lss rfl rfl rfl (fun h7 => ?_) (fun h7 => ?_)
  · refine o_move (v := .bool _) rfl rfl ?_
    refine WL_off rfl rfl rfl rfl ?_
    refine WL_off rfl rfl rfl rfl ?_
    refine WL_off rfl rfl rfl rfl ?_
    refine WL_off rfl rfl rfl rfl ?_
    refine WL_off rfl rfl rfl rfl ?_
    refine o_pick rfl (v := .bool _) rfl rfl ?_
    refine WL_nil ?_
    refine W_then rfl ?_
    refine W_seq ?_
    refine W_region ?_
    refine o_assign (v := .bool _) rfl rfl ?_
    refine WL_nil ?_
    refine W_ret ?_
    refine ret_1 rfl (by conv => lhs; whnf) ?_
    exact ⟨by exact SN (by omega), S.fin⟩
  refine o_move (v := .bool _) rfl rfl ?_
  refine WL_on rfl rfl rfl ?_
  refine o_move (by conv => lhs; whnf) rfl ?_
  refine WL_on rfl rfl rfl ?_
  refine o_nilCheck rfl rfl ?_
  refine WL_on rfl rfl rfl ?_
  refine o_fieldAddr fa_73_1 rfl rfl ?_
  refine WL_on rfl rfl rfl ?_
  refine o_load one_3 rfl (by exact S.old c1) rfl ?_
  refine WL_on rfl rfl rfl ?_
  refine o_gtr rfl rfl rfl (fun h13 => ?_) (fun h13 => ?_)
  · refine o_pick rfl (v := .bool _) rfl rfl ?_
    refine WL_nil ?_
    refine W_then rfl ?_
    refine W_seq ?_
    refine W_region ?_
    refine o_assign (v := .bool _) rfl rfl ?_
    refine WL_nil ?_
    refine W_ret ?_
    refine ret_1 rfl (by conv => lhs; whnf) ?_
    exact ⟨by exact SN (by omega), S.fin⟩
  refine o_pick rfl (v := .bool _) rfl rfl ?_
  refine WL_nil ?_
  refine W_else rfl ?_
  refine W_skip ?_
  refine W_seq ?_
  refine W_seq ?_
  refine W_region ?_
  refine o_move (by conv => lhs; whnf) rfl ?_
  refine o_nilCheck rfl rfl ?_
  refine o_fieldAddr fa_73_0 rfl rfl ?_
  refine o_load one_3 rfl (by exact S.old c0) rfl ?_
  refine WL_nil ?_
  refine W_block ?_
  refine W_seq ?_
  refine W_region ?_
  refine o_eql rfl rfl rfl (fun h20 => ?_) (fun h20 => ?_)
  · refine o_assign (v := .bool _) rfl rfl ?_
    refine WL_nil ?_
    refine W_then rfl ?_
    refine W_seq ?_
    refine W_draw follows_mixed [0, 1, 2, 3, 4, 5, 6, 7, 8, 9, 10, 11, 12, 13, 14, 15, 16, 17, 18, 19, 20, 21, 22, 23, 24, 25, 26] [] [] (by kernel_rfl) rfl (Cl _ _ _ _) (Cl.start S) ?_
    refine q_move (by conv => lhs; whnf) rfl ?_
    refine q_nilCheck rfl rfl ?_
    refine q_fieldAddr fa_73_3 rfl rfl ?_
    refine q_load one_71 rfl (fun w1 hw => by exact hw.1.old c3) rfl ?_
    refine q_len slz_71.slT rfl rfl ?_
    refine q_eql rfl rfl rfl (fun h26 => ?_) (fun h26 => ?_)
    · refine q_move (v := .bool _) rfl rfl ?_
      refine QL_on rfl rfl ?_
      refine q_move (by conv => lhs; whnf) rfl ?_
      refine QL_on rfl rfl ?_
      refine q_nilCheck rfl rfl ?_
      refine QL_on rfl rfl ?_
      refine q_fieldAddr fa_73_2 rfl rfl ?_
      refine QL_on rfl rfl ?_
      refine q_load one_3 rfl (fun w1 hw => by exact hw.1.old c2) rfl ?_
      refine QL_on rfl rfl ?_
      refine q_geq rfl rfl rfl (fun h32 => ?_) (fun h32 => ?_)
      · refine q_pick rfl (v := .bool _) rfl rfl ?_
        refine q_move (v := .bool _) rfl rfl ?_
        refine QL_on rfl rfl ?_
        refine q_move (by conv => lhs; whnf) rfl ?_
        refine QL_on rfl rfl ?_
        refine q_nilCheck rfl rfl ?_
        refine QL_on rfl rfl ?_
        refine q_fieldAddr fa_73_2 rfl rfl ?_
        refine QL_on rfl rfl ?_
        refine q_load one_3 rfl (fun w1 hw => by exact hw.1.old c2) rfl ?_
        refine QL_on rfl rfl ?_
        refine q_move (by conv => lhs; whnf) rfl ?_
        refine QL_on rfl rfl ?_
        refine q_nilCheck rfl rfl ?_
        refine QL_on rfl rfl ?_
        refine q_fieldAddr fa_73_1 rfl rfl ?_
        refine QL_on rfl rfl ?_
        refine q_load one_3 rfl (fun w1 hw => by exact hw.1.old c1) rfl ?_
        refine QL_on rfl rfl ?_
        refine q_indexArr art_189 rfl rfl (by omega) (by omega) rfl ?_
        refine QL_on rfl rfl ?_
        refine q_load one_3 rfl (fun w1 hw => by exact hw.1.old (hK.at (by omega) (by omega))) rfl ?_
        refine QL_on rfl rfl ?_
        refine q_leq rfl rfl rfl (fun h45 => ?_) (fun h45 => ?_)
        · refine q_pick rfl (v := .bool _) rfl rfl ?_
          refine q_assign (v := .bool _) rfl rfl ?_
          refine QL_nil ?_
          refine BK_of ?_
          refine BKL_nil ?_
          rintro wR5 ⟨SR5, XR5⟩
          refine WL_nil ?_
          refine W_ret ?_
          refine ret_1 rfl (by conv => lhs; whnf) ?_
          exact ⟨by exact ST1 (by omega) (by omega), SR5.fin⟩
        refine q_pick rfl (v := .bool _) rfl rfl ?_
        refine q_assign (v := .bool _) rfl rfl ?_
        refine QL_nil ?_
        refine BK_of ?_
        refine BKL_nil ?_
        rintro wR5 ⟨SR5, XR5⟩
        refine WL_nil ?_
        refine W_ret ?_
        refine ret_1 rfl (by conv => lhs; whnf) ?_
        exact ⟨by exact SF1 (by omega) (by omega), SR5.fin⟩
      refine q_pick rfl (v := .bool _) rfl rfl ?_
      refine q_move (v := .bool _) rfl rfl ?_
      refine QL_off rfl rfl rfl ?_
      refine QL_off rfl rfl rfl ?_
      refine QL_off rfl rfl rfl ?_
      refine QL_off rfl rfl rfl ?_
      refine QL_off rfl rfl rfl ?_
      refine QL_off rfl rfl rfl ?_
      refine QL_off rfl rfl rfl ?_
      refine QL_off rfl rfl rfl ?_
      refine QL_off rfl rfl rfl ?_
      refine QL_off rfl rfl rfl ?_
      refine QL_off rfl rfl rfl ?_
      refine q_pick rfl (v := .bool _) rfl rfl ?_
      refine q_assign (v := .bool _) rfl rfl ?_
      refine QL_nil ?_
      refine BK_of ?_
      refine BKL_nil ?_
      rintro wR5 ⟨SR5, XR5⟩
      refine WL_nil ?_
      refine W_ret ?_
      refine ret_1 rfl (by conv => lhs; whnf) ?_
      exact ⟨by exact SF1 (by omega) (by omega), SR5.fin⟩
    refine q_move (v := .bool _) rfl rfl ?_
    refine QL_off rfl rfl rfl ?_
    refine QL_off rfl rfl rfl ?_
    refine QL_off rfl rfl rfl ?_
    refine QL_off rfl rfl rfl ?_
    refine QL_off rfl rfl rfl ?_
    refine q_pick rfl (v := .bool _) rfl rfl ?_
    refine q_move (v := .bool _) rfl rfl ?_
    refine QL_off rfl rfl rfl ?_
    refine QL_off rfl rfl rfl ?_
    refine QL_off rfl rfl rfl ?_
    refine QL_off rfl rfl rfl ?_
    refine QL_off rfl rfl rfl ?_
    refine QL_off rfl rfl rfl ?_
    refine QL_off rfl rfl rfl ?_
    refine QL_off rfl rfl rfl ?_
    refine QL_off rfl rfl rfl ?_
    refine QL_off rfl rfl rfl ?_
    refine QL_off rfl rfl rfl ?_
    refine q_pick rfl (v := .bool _) rfl rfl ?_
    refine q_assign (v := .bool _) rfl rfl ?_
    refine QL_nil ?_
    refine BK_of ?_
    refine BKL_nil ?_
    rintro wR5 ⟨SR5, XR5⟩
    refine WL_nil ?_
    refine W_ret ?_
    refine ret_1 rfl (by conv => lhs; whnf) ?_
    exact ⟨by exact SF1 (by omega) (by omega), SR5.fin⟩
  refine o_assign (v := .bool _) rfl rfl ?_
  refine WL_nil ?_
  refine W_else rfl ?_
  refine W_seq ?_
  refine W_seq ?_
  refine W_region ?_
  refine o_eql rfl rfl rfl (fun h48 => ?_) (fun h48 => ?_)
  · refine o_assign (v := .bool _) rfl rfl ?_
    refine WL_nil ?_
    refine W_then rfl ?_
    refine W_skip ?_
    refine W_then rfl ?_
    refine W_seq ?_
    refine W_region ?_
    refine o_move (by conv => lhs; whnf) rfl ?_
    refine o_nilCheck rfl rfl ?_
    refine o_fieldAddr fa_73_3 rfl rfl ?_
    refine o_load one_71 rfl (by exact S.old c3) rfl ?_
    refine o_len slz_71.slT rfl rfl ?_
    refine o_eql rfl rfl rfl (fun h55 => ?_) (fun h55 => ?_)
    · refine o_move (v := .bool _) rfl rfl ?_
      refine WL_on rfl rfl rfl ?_
      refine o_move (by conv => lhs; whnf) rfl ?_
      refine WL_on rfl rfl rfl ?_
      refine o_nilCheck rfl rfl ?_
      refine WL_on rfl rfl rfl ?_
      refine o_fieldAddr fa_73_2 rfl rfl ?_
      refine WL_on rfl rfl rfl ?_
      refine o_load one_3 rfl (by exact S.old c2) rfl ?_
      refine WL_on rfl rfl rfl ?_
      refine o_geq rfl rfl rfl (fun h61 => ?_) (fun h61 => ?_)
      · refine o_pick rfl (v := .bool _) rfl rfl ?_
        refine o_move (v := .bool _) rfl rfl ?_
        refine WL_on rfl rfl rfl ?_
        refine o_move (by conv => lhs; whnf) rfl ?_
        refine WL_on rfl rfl rfl ?_
        refine o_nilCheck rfl rfl ?_
        refine WL_on rfl rfl rfl ?_
        refine o_fieldAddr fa_73_2 rfl rfl ?_
        refine WL_on rfl rfl rfl ?_
        refine o_load one_3 rfl (by exact S.old c2) rfl ?_
        refine WL_on rfl rfl rfl ?_
        refine o_lss rfl rfl rfl (fun h68 => ?_) (fun h68 => ?_)
        · refine o_pick rfl (v := .bool _) rfl rfl ?_
          refine o_assign (v := .bool _) rfl rfl ?_
          refine WL_nil ?_
          refine W_ret ?_
          refine ret_1 rfl (by conv => lhs; whnf) ?_
          exact ⟨by exact ST2 (by omega) (by omega), S.fin⟩
        refine o_pick rfl (v := .bool _) rfl rfl ?_
        refine o_assign (v := .bool _) rfl rfl ?_
        refine WL_nil ?_
        refine W_ret ?_
        refine ret_1 rfl (by conv => lhs; whnf) ?_
        exact ⟨by exact SF2 (by omega) (by omega), S.fin⟩
      refine o_pick rfl (v := .bool _) rfl rfl ?_
      refine o_move (v := .bool _) rfl rfl ?_
      refine WL_off rfl rfl rfl rfl ?_
      refine WL_off rfl rfl rfl rfl ?_
      refine WL_off rfl rfl rfl rfl ?_
      refine WL_off rfl rfl rfl rfl ?_
      refine WL_off rfl rfl rfl rfl ?_
      refine o_pick rfl (v := .bool _) rfl rfl ?_
      refine o_assign (v := .bool _) rfl rfl ?_
      refine WL_nil ?_
      refine W_ret ?_
      refine ret_1 rfl (by conv => lhs; whnf) ?_
      exact ⟨by exact SF2 (by omega) (by omega), S.fin⟩
    refine o_move (v := .bool _) rfl rfl ?_
    refine WL_off rfl rfl rfl rfl ?_
    refine WL_off rfl rfl rfl rfl ?_
    refine WL_off rfl rfl rfl rfl ?_
    refine WL_off rfl rfl rfl rfl ?_
    refine WL_off rfl rfl rfl rfl ?_
    refine o_pick rfl (v := .bool _) rfl rfl ?_
    refine o_move (v := .bool _) rfl rfl ?_
    refine WL_off rfl rfl rfl rfl ?_
    refine WL_off rfl rfl rfl rfl ?_
    refine WL_off rfl rfl rfl rfl ?_
    refine WL_off rfl rfl rfl rfl ?_
    refine WL_off rfl rfl rfl rfl ?_
    refine o_pick rfl (v := .bool _) rfl rfl ?_
    refine o_assign (v := .bool _) rfl rfl ?_
    refine WL_nil ?_
    refine W_ret ?_
    refine ret_1 rfl (by conv => lhs; whnf) ?_
    exact ⟨by exact SF2 (by omega) (by omega), S.fin⟩
  refine o_assign (v := .bool _) rfl rfl ?_
  refine WL_nil ?_
  refine W_else rfl ?_
  refine W_region ?_
  refine o_eql rfl rfl rfl (fun h49 => ?_) (fun h49 => ?_)
  · refine o_assign (v := .bool _) rfl rfl ?_
    refine WL_nil ?_
    refine W_then rfl ?_
    refine W_seq ?_
    refine W_region ?_
    refine o_move (by conv => lhs; whnf) rfl ?_
    refine o_nilCheck rfl rfl ?_
    refine o_fieldAddr fa_73_3 rfl rfl ?_
    refine o_load one_71 rfl (by exact S.old c3) rfl ?_
    refine o_len slz_71.slT rfl rfl ?_
    refine o_eql rfl rfl rfl (fun h55 => ?_) (fun h55 => ?_)
    · refine o_move (v := .bool _) rfl rfl ?_
      refine WL_on rfl rfl rfl ?_
      refine o_move (by conv => lhs; whnf) rfl ?_
      refine WL_on rfl rfl rfl ?_
      refine o_nilCheck rfl rfl ?_
      refine WL_on rfl rfl rfl ?_
      refine o_fieldAddr fa_73_2 rfl rfl ?_
      refine WL_on rfl rfl rfl ?_
      refine o_load one_3 rfl (by exact S.old c2) rfl ?_
      refine WL_on rfl rfl rfl ?_
      refine o_geq rfl rfl rfl (fun h61 => ?_) (fun h61 => ?_)
      · refine o_pick rfl (v := .bool _) rfl rfl ?_
        refine o_move (v := .bool _) rfl rfl ?_
        refine WL_on rfl rfl rfl ?_
        refine o_move (by conv => lhs; whnf) rfl ?_
        refine WL_on rfl rfl rfl ?_
        refine o_nilCheck rfl rfl ?_
        refine WL_on rfl rfl rfl ?_
        refine o_fieldAddr fa_73_2 rfl rfl ?_
        refine WL_on rfl rfl rfl ?_
        refine o_load one_3 rfl (by exact S.old c2) rfl ?_
        refine WL_on rfl rfl rfl ?_
        refine o_lss rfl rfl rfl (fun h68 => ?_) (fun h68 => ?_)
        · refine o_pick rfl (v := .bool _) rfl rfl ?_
          refine o_assign (v := .bool _) rfl rfl ?_
          refine WL_nil ?_
          refine W_ret ?_
          refine ret_1 rfl (by conv => lhs; whnf) ?_
          exact ⟨by exact ST2 (by omega) (by omega), S.fin⟩
        refine o_pick rfl (v := .bool _) rfl rfl ?_
        refine o_assign (v := .bool _) rfl rfl ?_
        refine WL_nil ?_
        refine W_ret ?_
        refine ret_1 rfl (by conv => lhs; whnf) ?_
        exact ⟨by exact SF2 (by omega) (by omega), S.fin⟩
      refine o_pick rfl (v := .bool _) rfl rfl ?_
      refine o_move (v := .bool _) rfl rfl ?_
      refine WL_off rfl rfl rfl rfl ?_
      refine WL_off rfl rfl rfl rfl ?_
      refine WL_off rfl rfl rfl rfl ?_
      refine WL_off rfl rfl rfl rfl ?_
      refine WL_off rfl rfl rfl rfl ?_
      refine o_pick rfl (v := .bool _) rfl rfl ?_
      refine o_assign (v := .bool _) rfl rfl ?_
      refine WL_nil ?_
      refine W_ret ?_
      refine ret_1 rfl (by conv => lhs; whnf) ?_
      exact ⟨by exact SF2 (by omega) (by omega), S.fin⟩
    refine o_move (v := .bool _) rfl rfl ?_
    refine WL_off rfl rfl rfl rfl ?_
    refine WL_off rfl rfl rfl rfl ?_
    refine WL_off rfl rfl rfl rfl ?_
    refine WL_off rfl rfl rfl rfl ?_
    refine WL_off rfl rfl rfl rfl ?_
    refine o_pick rfl (v := .bool _) rfl rfl ?_
    refine o_move (v := .bool _) rfl rfl ?_
    refine WL_off rfl rfl rfl rfl ?_
    refine WL_off rfl rfl rfl rfl ?_
    refine WL_off rfl rfl rfl rfl ?_
    refine WL_off rfl rfl rfl rfl ?_
    refine WL_off rfl rfl rfl rfl ?_
    refine o_pick rfl (v := .bool _) rfl rfl ?_
    refine o_assign (v := .bool _) rfl rfl ?_
    refine WL_nil ?_
    refine W_ret ?_
    refine ret_1 rfl (by conv => lhs; whnf) ?_
    exact ⟨by exact SF2 (by omega) (by omega), S.fin⟩
  refine o_assign (v := .bool _) rfl rfl ?_
  refine WL_nil ?_
  refine W_else rfl ?_
  refine W_skip ?_
  refine W_seq ?_
  refine W_seq ?_
  refine W_region ?_
  refine o_move (by conv => lhs; whnf) rfl ?_
  refine o_nilCheck rfl rfl ?_
  refine o_fieldAddr fa_73_2 rfl rfl ?_
  refine o_load one_3 rfl (by exact S.old c2) rfl ?_
  refine o_neq rfl rfl rfl (fun h74 => ?_) (fun h74 => ?_)
  · refine WL_nil ?_
    refine W_then rfl ?_
    refine W_seq ?_
    refine W_region ?_
    refine o_assign (v := .bool _) rfl rfl ?_
    refine WL_nil ?_
    refine W_ret ?_
    refine ret_1 rfl (by conv => lhs; whnf) ?_
    exact ⟨by exact shape_f (fun ⟨x1, x2, x3⟩ => by omega), S.fin⟩
  refine WL_nil ?_
  refine W_else rfl ?_
  refine W_skip ?_
  refine W_seq ?_
  refine W_seq ?_
  refine W_region ?_
  refine o_move (by conv => lhs; whnf) rfl ?_
  refine o_nilCheck rfl rfl ?_
  refine o_fieldAddr fa_73_0 rfl rfl ?_
  refine o_load one_3 rfl (by exact S.old c0) rfl ?_
  refine WL_nil ?_
  refine W_block ?_
  refine W_seq ?_
  refine W_region ?_
  refine o_eql rfl rfl rfl (fun h80 => ?_) (fun h80 => ?_)
  · refine o_assign (v := .bool _) rfl rfl ?_
    refine WL_nil ?_
    refine W_then rfl ?_
    refine W_seq ?_
    refine W_draw follows_mixed [0, 1, 2, 3, 4, 5, 6, 7] [8] [9, 10] (by kernel_rfl) rfl (Cl _ _ _ _) (Cl.start S) ?_
    refine q_move (by conv => lhs; whnf) rfl ?_
    refine q_nilCheck rfl rfl ?_
    refine q_fieldAddr fa_73_3 rfl rfl ?_
    refine q_load one_71 rfl (fun w1 hw => by exact hw.1.old c3) rfl ?_
    refine q_move (by conv => lhs; whnf) rfl ?_
    refine q_nilCheck rfl rfl ?_
    refine q_fieldAddr fa_73_1 rfl rfl ?_
    refine q_load one_3 rfl (fun w1 hw => by exact hw.1.old c1) rfl ?_
    refine QL_nil ?_
    refine BK_of ?_
    refine BKL_slice rfl rfl slz_43 (vs := [.int .i64 _]) (cs := [_]) (by rfl) rfl rfl rfl rfl rfl ?_
    refine BKL_nil ?_
    rintro wR13 ⟨SR13, XR13⟩
    intro g89 hg89 G89 ng89
    dsimp only [upds]
    clear ng89
    replace SR13 := SR13.push_new S hg89 G89
    refine o_callb SR13 has_150 rfl rfl (wide_fn e [] _ _ _ _ _ _ _ _ [e.w] (RdE.less (by simp) _ _ (RdE.keep (SR13.keep0 M) _ _ hRE)) (rdI_own (k := 0) SR13 rfl (by simp) rfl (by omega) (by simpa using o2))) (fun h90 w90 S90 X90 => ?_) (fun h90 w90 S90 X90 => ?_)
    · refine o_assign (v := .bool _) rfl rfl ?_
      refine WL_nil ?_
      refine W_ret ?_
      refine ret_1 rfl (by conv => lhs; whnf) ?_
      exact ⟨by exact ST4 (by omega) (by have := wideB_1.1 h90; omega), S90.fin⟩
    refine o_assign (v := .bool _) rfl rfl ?_
    refine WL_nil ?_
    refine W_ret ?_
    refine ret_1 rfl (by conv => lhs; whnf) ?_
    exact ⟨by exact SF4 (by omega) (fun g => by rw [wideB_1.2 (by omega)] at h90; cases h90), S90.fin⟩
  refine o_assign (v := .bool _) rfl rfl ?_
  refine WL_nil ?_
  refine W_else rfl ?_
  refine W_seq ?_
  refine W_seq ?_
  refine W_region ?_
  refine o_eql rfl rfl rfl (fun h92 => ?_) (fun h92 => ?_)
  · refine o_assign (v := .bool _) rfl rfl ?_
    refine WL_nil ?_
    refine W_then rfl ?_
    refine W_skip ?_
    refine W_then rfl ?_
    refine W_seq ?_
    refine W_draw follows_mixed [0, 1, 2, 3, 4, 5, 6, 7, 8, 9, 10, 11] [12] [13, 14] (by kernel_rfl) rfl (Cl _ _ _ _) (Cl.start S) ?_
    refine q_move (by conv => lhs; whnf) rfl ?_
    refine q_nilCheck rfl rfl ?_
    refine q_fieldAddr fa_73_3 rfl rfl ?_
    refine q_load one_71 rfl (fun w1 hw => by exact hw.1.old c3) rfl ?_
    refine q_move (by conv => lhs; whnf) rfl ?_
    refine q_nilCheck rfl rfl ?_
    refine q_fieldAddr fa_73_1 rfl rfl ?_
    refine q_load one_3 rfl (fun w1 hw => by exact hw.1.old c1) rfl ?_
    refine q_move (by conv => lhs; whnf) rfl ?_
    refine q_nilCheck rfl rfl ?_
    refine q_fieldAddr fa_73_1 rfl rfl ?_
    refine q_load one_3 rfl (fun w1 hw => by exact hw.1.old c1) rfl ?_
    refine QL_nil ?_
    refine BK_of ?_
    refine BKL_slice rfl rfl slz_43 (vs := [.int .i64 _, .int .i64 _]) (cs := [_, _]) (by rfl) rfl rfl rfl rfl rfl ?_
    refine BKL_nil ?_
    rintro wR20 ⟨SR20, XR20⟩
    intro g110 hg110 G110 ng110
    dsimp only [upds]
    clear ng110
    replace SR20 := SR20.push_new S hg110 G110
    refine o_callb SR20 has_150 rfl rfl (wide_fn e [] _ _ _ _ _ _ _ _ [e.w, e.w] (RdE.less (by simp) _ _ (RdE.keep (SR20.keep0 M) _ _ hRE)) (rdI_own (k := 0) SR20 rfl (by simp) rfl (by omega) (by simpa using o2))) (fun h111 w111 S111 X111 => ?_) (fun h111 w111 S111 X111 => ?_)
    · refine o_assign (v := .bool _) rfl rfl ?_
      refine WL_nil ?_
      refine W_ret ?_
      refine ret_1 rfl (by conv => lhs; whnf) ?_
      exact ⟨by exact ST5 (by omega) (by have := wideB_2.1 h111; omega), S111.fin⟩
    refine o_assign (v := .bool _) rfl rfl ?_
    refine WL_nil ?_
    refine W_ret ?_
    refine ret_1 rfl (by conv => lhs; whnf) ?_
    exact ⟨by exact SF5 (by omega) (fun g => by rw [wideB_2.2 (by omega)] at h111; cases h111), S111.fin⟩
  refine o_assign (v := .bool _) rfl rfl ?_
  refine WL_nil ?_
  refine W_else rfl ?_
  refine W_seq ?_
  refine W_region ?_
  refine o_eql rfl rfl rfl (fun h93 => ?_) (fun h93 => ?_)
  · refine o_assign (v := .bool _) rfl rfl ?_
    refine WL_nil ?_
    refine W_then rfl ?_
    refine W_skip ?_
    refine W_then rfl ?_
    refine W_seq ?_
    refine W_draw follows_mixed [0, 1, 2, 3, 4, 5, 6, 7, 8, 9, 10, 11] [12] [13, 14] (by kernel_rfl) rfl (Cl _ _ _ _) (Cl.start S) ?_
    refine q_move (by conv => lhs; whnf) rfl ?_
    refine q_nilCheck rfl rfl ?_
    refine q_fieldAddr fa_73_3 rfl rfl ?_
    refine q_load one_71 rfl (fun w1 hw => by exact hw.1.old c3) rfl ?_
    refine q_move (by conv => lhs; whnf) rfl ?_
    refine q_nilCheck rfl rfl ?_
    refine q_fieldAddr fa_73_1 rfl rfl ?_
    refine q_load one_3 rfl (fun w1 hw => by exact hw.1.old c1) rfl ?_
    refine q_move (by conv => lhs; whnf) rfl ?_
    refine q_nilCheck rfl rfl ?_
    refine q_fieldAddr fa_73_1 rfl rfl ?_
    refine q_load one_3 rfl (fun w1 hw => by exact hw.1.old c1) rfl ?_
    refine QL_nil ?_
    refine BK_of ?_
    refine BKL_slice rfl rfl slz_43 (vs := [.int .i64 _, .int .i64 _]) (cs := [_, _]) (by rfl) rfl rfl rfl rfl rfl ?_
    refine BKL_nil ?_
    rintro wR20 ⟨SR20, XR20⟩
    intro g110 hg110 G110 ng110
    dsimp only [upds]
    clear ng110
    replace SR20 := SR20.push_new S hg110 G110
    refine o_callb SR20 has_150 rfl rfl (wide_fn e [] _ _ _ _ _ _ _ _ [e.w, e.w] (RdE.less (by simp) _ _ (RdE.keep (SR20.keep0 M) _ _ hRE)) (rdI_own (k := 0) SR20 rfl (by simp) rfl (by omega) (by simpa using o2))) (fun h111 w111 S111 X111 => ?_) (fun h111 w111 S111 X111 => ?_)
    · refine o_assign (v := .bool _) rfl rfl ?_
      refine WL_nil ?_
      refine W_ret ?_
      refine ret_1 rfl (by conv => lhs; whnf) ?_
      exact ⟨by exact ST5 (by omega) (by have := wideB_2.1 h111; omega), S111.fin⟩
    refine o_assign (v := .bool _) rfl rfl ?_
    refine WL_nil ?_
    refine W_ret ?_
    refine ret_1 rfl (by conv => lhs; whnf) ?_
    exact ⟨by exact SF5 (by omega) (fun g => by rw [wideB_2.2 (by omega)] at h111; cases h111), S111.fin⟩
  refine o_assign (v := .bool _) rfl rfl ?_
  refine WL_nil ?_
  refine W_else rfl ?_
  refine W_seq ?_
  refine W_region ?_
  refine o_eql rfl rfl rfl (fun h94 => ?_) (fun h94 => ?_)
  · refine o_assign (v := .bool _) rfl rfl ?_
    refine WL_nil ?_
    refine W_then rfl ?_
    refine W_skip ?_
    refine W_then rfl ?_
    refine W_seq ?_
    refine W_draw follows_mixed [0, 1, 2, 3, 4, 5, 6, 7, 8, 9, 10, 11] [12] [13, 14] (by kernel_rfl) rfl (Cl _ _ _ _) (Cl.start S) ?_
    refine q_move (by conv => lhs; whnf) rfl ?_
    refine q_nilCheck rfl rfl ?_
    refine q_fieldAddr fa_73_3 rfl rfl ?_
    refine q_load one_71 rfl (fun w1 hw => by exact hw.1.old c3) rfl ?_
    refine q_move (by conv => lhs; whnf) rfl ?_
    refine q_nilCheck rfl rfl ?_
    refine q_fieldAddr fa_73_1 rfl rfl ?_
    refine q_load one_3 rfl (fun w1 hw => by exact hw.1.old c1) rfl ?_
    refine q_move (by conv => lhs; whnf) rfl ?_
    refine q_nilCheck rfl rfl ?_
    refine q_fieldAddr fa_73_1 rfl rfl ?_
    refine q_load one_3 rfl (fun w1 hw => by exact hw.1.old c1) rfl ?_
    refine QL_nil ?_
    refine BK_of ?_
    refine BKL_slice rfl rfl slz_43 (vs := [.int .i64 _, .int .i64 _]) (cs := [_, _]) (by rfl) rfl rfl rfl rfl rfl ?_
    refine BKL_nil ?_
    rintro wR20 ⟨SR20, XR20⟩
    intro g110 hg110 G110 ng110
    dsimp only [upds]
    clear ng110
    replace SR20 := SR20.push_new S hg110 G110
    refine o_callb SR20 has_150 rfl rfl (wide_fn e [] _ _ _ _ _ _ _ _ [e.w, e.w] (RdE.less (by simp) _ _ (RdE.keep (SR20.keep0 M) _ _ hRE)) (rdI_own (k := 0) SR20 rfl (by simp) rfl (by omega) (by simpa using o2))) (fun h111 w111 S111 X111 => ?_) (fun h111 w111 S111 X111 => ?_)
    · refine o_assign (v := .bool _) rfl rfl ?_
      refine WL_nil ?_
      refine W_ret ?_
      refine ret_1 rfl (by conv => lhs; whnf) ?_
      exact ⟨by exact ST5 (by omega) (by have := wideB_2.1 h111; omega), S111.fin⟩
    refine o_assign (v := .bool _) rfl rfl ?_
    refine WL_nil ?_
    refine W_ret ?_
    refine ret_1 rfl (by conv => lhs; whnf) ?_
    exact ⟨by exact SF5 (by omega) (fun g => by rw [wideB_2.2 (by omega)] at h111; cases h111), S111.fin⟩
  refine o_assign (v := .bool _) rfl rfl ?_
  refine WL_nil ?_
  refine W_else rfl ?_
  refine W_seq ?_
  refine W_region ?_
  refine o_eql rfl rfl rfl (fun h95 => ?_) (fun h95 => ?_)
  · refine o_assign (v := .bool _) rfl rfl ?_
    refine WL_nil ?_
    refine W_then rfl ?_
    refine W_skip ?_
    refine W_then rfl ?_
    refine W_seq ?_
    refine W_draw follows_mixed [0, 1, 2, 3, 4, 5, 6, 7, 8, 9, 10, 11] [12] [13, 14] (by kernel_rfl) rfl (Cl _ _ _ _) (Cl.start S) ?_
    refine q_move (by conv => lhs; whnf) rfl ?_
    refine q_nilCheck rfl rfl ?_
    refine q_fieldAddr fa_73_3 rfl rfl ?_
    refine q_load one_71 rfl (fun w1 hw => by exact hw.1.old c3) rfl ?_
    refine q_move (by conv => lhs; whnf) rfl ?_
    refine q_nilCheck rfl rfl ?_
    refine q_fieldAddr fa_73_1 rfl rfl ?_
    refine q_load one_3 rfl (fun w1 hw => by exact hw.1.old c1) rfl ?_
    refine q_move (by conv => lhs; whnf) rfl ?_
    refine q_nilCheck rfl rfl ?_
    refine q_fieldAddr fa_73_1 rfl rfl ?_
    refine q_load one_3 rfl (fun w1 hw => by exact hw.1.old c1) rfl ?_
    refine QL_nil ?_
    refine BK_of ?_
    refine BKL_slice rfl rfl slz_43 (vs := [.int .i64 _, .int .i64 _]) (cs := [_, _]) (by rfl) rfl rfl rfl rfl rfl ?_
    refine BKL_nil ?_
    rintro wR20 ⟨SR20, XR20⟩
    intro g110 hg110 G110 ng110
    dsimp only [upds]
    clear ng110
    replace SR20 := SR20.push_new S hg110 G110
    refine o_callb SR20 has_150 rfl rfl (wide_fn e [] _ _ _ _ _ _ _ _ [e.w, e.w] (RdE.less (by simp) _ _ (RdE.keep (SR20.keep0 M) _ _ hRE)) (rdI_own (k := 0) SR20 rfl (by simp) rfl (by omega) (by simpa using o2))) (fun h111 w111 S111 X111 => ?_) (fun h111 w111 S111 X111 => ?_)
    · refine o_assign (v := .bool _) rfl rfl ?_
      refine WL_nil ?_
      refine W_ret ?_
      refine ret_1 rfl (by conv => lhs; whnf) ?_
      exact ⟨by exact ST5 (by omega) (by have := wideB_2.1 h111; omega), S111.fin⟩
    refine o_assign (v := .bool _) rfl rfl ?_
    refine WL_nil ?_
    refine W_ret ?_
    refine ret_1 rfl (by conv => lhs; whnf) ?_
    exact ⟨by exact SF5 (by omega) (fun g => by rw [wideB_2.2 (by omega)] at h111; cases h111), S111.fin⟩
  refine o_assign (v := .bool _) rfl rfl ?_
  refine WL_nil ?_
  refine W_else rfl ?_
  refine W_seq ?_
  refine W_region ?_
  refine o_eql rfl rfl rfl (fun h96 => ?_) (fun h96 => ?_)
  · refine o_assign (v := .bool _) rfl rfl ?_
    refine WL_nil ?_
    refine W_then rfl ?_
    refine W_skip ?_
    refine W_then rfl ?_
    refine W_seq ?_
    refine W_draw follows_mixed [0, 1, 2, 3, 4, 5, 6, 7, 8, 9, 10, 11] [12] [13, 14] (by kernel_rfl) rfl (Cl _ _ _ _) (Cl.start S) ?_
    refine q_move (by conv => lhs; whnf) rfl ?_
    refine q_nilCheck rfl rfl ?_
    refine q_fieldAddr fa_73_3 rfl rfl ?_
    refine q_load one_71 rfl (fun w1 hw => by exact hw.1.old c3) rfl ?_
    refine q_move (by conv => lhs; whnf) rfl ?_
    refine q_nilCheck rfl rfl ?_
    refine q_fieldAddr fa_73_1 rfl rfl ?_
    refine q_load one_3 rfl (fun w1 hw => by exact hw.1.old c1) rfl ?_
    refine q_move (by conv => lhs; whnf) rfl ?_
    refine q_nilCheck rfl rfl ?_
    refine q_fieldAddr fa_73_1 rfl rfl ?_
    refine q_load one_3 rfl (fun w1 hw => by exact hw.1.old c1) rfl ?_
    refine QL_nil ?_
    refine BK_of ?_
    refine BKL_slice rfl rfl slz_43 (vs := [.int .i64 _, .int .i64 _]) (cs := [_, _]) (by rfl) rfl rfl rfl rfl rfl ?_
    refine BKL_nil ?_
    rintro wR20 ⟨SR20, XR20⟩
    intro g110 hg110 G110 ng110
    dsimp only [upds]
    clear ng110
    replace SR20 := SR20.push_new S hg110 G110
    refine o_callb SR20 has_150 rfl rfl (wide_fn e [] _ _ _ _ _ _ _ _ [e.w, e.w] (RdE.less (by simp) _ _ (RdE.keep (SR20.keep0 M) _ _ hRE)) (rdI_own (k := 0) SR20 rfl (by simp) rfl (by omega) (by simpa using o2))) (fun h111 w111 S111 X111 => ?_) (fun h111 w111 S111 X111 => ?_)
    · refine o_assign (v := .bool _) rfl rfl ?_
      refine WL_nil ?_
      refine W_ret ?_
      refine ret_1 rfl (by conv => lhs; whnf) ?_
      exact ⟨by exact ST5 (by omega) (by have := wideB_2.1 h111; omega), S111.fin⟩
    refine o_assign (v := .bool _) rfl rfl ?_
    refine WL_nil ?_
    refine W_ret ?_
    refine ret_1 rfl (by conv => lhs; whnf) ?_
    exact ⟨by exact SF5 (by omega) (fun g => by rw [wideB_2.2 (by omega)] at h111; cases h111), S111.fin⟩
  refine o_assign (v := .bool _) rfl rfl ?_
  refine WL_nil ?_
  refine W_else rfl ?_
  refine W_region ?_
  refine o_eql rfl rfl rfl (fun h97 => ?_) (fun h97 => ?_)
  · refine o_assign (v := .bool _) rfl rfl ?_
    refine WL_nil ?_
    refine W_then rfl ?_
    refine W_seq ?_
    refine W_draw follows_mixed [0, 1, 2, 3, 4, 5, 6, 7, 8, 9, 10, 11] [12] [13, 14] (by kernel_rfl) rfl (Cl _ _ _ _) (Cl.start S) ?_
    refine q_move (by conv => lhs; whnf) rfl ?_
    refine q_nilCheck rfl rfl ?_
    refine q_fieldAddr fa_73_3 rfl rfl ?_
    refine q_load one_71 rfl (fun w1 hw => by exact hw.1.old c3) rfl ?_
    refine q_move (by conv => lhs; whnf) rfl ?_
    refine q_nilCheck rfl rfl ?_
    refine q_fieldAddr fa_73_1 rfl rfl ?_
    refine q_load one_3 rfl (fun w1 hw => by exact hw.1.old c1) rfl ?_
    refine q_move (by conv => lhs; whnf) rfl ?_
    refine q_nilCheck rfl rfl ?_
    refine q_fieldAddr fa_73_1 rfl rfl ?_
    refine q_load one_3 rfl (fun w1 hw => by exact hw.1.old c1) rfl ?_
    refine QL_nil ?_
    refine BK_of ?_
    refine BKL_slice rfl rfl slz_43 (vs := [.int .i64 _, .int .i64 _]) (cs := [_, _]) (by rfl) rfl rfl rfl rfl rfl ?_
    refine BKL_nil ?_
    rintro wR20 ⟨SR20, XR20⟩
    intro g110 hg110 G110 ng110
    dsimp only [upds]
    clear ng110
    replace SR20 := SR20.push_new S hg110 G110
    refine o_callb SR20 has_150 rfl rfl (wide_fn e [] _ _ _ _ _ _ _ _ [e.w, e.w] (RdE.less (by simp) _ _ (RdE.keep (SR20.keep0 M) _ _ hRE)) (rdI_own (k := 0) SR20 rfl (by simp) rfl (by omega) (by simpa using o2))) (fun h111 w111 S111 X111 => ?_) (fun h111 w111 S111 X111 => ?_)
    · refine o_assign (v := .bool _) rfl rfl ?_
      refine WL_nil ?_
      refine W_ret ?_
      refine ret_1 rfl (by conv => lhs; whnf) ?_
      exact ⟨by exact ST5 (by omega) (by have := wideB_2.1 h111; omega), S111.fin⟩
    refine o_assign (v := .bool _) rfl rfl ?_
    refine WL_nil ?_
    refine W_ret ?_
    refine ret_1 rfl (by conv => lhs; whnf) ?_
    exact ⟨by exact SF5 (by omega) (fun g => by rw [wideB_2.2 (by omega)] at h111; cases h111), S111.fin⟩
  refine o_assign (v := .bool _) rfl rfl ?_
  refine WL_nil ?_
  refine W_else rfl ?_
  refine W_seq ?_
  refine W_seq ?_
  refine W_region ?_
  refine o_eql rfl rfl rfl (fun h113 => ?_) (fun h113 => ?_)
  · refine o_assign (v := .bool _) rfl rfl ?_
    refine WL_nil ?_
    refine W_then rfl ?_
    refine W_skip ?_
    refine W_then rfl ?_
    refine W_seq ?_
    refine W_draw follows_mixed [0, 1, 2, 3, 4, 5, 6, 7, 8, 9, 10, 11, 12, 13, 14, 15, 16, 17, 18, 19, 20, 21, 22, 23, 24, 25, 26, 27, 28, 29, 30] [] [] (by kernel_rfl) rfl (Cl _ _ _ _) (Cl.start S) ?_
    refine q_move (by conv => lhs; whnf) rfl ?_
    refine q_nilCheck rfl rfl ?_
    refine q_fieldAddr fa_73_1 rfl rfl ?_
    refine q_load one_3 rfl (fun w1 hw => by exact hw.1.old c1) rfl ?_
    refine q_eql rfl rfl rfl (fun h120 => ?_) (fun h120 => ?_)
    · refine q_move (v := .bool _) rfl rfl ?_
      refine QL_on rfl rfl ?_
      refine q_move (by conv => lhs; whnf) rfl ?_
      refine QL_on rfl rfl ?_
      refine q_nilCheck rfl rfl ?_
      refine QL_on rfl rfl ?_
      refine q_fieldAddr fa_73_3 rfl rfl ?_
      refine QL_on rfl rfl ?_
      refine q_load one_71 rfl (fun w1 hw => by exact hw.1.old c3) rfl ?_
      refine QL_on rfl rfl ?_
      refine q_len slz_71.slT rfl rfl ?_
      refine QL_on rfl rfl ?_
      refine q_eql rfl rfl rfl (fun h127 => ?_) (fun h127 => ?_)
      · refine q_pick rfl (v := .bool _) rfl rfl ?_
        refine q_move (v := .bool _) rfl rfl ?_
        refine QL_on rfl rfl ?_
        refine q_move (by conv => lhs; whnf) rfl ?_
        refine QL_on rfl rfl ?_
        refine q_nilCheck rfl rfl ?_
        refine QL_on rfl rfl ?_
        refine q_fieldAddr fa_73_3 rfl rfl ?_
        refine QL_on rfl rfl ?_
        refine q_load one_71 rfl (fun w1 hw => by exact hw.1.old c3) rfl ?_
        refine QL_on rfl rfl ?_
        obtain ⟨bk, ok, hA, hbkM, hkk⟩ := hks (by omega)
        have hk0 := kid_cells hkk 0 (by omega)
        have hk1 := kid_cells hkk 1 (by omega)
        refine q_indexAddr slz_71.slT rfl (by assumption) rfl (by omega) (by omega) rfl ?_
        refine QL_on rfl rfl ?_
        refine q_fieldAddr fa_73_1 rfl rfl ?_
        refine QL_on rfl rfl ?_
        refine q_load one_3 rfl (fun w1 hw => by exact hw.1.old hk0) rfl ?_
        refine QL_on rfl rfl ?_
        refine q_move (by conv => lhs; whnf) rfl ?_
        refine QL_on rfl rfl ?_
        refine q_nilCheck rfl rfl ?_
        refine QL_on rfl rfl ?_
        refine q_fieldAddr fa_73_3 rfl rfl ?_
        refine QL_on rfl rfl ?_
        refine q_load one_71 rfl (fun w1 hw => by exact hw.1.old c3) rfl ?_
        refine QL_on rfl rfl ?_
        refine q_indexAddr slz_71.slT rfl (by assumption) rfl (by omega) (by omega) rfl ?_
        refine QL_on rfl rfl ?_
        refine q_fieldAddr fa_73_1 rfl rfl ?_
        refine QL_on rfl rfl ?_
        refine q_load one_3 rfl (fun w1 hw => by exact hw.1.old hk1) rfl ?_
        refine QL_on rfl rfl ?_
        refine q_eql rfl rfl rfl (fun h144 => ?_) (fun h144 => ?_)
        · refine q_pick rfl (v := .bool _) rfl rfl ?_
          refine q_assign (v := .bool _) rfl rfl ?_
          refine QL_nil ?_
          refine BK_of ?_
          refine BKL_nil ?_
          rintro wR24 ⟨SR24, XR24⟩
          refine WL_nil ?_
          refine W_ret ?_
          refine ret_1 rfl (by conv => lhs; whnf) ?_
          exact ⟨by exact ST11 (by omega) (by omega), SR24.fin⟩
        refine q_pick rfl (v := .bool _) rfl rfl ?_
        refine q_assign (v := .bool _) rfl rfl ?_
        refine QL_nil ?_
        refine BK_of ?_
        refine BKL_nil ?_
        rintro wR24 ⟨SR24, XR24⟩
        refine WL_nil ?_
        refine W_ret ?_
        refine ret_1 rfl (by conv => lhs; whnf) ?_
        exact ⟨by exact SF11 (by omega) (by omega), SR24.fin⟩
      refine q_pick rfl (v := .bool _) rfl rfl ?_
      refine q_move (v := .bool _) rfl rfl ?_
      refine QL_off rfl rfl rfl ?_
      refine QL_off rfl rfl rfl ?_
      refine QL_off rfl rfl rfl ?_
      refine QL_off rfl rfl rfl ?_
      refine QL_off rfl rfl rfl ?_
      refine QL_off rfl rfl rfl ?_
      refine QL_off rfl rfl rfl ?_
      refine QL_off rfl rfl rfl ?_
      refine QL_off rfl rfl rfl ?_
      refine QL_off rfl rfl rfl ?_
      refine QL_off rfl rfl rfl ?_
      refine QL_off rfl rfl rfl ?_
      refine QL_off rfl rfl rfl ?_
      refine QL_off rfl rfl rfl ?_
      refine QL_off rfl rfl rfl ?_
      refine q_pick rfl (v := .bool _) rfl rfl ?_
      refine q_assign (v := .bool _) rfl rfl ?_
      refine QL_nil ?_
      refine BK_of ?_
      refine BKL_nil ?_
      rintro wR24 ⟨SR24, XR24⟩
      refine WL_nil ?_
      refine W_ret ?_
      refine ret_1 rfl (by conv => lhs; whnf) ?_
      exact ⟨by exact SF11 (by omega) (by omega), SR24.fin⟩
    refine q_move (v := .bool _) rfl rfl ?_
    refine QL_off rfl rfl rfl ?_
    refine QL_off rfl rfl rfl ?_
    refine QL_off rfl rfl rfl ?_
    refine QL_off rfl rfl rfl ?_
    refine QL_off rfl rfl rfl ?_
    refine QL_off rfl rfl rfl ?_
    refine q_pick rfl (v := .bool _) rfl rfl ?_
    refine q_move (v := .bool _) rfl rfl ?_
    refine QL_off rfl rfl rfl ?_
    refine QL_off rfl rfl rfl ?_
    refine QL_off rfl rfl rfl ?_
    refine QL_off rfl rfl rfl ?_
    refine QL_off rfl rfl rfl ?_
    refine QL_off rfl rfl rfl ?_
    refine QL_off rfl rfl rfl ?_
    refine QL_off rfl rfl rfl ?_
    refine QL_off rfl rfl rfl ?_
    refine QL_off rfl rfl rfl ?_
    refine QL_off rfl rfl rfl ?_
    refine QL_off rfl rfl rfl ?_
    refine QL_off rfl rfl rfl ?_
    refine QL_off rfl rfl rfl ?_
    refine QL_off rfl rfl rfl ?_
    refine q_pick rfl (v := .bool _) rfl rfl ?_
    refine q_assign (v := .bool _) rfl rfl ?_
    refine QL_nil ?_
    refine BK_of ?_
    refine BKL_nil ?_
    rintro wR24 ⟨SR24, XR24⟩
    refine WL_nil ?_
    refine W_ret ?_
    refine ret_1 rfl (by conv => lhs; whnf) ?_
    exact ⟨by exact SF11 (by omega) (by omega), SR24.fin⟩
  refine o_assign (v := .bool _) rfl rfl ?_
  refine WL_nil ?_
  refine W_else rfl ?_
  refine W_seq ?_
  refine W_region ?_
  refine o_eql rfl rfl rfl (fun h114 => ?_) (fun h114 => ?_)
  · refine o_assign (v := .bool _) rfl rfl ?_
    refine WL_nil ?_
    refine W_then rfl ?_
    refine W_skip ?_
    refine W_then rfl ?_
    refine W_seq ?_
    refine W_draw follows_mixed [0, 1, 2, 3, 4, 5, 6, 7, 8, 9, 10, 11, 12, 13, 14, 15, 16, 17, 18, 19, 20, 21, 22, 23, 24, 25, 26, 27, 28, 29, 30] [] [] (by kernel_rfl) rfl (Cl _ _ _ _) (Cl.start S) ?_
    refine q_move (by conv => lhs; whnf) rfl ?_
    refine q_nilCheck rfl rfl ?_
    refine q_fieldAddr fa_73_1 rfl rfl ?_
    refine q_load one_3 rfl (fun w1 hw => by exact hw.1.old c1) rfl ?_
    refine q_eql rfl rfl rfl (fun h120 => ?_) (fun h120 => ?_)
    · refine q_move (v := .bool _) rfl rfl ?_
      refine QL_on rfl rfl ?_
      refine q_move (by conv => lhs; whnf) rfl ?_
      refine QL_on rfl rfl ?_
      refine q_nilCheck rfl rfl ?_
      refine QL_on rfl rfl ?_
      refine q_fieldAddr fa_73_3 rfl rfl ?_
      refine QL_on rfl rfl ?_
      refine q_load one_71 rfl (fun w1 hw => by exact hw.1.old c3) rfl ?_
      refine QL_on rfl rfl ?_
      refine q_len slz_71.slT rfl rfl ?_
      refine QL_on rfl rfl ?_
      refine q_eql rfl rfl rfl (fun h127 => ?_) (fun h127 => ?_)
      · refine q_pick rfl (v := .bool _) rfl rfl ?_
        refine q_move (v := .bool _) rfl rfl ?_
        refine QL_on rfl rfl ?_
        refine q_move (by conv => lhs; whnf) rfl ?_
        refine QL_on rfl rfl ?_
        refine q_nilCheck rfl rfl ?_
        refine QL_on rfl rfl ?_
        refine q_fieldAddr fa_73_3 rfl rfl ?_
        refine QL_on rfl rfl ?_
        refine q_load one_71 rfl (fun w1 hw => by exact hw.1.old c3) rfl ?_
        refine QL_on rfl rfl ?_
        obtain ⟨bk, ok, hA, hbkM, hkk⟩ := hks (by omega)
        have hk0 := kid_cells hkk 0 (by omega)
        have hk1 := kid_cells hkk 1 (by omega)
        refine q_indexAddr slz_71.slT rfl (by assumption) rfl (by omega) (by omega) rfl ?_
        refine QL_on rfl rfl ?_
        refine q_fieldAddr fa_73_1 rfl rfl ?_
        refine QL_on rfl rfl ?_
        refine q_load one_3 rfl (fun w1 hw => by exact hw.1.old hk0) rfl ?_
        refine QL_on rfl rfl ?_
        refine q_move (by conv => lhs; whnf) rfl ?_
        refine QL_on rfl rfl ?_
        refine q_nilCheck rfl rfl ?_
        refine QL_on rfl rfl ?_
        refine q_fieldAddr fa_73_3 rfl rfl ?_
        refine QL_on rfl rfl ?_
        refine q_load one_71 rfl (fun w1 hw => by exact hw.1.old c3) rfl ?_
        refine QL_on rfl rfl ?_
        refine q_indexAddr slz_71.slT rfl (by assumption) rfl (by omega) (by omega) rfl ?_
        refine QL_on rfl rfl ?_
        refine q_fieldAddr fa_73_1 rfl rfl ?_
        refine QL_on rfl rfl ?_
        refine q_load one_3 rfl (fun w1 hw => by exact hw.1.old hk1) rfl ?_
        refine QL_on rfl rfl ?_
        refine q_eql rfl rfl rfl (fun h144 => ?_) (fun h144 => ?_)
        · refine q_pick rfl (v := .bool _) rfl rfl ?_
          refine q_assign (v := .bool _) rfl rfl ?_
          refine QL_nil ?_
          refine BK_of ?_
          refine BKL_nil ?_
          rintro wR24 ⟨SR24, XR24⟩
          refine WL_nil ?_
          refine W_ret ?_
          refine ret_1 rfl (by conv => lhs; whnf) ?_
          exact ⟨by exact ST11 (by omega) (by omega), SR24.fin⟩
        refine q_pick rfl (v := .bool _) rfl rfl ?_
        refine q_assign (v := .bool _) rfl rfl ?_
        refine QL_nil ?_
        refine BK_of ?_
        refine BKL_nil ?_
        rintro wR24 ⟨SR24, XR24⟩
        refine WL_nil ?_
        refine W_ret ?_
        refine ret_1 rfl (by conv => lhs; whnf) ?_
        exact ⟨by exact SF11 (by omega) (by omega), SR24.fin⟩
      refine q_pick rfl (v := .bool _) rfl rfl ?_
      refine q_move (v := .bool _) rfl rfl ?_
      refine QL_off rfl rfl rfl ?_
      refine QL_off rfl rfl rfl ?_
      refine QL_off rfl rfl rfl ?_
      refine QL_off rfl rfl rfl ?_
      refine QL_off rfl rfl rfl ?_
      refine QL_off rfl rfl rfl ?_
      refine QL_off rfl rfl rfl ?_
      refine QL_off rfl rfl rfl ?_
      refine QL_off rfl rfl rfl ?_
      refine QL_off rfl rfl rfl ?_
      refine QL_off rfl rfl rfl ?_
      refine QL_off rfl rfl rfl ?_
      refine QL_off rfl rfl rfl ?_
      refine QL_off rfl rfl rfl ?_
      refine QL_off rfl rfl rfl ?_
      refine q_pick rfl (v := .bool _) rfl rfl ?_
      refine q_assign (v := .bool _) rfl rfl ?_
      refine QL_nil ?_
      refine BK_of ?_
      refine BKL_nil ?_
      rintro wR24 ⟨SR24, XR24⟩
      refine WL_nil ?_
      refine W_ret ?_
      refine ret_1 rfl (by conv => lhs; whnf) ?_
      exact ⟨by exact SF11 (by omega) (by omega), SR24.fin⟩
    refine q_move (v := .bool _) rfl rfl ?_
    refine QL_off rfl rfl rfl ?_
    refine QL_off rfl rfl rfl ?_
    refine QL_off rfl rfl rfl ?_
    refine QL_off rfl rfl rfl ?_
    refine QL_off rfl rfl rfl ?_
    refine QL_off rfl rfl rfl ?_
    refine q_pick rfl (v := .bool _) rfl rfl ?_
    refine q_move (v := .bool _) rfl rfl ?_
    refine QL_off rfl rfl rfl ?_
    refine QL_off rfl rfl rfl ?_
    refine QL_off rfl rfl rfl ?_
    refine QL_off rfl rfl rfl ?_
    refine QL_off rfl rfl rfl ?_
    refine QL_off rfl rfl rfl ?_
    refine QL_off rfl rfl rfl ?_
    refine QL_off rfl rfl rfl ?_
    refine QL_off rfl rfl rfl ?_
    refine QL_off rfl rfl rfl ?_
    refine QL_off rfl rfl rfl ?_
    refine QL_off rfl rfl rfl ?_
    refine QL_off rfl rfl rfl ?_
    refine QL_off rfl rfl rfl ?_
    refine QL_off rfl rfl rfl ?_
    refine q_pick rfl (v := .bool _) rfl rfl ?_
    refine q_assign (v := .bool _) rfl rfl ?_
    refine QL_nil ?_
    refine BK_of ?_
    refine BKL_nil ?_
    rintro wR24 ⟨SR24, XR24⟩
    refine WL_nil ?_
    refine W_ret ?_
    refine ret_1 rfl (by conv => lhs; whnf) ?_
    exact ⟨by exact SF11 (by omega) (by omega), SR24.fin⟩
  refine o_assign (v := .bool _) rfl rfl ?_
  refine WL_nil ?_
  refine W_else rfl ?_
  refine W_region ?_
  refine o_eql rfl rfl rfl (fun h115 => ?_) (fun h115 => ?_)
  · refine o_assign (v := .bool _) rfl rfl ?_
    refine WL_nil ?_
    refine W_then rfl ?_
    refine W_seq ?_
    refine W_draw follows_mixed [0, 1, 2, 3, 4, 5, 6, 7, 8, 9, 10, 11, 12, 13, 14, 15, 16, 17, 18, 19, 20, 21, 22, 23, 24, 25, 26, 27, 28, 29, 30] [] [] (by kernel_rfl) rfl (Cl _ _ _ _) (Cl.start S) ?_
    refine q_move (by conv => lhs; whnf) rfl ?_
    refine q_nilCheck rfl rfl ?_
    refine q_fieldAddr fa_73_1 rfl rfl ?_
    refine q_load one_3 rfl (fun w1 hw => by exact hw.1.old c1) rfl ?_
    refine q_eql rfl rfl rfl (fun h120 => ?_) (fun h120 => ?_)
    · refine q_move (v := .bool _) rfl rfl ?_
      refine QL_on rfl rfl ?_
      refine q_move (by conv => lhs; whnf) rfl ?_
      refine QL_on rfl rfl ?_
      refine q_nilCheck rfl rfl ?_
      refine QL_on rfl rfl ?_
      refine q_fieldAddr fa_73_3 rfl rfl ?_
      refine QL_on rfl rfl ?_
      refine q_load one_71 rfl (fun w1 hw => by exact hw.1.old c3) rfl ?_
      refine QL_on rfl rfl ?_
      refine q_len slz_71.slT rfl rfl ?_
      refine QL_on rfl rfl ?_
      refine q_eql rfl rfl rfl (fun h127 => ?_) (fun h127 => ?_)
      · refine q_pick rfl (v := .bool _) rfl rfl ?_
        refine q_move (v := .bool _) rfl rfl ?_
        refine QL_on rfl rfl ?_
        refine q_move (by conv => lhs; whnf) rfl ?_
        refine QL_on rfl rfl ?_
        refine q_nilCheck rfl rfl ?_
        refine QL_on rfl rfl ?_
        refine q_fieldAddr fa_73_3 rfl rfl ?_
        refine QL_on rfl rfl ?_
        refine q_load one_71 rfl (fun w1 hw => by exact hw.1.old c3) rfl ?_
        refine QL_on rfl rfl ?_
        obtain ⟨bk, ok, hA, hbkM, hkk⟩ := hks (by omega)
        have hk0 := kid_cells hkk 0 (by omega)
        have hk1 := kid_cells hkk 1 (by omega)
        refine q_indexAddr slz_71.slT rfl (by assumption) rfl (by omega) (by omega) rfl ?_
        refine QL_on rfl rfl ?_
        refine q_fieldAddr fa_73_1 rfl rfl ?_
        refine QL_on rfl rfl ?_
        refine q_load one_3 rfl (fun w1 hw => by exact hw.1.old hk0) rfl ?_
        refine QL_on rfl rfl ?_
        refine q_move (by conv => lhs; whnf) rfl ?_
        refine QL_on rfl rfl ?_
        refine q_nilCheck rfl rfl ?_
        refine QL_on rfl rfl ?_
        refine q_fieldAddr fa_73_3 rfl rfl ?_
        refine QL_on rfl rfl ?_
        refine q_load one_71 rfl (fun w1 hw => by exact hw.1.old c3) rfl ?_
        refine QL_on rfl rfl ?_
        refine q_indexAddr slz_71.slT rfl (by assumption) rfl (by omega) (by omega) rfl ?_
        refine QL_on rfl rfl ?_
        refine q_fieldAddr fa_73_1 rfl rfl ?_
        refine QL_on rfl rfl ?_
        refine q_load one_3 rfl (fun w1 hw => by exact hw.1.old hk1) rfl ?_
        refine QL_on rfl rfl ?_
        refine q_eql rfl rfl rfl (fun h144 => ?_) (fun h144 => ?_)
        · refine q_pick rfl (v := .bool _) rfl rfl ?_
          refine q_assign (v := .bool _) rfl rfl ?_
          refine QL_nil ?_
          refine BK_of ?_
          refine BKL_nil ?_
          rintro wR24 ⟨SR24, XR24⟩
          refine WL_nil ?_
          refine W_ret ?_
          refine ret_1 rfl (by conv => lhs; whnf) ?_
          exact ⟨by exact ST11 (by omega) (by omega), SR24.fin⟩
        refine q_pick rfl (v := .bool _) rfl rfl ?_
        refine q_assign (v := .bool _) rfl rfl ?_
        refine QL_nil ?_
        refine BK_of ?_
        refine BKL_nil ?_
        rintro wR24 ⟨SR24, XR24⟩
        refine WL_nil ?_
        refine W_ret ?_
        refine ret_1 rfl (by conv => lhs; whnf) ?_
        exact ⟨by exact SF11 (by omega) (by omega), SR24.fin⟩
      refine q_pick rfl (v := .bool _) rfl rfl ?_
      refine q_move (v := .bool _) rfl rfl ?_
      refine QL_off rfl rfl rfl ?_
      refine QL_off rfl rfl rfl ?_
      refine QL_off rfl rfl rfl ?_
      refine QL_off rfl rfl rfl ?_
      refine QL_off rfl rfl rfl ?_
      refine QL_off rfl rfl rfl ?_
      refine QL_off rfl rfl rfl ?_
      refine QL_off rfl rfl rfl ?_
      refine QL_off rfl rfl rfl ?_
      refine QL_off rfl rfl rfl ?_
      refine QL_off rfl rfl rfl ?_
      refine QL_off rfl rfl rfl ?_
      refine QL_off rfl rfl rfl ?_
      refine QL_off rfl rfl rfl ?_
      refine QL_off rfl rfl rfl ?_
      refine q_pick rfl (v := .bool _) rfl rfl ?_
      refine q_assign (v := .bool _) rfl rfl ?_
      refine QL_nil ?_
      refine BK_of ?_
      refine BKL_nil ?_
      rintro wR24 ⟨SR24, XR24⟩
      refine WL_nil ?_
      refine W_ret ?_
      refine ret_1 rfl (by conv => lhs; whnf) ?_
      exact ⟨by exact SF11 (by omega) (by omega), SR24.fin⟩
    refine q_move (v := .bool _) rfl rfl ?_
    refine QL_off rfl rfl rfl ?_
    refine QL_off rfl rfl rfl ?_
    refine QL_off rfl rfl rfl ?_
    refine QL_off rfl rfl rfl ?_
    refine QL_off rfl rfl rfl ?_
    refine QL_off rfl rfl rfl ?_
    refine q_pick rfl (v := .bool _) rfl rfl ?_
    refine q_move (v := .bool _) rfl rfl ?_
    refine QL_off rfl rfl rfl ?_
    refine QL_off rfl rfl rfl ?_
    refine QL_off rfl rfl rfl ?_
    refine QL_off rfl rfl rfl ?_
    refine QL_off rfl rfl rfl ?_
    refine QL_off rfl rfl rfl ?_
    refine QL_off rfl rfl rfl ?_
    refine QL_off rfl rfl rfl ?_
    refine QL_off rfl rfl rfl ?_
    refine QL_off rfl rfl rfl ?_
    refine QL_off rfl rfl rfl ?_
    refine QL_off rfl rfl rfl ?_
    refine QL_off rfl rfl rfl ?_
    refine QL_off rfl rfl rfl ?_
    refine QL_off rfl rfl rfl ?_
    refine q_pick rfl (v := .bool _) rfl rfl ?_
    refine q_assign (v := .bool _) rfl rfl ?_
    refine QL_nil ?_
    refine BK_of ?_
    refine BKL_nil ?_
    rintro wR24 ⟨SR24, XR24⟩
    refine WL_nil ?_
    refine W_ret ?_
    refine ret_1 rfl (by conv => lhs; whnf) ?_
    exact ⟨by exact SF11 (by omega) (by omega), SR24.fin⟩
  refine o_assign (v := .bool _) rfl rfl ?_
  refine WL_nil ?_
  refine W_else rfl ?_
  refine W_seq ?_
  refine W_region ?_
  refine o_eql rfl rfl rfl (fun h147 => ?_) (fun h147 => ?_)
  · refine o_assign (v := .bool _) rfl rfl ?_
    refine WL_nil ?_
    refine W_then rfl ?_
    refine W_seq ?_
    refine W_draw follows_mixed [0, 1, 2, 3, 4, 5, 6, 7, 8, 9, 10, 11] [12] [13, 14] (by kernel_rfl) rfl (Cl _ _ _ _) (Cl.start S) ?_
    refine q_move (by conv => lhs; whnf) rfl ?_
    refine q_nilCheck rfl rfl ?_
    refine q_fieldAddr fa_73_3 rfl rfl ?_
    refine q_load one_71 rfl (fun w1 hw => by exact hw.1.old c3) rfl ?_
    refine q_move (by conv => lhs; whnf) rfl ?_
    refine q_nilCheck rfl rfl ?_
    refine q_fieldAddr fa_73_1 rfl rfl ?_
    refine q_load one_3 rfl (fun w1 hw => by exact hw.1.old c1) rfl ?_
    refine q_move (by conv => lhs; whnf) rfl ?_
    refine q_nilCheck rfl rfl ?_
    refine q_fieldAddr fa_73_1 rfl rfl ?_
    refine q_load one_3 rfl (fun w1 hw => by exact hw.1.old c1) rfl ?_
    refine QL_nil ?_
    refine BK_of ?_
    refine BKL_slice rfl rfl slz_43 (vs := [.int .i64 _, .int .i64 _, .int .i64 _]) (cs := [_, _, _]) (by rfl) rfl rfl rfl rfl rfl ?_
    refine BKL_nil ?_
    rintro wR26 ⟨SR26, XR26⟩
    intro g160 hg160 G160 ng160
    dsimp only [upds]
    clear ng160
    replace SR26 := SR26.push_new S hg160 G160
    refine o_callb SR26 has_150 rfl rfl (wide_fn e [] _ _ _ _ _ _ _ _ [1, e.w, e.w] (RdE.less (by simp) _ _ (RdE.keep (SR26.keep0 M) _ _ hRE)) (rdI_own (k := 0) SR26 rfl (by simp) rfl (by omega) (by simpa [i64] using o2))) (fun h161 w161 S161 X161 => ?_) (fun h161 w161 S161 X161 => ?_)
    · refine o_assign (v := .bool _) rfl rfl ?_
      refine WL_nil ?_
      refine W_ret ?_
      refine ret_1 rfl (by conv => lhs; whnf) ?_
      exact ⟨by exact ST14 (by omega) (by have := wideB_3.1 h161; omega), S161.fin⟩
    refine o_assign (v := .bool _) rfl rfl ?_
    refine WL_nil ?_
    refine W_ret ?_
    refine ret_1 rfl (by conv => lhs; whnf) ?_
    exact ⟨by exact SF14 (by omega) (fun g => by rw [wideB_3.2 (by omega)] at h161; cases h161), S161.fin⟩
  refine o_assign (v := .bool _) rfl rfl ?_
  refine WL_nil ?_
  refine W_else rfl ?_
  refine W_skip ?_
  refine W_seq ?_
  refine W_region ?_
  refine o_assign (v := .bool _) rfl rfl ?_
  refine WL_nil ?_
  refine W_ret ?_
  refine ret_1 rfl (by conv => lhs; whnf) ?_
  exact ⟨by exact SN (by omega), S.fin⟩
theorem cnts_take (ks : List E) (k : Nat) (h : k < ks.length) : E.cnts (ks.take (k + 1)) = E.cnts (ks.take k) + ks[k].cnt := by
  induction ks generalizing k with
  | nil => simp at h
  | cons x xs ih =>
    cases k with
    | zero => simp [E.cnts]
    | succ k => simp only [List.take_succ_cons, E.cnts, List.getElem_cons_succ]; rw [ih k (by simpa using h)]; omega
theorem cnts_take_le (ks : List E) (k : Nat) : E.cnts (ks.take k) ≤ E.cnts ks := by
  induction ks generalizing k with
  | nil => simp [E.cnts]
  | cons x xs ih =>
    cases k with
    | zero => simp [E.cnts]
    | succ k => simp only [List.take_succ_cons, E.cnts]; have := ih k; omega
def visB (e : E) (depth : Int) (cnt : Nat) : Bool := decide (cnt + e.cnt ≤ 600) && e.good (41 - depth)
theorem visit_fn : ∀ (e : E) (M : List Nat) (w0 : World) (b o : Nat) (depth : Int) (cnt gc gv : Nat), RdP M w0 e b o → Masks M w0 → gc ∈ M → gv ∉ M → hasBlk w0 (gc, 3, [.int .i64 (cnt : Int)]) →
    w0.cell? ⟨gv, 0, none⟩ = some (.func (.func 121) #[] #[.pointer (some ⟨gc, 0, none⟩), .pointer (some ⟨gv, 0, none⟩)]) → cnt ≤ 600 → 1 ≤ depth → depth ≤ 41 →
    Does Tryz.prog 121 #[.pointer (some ⟨b, o, none⟩), .int .i64 depth, .pointer (some ⟨gc, 0, none⟩), .pointer (some ⟨gv, 0, none⟩)] w0 fun v w' =>
      ∃ cnt' : Nat, BelowB [gc] w0 w' ∧ hasBlk w' (gc, 3, [.int .i64 (cnt' : Int)]) ∧ v = .bool (visB e depth cnt) ∧ (visB e depth cnt = true → cnt' = cnt + e.cnt) := by
  intro e
  induction e using E.induct with
  | _ e ih =>
  intro M w0 b o depth cnt gc gv hR hK hgc hgv hblk hvc hcnt hd1 hd2
  obtain ⟨hbM, o1, o2, o3, c0, c1, c2, A, n, c, c3, hn, hc, hm, hbig, hks, hRE⟩ := hR.open_
  have S := St.borrow1 hblk
  have hsub : ∀ g ∈ [gc], g ∈ M := fun g hg => by simp at hg; subst hg; exact hgc
  have hb' : b ∉ [gc] := fun h => hbM (hsub b h)
  have hv' : gv ∉ [gc] := fun h => hgv (hsub gv h)
  have hgd := E.good_def e (41 - depth)
  have hce := E.cnt_def e
  have hfalse : ∀ k ∈ e.kids, k.good (41 - (depth + 1)) = false → E.goods e.kids (41 - depth - 1) = false := fun k hk hf => by
    cases hg : E.goods e.kids (41 - depth - 1) with
    | false => rfl
    | true => rw [show 41 - (depth + 1) = 41 - depth - 1 by omega, (E.goods_iff _ _).1 hg k hk] at hf; cases hf
  refine Does_enter Tryz.func121 rfl Tryz.ntmps121 rfl ?_
  refine W_seq ?_
  refine W_region ?_
  refine o_assign (v := .bool _) rfl rfl ?_
  refine WL_nil ?_
  refine W_seq ?_
  refine W_region ?_
  refine o_load one_3 rfl (by exact S.cell 0 rfl rfl) rfl ?_
  refine o_add rfl rfl (by unfold i64; omega) rfl ?_
  first | refine o_store (kk := 0) S sz_3 rfl (by conv => lhs; whnf) rfl rfl (by exact Nat.le_of_ble_eq_true rfl) ?_
  intro w1_2 S1_2 X1_2
  refine WL_nil ?_
  refine W_seq ?_
  refine W_seq ?_
  refine W_region ?_
  refine o_load one_3 rfl (by exact S1_2.cell 0 rfl rfl) rfl ?_
  refine o_gtr rfl rfl rfl (fun h11 => ?_) (fun h11 => ?_)
  · refine o_move (v := .bool _) rfl rfl ?_
    refine WL_off rfl rfl rfl rfl ?_
    refine WL_off rfl rfl rfl rfl ?_
    refine o_pick rfl (v := .bool _) rfl rfl ?_
    refine o_move (v := .bool _) rfl rfl ?_
    refine WL_off rfl rfl rfl rfl ?_
    refine WL_off rfl rfl rfl rfl ?_
    refine WL_off rfl rfl rfl rfl ?_
    refine o_pick rfl (v := .bool _) rfl rfl ?_
    refine WL_nil ?_
    refine W_then rfl ?_
    refine W_seq ?_
    refine W_region ?_
    refine o_assign (v := .bool _) rfl rfl ?_
    refine WL_nil ?_
    refine W_ret ?_
    refine ret_1 rfl (by conv => lhs; whnf) ?_
    have hvf : visB e depth cnt = false := by
      unfold visB; rw [hgd]
      rw [decide_eq_false (show ¬ cnt + e.cnt ≤ 600 by omega)]; rfl
    exact ⟨cnt + 1, S1_2.below, S1_2.blk 0 rfl, by rw [hvf], fun h => by rw [hvf] at h; cases h⟩
  refine o_move (v := .bool _) rfl rfl ?_
  refine WL_on rfl rfl rfl ?_
  refine o_move (v := .int .i64 _) rfl rfl ?_
  refine WL_on rfl rfl rfl ?_
  refine o_gtr rfl rfl rfl (fun h14 => ?_) (fun h14 => ?_)
  · refine o_pick rfl (v := .bool _) rfl rfl ?_
    refine o_move (v := .bool _) rfl rfl ?_
    refine WL_off rfl rfl rfl rfl ?_
    refine WL_off rfl rfl rfl rfl ?_
    refine WL_off rfl rfl rfl rfl ?_
    refine o_pick rfl (v := .bool _) rfl rfl ?_
    refine WL_nil ?_
    refine W_then rfl ?_
    refine W_seq ?_
    refine W_region ?_
    refine o_assign (v := .bool _) rfl rfl ?_
    refine WL_nil ?_
    refine W_ret ?_
    refine ret_1 rfl (by conv => lhs; whnf) ?_
    have hvf : visB e depth cnt = false := by
      unfold visB; rw [hgd]
      simp [show ¬ 1 ≤ 41 - depth by omega]; done
    exact ⟨cnt + 1, S1_2.below, S1_2.blk 0 rfl, by rw [hvf], fun h => by rw [hvf] at h; cases h⟩
  refine o_pick rfl (v := .bool _) rfl rfl ?_
  refine o_move (v := .bool _) rfl rfl ?_
  refine WL_on rfl rfl rfl ?_
  refine o_move (by conv => lhs; whnf) rfl ?_
  refine WL_on rfl rfl rfl ?_
  refine o_callb S1_2 has_122 rfl rfl (shaped_fn _ M _ _ _ (hR.keep (S1_2.keepM.mono hsub)) (hK.keep (S1_2.keepM.mono hsub))) (fun h18 w18 S18 X18 => ?_) (fun h18 w18 S18 X18 => ?_)
  · refine WL_on rfl rfl rfl ?_
    refine o_not rfl rfl ?_
    refine o_pick rfl (v := .bool _) rfl rfl ?_
    refine WL_nil ?_
    refine W_else rfl ?_
    refine W_skip ?_
    refine W_seq ?_
    refine W_seq ?_
    refine W_region ?_
    refine o_move (by conv => lhs; whnf) rfl ?_
    refine o_nilCheck rfl rfl ?_
    refine o_fieldAddr fa_73_3 rfl rfl ?_
    refine o_load one_71 rfl (by exact S18.oldM hb' c3) rfl ?_
    refine o_len slz_71.slT rfl rfl ?_
    refine o_move (v := .int .i64 _) rfl rfl ?_
    refine WL_nil ?_
    refine W_block ?_
    refine W_loop (fun μ D ε w => D = [] ∧ ∃ k : Nat, (k + μ = e.kids.length) ∧ (∀ (j : Nat) (h : j < e.kids.length), j < k → e.kids[j].good (41 - depth - 1) = true) ∧ (cnt + 1 + E.cnts (e.kids.take k) ≤ 600) ∧ St [gc] w0 w [(some gc, 3, [.int .i64 ((cnt + 1 + E.cnts (e.kids.take k) : Nat) : Int)])] ∧ ε 0 = .pointer (some ⟨b, o, none⟩) ∧ ε 1 = .int .i64 depth ∧ ε 2 = .pointer (some ⟨gc, 0, none⟩) ∧ ε 3 = .pointer (some ⟨gv, 0, none⟩) ∧ ε 25 = .int .i64 n ∧ ε 26 = .int .i64 k) (μ := e.kids.length) ⟨rfl, 0, by omega, fun j _ h => absurd h (by omega), by simp [E.cnts]; omega, by simpa [E.cnts] using S18, rfl, rfl, rfl, rfl, rfl, rfl⟩ ?_
    rintro μ D ε w ⟨rfl, k, hk, hs, hs2, S, e0, e1, e2, e3, e25, e26⟩
    refine W_known 0 e0 ?_
    refine W_known 1 e1 ?_
    refine W_known 2 e2 ?_
    refine W_known 3 e3 ?_
    refine W_known 25 e25 ?_
    refine W_known 26 e26 ?_
    clear e0 e1 e2 e3 e25 e26
    refine W_seq ?_
    refine W_region ?_
    refine o_lss rfl rfl rfl (fun h27 => ?_) (fun h27 => ?_)
    · refine WL_nil ?_
      refine W_seq ?_
      refine W_then rfl ?_
      refine W_skip ?_
      refine W_seq ?_
      refine W_block ?_
      refine W_seq ?_
      refine W_region ?_
      refine o_move (v := .int .i64 _) rfl rfl ?_
      refine o_assign (v := .int .i64 _) rfl rfl ?_
      refine WL_nil ?_
      refine W_seq ?_
      refine W_draw follows_mixed [0, 1, 2, 3, 4, 5, 6, 7, 8] [] [9, 10] (by kernel_rfl) rfl (Cl _ _ _ _) (Cl.start S) ?_
      refine q_load one_186 rfl (fun w1 hw => by exact hw.1.oldM hv' hvc) rfl ?_
      refine q_move (by conv => lhs; whnf) rfl ?_
      refine q_nilCheck rfl rfl ?_
      refine q_fieldAddr fa_73_3 rfl rfl ?_
      refine q_load one_71 rfl (fun w1 hw => by exact hw.1.oldM hb' c3) rfl ?_
      refine q_move (v := .int .i64 _) rfl rfl ?_
      have hlt : k < e.kids.length := by omega
      obtain ⟨bk, ok, hA, hbkM, hkk⟩ := hks (by omega)
      have hct := cnts_take e.kids k hlt
      have hcl := cnts_take_le e.kids (k + 1)
      refine q_indexAddr slz_71.slT rfl (by assumption) rfl (by omega) (by omega) rfl ?_
      refine q_move (v := .int .i64 _) rfl rfl ?_
      refine q_add rfl rfl (by unfold i64; omega) rfl ?_
      refine QL_nil ?_
      refine BK_of ?_
      refine BKL_nil ?_
      rintro wR7 ⟨SR7, XR7⟩
      refine o_callv has_121 rfl rfl rfl (ih _ (List.getElem_mem hlt) M _ bk (ok + k * 4) _ _ gc gv ((RdP.kid hbkM hkk k hlt).keep (SR7.keepM.mono hsub)) (hK.keep (SR7.keepM.mono hsub)) hgc hgv (SR7.blk 0 rfl) (SR7.oldM hv' hvc) hs2 (by omega) (by omega)) ?_
      rintro v38 w38 ⟨cnt', B38, hb38, rfl, hi38⟩
      have S38 := SR7.changed1 0 rfl B38 hb38
      dsimp only [List.set] at S38
      cases hv38 : visB e.kids[k] (depth + 1) (cnt + 1 + E.cnts (e.kids.take k))
      · refine o_not rfl rfl ?_
        refine WL_nil ?_
        refine W_then rfl ?_
        refine W_seq ?_
        refine W_region ?_
        refine o_assign (v := .bool _) rfl rfl ?_
        refine WL_nil ?_
        refine W_ret ?_
        refine ret_1 rfl (by conv => lhs; whnf) ?_
        have hvf : visB e depth cnt = false := by
          unfold visB at hv38 ⊢; rw [hgd]
          by_cases hq : cnt + 1 + E.cnts (e.kids.take k) + e.kids[k].cnt ≤ 600
          · rw [decide_eq_true hq] at hv38; simp only [Bool.true_and] at hv38; rw [hfalse _ (List.getElem_mem hlt) hv38]; simp
          · rw [decide_eq_false (by omega)]; rfl
        exact ⟨cnt', S38.below, S38.blk 0 rfl, by rw [hvf], fun h => by rw [hvf] at h; cases h⟩
      refine o_not rfl rfl ?_
      refine WL_nil ?_
      refine W_else rfl ?_
      refine W_skip ?_
      refine W_region ?_
      refine o_add rfl rfl (by unfold i64; omega) rfl ?_
      refine o_move (v := .int .i64 _) rfl rfl ?_
      refine WL_nil ?_
      have hcc := hi38 hv38
      unfold visB at hv38
      simp only [Bool.and_eq_true, decide_eq_true_eq] at hv38
      refine ⟨μ - 1, by omega, rfl, k + 1, by omega, fun j hj h => ?_, by omega, by rw [hct, ← Nat.add_assoc, ← hcc]; exact S38, rfl, rfl, rfl, rfl, rfl, rfl⟩
      by_cases hjk : j = k
      · subst hjk; rw [show 41 - depth - 1 = 41 - (depth + 1) by omega]; exact hv38.2
      · exact hs j hj (by omega)
    refine WL_nil ?_
    refine W_seq ?_
    refine W_else rfl ?_
    refine W_exit ?_
    refine bcons_here ?_
    refine W_seq ?_
    refine W_region ?_
    refine o_assign (v := .bool _) rfl rfl ?_
    refine WL_nil ?_
    refine W_ret ?_
    refine ret_1 rfl (by conv => lhs; whnf) ?_
    obtain rfl : k = e.kids.length := by omega
    rw [List.take_length] at hs2 S
    have hvt : visB e depth cnt = true := by
      unfold visB; rw [hgd, decide_eq_true (by omega), (E.goods_iff _ _).2 (fun x hx => by obtain ⟨j, hj, rfl⟩ := List.getElem_of_mem hx; exact hs j hj (by omega))]
      simp [h18, show 1 ≤ 41 - depth by omega]
    exact ⟨_, S.below, S.blk 0 rfl, by rw [hvt], fun _ => by omega⟩
  refine WL_on rfl rfl rfl ?_
  refine o_not rfl rfl ?_
  refine o_pick rfl (v := .bool _) rfl rfl ?_
  refine WL_nil ?_
  refine W_then rfl ?_
  refine W_seq ?_
  refine W_region ?_
  refine o_assign (v := .bool _) rfl rfl ?_
  refine WL_nil ?_
  refine W_ret ?_
  refine ret_1 rfl (by conv => lhs; whnf) ?_
  have hvf : visB e depth cnt = false := by
    unfold visB; rw [hgd]
    simp [h18]; done
  exact ⟨cnt + 1, S18.below, S18.blk 0 rfl, by rw [hvf], fun h => by rw [hvf] at h; cases h⟩
theorem wellFormed_fn (e : E) (M : List Nat) (w0 : World) (cs : List Value) (hR : RdE M w0 e cs) (hK : Masks M w0) :
    Does Tryz.prog 99 #[.agg cs.toArray] w0 fun v w' => v = .bool e.wf ∧ Below w0.heap.size w0 w' := by
  obtain ⟨A, n, c, rfl, o1, o2, o3, hn, hc, hm, hbig, hks⟩ := hR.open_
  have S := St.refl w0
  refine Does_enter Tryz.func99 rfl Tryz.ntmps99 rfl ?_
  refine W_seq ?_
  refine W_region ?_
  refine o_boxa S (by conv => lhs; whnf) rfl ?_
  intro g1 w1 S1 X1 G1
  refine o_assign (v := .bool _) rfl rfl ?_
  refine WL_nil ?_
  refine W_seq ?_
  refine W_region ?_
  refine o_alloc S1 zv_3 rfl rfl ?_
  intro g3 w3 S3 X3 G3
  refine o_store (kk := 0) S3 sz_3 rfl (by conv => lhs; whnf) rfl rfl (by exact Nat.le_of_ble_eq_true rfl) ?_
  intro w1_1 S1_1 X1_1
  refine WL_nil ?_
  refine W_seq ?_
  refine W_region ?_
  refine o_alloc S1_1 zv_186 rfl rfl ?_
  intro g4 w4 S4 X4 G4
  refine WL_nil ?_
  refine W_seq ?_
  refine W_region ?_
  refine o_makeFunc rfl rfl ?_
  refine o_store (kk := 0) S4 sz_186 rfl (by conv => lhs; whnf) rfl rfl (by exact Nat.le_of_ble_eq_true rfl) ?_
  intro w3_1 S3_1 X3_1
  refine WL_nil ?_
  refine W_seq ?_
  refine W_region ?_
  refine o_load one_186 rfl (by exact S3_1.cell 0 rfl rfl) rfl ?_
  have hM' : ∀ g ∈ [g3] , g ∈ M ∨ w0.heap.size ≤ g := fun g hg => by
    simp at hg; subst hg; right; have := S3_1.new 1 rfl; simp at this; exact this
  refine o_callv has_121 rfl rfl rfl (visit_fn e [g3] _ g1 0 1 0 g3 g4 ?_ ?_ (by simp) ?_ (S3_1.blk 1 rfl) (S3_1.cell 0 rfl rfl) (by omega) (by omega) (by omega)) ?_
  · exact ⟨by simpa using (S3_1.ne 1 2 rfl rfl (by omega)).symm, _, S3_1.cells 2 rfl, RdE.keep (S3_1.keep0 _) _ _ (RdE.more hM' _ _ hR)⟩
  · exact (hK.more hM').keep (S3_1.keep0 _)
  · simpa using S3_1.ne 0 1 rfl rfl (by omega)
  rintro v7 w7 ⟨cnt', B7, hb7, rfl, -⟩
  have S7 := S3_1.changed1 1 rfl B7 hb7
  refine o_assign (v := .bool _) rfl rfl ?_
  refine WL_nil ?_
  refine W_ret ?_
  refine ret_1 rfl (by conv => lhs; whnf) ?_
  refine ⟨?_, S7.fin⟩
  unfold visB E.wf
  simp
end Go.Proofs.YtgnbfmifjlnigaaGreatDoor
namespace Go.Fw
open Go.RowKit
def applyV (op a b c : Int) : Int :=
  if op = 4 then bxor (-1) a else if op = 5 then band a b else if op = 6 then bor a b else if op = 7 then bxor a b else if op = 9 then wr (a + wr (0 - b)) else if op = 8 then wr (a + b) else
  if op = 10 then wr (a * b) else if op = 11 then (if a = b then 1 else 0) else if op = 13 then (if a = b then 1 else if a < b then 1 else 0) else if op = 12 then (if a < b then 1 else 0) else
  if op = 14 then (if a = 1 then b else c) else 0
mutual
def E.val (old now : List Int) : E → Int
  | ⟨op, w, n, ks⟩ => if op = 1 then n else if op = 2 then band (now.getD n.toNat 0) (pow2 w.toNat - 1) else if op = 3 then band (old.getD n.toNat 0) (pow2 w.toNat - 1) else
      band (applyV op ((E.vals old now ks).getD 0 0) ((E.vals old now ks).getD 1 0) ((E.vals old now ks).getD 2 0)) (pow2 w.toNat - 1)
def E.vals (old now : List Int) : List E → List Int
  | [] => []
  | k :: ks => E.val old now k :: E.vals old now ks
end
theorem E.vals_map (old now : List Int) (ks : List E) : E.vals old now ks = ks.map (E.val old now) := by
  induction ks with
  | nil => simp [E.vals]
  | cons k ks ih => simp [E.vals, ih]
theorem E.val_def (old now : List Int) (e : E) : e.val old now = if e.op = 1 then e.n else if e.op = 2 then band (now.getD e.n.toNat 0) (pow2 e.w.toNat - 1) else if e.op = 3 then band (old.getD e.n.toNat 0) (pow2 e.w.toNat - 1) else
      band (applyV e.op ((e.kids.map (E.val old now)).getD 0 0) ((e.kids.map (E.val old now)).getD 1 0) ((e.kids.map (E.val old now)).getD 2 0)) (pow2 e.w.toNat - 1) := by
  cases e; simp only [E.val, E.vals_map]
def E.evl (old now : List Int) (e : E) : Int := if e.wf then e.val old now else 0
def arr3 (vs : List Int) (k : Nat) : List Value := [.int .i64 ((vs.take k).getD 0 0), .int .i64 ((vs.take k).getD 1 0), .int .i64 ((vs.take k).getD 2 0)]
@[simp] theorem arr3_len (vs : List Int) (k : Nat) : (arr3 vs k).length = 3 := rfl
theorem arr3_set (vs : List Int) (k : Nat) (h3 : vs.length ≤ 3) (h : k < vs.length) : (arr3 vs k).set k (.int .i64 (vs.getD k 0)) = arr3 vs (k + 1) := by
  unfold arr3
  match vs, h3 with
  | [], _ => simp at h
  | [a], _ => obtain rfl : k = 0 := by simp at h; omega
              simp
  | [a, b], _ => rcases (show k = 0 ∨ k = 1 by simp at h; omega) with rfl | rfl <;> simp
  | [a, b, c], _ => rcases (show k = 0 ∨ k = 1 ∨ k = 2 by simp at h; omega) with rfl | rfl | rfl <;> simp
  | a :: b :: c :: d :: l, h => simp at h
end Go.Fw
namespace Go.Proofs.YtgnbfmifjlnigaaGreatDoor
open Go.Fw Go.RowKit
theorem element_fn (M : List Nat) (w0 : World) (v : Value) (l : List Int) (i : Int) (hR : RdI M w0 v l) (h0 : 0 ≤ i) :
    Does Tryz.prog 123 #[v, .int .i64 i] w0 fun v w' => v = .int .i64 (l.getD i.toNat 0) ∧ Below w0.heap.size w0 w' := by
  obtain ⟨A, n, c, rfl⟩ := hR.form
  obtain ⟨hn, hc, hm, hbig, hel⟩ := hR.at
  have S := St.refl w0
  refine Does_enter Tryz.func123 rfl Tryz.ntmps123 rfl ?_
  refine W_seq ?_
  refine W_region ?_
  refine o_assign (v := .int .i64 _) rfl rfl ?_
  refine WL_nil ?_
  refine W_seq ?_
  refine W_seq ?_
  refine W_region ?_
  refine o_move (v := .int .i64 _) rfl rfl ?_
  refine o_move (by conv => lhs; whnf) rfl ?_
  refine o_len slz_43.slT rfl rfl ?_
  refine o_lss rfl rfl rfl (fun h8 => ?_) (fun h8 => ?_)
  · refine WL_nil ?_
    refine W_then rfl ?_
    refine W_seq ?_
    refine W_region ?_
    refine o_move (by conv => lhs; whnf) rfl ?_
    refine o_move (v := .int .i64 _) rfl rfl ?_
    obtain ⟨b, o, hA, hbM, hee⟩ := hel (by omega)
    have hlt : i.toNat < l.length := by omega
    obtain ⟨ck, hck1, hck2, hck3⟩ := hee i.toNat l[i.toNat] (List.getElem?_eq_getElem hlt)
    have hcb : w0.cell? ⟨b, o + i.toNat * 1, none⟩ = some (.int .i64 l[i.toNat]) := hck2 0 _ (by rw [hck3.1]; rfl)
    refine o_indexAddr slz_43.slT rfl (by assumption) rfl (by omega) (by omega) rfl ?_
    refine o_load one_3 rfl (by first | exact S.old hcb) rfl ?_
    refine o_assign (v := .int .i64 _) rfl rfl ?_
    refine WL_nil ?_
    refine W_ret ?_
    refine ret_1 rfl (by conv => lhs; whnf) ?_
    refine ⟨?_, S.fin⟩; simp [hlt]; done
  refine WL_nil ?_
  refine W_else rfl ?_
  refine W_skip ?_
  refine W_seq ?_
  refine W_region ?_
  refine o_assign (v := .int .i64 _) rfl rfl ?_
  refine WL_nil ?_
  refine W_ret ?_
  refine ret_1 rfl (by conv => lhs; whnf) ?_
  refine ⟨?_, S.fin⟩; simp [show l.length ≤ i.toNat by omega]; done
theorem truth_fn (z : Bool) (w0 : World) : Does Tryz.prog 151 #[.bool z] w0 fun v w' => v = .int .i64 (if z = true then 1 else 0) ∧ Below w0.heap.size w0 w' := by
  have S := St.refl w0
  cases z
  · refine Does_enter Tryz.func151 rfl Tryz.ntmps151 rfl ?_
    refine W_seq ?_
    refine W_region ?_
    refine o_assign (v := .int .i64 _) rfl rfl ?_
    refine WL_nil ?_
    refine W_seq ?_
    refine W_seq ?_
    refine W_region ?_
    refine o_move (v := .bool _) rfl rfl ?_
    refine WL_nil ?_
    refine W_else rfl ?_
    refine W_skip ?_
    refine W_seq ?_
    refine W_region ?_
    refine o_assign (v := .int .i64 _) rfl rfl ?_
    refine WL_nil ?_
    refine W_ret ?_
    refine ret_1 rfl (by conv => lhs; whnf) ?_
    exact ⟨by simp, S.fin⟩
  · refine Does_enter Tryz.func151 rfl Tryz.ntmps151 rfl ?_
    refine W_seq ?_
    refine W_region ?_
    refine o_assign (v := .int .i64 _) rfl rfl ?_
    refine WL_nil ?_
    refine W_seq ?_
    refine W_seq ?_
    refine W_region ?_
    refine o_move (v := .bool _) rfl rfl ?_
    refine WL_nil ?_
    refine W_then rfl ?_
    refine W_seq ?_
    refine W_region ?_
    refine o_assign (v := .int .i64 _) rfl rfl ?_
    refine WL_nil ?_
    refine W_ret ?_
    refine ret_1 rfl (by conv => lhs; whnf) ?_
    exact ⟨by simp, S.fin⟩
theorem apply_fn (op a b c : Int) (w0 : World) : Does Tryz.prog 124 #[.int .i64 op, .agg #[.int .i64 a, .int .i64 b, .int .i64 c]] w0 fun v w' => v = .int .i64 (applyV op a b c) ∧ Below w0.heap.size w0 w' := by
  have S := St.refl w0
  refine Does_enter Tryz.func124 rfl Tryz.ntmps124 rfl ?_
  refine W_seq ?_
  refine W_region ?_
  refine o_boxa S (by conv => lhs; whnf) rfl ?_
  intro g3 w3 S3 X3 G3
  refine o_assign (v := .int .i64 _) rfl rfl ?_
  refine WL_nil ?_
  refine W_seq ?_
  refine W_draw follows_mixed [0, 1, 2, 3, 4, 5] [] [] (by kernel_rfl) rfl (Cl _ _ _ _) (Cl.start S3) ?_
  refine q_indexArr art_190 rfl rfl (by omega) (by omega) rfl ?_
  refine q_load one_3 rfl (fun w1 hw => by first | exact hw.1.cell 0 rfl rfl) rfl ?_
  refine q_indexArr art_190 rfl rfl (by omega) (by omega) rfl ?_
  refine q_load one_3 rfl (fun w1 hw => by first | exact hw.1.cell 0 rfl rfl) rfl ?_
  refine q_assign (v := .int .i64 _) rfl rfl ?_
  refine q_assign (v := .int .i64 _) rfl rfl ?_
  refine QL_nil ?_
  refine BK_of ?_
  refine BKL_nil ?_
  rintro wR1 ⟨SR1, XR1⟩
  refine WL_nil ?_
  refine W_seq ?_
  refine W_seq ?_
  refine W_region ?_
  refine o_move (v := .int .i64 _) rfl rfl ?_
  refine WL_nil ?_
  refine W_block ?_
  refine W_seq ?_
  refine W_block ?_
  refine W_seq ?_
  refine W_block ?_
  refine W_seq ?_
  refine W_block ?_
  refine W_seq ?_
  refine W_block ?_
  refine W_seq ?_
  refine W_block ?_
  refine W_seq ?_
  refine W_block ?_
  refine W_seq ?_
  refine W_block ?_
  refine W_seq ?_
  refine W_block ?_
  refine W_seq ?_
  refine W_block ?_
  refine W_seq ?_
  refine W_block ?_
  refine W_seq ?_
  refine W_block ?_
  refine W_seq ?_
  refine W_seq ?_
  refine W_seq ?_
  refine W_region ?_
  refine o_eql rfl rfl rfl (fun h13 => ?_) (fun h13 => ?_)
  · refine o_assign (v := .bool _) rfl rfl ?_
    refine WL_nil ?_
    refine W_then rfl ?_
    refine W_exit ?_
    refine bcons_here ?_
    refine W_seq ?_
    refine W_seq ?_
    refine W_region ?_
    refine o_move (v := .int .i64 _) rfl rfl ?_
    refine o_unxor rfl rfl ?_
    refine o_assign (v := .int .i64 _) rfl rfl ?_
    refine WL_nil ?_
    refine W_ret ?_
    refine ret_1 rfl (by conv => lhs; whnf) ?_
    refine ⟨congrArg (Value.int .i64) ?_, SR1.fin⟩
    unfold applyV
    rw [if_pos h13]
  refine o_assign (v := .bool _) rfl rfl ?_
  refine WL_nil ?_
  refine W_else rfl ?_
  refine W_skip ?_
  refine W_seq ?_
  refine W_seq ?_
  refine W_region ?_
  refine o_eql rfl rfl rfl (fun h15 => ?_) (fun h15 => ?_)
  · refine o_assign (v := .bool _) rfl rfl ?_
    refine WL_nil ?_
    refine W_then rfl ?_
    refine W_exit ?_
    refine bcons_far rfl ?_
    refine bcons_here ?_
    refine W_seq ?_
    refine W_seq ?_
    refine W_region ?_
    refine o_move (v := .int .i64 _) rfl rfl ?_
    refine o_move (v := .int .i64 _) rfl rfl ?_
    refine o_and rfl rfl rfl ?_
    refine o_assign (v := .int .i64 _) rfl rfl ?_
    refine WL_nil ?_
    refine W_ret ?_
    refine ret_1 rfl (by conv => lhs; whnf) ?_
    refine ⟨congrArg (Value.int .i64) ?_, SR1.fin⟩
    unfold applyV
    rw [if_neg h13, if_pos h15]
  refine o_assign (v := .bool _) rfl rfl ?_
  refine WL_nil ?_
  refine W_else rfl ?_
  refine W_skip ?_
  refine W_seq ?_
  refine W_seq ?_
  refine W_region ?_
  refine o_eql rfl rfl rfl (fun h17 => ?_) (fun h17 => ?_)
  · refine o_assign (v := .bool _) rfl rfl ?_
    refine WL_nil ?_
    refine W_then rfl ?_
    refine W_exit ?_
    refine bcons_far rfl ?_
    refine bcons_far rfl ?_
    refine bcons_here ?_
    refine W_seq ?_
    refine W_seq ?_
    refine W_region ?_
    refine o_move (v := .int .i64 _) rfl rfl ?_
    refine o_move (v := .int .i64 _) rfl rfl ?_
    refine o_or rfl rfl rfl ?_
    refine o_assign (v := .int .i64 _) rfl rfl ?_
    refine WL_nil ?_
    refine W_ret ?_
    refine ret_1 rfl (by conv => lhs; whnf) ?_
    refine ⟨congrArg (Value.int .i64) ?_, SR1.fin⟩
    unfold applyV
    rw [if_neg h13, if_neg h15, if_pos h17]
  refine o_assign (v := .bool _) rfl rfl ?_
  refine WL_nil ?_
  refine W_else rfl ?_
  refine W_skip ?_
  refine W_seq ?_
  refine W_seq ?_
  refine W_region ?_
  refine o_eql rfl rfl rfl (fun h19 => ?_) (fun h19 => ?_)
  · refine o_assign (v := .bool _) rfl rfl ?_
    refine WL_nil ?_
    refine W_then rfl ?_
    refine W_exit ?_
    refine bcons_far rfl ?_
    refine bcons_far rfl ?_
    refine bcons_far rfl ?_
    refine bcons_here ?_
    refine W_seq ?_
    refine W_seq ?_
    refine W_region ?_
    refine o_move (v := .int .i64 _) rfl rfl ?_
    refine o_move (v := .int .i64 _) rfl rfl ?_
    refine o_xor rfl rfl rfl ?_
    refine o_assign (v := .int .i64 _) rfl rfl ?_
    refine WL_nil ?_
    refine W_ret ?_
    refine ret_1 rfl (by conv => lhs; whnf) ?_
    refine ⟨congrArg (Value.int .i64) ?_, SR1.fin⟩
    unfold applyV
    rw [if_neg h13, if_neg h15, if_neg h17, if_pos h19]
  refine o_assign (v := .bool _) rfl rfl ?_
  refine WL_nil ?_
  refine W_else rfl ?_
  refine W_skip ?_
  refine W_seq ?_
  refine W_seq ?_
  refine W_region ?_
  refine o_eql rfl rfl rfl (fun h21 => ?_) (fun h21 => ?_)
  · refine o_assign (v := .bool _) rfl rfl ?_
    refine WL_nil ?_
    refine W_then rfl ?_
    refine W_exit ?_
    refine bcons_far rfl ?_
    refine bcons_far rfl ?_
    refine bcons_far rfl ?_
    refine bcons_far rfl ?_
    refine bcons_here ?_
    refine W_region ?_
    refine o_move (v := .int .i64 _) rfl rfl ?_
    refine o_negW rfl rfl ?_
    refine o_assign (v := .int .i64 _) rfl rfl ?_
    refine WL_nil ?_
    refine W_seq ?_
    refine W_seq ?_
    refine W_region ?_
    refine o_move (v := .int .i64 _) rfl rfl ?_
    refine o_move (v := .int .i64 _) rfl rfl ?_
    refine o_addW rfl rfl rfl ?_
    refine o_assign (v := .int .i64 _) rfl rfl ?_
    refine WL_nil ?_
    refine W_ret ?_
    refine ret_1 rfl (by conv => lhs; whnf) ?_
    refine ⟨congrArg (Value.int .i64) ?_, SR1.fin⟩
    unfold applyV
    rw [if_neg h13, if_neg h15, if_neg h17, if_neg h19, if_pos h21]
  refine o_assign (v := .bool _) rfl rfl ?_
  refine WL_nil ?_
  refine W_else rfl ?_
  refine W_skip ?_
  refine W_seq ?_
  refine W_seq ?_
  refine W_region ?_
  refine o_eql rfl rfl rfl (fun h23 => ?_) (fun h23 => ?_)
  · refine o_assign (v := .bool _) rfl rfl ?_
    refine WL_nil ?_
    refine W_then rfl ?_
    refine W_exit ?_
    refine bcons_far rfl ?_
    refine bcons_far rfl ?_
    refine bcons_far rfl ?_
    refine bcons_far rfl ?_
    refine bcons_far rfl ?_
    refine bcons_here ?_
    refine W_seq ?_
    refine W_seq ?_
    refine W_region ?_
    refine o_move (v := .int .i64 _) rfl rfl ?_
    refine o_move (v := .int .i64 _) rfl rfl ?_
    refine o_addW rfl rfl rfl ?_
    refine o_assign (v := .int .i64 _) rfl rfl ?_
    refine WL_nil ?_
    refine W_ret ?_
    refine ret_1 rfl (by conv => lhs; whnf) ?_
    refine ⟨congrArg (Value.int .i64) ?_, SR1.fin⟩
    unfold applyV
    rw [if_neg h13, if_neg h15, if_neg h17, if_neg h19, if_neg h21, if_pos h23]
  refine o_assign (v := .bool _) rfl rfl ?_
  refine WL_nil ?_
  refine W_else rfl ?_
  refine W_skip ?_
  refine W_seq ?_
  refine W_seq ?_
  refine W_region ?_
  refine o_eql rfl rfl rfl (fun h25 => ?_) (fun h25 => ?_)
  · refine o_assign (v := .bool _) rfl rfl ?_
    refine WL_nil ?_
    refine W_then rfl ?_
    refine W_exit ?_
    refine bcons_far rfl ?_
    refine bcons_far rfl ?_
    refine bcons_far rfl ?_
    refine bcons_far rfl ?_
    refine bcons_far rfl ?_
    refine bcons_far rfl ?_
    refine bcons_here ?_
    refine W_seq ?_
    refine W_seq ?_
    refine W_region ?_
    refine o_move (v := .int .i64 _) rfl rfl ?_
    refine o_move (v := .int .i64 _) rfl rfl ?_
    refine o_mulW rfl rfl rfl ?_
    refine o_assign (v := .int .i64 _) rfl rfl ?_
    refine WL_nil ?_
    refine W_ret ?_
    refine ret_1 rfl (by conv => lhs; whnf) ?_
    refine ⟨congrArg (Value.int .i64) ?_, SR1.fin⟩
    unfold applyV
    rw [if_neg h13, if_neg h15, if_neg h17, if_neg h19, if_neg h21, if_neg h23, if_pos h25]
  refine o_assign (v := .bool _) rfl rfl ?_
  refine WL_nil ?_
  refine W_else rfl ?_
  refine W_skip ?_
  refine W_seq ?_
  refine W_seq ?_
  refine W_region ?_
  refine o_eql rfl rfl rfl (fun h27 => ?_) (fun h27 => ?_)
  · refine o_assign (v := .bool _) rfl rfl ?_
    refine WL_nil ?_
    refine W_then rfl ?_
    refine W_exit ?_
    refine bcons_far rfl ?_
    refine bcons_far rfl ?_
    refine bcons_far rfl ?_
    refine bcons_far rfl ?_
    refine bcons_far rfl ?_
    refine bcons_far rfl ?_
    refine bcons_far rfl ?_
    refine bcons_here ?_
    refine W_seq ?_
    refine W_seq ?_
    refine W_region ?_
    refine o_move (v := .int .i64 _) rfl rfl ?_
    refine o_move (v := .int .i64 _) rfl rfl ?_
    refine o_eql rfl rfl rfl (fun h55 => ?_) (fun h55 => ?_)
    · refine o_callr SR1 has_151 rfl rfl (truth_fn _ _) ?_
      intro w56 S56 X56
      refine o_assign (v := .int .i64 _) rfl rfl ?_
      refine WL_nil ?_
      refine W_ret ?_
      refine ret_1 rfl (by conv => lhs; whnf) ?_
      refine ⟨congrArg (Value.int .i64) ?_, S56.fin⟩
      unfold applyV
      rw [if_neg h13, if_neg h15, if_neg h17, if_neg h19, if_neg h21, if_neg h23, if_neg h25, if_pos h27]; simp [h55]; done
    refine o_callr SR1 has_151 rfl rfl (truth_fn _ _) ?_
    intro w56 S56 X56
    refine o_assign (v := .int .i64 _) rfl rfl ?_
    refine WL_nil ?_
    refine W_ret ?_
    refine ret_1 rfl (by conv => lhs; whnf) ?_
    refine ⟨congrArg (Value.int .i64) ?_, S56.fin⟩
    unfold applyV
    rw [if_neg h13, if_neg h15, if_neg h17, if_neg h19, if_neg h21, if_neg h23, if_neg h25, if_pos h27]; simp [h55]; done
  refine o_assign (v := .bool _) rfl rfl ?_
  refine WL_nil ?_
  refine W_else rfl ?_
  refine W_skip ?_
  refine W_seq ?_
  refine W_seq ?_
  refine W_region ?_
  refine o_eql rfl rfl rfl (fun h29 => ?_) (fun h29 => ?_)
  · refine o_assign (v := .bool _) rfl rfl ?_
    refine WL_nil ?_
    refine W_then rfl ?_
    refine W_exit ?_
    refine bcons_far rfl ?_
    refine bcons_far rfl ?_
    refine bcons_far rfl ?_
    refine bcons_far rfl ?_
    refine bcons_far rfl ?_
    refine bcons_far rfl ?_
    refine bcons_far rfl ?_
    refine bcons_far rfl ?_
    refine bcons_here ?_
    refine W_seq ?_
    refine W_region ?_
    refine o_move (v := .int .i64 _) rfl rfl ?_
    refine o_move (v := .int .i64 _) rfl rfl ?_
    refine o_eql rfl rfl rfl (fun h59 => ?_) (fun h59 => ?_)
    · refine WL_nil ?_
      refine W_then rfl ?_
      refine W_seq ?_
      refine W_region ?_
      refine o_assign (v := .int .i64 _) rfl rfl ?_
      refine WL_nil ?_
      refine W_ret ?_
      refine ret_1 rfl (by conv => lhs; whnf) ?_
      refine ⟨congrArg (Value.int .i64) ?_, SR1.fin⟩
      unfold applyV
      rw [if_neg h13, if_neg h15, if_neg h17, if_neg h19, if_neg h21, if_neg h23, if_neg h25, if_neg h27, if_pos h29]; (simp [h59]; done)
    refine WL_nil ?_
    refine W_else rfl ?_
    refine W_skip ?_
    refine W_seq ?_
    refine W_seq ?_
    refine W_region ?_
    refine o_move (v := .int .i64 _) rfl rfl ?_
    refine o_move (v := .int .i64 _) rfl rfl ?_
    refine o_lss rfl rfl rfl (fun h62 => ?_) (fun h62 => ?_)
    · refine o_callr SR1 has_151 rfl rfl (truth_fn _ _) ?_
      intro w63 S63 X63
      refine o_assign (v := .int .i64 _) rfl rfl ?_
      refine WL_nil ?_
      refine W_ret ?_
      refine ret_1 rfl (by conv => lhs; whnf) ?_
      refine ⟨congrArg (Value.int .i64) ?_, S63.fin⟩
      unfold applyV
      rw [if_neg h13, if_neg h15, if_neg h17, if_neg h19, if_neg h21, if_neg h23, if_neg h25, if_neg h27, if_pos h29]; (simp [h59, h62]; done)
    refine o_callr SR1 has_151 rfl rfl (truth_fn _ _) ?_
    intro w63 S63 X63
    refine o_assign (v := .int .i64 _) rfl rfl ?_
    refine WL_nil ?_
    refine W_ret ?_
    refine ret_1 rfl (by conv => lhs; whnf) ?_
    refine ⟨congrArg (Value.int .i64) ?_, S63.fin⟩
    unfold applyV
    rw [if_neg h13, if_neg h15, if_neg h17, if_neg h19, if_neg h21, if_neg h23, if_neg h25, if_neg h27, if_pos h29]; (simp [h59, h62]; done)
  refine o_assign (v := .bool _) rfl rfl ?_
  refine WL_nil ?_
  refine W_else rfl ?_
  refine W_skip ?_
  refine W_seq ?_
  refine W_seq ?_
  refine W_region ?_
  refine o_eql rfl rfl rfl (fun h31 => ?_) (fun h31 => ?_)
  · refine o_assign (v := .bool _) rfl rfl ?_
    refine WL_nil ?_
    refine W_then rfl ?_
    refine W_exit ?_
    refine bcons_far rfl ?_
    refine bcons_far rfl ?_
    refine bcons_far rfl ?_
    refine bcons_far rfl ?_
    refine bcons_far rfl ?_
    refine bcons_far rfl ?_
    refine bcons_far rfl ?_
    refine bcons_far rfl ?_
    refine bcons_far rfl ?_
    refine bcons_here ?_
    refine W_seq ?_
    refine W_seq ?_
    refine W_region ?_
    refine o_move (v := .int .i64 _) rfl rfl ?_
    refine o_move (v := .int .i64 _) rfl rfl ?_
    refine o_lss rfl rfl rfl (fun h62 => ?_) (fun h62 => ?_)
    · refine o_callr SR1 has_151 rfl rfl (truth_fn _ _) ?_
      intro w63 S63 X63
      refine o_assign (v := .int .i64 _) rfl rfl ?_
      refine WL_nil ?_
      refine W_ret ?_
      refine ret_1 rfl (by conv => lhs; whnf) ?_
      refine ⟨congrArg (Value.int .i64) ?_, S63.fin⟩
      unfold applyV
      rw [if_neg h13, if_neg h15, if_neg h17, if_neg h19, if_neg h21, if_neg h23, if_neg h25, if_neg h27, if_neg h29, if_pos h31]; (simp [h62]; done)
    refine o_callr SR1 has_151 rfl rfl (truth_fn _ _) ?_
    intro w63 S63 X63
    refine o_assign (v := .int .i64 _) rfl rfl ?_
    refine WL_nil ?_
    refine W_ret ?_
    refine ret_1 rfl (by conv => lhs; whnf) ?_
    refine ⟨congrArg (Value.int .i64) ?_, S63.fin⟩
    unfold applyV
    rw [if_neg h13, if_neg h15, if_neg h17, if_neg h19, if_neg h21, if_neg h23, if_neg h25, if_neg h27, if_neg h29, if_pos h31]; (simp [h62]; done)
  refine o_assign (v := .bool _) rfl rfl ?_
  refine WL_nil ?_
  refine W_else rfl ?_
  refine W_skip ?_
  refine W_seq ?_
  refine W_region ?_
  refine o_eql rfl rfl rfl (fun h33 => ?_) (fun h33 => ?_)
  · refine o_assign (v := .bool _) rfl rfl ?_
    refine WL_nil ?_
    refine W_then rfl ?_
    refine W_exit ?_
    refine bcons_far rfl ?_
    refine bcons_far rfl ?_
    refine bcons_far rfl ?_
    refine bcons_far rfl ?_
    refine bcons_far rfl ?_
    refine bcons_far rfl ?_
    refine bcons_far rfl ?_
    refine bcons_far rfl ?_
    refine bcons_far rfl ?_
    refine bcons_far rfl ?_
    refine bcons_here ?_
    refine W_seq ?_
    refine W_seq ?_
    refine W_seq ?_
    refine W_region ?_
    refine o_move (v := .int .i64 _) rfl rfl ?_
    refine o_eql rfl rfl rfl (fun h65 => ?_) (fun h65 => ?_)
    · refine WL_nil ?_
      refine W_then rfl ?_
      refine W_seq ?_
      refine W_region ?_
      refine o_move (v := .int .i64 _) rfl rfl ?_
      refine o_assign (v := .int .i64 _) rfl rfl ?_
      refine WL_nil ?_
      refine W_ret ?_
      refine ret_1 rfl (by conv => lhs; whnf) ?_
      refine ⟨congrArg (Value.int .i64) ?_, SR1.fin⟩
      unfold applyV
      rw [if_neg h13, if_neg h15, if_neg h17, if_neg h19, if_neg h21, if_neg h23, if_neg h25, if_neg h27, if_neg h29, if_neg h31, if_pos h33]; simp [h65]; done
    refine WL_nil ?_
    refine W_else rfl ?_
    refine W_skip ?_
    refine W_seq ?_
    refine W_region ?_
    refine o_indexArr art_190 rfl rfl (by omega) (by omega) rfl ?_
    refine o_load one_3 rfl (by first | exact SR1.cell 0 rfl rfl) rfl ?_
    refine o_assign (v := .int .i64 _) rfl rfl ?_
    refine WL_nil ?_
    refine W_ret ?_
    refine ret_1 rfl (by conv => lhs; whnf) ?_
    refine ⟨congrArg (Value.int .i64) ?_, SR1.fin⟩
    unfold applyV
    rw [if_neg h13, if_neg h15, if_neg h17, if_neg h19, if_neg h21, if_neg h23, if_neg h25, if_neg h27, if_neg h29, if_neg h31, if_pos h33]; simp [h65]; done
  refine o_assign (v := .bool _) rfl rfl ?_
  refine WL_nil ?_
  refine W_else rfl ?_
  refine W_skip ?_
  refine W_exit ?_
  refine bcons_far rfl ?_
  refine bcons_far rfl ?_
  refine bcons_far rfl ?_
  refine bcons_far rfl ?_
  refine bcons_far rfl ?_
  refine bcons_far rfl ?_
  refine bcons_far rfl ?_
  refine bcons_far rfl ?_
  refine bcons_far rfl ?_
  refine bcons_far rfl ?_
  refine bcons_far rfl ?_
  refine bcons_here ?_
  refine W_seq ?_
  refine W_region ?_
  refine o_assign (v := .int .i64 _) rfl rfl ?_
  refine WL_nil ?_
  refine W_ret ?_
  refine ret_1 rfl (by conv => lhs; whnf) ?_
  refine ⟨congrArg (Value.int .i64) ?_, SR1.fin⟩
  unfold applyV
  rw [if_neg h13, if_neg h15, if_neg h17, if_neg h19, if_neg h21, if_neg h23, if_neg h25, if_neg h27, if_neg h29, if_neg h31, if_neg h33]
theorem value_fn : ∀ (e : E) (M : List Nat) (w0 : World) (b o : Nat) (vo vn : Value) (old now : List Int) (lim : Int), RdP M w0 e b o → Masks M w0 → RdI M w0 vo old → RdI M w0 vn now → e.good lim = true →
    Does Tryz.prog 100 #[.pointer (some ⟨b, o, none⟩), vo, vn] w0 fun v w' => v = .int .i64 (e.val old now) ∧ Below w0.heap.size w0 w' := by
  intro e
  induction e using E.induct with
  | _ e ih =>
  intro M w0 b o vo vn old now lim hR hK hO hN hg
  obtain ⟨hbM, o1, o2, o3, c0, c1, c2, A, n, c, c3, hn, hc, hm, hbig, hks, hRE⟩ := hR.open_
  obtain ⟨Ao, no, co, rfl⟩ := hO.form
  obtain ⟨An, nn, cn, rfl⟩ := hN.form
  rw [E.good_def] at hg
  simp only [Bool.and_eq_true] at hg
  have hsh : e.Shape := of_decide_eq_true hg.1.2
  have hkg : ∀ k ∈ e.kids, k.good (lim - 1) = true := (E.goods_iff _ _).1 hg.2
  clear hg
  have hov : (e.op = 3 ∨ e.op = 2) → 0 ≤ e.n ∧ e.n < 32 := fun h => by
    have := (Shape_2 (by omega)).1 hsh; omega
  have har := Shape_ar hsh
  have har2 := arityL_spec e.op
  have S := St.refl w0
  have hval := E.val_def old now e
  refine Does_enter Tryz.func100 rfl Tryz.ntmps100 rfl ?_
  refine W_seq ?_
  refine W_region ?_
  refine o_assign (v := .int .i64 _) rfl rfl ?_
  refine WL_nil ?_
  refine W_seq ?_
  refine W_seq ?_
  refine W_region ?_
  refine o_move (by conv => lhs; whnf) rfl ?_
  refine o_nilCheck rfl rfl ?_
  refine o_fieldAddr fa_73_0 rfl rfl ?_
  refine o_load one_3 rfl (by exact S.old c0) rfl ?_
  refine WL_nil ?_
  refine W_block ?_
  refine W_seq ?_
  refine W_region ?_
  refine o_eql rfl rfl rfl (fun h14 => ?_) (fun h14 => ?_)
  · refine o_assign (v := .bool _) rfl rfl ?_
    refine WL_nil ?_
    refine W_then rfl ?_
    refine W_seq ?_
    refine W_region ?_
    refine o_move (by conv => lhs; whnf) rfl ?_
    refine o_nilCheck rfl rfl ?_
    refine o_fieldAddr fa_73_2 rfl rfl ?_
    refine o_load one_3 rfl (by exact S.old c2) rfl ?_
    refine o_assign (v := .int .i64 _) rfl rfl ?_
    refine WL_nil ?_
    refine W_ret ?_
    refine ret_1 rfl (by conv => lhs; whnf) ?_
    refine ⟨congrArg (Value.int .i64) ?_, S.fin⟩
    rw [hval]
    rw [if_pos h14]
  refine o_assign (v := .bool _) rfl rfl ?_
  refine WL_nil ?_
  refine W_else rfl ?_
  refine W_seq ?_
  refine W_region ?_
  refine o_eql rfl rfl rfl (fun h20 => ?_) (fun h20 => ?_)
  · refine o_assign (v := .bool _) rfl rfl ?_
    refine WL_nil ?_
    refine W_then rfl ?_
    refine W_seq ?_
    refine W_draw follows_mixed [0, 1, 2, 3, 4, 5, 6, 7, 8, 9, 10, 11, 12, 13] [] [] (by kernel_rfl) rfl (Cl _ _ _ _) (Cl.start S) ?_
    refine q_move (by conv => lhs; whnf) rfl ?_
    refine q_move (by conv => lhs; whnf) rfl ?_
    refine q_nilCheck rfl rfl ?_
    refine q_fieldAddr fa_73_2 rfl rfl ?_
    refine q_load one_3 rfl (fun w1 hw => by exact hw.1.old c2) rfl ?_
    refine q_callr has_123 rfl rfl (fun w1 S1 X1 => element_fn M _ _ _ _ (RdS.keep (by assumption) (S1.keep0 M)) (by omega)) ?_
    refine q_move (by conv => lhs; whnf) rfl ?_
    refine q_nilCheck rfl rfl ?_
    refine q_fieldAddr fa_73_1 rfl rfl ?_
    refine q_load one_3 rfl (fun w1 hw => by exact hw.1.old c1) rfl ?_
    refine q_indexArr art_189 rfl rfl (by omega) (by omega) rfl ?_
    refine q_load one_3 rfl (fun w1 hw => by exact hw.1.old (hK.at (by omega) (by omega))) rfl ?_
    refine q_and rfl rfl rfl ?_
    refine q_assign (v := .int .i64 _) rfl rfl ?_
    refine QL_nil ?_
    refine BK_of ?_
    refine BKL_nil ?_
    rintro wR5 ⟨SR5, XR5⟩
    refine WL_nil ?_
    refine W_ret ?_
    refine ret_1 rfl (by conv => lhs; whnf) ?_
    refine ⟨congrArg (Value.int .i64) ?_, SR5.fin⟩
    rw [hval]
    rw [if_neg h14, if_pos h20]
  refine o_assign (v := .bool _) rfl rfl ?_
  refine WL_nil ?_
  refine W_else rfl ?_
  refine W_seq ?_
  refine W_region ?_
  refine o_eql rfl rfl rfl (fun h35 => ?_) (fun h35 => ?_)
  · refine o_assign (v := .bool _) rfl rfl ?_
    refine WL_nil ?_
    refine W_then rfl ?_
    refine W_seq ?_
    refine W_draw follows_mixed [0, 1, 2, 3, 4, 5, 6, 7, 8, 9, 10, 11, 12, 13] [] [] (by kernel_rfl) rfl (Cl _ _ _ _) (Cl.start S) ?_
    refine q_move (by conv => lhs; whnf) rfl ?_
    refine q_move (by conv => lhs; whnf) rfl ?_
    refine q_nilCheck rfl rfl ?_
    refine q_fieldAddr fa_73_2 rfl rfl ?_
    refine q_load one_3 rfl (fun w1 hw => by exact hw.1.old c2) rfl ?_
    refine q_callr has_123 rfl rfl (fun w1 S1 X1 => element_fn M _ _ _ _ (RdS.keep (by assumption) (S1.keep0 M)) (by omega)) ?_
    refine q_move (by conv => lhs; whnf) rfl ?_
    refine q_nilCheck rfl rfl ?_
    refine q_fieldAddr fa_73_1 rfl rfl ?_
    refine q_load one_3 rfl (fun w1 hw => by exact hw.1.old c1) rfl ?_
    refine q_indexArr art_189 rfl rfl (by omega) (by omega) rfl ?_
    refine q_load one_3 rfl (fun w1 hw => by exact hw.1.old (hK.at (by omega) (by omega))) rfl ?_
    refine q_and rfl rfl rfl ?_
    refine q_assign (v := .int .i64 _) rfl rfl ?_
    refine QL_nil ?_
    refine BK_of ?_
    refine BKL_nil ?_
    rintro wR7 ⟨SR7, XR7⟩
    refine WL_nil ?_
    refine W_ret ?_
    refine ret_1 rfl (by conv => lhs; whnf) ?_
    refine ⟨congrArg (Value.int .i64) ?_, SR7.fin⟩
    rw [hval]
    rw [if_neg h14, if_neg h20, if_pos h35]
  refine o_assign (v := .bool _) rfl rfl ?_
  refine WL_nil ?_
  refine W_else rfl ?_
  refine W_skip ?_
  refine W_seq ?_
  refine W_region ?_
  refine o_alloc S zv_190 rfl rfl ?_
  intro g7 w7 S7 X7 G7
  refine WL_nil ?_
  refine W_seq ?_
  refine W_seq ?_
  refine W_region ?_
  refine o_move (by conv => lhs; whnf) rfl ?_
  refine o_nilCheck rfl rfl ?_
  refine o_fieldAddr fa_73_3 rfl rfl ?_
  refine o_load one_71 rfl (by exact S7.old c3) rfl ?_
  refine o_len slz_71.slT rfl rfl ?_
  refine o_move (v := .int .i64 _) rfl rfl ?_
  refine WL_nil ?_
  refine W_block ?_
  refine W_loop (fun μ D ε w => D = [] ∧ ∃ k : Nat, (k + μ = e.kids.length) ∧ St [] w0 w [(some g7, 190, arr3 (e.kids.map (E.val old now)) k)] ∧ ε 0 = .pointer (some ⟨b, o, none⟩) ∧ ε 1 = .slice Ao no co ∧ ε 2 = .slice An nn cn ∧ ε 7 = .pointer (some ⟨g7, 0, none⟩) ∧ ε 53 = .int .i64 n ∧ ε 54 = .int .i64 k) (μ := e.kids.length) ⟨rfl, 0, by omega, by exact S7, rfl, rfl, rfl, rfl, rfl, rfl⟩ ?_
  rintro μ D ε w ⟨rfl, k, hk, S, e0, e1, e2, e7, e53, e54⟩
  refine W_known 0 e0 ?_
  refine W_known 1 e1 ?_
  refine W_known 2 e2 ?_
  refine W_known 7 e7 ?_
  refine W_known 53 e53 ?_
  refine W_known 54 e54 ?_
  clear e0 e1 e2 e7 e53 e54
  refine W_seq ?_
  refine W_region ?_
  refine o_lss rfl rfl rfl (fun h55 => ?_) (fun h55 => ?_)
  · refine WL_nil ?_
    refine W_seq ?_
    refine W_then rfl ?_
    refine W_skip ?_
    refine W_seq ?_
    refine W_block ?_
    refine W_seq ?_
    refine W_region ?_
    refine o_move (v := .int .i64 _) rfl rfl ?_
    refine o_assign (v := .int .i64 _) rfl rfl ?_
    refine WL_nil ?_
    refine W_region ?_
    refine o_move (v := .int .i64 _) rfl rfl ?_
    refine o_move (by conv => lhs; whnf) rfl ?_
    refine o_nilCheck rfl rfl ?_
    refine o_fieldAddr fa_73_3 rfl rfl ?_
    refine o_load one_71 rfl (by exact S.old c3) rfl ?_
    refine o_move (v := .int .i64 _) rfl rfl ?_
    have hlt : k < e.kids.length := by omega
    obtain ⟨bk, ok, hA, hbkM, hkk⟩ := hks (by omega)
    refine o_indexAddr slz_71.slT rfl (by assumption) rfl (by omega) (by omega) rfl ?_
    refine o_move (by conv => lhs; whnf) rfl ?_
    refine o_move (by conv => lhs; whnf) rfl ?_
    refine o_callr S has_100 rfl rfl (ih _ (List.getElem_mem hlt) M _ bk (ok + k * 4) _ _ old now _ ((RdP.kid hbkM hkk k hlt).keep (S.keep0 M)) (hK.keep (S.keep0 M)) (hO.keep (S.keep0 M)) (hN.keep (S.keep0 M)) (hkg _ (List.getElem_mem hlt))) ?_
    intro w66 S66 X66
    refine o_indexArr art_190 rfl rfl (by omega) (by omega) rfl ?_
    first | refine o_store (kk := 0) S66 sz_3 rfl (by conv => lhs; whnf) rfl rfl (by (simp; omega)) ?_
    intro w12_11 S12_11 X12_11
    refine WL_nil ?_
    refine W_region ?_
    refine o_add rfl rfl (by unfold i64; omega) rfl ?_
    refine o_move (v := .int .i64 _) rfl rfl ?_
    refine WL_nil ?_
    refine ⟨μ - 1, by omega, rfl, k + 1, by omega, ?_, rfl, rfl, rfl, rfl, rfl, rfl⟩
    have h3 : (e.kids.map (E.val old now)).length ≤ 3 := by rw [List.length_map]; omega
    have hx := arr3_set (e.kids.map (E.val old now)) k h3 (by simpa using hlt)
    rw [← hx]
    simpa [hlt] using S12_11
  refine WL_nil ?_
  refine W_seq ?_
  refine W_else rfl ?_
  refine W_exit ?_
  refine bcons_here ?_
  refine W_seq ?_
  refine W_draw follows_mixed [0, 1, 2, 3, 4, 5, 6, 7, 8, 9, 10, 11, 12, 13] [] [] (by kernel_rfl) rfl (Cl _ _ _ _) (Cl.start S) ?_
  refine q_move (by conv => lhs; whnf) rfl ?_
  refine q_nilCheck rfl rfl ?_
  refine q_fieldAddr fa_73_0 rfl rfl ?_
  refine q_load one_3 rfl (fun w1 hw => by exact hw.1.old c0) rfl ?_
  first | refine q_loadN many_190 rfl (fun w1 hw => hw.1.cells 0 rfl) rfl rfl ?_
  refine q_callr has_124 rfl rfl (fun w1 S1 X1 => apply_fn _ _ _ _ _) ?_
  refine q_move (by conv => lhs; whnf) rfl ?_
  refine q_nilCheck rfl rfl ?_
  refine q_fieldAddr fa_73_1 rfl rfl ?_
  refine q_load one_3 rfl (fun w1 hw => by exact hw.1.old c1) rfl ?_
  refine q_indexArr art_189 rfl rfl (by omega) (by omega) rfl ?_
  refine q_load one_3 rfl (fun w1 hw => by exact hw.1.old (hK.at (by omega) (by omega))) rfl ?_
  refine q_and rfl rfl rfl ?_
  refine q_assign (v := .int .i64 _) rfl rfl ?_
  refine QL_nil ?_
  refine BK_of ?_
  refine BKL_nil ?_
  rintro wR14 ⟨SR14, XR14⟩
  refine WL_nil ?_
  refine W_ret ?_
  refine ret_1 rfl (by conv => lhs; whnf) ?_
  refine ⟨congrArg (Value.int .i64) ?_, SR14.fin⟩
  rw [hval]
  obtain rfl : k = e.kids.length := by omega
  rw [if_neg h14, if_neg h20, if_neg h35]
  have h3 : (e.kids.map (E.val old now)).take e.kids.length = e.kids.map (E.val old now) := List.take_of_length_le (by simp)
  rw [h3]
theorem eval_fn (e : E) (M : List Nat) (w0 : World) (cs : List Value) (vo vn : Value) (old now : List Int) (hR : RdE M w0 e cs) (hK : Masks M w0) (hO : RdI M w0 vo old) (hN : RdI M w0 vn now) :
    Does Tryz.prog 64 #[.agg cs.toArray, vo, vn] w0 fun v w' => v = .int .i64 (e.evl old now) ∧ Below w0.heap.size w0 w' := by
  obtain ⟨A, n, c, rfl, o1, o2, o3, hn, hc, hm, hbig, hks⟩ := hR.open_
  obtain ⟨Ao, no, co, rfl⟩ := hO.form
  obtain ⟨An, nn, cn, rfl⟩ := hN.form
  have S := St.refl w0
  refine Does_enter Tryz.func64 rfl Tryz.ntmps64 rfl ?_
  refine W_seq ?_
  refine W_region ?_
  refine o_boxa S (by conv => lhs; whnf) rfl ?_
  intro g3 w3 S3 X3 G3
  refine o_assign (v := .int .i64 _) rfl rfl ?_
  refine WL_nil ?_
  refine W_seq ?_
  refine W_seq ?_
  refine W_region ?_
  first | refine o_loadN many_73 rfl (S3.cells 0 rfl) rfl rfl ?_
  refine o_callb S3 has_99 rfl rfl (wellFormed_fn e M _ _ (RdE.keep (S3.keep0 M) _ _ hR) (hK.keep (S3.keep0 M))) (fun h8 w8 S8 X8 => ?_) (fun h8 w8 S8 X8 => ?_)
  · refine o_not rfl rfl ?_
    refine WL_nil ?_
    refine W_else rfl ?_
    refine W_skip ?_
    refine W_seq ?_
    refine W_region ?_
    refine o_move (by conv => lhs; whnf) rfl ?_
    refine o_move (by conv => lhs; whnf) rfl ?_
    refine o_callr S8 has_100 rfl rfl (value_fn e [] _ g3 0 _ _ old now 40 ⟨by simp, _, S8.cells 0 rfl, RdE.less (by simp) _ _ (RdE.keep (S8.keep0 M) _ _ hR)⟩ ((hK.keep (S8.keep0 M)).more (by simp)) ((hO.keep (S8.keep0 M)).less (by simp)) ((hN.keep (S8.keep0 M)).less (by simp)) (by unfold E.wf at h8; simp only [Bool.and_eq_true] at h8; exact h8.2)) ?_
    intro w12 S12 X12
    refine o_assign (v := .int .i64 _) rfl rfl ?_
    refine WL_nil ?_
    refine W_ret ?_
    refine ret_1 rfl (by conv => lhs; whnf) ?_
    refine ⟨congrArg (Value.int .i64) ?_, S12.fin⟩
    unfold E.evl
    simp [h8]
  refine o_not rfl rfl ?_
  refine WL_nil ?_
  refine W_then rfl ?_
  refine W_seq ?_
  refine W_region ?_
  refine o_assign (v := .int .i64 _) rfl rfl ?_
  refine WL_nil ?_
  refine W_ret ?_
  refine ret_1 rfl (by conv => lhs; whnf) ?_
  refine ⟨congrArg (Value.int .i64) ?_, S8.fin⟩
  unfold E.evl
  simp [h8]
end Go.Proofs.YtgnbfmifjlnigaaGreatDoor
namespace Go.Fw
open Go.RowKit
section
variable {σ : Type}
mutual
def E.lf (step : E → σ → σ) : E → σ → σ
  | ⟨op, w, n, ks⟩, s => E.lfs step ks (if ks.length = 0 then step ⟨op, w, n, ks⟩ s else s)
def E.lfs (step : E → σ → σ) : List E → σ → σ
  | [], s => s
  | k :: ks, s => E.lfs step ks (E.lf step k s)
end
theorem E.lf_def (step : E → σ → σ) (e : E) (s : σ) : e.lf step s = E.lfs step e.kids (if e.kids.length = 0 then step e s else s) := by cases e; simp only [E.lf]
theorem BelowB.mono {M M' : List Nat} {w w' : World} (h : BelowB M w w') (hs : ∀ g ∈ M, g ∈ M') : BelowB M' w w' := ⟨h.os, h.tape, h.output, h.size, fun i hi hm => h.block i hi fun hh => hm (hs i hh)⟩
theorem St.more0 {M : List Nat} {w0 w w' : World} (S : St M w0 w []) (h : BelowB M w w') : St M w0 w' [] :=
  S.changed (G := M) (L' := []) h (fun _ hg => .inr hg) rfl (by simp)
end
end Go.Fw
namespace Go.Proofs.YtgnbfmifjlnigaaGreatDoor
open Go.Fw Go.RowKit
theorem leaves_fn {σ : Type} (M : List Nat) (Inv : σ → World → Prop) (step : E → σ → σ) (f : FuncId) (caps : Array Value) (hf : Has Tryz.prog f)
    (hstep : ∀ (e : E) (s : σ) (w : World) (b o : Nat), e.Shape → e.kids.length = 0 → RdP M w e b o → Inv s w →
      Does Tryz.prog f (.pointer (some ⟨b, o, none⟩) :: caps.toList).toArray w fun _ w' => Inv (step e s) w' ∧ BelowB M w w') :
    ∀ (e : E) (w0 : World) (b o : Nat) (s : σ) (lim : Int), RdP M w0 e b o → Inv s w0 → e.good lim = true →
    Does Tryz.prog 118 #[.pointer (some ⟨b, o, none⟩), .func (.func f) #[] caps] w0 fun _ w' => Inv (e.lf step s) w' ∧ BelowB M w0 w' := by
  intro e
  induction e using E.induct with
  | _ e ih =>
  intro w0 b o s lim hR hI hg
  obtain ⟨hbM, o1, o2, o3, c0, c1, c2, A, n, c, c3, hn, hc, hm, hbig, hks, hRE⟩ := hR.open_
  rw [E.good_def] at hg
  simp only [Bool.and_eq_true] at hg
  have hsh : e.Shape := of_decide_eq_true hg.1.2
  have hkg : ∀ k ∈ e.kids, k.good (lim - 1) = true := (E.goods_iff _ _).1 hg.2
  clear hg
  have S : St M w0 w0 [] := ⟨BelowB.refl _ _, by simp, by simp⟩
  have hlf := E.lf_def step e s
  refine Does_enter Tryz.func118 rfl Tryz.ntmps118 rfl ?_
  refine W_cut (fun D ε w => D = [] ∧ ∃ s1 : σ, (Inv s1 w) ∧ (s1 = if e.kids.length = 0 then step e s else s) ∧ St M w0 w [] ∧ ε 0 = .pointer (some ⟨b, o, none⟩) ∧ ε 1 = .func (.func f) #[] caps) ?_ ?_
  · refine W_seq ?_
    refine W_region ?_
    refine o_move (by conv => lhs; whnf) rfl ?_
    refine o_nilCheck rfl rfl ?_
    refine o_fieldAddr fa_73_3 rfl rfl ?_
    refine o_load one_71 rfl (by first | exact S.oldM hbM c3) rfl ?_
    refine o_len slz_71.slT rfl rfl ?_
    refine o_eql rfl rfl rfl (fun h10 => ?_) (fun h10 => ?_)
    · refine WL_nil ?_
      refine W_then rfl ?_
      refine W_region ?_
      refine o_move (by conv => lhs; whnf) rfl ?_
      refine o_move (by conv => lhs; whnf) rfl ?_
      refine o_callv hf rfl rfl rfl (hstep e s _ b o hsh (by omega) (hR.keep S.keepM) hI) ?_
      rintro v13 w13 ⟨I13, B13⟩
      have S13 := S.more0 B13
      refine WL_nil ?_
      exact ⟨rfl, _, I13, by rw [if_pos (by omega)], S13, rfl, rfl⟩
    refine WL_nil ?_
    refine W_else rfl ?_
    refine W_skip ?_
    exact ⟨rfl, _, hI, by rw [if_neg (by omega)], S, rfl, rfl⟩
  rintro D ε w ⟨rfl, s1, hI1, hs1, S, e0, e1⟩
  refine W_known 0 e0 ?_
  refine W_known 1 e1 ?_
  clear e0 e1
  rw [← hs1] at hlf
  refine W_seq ?_
  refine W_region ?_
  refine o_move (by conv => lhs; whnf) rfl ?_
  refine o_nilCheck rfl rfl ?_
  refine o_fieldAddr fa_73_3 rfl rfl ?_
  refine o_load one_71 rfl (by first | exact S.oldM hbM c3) rfl ?_
  refine o_len slz_71.slT rfl rfl ?_
  refine o_move (v := .int .i64 _) rfl rfl ?_
  refine WL_nil ?_
  refine W_block ?_
  refine W_loop (fun μ D ε w => D = [] ∧ ∃ k : Nat, ∃ s2 : σ, (k + μ = e.kids.length) ∧ (Inv s2 w) ∧ (E.lfs step e.kids s1 = E.lfs step (e.kids.drop k) s2) ∧ St M w0 w [] ∧ ε 0 = .pointer (some ⟨b, o, none⟩) ∧ ε 1 = .func (.func f) #[] caps ∧ ε 18 = .int .i64 n ∧ ε 19 = .int .i64 k) (μ := e.kids.length) ⟨rfl, 0, s1, by omega, hI1, rfl, S, rfl, rfl, rfl, rfl⟩ ?_
  rintro μ D ε w ⟨rfl, k, s2, hk, hI2, hs2, S, e0, e1, e18, e19⟩
  refine W_known 0 e0 ?_
  refine W_known 1 e1 ?_
  refine W_known 18 e18 ?_
  refine W_known 19 e19 ?_
  clear e0 e1 e18 e19
  refine W_seq ?_
  refine W_region ?_
  refine o_lss rfl rfl rfl (fun h20 => ?_) (fun h20 => ?_)
  · refine WL_nil ?_
    refine W_seq ?_
    refine W_then rfl ?_
    refine W_skip ?_
    refine W_seq ?_
    refine W_block ?_
    refine W_seq ?_
    refine W_region ?_
    refine o_move (v := .int .i64 _) rfl rfl ?_
    refine o_assign (v := .int .i64 _) rfl rfl ?_
    refine WL_nil ?_
    refine W_region ?_
    refine o_move (by conv => lhs; whnf) rfl ?_
    refine o_nilCheck rfl rfl ?_
    refine o_fieldAddr fa_73_3 rfl rfl ?_
    refine o_load one_71 rfl (by first | exact S.oldM hbM c3) rfl ?_
    refine o_move (v := .int .i64 _) rfl rfl ?_
    have hlt : k < e.kids.length := by omega
    obtain ⟨bk, ok, hA, hbkM, hkk⟩ := hks (by omega)
    have hdr : e.kids.drop k = e.kids[k] :: e.kids.drop (k + 1) := List.drop_eq_getElem_cons hlt
    rw [hdr] at hs2
    simp only [E.lfs] at hs2
    refine o_indexAddr slz_71.slT rfl (by assumption) rfl (by omega) (by omega) rfl ?_
    refine o_move (by conv => lhs; whnf) rfl ?_
    refine o_call has_118 rfl rfl (ih _ (List.getElem_mem hlt) _ bk (ok + k * 4) s2 _ ((RdP.kid hbkM hkk k hlt).keep S.keepM) hI2 (hkg _ (List.getElem_mem hlt))) ?_
    rintro v29 w29 ⟨I29, B29⟩
    have S29 := S.more0 B29
    refine WL_nil ?_
    refine W_region ?_
    refine o_add rfl rfl (by unfold i64; omega) rfl ?_
    refine o_move (v := .int .i64 _) rfl rfl ?_
    refine WL_nil ?_
    exact ⟨μ - 1, by omega, rfl, k + 1, _, by omega, I29, hs2, S29, rfl, rfl, rfl, rfl⟩
  refine WL_nil ?_
  refine W_seq ?_
  refine W_else rfl ?_
  refine W_exit ?_
  refine bcons_here ?_
  refine ret_none rfl ?_
  obtain rfl : k = e.kids.length := by omega
  rw [List.drop_length] at hs2
  simp only [E.lfs] at hs2
  rw [hlf, hs2]
  exact ⟨hI2, S.below⟩
def VInv (M : List Nat) (gc gp gg : Nat) (vc : Value) (cells : List CellD) (pair : Bool) (s : Bool) (w : World) : Prop :=
  gc ∉ M ∧ gp ∉ M ∧ w.cell? ⟨gc, 0, none⟩ = some vc ∧ w.cell? ⟨gp, 0, none⟩ = some (.bool pair) ∧ hasBlk w (gg, 4, [.bool s]) ∧ RdCs M w vc cells
theorem valid1_fn (M : List Nat) (gc gp gg : Nat) (vc : Value) (cells : List CellD) (pair : Bool) (hgg : gg ∈ M) (e : E) (s : Bool) (w0 : World) (b o : Nat) (hsh : e.Shape) (hlf : e.kids.length = 0) (hR : RdP M w0 e b o) (hI : VInv M gc gp gg vc cells pair s w0) :
    Does Tryz.prog 119 #[.pointer (some ⟨b, o, none⟩), .pointer (some ⟨gc, 0, none⟩), .pointer (some ⟨gp, 0, none⟩), .pointer (some ⟨gg, 0, none⟩)] w0 fun _ w' => VInv M gc gp gg vc cells pair (s && decide (e.OverN cells pair)) w' ∧ BelowB M w0 w' := by
  obtain ⟨hgc, hgp, hcc, hcp, hblk, hC⟩ := hI
  obtain ⟨hbM, o1, o2, o3, c0, c1, c2, A, n, c, c3, hn, hc, hm, hbig, hks, hRE⟩ := hR.open_
  obtain ⟨Ac, nc, cc, rfl, hnc, hcc', hcm, hcbig, hcs⟩ := id hC
  have har := Shape_ar hsh
  have har2 := arityL_spec e.op
  have hov : (e.op = 3 ∨ e.op = 2) → 0 ≤ e.n ∧ e.n < 32 := fun h => by
    have := (Shape_2 (by omega)).1 hsh; omega
  have S := St.borrow1 hblk
  have hsub : ∀ g ∈ [gg], g ∈ M := fun g hg => by simp at hg; subst hg; exact hgg
  have hb' : b ∉ [gg] := fun h => hbM (hsub b h)
  have hc' : gc ∉ [gg] := fun h => hgc (hsub gc h)
  have hp' : gp ∉ [gg] := fun h => hgp (hsub gp h)
  have fin : ∀ (z : Bool) (w' : World), St [gg] w0 w' [(some gg, 4, [.bool z])] → z = (s && decide (e.OverN cells pair)) → VInv M gc gp gg (.slice Ac nc cc) cells pair (s && decide (e.OverN cells pair)) w' ∧ BelowB M w0 w' := by
    intro z w' S' hz
    subst hz
    exact ⟨⟨hgc, hgp, S'.oldM hc' hcc, S'.oldM hp' hcp, S'.blk 0 rfl, hC.keep (S'.keepM.mono hsub)⟩, S'.below.mono hsub⟩
  obtain ⟨pr, hpr⟩ : ∃ pr, pr = pair := ⟨_, rfl⟩
  have hcp2 := hcp
  rw [← hpr] at hcp2
  refine Does_enter Tryz.func119 rfl Tryz.ntmps119 rfl ?_
  refine W_seq ?_
  refine W_draw follows_mixed [0, 1, 2, 3, 4, 5, 6, 7, 8, 9, 10, 11, 12, 13, 14, 15, 16, 17, 18, 19, 20, 21, 22, 23, 24, 25, 26, 27, 28, 29, 30, 31, 32, 33, 34, 35, 36, 37, 38, 39] [] [] (by kernel_rfl) rfl (Cl _ _ _ _) (Cl.start S) ?_
  refine q_move (by conv => lhs; whnf) rfl ?_
  refine q_nilCheck rfl rfl ?_
  refine q_fieldAddr fa_73_0 rfl rfl ?_
  refine q_load one_3 rfl (fun w1 hw => by exact hw.1.oldM hb' c0) rfl ?_
  refine q_neq rfl rfl rfl (fun h9 => ?_) (fun h9 => ?_)
  · refine q_move (v := .bool _) rfl rfl ?_
    refine QL_on rfl rfl ?_
    refine q_move (by conv => lhs; whnf) rfl ?_
    refine QL_on rfl rfl ?_
    refine q_nilCheck rfl rfl ?_
    refine QL_on rfl rfl ?_
    refine q_fieldAddr fa_73_2 rfl rfl ?_
    refine QL_on rfl rfl ?_
    refine q_load one_3 rfl (fun w1 hw => by exact hw.1.oldM hb' c2) rfl ?_
    refine QL_on rfl rfl ?_
    refine q_load one_31 rfl (fun w1 hw => by exact hw.1.oldM hc' hcc) rfl ?_
    refine QL_on rfl rfl ?_
    refine q_len slz_31.slT rfl rfl ?_
    refine QL_on rfl rfl ?_
    refine q_geq rfl rfl rfl (fun h17 => ?_) (fun h17 => ?_)
    · refine QL_on rfl rfl ?_
      refine q_move (v := .bool _) rfl rfl ?_
      refine QL_off rfl rfl rfl ?_
      refine QL_off rfl rfl rfl ?_
      refine QL_off rfl rfl rfl ?_
      refine QL_off rfl rfl rfl ?_
      refine QL_off rfl rfl rfl ?_
      refine QL_off rfl rfl rfl ?_
      refine QL_off rfl rfl rfl ?_
      refine QL_off rfl rfl rfl ?_
      refine QL_off rfl rfl rfl ?_
      refine QL_off rfl rfl rfl ?_
      refine QL_off rfl rfl rfl ?_
      refine QL_off rfl rfl rfl ?_
      refine QL_off rfl rfl rfl ?_
      refine QL_on rfl rfl ?_
      refine q_pick rfl (v := .bool _) rfl rfl ?_
      refine QL_on rfl rfl ?_
      refine q_move (v := .bool _) rfl rfl ?_
      refine QL_off rfl rfl rfl ?_
      refine QL_off rfl rfl rfl ?_
      refine QL_off rfl rfl rfl ?_
      refine QL_off rfl rfl rfl ?_
      refine QL_off rfl rfl rfl ?_
      refine QL_off rfl rfl rfl ?_
      refine QL_off rfl rfl rfl ?_
      refine QL_off rfl rfl rfl ?_
      refine QL_off rfl rfl rfl ?_
      refine QL_on rfl rfl ?_
      refine q_pick rfl (v := .bool _) rfl rfl ?_
      refine q_pick rfl (v := .bool _) rfl rfl ?_
      refine QL_nil ?_
      refine BK_of ?_
      refine BKL_nil ?_
      rintro wR0 ⟨SR0, XR0⟩
      refine WL_nil ?_
      refine W_then rfl ?_
      refine W_region ?_
      first | refine o_store (kk := 0) SR0 sz_4 rfl (by conv => lhs; whnf) rfl rfl (by exact Nat.le_of_ble_eq_true rfl) ?_
      intro w1_0 S1_0 X1_0
      refine WL_nil ?_
      refine ret_none rfl ?_
      refine fin _ _ S1_0 ?_; rw [decide_eq_false (show ¬ e.OverN cells pair from fun h => by have := h.2 (by omega); omega)]; simp; done
    refine QL_on rfl rfl ?_
    refine q_move (v := .bool _) rfl rfl ?_
    refine QL_on rfl rfl ?_
    refine q_load one_31 rfl (fun w1 hw => by exact hw.1.oldM hc' hcc) rfl ?_
    refine QL_on rfl rfl ?_
    refine q_move (by conv => lhs; whnf) rfl ?_
    refine QL_on rfl rfl ?_
    refine q_nilCheck rfl rfl ?_
    refine QL_on rfl rfl ?_
    refine q_fieldAddr fa_73_2 rfl rfl ?_
    refine QL_on rfl rfl ?_
    refine q_load one_3 rfl (fun w1 hw => by exact hw.1.oldM hb' c2) rfl ?_
    refine QL_on rfl rfl ?_
    obtain ⟨bc, oc, hAc, hbc, hce⟩ := hcs (by omega)
    obtain ⟨m, hm⟩ := Int.eq_ofNat_of_zero_le (show 0 ≤ e.n by omega)
    have hml : m < cells.length := by omega
    have hbc' : bc ∉ [gg] := fun h => hbc (hsub bc h)
    obtain ⟨cl, hcl, hcw', hrc⟩ := hce m cells[m] (List.getElem?_eq_getElem hml)
    have hcw : w0.cell? ⟨bc, oc + e.n.toNat * 6 + 1, none⟩ = some (.int .i64 (wAt cells e.n)) := by
      rw [hm]; have := hcw' 1 (.int .i64 cells[m].w) (by rw [hrc.1]; rfl)
      simpa [wAt, hml] using this
    refine q_indexAddr slz_31.slT rfl (by assumption) rfl (by omega) (by omega) rfl ?_
    refine QL_on rfl rfl ?_
    refine q_fieldAddr fa_90_1 rfl rfl ?_
    refine QL_on rfl rfl ?_
    refine q_load one_3 rfl (fun w1 hw => by exact hw.1.oldM hbc' hcw) rfl ?_
    refine QL_on rfl rfl ?_
    refine q_move (by conv => lhs; whnf) rfl ?_
    refine QL_on rfl rfl ?_
    refine q_nilCheck rfl rfl ?_
    refine QL_on rfl rfl ?_
    refine q_fieldAddr fa_73_1 rfl rfl ?_
    refine QL_on rfl rfl ?_
    refine q_load one_3 rfl (fun w1 hw => by exact hw.1.oldM hb' c1) rfl ?_
    refine QL_on rfl rfl ?_
    refine q_neq rfl rfl rfl (fun h31 => ?_) (fun h31 => ?_)
    · refine QL_on rfl rfl ?_
      refine q_pick rfl (v := .bool _) rfl rfl ?_
      refine QL_on rfl rfl ?_
      refine q_move (v := .bool _) rfl rfl ?_
      refine QL_off rfl rfl rfl ?_
      refine QL_off rfl rfl rfl ?_
      refine QL_off rfl rfl rfl ?_
      refine QL_off rfl rfl rfl ?_
      refine QL_off rfl rfl rfl ?_
      refine QL_off rfl rfl rfl ?_
      refine QL_off rfl rfl rfl ?_
      refine QL_off rfl rfl rfl ?_
      refine QL_off rfl rfl rfl ?_
      refine QL_on rfl rfl ?_
      refine q_pick rfl (v := .bool _) rfl rfl ?_
      refine q_pick rfl (v := .bool _) rfl rfl ?_
      refine QL_nil ?_
      refine BK_of ?_
      refine BKL_nil ?_
      rintro wR0 ⟨SR0, XR0⟩
      refine WL_nil ?_
      refine W_then rfl ?_
      refine W_region ?_
      first | refine o_store (kk := 0) SR0 sz_4 rfl (by conv => lhs; whnf) rfl rfl (by exact Nat.le_of_ble_eq_true rfl) ?_
      intro w1_0 S1_0 X1_0
      refine WL_nil ?_
      refine ret_none rfl ?_
      refine fin _ _ S1_0 ?_; rw [decide_eq_false (show ¬ e.OverN cells pair from fun h => by have := h.2 (by omega); omega)]; simp; done
    refine QL_on rfl rfl ?_
    refine q_pick rfl (v := .bool _) rfl rfl ?_
    refine QL_on rfl rfl ?_
    refine q_move (v := .bool _) rfl rfl ?_
    refine QL_on rfl rfl ?_
    refine q_move (by conv => lhs; whnf) rfl ?_
    refine QL_on rfl rfl ?_
    refine q_nilCheck rfl rfl ?_
    refine QL_on rfl rfl ?_
    refine q_fieldAddr fa_73_0 rfl rfl ?_
    refine QL_on rfl rfl ?_
    refine q_load one_3 rfl (fun w1 hw => by exact hw.1.oldM hb' c0) rfl ?_
    refine QL_on rfl rfl ?_
    refine q_eql rfl rfl rfl (fun h38 => ?_) (fun h38 => ?_)
    · refine QL_on rfl rfl ?_
      refine q_move (v := .bool _) rfl rfl ?_
      refine QL_on rfl rfl ?_
      cases hb40 : pr
      · refine q_load one_4 rfl (fun w1 hw => by exact (hw.1.oldM hp' (hcp2.trans (by rw [hb40]))).trans (congrArg (fun b => some (Value.bool b)) hb40)) rfl ?_
        refine QL_on rfl rfl ?_
        refine q_not rfl rfl ?_
        refine QL_on rfl rfl ?_
        refine q_pick rfl (v := .bool _) rfl rfl ?_
        refine QL_on rfl rfl ?_
        refine q_pick rfl (v := .bool _) rfl rfl ?_
        refine q_pick rfl (v := .bool _) rfl rfl ?_
        refine QL_nil ?_
        refine BK_of ?_
        refine BKL_nil ?_
        rintro wR0 ⟨SR0, XR0⟩
        refine WL_nil ?_
        refine W_then rfl ?_
        refine W_region ?_
        first | refine o_store (kk := 0) SR0 sz_4 rfl (by conv => lhs; whnf) rfl rfl (by exact Nat.le_of_ble_eq_true rfl) ?_
        intro w1_0 S1_0 X1_0
        refine WL_nil ?_
        refine ret_none rfl ?_
        refine fin _ _ S1_0 ?_; rw [decide_eq_false (show ¬ e.OverN cells pair from fun h => by have := h.1 (by omega); rw [← hpr, hb40] at this; cases this)]; simp; done
      refine q_load one_4 rfl (fun w1 hw => by exact (hw.1.oldM hp' (hcp2.trans (by rw [hb40]))).trans (congrArg (fun b => some (Value.bool b)) hb40)) rfl ?_
      refine QL_on rfl rfl ?_
      refine q_not rfl rfl ?_
      refine QL_on rfl rfl ?_
      refine q_pick rfl (v := .bool _) rfl rfl ?_
      refine QL_on rfl rfl ?_
      refine q_pick rfl (v := .bool _) rfl rfl ?_
      refine q_pick rfl (v := .bool _) rfl rfl ?_
      refine QL_nil ?_
      refine BK_of ?_
      refine BKL_nil ?_
      rintro wR0 ⟨SR0, XR0⟩
      refine WL_nil ?_
      refine W_else rfl ?_
      refine W_skip ?_
      refine ret_none rfl ?_
      refine fin _ _ SR0 ?_; rw [decide_eq_true (show e.OverN cells pair from ⟨fun h => by rw [← hpr, hb40], fun h => by omega⟩)]; simp; done
    refine QL_on rfl rfl ?_
    refine q_move (v := .bool _) rfl rfl ?_
    refine QL_off rfl rfl rfl ?_
    refine QL_off rfl rfl rfl ?_
    refine QL_on rfl rfl ?_
    refine q_pick rfl (v := .bool _) rfl rfl ?_
    refine QL_on rfl rfl ?_
    refine q_pick rfl (v := .bool _) rfl rfl ?_
    refine q_pick rfl (v := .bool _) rfl rfl ?_
    refine QL_nil ?_
    refine BK_of ?_
    refine BKL_nil ?_
    rintro wR0 ⟨SR0, XR0⟩
    refine WL_nil ?_
    refine W_else rfl ?_
    refine W_skip ?_
    refine ret_none rfl ?_
    refine fin _ _ SR0 ?_; rw [decide_eq_true (show e.OverN cells pair from ⟨fun h => absurd h (by omega), fun h => by omega⟩)]; simp; done
  refine q_move (v := .bool _) rfl rfl ?_
  refine QL_off rfl rfl rfl ?_
  refine QL_off rfl rfl rfl ?_
  refine QL_off rfl rfl rfl ?_
  refine QL_off rfl rfl rfl ?_
  refine QL_off rfl rfl rfl ?_
  refine QL_off rfl rfl rfl ?_
  refine QL_off rfl rfl rfl ?_
  refine QL_off rfl rfl rfl ?_
  refine QL_off rfl rfl rfl ?_
  refine QL_off rfl rfl rfl ?_
  refine QL_off rfl rfl rfl ?_
  refine QL_off rfl rfl rfl ?_
  refine QL_off rfl rfl rfl ?_
  refine QL_off rfl rfl rfl ?_
  refine QL_off rfl rfl rfl ?_
  refine QL_off rfl rfl rfl ?_
  refine QL_off rfl rfl rfl ?_
  refine QL_off rfl rfl rfl ?_
  refine QL_off rfl rfl rfl ?_
  refine QL_off rfl rfl rfl ?_
  refine QL_off rfl rfl rfl ?_
  refine QL_off rfl rfl rfl ?_
  refine QL_off rfl rfl rfl ?_
  refine QL_off rfl rfl rfl ?_
  refine QL_off rfl rfl rfl ?_
  refine QL_off rfl rfl rfl ?_
  refine QL_off rfl rfl rfl ?_
  refine QL_off rfl rfl rfl ?_
  refine QL_off rfl rfl rfl ?_
  refine QL_off rfl rfl rfl ?_
  refine QL_off rfl rfl rfl ?_
  refine QL_off rfl rfl rfl ?_
  refine QL_off rfl rfl rfl ?_
  refine q_pick rfl (v := .bool _) rfl rfl ?_
  refine QL_nil ?_
  refine BK_of ?_
  refine BKL_nil ?_
  rintro wR0 ⟨SR0, XR0⟩
  refine WL_nil ?_
  refine W_else rfl ?_
  refine W_skip ?_
  refine ret_none rfl ?_
  refine fin _ _ SR0 ?_; rw [decide_eq_true (show e.OverN cells pair from ⟨fun h => absurd h (by omega), fun h => by omega⟩)]; simp; done
theorem lf_over (cells : List CellD) (pair : Bool) : ∀ (e : E) (s : Bool) (lim : Int), e.good lim = true → e.lf (fun e s => s && decide (e.OverN cells pair)) s = (s && e.over cells pair) := by
  intro e
  induction e using E.induct with
  | _ e ih =>
    intro s lim hg
    rw [E.good_def] at hg
    simp only [Bool.and_eq_true] at hg
    have hsh : e.Shape := of_decide_eq_true hg.1.2
    have hkg : ∀ k ∈ e.kids, k.good (lim - 1) = true := (E.goods_iff _ _).1 hg.2
    have har := Shape_ar hsh
    have har2 := arityL_spec e.op
    have key : ∀ (ks : List E), (∀ k ∈ ks, ∀ (s : Bool) (lim : Int), k.good lim = true → k.lf (fun e s => s && decide (e.OverN cells pair)) s = (s && k.over cells pair)) → (∀ k ∈ ks, k.good (lim - 1) = true) →
        ∀ s : Bool, E.lfs (fun e s => s && decide (e.OverN cells pair)) ks s = (s && E.overs cells pair ks) := by
      intro ks
      induction ks with
      | nil => intro _ _ s; simp [E.lfs, E.overs]
      | cons k ks ih2 =>
        intro h1 h2 s
        simp only [E.lfs, E.overs]
        rw [ih2 (fun k' hk' => h1 k' (by simp [hk'])) (fun k' hk' => h2 k' (by simp [hk'])), h1 k (by simp) _ (lim - 1) (h2 k (by simp)), Bool.and_assoc]
    rw [E.lf_def, key e.kids ih hkg, E.over_def]
    by_cases h0 : e.kids.length = 0
    · rw [if_pos h0, Bool.and_assoc]
    · rw [if_neg h0, decide_eq_true (show e.OverN cells pair by unfold E.OverN; omega)]; simp
theorem valid_e_fn (e : E) (M : List Nat) (w0 : World) (cs : List Value) (vc : Value) (cells : List CellD) (pair : Bool) (hR : RdE M w0 e cs) (hC : RdCs M w0 vc cells) (hK : Masks M w0) :
    Does Tryz.prog 97 #[.agg cs.toArray, vc, .bool pair] w0 fun v w' => v = .bool (e.valid cells pair) ∧ Below w0.heap.size w0 w' := by
  obtain ⟨A, n, c, rfl, o1, o2, o3, hn, hc, hm, hbig, hks⟩ := hR.open_
  obtain ⟨Ac, nc, cc, rfl⟩ := hC.form
  have S := St.refl w0
  refine Does_enter Tryz.func97 rfl Tryz.ntmps97 rfl ?_
  refine W_seq ?_
  refine W_region ?_
  refine o_boxa S (by conv => lhs; whnf) rfl ?_
  intro g3 w3 S3 X3 G3
  refine o_box1 S3 (v := .slice _ _ _) rfl rfl rfl ?_
  intro g4 w4 S4 X4 G4
  refine o_box1 S4 (v := .bool _) rfl rfl rfl ?_
  intro g5 w5 S5 X5 G5
  refine o_assign (v := .bool _) rfl rfl ?_
  refine WL_nil ?_
  refine W_seq ?_
  refine W_seq ?_
  refine W_region ?_
  refine o_loadN many_73 rfl (S5.cells 2 rfl) rfl rfl ?_
  refine o_callb S5 has_99 rfl rfl (wellFormed_fn e M _ _ (RdE.keep (S5.keep0 M) _ _ hR) (hK.keep (S5.keep0 M))) (fun h9 w9 S9 X9 => ?_) (fun h9 w9 S9 X9 => ?_)
  · refine o_not rfl rfl ?_
    refine WL_nil ?_
    refine W_else rfl ?_
    refine W_skip ?_
    refine W_seq ?_
    refine W_region ?_
    refine o_alloc S9 zv_4 rfl rfl ?_
    intro g7 w7 S7 X7 G7
    refine o_store (kk := 0) S7 sz_4 rfl (by conv => lhs; whnf) rfl rfl (by exact Nat.le_of_ble_eq_true rfl) ?_
    intro w3_1 S3_1 X3_1
    refine WL_nil ?_
    refine W_seq ?_
    refine W_region ?_
    refine o_makeFunc rfl rfl ?_
    have hM' : ∀ g ∈ [g7] , g ∈ M ∨ w0.heap.size ≤ g := fun g hg => by
      simp at hg; subst hg; right; have := S3_1.new 0 rfl; simp at this; exact this
    have hgood : e.good 40 = true := by unfold E.wf at h9; simp only [Bool.and_eq_true] at h9; exact h9.2
    refine o_call has_118 rfl rfl (leaves_fn [g7] (VInv [g7] g4 g5 g7 (.slice Ac nc cc) cells pair) (fun e s => s && decide (e.OverN cells pair)) _ _ has_119 (fun e s w b o h1 h2 h3 h4 => valid1_fn [g7] g4 g5 g7 _ cells pair (by simp) e s w b o h1 h2 h3 h4) e _ g3 0 true 40
      ⟨by simpa using (S3_1.ne 0 3 rfl rfl (by omega)).symm, _, S3_1.cells 3 rfl, RdE.keep (S3_1.keep0 _) _ _ (RdE.more hM' _ _ hR)⟩
      ⟨by simpa using (S3_1.ne 0 2 rfl rfl (by omega)).symm, by simpa using (S3_1.ne 0 1 rfl rfl (by omega)).symm, S3_1.cell 2 rfl rfl, S3_1.cell 1 rfl rfl, S3_1.blk 0 rfl, (hC.more (by omega) hM').keep (S3_1.keep0 _)⟩ hgood) ?_
    rintro v12 w12 ⟨⟨-, -, -, -, I12, -⟩, B12⟩
    have S12 := S3_1.changed1 0 rfl B12 I12
    rw [lf_over cells pair e true 40 hgood] at S12
    dsimp only [List.set] at S12
    refine WL_nil ?_
    refine W_seq ?_
    refine W_region ?_
    refine o_load one_4 rfl (by exact S12.cell 0 rfl rfl) rfl ?_
    refine o_assign (v := .bool _) rfl rfl ?_
    refine WL_nil ?_
    refine W_ret ?_
    refine ret_1 rfl (by conv => lhs; whnf) ?_
    refine ⟨congrArg Value.bool ?_, S12.fin⟩
    unfold E.valid
    simp [h9]
  refine o_not rfl rfl ?_
  refine WL_nil ?_
  refine W_then rfl ?_
  refine W_seq ?_
  refine W_region ?_
  refine o_assign (v := .bool _) rfl rfl ?_
  refine WL_nil ?_
  refine W_ret ?_
  refine ret_1 rfl (by conv => lhs; whnf) ?_
  refine ⟨congrArg Value.bool ?_, S9.fin⟩
  unfold E.valid
  simp [h9]
end Go.Proofs.YtgnbfmifjlnigaaGreatDoor
namespace Go.Proofs.YtgnbfmifjlnigaaGreatDoor
open Go.Fw Go.RowKit
theorem rdI_nil {M : List Nat} {w : World} : RdI M w (.slice none 0 0) [] := ⟨none, 0, 0, rfl, rfl, Nat.le_refl _, by unfold maxLen; omega, by omega, fun h => absurd h (by omega)⟩
def SInv (g1 g2 : Nat) (s : List Bool × List Bool) (w : World) : Prop :=
  s.1.length = 32 ∧ s.2.length = 32 ∧ hasBlk w (g1, 209, s.1.map Value.bool) ∧ hasBlk w (g2, 209, s.2.map Value.bool)
def supStep (e : E) (s : List Bool × List Bool) : List Bool × List Bool := (if e.op = 3 then s.1.set e.n.toNat true else s.1, if e.op = 2 then s.2.set e.n.toNat true else s.2)
theorem support1_fn (g1 g2 : Nat) (hne : g1 ≠ g2) (e : E) (s : List Bool × List Bool) (w0 : World) (b o : Nat) (hsh : e.Shape) (hR : RdP [g1, g2] w0 e b o) (hI : SInv g1 g2 s w0) :
    Does Tryz.prog 148 #[.pointer (some ⟨b, o, none⟩), .pointer (some ⟨g1, 0, none⟩), .pointer (some ⟨g2, 0, none⟩)] w0 fun _ w' => SInv g1 g2 (supStep e s) w' ∧ BelowB [g1, g2] w0 w' := by
  obtain ⟨l1, l2, hb1, hb2⟩ := hI
  obtain ⟨a1, a2⟩ := s
  dsimp only at l1 l2 hb1 hb2
  obtain ⟨hbM, o1, o2, o3, c0, c1, c2, A, n, c, c3, hn, hc, hm, hbig, hks, hRE⟩ := hR.open_
  have hov : (e.op = 3 ∨ e.op = 2) → 0 ≤ e.n ∧ e.n < 32 := fun h => by
    have := (Shape_2 (by omega)).1 hsh; omega
  have S := St.borrow2 hb1 hb2 hne
  refine Does_enter Tryz.func148 rfl Tryz.ntmps148 rfl ?_
  refine W_seq ?_
  refine W_region ?_
  refine o_move (by conv => lhs; whnf) rfl ?_
  refine o_nilCheck rfl rfl ?_
  refine o_fieldAddr fa_73_0 rfl rfl ?_
  refine o_load one_3 rfl (by exact S.oldM hbM c0) rfl ?_
  refine WL_nil ?_
  refine W_block ?_
  refine W_seq ?_
  refine W_region ?_
  refine o_eql rfl rfl rfl (fun h9 => ?_) (fun h9 => ?_)
  · refine o_assign (v := .bool _) rfl rfl ?_
    refine WL_nil ?_
    refine W_then rfl ?_
    refine W_region ?_
    refine o_move (by conv => lhs; whnf) rfl ?_
    refine o_nilCheck rfl rfl ?_
    refine o_fieldAddr fa_73_2 rfl rfl ?_
    refine o_load one_3 rfl (by exact S.oldM hbM c2) rfl ?_
    refine o_indexArr art_209 rfl rfl (by omega) (by omega) rfl ?_
    refine o_store (kk := 0) S sz_4 rfl (by conv => lhs; whnf) rfl rfl (by (simp; omega)) ?_
    intro w2_5 S2_5 X2_5
    refine WL_nil ?_
    refine ret_none rfl ?_
    refine ⟨?_, S2_5.below⟩
    unfold SInv supStep
    refine ⟨by dsimp only; split <;> simp [l1], by dsimp only; split <;> simp [l2], ?_, ?_⟩
    · have hh := S2_5.blk 0 rfl
      simpa [h9, List.map_set] using hh; done
    · have hh := S2_5.blk 1 rfl
      simpa [h9, List.map_set] using hh; done
  refine o_assign (v := .bool _) rfl rfl ?_
  refine WL_nil ?_
  refine W_else rfl ?_
  refine W_seq ?_
  refine W_region ?_
  refine o_eql rfl rfl rfl (fun h16 => ?_) (fun h16 => ?_)
  · refine o_assign (v := .bool _) rfl rfl ?_
    refine WL_nil ?_
    refine W_then rfl ?_
    refine W_region ?_
    refine o_move (by conv => lhs; whnf) rfl ?_
    refine o_nilCheck rfl rfl ?_
    refine o_fieldAddr fa_73_2 rfl rfl ?_
    refine o_load one_3 rfl (by exact S.oldM hbM c2) rfl ?_
    refine o_indexArr art_209 rfl rfl (by omega) (by omega) rfl ?_
    refine o_store (kk := 1) S sz_4 rfl (by conv => lhs; whnf) rfl rfl (by (simp; omega)) ?_
    intro w4_5 S4_5 X4_5
    refine WL_nil ?_
    refine ret_none rfl ?_
    refine ⟨?_, S4_5.below⟩
    unfold SInv supStep
    refine ⟨by dsimp only; split <;> simp [l1], by dsimp only; split <;> simp [l2], ?_, ?_⟩
    · have hh := S4_5.blk 0 rfl
      simpa [h9, List.map_set] using hh; done
    · have hh := S4_5.blk 1 rfl
      simpa [h9, h16, List.map_set] using hh; done
  refine o_assign (v := .bool _) rfl rfl ?_
  refine WL_nil ?_
  refine W_else rfl ?_
  refine W_skip ?_
  refine ret_none rfl ?_
  refine ⟨?_, S.below⟩
  unfold SInv supStep
  refine ⟨by dsimp only; split <;> simp [l1], by dsimp only; split <;> simp [l2], ?_, ?_⟩
  · have hh := S.blk 0 rfl
    simpa [h9, List.map_set] using hh; done
  · have hh := S.blk 1 rfl
    simpa [h9, h16, List.map_set] using hh; done
theorem members_fn (M : List Nat) (w0 : World) (bs : List Bool) (hlen : bs.length = 32) (hM : ∀ g ∈ M, g < w0.heap.size) :
    Does Tryz.prog 149 #[.agg (bs.map Value.bool).toArray] w0 fun v' w' => RdI M w' v' (markedL bs) ∧ Below w0.heap.size w0 w' := by
  have S := (St.refl w0).nilEnt 3
  have hlm : (bs.map Value.bool).length = 32 := by simpa using hlen
  refine Does_enter Tryz.func149 rfl Tryz.ntmps149 rfl ?_
  refine W_seq ?_
  refine W_region ?_
  refine o_boxa S (by conv => lhs; whnf) rfl ?_
  intro g1 w1 S1 X1 G1
  refine o_assign (by conv => lhs; whnf) rfl ?_
  refine WL_nil ?_
  refine W_seq ?_
  refine W_region ?_
  refine o_assign (by conv => lhs; whnf) rfl ?_
  refine WL_nil ?_
  refine W_seq ?_
  refine W_seq ?_
  refine W_region ?_
  refine o_loadN many_209 rfl (S1.cells 0 rfl) (by assumption) rfl ?_
  refine o_move (v := .int .i64 _) rfl rfl ?_
  refine WL_nil ?_
  refine W_block ?_
  refine W_loop (fun μ D ε w => D = [] ∧ ∃ k : Nat, ∃ G : Option Nat, ∃ cs : List Value, ∃ v : Value, (k + μ = 32) ∧ (RowV G 1 (markedTo bs k).length cs v ((markedTo bs k).map (Value.int .i64))) ∧ St [] w0 w [(G, 3, cs)] ∧ ε 3 = v ∧ ε 6 = .agg (bs.map Value.bool).toArray ∧ ε 7 = .int .i64 k) (μ := 32) ⟨rfl, 0, none, [], _, by omega, RowV.nil 1, S1.tail, rfl, rfl, rfl⟩ ?_
  rintro μ D ε w ⟨rfl, k, G, cs, v, hk, hrow, S, e3, e6, e7⟩
  refine W_known 3 e3 ?_
  refine W_known 6 e6 ?_
  refine W_known 7 e7 ?_
  clear e3 e6 e7
  refine W_seq ?_
  refine W_region ?_
  refine o_lss rfl rfl rfl (fun h8 => ?_) (fun h8 => ?_)
  · refine WL_nil ?_
    refine W_seq ?_
    refine W_then rfl ?_
    refine W_skip ?_
    refine W_seq ?_
    refine W_block ?_
    refine W_seq ?_
    refine W_region ?_
    refine o_move (v := .int .i64 _) rfl rfl ?_
    have hlt : k < bs.length := by omega
    have hel : ((bs.map Value.bool).toArray)[((k : Nat) : Int).toNat]? = some (.bool bs[k]) := by simp [hlt]
    have hgd : bs.getD k false = bs[k] := by simp [hlt]
    have hml := markedTo_len bs k
    cases hb10 : bs[k]
    · have hlt : k < bs.length := by omega
      have hel : ((bs.map Value.bool).toArray)[((k : Nat) : Int).toNat]? = some (.bool bs[k]) := by simp [hlt]
      have hgd : bs.getD k false = bs[k] := by simp [hlt]
      have hml := markedTo_len bs k
      refine o_index art_209 rfl rfl (by omega) (by omega) (hel.trans (by rw [hb10])) rfl ?_
      refine o_assign (v := .int .i64 _) rfl rfl ?_
      refine o_assign (v := .bool _) rfl rfl ?_
      refine WL_nil ?_
      refine W_seq ?_
      refine W_region ?_
      refine o_move (v := .bool _) rfl rfl ?_
      refine WL_nil ?_
      refine W_else rfl ?_
      refine W_skip ?_
      refine W_region ?_
      refine o_add rfl rfl (by unfold i64; omega) rfl ?_
      refine o_move (v := .int .i64 _) rfl rfl ?_
      refine WL_nil ?_
      refine ⟨μ - 1, by omega, rfl, k + 1, G, cs, v, by omega, ?_, S, rfl, rfl, rfl⟩
      rw [markedTo_succ, hgd, hb10]; simpa using hrow
    have hlt : k < bs.length := by omega
    have hel : ((bs.map Value.bool).toArray)[((k : Nat) : Int).toNat]? = some (.bool bs[k]) := by simp [hlt]
    have hgd : bs.getD k false = bs[k] := by simp [hlt]
    have hml := markedTo_len bs k
    refine o_index art_209 rfl rfl (by omega) (by omega) (hel.trans (by rw [hb10])) rfl ?_
    refine o_assign (v := .int .i64 _) rfl rfl ?_
    refine o_assign (v := .bool _) rfl rfl ?_
    refine WL_nil ?_
    refine W_seq ?_
    refine W_region ?_
    refine o_move (v := .bool _) rfl rfl ?_
    refine WL_nil ?_
    refine W_then rfl ?_
    refine W_region ?_
    refine o_move (by conv => lhs; whnf) rfl ?_
    refine o_move (v := .int .i64 _) rfl rfl ?_
    refine o_buildSlice S slz_43 (vs := [.int .i64 _]) (cs := [_]) (by rfl) rfl rfl rfl rfl rfl rfl ?_
    intro g14 w14 S14 X14 G14
    refine o_append (k := 1) S14 slz_43 rfl hrow rfl rfl (S14.cells 0 rfl) rfl (by simp [Value.oneCell']) (by omega) (by omega) rfl ?_
    intro v15 G15 cs15 w15 S15' hrow15 X15
    have S15 := S15'.tail
    refine o_assign (by conv => lhs; whnf) rfl ?_
    refine WL_nil ?_
    refine W_region ?_
    refine o_add rfl rfl (by unfold i64; omega) rfl ?_
    refine o_move (v := .int .i64 _) rfl rfl ?_
    refine WL_nil ?_
    refine ⟨μ - 1, by omega, rfl, k + 1, G15, cs15, v15, by omega, ?_, S15, rfl, rfl, rfl⟩
    rw [markedTo_succ, hgd, hb10]; simpa using hrow15
  refine WL_nil ?_
  refine W_seq ?_
  refine W_else rfl ?_
  refine W_exit ?_
  refine bcons_here ?_
  refine W_seq ?_
  refine W_region ?_
  refine o_move (by conv => lhs; whnf) rfl ?_
  refine o_assign (by conv => lhs; whnf) rfl ?_
  refine WL_nil ?_
  refine W_ret ?_
  refine ret_1 rfl (by conv => lhs; whnf) ?_
  obtain rfl : k = 32 := by omega
  have hmm : markedTo bs 32 = markedL bs := by unfold markedL; rw [hlen]
  rw [hmm] at hrow
  refine ⟨hrow.rdI (k := 0) S rfl hM (fun x hx => ?_) ?_, S.nil.fin⟩
  · obtain ⟨i, rfl, hi, _⟩ := (markedTo_mem _ _ _).1 hx; unfold i64; omega
  · have := markedTo_len bs bs.length; unfold markedL; omega
theorem lf_sup : ∀ (e : E) (a1 a2 : List Bool) (lim : Int), e.good lim = true → e.lf supStep (a1, a2) = (e.mark 3 a1, e.mark 2 a2) := by
  intro e
  induction e using E.induct with
  | _ e ih =>
    intro a1 a2 lim hg
    rw [E.good_def] at hg
    simp only [Bool.and_eq_true] at hg
    have hsh : e.Shape := of_decide_eq_true hg.1.2
    have hkg : ∀ k ∈ e.kids, k.good (lim - 1) = true := (E.goods_iff _ _).1 hg.2
    have har := Shape_ar hsh
    have har2 := arityL_spec e.op
    have key : ∀ (ks : List E), (∀ k ∈ ks, ∀ (a1 a2 : List Bool) (lim : Int), k.good lim = true → k.lf supStep (a1, a2) = (k.mark 3 a1, k.mark 2 a2)) → (∀ k ∈ ks, k.good (lim - 1) = true) →
        ∀ a1 a2 : List Bool, E.lfs supStep ks (a1, a2) = (E.markAll 3 ks a1, E.markAll 2 ks a2) := by
      intro ks
      induction ks with
      | nil => intro _ _ a1 a2; simp [E.lfs, E.markAll]
      | cons k ks ih2 =>
        intro h1 h2 a1 a2
        simp only [E.lfs, E.markAll]
        rw [h1 k (by simp) _ _ (lim - 1) (h2 k (by simp)), ih2 (fun k' hk' => h1 k' (by simp [hk'])) (fun k' hk' => h2 k' (by simp [hk']))]
    rw [E.lf_def, E.mark_def, E.mark_def]
    by_cases h0 : e.kids.length = 0
    · rw [if_pos h0]; exact key e.kids ih hkg _ _
    · rw [if_neg h0, if_neg (by omega), if_neg (by omega)]; exact key e.kids ih hkg _ _
theorem support_e_fn (e : E) (M : List Nat) (w0 : World) (cs : List Value) (hR : RdE M w0 e cs) (hK : Masks M w0) (hM : ∀ g ∈ M, g < w0.heap.size) :
    Does Tryz.prog 120 #[.agg cs.toArray] w0 fun v w' => (∃ a b, v = .tuple #[a, b] ∧ RdI M w' a (e.sup 3) ∧ RdI M w' b (e.sup 2)) ∧ Below w0.heap.size w0 w' := by
  obtain ⟨A, n, c, rfl, o1, o2, o3, hn, hc, hm, hbig, hks⟩ := hR.open_
  have S := St.refl w0
  refine Does_enter Tryz.func120 rfl Tryz.ntmps120 rfl ?_
  refine W_seq ?_
  refine W_region ?_
  refine o_boxa S (by conv => lhs; whnf) rfl ?_
  intro g1 w1 S1 X1 G1
  refine o_assign (by conv => lhs; whnf) rfl ?_
  refine o_assign (by conv => lhs; whnf) rfl ?_
  refine WL_nil ?_
  refine W_seq ?_
  refine W_seq ?_
  refine W_region ?_
  refine o_loadN many_73 rfl (S1.cells 0 rfl) rfl rfl ?_
  refine o_callb S1 has_99 rfl rfl (wellFormed_fn e M _ _ (RdE.keep (S1.keep0 M) _ _ hR) (hK.keep (S1.keep0 M))) (fun h7 w7 S7 X7 => ?_) (fun h7 w7 S7 X7 => ?_)
  · refine o_not rfl rfl ?_
    refine WL_nil ?_
    refine W_else rfl ?_
    refine W_skip ?_
    refine W_seq ?_
    refine W_region ?_
    refine o_alloc S7 zv_209 rfl rfl ?_
    intro g4 w4 S4 X4 G4
    refine o_alloc S4 zv_209 rfl rfl ?_
    intro g5 w5 S5 X5 G5
    refine WL_nil ?_
    refine W_seq ?_
    refine W_region ?_
    refine o_makeFunc rfl rfl ?_
    have hM' : ∀ g ∈ [g4, g5] , g ∈ M ∨ w0.heap.size ≤ g := fun g hg => by
      simp at hg; rcases hg with rfl | rfl
      · right; have := S5.new 1 rfl; simp at this; exact this
      · right; have := S5.new 0 rfl; simp at this; exact this
    have hgood : e.good 40 = true := by unfold E.wf at h7; simp only [Bool.and_eq_true] at h7; exact h7.2
    have hne := (S5.ne 0 1 rfl rfl (by omega)).symm
    refine o_call has_118 rfl rfl (leaves_fn [g4, g5] (SInv g4 g5) supStep _ _ has_148 (fun e s w b o h1 _ h3 h4 => support1_fn g4 g5 hne e s w b o h1 h3 h4) e _ g1 0 (List.replicate 32 false, List.replicate 32 false) 40
      ⟨by simpa using ⟨(S5.ne 1 2 rfl rfl (by omega)).symm, (S5.ne 0 2 rfl rfl (by omega)).symm⟩, _, S5.cells 2 rfl, RdE.keep (S5.keep0 _) _ _ (RdE.more hM' _ _ hR)⟩
      ⟨rfl, rfl, S5.blk 1 rfl, S5.blk 0 rfl⟩ hgood) ?_
    rintro v10 w10 ⟨⟨-, -, I1, I2⟩, B10⟩
    rw [lf_sup e _ _ 40 hgood] at I1 I2
    dsimp only at I1 I2
    have S10 := S5.changed2 1 0 rfl rfl B10 I1 I2
    dsimp only [List.set] at S10
    have q1 : (e.mark 3 (List.replicate 32 false)).length = 32 := by rw [E.mark_len]; simp
    have q2 : (e.mark 2 (List.replicate 32 false)).length = 32 := by rw [E.mark_len]; simp
    have q1' : ((e.mark 3 (List.replicate 32 false)).map Value.bool).length = 32 := by simpa using q1
    have q2' : ((e.mark 2 (List.replicate 32 false)).map Value.bool).length = 32 := by simpa using q2
    refine WL_nil ?_
    refine W_seq ?_
    refine W_draw follows_mixed [0, 2] [1] [3, 4, 5] (by kernel_rfl) rfl (Cl _ _ _ _) (Cl.start S10) ?_
    refine q_loadN many_209 rfl (fun w1 hw => hw.1.cells 1 rfl) (by assumption) rfl ?_
    refine q_loadN many_209 rfl (fun w1 hw => hw.1.cells 0 rfl) (by assumption) rfl ?_
    refine QL_nil ?_
    refine BK_of ?_
    refine BKL_call (fun v w => RdI M w v (markedL (e.mark 3 (List.replicate 32 false)))) rfl rfl has_149 rfl (fun v w w' h hk => h.keep hk.of_nil) (fun w1 S1 X1 => members_fn M _ _ q1 (fun g hg => Nat.lt_of_lt_of_le (hM g hg) S1.size)) ?_
    refine BKL_nil ?_
    rintro wR5 ⟨SR5, XR5⟩
    rintro v12 r12
    dsimp only [upds]
    refine o_calln SR5 has_149 rfl rfl (members_fn M _ _ q2 (fun g hg => Nat.lt_of_lt_of_le (hM g hg) SR5.size)) ?_
    rintro v14 w14 r14 S14 X14
    replace r12 := r12.keep (X14.of_nil)
    refine o_assign (by conv => lhs; whnf) rfl ?_
    refine o_assign (by conv => lhs; whnf) rfl ?_
    refine WL_nil ?_
    refine W_ret ?_
    refine ret_2 rfl (by conv => lhs; whnf) (by conv => lhs; whnf) ?_
    refine ⟨⟨_, _, rfl, ?_⟩, S14.fin⟩
    unfold E.sup
    rw [if_pos h7, if_pos h7]; exact ⟨r12, r14⟩
  refine o_not rfl rfl ?_
  refine WL_nil ?_
  refine W_then rfl ?_
  refine W_seq ?_
  refine W_region ?_
  refine o_assign (by conv => lhs; whnf) rfl ?_
  refine o_assign (by conv => lhs; whnf) rfl ?_
  refine WL_nil ?_
  refine W_ret ?_
  refine ret_2 rfl (by conv => lhs; whnf) (by conv => lhs; whnf) ?_
  refine ⟨⟨_, _, rfl, ?_⟩, S7.fin⟩
  unfold E.sup
  rw [if_neg (by simp [h7]), if_neg (by simp [h7])]; exact ⟨rdI_nil, rdI_nil⟩
end Go.Proofs.YtgnbfmifjlnigaaGreatDoor
namespace Go.Fw
open Go.RowKit
theorem Keep.fresh {a b c : World} {g : Nat} (h : Keep [] a b) (k : Keep [g] b c) (hg : a.heap.size ≤ g) : Keep [] a c :=
  ⟨Nat.le_trans h.size k.size, fun i hi hm => (k.same i (Nat.lt_of_lt_of_le hi h.size) (fun hh => by rw [List.mem_singleton] at hh; omega)).trans (h.same i hi hm)⟩
def shQ (p : ProgD) (c : Int) : Bool := decide ((0 ≤ c ∧ c < p.cells.length) ∧ thrAt p.cells c = -1)
def ownQ (p : ProgD) (t : Int) (c : Int) : Bool := decide ((0 ≤ c ∧ c < p.cells.length) ∧ thrAt p.cells c = t)
def visQ (p : ProgD) (t : Int) (c : Int) : Bool := shQ p c || ownQ p t c
def supAll (e : E) (q : Int → Bool) : Bool := (e.sup 3).all q && (e.sup 2).all q
theorem valid_sup {cells : List CellD} {pair : Bool} {e : E} (h : e.valid cells pair = true) : ∀ x ∈ e.sup 3 ++ e.sup 2, 0 ≤ x ∧ x < cells.length := fun x hx => by
  obtain ⟨hwf, hgd, hov⟩ := valid_parts h
  rcases List.mem_append.1 hx with hx | hx
  · have h1 := (mem_sup hwf (.inr rfl) x).1 hx
    have h2 := valid_occ (.inr rfl) e 40 hgd hov x h1.2.2
    omega
  · have h1 := (mem_sup hwf (.inl rfl) x).1 hx
    have h2 := valid_occ (.inl rfl) e 40 hgd hov x h1.2.2
    omega
theorem supAll_iff {e : E} {q : Int → Bool} : supAll e q = true ↔ ∀ x ∈ e.sup 3 ++ e.sup 2, q x = true := by
  simp only [supAll, Bool.and_eq_true, List.all_eq_true, List.mem_append]
  exact ⟨fun h x hx => hx.elim (h.1 x) (h.2 x), fun h => ⟨fun x hx => h x (.inl hx), fun x hx => h x (.inr hx)⟩⟩
theorem ProgOK.thr {p : ProgD} (hp : ProgOK p) {x : Int} (h0 : 0 ≤ x) (h1 : x < p.cells.length) : -1 ≤ thrAt p.cells x := by
  obtain ⟨i, rfl⟩ := Int.eq_ofNat_of_zero_le h0
  have hi : i < p.cells.length := by omega
  have := (hp.cells _ (List.getElem_mem hi)).thread
  rw [thr_some (c := p.cells[i]) (by simp [hi])]
  omega
theorem sup_sh {p : ProgD} (hp : ProgOK p) {e : E} {pair : Bool} (hv : e.valid p.cells pair = true) (h : overT p.cells e true (-1)) : supAll e (shQ p) = true := supAll_iff.2 fun x hx => by
  have h1 := valid_sup hv x hx
  have h2 := h x hx
  have h3 := hp.thr h1.1 h1.2
  exact decide_eq_true ⟨h1, by omega⟩
theorem sup_own {p : ProgD} (hp : ProgOK p) {e : E} {pair : Bool} {t : Int} (hv : e.valid p.cells pair = true) (h : overT p.cells e false t) : supAll e (ownQ p t) = true := supAll_iff.2 fun x hx => by
  have h1 := valid_sup hv x hx
  have h2 := h x hx
  have h3 := hp.thr h1.1 h1.2
  have h4 : thrAt p.cells x ≠ -1 := fun hh => by have := h2.1 hh; cases this
  exact decide_eq_true ⟨h1, by omega⟩
theorem sup_vis {p : ProgD} (hp : ProgOK p) {e : E} {pair : Bool} {t : Int} (hv : e.valid p.cells pair = true) (h : overT p.cells e true t) : supAll e (visQ p t) = true := supAll_iff.2 fun x hx => by
  have h1 := valid_sup hv x hx
  have h2 := h x hx
  have h3 := hp.thr h1.1 h1.2
  unfold visQ shQ ownQ
  rw [Bool.or_eq_true, decide_eq_true_eq, decide_eq_true_eq]
  by_cases h5 : thrAt p.cells x = -1
  · exact .inl ⟨h1, h5⟩
  · exact .inr ⟨h1, by omega⟩
end Go.Fw
namespace Go.Proofs.YtgnbfmifjlnigaaGreatDoor
open Go.Fw Go.RowKit
theorem below_fn (i n : Int) (w0 : World) : Does Tryz.prog 86 #[.int .i64 i, .int .i64 n] w0 fun v w' => v = .bool (decide (0 ≤ i ∧ i < n)) ∧ Below w0.heap.size w0 w' := by
  have S := St.refl w0
  refine Does_enter Tryz.func86 rfl Tryz.ntmps86 rfl ?_
  refine W_seq ?_
  refine W_region ?_
  refine o_assign (v := .bool _) rfl rfl ?_
  refine WL_nil ?_
  refine W_seq ?_
  refine W_region ?_
  refine o_move (v := .int .i64 _) rfl rfl ?_
  refine o_geq rfl rfl rfl (fun h6 => ?_) (fun h6 => ?_)
  · refine o_move (v := .bool _) rfl rfl ?_
    refine WL_on rfl rfl rfl ?_
    refine o_move (v := .int .i64 _) rfl rfl ?_
    refine WL_on rfl rfl rfl ?_
    refine o_move (v := .int .i64 _) rfl rfl ?_
    refine WL_on rfl rfl rfl ?_
    refine o_lss rfl rfl rfl (fun h10 => ?_) (fun h10 => ?_)
    · refine o_pick rfl (v := .bool _) rfl rfl ?_
      refine o_assign (v := .bool _) rfl rfl ?_
      refine WL_nil ?_
      refine W_ret ?_
      refine ret_1 rfl (by conv => lhs; whnf) ?_
      exact ⟨congrArg Value.bool (by (rw [decide_eq_true]; omega)), S.fin⟩
    refine o_pick rfl (v := .bool _) rfl rfl ?_
    refine o_assign (v := .bool _) rfl rfl ?_
    refine WL_nil ?_
    refine W_ret ?_
    refine ret_1 rfl (by conv => lhs; whnf) ?_
    exact ⟨congrArg Value.bool (by (rw [decide_eq_false]; omega)), S.fin⟩
  refine o_move (v := .bool _) rfl rfl ?_
  refine WL_off rfl rfl rfl rfl ?_
  refine WL_off rfl rfl rfl rfl ?_
  refine WL_off rfl rfl rfl rfl ?_
  refine o_pick rfl (v := .bool _) rfl rfl ?_
  refine o_assign (v := .bool _) rfl rfl ?_
  refine WL_nil ?_
  refine W_ret ?_
  refine ret_1 rfl (by conv => lhs; whnf) ?_
  exact ⟨congrArg Value.bool (by (rw [decide_eq_false]; omega)), S.fin⟩
theorem labelP_fn (s : ByteArray) (w0 : World) (hs : isLabel s) : Does Tryz.prog 85 #[.string s] w0 fun v w' => v = .bool true ∧ Below w0.heap.size w0 w' := by
  have S := St.refl w0
  have h1 := hs.1
  have h2 := hs.2.1
  refine Does_enter Tryz.func85 rfl Tryz.ntmps85 rfl ?_
  refine W_seq ?_
  refine W_region ?_
  refine o_assign (v := .bool _) rfl rfl ?_
  refine WL_nil ?_
  refine W_seq ?_
  refine W_seq ?_
  refine W_region ?_
  refine o_move (by conv => lhs; whnf) rfl ?_
  refine o_lenS Tryz.underlying9 rfl rfl ?_
  refine o_lss rfl rfl rfl (fun h6 => ?_) (fun h6 => ?_)
  · exfalso; omega
  refine o_move (v := .bool _) rfl rfl ?_
  refine WL_on rfl rfl rfl ?_
  refine o_move (by conv => lhs; whnf) rfl ?_
  refine WL_on rfl rfl rfl ?_
  refine o_lenS Tryz.underlying9 rfl rfl ?_
  refine WL_on rfl rfl rfl ?_
  refine o_gtr rfl rfl rfl (fun h10 => ?_) (fun h10 => ?_)
  · exfalso; omega
  refine o_pick rfl (v := .bool _) rfl rfl ?_
  refine WL_nil ?_
  refine W_else rfl ?_
  refine W_skip ?_
  refine W_seq ?_
  refine W_seq ?_
  refine W_region ?_
  refine o_move (by conv => lhs; whnf) rfl ?_
  refine o_lenS Tryz.underlying9 rfl rfl ?_
  refine o_move (v := .int .i64 _) rfl rfl ?_
  refine WL_nil ?_
  refine W_block ?_
  refine W_loop (fun μk D ε w => D = [] ∧ ∃ k : Nat, (k + μk = (s.size)) ∧ St [] w0 w [] ∧ ε 0 = .string s ∧ ε 13 = .int .i64 s.size ∧ ε 14 = .int .i64 k) (μ := (s.size)) ⟨rfl, 0, by omega, S, rfl, rfl, rfl⟩ ?_
  rintro μk D ε w ⟨rfl, k, hk, S, e0, e13, e14⟩
  refine W_known 0 e0 ?_
  refine W_known 13 e13 ?_
  refine W_known 14 e14 ?_
  clear e0 e13 e14
  refine W_seq ?_
  refine W_region ?_
  refine o_lss rfl rfl rfl (fun h15 => ?_) (fun h15 => ?_)
  · refine WL_nil ?_
    refine W_seq ?_
    refine W_then rfl ?_
    refine W_skip ?_
    refine W_seq ?_
    refine W_block ?_
    refine W_seq ?_
    refine W_region ?_
    refine o_move (v := .int .i64 _) rfl rfl ?_
    refine o_assign (v := .int .i64 _) rfl rfl ?_
    refine WL_nil ?_
    refine W_seq ?_
    refine W_region ?_
    refine o_move (by conv => lhs; whnf) rfl ?_
    refine o_move (v := .int .i64 _) rfl rfl ?_
    have h3 := hs.2.2 k (by omega)
    refine o_indexS Tryz.underlying9 rfl rfl (by omega) (by omega) rfl ?_
    refine o_lss rfl rfl rfl (fun h20 => ?_) (fun h20 => ?_)
    · exfalso; simp only [Int.toNat_natCast] at h20; omega
    refine o_move (v := .bool _) rfl rfl ?_
    refine WL_on rfl rfl rfl ?_
    refine o_move (by conv => lhs; whnf) rfl ?_
    refine WL_on rfl rfl rfl ?_
    refine o_move (v := .int .i64 _) rfl rfl ?_
    refine WL_on rfl rfl rfl ?_
    refine o_indexS Tryz.underlying9 rfl rfl (by omega) (by omega) rfl ?_
    refine WL_on rfl rfl rfl ?_
    refine o_gtr rfl rfl rfl (fun h25 => ?_) (fun h25 => ?_)
    · exfalso; simp only [Int.toNat_natCast] at h25; omega
    refine o_pick rfl (v := .bool _) rfl rfl ?_
    refine WL_nil ?_
    refine W_else rfl ?_
    refine W_skip ?_
    refine W_region ?_
    refine o_add rfl rfl (by unfold i64; omega) rfl ?_
    refine o_move (v := .int .i64 _) rfl rfl ?_
    refine WL_nil ?_
    refine ⟨μk - 1, by omega, rfl, (k + 1), (by omega), S, rfl, rfl, rfl⟩
  refine WL_nil ?_
  refine W_seq ?_
  refine W_else rfl ?_
  refine W_exit ?_
  refine bcons_here ?_
  refine W_seq ?_
  refine W_region ?_
  refine o_assign (v := .bool _) rfl rfl ?_
  refine WL_nil ?_
  refine W_ret ?_
  refine ret_1 rfl (by conv => lhs; whnf) ?_
  exact ⟨rfl, S.fin⟩
theorem absentP_fn (e : E) (M : List Nat) (w0 : World) (cs : List Value) (hR : RdE M w0 e cs) : Does Tryz.prog 88 #[.agg cs.toArray] w0 fun v w' => v = .bool (dec e.absent) ∧ Below w0.heap.size w0 w' := by
  obtain ⟨A, n, c, rfl, hn, hbig, o1, o2, o3⟩ := hR.cells
  have S := St.refl w0
  refine Does_enter Tryz.func88 rfl Tryz.ntmps88 rfl ?_
  refine W_seq ?_
  refine W_region ?_
  refine o_boxa S (by conv => lhs; whnf) rfl ?_
  intro g1 w1 S1 X1 G1
  refine o_assign (v := .bool _) rfl rfl ?_
  refine WL_nil ?_
  refine W_seq ?_
  refine W_region ?_
  refine o_fieldAddr fa_73_0 rfl rfl ?_
  refine o_load one_3 rfl (by first | exact S1.cell 0 rfl rfl) rfl ?_
  refine o_eql rfl rfl rfl (fun h5 => ?_) (fun h5 => ?_)
  · refine o_move (v := .bool _) rfl rfl ?_
    refine WL_on rfl rfl rfl ?_
    refine o_fieldAddr fa_73_1 rfl rfl ?_
    refine WL_on rfl rfl rfl ?_
    refine o_load one_3 rfl (by first | exact S1.cell 0 rfl rfl) rfl ?_
    refine WL_on rfl rfl rfl ?_
    refine o_eql rfl rfl rfl (fun h9 => ?_) (fun h9 => ?_)
    · refine o_pick rfl (v := .bool _) rfl rfl ?_
      refine o_move (v := .bool _) rfl rfl ?_
      refine WL_on rfl rfl rfl ?_
      refine o_fieldAddr fa_73_2 rfl rfl ?_
      refine WL_on rfl rfl rfl ?_
      refine o_load one_3 rfl (by first | exact S1.cell 0 rfl rfl) rfl ?_
      refine WL_on rfl rfl rfl ?_
      refine o_eql rfl rfl rfl (fun h14 => ?_) (fun h14 => ?_)
      · refine o_pick rfl (v := .bool _) rfl rfl ?_
        refine o_move (v := .bool _) rfl rfl ?_
        refine WL_on rfl rfl rfl ?_
        refine o_fieldAddr fa_73_3 rfl rfl ?_
        refine WL_on rfl rfl rfl ?_
        refine o_load one_71 rfl (by first | exact S1.cell 0 rfl rfl) rfl ?_
        refine WL_on rfl rfl rfl ?_
        refine o_len slz_71.slT rfl rfl ?_
        refine WL_on rfl rfl rfl ?_
        refine o_eql rfl rfl rfl (fun h20 => ?_) (fun h20 => ?_)
        · refine o_pick rfl (v := .bool _) rfl rfl ?_
          refine o_assign (v := .bool _) rfl rfl ?_
          refine WL_nil ?_
          refine W_ret ?_
          refine ret_1 rfl (by conv => lhs; whnf) ?_
          exact ⟨vdec_t ⟨by omega, by omega, by omega, List.length_eq_zero_iff.1 (by omega)⟩, S1.fin⟩
        refine o_pick rfl (v := .bool _) rfl rfl ?_
        refine o_assign (v := .bool _) rfl rfl ?_
        refine WL_nil ?_
        refine W_ret ?_
        refine ret_1 rfl (by conv => lhs; whnf) ?_
        refine ⟨vdec_f (fun h => ?_), S1.fin⟩; obtain ⟨a1, a2, a3, a4⟩ := h; rw [a4] at hn; simp at hn; omega
      refine o_pick rfl (v := .bool _) rfl rfl ?_
      refine o_move (v := .bool _) rfl rfl ?_
      refine WL_off rfl rfl rfl rfl ?_
      refine WL_off rfl rfl rfl rfl ?_
      refine WL_off rfl rfl rfl rfl ?_
      refine WL_off rfl rfl rfl rfl ?_
      refine o_pick rfl (v := .bool _) rfl rfl ?_
      refine o_assign (v := .bool _) rfl rfl ?_
      refine WL_nil ?_
      refine W_ret ?_
      refine ret_1 rfl (by conv => lhs; whnf) ?_
      refine ⟨vdec_f (fun h => ?_), S1.fin⟩; obtain ⟨a1, a2, a3, a4⟩ := h; rw [a4] at hn; simp at hn; omega
    refine o_pick rfl (v := .bool _) rfl rfl ?_
    refine o_move (v := .bool _) rfl rfl ?_
    refine WL_off rfl rfl rfl rfl ?_
    refine WL_off rfl rfl rfl rfl ?_
    refine WL_off rfl rfl rfl rfl ?_
    refine o_pick rfl (v := .bool _) rfl rfl ?_
    refine o_move (v := .bool _) rfl rfl ?_
    refine WL_off rfl rfl rfl rfl ?_
    refine WL_off rfl rfl rfl rfl ?_
    refine WL_off rfl rfl rfl rfl ?_
    refine WL_off rfl rfl rfl rfl ?_
    refine o_pick rfl (v := .bool _) rfl rfl ?_
    refine o_assign (v := .bool _) rfl rfl ?_
    refine WL_nil ?_
    refine W_ret ?_
    refine ret_1 rfl (by conv => lhs; whnf) ?_
    refine ⟨vdec_f (fun h => ?_), S1.fin⟩; obtain ⟨a1, a2, a3, a4⟩ := h; rw [a4] at hn; simp at hn; omega
  refine o_move (v := .bool _) rfl rfl ?_
  refine WL_off rfl rfl rfl rfl ?_
  refine WL_off rfl rfl rfl rfl ?_
  refine WL_off rfl rfl rfl rfl ?_
  refine o_pick rfl (v := .bool _) rfl rfl ?_
  refine o_move (v := .bool _) rfl rfl ?_
  refine WL_off rfl rfl rfl rfl ?_
  refine WL_off rfl rfl rfl rfl ?_
  refine WL_off rfl rfl rfl rfl ?_
  refine o_pick rfl (v := .bool _) rfl rfl ?_
  refine o_move (v := .bool _) rfl rfl ?_
  refine WL_off rfl rfl rfl rfl ?_
  refine WL_off rfl rfl rfl rfl ?_
  refine WL_off rfl rfl rfl rfl ?_
  refine WL_off rfl rfl rfl rfl ?_
  refine o_pick rfl (v := .bool _) rfl rfl ?_
  refine o_assign (v := .bool _) rfl rfl ?_
  refine WL_nil ?_
  refine W_ret ?_
  refine ret_1 rfl (by conv => lhs; whnf) ?_
  refine ⟨vdec_f (fun h => ?_), S1.fin⟩; obtain ⟨a1, a2, a3, a4⟩ := h; rw [a4] at hn; simp at hn; omega
theorem increasing_fn (M : List Nat) (w0 : World) (v : Value) (l : List Int) (hR : RdI M w0 v l) (hr : rising l) : Does Tryz.prog 91 #[v] w0 fun v w' => v = .bool true ∧ Below w0.heap.size w0 w' := by
  obtain ⟨A, n, c, rfl⟩ := hR.form
  obtain ⟨hn, hc, hbig⟩ := hR.len
  have S := St.refl w0
  refine Does_enter Tryz.func91 rfl Tryz.ntmps91 rfl ?_
  refine W_seq ?_
  refine W_region ?_
  refine o_assign (v := .bool _) rfl rfl ?_
  refine WL_nil ?_
  refine W_seq ?_
  refine W_seq ?_
  refine W_region ?_
  refine o_assign (v := .int .i64 _) rfl rfl ?_
  refine WL_nil ?_
  refine W_block ?_
  refine W_loop (fun μk D ε w => D = [] ∧ ∃ k : Nat, (k + μk = max (l.length) 1) ∧ (1 ≤ k) ∧ St [] w0 w [] ∧ ε 0 = .slice A n c ∧ ε 3 = .int .i64 k) (μ := (max (l.length) 1 - 1)) ⟨rfl, 1, by omega, by omega, S, rfl, rfl⟩ ?_
  rintro μk D ε w ⟨rfl, k, hk, hk0, S, e0, e3⟩
  refine W_known 0 e0 ?_
  refine W_known 3 e3 ?_
  clear e0 e3
  refine W_seq ?_
  refine W_seq ?_
  refine W_region ?_
  refine o_move (v := .int .i64 _) rfl rfl ?_
  refine o_move (by conv => lhs; whnf) rfl ?_
  refine o_len slz_43.slT rfl rfl ?_
  refine o_lss rfl rfl rfl (fun h7 => ?_) (fun h7 => ?_)
  · refine WL_nil ?_
    refine W_then rfl ?_
    refine W_skip ?_
    refine W_seq ?_
    refine W_block ?_
    refine W_seq ?_
    refine W_draw follows_mixed [0, 1, 2, 3, 4, 5, 6, 7, 8, 9] [] [] (by kernel_rfl) rfl (Cl _ _ _ _) (Cl.start S) ?_
    refine q_move (by conv => lhs; whnf) rfl ?_
    refine q_move (v := .int .i64 _) rfl rfl ?_
    obtain ⟨y, b12, p12, c12, hxy, hA12, hM12, hl12, hc12, hr12⟩ := RdS.get (hR) (k) (by omega)
    obtain ⟨rfl, i112⟩ := id hr12
    refine q_indexAddr slz_43.slT rfl (by assumption) rfl (by omega) (by omega) rfl ?_
    refine q_load one_3 rfl (fun w1 hw => by exact hw.1.old (hc12 0 _ rfl)) rfl ?_
    refine q_move (by conv => lhs; whnf) rfl ?_
    refine q_move (v := .int .i64 _) rfl rfl ?_
    refine q_sub rfl rfl (by unfold i64; omega) rfl ?_
    obtain ⟨x, b17, p17, c17, hxx, hA17, hM17, hl17, hc17, hr17⟩ := RdS.get (hR) (k - 1) (by omega)
    obtain ⟨rfl, i117⟩ := id hr17
    have e17 : ((k : Int) - 1).toNat = k - 1 := by omega
    rw [← e17] at hc17
    have hxy2 := rising_at hr hxx hxy (by omega)
    refine q_indexAddr slz_43.slT rfl (by assumption) rfl (by omega) (by omega) rfl ?_
    refine q_load one_3 rfl (fun w1 hw => by exact hw.1.old (hc17 0 _ rfl)) rfl ?_
    refine q_leq rfl rfl rfl (fun h19 => ?_) (fun h19 => ?_)
    · exfalso; omega
    refine QL_nil ?_
    refine BK_of ?_
    refine BKL_nil ?_
    rintro wR4 ⟨SR4, XR4⟩
    refine WL_nil ?_
    refine W_else rfl ?_
    refine W_skip ?_
    refine W_region ?_
    refine o_move (v := .int .i64 _) rfl rfl ?_
    refine o_add rfl rfl (by unfold i64; omega) rfl ?_
    refine o_assign (v := .int .i64 _) rfl rfl ?_
    refine WL_nil ?_
    refine ⟨μk - 1, by omega, rfl, (k + 1), (by omega), (by omega), SR4, rfl, rfl⟩
  refine WL_nil ?_
  refine W_else rfl ?_
  refine W_exit ?_
  refine bcons_here ?_
  refine W_seq ?_
  refine W_region ?_
  refine o_assign (v := .bool _) rfl rfl ?_
  refine WL_nil ?_
  refine W_ret ?_
  refine ret_1 rfl (by conv => lhs; whnf) ?_
  exact ⟨rfl, S.fin⟩
theorem indexFunc_fn (M : List Nat) (w0 : World) (v vf : Value) (l : List Int) (q : Int → Bool) (hR : RdI M w0 v l) (hp : IsPred Tryz.prog M w0 vf q) :
    Does Tryz.prog 139 #[v, vf] w0 fun v w' => (∃ n, v = .int .i64 n ∧ (0 ≤ n ↔ l.any q = true)) ∧ Below w0.heap.size w0 w' := by
  obtain ⟨A, n, c, rfl⟩ := hR.form
  obtain ⟨hn, hc, hbig⟩ := hR.len
  have S := St.refl w0
  refine Does_enter Tryz.func139 rfl Tryz.ntmps139 rfl ?_
  refine W_seq ?_
  refine W_region ?_
  refine o_assign (v := .int .i64 _) rfl rfl ?_
  refine WL_nil ?_
  refine W_seq ?_
  refine W_seq ?_
  refine W_region ?_
  refine o_move (v := .slice _ _ _) rfl rfl ?_
  refine o_len slz_43.slT rfl rfl ?_
  refine o_move (v := .int .i64 _) rfl rfl ?_
  refine WL_nil ?_
  refine W_block ?_
  refine W_loop (fun μk D ε w => D = [] ∧ ∃ k : Nat, (k + μk = (l.length)) ∧ (AllTo (l) k (fun x => q x = false)) ∧ St [] w0 w [] ∧ ε 0 = .slice A n c ∧ ε 1 = vf ∧ ε 7 = .int .i64 n ∧ ε 8 = .int .i64 k) (μ := (l.length)) ⟨rfl, 0, by omega, AllTo.zero, S, rfl, rfl, rfl, rfl⟩ ?_
  rintro μk D ε w ⟨rfl, k, hk, ha, S, e0, e1, e7, e8⟩
  refine W_known 0 e0 ?_
  refine W_known 1 e1 ?_
  refine W_known 7 e7 ?_
  refine W_known 8 e8 ?_
  clear e0 e1 e7 e8
  refine W_seq ?_
  refine W_region ?_
  refine o_lss rfl rfl rfl (fun h9 => ?_) (fun h9 => ?_)
  · refine WL_nil ?_
    refine W_seq ?_
    refine W_then rfl ?_
    refine W_skip ?_
    refine W_seq ?_
    refine W_block ?_
    refine W_seq ?_
    refine W_region ?_
    refine o_move (v := .int .i64 _) rfl rfl ?_
    refine o_assign (v := .int .i64 _) rfl rfl ?_
    refine WL_nil ?_
    refine W_seq ?_
    refine W_region ?_
    refine o_move (by conv => lhs; whnf) rfl ?_
    refine o_move (v := .slice _ _ _) rfl rfl ?_
    refine o_move (v := .int .i64 _) rfl rfl ?_
    obtain ⟨x, b14, p14, c14, hxx, hA14, hM14, hl14, hc14, hr14⟩ := RdS.get (hR) (k) (by omega)
    obtain ⟨rfl, i114⟩ := id hr14
    refine o_indexAddr slz_43.slT rfl (by assumption) rfl (by omega) (by omega) rfl ?_
    refine o_load one_3 rfl (by exact S.old (hc14 0 _ rfl)) rfl ?_
    refine o_callp S (hp.keep (S.keep0 M)) rfl rfl (i114) rfl (fun h16 w16 S16 X16 => ?_) (fun h16 w16 S16 X16 => ?_)
    · refine WL_nil ?_
      refine W_then rfl ?_
      refine W_seq ?_
      refine W_region ?_
      refine o_move (v := .int .i64 _) rfl rfl ?_
      refine o_assign (v := .int .i64 _) rfl rfl ?_
      refine WL_nil ?_
      refine W_ret ?_
      refine ret_1 rfl (by conv => lhs; whnf) ?_
      exact ⟨⟨_, rfl, ⟨fun _ => List.any_eq_true.2 ⟨x, some_mem hxx, h16⟩, fun _ => by omega⟩⟩, S16.fin⟩
    refine WL_nil ?_
    refine W_else rfl ?_
    refine W_skip ?_
    refine W_region ?_
    refine o_add rfl rfl (by unfold i64; omega) rfl ?_
    refine o_move (v := .int .i64 _) rfl rfl ?_
    refine WL_nil ?_
    refine ⟨μk - 1, by omega, rfl, (k + 1), (by omega), (ha.succ hxx (h16)), S16, rfl, rfl, rfl, rfl⟩
  refine WL_nil ?_
  refine W_seq ?_
  refine W_else rfl ?_
  refine W_exit ?_
  refine bcons_here ?_
  refine W_seq ?_
  refine W_region ?_
  refine o_assign (v := .int .i64 _) rfl rfl ?_
  refine WL_nil ?_
  refine W_ret ?_
  refine ret_1 rfl (by conv => lhs; whnf) ?_
  refine ⟨⟨_, rfl, ⟨fun h => by omega, fun h => ?_⟩⟩, S.fin⟩; obtain ⟨x, h1, h2⟩ := List.any_eq_true.1 h; rw [ha.all (by omega) x h1] at h2; cases h2
theorem containsFunc_fn (M : List Nat) (w0 : World) (v vf : Value) (l : List Int) (q : Int → Bool) (hR : RdI M w0 v l) (hp : IsPred Tryz.prog M w0 vf q) :
    Does Tryz.prog 113 #[v, vf] w0 fun v w' => v = .bool (l.any q) ∧ Below w0.heap.size w0 w' := by
  obtain ⟨A, n, c, rfl⟩ := hR.form
  have S := St.refl w0
  refine Does_enter Tryz.func113 rfl Tryz.ntmps113 rfl ?_
  refine W_seq ?_
  refine W_region ?_
  refine o_assign (v := .bool _) rfl rfl ?_
  refine WL_nil ?_
  refine W_seq ?_
  refine W_region ?_
  refine o_move (by conv => lhs; whnf) rfl ?_
  refine o_move (by conv => lhs; whnf) rfl ?_
  refine o_calln S has_139 rfl rfl (indexFunc_fn M _ _ _ l q (hR.keep (S.keep0 M)) (hp.keep (S.keep0 M))) ?_
  rintro v7 w7 ⟨m, rfl, hm⟩ S7 X7
  refine o_geq rfl rfl rfl (fun h8 => ?_) (fun h8 => ?_)
  · refine o_assign (v := .bool _) rfl rfl ?_
    refine WL_nil ?_
    refine W_ret ?_
    refine ret_1 rfl (by conv => lhs; whnf) ?_
    exact ⟨by rw [hm.1 (by omega)], S7.fin⟩
  refine o_assign (v := .bool _) rfl rfl ?_
  refine WL_nil ?_
  refine W_ret ?_
  refine ret_1 rfl (by conv => lhs; whnf) ?_
  refine ⟨congrArg Value.bool ?_, S7.fin⟩; cases hq : l.any q with | false => rfl | true => exact absurd (hm.2 hq) (by omega)
theorem within1_fn (g : Nat) (c : Int) (M : List Nat) (w0 : World) (vf : Value) (q : Int → Bool) (hc : w0.cell? ⟨g, 0, none⟩ = some vf) (hp : IsPred Tryz.prog M w0 vf q) (hi : i64 c) :
    Does Tryz.prog 114 #[.int .i64 c, .pointer (some ⟨g, 0, none⟩)] w0 fun v w' => v = .bool (!q c) ∧ Below w0.heap.size w0 w' := by
  have S := St.refl w0
  refine Does_enter Tryz.func114 rfl Tryz.ntmps114 rfl ?_
  refine W_seq ?_
  refine W_region ?_
  refine o_assign (v := .bool _) rfl rfl ?_
  refine WL_nil ?_
  refine W_seq ?_
  refine W_region ?_
  refine o_load one_160 rfl (by first | exact S.old hc) rfl ?_
  refine o_move (v := .int .i64 _) rfl rfl ?_
  refine o_callp S (hp.keep (S.keep0 M)) rfl rfl (hi) rfl (fun h6 w6 S6 X6 => ?_) (fun h6 w6 S6 X6 => ?_)
  · refine o_not rfl rfl ?_
    refine o_assign (v := .bool _) rfl rfl ?_
    refine WL_nil ?_
    refine W_ret ?_
    refine ret_1 rfl (by conv => lhs; whnf) ?_
    exact ⟨by rw [h6], S6.fin⟩
  refine o_not rfl rfl ?_
  refine o_assign (v := .bool _) rfl rfl ?_
  refine WL_nil ?_
  refine W_ret ?_
  refine ret_1 rfl (by conv => lhs; whnf) ?_
  exact ⟨by rw [h6], S6.fin⟩
theorem fresh_not {M : List Nat} {w : World} {g : Nat} (hM : ∀ g ∈ M, g < w.heap.size) (h : w.heap.size ≤ g ∨ g ∈ ([] : List Nat)) : g ∉ M := fun hh => by
  rcases h with h | h
  · have := hM g hh; omega
  · cases h
theorem within_fn (M : List Nat) (w0 : World) (v vf : Value) (l : List Int) (q : Int → Bool) (hR : RdI M w0 v l) (hp : IsPred Tryz.prog M w0 vf q) (hM : ∀ g ∈ M, g < w0.heap.size) :
    Does Tryz.prog 92 #[v, vf] w0 fun v w' => v = .bool (l.all q) ∧ Below w0.heap.size w0 w' := by
  obtain ⟨A, n, c, rfl⟩ := hR.form
  obtain ⟨f, first, caps, rfl, hH, hf⟩ := id hp
  have S := St.refl w0
  refine Does_enter Tryz.func92 rfl Tryz.ntmps92 rfl ?_
  refine W_seq ?_
  refine W_region ?_
  refine o_box1 S (v := .func _ _ _) rfl rfl rfl ?_
  intro g3 w3 S3 X3 G3
  refine o_assign (v := .bool _) rfl rfl ?_
  refine WL_nil ?_
  refine W_seq ?_
  refine W_region ?_
  refine o_move (by conv => lhs; whnf) rfl ?_
  refine o_makeFunc rfl rfl ?_
  refine o_callb S3 has_113 rfl rfl (containsFunc_fn M _ _ _ l (fun c => !q c) (hR.keep (S3.keep0 M)) ⟨114, #[], _, rfl, has_114, fun w' hk c hc => within1_fn g3 c M w' _ q (hk.cell (a := ⟨g3, 0, none⟩) (fresh_not hM (S3.new 0 rfl)) (S3.cell 0 rfl rfl)) (hp.keep ((S3.keep0 M).trans hk)) hc⟩) (fun h7 w7 S7 X7 => ?_) (fun h7 w7 S7 X7 => ?_)
  · refine o_not rfl rfl ?_
    refine o_assign (v := .bool _) rfl rfl ?_
    refine WL_nil ?_
    refine W_ret ?_
    refine ret_1 rfl (by conv => lhs; whnf) ?_
    refine ⟨congrArg Value.bool ?_, S7.fin⟩
    have h8 : l.all q = !(l.any fun c => !q c) := by simp [List.all_eq_not_any_not]
    rw [h8, h7] <;> rfl
  refine o_not rfl rfl ?_
  refine o_assign (v := .bool _) rfl rfl ?_
  refine WL_nil ?_
  refine W_ret ?_
  refine ret_1 rfl (by conv => lhs; whnf) ?_
  refine ⟨congrArg Value.bool ?_, S7.fin⟩
  have h8 : l.all q = !(l.any fun c => !q c) := by simp [List.all_eq_not_any_not]
  rw [h8, h7] <;> rfl
theorem sharedP_fn (p : ProgD) (M : List Nat) (w0 : World) (cs : List Value) (c : Int) (hP : RdProg M w0 p cs) :
    Does Tryz.prog 90 #[.agg cs.toArray, .int .i64 c] w0 fun v w' => v = .bool (shQ p c) ∧ Below w0.heap.size w0 w' := by
  obtain ⟨Ac, nc, cc, Am, nm, cm, Al, nl, cl, At, nt, ct, rfl, hC, hMo, hLk, hTh, hnc, hnm, hnl, hnt, bc, bm, bl, bt⟩ := hP.open_
  have S := St.refl w0
  refine Does_enter Tryz.func90 rfl Tryz.ntmps90 rfl ?_
  refine W_seq ?_
  refine W_region ?_
  refine o_boxa S (by conv => lhs; whnf) rfl ?_
  intro g2 w2 S2 X2 G2
  refine o_assign (v := .bool _) rfl rfl ?_
  refine WL_nil ?_
  refine W_seq ?_
  refine W_region ?_
  refine o_move (v := .int .i64 _) rfl rfl ?_
  refine o_fieldAddr fa_132_0 rfl rfl ?_
  refine o_fieldAddr fa_36_0 rfl rfl ?_
  refine o_load one_31 rfl (by first | exact S2.cell 0 rfl rfl) rfl ?_
  refine o_len slz_31.slT rfl rfl ?_
  refine o_callb S2 has_86 rfl rfl (below_fn _ _ _) (fun h10 w10 S10 X10 => ?_) (fun h10 w10 S10 X10 => ?_)
  · refine o_move (v := .bool _) rfl rfl ?_
    refine WL_on rfl rfl rfl ?_
    refine o_fieldAddr fa_132_0 rfl rfl ?_
    refine WL_on rfl rfl rfl ?_
    refine o_fieldAddr fa_36_0 rfl rfl ?_
    refine WL_on rfl rfl rfl ?_
    refine o_load one_31 rfl (by first | exact S10.cell 0 rfl rfl) rfl ?_
    refine WL_on rfl rfl rfl ?_
    refine o_move (v := .int .i64 _) rfl rfl ?_
    refine WL_on rfl rfl rfl ?_
    have h11 := of_decide_eq_true h10
    obtain ⟨x, b16, p16, c16, hxx, hA16, hM16, hl16, hc16, hr16⟩ := RdS.get (hC) (c.toNat) (by omega)
    obtain ⟨rfl, i116, i216, i316, i416⟩ := RCell.open_ hr16
    refine o_indexAddr slz_31.slT rfl (by assumption) rfl (by omega) (by omega) rfl ?_
    refine WL_on rfl rfl rfl ?_
    refine o_fieldAddr fa_90_3 rfl rfl ?_
    refine WL_on rfl rfl rfl ?_
    refine o_load one_3 rfl (by exact S10.old (hc16 _ _ rfl)) rfl ?_
    refine WL_on rfl rfl rfl ?_
    refine o_eql rfl rfl rfl (fun h19 => ?_) (fun h19 => ?_)
    · refine o_pick rfl (v := .bool _) rfl rfl ?_
      refine o_assign (v := .bool _) rfl rfl ?_
      refine WL_nil ?_
      refine W_ret ?_
      refine ret_1 rfl (by conv => lhs; whnf) ?_
      refine ⟨congrArg Value.bool ?_, S10.fin⟩
      unfold shQ
      rw [decide_eq_true]; exact ⟨by omega, by rw [thr_some hxx]; omega⟩
    refine o_pick rfl (v := .bool _) rfl rfl ?_
    refine o_assign (v := .bool _) rfl rfl ?_
    refine WL_nil ?_
    refine W_ret ?_
    refine ret_1 rfl (by conv => lhs; whnf) ?_
    refine ⟨congrArg Value.bool ?_, S10.fin⟩
    unfold shQ
    rw [decide_eq_false]; intro hh; rw [thr_some hxx] at hh; omega
  refine o_move (v := .bool _) rfl rfl ?_
  refine WL_off rfl rfl rfl rfl ?_
  refine WL_off rfl rfl rfl rfl ?_
  refine WL_off rfl rfl rfl rfl ?_
  refine WL_off rfl rfl rfl rfl ?_
  refine WL_off rfl rfl rfl rfl ?_
  refine WL_off rfl rfl rfl rfl ?_
  refine WL_off rfl rfl rfl rfl ?_
  refine WL_off rfl rfl rfl rfl ?_
  refine o_pick rfl (v := .bool _) rfl rfl ?_
  refine o_assign (v := .bool _) rfl rfl ?_
  refine WL_nil ?_
  refine W_ret ?_
  refine ret_1 rfl (by conv => lhs; whnf) ?_
  refine ⟨congrArg Value.bool ?_, S10.fin⟩
  unfold shQ
  rw [decide_eq_false]; intro hh; have := of_decide_eq_false h10; omega
theorem shared_pred {p : ProgD} {M : List Nat} {w : World} {cs : List Value} (hP : RdProg M w p cs) : IsPred Tryz.prog M w (.func (.func 90) #[.agg cs.toArray] #[]) (shQ p) :=
  ⟨_, _, _, rfl, has_90, fun w' hk c _ => sharedP_fn p M w' cs c (hP.keep hk)⟩
theorem own1_fn (p : ProgD) (t c : Int) (g g' : Nat) (M : List Nat) (w0 : World) (cs : List Value) (hP : RdProg M w0 p cs) (hg : Cells w0 g 0 cs) (hg' : w0.cell? ⟨g', 0, none⟩ = some (.int .i64 t)) :
    Does Tryz.prog 140 #[.int .i64 c, .pointer (some ⟨g, 0, none⟩), .pointer (some ⟨g', 0, none⟩)] w0 fun v w' => v = .bool (ownQ p t c) ∧ Below w0.heap.size w0 w' := by
  obtain ⟨Ac, nc, cc, Am, nm, cm, Al, nl, cl, At, nt, ct, rfl, hC, hMo, hLk, hTh, hnc, hnm, hnl, hnt, bc, bm, bl, bt⟩ := hP.open_
  have S := St.refl w0
  refine Does_enter Tryz.func140 rfl Tryz.ntmps140 rfl ?_
  refine W_seq ?_
  refine W_region ?_
  refine o_assign (v := .bool _) rfl rfl ?_
  refine WL_nil ?_
  refine W_seq ?_
  refine W_draw follows_mixed [0, 1, 2, 3, 4, 5, 6, 7, 8, 9, 10, 11, 12, 13, 14, 15, 16, 17] [] [] (by kernel_rfl) rfl (Cl _ _ _ _) (Cl.start S) ?_
  refine q_move (v := .int .i64 _) rfl rfl ?_
  refine q_fieldAddr fa_132_0 rfl rfl ?_
  refine q_fieldAddr fa_36_0 rfl rfl ?_
  refine q_load one_31 rfl (fun w1 hw => by exact hw.1.old (hg _ _ rfl)) rfl ?_
  refine q_len slz_31.slT rfl rfl ?_
  refine q_callb has_86 rfl rfl (fun w1 S1 X1 => below_fn _ _ _) (fun h10 => ?_) (fun h10 => ?_)
  · refine q_move (v := .bool _) rfl rfl ?_
    refine QL_on rfl rfl ?_
    refine q_fieldAddr fa_132_0 rfl rfl ?_
    refine QL_on rfl rfl ?_
    refine q_fieldAddr fa_36_0 rfl rfl ?_
    refine QL_on rfl rfl ?_
    refine q_load one_31 rfl (fun w1 hw => by exact hw.1.old (hg _ _ rfl)) rfl ?_
    refine QL_on rfl rfl ?_
    refine q_move (v := .int .i64 _) rfl rfl ?_
    refine QL_on rfl rfl ?_
    have h11 := of_decide_eq_true h10
    obtain ⟨x, b16, p16, c16, hxx, hA16, hM16, hl16, hc16, hr16⟩ := RdS.get (hC) (c.toNat) (by omega)
    obtain ⟨rfl, i116, i216, i316, i416⟩ := RCell.open_ hr16
    refine q_indexAddr slz_31.slT rfl (by assumption) rfl (by omega) (by omega) rfl ?_
    refine QL_on rfl rfl ?_
    refine q_fieldAddr fa_90_3 rfl rfl ?_
    refine QL_on rfl rfl ?_
    refine q_load one_3 rfl (fun w1 hw => by exact hw.1.old (hc16 _ _ rfl)) rfl ?_
    refine QL_on rfl rfl ?_
    refine q_load one_3 rfl (fun w1 hw => by exact hw.1.old hg') rfl ?_
    refine QL_on rfl rfl ?_
    refine q_eql rfl rfl rfl (fun h20 => ?_) (fun h20 => ?_)
    · refine q_pick rfl (v := .bool _) rfl rfl ?_
      refine q_assign (v := .bool _) rfl rfl ?_
      refine QL_nil ?_
      refine BK_of ?_
      refine BKL_nil ?_
      rintro wR1 ⟨SR1, XR1⟩
      refine WL_nil ?_
      refine W_ret ?_
      refine ret_1 rfl (by conv => lhs; whnf) ?_
      refine ⟨congrArg Value.bool ?_, SR1.fin⟩
      unfold ownQ
      rw [decide_eq_true]; exact ⟨by omega, by rw [thr_some hxx]; omega⟩
    refine q_pick rfl (v := .bool _) rfl rfl ?_
    refine q_assign (v := .bool _) rfl rfl ?_
    refine QL_nil ?_
    refine BK_of ?_
    refine BKL_nil ?_
    rintro wR1 ⟨SR1, XR1⟩
    refine WL_nil ?_
    refine W_ret ?_
    refine ret_1 rfl (by conv => lhs; whnf) ?_
    refine ⟨congrArg Value.bool ?_, SR1.fin⟩
    unfold ownQ
    rw [decide_eq_false]; intro hh; rw [thr_some hxx] at hh; omega
  refine q_move (v := .bool _) rfl rfl ?_
  refine QL_off rfl rfl rfl ?_
  refine QL_off rfl rfl rfl ?_
  refine QL_off rfl rfl rfl ?_
  refine QL_off rfl rfl rfl ?_
  refine QL_off rfl rfl rfl ?_
  refine QL_off rfl rfl rfl ?_
  refine QL_off rfl rfl rfl ?_
  refine QL_off rfl rfl rfl ?_
  refine QL_off rfl rfl rfl ?_
  refine q_pick rfl (v := .bool _) rfl rfl ?_
  refine q_assign (v := .bool _) rfl rfl ?_
  refine QL_nil ?_
  refine BK_of ?_
  refine BKL_nil ?_
  rintro wR1 ⟨SR1, XR1⟩
  refine WL_nil ?_
  refine W_ret ?_
  refine ret_1 rfl (by conv => lhs; whnf) ?_
  refine ⟨congrArg Value.bool ?_, SR1.fin⟩
  unfold ownQ
  rw [decide_eq_false]; intro hh; have := of_decide_eq_false h10; omega
theorem ownP_fn (p : ProgD) (t : Int) (M : List Nat) (w0 : World) (cs : List Value) (hP : RdProg M w0 p cs) (hM : ∀ g ∈ M, g < w0.heap.size) :
    Does Tryz.prog 115 #[.agg cs.toArray, .int .i64 t] w0 fun v w' => IsPred Tryz.prog M w' v (ownQ p t) ∧ Below w0.heap.size w0 w' := by
  obtain ⟨Ac, nc, cc, Am, nm, cm, Al, nl, cl, At, nt, ct, rfl, hC, hMo, hLk, hTh, hnc, hnm, hnl, hnt, bc, bm, bl, bt⟩ := hP.open_
  have S := St.refl w0
  refine Does_enter Tryz.func115 rfl Tryz.ntmps115 rfl ?_
  refine W_seq ?_
  refine W_region ?_
  refine o_boxa S (by conv => lhs; whnf) rfl ?_
  intro g2 w2 S2 X2 G2
  refine o_box1 S2 (v := .int .i64 _) rfl rfl rfl ?_
  intro g3 w3 S3 X3 G3
  refine o_assign (by conv => lhs; whnf) rfl ?_
  refine WL_nil ?_
  refine W_seq ?_
  refine W_region ?_
  refine o_makeFunc rfl rfl ?_
  refine o_assign (by conv => lhs; whnf) rfl ?_
  refine WL_nil ?_
  refine W_ret ?_
  refine ret_1 rfl (by conv => lhs; whnf) ?_
  exact ⟨⟨_, _, _, rfl, has_140, fun w' hk c _ => own1_fn p t c g2 g3 M w' _ (hP.keep ((S3.keep0 M).trans hk)) ((S3.cells 1 rfl).keep hk (fresh_not hM (S3.new 1 rfl))) (hk.cell (a := ⟨g3, 0, none⟩) (fresh_not hM (S3.new 0 rfl)) (S3.cell 0 rfl rfl))⟩, S3.fin⟩
theorem visible1_fn (p : ProgD) (t c : Int) (g g' : Nat) (M : List Nat) (w0 : World) (cs : List Value) (vf : Value) (hP : RdProg M w0 p cs) (hg : Cells w0 g 0 cs) (hg' : w0.cell? ⟨g', 0, none⟩ = some vf) (hp : IsPred Tryz.prog M w0 vf (ownQ p t)) (hc : i64 c) :
    Does Tryz.prog 116 #[.int .i64 c, .pointer (some ⟨g, 0, none⟩), .pointer (some ⟨g', 0, none⟩)] w0 fun v w' => v = .bool (visQ p t c) ∧ Below w0.heap.size w0 w' := by
  obtain ⟨Ac, nc, cc, Am, nm, cm, Al, nl, cl, At, nt, ct, rfl, hC, hMo, hLk, hTh, hnc, hnm, hnl, hnt, bc, bm, bl, bt⟩ := hP.open_
  have S := St.refl w0
  refine Does_enter Tryz.func116 rfl Tryz.ntmps116 rfl ?_
  refine W_seq ?_
  refine W_region ?_
  refine o_assign (v := .bool _) rfl rfl ?_
  refine WL_nil ?_
  refine W_seq ?_
  refine W_region ?_
  first | refine o_loadN many_132 rfl ((fun j v hj => S.old (hg j v hj))) (by rfl) rfl ?_
  refine o_move (v := .int .i64 _) rfl rfl ?_
  refine o_callb S has_90 rfl rfl (sharedP_fn p M _ _ _ (hP.keep (S.keep0 M))) (fun h7 w7 S7 X7 => ?_) (fun h7 w7 S7 X7 => ?_)
  · refine o_move (v := .bool _) rfl rfl ?_
    refine WL_off rfl rfl rfl rfl ?_
    refine WL_off rfl rfl rfl rfl ?_
    refine WL_off rfl rfl rfl rfl ?_
    refine o_pick rfl (v := .bool _) rfl rfl ?_
    refine o_assign (v := .bool _) rfl rfl ?_
    refine WL_nil ?_
    refine W_ret ?_
    refine ret_1 rfl (by conv => lhs; whnf) ?_
    refine ⟨congrArg Value.bool ?_, S7.fin⟩
    unfold visQ
    rw [h7] <;> rfl
  refine o_move (v := .bool _) rfl rfl ?_
  refine WL_on rfl rfl rfl ?_
  refine o_load one_160 rfl (by first | exact S7.old hg') rfl ?_
  refine WL_on rfl rfl rfl ?_
  refine o_move (v := .int .i64 _) rfl rfl ?_
  refine WL_on rfl rfl rfl ?_
  refine o_callp S7 (hp.keep (S7.keep0 M)) rfl rfl (hc) rfl (fun h11 w11 S11 X11 => ?_) (fun h11 w11 S11 X11 => ?_)
  · refine o_pick rfl (v := .bool _) rfl rfl ?_
    refine o_assign (v := .bool _) rfl rfl ?_
    refine WL_nil ?_
    refine W_ret ?_
    refine ret_1 rfl (by conv => lhs; whnf) ?_
    refine ⟨congrArg Value.bool ?_, S11.fin⟩
    unfold visQ
    rw [h7, h11] <;> rfl
  refine o_pick rfl (v := .bool _) rfl rfl ?_
  refine o_assign (v := .bool _) rfl rfl ?_
  refine WL_nil ?_
  refine W_ret ?_
  refine ret_1 rfl (by conv => lhs; whnf) ?_
  refine ⟨congrArg Value.bool ?_, S11.fin⟩
  unfold visQ
  rw [h7, h11] <;> rfl
theorem visibleP_fn (p : ProgD) (t : Int) (M : List Nat) (w0 : World) (cs : List Value) (hP : RdProg M w0 p cs) (hM : ∀ g ∈ M, g < w0.heap.size) :
    Does Tryz.prog 94 #[.agg cs.toArray, .int .i64 t] w0 fun v w' => IsPred Tryz.prog M w' v (visQ p t) ∧ Below w0.heap.size w0 w' := by
  obtain ⟨Ac, nc, cc, Am, nm, cm, Al, nl, cl, At, nt, ct, rfl, hC, hMo, hLk, hTh, hnc, hnm, hnl, hnt, bc, bm, bl, bt⟩ := hP.open_
  have S := St.refl w0
  refine Does_enter Tryz.func94 rfl Tryz.ntmps94 rfl ?_
  refine W_seq ?_
  refine W_region ?_
  refine o_boxa S (by conv => lhs; whnf) rfl ?_
  intro g2 w2 S2 X2 G2
  refine o_assign (by conv => lhs; whnf) rfl ?_
  refine WL_nil ?_
  refine W_seq ?_
  refine W_region ?_
  first | refine o_loadN many_132 rfl (S2.cells 0 rfl) rfl rfl ?_
  refine o_move (v := .int .i64 _) rfl rfl ?_
  refine o_calln S2 has_115 rfl rfl (ownP_fn p t M _ _ (hP.keep (S2.keep0 M)) (fun g hg => by have := hM g hg; have := S2.size; omega)) ?_
  rintro v8 w8 hp8 S8 X8
  obtain ⟨f, first, caps, rfl, hH, hf⟩ := id hp8
  refine o_alloc S8 zv_160 rfl rfl ?_
  intro g5 w5 S5 X5 G5
  refine o_store (kk := 0) S5 sz_160 rfl (by conv => lhs; whnf) rfl rfl (by exact Nat.le_of_ble_eq_true rfl) ?_
  intro w1_4 S1_4 X1_4
  refine WL_nil ?_
  refine W_seq ?_
  refine W_region ?_
  refine o_makeFunc rfl rfl ?_
  refine o_assign (by conv => lhs; whnf) rfl ?_
  refine WL_nil ?_
  refine W_ret ?_
  refine ret_1 rfl (by conv => lhs; whnf) ?_
  exact ⟨⟨_, _, _, rfl, has_116, fun w' hk c hc => visible1_fn p t c g2 g5 M w' _ _ (hP.keep ((S1_4.keep0 M).trans hk)) ((S1_4.cells 1 rfl).keep hk (fresh_not hM (S1_4.new 1 rfl))) (hk.cell (a := ⟨g5, 0, none⟩) (fresh_not hM (S1_4.new 0 rfl)) (S1_4.cell 0 rfl rfl)) (hp8.keep ((Keep.fresh X5 X1_4 G5).of_nil.trans hk)) hc⟩, S1_4.fin⟩
theorem overP_fn (e : E) (M : List Nat) (w0 : World) (es : List Value) (vf : Value) (q : Int → Bool) (hR : RdE M w0 e es) (hp : IsPred Tryz.prog M w0 vf q) (hK : Masks M w0) (hM : ∀ g ∈ M, g < w0.heap.size) :
    Does Tryz.prog 98 #[.agg es.toArray, vf] w0 fun v w' => v = .bool (supAll e q) ∧ Below w0.heap.size w0 w' := by
  obtain ⟨Ae, ne, ce, rfl, hne, hbe, o1, o2, o3⟩ := hR.cells
  obtain ⟨f, first, caps, rfl, hH, hf⟩ := id hp
  have S := St.refl w0
  have hM' : ∀ w' : World, w0.heap.size ≤ w'.heap.size → ∀ g ∈ M, g < w'.heap.size := fun w' h g hg => by have := hM g hg; omega
  refine Does_enter Tryz.func98 rfl Tryz.ntmps98 rfl ?_
  refine W_seq ?_
  refine W_region ?_
  refine o_boxa S (by conv => lhs; whnf) rfl ?_
  intro g2 w2 S2 X2 G2
  refine o_assign (v := .bool _) rfl rfl ?_
  refine WL_nil ?_
  refine W_seq ?_
  refine W_region ?_
  first | refine o_loadN many_73 rfl (S2.cells 0 rfl) rfl rfl ?_
  refine o_calln S2 has_120 rfl rfl (support_e_fn e M _ _ (RdE.keep (S2.keep0 M) _ _ hR) (hK.keep (S2.keep0 M)) (hM' _ S2.size)) ?_
  rintro v9 w9 ⟨va, vb, rfl, ra, rb⟩ S9 X9
  obtain ⟨Aa, na, ca, rfl⟩ := ra.form
  obtain ⟨Ab, nb, cb, rfl⟩ := rb.form
  refine o_move (by conv => lhs; whnf) rfl ?_
  refine o_extract rfl rfl rfl ?_
  refine o_extract rfl rfl rfl ?_
  refine o_assign (by conv => lhs; whnf) rfl ?_
  refine o_assign (by conv => lhs; whnf) rfl ?_
  refine WL_nil ?_
  refine W_seq ?_
  refine W_region ?_
  refine o_move (by conv => lhs; whnf) rfl ?_
  refine o_move (by conv => lhs; whnf) rfl ?_
  refine o_callb S9 has_92 rfl rfl (within_fn M _ _ _ _ q ra (hp.keep (S9.keep0 M)) (hM' _ S9.size)) (fun h14 w14 S14 X14 => ?_) (fun h14 w14 S14 X14 => ?_)
  · replace ra := ra.keep (X14.of_nil)
    replace rb := rb.keep (X14.of_nil)
    refine o_move (v := .bool _) rfl rfl ?_
    refine WL_on rfl rfl rfl ?_
    refine o_move (by conv => lhs; whnf) rfl ?_
    refine WL_on rfl rfl rfl ?_
    refine o_move (by conv => lhs; whnf) rfl ?_
    refine WL_on rfl rfl rfl ?_
    refine o_callb S14 has_92 rfl rfl (within_fn M _ _ _ _ q rb (hp.keep (S14.keep0 M)) (hM' _ S14.size)) (fun h18 w18 S18 X18 => ?_) (fun h18 w18 S18 X18 => ?_)
    · replace ra := ra.keep (X18.of_nil)
      replace rb := rb.keep (X18.of_nil)
      refine o_pick rfl (v := .bool _) rfl rfl ?_
      refine o_assign (v := .bool _) rfl rfl ?_
      refine WL_nil ?_
      refine W_ret ?_
      refine ret_1 rfl (by conv => lhs; whnf) ?_
      refine ⟨congrArg Value.bool ?_, S18.fin⟩
      unfold supAll
      rw [h14, h18] <;> rfl
    replace ra := ra.keep (X18.of_nil)
    replace rb := rb.keep (X18.of_nil)
    refine o_pick rfl (v := .bool _) rfl rfl ?_
    refine o_assign (v := .bool _) rfl rfl ?_
    refine WL_nil ?_
    refine W_ret ?_
    refine ret_1 rfl (by conv => lhs; whnf) ?_
    refine ⟨congrArg Value.bool ?_, S18.fin⟩
    unfold supAll
    rw [h14, h18] <;> rfl
  replace ra := ra.keep (X14.of_nil)
  replace rb := rb.keep (X14.of_nil)
  refine o_move (v := .bool _) rfl rfl ?_
  refine WL_off rfl rfl rfl rfl ?_
  refine WL_off rfl rfl rfl rfl ?_
  refine WL_off rfl rfl rfl rfl ?_
  refine o_pick rfl (v := .bool _) rfl rfl ?_
  refine o_assign (v := .bool _) rfl rfl ?_
  refine WL_nil ?_
  refine W_ret ?_
  refine ret_1 rfl (by conv => lhs; whnf) ?_
  refine ⟨congrArg Value.bool ?_, S14.fin⟩
  unfold supAll
  rw [h14] <;> rfl
theorem bitP_fn (p : ProgD) (e : E) (M : List Nat) (w0 : World) (cs es : List Value) (pair : Bool) (vf : Value) (q : Int → Bool) (hP : RdProg M w0 p cs) (hR : RdE M w0 e es) (hp : IsPred Tryz.prog M w0 vf q) (hK : Masks M w0) (hM : ∀ g ∈ M, g < w0.heap.size)
    (hw : e.w = 1) (hv : e.valid p.cells pair = true) (hs : supAll e q = true) :
    Does Tryz.prog 89 #[.agg cs.toArray, .agg es.toArray, .bool pair, vf] w0 fun v w' => v = .bool true ∧ Below w0.heap.size w0 w' := by
  obtain ⟨Ac, nc, cc, Am, nm, cm, Al, nl, cl, At, nt, ct, rfl, hC, hMo, hLk, hTh, hnc, hnm, hnl, hnt, bc, bm, bl, bt⟩ := hP.open_
  obtain ⟨Ae, ne, ce, rfl, hne, hbe, o1, o2, o3⟩ := hR.cells
  obtain ⟨f, first, caps, rfl, hH, hf⟩ := id hp
  have S := St.refl w0
  have hM' : ∀ w' : World, w0.heap.size ≤ w'.heap.size → ∀ g ∈ M, g < w'.heap.size := fun w' h g hg => by have := hM g hg; omega
  refine Does_enter Tryz.func89 rfl Tryz.ntmps89 rfl ?_
  refine W_seq ?_
  refine W_region ?_
  refine o_boxa S (by conv => lhs; whnf) rfl ?_
  intro g4 w4 S4 X4 G4
  refine o_boxa S4 (by conv => lhs; whnf) rfl ?_
  intro g5 w5 S5 X5 G5
  refine o_assign (v := .bool _) rfl rfl ?_
  refine WL_nil ?_
  refine W_seq ?_
  refine W_region ?_
  refine o_fieldAddr fa_73_1 rfl rfl ?_
  refine o_load one_3 rfl (by exact S5.cell 0 rfl rfl) rfl ?_
  refine o_eql rfl rfl rfl (fun h11 => ?_) (fun h11 => ?_)
  · refine o_move (v := .bool _) rfl rfl ?_
    refine WL_on rfl rfl rfl ?_
    refine o_loadN many_73 rfl (S5.cells 0 rfl) rfl rfl ?_
    refine WL_on rfl rfl rfl ?_
    refine o_fieldAddr fa_132_0 rfl rfl ?_
    refine WL_on rfl rfl rfl ?_
    refine o_fieldAddr fa_36_0 rfl rfl ?_
    refine WL_on rfl rfl rfl ?_
    refine o_load one_31 rfl (by exact S5.cell 1 rfl rfl) rfl ?_
    refine WL_on rfl rfl rfl ?_
    refine o_move (v := .bool _) rfl rfl ?_
    refine WL_on rfl rfl rfl ?_
    refine o_callr S5 has_97 rfl rfl (hv ▸ valid_e_fn e M _ _ _ p.cells pair (RdE.keep (S5.keep0 M) _ _ hR) (hC.keep (S5.keep0 M)) (hK.keep (S5.keep0 M))) ?_
    intro w18 S18 X18
    refine o_pick rfl (v := .bool _) rfl rfl ?_
    refine o_move (v := .bool _) rfl rfl ?_
    refine WL_on rfl rfl rfl ?_
    refine o_loadN many_73 rfl (S18.cells 0 rfl) rfl rfl ?_
    refine WL_on rfl rfl rfl ?_
    refine o_move (by conv => lhs; whnf) rfl ?_
    refine WL_on rfl rfl rfl ?_
    refine o_callr S18 has_98 rfl rfl (hs ▸ overP_fn e M _ _ _ q (RdE.keep (S18.keep0 M) _ _ hR) (hp.keep (S18.keep0 M)) (hK.keep (S18.keep0 M)) (hM' _ S18.size)) ?_
    intro w23 S23 X23
    refine o_pick rfl (v := .bool _) rfl rfl ?_
    refine o_assign (v := .bool _) rfl rfl ?_
    refine WL_nil ?_
    refine W_ret ?_
    refine ret_1 rfl (by conv => lhs; whnf) ?_
    exact ⟨rfl, S23.fin⟩
  exfalso; omega
theorem ghostP_fn (p : ProgD) (M : List Nat) (w0 : World) (cs : List Value) (c : Int) (hP : RdProg M w0 p cs) (h0 : 0 ≤ c) (h1 : c < p.cells.length) :
    Does Tryz.prog 161 #[.agg cs.toArray, .int .i64 c] w0 fun v w' => v = .bool (ghAt p.cells c) ∧ Below w0.heap.size w0 w' := by
  obtain ⟨Ac, nc, cc, Am, nm, cm, Al, nl, cl, At, nt, ct, rfl, hC, hMo, hLk, hTh, hnc, hnm, hnl, hnt, bc, bm, bl, bt⟩ := hP.open_
  have S := St.refl w0
  refine Does_enter Tryz.func161 rfl Tryz.ntmps161 rfl ?_
  refine W_seq ?_
  refine W_region ?_
  refine o_boxa S (by conv => lhs; whnf) rfl ?_
  intro g2 w2 S2 X2 G2
  refine o_assign (v := .bool _) rfl rfl ?_
  refine WL_nil ?_
  refine W_seq ?_
  refine W_region ?_
  refine o_fieldAddr fa_132_0 rfl rfl ?_
  refine o_fieldAddr fa_36_0 rfl rfl ?_
  refine o_load one_31 rfl (by first | exact S2.cell 0 rfl rfl) rfl ?_
  refine o_move (v := .int .i64 _) rfl rfl ?_
  obtain ⟨x, b9, p9, c9, hxx, hA9, hM9, hl9, hc9, hr9⟩ := RdS.get (hC) (c.toNat) (by omega)
  obtain ⟨rfl, i19, i29, i39, i49⟩ := RCell.open_ hr9
  refine o_indexAddr slz_31.slT rfl (by assumption) rfl (by omega) (by omega) rfl ?_
  refine o_fieldAddr fa_90_4 rfl rfl ?_
  refine o_load one_4 rfl (by exact S2.old (hc9 _ _ rfl)) rfl ?_
  refine o_assign (v := .bool _) rfl rfl ?_
  refine WL_nil ?_
  refine W_ret ?_
  refine ret_1 rfl (by conv => lhs; whnf) ?_
  exact ⟨by rw [gh_some hxx], S2.fin⟩
end Go.Proofs.YtgnbfmifjlnigaaGreatDoor
namespace Go.Fw
open Go.RowKit
theorem pow2_eq (n : Nat) : pow2 n = ((2 ^ n : Nat) : Int) := by
  induction n with
  | zero => rfl
  | succ n ih => simp only [pow2, ih, Nat.pow_succ]; omega
theorem wrap_small (a : Int) (h0 : 0 ≤ a) (h1 : a < 9223372036854775808) : IntKind.i64.wrap a = a := by
  unfold IntKind.wrap
  have hm : a % (2 ^ IntKind.i64.bits : Int) = a := Int.emod_eq_of_lt h0 (by simp [IntKind.bits]; omega)
  simp only [hm]
  rw [if_neg]
  simp [IntKind.bits, IntKind.signed]; omega
theorem band_mask (a : Int) (n : Nat) (hn : n ≤ 62) : band a (pow2 n - 1) = a % pow2 n := by
  have h2 : (2 : Nat) ^ n ≤ 2 ^ 62 := Nat.pow_le_pow_right (by omega) hn
  have hpos : 0 < (2 : Nat) ^ n := Nat.pow_pos (by omega)
  rw [pow2_eq]
  have e1 : (((2 ^ n : Nat) : Int) - 1) = ((2 ^ n - 1 : Nat) : Int) := by omega
  have key : (BitVec.ofInt 64 a &&& BitVec.ofInt 64 (((2 ^ n : Nat) : Int) - 1)).toNat = (a % ((2 ^ n : Nat) : Int)).toNat := by
    rw [BitVec.toNat_and, e1, BitVec.ofInt_natCast, BitVec.toNat_ofNat, BitVec.toNat_ofInt]
    rw [Nat.mod_eq_of_lt (show 2 ^ n - 1 < 2 ^ 64 by omega), Nat.and_two_pow_sub_one_eq_mod]
    have hd : ((2 ^ n : Nat) : Int) ∣ ((2 ^ 64 : Nat) : Int) := Int.natCast_dvd_natCast.2 (Nat.pow_dvd_pow 2 (by omega))
    have h64 : 0 ≤ a % ((2 ^ 64 : Nat) : Int) := Int.emod_nonneg _ (by decide)
    have hn0 : 0 ≤ a % ((2 ^ n : Nat) : Int) := Int.emod_nonneg _ (by omega)
    have : (((a % ((2 ^ 64 : Nat) : Int)).toNat % 2 ^ n : Nat) : Int) = ((a % ((2 ^ n : Nat) : Int)).toNat : Int) := by
      rw [Int.natCast_emod, Int.toNat_of_nonneg h64, Int.toNat_of_nonneg hn0, Int.emod_emod_of_dvd _ hd]
    omega
  have hb : band a (((2 ^ n : Nat) : Int) - 1) = IntKind.i64.wrap ((BitVec.ofInt 64 a &&& BitVec.ofInt 64 (((2 ^ n : Nat) : Int) - 1)).toNat : Int) := rfl
  rw [hb, key]
  have hn0 : 0 ≤ a % ((2 ^ n : Nat) : Int) := Int.emod_nonneg _ (by omega)
  have hn1 : a % ((2 ^ n : Nat) : Int) < ((2 ^ n : Nat) : Int) := Int.emod_lt_of_pos _ (by omega)
  rw [Int.toNat_of_nonneg hn0]
  exact wrap_small _ hn0 (by omega)
end Go.Fw
namespace Go.Fw
open Go.RowKit
theorem ProgOK.thread {p : ProgD} (hp : ProgOK p) {k : Nat} {x : ThreadD} (hx : p.threads[k]? = some x) : ThreadOK p k x := by
  obtain ⟨h, rfl⟩ := List.getElem?_eq_some_iff.1 hx
  exact hp.threads k h
theorem wrap_u64 {a : Int} (h0 : 0 ≤ a) (h1 : a < 18446744073709551616) : IntKind.u64.wrap a = a := by
  unfold IntKind.wrap
  have hm : a % (2 ^ IntKind.u64.bits : Int) = a := Int.emod_eq_of_lt h0 (by simp [IntKind.bits]; omega)
  simp only [hm]
  rw [if_neg]
  simp [IntKind.bits, IntKind.signed]
def setOf (l : List Value) : List (Value × Value) := l.map fun x => (x, .agg #[])
theorem setOf_snoc (l : List Value) (x : Value) : setOf (l ++ [x]) = setOf l ++ [(x, .agg #[])] := by simp [setOf]
theorem setOf_new {l : List Value} {x : Value} (h : x ∉ l) : ∀ y ∈ setOf l, y.1 ≠ x := fun y hy e => by
  obtain ⟨z, hz, rfl⟩ := List.mem_map.1 hy
  simp only at e
  subst e
  exact h hz
theorem not_before {α : Type} {l : List α} {k : Nat} {x : α} {f : α → Value} (hp : l.Pairwise fun a b => f a ≠ f b) (hx : l[k]? = some x) : f x ∉ (l.take k).map f := fun hm => by
  obtain ⟨y, hy, he⟩ := List.mem_map.1 hm
  obtain ⟨j, hj, rfl⟩ := List.mem_take_iff_getElem.1 hy
  obtain ⟨hk, rfl⟩ := List.getElem?_eq_some_iff.1 hx
  exact (List.pairwise_iff_getElem.1 hp) j k _ hk (by omega) he
end Go.Fw
namespace Go.Proofs.YtgnbfmifjlnigaaGreatDoor
open Go.Fw Go.RowKit
theorem limitsP_fn (p : ProgD) (M : List Nat) (w0 : World) (cs : List Value) (hP : RdProg M w0 p cs) (hp : ProgOK p) :
    Does Tryz.prog 57 #[.agg cs.toArray] w0 fun v w' => v = .tuple #[.int .i64 0, .int .i64 (-1)] ∧ Below w0.heap.size w0 w' := by
  obtain ⟨Ac, nc, cc, Am, nm, cm, Al, nl, cl, At, nt, ct, rfl, hC, hMo, hLk, hTh, hnc, hnm, hnl, hnt, bc, bm, bl, bt⟩ := hP.open_
  have S := St.refl w0
  have q1 := hp.ncells
  have q2 := hp.nmodules
  have q3 := hp.nlocks
  have q4 := hp.nthreads
  refine Does_enter Tryz.func57 rfl Tryz.ntmps57 rfl ?_
  refine W_seq ?_
  refine W_region ?_
  refine o_boxa S (by conv => lhs; whnf) rfl ?_
  intro g1 w1 S1 X1 G1
  refine o_assign (v := .int .i64 _) rfl rfl ?_
  refine o_assign (v := .int .i64 _) rfl rfl ?_
  refine WL_nil ?_
  refine W_seq ?_
  refine W_region ?_
  refine o_fieldAddr fa_132_0 rfl rfl ?_
  refine o_loadN many_36 rfl (S1.cells 0 rfl) rfl rfl ?_
  refine o_alloc S1 zv_36 rfl rfl ?_
  intro g4 w4 S4 X4 G4
  refine o_storeN (kk := 0) (vs := [_, _, _, _]) S4 sz_36 rfl rfl rfl rfl rfl rfl rfl ?_
  intro w1_3 S1_3 X1_3
  dsimp only [setsAt, List.set] at S1_3
  refine WL_nil ?_
  refine W_seq ?_
  refine W_seq ?_
  refine W_region ?_
  refine o_fieldAddr fa_36_0 rfl rfl ?_
  refine o_load one_31 rfl (by exact S1_3.cell 0 rfl rfl) rfl ?_
  refine o_len slz_31.slT rfl rfl ?_
  refine o_gtr rfl rfl rfl (fun h12 => ?_) (fun h12 => ?_)
  · exfalso; omega
  refine o_move (v := .bool _) rfl rfl ?_
  refine WL_on rfl rfl rfl ?_
  refine o_fieldAddr fa_36_1 rfl rfl ?_
  refine WL_on rfl rfl rfl ?_
  refine o_load one_32 rfl (by exact S1_3.cell 0 rfl rfl) rfl ?_
  refine WL_on rfl rfl rfl ?_
  refine o_len slz_32.slT rfl rfl ?_
  refine WL_on rfl rfl rfl ?_
  refine o_gtr rfl rfl rfl (fun h17 => ?_) (fun h17 => ?_)
  · exfalso; omega
  refine o_pick rfl (v := .bool _) rfl rfl ?_
  refine o_move (v := .bool _) rfl rfl ?_
  refine WL_on rfl rfl rfl ?_
  refine o_fieldAddr fa_36_2 rfl rfl ?_
  refine WL_on rfl rfl rfl ?_
  refine o_load one_33 rfl (by exact S1_3.cell 0 rfl rfl) rfl ?_
  refine WL_on rfl rfl rfl ?_
  refine o_len slz_33.slT rfl rfl ?_
  refine WL_on rfl rfl rfl ?_
  refine o_gtr rfl rfl rfl (fun h23 => ?_) (fun h23 => ?_)
  · exfalso; omega
  refine o_pick rfl (v := .bool _) rfl rfl ?_
  refine o_move (v := .bool _) rfl rfl ?_
  refine WL_on rfl rfl rfl ?_
  refine o_fieldAddr fa_36_3 rfl rfl ?_
  refine WL_on rfl rfl rfl ?_
  refine o_load one_34 rfl (by exact S1_3.cell 0 rfl rfl) rfl ?_
  refine WL_on rfl rfl rfl ?_
  refine o_len slz_34.slT rfl rfl ?_
  refine WL_on rfl rfl rfl ?_
  refine o_gtr rfl rfl rfl (fun h29 => ?_) (fun h29 => ?_)
  · exfalso; omega
  refine o_pick rfl (v := .bool _) rfl rfl ?_
  refine WL_nil ?_
  refine W_else rfl ?_
  refine W_skip ?_
  refine W_seq ?_
  refine W_seq ?_
  refine W_region ?_
  refine o_fieldAddr fa_36_3 rfl rfl ?_
  refine o_load one_34 rfl (by exact S1_3.cell 0 rfl rfl) rfl ?_
  refine o_len slz_34.slT rfl rfl ?_
  refine o_move (v := .int .i64 _) rfl rfl ?_
  refine WL_nil ?_
  refine W_block ?_
  refine W_loop (fun μk D ε w => D = [] ∧ ∃ k : Nat, (k + μk = (p.threads.length)) ∧ St [] w0 w [(some g4, 36, [.slice Ac nc cc, .slice Am nm cm, .slice Al nl cl, .slice At nt ct]), (some g1, 132, [.slice Ac nc cc, .slice Am nm cm, .slice Al nl cl, .slice At nt ct])] ∧ ε 32 = .slice At nt ct ∧ ε 33 = .int .i64 nt ∧ ε 34 = .int .i64 k) (μ := (p.threads.length)) ⟨rfl, 0, by omega, S1_3, rfl, rfl, rfl⟩ ?_
  rintro μk D ε w ⟨rfl, k, hk, S, e32, e33, e34⟩
  refine W_known 32 e32 ?_
  refine W_known 33 e33 ?_
  refine W_known 34 e34 ?_
  clear e32 e33 e34
  refine W_seq ?_
  refine W_region ?_
  refine o_lss rfl rfl rfl (fun h35 => ?_) (fun h35 => ?_)
  · refine WL_nil ?_
    refine W_seq ?_
    refine W_then rfl ?_
    refine W_skip ?_
    refine W_seq ?_
    refine W_block ?_
    refine W_seq ?_
    refine W_region ?_
    refine o_move (v := .int .i64 _) rfl rfl ?_
    obtain ⟨x, b37, p37, c37, hxx, hA37, hM37, hl37, hc37, hr37⟩ := RdS.get (hTh) (k) (by omega)
    obtain ⟨Aa37, na37, ca37, Am37, nm37, cm37, As37, ns37, cs37, Al37, nl37, cl37, rfl, ip37, hEs37, hMs37, hSt37, hLo37, hna37, hnm37, hns37, hnl37, ba37, bm37, bs37, bl37⟩ := RThread.open_ hr37
    have hx1 := hp.thread hxx
    have q5 := hx1.points
    have q6 := hx1.nsteps
    have q7 := hx1.nloops
    refine o_indexAddr slz_34.slT rfl (by assumption) rfl (by omega) (by omega) rfl ?_
    refine o_loadN many_83 rfl (hc37.keep (S.keep0 _) hM37) (by rfl) rfl ?_
    refine o_alloc S zv_83 rfl rfl ?_
    intro g6 w6 S6 X6 G6
    refine o_assign (v := .int .i64 _) rfl rfl ?_
    refine o_storeN (kk := 0) (vs := [_, _, _, _, _, _, _]) S6 sz_83 rfl rfl rfl rfl rfl rfl rfl ?_
    intro w6_5 S6_5 X6_5
    dsimp only [setsAt, List.set] at S6_5
    refine WL_nil ?_
    refine W_seq ?_
    refine W_region ?_
    refine o_fieldAddr fa_83_1 rfl rfl ?_
    refine o_load one_3 rfl (by exact S6_5.cell 0 rfl rfl) rfl ?_
    refine o_gtr rfl rfl rfl (fun h41 => ?_) (fun h41 => ?_)
    · exfalso; omega
    refine o_move (v := .bool _) rfl rfl ?_
    refine WL_on rfl rfl rfl ?_
    refine o_fieldAddr fa_83_4 rfl rfl ?_
    refine WL_on rfl rfl rfl ?_
    refine o_load one_80 rfl (by exact S6_5.cell 0 rfl rfl) rfl ?_
    refine WL_on rfl rfl rfl ?_
    refine o_len slz_80.slT rfl rfl ?_
    refine WL_on rfl rfl rfl ?_
    refine o_gtr rfl rfl rfl (fun h46 => ?_) (fun h46 => ?_)
    · exfalso; omega
    refine o_pick rfl (v := .bool _) rfl rfl ?_
    refine o_move (v := .bool _) rfl rfl ?_
    refine WL_on rfl rfl rfl ?_
    refine o_fieldAddr fa_83_5 rfl rfl ?_
    refine WL_on rfl rfl rfl ?_
    refine o_load one_81 rfl (by exact S6_5.cell 0 rfl rfl) rfl ?_
    refine WL_on rfl rfl rfl ?_
    refine o_len slz_81.slT rfl rfl ?_
    refine WL_on rfl rfl rfl ?_
    refine o_gtr rfl rfl rfl (fun h52 => ?_) (fun h52 => ?_)
    · exfalso; omega
    refine o_pick rfl (v := .bool _) rfl rfl ?_
    refine WL_nil ?_
    refine W_else rfl ?_
    refine W_skip ?_
    refine W_region ?_
    refine o_add rfl rfl (by unfold i64; omega) rfl ?_
    refine o_move (v := .int .i64 _) rfl rfl ?_
    refine WL_nil ?_
    refine ⟨μk - 1, by omega, rfl, (k + 1), (by omega), S6_5.tail, rfl, rfl, rfl⟩
  refine WL_nil ?_
  refine W_seq ?_
  refine W_else rfl ?_
  refine W_exit ?_
  refine bcons_here ?_
  refine W_seq ?_
  refine W_region ?_
  refine o_assign (v := .int .i64 _) rfl rfl ?_
  refine o_assign (v := .int .i64 _) rfl rfl ?_
  refine WL_nil ?_
  refine W_ret ?_
  refine ret_2 rfl (by conv => lhs; whnf) (by conv => lhs; whnf) ?_
  exact ⟨rfl, S.fin⟩
theorem taken_fn (b : Nat) (l : List Value) (s : ByteArray) (w0 : World) (hm : MapAt Tryz.prog 9 w0 b (setOf l)) (hs : s.size ≤ 140737488355328) (hnew : Value.string s ∉ l) :
    Does Tryz.prog 87 #[.map (some b), .string s] w0 fun v w' => v = .bool false ∧ BelowB [b] w0 w' ∧ MapAt Tryz.prog 9 w' b (setOf (l ++ [.string s])) := by
  have S := St.reflM [b] w0
  have hk : keyOf Tryz.prog 9 (.string s) = some (.string s.data.toList) := Go.WideMaps.keyOf_string_mk Tryz.underlying9 (by unfold maxLen; omega)
  refine Does_enter Tryz.func87 rfl Tryz.ntmps87 rfl ?_
  refine W_seq ?_
  refine W_region ?_
  refine o_assign (v := .bool _) rfl rfl ?_
  refine WL_nil ?_
  refine W_seq ?_
  refine W_region ?_
  refine o_move (by conv => lhs; whnf) rfl ?_
  refine o_move (by conv => lhs; whnf) rfl ?_
  refine o_lookup2 (Go.Maps.string_keyed Tryz.underlying9) Tryz.underlying136 zv_163 hm rfl rfl hk rfl (fun v hv => absurd rfl (setOf_new hnew _ hv)) (fun _ => ?_)
  refine o_move (by conv => lhs; whnf) rfl ?_
  refine o_extract rfl rfl rfl ?_
  refine o_extract rfl rfl rfl ?_
  refine o_alloc S zv_163 rfl rfl ?_
  intro g5 w5 S5 X5 G5
  replace hm := hm.keep X5 (List.not_mem_nil)
  first | refine o_storeN (kk := 0) (vs := []) S5 sz_163 rfl rfl rfl rfl rfl rfl rfl ?_
  intro w1_7 S1_7 X1_7
  dsimp only [setsAt, List.set] at S1_7
  replace hm := hm.keep X1_7 (fun hh => by rw [List.mem_singleton] at hh; first | exact hm.ne (S5.blk 0 rfl) hh)
  refine o_assign (v := .bool _) rfl rfl ?_
  refine WL_nil ?_
  refine W_seq ?_
  refine W_region ?_
  refine o_move (by conv => lhs; whnf) rfl ?_
  refine o_move (by conv => lhs; whnf) rfl ?_
  refine o_build bld_163 (vs := []) (cs := []) rfl rfl rfl rfl ?_
  refine o_mapPut S1_7 (Go.Maps.string_keyed Tryz.underlying9) Tryz.underlying136 hm rfl rfl rfl hk (setOf_new hnew) (.inr (by simp)) ?_
  intro wm Sm Xm Mm
  refine WL_nil ?_
  refine W_seq ?_
  refine W_region ?_
  refine o_move (v := .bool _) rfl rfl ?_
  refine o_assign (v := .bool _) rfl rfl ?_
  refine WL_nil ?_
  refine W_ret ?_
  refine ret_1 rfl (by conv => lhs; whnf) ?_
  exact ⟨rfl, Sm.below, by rw [setOf_snoc]; exact Mm⟩
theorem cellsP_fn (p : ProgD) (M : List Nat) (w0 : World) (cs : List Value) (hP : RdProg M w0 p cs) (hp : ProgOK p) :
    Does Tryz.prog 58 #[.agg cs.toArray] w0 fun v w' => v = .int .i64 0 ∧ Below w0.heap.size w0 w' := by
  obtain ⟨Ac, nc, cc, Am, nm, cm, Al, nl, cl, At, nt, ct, rfl, hC, hMo, hLk, hTh, hnc, hnm, hnl, hnt, bc, bm, bl, bt⟩ := hP.open_
  have S := St.refl w0
  have hdis : p.cells.Pairwise fun a b => Value.string a.name ≠ .string b.name := hp.cellNames.imp fun h e => h (by injection e)
  refine Does_enter Tryz.func58 rfl Tryz.ntmps58 rfl ?_
  refine W_seq ?_
  refine W_region ?_
  refine o_boxa S (by conv => lhs; whnf) rfl ?_
  intro g1 w1 S1 X1 G1
  refine o_assign (v := .int .i64 _) rfl rfl ?_
  refine WL_nil ?_
  refine W_seq ?_
  refine W_region ?_
  refine o_makeMap (k := 9) S1 rfl ?_
  intro g6 w6 S6 X6 G6 Mp6
  refine o_assign (by conv => lhs; whnf) rfl ?_
  refine WL_nil ?_
  refine W_seq ?_
  refine W_seq ?_
  have hg6 : w0.heap.size ≤ g6 := by have := S1.size; omega
  refine W_region ?_
  refine o_fieldAddr fa_132_0 rfl rfl ?_
  refine o_fieldAddr fa_36_0 rfl rfl ?_
  refine o_load one_31 rfl (by first | exact S6.cell 0 rfl rfl) rfl ?_
  refine o_len slz_31.slT rfl rfl ?_
  refine o_move (v := .int .i64 _) rfl rfl ?_
  refine WL_nil ?_
  refine W_block ?_
  refine W_loop (fun μk D ε w => D = [] ∧ ∃ k : Nat, (k + μk = (p.cells.length)) ∧ (MapAt Tryz.prog 9 w g6 (setOf ((p.cells.take k).map fun c => .string c.name))) ∧ St [] w0 w [(some g1, 132, [.slice Ac nc cc, .slice Am nm cm, .slice Al nl cl, .slice At nt ct])] ∧ ε 1 = .pointer (some ⟨g1, 0, none⟩) ∧ ε 3 = .map (some g6) ∧ ε 9 = .slice Ac nc cc ∧ ε 10 = .int .i64 nc ∧ ε 11 = .int .i64 k) (μ := (p.cells.length)) ⟨rfl, 0, by omega, (by simpa [setOf] using Mp6), S6, rfl, rfl, rfl, rfl, rfl⟩ ?_
  rintro μk D ε w ⟨rfl, k, hk, Mp6, S, e1, e3, e9, e10, e11⟩
  refine W_known 1 e1 ?_
  refine W_known 3 e3 ?_
  refine W_known 9 e9 ?_
  refine W_known 10 e10 ?_
  refine W_known 11 e11 ?_
  clear e1 e3 e9 e10 e11
  refine W_seq ?_
  refine W_region ?_
  refine o_lss rfl rfl rfl (fun h12 => ?_) (fun h12 => ?_)
  · refine WL_nil ?_
    refine W_seq ?_
    refine W_then rfl ?_
    refine W_skip ?_
    refine W_seq ?_
    refine W_block ?_
    refine W_seq ?_
    refine W_region ?_
    obtain ⟨x, b13, p13, c13, hxx, hA13, hM13, hl13, hc13, hr13⟩ := RdS.get (hC) (k) (by omega)
    obtain ⟨rfl, i113, i213, i313, i413⟩ := RCell.open_ hr13
    have q1 := hp.cells x (some_mem hxx)
    have q2 := q1.w
    have q3 := q1.init
    have q4 := q1.thread
    refine o_indexAddr slz_31.slT rfl (by assumption) rfl (by omega) (by omega) rfl ?_
    refine o_loadN many_90 rfl (hc13.keep (S.keep0 _) hM13) (by rfl) rfl ?_
    refine o_alloc S zv_90 rfl rfl ?_
    intro g5 w5 S5 X5 G5
    replace Mp6 := Mp6.keep X5 (List.not_mem_nil)
    refine o_storeN (kk := 0) (vs := [_, _, _, _, _, _]) S5 sz_90 rfl rfl rfl rfl rfl rfl rfl ?_
    intro w4_3 S4_3 X4_3
    dsimp only [setsAt, List.set] at S4_3
    replace Mp6 := Mp6.keep X4_3 (fun hh => by rw [List.mem_singleton] at hh; exact Mp6.ne (S5.blk 0 rfl) hh)
    refine WL_nil ?_
    refine W_block ?_
    refine W_seq ?_
    refine W_seq ?_
    refine W_region ?_
    refine o_fieldAddr fa_90_0 rfl rfl ?_
    refine o_load one_9 rfl (by exact S4_3.cell 0 rfl rfl) rfl ?_
    refine o_callr S4_3 has_85 rfl rfl (labelP_fn _ _ q1.name) ?_
    intro w18 S18 X18
    replace Mp6 := Mp6.keep X18 (List.not_mem_nil)
    refine o_not rfl rfl ?_
    refine o_assign (v := .bool _) rfl rfl ?_
    refine WL_nil ?_
    refine W_else rfl ?_
    refine W_seq ?_
    refine W_region ?_
    refine o_fieldAddr fa_90_1 rfl rfl ?_
    refine o_load one_3 rfl (by exact S18.cell 0 rfl rfl) rfl ?_
    refine o_lss rfl rfl rfl (fun h22 => ?_) (fun h22 => ?_)
    · exfalso; omega
    refine o_assign (v := .bool _) rfl rfl ?_
    refine WL_nil ?_
    refine W_else rfl ?_
    refine W_seq ?_
    refine W_region ?_
    refine o_fieldAddr fa_90_1 rfl rfl ?_
    refine o_load one_3 rfl (by exact S18.cell 0 rfl rfl) rfl ?_
    refine o_gtr rfl rfl rfl (fun h25 => ?_) (fun h25 => ?_)
    · exfalso; omega
    refine o_assign (v := .bool _) rfl rfl ?_
    refine WL_nil ?_
    refine W_else rfl ?_
    refine W_region ?_
    refine o_fieldAddr fa_90_2 rfl rfl ?_
    refine o_load one_3 rfl (by exact S18.cell 0 rfl rfl) rfl ?_
    refine o_fieldAddr fa_90_1 rfl rfl ?_
    refine o_load one_3 rfl (by exact S18.cell 0 rfl rfl) rfl ?_
    refine o_convI Tryz.underlying3 Tryz.underlying157 rfl rfl ?_
    rw [wrap_u64 (by omega) (by omega), show x.w = ((x.w.toNat : Nat) : Int) by omega]
    refine o_shl1u (n := x.w.toNat) rfl (by rfl) (by omega) rfl ?_
    refine o_callr S18 has_86 rfl rfl ((show decide (0 ≤ x.init ∧ x.init < ((2 ^ x.w.toNat : Nat) : Int)) = true from decide_eq_true (by rw [← pow2_eq]; exact q3)) ▸ below_fn _ _ _) ?_
    intro w32 S32 X32
    replace Mp6 := Mp6.keep X32 (List.not_mem_nil)
    refine o_not rfl rfl ?_
    refine o_assign (v := .bool _) rfl rfl ?_
    refine WL_nil ?_
    refine W_else rfl ?_
    refine W_seq ?_
    refine W_seq ?_
    refine W_region ?_
    refine o_fieldAddr fa_90_3 rfl rfl ?_
    refine o_load one_3 rfl (by exact S32.cell 0 rfl rfl) rfl ?_
    refine o_neq rfl rfl rfl (fun h37 => ?_) (fun h37 => ?_)
    · refine o_move (v := .bool _) rfl rfl ?_
      refine WL_on rfl rfl rfl ?_
      refine o_fieldAddr fa_90_3 rfl rfl ?_
      refine WL_on rfl rfl rfl ?_
      refine o_load one_3 rfl (by exact S32.cell 0 rfl rfl) rfl ?_
      refine WL_on rfl rfl rfl ?_
      refine o_fieldAddr fa_132_0 rfl rfl ?_
      refine WL_on rfl rfl rfl ?_
      refine o_fieldAddr fa_36_3 rfl rfl ?_
      refine WL_on rfl rfl rfl ?_
      refine o_load one_34 rfl (by exact S32.cell 1 rfl rfl) rfl ?_
      refine WL_on rfl rfl rfl ?_
      refine o_len slz_34.slT rfl rfl ?_
      refine WL_on rfl rfl rfl ?_
      refine o_callr S32 has_86 rfl rfl ((show decide (0 ≤ x.thread ∧ x.thread < (nt : Int)) = true from decide_eq_true (by omega)) ▸ below_fn _ _ _) ?_
      intro w45 S45 X45
      replace Mp6 := Mp6.keep X45 (List.not_mem_nil)
      refine WL_on rfl rfl rfl ?_
      refine o_not rfl rfl ?_
      refine o_pick rfl (v := .bool _) rfl rfl ?_
      refine o_assign (v := .bool _) rfl rfl ?_
      refine WL_nil ?_
      refine W_else rfl ?_
      refine W_region ?_
      refine o_fieldAddr fa_90_5 rfl rfl ?_
      refine o_load one_3 rfl (by exact S45.cell 0 rfl rfl) rfl ?_
      refine o_fieldAddr fa_132_0 rfl rfl ?_
      refine o_fieldAddr fa_36_1 rfl rfl ?_
      refine o_load one_32 rfl (by exact S45.cell 1 rfl rfl) rfl ?_
      refine o_len slz_32.slT rfl rfl ?_
      refine o_callr S45 has_86 rfl rfl ((show decide (0 ≤ x.module_ ∧ x.module_ < (nm : Int)) = true from decide_eq_true (by have := q1.mod; unfold isIn at this; omega)) ▸ below_fn _ _ _) ?_
      intro w54 S54 X54
      replace Mp6 := Mp6.keep X54 (List.not_mem_nil)
      refine o_not rfl rfl ?_
      refine o_assign (v := .bool _) rfl rfl ?_
      refine WL_nil ?_
      refine W_else rfl ?_
      refine W_seq ?_
      refine W_region ?_
      refine o_move (by conv => lhs; whnf) rfl ?_
      refine o_fieldAddr fa_90_0 rfl rfl ?_
      refine o_load one_9 rfl (by exact S54.cell 0 rfl rfl) rfl ?_
      have hnew := not_before hdis hxx
      have hsz : x.name.size ≤ 140737488355328 := by have := q1.name.2.1; omega
      refine o_call has_87 rfl rfl (taken_fn g6 _ x.name _ Mp6 hsz hnew) ?_
      rintro v60 w60 ⟨rfl, B60, M60⟩
      have S60 := S54.turned Mp6 (.inl hg6) B60
      refine o_assign (v := .bool _) rfl rfl ?_
      refine WL_nil ?_
      refine W_else rfl ?_
      refine W_skip ?_
      refine W_region ?_
      refine o_add rfl rfl (by unfold i64; omega) rfl ?_
      refine o_move (v := .int .i64 _) rfl rfl ?_
      refine WL_nil ?_
      refine ⟨μk - 1, by omega, rfl, (k + 1), (by omega), ((by rw [take_some hxx, List.map_append]; exact M60)), S60.tail, rfl, rfl, rfl, rfl, rfl⟩
    refine o_move (v := .bool _) rfl rfl ?_
    refine WL_off rfl rfl rfl rfl ?_
    refine WL_off rfl rfl rfl rfl ?_
    refine WL_off rfl rfl rfl rfl ?_
    refine WL_off rfl rfl rfl rfl ?_
    refine WL_off rfl rfl rfl rfl ?_
    refine WL_off rfl rfl rfl rfl ?_
    refine WL_off rfl rfl rfl rfl ?_
    refine WL_off rfl rfl rfl rfl ?_
    refine o_pick rfl (v := .bool _) rfl rfl ?_
    refine o_assign (v := .bool _) rfl rfl ?_
    refine WL_nil ?_
    refine W_else rfl ?_
    refine W_region ?_
    refine o_fieldAddr fa_90_5 rfl rfl ?_
    refine o_load one_3 rfl (by exact S32.cell 0 rfl rfl) rfl ?_
    refine o_fieldAddr fa_132_0 rfl rfl ?_
    refine o_fieldAddr fa_36_1 rfl rfl ?_
    refine o_load one_32 rfl (by exact S32.cell 1 rfl rfl) rfl ?_
    refine o_len slz_32.slT rfl rfl ?_
    refine o_callr S32 has_86 rfl rfl ((show decide (0 ≤ x.module_ ∧ x.module_ < (nm : Int)) = true from decide_eq_true (by have := q1.mod; unfold isIn at this; omega)) ▸ below_fn _ _ _) ?_
    intro w54 S54 X54
    replace Mp6 := Mp6.keep X54 (List.not_mem_nil)
    refine o_not rfl rfl ?_
    refine o_assign (v := .bool _) rfl rfl ?_
    refine WL_nil ?_
    refine W_else rfl ?_
    refine W_seq ?_
    refine W_region ?_
    refine o_move (by conv => lhs; whnf) rfl ?_
    refine o_fieldAddr fa_90_0 rfl rfl ?_
    refine o_load one_9 rfl (by exact S54.cell 0 rfl rfl) rfl ?_
    have hnew := not_before hdis hxx
    have hsz : x.name.size ≤ 140737488355328 := by have := q1.name.2.1; omega
    refine o_call has_87 rfl rfl (taken_fn g6 _ x.name _ Mp6 hsz hnew) ?_
    rintro v60 w60 ⟨rfl, B60, M60⟩
    have S60 := S54.turned Mp6 (.inl hg6) B60
    refine o_assign (v := .bool _) rfl rfl ?_
    refine WL_nil ?_
    refine W_else rfl ?_
    refine W_skip ?_
    refine W_region ?_
    refine o_add rfl rfl (by unfold i64; omega) rfl ?_
    refine o_move (v := .int .i64 _) rfl rfl ?_
    refine WL_nil ?_
    refine ⟨μk - 1, by omega, rfl, (k + 1), (by omega), ((by rw [take_some hxx, List.map_append]; exact M60)), S60.tail, rfl, rfl, rfl, rfl, rfl⟩
  refine WL_nil ?_
  refine W_seq ?_
  refine W_else rfl ?_
  refine W_exit ?_
  refine bcons_here ?_
  refine W_seq ?_
  refine W_region ?_
  refine o_assign (v := .int .i64 _) rfl rfl ?_
  refine WL_nil ?_
  refine W_ret ?_
  refine ret_1 rfl (by conv => lhs; whnf) ?_
  exact ⟨rfl, S.fin⟩
theorem modulesP_fn (p : ProgD) (M : List Nat) (w0 : World) (cs : List Value) (hP : RdProg M w0 p cs) (hp : ProgOK p) (hK : Masks M w0) (hM : ∀ g ∈ M, g < w0.heap.size) :
    Does Tryz.prog 59 #[.agg cs.toArray] w0 fun v w' => v = .int .i64 0 ∧ Below w0.heap.size w0 w' := by
  obtain ⟨Ac, nc, cc, Am, nm, cm, Al, nl, cl, At, nt, ct, rfl, hC, hMo, hLk, hTh, hnc, hnm, hnl, hnt, bc, bm, bl, bt⟩ := hP.open_
  have S := St.refl w0
  have hM' : ∀ w' : World, w0.heap.size ≤ w'.heap.size → ∀ g ∈ M, g < w'.heap.size := fun w' h g hg => by have := hM g hg; omega
  have hdis : p.modules.Pairwise fun a b => Value.string a.name ≠ .string b.name := hp.moduleNames.imp fun h e => h (by injection e)
  refine Does_enter Tryz.func59 rfl Tryz.ntmps59 rfl ?_
  refine W_seq ?_
  refine W_region ?_
  refine o_boxa S (by conv => lhs; whnf) rfl ?_
  intro g1 w1 S1 X1 G1
  refine o_assign (v := .int .i64 _) rfl rfl ?_
  refine WL_nil ?_
  refine W_seq ?_
  refine W_region ?_
  refine o_makeMap (k := 9) S1 rfl ?_
  intro g6 w6 S6 X6 G6 Mp6
  refine o_assign (by conv => lhs; whnf) rfl ?_
  refine WL_nil ?_
  refine W_seq ?_
  refine W_seq ?_
  have hg6 : w0.heap.size ≤ g6 := by have := S1.size; omega
  refine W_region ?_
  refine o_fieldAddr fa_132_0 rfl rfl ?_
  refine o_fieldAddr fa_36_1 rfl rfl ?_
  refine o_load one_32 rfl (by first | exact S6.cell 0 rfl rfl) rfl ?_
  refine o_len slz_32.slT rfl rfl ?_
  refine o_move (v := .int .i64 _) rfl rfl ?_
  refine WL_nil ?_
  refine W_block ?_
  refine W_loop (fun μk D ε w => D = [] ∧ ∃ k : Nat, (k + μk = (p.modules.length)) ∧ (MapAt Tryz.prog 9 w g6 (setOf ((p.modules.take k).map fun c => .string c.name))) ∧ St [] w0 w [(some g1, 132, [.slice Ac nc cc, .slice Am nm cm, .slice Al nl cl, .slice At nt ct])] ∧ ε 1 = .pointer (some ⟨g1, 0, none⟩) ∧ ε 3 = .map (some g6) ∧ ε 9 = .slice Am nm cm ∧ ε 10 = .int .i64 nm ∧ ε 11 = .int .i64 k) (μ := (p.modules.length)) ⟨rfl, 0, by omega, (by simpa [setOf] using Mp6), S6, rfl, rfl, rfl, rfl, rfl⟩ ?_
  rintro μk D ε w ⟨rfl, k, hk, Mp6, S, e1, e3, e9, e10, e11⟩
  refine W_known 1 e1 ?_
  refine W_known 3 e3 ?_
  refine W_known 9 e9 ?_
  refine W_known 10 e10 ?_
  refine W_known 11 e11 ?_
  clear e1 e3 e9 e10 e11
  refine W_seq ?_
  refine W_region ?_
  refine o_lss rfl rfl rfl (fun h12 => ?_) (fun h12 => ?_)
  · refine WL_nil ?_
    refine W_seq ?_
    refine W_then rfl ?_
    refine W_skip ?_
    refine W_seq ?_
    refine W_block ?_
    refine W_seq ?_
    refine W_region ?_
    obtain ⟨x, b13, p13, c13, hxx, hA13, hM13, hl13, hc13, hr13⟩ := RdS.get (hMo) (k) (by omega)
    obtain ⟨Ar13, nr13, cr13, Ag13, ng13, cg13, Af13, nf13, cf13, rfl, hR13, hG13, hF13, hnf13, bf13⟩ := RContract.open_ hr13
    have q1 := hp.modules x (some_mem hxx)
    refine o_indexAddr slz_32.slT rfl (by assumption) rfl (by omega) (by omega) rfl ?_
    refine o_loadN many_75 rfl (hc13.keep (S.keep0 _) hM13) (by rfl) rfl ?_
    refine o_alloc S zv_75 rfl rfl ?_
    intro g5 w5 S5 X5 G5
    replace Mp6 := Mp6.keep X5 (List.not_mem_nil)
    refine o_storeN (kk := 0) (vs := [_, _, _, _, _, _, _, _, _, _, _]) S5 sz_75 rfl rfl rfl rfl rfl rfl rfl ?_
    intro w4_3 S4_3 X4_3
    dsimp only [setsAt, List.set] at S4_3
    replace Mp6 := Mp6.keep X4_3 (fun hh => by rw [List.mem_singleton] at hh; exact Mp6.ne (S5.blk 0 rfl) hh)
    refine WL_nil ?_
    refine W_block ?_
    refine W_seq ?_
    refine W_seq ?_
    refine W_region ?_
    refine o_fieldAddr fa_75_0 rfl rfl ?_
    refine o_load one_9 rfl (by exact S4_3.cell 0 rfl rfl) rfl ?_
    refine o_callr S4_3 has_85 rfl rfl (labelP_fn _ _ q1.name) ?_
    intro w18 S18 X18
    replace Mp6 := Mp6.keep X18 (List.not_mem_nil)
    refine o_not rfl rfl ?_
    refine o_assign (v := .bool _) rfl rfl ?_
    refine WL_nil ?_
    refine W_else rfl ?_
    refine W_region ?_
    refine o_fieldAddr fa_75_1 rfl rfl ?_
    refine o_load one_9 rfl (by exact S18.cell 0 rfl rfl) rfl ?_
    refine o_callr S18 has_85 rfl rfl (labelP_fn _ _ q1.owner) ?_
    intro w22 S22 X22
    replace Mp6 := Mp6.keep X22 (List.not_mem_nil)
    refine o_not rfl rfl ?_
    refine o_assign (v := .bool _) rfl rfl ?_
    refine WL_nil ?_
    refine W_else rfl ?_
    refine W_seq ?_
    refine W_region ?_
    refine o_move (by conv => lhs; whnf) rfl ?_
    refine o_fieldAddr fa_75_0 rfl rfl ?_
    refine o_load one_9 rfl (by exact S22.cell 0 rfl rfl) rfl ?_
    have hnew := not_before hdis hxx
    have hsz : x.name.size ≤ 140737488355328 := by have := q1.name.2.1; omega
    refine o_call has_87 rfl rfl (taken_fn g6 _ x.name _ Mp6 hsz hnew) ?_
    rintro v28 w28 ⟨rfl, B28, M28⟩
    have S28 := S22.turned Mp6 (.inl hg6) B28
    clear Mp6
    have Mp6 := M28
    refine o_assign (v := .bool _) rfl rfl ?_
    refine WL_nil ?_
    refine W_else rfl ?_
    refine W_seq ?_
    refine W_seq ?_
    refine W_region ?_
    refine o_fieldAddr fa_75_2 rfl rfl ?_
    refine o_loadN many_73 rfl (cs := [_, _, _, _]) (S28.cellsAt 0 2 4 rfl) rfl rfl ?_
    refine o_callb S28 has_88 rfl rfl (absentP_fn x.rely M _ _ (RdE.keep (S28.keep0 M) _ _ hR13)) (fun h32 w32 S32 X32 => ?_) (fun h32 w32 S32 X32 => ?_)
    · replace Mp6 := Mp6.keep X32 (List.not_mem_nil)
      refine o_not rfl rfl ?_
      refine o_move (v := .bool _) rfl rfl ?_
      refine WL_off rfl rfl rfl rfl ?_
      refine WL_off rfl rfl rfl rfl ?_
      refine WL_off rfl rfl rfl rfl ?_
      refine WL_off rfl rfl rfl rfl ?_
      refine WL_off rfl rfl rfl rfl ?_
      refine WL_off rfl rfl rfl rfl ?_
      refine WL_off rfl rfl rfl rfl ?_
      refine o_pick rfl (v := .bool _) rfl rfl ?_
      refine o_assign (v := .bool _) rfl rfl ?_
      refine WL_nil ?_
      refine W_else rfl ?_
      refine W_region ?_
      refine o_loadN many_132 rfl (S32.cells 1 rfl) rfl rfl ?_
      refine o_fieldAddr fa_75_3 rfl rfl ?_
      refine o_loadN many_73 rfl (cs := [_, _, _, _]) (S32.cellsAt 0 6 4 rfl) rfl rfl ?_
      refine o_loadN many_132 rfl (S32.cells 1 rfl) rfl rfl ?_
      refine o_makeFuncB rfl rfl rfl ?_
      refine o_callr S32 has_89 rfl rfl (bitP_fn p x.guar M _ _ _ true _ (shQ p) (hP.keep (S32.keep0 M)) (RdE.keep (S32.keep0 M) _ _ hG13) (shared_pred (hP.keep (S32.keep0 M))) (hK.keep (S32.keep0 M)) (hM' _ S32.size) q1.guar.2.1 q1.guar.1 (sup_sh hp q1.guar.1 q1.guar.2.2)) ?_
      intro w48 S48 X48
      replace Mp6 := Mp6.keep X48 (List.not_mem_nil)
      refine o_not rfl rfl ?_
      refine o_assign (v := .bool _) rfl rfl ?_
      refine WL_nil ?_
      refine W_else rfl ?_
      refine W_seq ?_
      refine W_seq ?_
      refine W_region ?_
      refine o_fieldAddr fa_75_4 rfl rfl ?_
      refine o_load one_43 rfl (by exact S48.cell 0 rfl rfl) rfl ?_
      refine o_callr S48 has_91 rfl rfl (increasing_fn M _ _ _ (hF13.keep (S48.keep0 M)) q1.up) ?_
      intro w53 S53 X53
      replace Mp6 := Mp6.keep X53 (List.not_mem_nil)
      refine o_not rfl rfl ?_
      refine o_assign (v := .bool _) rfl rfl ?_
      refine WL_nil ?_
      refine W_else rfl ?_
      refine W_region ?_
      refine o_fieldAddr fa_75_4 rfl rfl ?_
      refine o_load one_43 rfl (by exact S53.cell 0 rfl rfl) rfl ?_
      refine o_loadN many_132 rfl (S53.cells 1 rfl) rfl rfl ?_
      refine o_makeFuncB rfl rfl rfl ?_
      refine o_callr S53 has_92 rfl rfl ((show x.frame.all (shQ p) = true from List.all_eq_true.2 fun z hz => decide_eq_true (q1.frame z hz)) ▸ within_fn M _ _ _ x.frame (shQ p) (hF13.keep (S53.keep0 M)) (shared_pred (hP.keep (S53.keep0 M))) (hM' _ S53.size)) ?_
      intro w59 S59 X59
      replace Mp6 := Mp6.keep X59 (List.not_mem_nil)
      refine o_not rfl rfl ?_
      refine o_assign (v := .bool _) rfl rfl ?_
      refine WL_nil ?_
      refine W_else rfl ?_
      refine W_skip ?_
      refine W_region ?_
      refine o_add rfl rfl (by unfold i64; omega) rfl ?_
      refine o_move (v := .int .i64 _) rfl rfl ?_
      refine WL_nil ?_
      refine ⟨μk - 1, by omega, rfl, (k + 1), (by omega), ((by rw [take_some hxx, List.map_append]; exact Mp6)), S59.tail, rfl, rfl, rfl, rfl, rfl⟩
    replace Mp6 := Mp6.keep X32 (List.not_mem_nil)
    refine o_not rfl rfl ?_
    refine o_move (v := .bool _) rfl rfl ?_
    refine WL_on rfl rfl rfl ?_
    refine o_loadN many_132 rfl (S32.cells 1 rfl) rfl rfl ?_
    refine WL_on rfl rfl rfl ?_
    refine o_fieldAddr fa_75_2 rfl rfl ?_
    refine WL_on rfl rfl rfl ?_
    refine o_loadN many_73 rfl (cs := [_, _, _, _]) (S32.cellsAt 0 2 4 rfl) rfl rfl ?_
    refine WL_on rfl rfl rfl ?_
    refine o_loadN many_132 rfl (S32.cells 1 rfl) rfl rfl ?_
    refine WL_on rfl rfl rfl ?_
    refine o_makeFuncB rfl rfl rfl ?_
    refine WL_on rfl rfl rfl ?_
    have ht40 := q1.rely.resolve_left (of_dec_f h32)
    refine o_callr S32 has_89 rfl rfl (bitP_fn p x.rely M _ _ _ true _ (shQ p) (hP.keep (S32.keep0 M)) (RdE.keep (S32.keep0 M) _ _ hR13) (shared_pred (hP.keep (S32.keep0 M))) (hK.keep (S32.keep0 M)) (hM' _ S32.size) ht40.2.1 ht40.1 (sup_sh hp ht40.1 ht40.2.2)) ?_
    intro w40 S40 X40
    replace Mp6 := Mp6.keep X40 (List.not_mem_nil)
    refine WL_on rfl rfl rfl ?_
    refine o_not rfl rfl ?_
    refine o_pick rfl (v := .bool _) rfl rfl ?_
    refine o_assign (v := .bool _) rfl rfl ?_
    refine WL_nil ?_
    refine W_else rfl ?_
    refine W_region ?_
    refine o_loadN many_132 rfl (S40.cells 1 rfl) rfl rfl ?_
    refine o_fieldAddr fa_75_3 rfl rfl ?_
    refine o_loadN many_73 rfl (cs := [_, _, _, _]) (S40.cellsAt 0 6 4 rfl) rfl rfl ?_
    refine o_loadN many_132 rfl (S40.cells 1 rfl) rfl rfl ?_
    refine o_makeFuncB rfl rfl rfl ?_
    refine o_callr S40 has_89 rfl rfl (bitP_fn p x.guar M _ _ _ true _ (shQ p) (hP.keep (S40.keep0 M)) (RdE.keep (S40.keep0 M) _ _ hG13) (shared_pred (hP.keep (S40.keep0 M))) (hK.keep (S40.keep0 M)) (hM' _ S40.size) q1.guar.2.1 q1.guar.1 (sup_sh hp q1.guar.1 q1.guar.2.2)) ?_
    intro w48 S48 X48
    replace Mp6 := Mp6.keep X48 (List.not_mem_nil)
    refine o_not rfl rfl ?_
    refine o_assign (v := .bool _) rfl rfl ?_
    refine WL_nil ?_
    refine W_else rfl ?_
    refine W_seq ?_
    refine W_seq ?_
    refine W_region ?_
    refine o_fieldAddr fa_75_4 rfl rfl ?_
    refine o_load one_43 rfl (by exact S48.cell 0 rfl rfl) rfl ?_
    refine o_callr S48 has_91 rfl rfl (increasing_fn M _ _ _ (hF13.keep (S48.keep0 M)) q1.up) ?_
    intro w53 S53 X53
    replace Mp6 := Mp6.keep X53 (List.not_mem_nil)
    refine o_not rfl rfl ?_
    refine o_assign (v := .bool _) rfl rfl ?_
    refine WL_nil ?_
    refine W_else rfl ?_
    refine W_region ?_
    refine o_fieldAddr fa_75_4 rfl rfl ?_
    refine o_load one_43 rfl (by exact S53.cell 0 rfl rfl) rfl ?_
    refine o_loadN many_132 rfl (S53.cells 1 rfl) rfl rfl ?_
    refine o_makeFuncB rfl rfl rfl ?_
    refine o_callr S53 has_92 rfl rfl ((show x.frame.all (shQ p) = true from List.all_eq_true.2 fun z hz => decide_eq_true (q1.frame z hz)) ▸ within_fn M _ _ _ x.frame (shQ p) (hF13.keep (S53.keep0 M)) (shared_pred (hP.keep (S53.keep0 M))) (hM' _ S53.size)) ?_
    intro w59 S59 X59
    replace Mp6 := Mp6.keep X59 (List.not_mem_nil)
    refine o_not rfl rfl ?_
    refine o_assign (v := .bool _) rfl rfl ?_
    refine WL_nil ?_
    refine W_else rfl ?_
    refine W_skip ?_
    refine W_region ?_
    refine o_add rfl rfl (by unfold i64; omega) rfl ?_
    refine o_move (v := .int .i64 _) rfl rfl ?_
    refine WL_nil ?_
    refine ⟨μk - 1, by omega, rfl, (k + 1), (by omega), ((by rw [take_some hxx, List.map_append]; exact Mp6)), S59.tail, rfl, rfl, rfl, rfl, rfl⟩
  refine WL_nil ?_
  refine W_seq ?_
  refine W_else rfl ?_
  refine W_exit ?_
  refine bcons_here ?_
  refine W_seq ?_
  refine W_region ?_
  refine o_assign (v := .int .i64 _) rfl rfl ?_
  refine WL_nil ?_
  refine W_ret ?_
  refine ret_1 rfl (by conv => lhs; whnf) ?_
  exact ⟨rfl, S.fin⟩
theorem keyInt {x : Int} (h : i64 x) : keyOf Tryz.prog 3 (.int .i64 x) = some (.int .i64 x) := Go.Maps.keyOf_int_mk Tryz.underlying3 (by unfold i64 at h; simp [Lit.wf, IntKind.min, IntKind.max, IntKind.signed, IntKind.bits]; omega)
theorem locksP_fn (p : ProgD) (M : List Nat) (w0 : World) (cs : List Value) (hP : RdProg M w0 p cs) (hp : ProgOK p) (hK : Masks M w0) (hM : ∀ g ∈ M, g < w0.heap.size) :
    Does Tryz.prog 60 #[.agg cs.toArray] w0 fun v w' => v = .int .i64 0 ∧ Below w0.heap.size w0 w' := by
  obtain ⟨Ac, nc, cc, Am, nm, cm, Al, nl, cl, At, nt, ct, rfl, hC, hMo, hLk, hTh, hnc, hnm, hnl, hnt, bc, bm, bl, bt⟩ := hP.open_
  have S := St.refl w0
  have hM' : ∀ w' : World, w0.heap.size ≤ w'.heap.size → ∀ g ∈ M, g < w'.heap.size := fun w' h g hg => by have := hM g hg; omega
  have hdis : p.locks.Pairwise fun a b => Value.int .i64 a.cell ≠ .int .i64 b.cell := hp.lockCells.imp fun h e => h (by injection e)
  refine Does_enter Tryz.func60 rfl Tryz.ntmps60 rfl ?_
  refine W_seq ?_
  refine W_region ?_
  refine o_boxa S (by conv => lhs; whnf) rfl ?_
  intro g1 w1 S1 X1 G1
  refine o_assign (v := .int .i64 _) rfl rfl ?_
  refine WL_nil ?_
  refine W_seq ?_
  refine W_region ?_
  refine o_makeMap (k := 3) S1 rfl ?_
  intro g8 w8 S8 X8 G8 Mp8
  refine o_assign (by conv => lhs; whnf) rfl ?_
  refine WL_nil ?_
  refine W_seq ?_
  refine W_seq ?_
  have hg8 : w0.heap.size ≤ g8 := by have := S1.size; omega
  refine W_region ?_
  refine o_fieldAddr fa_132_0 rfl rfl ?_
  refine o_fieldAddr fa_36_2 rfl rfl ?_
  refine o_load one_33 rfl (by first | exact S8.cell 0 rfl rfl) rfl ?_
  refine o_len slz_33.slT rfl rfl ?_
  refine o_move (v := .int .i64 _) rfl rfl ?_
  refine WL_nil ?_
  refine W_block ?_
  refine W_loop (fun μk D ε w => D = [] ∧ ∃ k : Nat, (k + μk = (p.locks.length)) ∧ (MapAt Tryz.prog 3 w g8 (setOf ((p.locks.take k).map fun c => .int .i64 c.cell))) ∧ St [] w0 w [(some g1, 132, [.slice Ac nc cc, .slice Am nm cm, .slice Al nl cl, .slice At nt ct])] ∧ ε 1 = .pointer (some ⟨g1, 0, none⟩) ∧ ε 3 = .map (some g8) ∧ ε 11 = .slice Al nl cl ∧ ε 12 = .int .i64 nl ∧ ε 13 = .int .i64 k) (μ := (p.locks.length)) ⟨rfl, 0, by omega, (by simpa [setOf] using Mp8), S8, rfl, rfl, rfl, rfl, rfl⟩ ?_
  rintro μk D ε w ⟨rfl, k, hk, Mp8, S, e1, e3, e11, e12, e13⟩
  refine W_known 1 e1 ?_
  refine W_known 3 e3 ?_
  refine W_known 11 e11 ?_
  refine W_known 12 e12 ?_
  refine W_known 13 e13 ?_
  clear e1 e3 e11 e12 e13
  refine W_seq ?_
  refine W_region ?_
  refine o_lss rfl rfl rfl (fun h14 => ?_) (fun h14 => ?_)
  · refine WL_nil ?_
    refine W_seq ?_
    refine W_then rfl ?_
    refine W_skip ?_
    refine W_seq ?_
    refine W_block ?_
    refine W_seq ?_
    refine W_region ?_
    obtain ⟨x, b15, p15, c15, hxx, hA15, hM15, hl15, hc15, hr15⟩ := RdS.get (hLk) (k) (by omega)
    obtain ⟨Ag15, ng15, cg15, rfl, i115, i215, hE15⟩ := RLock.open_ hr15
    have q1 := hp.locks x (some_mem hxx)
    have q2 := q1.cell
    have q3 := q2.1
    unfold isIn at q3
    refine o_indexAddr slz_33.slT rfl (by assumption) rfl (by omega) (by omega) rfl ?_
    refine o_loadN many_78 rfl (hc15.keep (S.keep0 _) hM15) (by rfl) rfl ?_
    refine o_alloc S zv_78 rfl rfl ?_
    intro g5 w5 S5 X5 G5
    replace Mp8 := Mp8.keep X5 (List.not_mem_nil)
    refine o_storeN (kk := 0) (vs := [_, _, _, _, _, _]) S5 sz_78 rfl rfl rfl rfl rfl rfl rfl ?_
    intro w4_3 S4_3 X4_3
    dsimp only [setsAt, List.set] at S4_3
    replace Mp8 := Mp8.keep X4_3 (fun hh => by rw [List.mem_singleton] at hh; exact Mp8.ne (S5.blk 0 rfl) hh)
    refine WL_nil ?_
    refine W_seq ?_
    refine W_seq ?_
    refine W_region ?_
    refine o_loadN many_132 rfl (S4_3.cells 1 rfl) rfl rfl ?_
    refine o_fieldAddr fa_78_0 rfl rfl ?_
    refine o_load one_3 rfl (by exact S4_3.cell 0 rfl rfl) rfl ?_
    refine o_callr S4_3 has_90 rfl rfl ((show shQ p x.cell = true from decide_eq_true ⟨q3, q2.2.1⟩) ▸ sharedP_fn p M _ _ _ (hP.keep (S4_3.keep0 M))) ?_
    intro w20 S20 X20
    replace Mp8 := Mp8.keep X20 (List.not_mem_nil)
    refine o_not rfl rfl ?_
    refine o_move (v := .bool _) rfl rfl ?_
    refine WL_on rfl rfl rfl ?_
    refine o_fieldAddr fa_132_0 rfl rfl ?_
    refine WL_on rfl rfl rfl ?_
    refine o_fieldAddr fa_36_0 rfl rfl ?_
    refine WL_on rfl rfl rfl ?_
    refine o_load one_31 rfl (by exact S20.cell 1 rfl rfl) rfl ?_
    refine WL_on rfl rfl rfl ?_
    refine o_fieldAddr fa_78_0 rfl rfl ?_
    refine WL_on rfl rfl rfl ?_
    refine o_load one_3 rfl (by exact S20.cell 0 rfl rfl) rfl ?_
    refine WL_on rfl rfl rfl ?_
    obtain ⟨c, b28, p28, c28, hxc, hA28, hM28, hl28, hc28, hr28⟩ := RdS.get (hC) (x.cell.toNat) (by omega)
    obtain ⟨rfl, i128, i228, i328, i428⟩ := RCell.open_ hr28
    have q4 := q2.2.2.1
    rw [w_some q3.1 hxc] at q4
    refine o_indexAddr slz_31.slT rfl (by assumption) rfl (by omega) (by omega) rfl ?_
    refine WL_on rfl rfl rfl ?_
    refine o_fieldAddr fa_90_1 rfl rfl ?_
    refine WL_on rfl rfl rfl ?_
    refine o_load one_3 rfl (by exact S20.old (hc28 _ _ rfl)) rfl ?_
    refine WL_on rfl rfl rfl ?_
    refine o_neq rfl rfl rfl (fun h31 => ?_) (fun h31 => ?_)
    · exfalso; omega
    refine o_pick rfl (v := .bool _) rfl rfl ?_
    refine o_move (v := .bool _) rfl rfl ?_
    refine WL_on rfl rfl rfl ?_
    refine o_fieldAddr fa_132_0 rfl rfl ?_
    refine WL_on rfl rfl rfl ?_
    refine o_fieldAddr fa_36_0 rfl rfl ?_
    refine WL_on rfl rfl rfl ?_
    refine o_load one_31 rfl (by exact S20.cell 1 rfl rfl) rfl ?_
    refine WL_on rfl rfl rfl ?_
    refine o_fieldAddr fa_78_0 rfl rfl ?_
    refine WL_on rfl rfl rfl ?_
    refine o_load one_3 rfl (by exact S20.cell 0 rfl rfl) rfl ?_
    refine WL_on rfl rfl rfl ?_
    obtain ⟨x39, b39, p39, c39, hx39, hA39, hM39, hl39, hc39, hr39⟩ := RdS.get (hC) (x.cell.toNat) (by omega)
    obtain rfl := Option.some.inj (hxc.symm.trans hx39)
    obtain ⟨rfl, i139, i239, i339, i439⟩ := RCell.open_ hr39
    refine o_indexAddr slz_31.slT rfl (by assumption) rfl (by omega) (by omega) rfl ?_
    refine WL_on rfl rfl rfl ?_
    refine o_fieldAddr fa_90_4 rfl rfl ?_
    refine WL_on rfl rfl rfl ?_
    refine o_load one_4 rfl (v := .bool false) (by have h4 := S20.old (hc39 4 _ rfl); rw [← gh_some hxc, q2.2.2.2] at h4; exact h4) rfl ?_
    refine o_pick rfl (v := .bool _) rfl rfl ?_
    refine WL_nil ?_
    refine W_else rfl ?_
    refine W_skip ?_
    refine W_seq ?_
    refine W_seq ?_
    refine W_region ?_
    refine o_move (by conv => lhs; whnf) rfl ?_
    refine o_fieldAddr fa_78_0 rfl rfl ?_
    refine o_load one_3 rfl (by exact S20.cell 0 rfl rfl) rfl ?_
    have hk47 := keyInt i115
    have hnew := not_before hdis hxx
    refine o_lookup2 (Go.Maps.int_keyed Tryz.underlying3) Tryz.underlying162 zv_163 Mp8 rfl rfl hk47 rfl (fun v hv => absurd rfl (setOf_new hnew _ hv)) (fun _ => ?_)
    refine o_move (by conv => lhs; whnf) rfl ?_
    refine o_extract rfl rfl rfl ?_
    refine o_extract rfl rfl rfl ?_
    refine o_alloc S20 zv_163 rfl rfl ?_
    intro g6 w6 S6 X6 G6
    replace Mp8 := Mp8.keep X6 (List.not_mem_nil)
    refine o_storeN (kk := 0) (vs := []) S6 sz_163 rfl rfl rfl rfl rfl rfl rfl ?_
    intro w7_8 S7_8 X7_8
    dsimp only [setsAt, List.set] at S7_8
    replace Mp8 := Mp8.keep X7_8 (fun hh => by rw [List.mem_singleton] at hh; exact Mp8.ne (S6.blk 0 rfl) hh)
    refine o_assign (v := .bool _) rfl rfl ?_
    refine WL_nil ?_
    refine W_seq ?_
    refine W_region ?_
    refine o_move (v := .bool _) rfl rfl ?_
    refine o_move (v := .bool _) rfl rfl ?_
    refine WL_on rfl rfl rfl ?_
    refine o_fieldAddr fa_78_2 rfl rfl ?_
    refine WL_on rfl rfl rfl ?_
    refine o_load one_3 rfl (by exact S7_8.cell 1 rfl rfl) rfl ?_
    refine WL_on rfl rfl rfl ?_
    refine o_fieldAddr fa_132_0 rfl rfl ?_
    refine WL_on rfl rfl rfl ?_
    refine o_fieldAddr fa_36_1 rfl rfl ?_
    refine WL_on rfl rfl rfl ?_
    refine o_load one_32 rfl (by exact S7_8.cell 2 rfl rfl) rfl ?_
    refine WL_on rfl rfl rfl ?_
    refine o_len slz_32.slT rfl rfl ?_
    refine WL_on rfl rfl rfl ?_
    refine o_callr S7_8 has_86 rfl rfl ((show decide (0 ≤ x.module_ ∧ x.module_ < (nm : Int)) = true from decide_eq_true (by have := q1.mod; unfold isIn at this; omega)) ▸ below_fn _ _ _) ?_
    intro w58 S58 X58
    replace Mp8 := Mp8.keep X58 (List.not_mem_nil)
    refine WL_on rfl rfl rfl ?_
    refine o_not rfl rfl ?_
    refine o_pick rfl (v := .bool _) rfl rfl ?_
    refine WL_nil ?_
    refine W_else rfl ?_
    refine W_skip ?_
    refine W_seq ?_
    refine W_region ?_
    refine o_move (by conv => lhs; whnf) rfl ?_
    refine o_fieldAddr fa_78_0 rfl rfl ?_
    refine o_load one_3 rfl (by exact S58.cell 1 rfl rfl) rfl ?_
    refine o_build bld_163 (vs := []) (cs := []) rfl rfl rfl rfl ?_
    refine o_mapPut (key := .int .i64 x.cell) (v := .agg #[]) S58 (Go.Maps.int_keyed Tryz.underlying3) Tryz.underlying162 Mp8 rfl rfl rfl hk47 (setOf_new hnew) (.inl hg8) ?_
    intro wm Sm Xm Mm
    clear Mp8
    have Mp8 := Mm
    refine WL_nil ?_
    refine W_seq ?_
    refine W_region ?_
    refine o_loadN many_132 rfl (Sm.cells 2 rfl) rfl rfl ?_
    refine o_fieldAddr fa_78_1 rfl rfl ?_
    refine o_loadN many_73 rfl (cs := [_, _, _, _]) (Sm.cellsAt 1 1 4 rfl) rfl rfl ?_
    refine o_loadN many_132 rfl (Sm.cells 2 rfl) rfl rfl ?_
    refine o_makeFuncB rfl rfl rfl ?_
    refine o_callr Sm has_89 rfl rfl (bitP_fn p x.inv M _ _ _ false _ (shQ p) (hP.keep (Sm.keep0 M)) (RdE.keep (Sm.keep0 M) _ _ hE15) (shared_pred (hP.keep (Sm.keep0 M))) (hK.keep (Sm.keep0 M)) (hM' _ Sm.size) q1.inv.2.1 q1.inv.1 (sup_sh hp q1.inv.1 q1.inv.2.2)) ?_
    intro w70 S70 X70
    replace Mp8 := Mp8.keep X70 (List.not_mem_nil)
    refine o_not rfl rfl ?_
    refine WL_nil ?_
    refine W_else rfl ?_
    refine W_skip ?_
    refine W_region ?_
    refine o_add rfl rfl (by unfold i64; omega) rfl ?_
    refine o_move (v := .int .i64 _) rfl rfl ?_
    refine WL_nil ?_
    refine ⟨μk - 1, by omega, rfl, (k + 1), (by omega), ((by rw [take_some hxx, List.map_append, List.map_singleton, setOf_snoc]; exact Mp8)), S70.tail.tail, rfl, rfl, rfl, rfl, rfl⟩
  refine WL_nil ?_
  refine W_seq ?_
  refine W_else rfl ?_
  refine W_exit ?_
  refine bcons_here ?_
  refine W_seq ?_
  refine W_region ?_
  refine o_assign (v := .int .i64 _) rfl rfl ?_
  refine WL_nil ?_
  refine W_ret ?_
  refine ret_1 rfl (by conv => lhs; whnf) ?_
  exact ⟨rfl, S.fin⟩
end Go.Proofs.YtgnbfmifjlnigaaGreatDoor
namespace Go.Fw
open Go.RowKit
section
variable {P : Program} {r : Option Nat} {N : Nat} {l : List Oper} {D : List Deferred} {C : World → Prop} {K : List Deferred → Env → World → Prop}
def mixOkS (l : List Oper) (pur : Nat → Bool) (m : Nat) : Bool :=
  plainOps l && ((List.range l.length).all fun i => (predsAt l i).all fun j => decide (j < i)) && ((List.range m).all fun i => (List.range i).all fun j => (waits l i).contains j || indep l pur j i) && ((List.range m).all fun j => (waits l m).contains j) && decide (l.length = m + 1)
abbrev clOf {M : List Nat} {w0 w : World} {L : List Ent} (_ : St M w0 w L) : World → Prop := Cl M w0 w L
def remTo (m : Nat) (f : Nat → Bool) : List Nat := (List.range m).filter fun i => !f i
theorem rem_splitTo {m : Nat} (f : Nat → Bool) {i : Nat} (hi : i < m) (hf : f i = false) : ∃ pre post, remTo m f = pre ++ i :: post ∧ remTo m (fun j => f j || j == i) = pre ++ post ∧ ∀ j ∈ pre, j < i ∧ f j = false := by
  have hr : List.range m = List.range i ++ i :: (List.range' (i + 1) (m - (i + 1))) := by
    have h1 : m = i + (m - i) := by omega
    have h2 : m - i = (m - (i + 1)) + 1 := by omega
    rw [List.range_eq_range', List.range_eq_range', show List.range' 0 m = List.range' 0 (i + ((m - (i + 1)) + 1)) by rw [← h2, ← h1], ← List.range'_append_1]
    simp [List.range'_succ]
  refine ⟨(List.range i).filter fun j => !f j, (List.range' (i + 1) (m - (i + 1))).filter fun j => !f j, ?_, ?_, ?_⟩
  · unfold remTo; rw [hr, List.filter_append, List.filter_cons]; simp [hf]
  · unfold remTo; rw [hr, List.filter_append, List.filter_cons]
    simp only [beq_self_eq_true, Bool.or_true, Bool.not_true, Bool.false_eq_true, if_false]
    congr 1
    · apply List.filter_congr; intro j hj; have := List.mem_range.1 hj; have : (j == i) = false := by simp; omega
      simp [this]
    · apply List.filter_congr; intro j hj; have := List.mem_range'.1 hj; have : (j == i) = false := by simp; omega
      simp [this]
  · intro j hj; rw [List.mem_filter] at hj; exact ⟨List.mem_range.1 hj.1, by simpa using hj.2⟩
theorem W_mixS {id : Nat} {n t : List Deferred → Env → World → Prop} {b : Nat → List Deferred → Env → World → Prop} {e : Env} {w : World} (hm : P.follows .mixedOrders = true) (pur : Nat → Bool) (ix : List Nat)
    (m : Nat) (hok : mixOkS l pur m = true) (hix : (List.range m == ix) = true) (C : World → Prop) (ol : Oper) (hol : l[m]? = some ol)
    (h : WM P r N l C pur (fun D e w => WL P r N l.toArray [ol] (fun D' e' w' => D' = D ∧ n D e' w') D e w) D ix e w.drew) : W P r N (.region id l.toArray true) ⟨n, b, t⟩ D e w := by
  obtain rfl : List.range m = ix := eq_of_beq hix
  generalize hKd : (fun (D : List Deferred) (e : Env) (w : World) => WL P r N l.toArray [ol] (fun D' e' w' => D' = D ∧ n D e' w') D e w) = K' at h
  unfold mixOkS at hok
  simp only [Bool.and_eq_true, decide_eq_true_eq] at hok
  obtain ⟨⟨⟨⟨hpl, hac⟩, hin⟩, hlast⟩, hm1⟩ := hok
  have hlw : ∀ j, j < m → j ∈ waits l m := fun j hj => by
    have := List.all_eq_true.1 hlast j (List.mem_range.2 hj)
    simpa using this
  have hz : (∀ i, N ≤ i → e i = undef) → W P r N (.region id l.toArray true) ⟨n, b, t⟩ D e w := by
    intro hz
    refine W_any hm hac (fun f e w => (∀ i, N ≤ i → e i = undef) ∧ (∀ i, f i = true → ∀ j ∈ predsAt l i, f j = true) ∧ ((f m = false ∧ WM P r N l C pur K' D (remTo m f) e w) ∨ (f m = true ∧ n D e w))) ⟨hz, by simp, .inl ⟨rfl, ?_⟩⟩ ?_ ?_
    · have : remTo m (fun _ => false) = List.range m := by unfold remTo; simp
      rw [this]; exact h
    · rintro f e w i o ⟨hz, hcl, hM⟩ ho hfi hpr
      have hil0 : i < l.length := (List.getElem?_eq_some_iff.1 ho).1
      have hcl' : ∀ k, (f k || k == i) = true → ∀ j ∈ predsAt l k, (f j || j == i) = true := by
        intro k hk j hj
        simp only [Bool.or_eq_true, beq_iff_eq] at hk ⊢
        rcases hk with hk | rfl
        · exact .inl (hcl k hk j hj)
        · exact .inl (hpr j hj)
      rcases hM with ⟨hfm, hM⟩ | ⟨hfm, -⟩
      rotate_left
      · have := closure_f hcl l.length (predsAt l m) (hcl m hfm) i (hlw i (by
          rcases Nat.lt_or_ge i m with h | h
          · exact h
          · have : i = m := by omega
            subst this; rw [hfi] at hfm; cases hfm))
        rw [hfi] at this; cases this
      by_cases him : i = m
      · subst him
        obtain rfl : ol = o := Option.some.inj (hol.symm.trans ho)
        have hall : ∀ j, j < i → f j = true := fun j hj => closure_f hcl _ _ hpr j (hlw j hj)
        have hrem : remTo i f = [] := by
          unfold remTo; rw [List.filter_eq_nil_iff]; intro j hj; simp [hall j (List.mem_range.1 hj)]
        rw [hrem] at hM
        have h4 := hM.2
        rw [← hKd] at h4
        clear hM h hKd
        unfold WL at *
        refine fun a Q hs hD he hK => h4 a Q hs hD he (fun a' w' hs' hh => hK a' w' hs' ?_)
        refine ⟨hh.1, fun j hj => ?_, hcl', .inr ⟨by simp, hh.2⟩⟩
        simp only [envOf, Array.getD_eq_getD_getElem?]; rw [Array.getElem?_eq_none (by omega)]; rfl
      have hil : i < m := by omega
      have hfm' : (f m || m == i) = false := by simp [hfm]; omega
      obtain ⟨pre, post, h1, h2, h3⟩ := rem_splitTo (m := m) f hil hfi
      rw [h1] at hM
      have hwt : ∀ j ∈ waits l i, f j = true := closure_f hcl _ _ hpr
      obtain ⟨o', d, ho', hd, hN, h4⟩ := WM.first hpl pre e w (fun j hj => by
        have := List.all_eq_true.1 (List.all_eq_true.1 hin i (List.mem_range.2 hil)) j (List.mem_range.2 (h3 j hj).1)
        simp only [Bool.or_eq_true, List.contains_eq_mem, decide_eq_true_eq] at this
        rcases this with h | h
        · have := hwt j h; rw [(h3 j hj).2] at this; cases this
        · exact h) hz hM
      obtain rfl : o' = o := Option.some.inj (ho'.symm.trans ho)
      rcases h4 with ⟨hpi, v, hv, h4⟩ | ⟨hpi, h4⟩
      · have hCw := hM.inC
        rcases hv with ⟨hw, hv⟩ | ⟨hw, rfl⟩
        · unfold WL; intro a Q hs hD he hK
          simp only [wpListIn]
          have hw' : Region.wanted o' (yielded l.toArray a.tmps) = true := by rw [wanted_env, he]; exact hw
          simp only [hw', if_true]
          refine ⟨about_trivial _ _ _, ?_⟩
          rw [Oper.semAt_eq _ _ _ (plain_at hpl ho).2, eval_eq, he, hv w hCw, Oper.uponIn_value]
          refine hK _ _ (by simp [Act.put, hd, hs]) ⟨by simp [Act.put, hd, hD], ?_⟩
          rw [hd, envOf_put v (by rw [hs]; exact hN), he]
          exact ⟨upd_undef hN hz, hcl', .inl ⟨hfm', by rw [h2]; exact h4⟩⟩
        · unfold WL; intro a Q hs hD he hK
          simp only [wpListIn]
          have hw' : Region.wanted o' (yielded l.toArray a.tmps) = false := by rw [wanted_env, he]; exact hw
          simp only [hw']
          refine ⟨about_trivial _ _ _, ?_⟩
          refine hK _ _ (by simp [Act.put, hd, hs]) ⟨by simp [Act.put, hd, hD], ?_⟩
          rw [hd, envOf_put undef (by rw [hs]; exact hN), he]
          exact ⟨upd_undef hN hz, hcl', .inl ⟨hfm', by rw [h2]; exact h4⟩⟩
      · unfold WL at *
        refine fun a Q hs hD he hK => h4 a Q hs hD he (fun a' w' hs' hh => hK a' w' hs' ?_)
        obtain ⟨hDD, v, hv, h5⟩ := hh
        exact ⟨hDD, by rw [hv]; exact upd_undef hN hz, hcl', .inl ⟨hfm', by rw [h2]; exact h5⟩⟩
    · rintro f e w ⟨hz, hcl, hM⟩ hall
      rcases hM with ⟨hfm, -⟩ | ⟨-, hM⟩
      · have := hall m (by omega); rw [hfm] at this; cases this
      · exact hM
  unfold W at *
  intro a hs hd he
  refine hz (fun i hi => ?_) a hs hd he
  rw [← he]; simp only [envOf, Array.getD_eq_getD_getElem?]; rw [Array.getElem?_eq_none (by omega)]; rfl
end
end Go.Fw
