/-
  The arguments of a law, opened: what the reading of an argument says of memory.
-/
import Derived.Test.YtinhchacppkmgaaDoorLa3
import Derived.ProofKit
import Derived.LaidMore
import Derived.OpenShut
import Derived.Carry
import Derived.SizedLaws
import Derived.Stop.Joined
namespace Go.Proofs.YtinhchacppkmgaaDoor
open Go.Fw Go.RowKit Go.ChangeShapes Go.WideShapes

section
variable {H : Type} {enc : TypeId × Value → H} {P : Program} {W : World} {base : Nat} {sp : Nat → Bool} {held : Bool}

def Light (P : Program) (t : TypeId) (d : DataW H) : Prop := ∀ m ∈ d.weights P t, m ≤ reachBytes

theorem i64_wf {n : Int} (h : (Lit.int .i64 n).wf = true) : i64 n := by
  simp [Lit.wf, IntKind.min, IntKind.max, IntKind.signed, IntKind.bits] at h; exact h

theorem addr_none {a : Addr} {v : Value} (h : W.cell? a = some v) : a = ⟨a.block, a.off, none⟩ := by
  obtain ⟨b, o, s⟩ := a
  cases s with
  | none => rfl
  | some x => unfold World.cell? at h; split at h <;> simp at h

theorem weights_elem {e : TypeId} {l : List (DataW H)} {i : Nat} {d : DataW H} (hi : l[i]? = some d) : ∀ m ∈ d.weights P e, m ∈ DataW.weightsAll P e l := by
  induction l generalizing i with
  | nil => simp at hi
  | cons x xs ih =>
    intro m hm
    rw [DataW.weightsAll]
    cases i with
    | zero => simp at hi; subst hi; exact List.mem_append_left _ hm
    | succ i => exact List.mem_append_right _ (ih (by simpa using hi) m hm)

/-- A slice whose elements can be opened. -/
theorem open_rows {α : Type} {size t e : Nat} {fuel : Nat} {R : List Value → α → Prop} {v : Value} {x : DataW H × List MemPlace} (ht : P.underlying t = some (.slice e)) (hc : P.cellsOf e = size) (hs : 0 < size) (hby : 1 ≤ P.bytesOf e)
    (hel : ∀ (n : Nat) (cs : List Value) (y : DataW H × List MemPlace), n < fuel → cs.length = size → DataW.trod enc P W base sp held n e cs = some y → Light P e y.1 → ∃ a, R cs a)
    (h : DataW.trod enc P W base sp held fuel t [v] = some x) (hw : Light P t x.1) : ∃ l, RdS [] W size R v l := by
  rcases DataW.trod_slice ht h with ⟨h1, h2⟩ | ⟨a, len, cap, elems, rest, n, hf, h1, h2, hb, hl, hm, hlen, hget, -, -⟩
  · cases h1
    exact ⟨[], none, 0, 0, rfl, rfl, Nat.le_refl _, by unfold maxLen; omega, by omega, fun h => absurd h (by omega)⟩
  · cases h1
    have hwx : Light P t (.slice (elems.map (·.1)) (rest.map (·.1))) := by rw [h2] at hw; exact hw
    have hlen2 : len ≤ 140737488355328 := by
      have := hwx ((elems.length + rest.length) * P.bytesOf e) (by rw [DataW.weights, ht]; simp)
      have h3 : len * 1 ≤ (elems.length + rest.length) * P.bytesOf e := Nat.mul_le_mul (by omega) hby
      unfold reachBytes at this; omega
    have each : ∀ i, i < len → ∃ cs q, cs.length = size ∧ R cs q ∧ ∀ j, j < size → W.cell? ((a.add (i * size)).add j) = cs[j]? := by
      intro i hi
      have hg := hget i hi
      have hie : i < elems.length := by omega
      rw [List.getElem?_eq_getElem hie, Option.bind_eq_some_iff] at hg
      obtain ⟨cs, hcs, htr⟩ := hg
      rw [hc] at hcs
      obtain ⟨-, hcl, hcell⟩ := World.cells?_some hcs
      obtain ⟨q, hq⟩ := hel n cs _ (by omega) hcl htr (fun m hm' => by
        refine hwx m ?_
        rw [DataW.weights, ht]
        refine List.mem_cons_of_mem _ (List.mem_append_left _ (weights_elem (i := i) ?_ m hm'))
        rw [List.getElem?_map, List.getElem?_eq_getElem hie]; rfl)
      exact ⟨cs, q, hcl, hq, hcell⟩
    by_cases h0 : len = 0
    · subst h0
      exact ⟨[], some a, 0, cap, rfl, rfl, hl, hm, by omega, fun h => absurd h (by omega)⟩
    · have ha : a = ⟨a.block, a.off, none⟩ := by
        obtain ⟨cs, q, hcl, _, hcell⟩ := each 0 (by omega)
        have := hcell 0 (by omega)
        rw [List.getElem?_eq_getElem (by omega)] at this
        simp only [Nat.zero_mul, Addr.add_zero'] at this
        exact addr_none this
      let f : Fin len → α := fun i => Classical.choose (Classical.choose_spec (each i.1 i.2))
      have hf' : ∀ i : Fin len, ∃ cs : List Value, cs.length = size ∧ R cs (f i) ∧ ∀ j, j < size → W.cell? ((a.add (i.1 * size)).add j) = cs[j]? := fun i =>
        ⟨Classical.choose (each i.1 i.2), Classical.choose_spec (Classical.choose_spec (each i.1 i.2))⟩
      refine ⟨List.ofFn f, some a, len, cap, rfl, by simp, hl, hm, hlen2, fun _ => ⟨a.block, a.off, by rw [← ha], by simp, fun i x hx => ?_⟩⟩
      have hi : i < len := by have := (List.getElem?_eq_some_iff.1 hx).1; simpa using this
      have hx' : x = f ⟨i, hi⟩ := by
        rw [List.getElem?_eq_getElem (by simpa using hi)] at hx
        simp at hx; exact hx.symm
      obtain ⟨cs, hcl, hR, hcell⟩ := hf' ⟨i, hi⟩
      refine ⟨cs, hcl, fun j u hj => ?_, by rw [hx']; exact hR⟩
      have hjs : j < size := by have := (List.getElem?_eq_some_iff.1 hj).1; omega
      have := hcell j hjs
      rw [hj] at this
      rw [ha] at this
      rw [Addr.add_lit, Addr.add_lit] at this
      exact this

theorem weights_field {t : TypeId} {fs : Array Field} {xs : List (DataW H × List MemPlace)} {i : Nat} {f : Field} {y : DataW H × List MemPlace} (ht : P.underlying t = some (.struct fs)) (hw : Light P t (.agg (xs.map (·.1)))) (hf : fs[i]? = some f) (hy : xs[i]? = some y) : Light P f.type y.1 := fun m hm => by
  refine hw m ?_
  rw [DataW.weights, ht]
  refine DataW.weights_mem_each (j := i) (t := f.type) (d := y.1) ?_ ?_ m hm
  · rw [List.getElem?_map]; simp [hf]
  · rw [List.getElem?_map, hy]; rfl

theorem len4 {l : List Value} (h : l.length = 4) : ∃ a0 a1 a2 a3, l = [a0, a1, a2, a3] := by
  match l, h with
  | [a0, a1, a2, a3], _ => exact ⟨a0, a1, a2, a3, rfl⟩
theorem len6 {l : List Value} (h : l.length = 6) : ∃ a0 a1 a2 a3 a4 a5, l = [a0, a1, a2, a3, a4, a5] := by
  match l, h with
  | [a0, a1, a2, a3, a4, a5], _ => exact ⟨a0, a1, a2, a3, a4, a5, rfl⟩
theorem len14 {l : List Value} (h : l.length = 14) : ∃ a0 a1 a2 a3 a4 a5 a6 a7 a8 a9 a10 a11 a12 a13, l = [a0, a1, a2, a3, a4, a5, a6, a7, a8, a9, a10, a11, a12, a13] := by
  match l, h with
  | [a0, a1, a2, a3, a4, a5, a6, a7, a8, a9, a10, a11, a12, a13], _ => exact ⟨a0, a1, a2, a3, a4, a5, a6, a7, a8, a9, a10, a11, a12, a13, rfl⟩

/-- The i-th field of a struct, opened. -/
theorem field_at {t : TypeId} {fs : Array Field} {cs : List Value} {xs : List (DataW H × List MemPlace)} {n : Nat} (i ty off : Nat) (hlen : xs.length = fs.size) (hget : ∀ (i : Nat) (f : Field), fs[i]? = some f → DataW.trod enc P W base sp held n f.type ((cs.drop f.offset).take (P.cellsOf f.type)) = xs[i]?) (ht : P.underlying t = some (.struct fs)) (hw : Light P t (.agg (xs.map (·.1)))) (hf : (fs[i]?).map (fun f => (f.type, f.offset)) = some (ty, off)) :
    ∃ y, DataW.trod enc P W base sp held n ty ((cs.drop off).take (P.cellsOf ty)) = some y ∧ Light P ty y.1 := by
  cases hfi : fs[i]? with
  | none => rw [hfi] at hf; cases hf
  | some f =>
    rw [hfi] at hf
    simp only [Option.map_some, Option.some.injEq, Prod.mk.injEq] at hf
    obtain ⟨rfl, rfl⟩ := hf
    have hi : i < xs.length := by rw [hlen]; exact (Array.getElem?_eq_some_iff.1 hfi).1
    exact ⟨xs[i], by rw [hget i f hfi, List.getElem?_eq_getElem hi], weights_field ht hw hfi (List.getElem?_eq_getElem hi)⟩
end

section
variable {H : Type} {enc : TypeId × Value → H} {W : World} {base : Nat} {sp : Nat → Bool} {held : Bool}

theorem c3 : Tryd.prog.cellsOf 3 = 1 := by kernel_rfl
theorem c4 : Tryd.prog.cellsOf 4 = 1 := by kernel_rfl
theorem c9 : Tryd.prog.cellsOf 9 = 1 := by kernel_rfl
theorem cExprs : Tryd.prog.cellsOf 23 = 1 := by kernel_rfl
theorem cExpr : Tryd.prog.cellsOf 25 = 4 := by kernel_rfl
theorem cCell : Tryd.prog.cellsOf 48 = 6 := by kernel_rfl
theorem cCond : Tryd.prog.cellsOf 27 = 14 := by kernel_rfl
theorem bExpr : 1 ≤ Tryd.prog.bytesOf 25 := of_decide_eq_true (by kernel_rfl)
theorem bCell : 1 ≤ Tryd.prog.bytesOf 48 := of_decide_eq_true (by kernel_rfl)
theorem bInt : 1 ≤ Tryd.prog.bytesOf 3 := of_decide_eq_true (by kernel_rfl)

theorem open_expr : ∀ (fuel : Nat) (cs : List Value) (x : DataW H × List MemPlace), DataW.trod enc Tryd.prog W base sp held fuel 25 cs = some x → Light Tryd.prog 25 x.1 → ∃ e, RdE [] W e cs := by
  intro fuel
  induction fuel using Nat.strongRecOn with
  | _ fuel ih =>
  intro cs x h hw
  obtain ⟨xs, n, hf, hx, hl, hlen, hget⟩ := DataW.trod_struct Tryd.underlying25 h
  rw [hx] at hw
  rw [cExpr] at hl
  obtain ⟨y0, t0, -⟩ := field_at 0 3 0 hlen hget Tryd.underlying25 hw rfl
  obtain ⟨y1, t1, -⟩ := field_at 1 3 1 hlen hget Tryd.underlying25 hw rfl
  obtain ⟨y2, t2, -⟩ := field_at 2 3 2 hlen hget Tryd.underlying25 hw rfl
  obtain ⟨y3, t3, w3⟩ := field_at 3 23 3 hlen hget Tryd.underlying25 hw rfl
  simp only [c3, cExprs] at t0 t1 t2 t3
  obtain ⟨a0, a1, a2, a3, rfl⟩ := len4 hl
  simp only [List.drop_succ_cons, List.drop_zero, List.take_succ_cons, List.take_zero] at t0 t1 t2 t3
  obtain ⟨m0, e0, -, f0⟩ := DataW.trod_int Tryd.underlying3 t0
  obtain ⟨m1, e1, -, f1⟩ := DataW.trod_int Tryd.underlying3 t1
  obtain ⟨m2, e2, -, f2⟩ := DataW.trod_int Tryd.underlying3 t2
  cases e0; cases e1; cases e2
  obtain ⟨ks, hks⟩ := open_rows (R := fun cs e => RdE [] W e cs) Tryd.underlying23 cExpr (by omega) bExpr (fun k cs y hk _ hy hl => ih k (by omega) cs y hy hl) t3 w3
  obtain ⟨A, k, c, rfl, hk, hkc, hcm, hbig, hel⟩ := hks
  refine ⟨⟨m0, m1, m2, ks⟩, ?_⟩
  rw [RdE]
  refine ⟨A, k, c, rfl, i64_wf f0, i64_wf f1, i64_wf f2, hk, hkc, hcm, hbig, fun h0 => ?_⟩
  obtain ⟨b, o, hA, hb, hel⟩ := hel h0
  refine ⟨b, o, hA, hb, fun i hi => ?_⟩
  obtain ⟨cs', -, hc, hr⟩ := hel i ks[i] (List.getElem?_eq_getElem hi)
  exact ⟨cs', hc, hr⟩

theorem open_cell (fuel : Nat) (cs : List Value) (x : DataW H × List MemPlace) (h : DataW.trod enc Tryd.prog W base sp held fuel 48 cs = some x) (hw : Light Tryd.prog 48 x.1) : ∃ c, RCell cs c := by
  obtain ⟨xs, n, hf, hx, hl, hlen, hget⟩ := DataW.trod_struct Tryd.underlying48 h
  rw [hx] at hw
  rw [cCell] at hl
  obtain ⟨y0, t0, -⟩ := field_at 0 9 0 hlen hget Tryd.underlying48 hw rfl
  obtain ⟨y1, t1, -⟩ := field_at 1 3 1 hlen hget Tryd.underlying48 hw rfl
  obtain ⟨y2, t2, -⟩ := field_at 2 3 2 hlen hget Tryd.underlying48 hw rfl
  obtain ⟨y3, t3, -⟩ := field_at 3 3 3 hlen hget Tryd.underlying48 hw rfl
  obtain ⟨y4, t4, -⟩ := field_at 4 4 4 hlen hget Tryd.underlying48 hw rfl
  obtain ⟨y5, t5, -⟩ := field_at 5 3 5 hlen hget Tryd.underlying48 hw rfl
  simp only [c3, c4, c9] at t0 t1 t2 t3 t4 t5
  obtain ⟨a0, a1, a2, a3, a4, a5, rfl⟩ := len6 hl
  simp only [List.drop_succ_cons, List.drop_zero, List.take_succ_cons, List.take_zero] at t0 t1 t2 t3 t4 t5
  obtain ⟨m0, e0, -⟩ := DataW.trod_string Tryd.underlying9 t0
  obtain ⟨m1, e1, -, f1⟩ := DataW.trod_int Tryd.underlying3 t1
  obtain ⟨m2, e2, -, f2⟩ := DataW.trod_int Tryd.underlying3 t2
  obtain ⟨m3, e3, -, f3⟩ := DataW.trod_int Tryd.underlying3 t3
  obtain ⟨m4, e4, -⟩ := DataW.trod_bool Tryd.underlying4 t4
  obtain ⟨m5, e5, -, f5⟩ := DataW.trod_int Tryd.underlying3 t5
  cases e0; cases e1; cases e2; cases e3; cases e4; cases e5
  exact ⟨⟨m0, m1, m2, m3, m4, m5⟩, rfl, i64_wf f1, i64_wf f2, i64_wf f3, i64_wf f5⟩

theorem open_cells {fuel : Nat} {v : Value} {x : DataW H × List MemPlace} (h : DataW.trod enc Tryd.prog W base sp held fuel 22 [v] = some x) (hw : Light Tryd.prog 22 x.1) : ∃ l, RdCs [] W v l :=
  open_rows Tryd.underlying22 cCell (by omega) bCell (fun n cs y _ _ hy hl => open_cell n cs y hy hl) h hw

theorem open_ints1 {fuel : Nat} {v : Value} {x : DataW H × List MemPlace} (h : DataW.trod enc Tryd.prog W base sp held fuel 28 [v] = some x) (hw : Light Tryd.prog 28 x.1) : ∃ l, RdI [] W v l :=
  open_rows Tryd.underlying28 c3 (by omega) bInt (fun n cs y _ _ hy _ => by
    obtain ⟨m, e, -, f⟩ := DataW.trod_int Tryd.underlying3 hy
    exact ⟨m, e, i64_wf f⟩) h hw

theorem open_cond {fuel : Nat} {cs : List Value} {x : DataW H × List MemPlace} (h : DataW.trod enc Tryd.prog W base sp held fuel 27 cs = some x) (hw : Light Tryd.prog 27 x.1) : ∃ c, RdCond [] W c cs := by
  obtain ⟨xs, n, hf, hx, hl, hlen, hget⟩ := DataW.trod_struct Tryd.underlying27 h
  rw [hx] at hw
  rw [cCond] at hl
  obtain ⟨y0, t0, -⟩ := field_at 0 9 0 hlen hget Tryd.underlying27 hw rfl
  obtain ⟨y1, t1, -⟩ := field_at 1 3 1 hlen hget Tryd.underlying27 hw rfl
  obtain ⟨y2, t2, -⟩ := field_at 2 3 2 hlen hget Tryd.underlying27 hw rfl
  obtain ⟨y3, t3, -⟩ := field_at 3 3 3 hlen hget Tryd.underlying27 hw rfl
  obtain ⟨y4, t4, -⟩ := field_at 4 3 4 hlen hget Tryd.underlying27 hw rfl
  obtain ⟨y5, t5, -⟩ := field_at 5 3 5 hlen hget Tryd.underlying27 hw rfl
  obtain ⟨y6, t6, w6⟩ := field_at 6 25 6 hlen hget Tryd.underlying27 hw rfl
  obtain ⟨y7, t7, w7⟩ := field_at 7 25 10 hlen hget Tryd.underlying27 hw rfl
  simp only [c3, c9, cExpr] at t0 t1 t2 t3 t4 t5 t6 t7
  obtain ⟨a0, a1, a2, a3, a4, a5, a6, a7, a8, a9, a10, a11, a12, a13, rfl⟩ := len14 hl
  simp only [List.drop_succ_cons, List.drop_zero, List.take_succ_cons, List.take_zero] at t0 t1 t2 t3 t4 t5 t6 t7
  obtain ⟨m0, e0, -⟩ := DataW.trod_string Tryd.underlying9 t0
  obtain ⟨m1, e1, -, f1⟩ := DataW.trod_int Tryd.underlying3 t1
  obtain ⟨m2, e2, -, f2⟩ := DataW.trod_int Tryd.underlying3 t2
  obtain ⟨m3, e3, -, f3⟩ := DataW.trod_int Tryd.underlying3 t3
  obtain ⟨m4, e4, -, f4⟩ := DataW.trod_int Tryd.underlying3 t4
  obtain ⟨m5, e5, -, f5⟩ := DataW.trod_int Tryd.underlying3 t5
  cases e0; cases e1; cases e2; cases e3; cases e4; cases e5
  obtain ⟨eh, hh⟩ := open_expr _ _ _ t6 w6
  obtain ⟨eg, hg⟩ := open_expr _ _ _ t7 w7
  exact ⟨⟨m0, m1, m2, m3, m4, m5, eh, eg⟩, _, _, rfl, hh, hg⟩

/-- What the laid table gives. -/
theorem gMasks : Tryd.prog.globalNamed (Rows.decideYesRow.named.headD "") = some 0 := by kernel_rfl
theorem tMasks : (Tryd.prog.globals[0]?).map (·.type) = some 71 := by kernel_rfl
theorem cMasks : Tryd.prog.cellsOf 71 = 9 := by kernel_rfl

theorem masks_of_laid {W : World} (h : laidMetH Tryd.prog Rows.decideYesRow.laid W) : Masks [] W := by
  rw [MakeChecks.laidMetH_plain _ _ _ (by kernel_rfl)] at h
  obtain ⟨ps, ⟨g0, t0, cs0, f0, p0, q0, hg0, ht0, hv0, hd0, -⟩, -⟩ := h
  obtain rfl := Option.some.inj (gMasks.symm.trans hg0)
  obtain rfl := Option.some.inj (tMasks.symm.trans ht0)
  obtain ⟨xs, m1, rfl, hx1, hlen, hn9, hel⟩ := DataW.trod_array Tryd.underlying71 hd0
  rw [cMasks] at hlen
  simp only [c3, Nat.mul_one] at hel
  refine ⟨by simp, fun i hi => ?_⟩
  have hcell := World.var?_cell hg0 hv0 i
  have hi9 : i < xs.length := by omega
  have he := hel i (by omega)
  rw [List.getElem?_eq_getElem hi9] at he
  obtain ⟨k, e1, e2, -⟩ := DataW.trod_int Tryd.underlying3 he
  have hil : i < cs0.toList.length := by omega
  have e1' : cs0.toList[i]? = some (.int .i64 k) := by
    have h1 : ((cs0.toList.drop i).take 1)[0]? = some (Value.int .i64 k) := by rw [e1]; rfl
    rw [List.getElem?_take, if_pos (by omega), List.getElem?_drop] at h1
    simpa using h1
  rw [hcell]
  have e3 : cs0[i]? = some (.int .i64 k) := by simpa using e1'
  rw [e3]
  have hx1 : (DataW.agg _ = DataW.agg _ ∧ _) := Prod.mk.inj hx1
  have hx1 := DataW.agg.inj hx1.1
  have e4 : (xs.map (·.1))[i]? = some (.lit (.int .i64 k)) := by rw [List.getElem?_map, List.getElem?_eq_getElem hi9, e2]; rfl
  rw [← hx1] at e4
  rcases (show i = 0 ∨ i = 1 ∨ i = 2 ∨ i = 3 ∨ i = 4 ∨ i = 5 ∨ i = 6 ∨ i = 7 ∨ i = 8 by omega) with rfl | rfl | rfl | rfl | rfl | rfl | rfl | rfl | rfl <;> (cases e4; rfl)
end
end Go.Proofs.YtinhchacppkmgaaDoor
