/-
  The framework: cap, slices of nil, append of nothing, append of zeros onto nil; rows sorted and compacted in place.
-/
import Derived.Test.YtinhchacppkmgaaDoorFwMem
import Derived.Lib.AppendZerosOnto
namespace Go.Fw
open Go.RowKit
section
variable {P : Program} {r : Option Nat} {N : Nat} {D : List Deferred} {e : Env} {w w0 : World} {ops : Array Oper} {rest : List Oper} {K : List Deferred → Env → World → Prop} {L : List Ent} {M : List Nat}
variable {d : Nat} {t : TypeId} {p : String} {af : Array Edge} {x y : Operand} {kd : IntKind}

theorem o_cap {ty size : Nat} {A : Option Addr} {n c : Nat} (hT : SlT P ty size) (hx : ev e x = .slice A n c) (hd : Nat.ble (d + 1) N = true) (h : WL P r N ops rest K D (upd e d (.int .i64 c)) w) :
    WL P r N ops (⟨some d, .call { callee := .builtin .cap, args := #[x], argTypes := #[ty] }, t, p, af, none⟩ :: rest) K D e w := by
  obtain ⟨el, hu, _⟩ := hT
  exact WL_val rfl rfl hd (by simp) (by simp [execOp, resolve, invoke, builtin, Builtin.cap_, hx, run_underlying hu, goInt]) h

theorem o_sliceNil {ty size : Nat} (hT : SlT P ty size) (hx : ev e x = .slice none 0 0) (hy : ev e y = .int kd 0) (hd : Nat.ble (d + 1) N = true)
    (h : WL P r N ops rest K D (upd e d (.slice none 0 0)) w) :
    WL P r N ops (⟨some d, .slice ty x none (some y) none, t, p, af, none⟩ :: rest) K D e w := by
  obtain ⟨el, hu, hsz⟩ := slT_size hT
  refine WL_val rfl rfl hd (by simp) ?_ h
  have hrun : (Instr.slice ty (.slice none 0 0) none (some (.int kd 0)) none).run P w = .ok (.slice none 0 0) w := by
    simp [Instr.slice, Instr.sliceBounds, Instr.sliceBound, asIntOf, run_underlying hu, hsz]
  simp only [execOp, Instr.sliceAt, Sem.run_bind, run_underlying hu, Result.andThen_ok, hx, hy, Option.map_none, Option.map_some, hrun, Sem.run_pure]

/-- 'append' of an empty slice. -/
theorem o_append0 {ty el size bytes n c m : Nat} {z : Value} {A B : Option Addr} (hS : SlZ P ty el size z bytes) (hx : ev e x = .slice A n c) (hnc : n ≤ c) (hy : ev e y = .slice B 0 m) (hd : Nat.ble (d + 1) N = true)
    (h : WL P r N ops rest K D (upd e d (.slice A n c)) w) :
    WL P r N ops (⟨some d, .call { callee := .builtin .append, args := #[x, y], argTypes := #[ty, ty] }, t, p, af, none⟩ :: rest) K D e w := by
  obtain ⟨i, hi, hz, hsz, hby⟩ := hS.parts
  have hu := hS.und
  refine WL_val rfl rfl hd (by simp) ?_ h
  have hso : (sizeOf el).run P w = .ok size w := by simp [sizeOf, typeInfo, hi, hsz]
  have hfc : (Builtin.firstCells size 0 (.slice B 0 m)).run P w = .ok #[] w := by
    cases B <;> simp [Builtin.firstCells, loadCells, loadCellsFrom]
  have hrun : (Builtin.append_ #[ty, ty] t #[.slice A n c, .slice B 0 m]).run P w = .ok (.slice A n c) w := by
    simp [Builtin.append_, run_underlying hu, hso, Builtin.lenOf, hnc, hfc]
    cases A <;> simp [storeCells]
  simp [execOp, resolve, invoke, builtin, hx, hy, hrun]

/-- 'append(nil, make(..k)...)', elements of one cell. -/
theorem o_appendZ {ty tn el bytes k : Nat} {z : Value} {kn : IntKind} (S : St M w0 w L) (hS : SlZ P ty el 1 z bytes) (hz1 : z.cells = #[z]) (htn : P.underlying tn = some (.int kn)) (hx : ev e x = .slice none 0 0) (hy : ev e y = .int .i64 (k : Int)) (h0 : 0 < k) (hk : k ≤ 1000000000) (hb : bytes ≤ 1000) (hd : Nat.ble (d + 1) N = true)
    (h : ∀ g cap w1, St M w0 w1 ((some g, el, List.replicate cap z) :: L) → k ≤ cap → cap ≤ maxLen → Keep [] w w1 → w.heap.size ≤ g → WL P r N ops rest K D (upd e d (.slice (some ⟨g, 0, none⟩) k cap)) w1) :
    WL P r N ops (⟨some d, .call { callee := .builtin .append, args := #[x, y], argTypes := #[ty, tn] }, t, p, af, none⟩ :: rest) K D e w := by
  obtain ⟨i, hi, hz, hsz, hby⟩ := hS.parts
  have hfit : Builtin.nextslicecap (0 + k) 0 * i.bytes ≤ 281474976710656 := by
    have : Builtin.nextslicecap (0 + k) 0 = k := by
      unfold Builtin.nextslicecap
      simp; omega
    rw [this, hby]
    exact Nat.le_trans (Nat.mul_le_mul hk hb) (by omega)
  have hkb : k * i.bytes ≤ 281474976710656 := by rw [hby]; exact Nat.le_trans (Nat.mul_le_mul hk hb) (by omega)
  have hr := Go.Lib.run_append_grow_zeros (P := P) w ty tn t el i z .i64 kn hS.und htn hi hz none 0 0 [] (by simp [Builtin.firstCells]) k h0 (by omega) (by omega) (by omega) hkb hfit
  simp only [Nat.zero_add] at hr
  have hge := grownCap_ge w k 0 el
  have hle := grownCap_le_maxLen w k 0 el (by unfold maxLen; omega)
  generalize hcap : grownCap w k 0 el = cap at *
  have hcells : (([] : List Value).toArray ++ Builtin.zeroCells z.cells k ++ Builtin.zeroCells z.cells (cap - k)) = (List.replicate cap z).toArray := by
    rw [hz1]
    apply Array.ext
    · simp [Builtin.zeroCells]; omega
    · intro j h1 h2
      simp [Builtin.zeroCells, Array.getElem_append, Nat.mod_one]
  rw [hcells] at hr
  refine WL_val rfl rfl hd (by simp) ?_ (h _ cap _ (S.drew.alloc el _) hge hle ((keep_drew _ _).trans (keep_alloc _ _ _)) (Nat.le_refl _))
  simp [execOp, resolve, invoke, builtin, hx, hy, hr]
/-- s[:k]. -/
theorem o_cutTo {ty size k c n o b : Nat} (hT : SlT P ty size) (hx : ev e x = .slice (some ⟨b, o, none⟩) n c) (hy : ev e y = .int kd (k : Int)) (h2 : k ≤ c) (h3 : n ≤ c) (hd : Nat.ble (d + 1) N = true)
    (h : WL P r N ops rest K D (upd e d (.slice (some ⟨b, o, none⟩) k c)) w) :
    WL P r N ops (⟨some d, .slice ty x none (some y) none, t, p, af, none⟩ :: rest) K D e w := by
  refine o_slice (lo := 0) (hi := k) (kd := kd) hT hx (.inl ⟨rfl, rfl⟩) (.inr (by rw [Option.map_some, hy])) (Nat.zero_le _) h2 h3 hd ?_
  simpa using h

/-- The cells of a slice of ints. -/
theorem RdI.cells {M' : List Nat} {A : Option Addr} {m c : Nat} {l : List Int} (h : RdI M' w (.slice A m c) l) (hm : 0 < m) : ∃ b o, A = some ⟨b, o, none⟩ ∧ b ∉ M' ∧ Cells w b o (l.map (Value.int .i64)) := by
  obtain ⟨h1, h2, h3, h4, h5⟩ := h.at
  obtain ⟨b, o, hA, hb, he⟩ := h5 hm
  refine ⟨b, o, hA, hb, fun j v hj => ?_⟩
  rw [List.getElem?_map] at hj
  cases hx : l[j]? with
  | none => rw [hx] at hj; cases hj
  | some x =>
    rw [hx] at hj
    obtain ⟨cs, _, h7, h8⟩ := he j x hx
    have := h7 0 (.int .i64 x) (by rw [h8.1]; rfl)
    simp at hj this
    rw [← hj]; exact this

/-- 'append' of a slice of ints onto a row of the call's own. -/
theorem o_appendI {ty el bytes k m c : Nat} {z v : Value} {G : Option Nat} {B : Option Addr} {cs : List Value} {xs l : List Int} {M' : List Nat} (S : St M w0 w L) (hS : SlZ P ty el 1 z bytes) (hk : L[k]? = some (G, el, cs)) (hR : RowV G 1 xs.length cs v (xs.map (Value.int .i64)))
    (hx : ev e x = v) (hy : ev e y = .slice B m c) (hl : RdI M' w (.slice B m c) l) (h63 : xs.length + l.length ≤ 100000000) (hbytes : bytes ≤ 1000) (hd : Nat.ble (d + 1) N = true)
    (h : ∀ v' G' cs' w1, St M w0 w1 (L.set k (G', el, cs')) → RowV G' 1 (xs ++ l).length cs' v' ((xs ++ l).map (Value.int .i64)) → Keep G.toList w w1 → WL P r N ops rest K D (upd e d v') w1) :
    WL P r N ops (⟨some d, .call { callee := .builtin .append, args := #[x, y], argTypes := #[ty, ty] }, t, p, af, none⟩ :: rest) K D e w := by
  obtain ⟨hm, _⟩ := hl.at
  by_cases h0 : m = 0
  · obtain rfl : l = [] := List.length_eq_zero_iff.1 (by omega)
    subst h0
    have hv : ∃ A n c, v = .slice A n c ∧ n ≤ c := by
      rcases hR with ⟨_, ⟨_, rfl, _⟩ | ⟨g, cap, _, rfl, h1, _⟩⟩
      · exact ⟨_, _, _, rfl, Nat.le_refl _⟩
      · exact ⟨_, _, _, rfl, h1⟩
    obtain ⟨A, n, c1, rfl, hnc⟩ := hv
    refine o_append0 hS hx hnc hy hd ?_
    refine h _ G cs w ?_ (by simpa using hR) (Keep.refl _ _)
    obtain ⟨hlt, he⟩ := List.getElem?_eq_some_iff.1 hk
    rw [← he, List.set_getElem_self hlt]; exact S
  · obtain ⟨b, o, rfl, _, hc⟩ := RdI.cells hl (by omega)
    refine o_append (n := xs.length) (m := m) (news := l.map (Value.int .i64)) S hS hk hR hx hy hc (by simp; omega) (by simp [Value.oneCell']) (by omega) (Nat.le_trans (Nat.mul_le_mul (show xs.length + m ≤ 100000000 by omega) hbytes) (by omega)) hd ?_
    intro v' G' cs' w1 S1 R1 K1
    refine h v' G' cs' w1 S1 ?_ K1
    rw [List.length_append, ← hm, List.map_append]; exact R1

end

/-- A row of ints that the call made. -/
def NewRow (el : Nat) (w0 w : World) (v : Value) (l : List Int) : Prop :=
  ∃ G cs, RowV G 1 l.length cs v (l.map (Value.int .i64)) ∧ ∀ g, G = some g → w0.heap.size ≤ g ∧ hasBlk w (g, el, cs)

/-- The row is among the blocks of the caller's own. -/
theorem NewRow.open_ {M : List Nat} {el : Nat} {w0 w w1 : World} {L : List Ent} {v : Value} {l : List Int} (h : NewRow el w w1 v l) (S : St M w0 w1 L) (Sw : St M w0 w L) :
    ∃ G cs, RowV G 1 l.length cs v (l.map (Value.int .i64)) ∧ St M w0 w1 ((G, el, cs) :: L) := by
  obtain ⟨G, cs, h1, h2⟩ := h
  refine ⟨G, cs, h1, ?_⟩
  cases G with
  | none =>
    refine ⟨S.below, fun b hm g hg => ?_, List.pairwise_cons.2 ⟨fun b hb g hg => (by cases hg), S.apart⟩⟩
    rcases List.mem_cons.1 hm with rfl | hm
    · cases hg
    · exact S.own b hm g hg
  | some g =>
    obtain ⟨h3, h4⟩ := h2 g rfl
    exact S.push_new Sw h4 h3
end Go.Fw
