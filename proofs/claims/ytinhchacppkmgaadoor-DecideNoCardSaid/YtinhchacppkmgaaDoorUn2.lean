/-
  Contracts: slices.Sort and slices.Compact on a row of the caller's own; decide.union.
-/
import Derived.Test.YtinhchacppkmgaaDoorUn
import Derived.Test.YtinhchacppkmgaaDoorShelf
namespace Go.Fw
open Go.RowKit Go.Sort

theorem putRow_blk {w : World} {g el : Nat} {cs : List Value} {d : List Int} (hb : hasBlk w (g, el, cs)) (hd : d.length ≤ cs.length) :
    hasBlk (putRow (Value.int .i64) w g 0 d.toArray) (g, el, d.map (Value.int .i64) ++ cs.drop d.length) := by
  have hb' : w.heap[g]? = some (.cells cs.toArray el (0, 0)) := hb
  unfold hasBlk putRow mapBlock
  simp only [Array.getElem?_modify, if_true, hb', Option.map_some, onCells]
  congr 2
  apply Array.ext
  · simp [putCells]; omega
  · intro i h1 h2
    simp only [putCells, Array.size_mapIdx, List.size_toArray] at h1
    simp only [putCells, Array.getElem_mapIdx, List.getElem_toArray, Nat.zero_le, true_and, Nat.zero_add, List.size_toArray, Nat.sub_zero]
    by_cases hi : i < d.length
    · rw [if_pos hi, List.getElem_append_left (by simpa using hi)]
      simp [hi]
    · rw [if_neg hi, List.getElem_append_right (by simpa using hi)]
      simp
      congr 1
      omega

theorem putRow_below {w : World} {g q : Nat} {d : List Int} (os : Array Obj) : BelowB [g] w (grow (putRow (Value.int .i64) (Sort.ahead w q) g 0 d.toArray) os) := by
  refine ⟨rfl, rfl, rfl, ?_, fun i hi hm => ?_⟩
  · simp [grow, putRow, mapBlock, Sort.ahead]
  · have hne : ¬ g = i := fun h => hm (by simp [h])
    simp only [grow, putRow, mapBlock, Sort.ahead]
    rw [Array.getElem?_append_left (by simpa using hi), Array.getElem?_modify, if_neg hne]
end Go.Fw
namespace Go.Proofs.YtinhchacppkmgaaDoor
open Go.Fw Go.RowKit Go.Sort

theorem holds_row {w : World} {g el : Nat} {cs : List Value} {zs : List Int} (hb : hasBlk w (g, el, cs)) (hc : cs.take zs.length = zs.map (Value.int .i64)) : Holds (Value.int .i64) w g 0 zs.toArray := by
  intro j hj
  have hj' : j < zs.length := by simpa using hj
  refine ⟨?_, hb.frozen _⟩
  rw [Nat.zero_add]
  refine hb.cell ?_
  have h1 : (cs.take zs.length)[j]? = some (.int .i64 zs[j]) := by rw [hc]; simp [hj']
  rw [List.getElem?_take, if_pos hj'] at h1
  rw [h1]; simp [hj']

/-- In order. -/
def sortL (zs : List Int) : List Int := zs.mergeSort fun x y => decide (x ≤ y)

theorem sort_fn (w : World) (g el cap : Nat) (cs : List Value) (zs : List Int) (hb : hasBlk w (g, el, cs)) (hc : cs.take zs.length = zs.map (Value.int .i64)) (hl : zs.length ≤ cs.length) (hz : zs.length ≤ 1000000) :
    Does Tryd.prog 63 #[.slice (some ⟨g, 0, none⟩) zs.length cap] w fun _ w' => BelowB [g] w w' ∧ hasBlk w' (g, el, (sortL zs).map (Value.int .i64) ++ cs.drop zs.length) := by
  refine Calls.mono (Tryd.slices_Sort_int g 0 cap zs w (holds_row hb hc) hb.lt (by omega)) ?_
  rintro e w' ⟨rfl, n, os, rfl⟩
  have hlen : (sortL zs).length = zs.length := by simp [sortL]
  refine ⟨_, rfl, putRow_below os, ?_⟩
  have hb2 : hasBlk (Sort.ahead w n) (g, el, cs) := hb
  have := putRow_blk (d := sortL zs) hb2 (by omega)
  rw [hlen] at this
  unfold hasBlk at this ⊢
  rw [heap_grow_old _ os (by simpa [putRow, mapBlock, Sort.ahead] using hb.lt)]
  exact this

theorem compact_fn (w : World) (g el cap : Nat) (cs : List Value) (zs : List Int) (hb : hasBlk w (g, el, cs)) (hc : cs.take zs.length = zs.map (Value.int .i64)) (hl : zs.length ≤ cs.length) (hz : zs.length ≤ 1000000) (hcap : zs.length ≤ cap) :
    Does Tryd.prog 64 #[.slice (some ⟨g, 0, none⟩) zs.length cap] w fun v w' => v = .slice (some ⟨g, 0, none⟩) (Lib.compact zs).length cap ∧ BelowB [g] w w' ∧
      hasBlk w' (g, el, (Lib.compact zs ++ List.replicate (zs.length - (Lib.compact zs).length) 0).map (Value.int .i64) ++ cs.drop zs.length) := by
  refine Calls.mono (Tryd.slices_Compact_int g 0 cap zs w (holds_row hb hc) (by omega) hcap) ?_
  rintro e w' ⟨rfl, n, rfl⟩
  have hcl := Lib.compact_length_le zs
  have hlen : (Lib.compact zs ++ List.replicate (zs.length - (Lib.compact zs).length) 0).length = zs.length := by simp; omega
  have hb2 : hasBlk (Sort.ahead w n) (g, el, cs) := hb
  have := putRow_blk (d := Lib.compact zs ++ List.replicate (zs.length - (Lib.compact zs).length) 0) hb2 (by omega)
  rw [hlen] at this
  have hbel := putRow_below (w := w) (g := g) (q := n) (d := Lib.compact zs ++ List.replicate (zs.length - (Lib.compact zs).length) 0) #[]
  have hg0 : ∀ W : World, grow W #[] = W := fun W => by simp [grow]
  rw [hg0] at hbel
  exact ⟨_, rfl, rfl, hbel, this⟩

/-- The same at an empty slice; 'g' any block, which stays. -/
theorem sort0_fn (w : World) (A : Option Addr) (cap g el : Nat) (cs : List Value) (hb : hasBlk w (g, el, cs)) : Does Tryd.prog 63 #[.slice A 0 cap] w fun _ w' => BelowB [g] w w' ∧ hasBlk w' (g, el, cs) := by
  refine Calls.mono (Tryd.slices_Sort_int_none A cap w) ?_
  rintro e w' ⟨rfl, rfl⟩
  exact ⟨_, rfl, BelowB.refl _ _, hb⟩
theorem compact0_fn (w : World) (A : Option Addr) (cap g el : Nat) (cs : List Value) (hb : hasBlk w (g, el, cs)) : Does Tryd.prog 64 #[.slice A 0 cap] w fun v w' => v = .slice A 0 cap ∧ BelowB [g] w w' ∧ hasBlk w' (g, el, cs) := by
  refine Calls.mono (Tryd.slices_Compact_int_empty A cap w) ?_
  rintro e w' ⟨rfl, rfl⟩
  exact ⟨_, rfl, rfl, BelowB.refl _ _, hb⟩
end Go.Proofs.YtinhchacppkmgaaDoor
