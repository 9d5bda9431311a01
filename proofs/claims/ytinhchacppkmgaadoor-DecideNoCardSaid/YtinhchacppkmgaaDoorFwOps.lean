/-
  The framework, second part: what the operations do, one rule each; memory that a call has made itself.
-/
import Derived.Test.YtinhchacppkmgaaDoorFwCore
namespace Go.Fw
open Go.RowKit

/-! ### Worlds -/

/-- A block of cells of the call's own: its number, its element type, its cells. -/
abbrev Blk := Nat × TypeId × List Value

def hasBlk (w : World) (b : Blk) : Prop := w.heap[b.1]? = some (.cells b.2.2.toArray b.2.1 (0, 0))

/-- What is known of a block of the call's own; 'none': there is no block (a nil slice). -/
abbrev Ent := Option Nat × TypeId × List Value

/-- Nothing that lay in 'w' has turned but for the blocks of M. -/
structure BelowB (M : List Nat) (w w' : World) : Prop where
  os : w'.os = w.os
  tape : w'.tape = w.tape
  output : w'.output = w.output
  size : w.heap.size ≤ w'.heap.size
  block : ∀ k, k < w.heap.size → k ∉ M → w'.heap[k]? = w.heap[k]?

theorem BelowB.refl (M : List Nat) (w : World) : BelowB M w w := ⟨rfl, rfl, rfl, Nat.le_refl _, fun _ _ _ => rfl⟩
theorem BelowB.of {M : List Nat} {w w' : World} (h : Below w.heap.size w w') : BelowB M w w' := ⟨h.os, h.tape, h.output, h.size, fun k hk _ => h.block k hk⟩
theorem BelowB.nil {w w' : World} (h : BelowB [] w w') : Below w.heap.size w w' := ⟨h.os, h.tape, h.output, h.size, fun k hk => h.block k hk (by simp)⟩
theorem BelowB.trans {M : List Nat} {a b c : World} (h : BelowB M a b) (k : BelowB M b c) : BelowB M a c :=
  ⟨k.os.trans h.os, k.tape.trans h.tape, k.output.trans h.output, Nat.le_trans h.size k.size, fun i hi hm => (k.block i (Nat.lt_of_lt_of_le hi h.size) hm).trans (h.block i hi hm)⟩

/-- The world 'w' behind 'w0': of what lay in w0 only the blocks of M have turned; the blocks L are known: new ones, or of M. -/
structure St (M : List Nat) (w0 w : World) (L : List Ent) : Prop where
  below : BelowB M w0 w
  own : ∀ b ∈ L, ∀ g, b.1 = some g → (w0.heap.size ≤ g ∨ g ∈ M) ∧ hasBlk w (g, b.2)
  apart : L.Pairwise fun b b' => ∀ g, b.1 = some g → b'.1 ≠ some g

/-- All blocks of 'w' but those of M lie in 'w'' as they lay. -/
structure Keep (M : List Nat) (w w' : World) : Prop where
  size : w.heap.size ≤ w'.heap.size
  same : ∀ b, b < w.heap.size → b ∉ M → w'.heap[b]? = w.heap[b]?

theorem Keep.refl (M : List Nat) (w : World) : Keep M w w := ⟨Nat.le_refl _, fun _ _ _ => rfl⟩
theorem Keep.trans {M : List Nat} {a b c : World} (h : Keep M a b) (k : Keep M b c) : Keep M a c :=
  ⟨Nat.le_trans h.size k.size, fun i hi hm => (k.same i (Nat.lt_of_lt_of_le hi h.size) hm).trans (h.same i hi hm)⟩
theorem Keep.of_nil {M : List Nat} {a b : World} (h : Keep [] a b) : Keep M a b := ⟨h.size, fun i hi _ => h.same i hi (by simp)⟩
theorem Keep.of_below {M : List Nat} {a b : World} (h : Below a.heap.size a b) : Keep M a b := ⟨h.size, fun i hi _ => h.block i hi⟩
theorem Keep.cell {M : List Nat} {w w' : World} (h : Keep M w w') {a : Addr} {v : Value} (hm : a.block ∉ M) (hc : w.cell? a = some v) : w'.cell? a = some v := by
  have hlt := World.block_lt_of_cell? (w := w) (a := a) hc
  rw [World.cell?_of_block (w := w) (h.same a.block hlt hm)]; exact hc

theorem hasBlk.lt {w : World} {b : Blk} (h : hasBlk w b) : b.1 < w.heap.size := by
  unfold hasBlk at h
  rcases Nat.lt_or_ge b.1 w.heap.size with hlt | hge
  · exact hlt
  · rw [Array.getElem?_eq_none hge] at h; cases h

theorem hasBlk.cell {w : World} {g t : Nat} {cs : List Value} (h : hasBlk w (g, t, cs)) {o : Nat} {v : Value} (hv : cs[o]? = some v) : w.cell? ⟨g, o, none⟩ = some v := by
  unfold hasBlk at h
  simp only [World.cell?, h]
  simpa using hv

theorem hasBlk.frozen {w : World} {g t : Nat} {cs : List Value} (h : hasBlk w (g, t, cs)) (o : Nat) : w.frozen? ⟨g, o, none⟩ = false := by
  unfold hasBlk at h
  simp [World.frozen?, h]

section
variable {w0 w w' : World} {L : List Ent} {M : List Nat}

theorem St.refl (w : World) : St [] w w [] := ⟨BelowB.refl _ _, by simp, by simp⟩

theorem St.size (S : St M w0 w L) : w0.heap.size ≤ w.heap.size := S.below.size
theorem St.fin (S : St [] w0 w L) : Below w0.heap.size w0 w := S.below.nil

theorem St.oldM (S : St M w0 w L) {a : Addr} {v : Value} (hm : a.block ∉ M) (hc : w0.cell? a = some v) : w.cell? a = some v := by
  have hlt := World.block_lt_of_cell? (w := w0) (a := a) hc
  rw [World.cell?_of_block (w := w0) (S.below.block a.block hlt hm)]; exact hc
theorem St.old (S : St [] w0 w L) {a : Addr} {v : Value} (hc : w0.cell? a = some v) : w.cell? a = some v := S.oldM (by simp) hc

theorem St.keepM (S : St M w0 w L) : Keep M w0 w := ⟨S.below.size, fun i hi hm => S.below.block i hi hm⟩
theorem St.keep0 (S : St [] w0 w L) (M : List Nat) : Keep M w0 w := ⟨S.below.size, fun i hi _ => S.below.block i hi (by simp)⟩

theorem St.blk (S : St M w0 w L) (k : Nat) {g t : Nat} {cs : List Value} (hk : L[k]? = some (some g, t, cs)) : hasBlk w (g, t, cs) := (S.own _ (List.mem_of_getElem? hk) g rfl).2
theorem St.new (S : St M w0 w L) (k : Nat) {g t : Nat} {cs : List Value} (hk : L[k]? = some (some g, t, cs)) : w0.heap.size ≤ g ∨ g ∈ M := (S.own _ (List.mem_of_getElem? hk) g rfl).1
theorem St.lt (S : St M w0 w L) (k : Nat) {g t : Nat} {cs : List Value} (hk : L[k]? = some (some g, t, cs)) : g < w.heap.size := (S.blk k hk).lt

theorem St.cell (S : St M w0 w L) (k : Nat) {g t : Nat} {cs : List Value} (hk : L[k]? = some (some g, t, cs)) {o : Nat} {v : Value} (hv : cs[o]? = some v) : w.cell? ⟨g, o, none⟩ = some v :=
  (S.blk k hk).cell hv

theorem St.keeps (S : St M w0 w L) (hb : BelowB M w0 w') (hk : ∀ b ∈ L, ∀ g, b.1 = some g → w'.heap[g]? = w.heap[g]?) : St M w0 w' L :=
  ⟨hb, fun b hm g hg => ⟨(S.own b hm g hg).1, (hk b hm g hg).trans (S.own b hm g hg).2⟩, S.apart⟩

theorem St.later (S : St M w0 w L) (hb : Below w.heap.size w w') : St M w0 w' L :=
  S.keeps (S.below.trans (BelowB.of hb)) fun b hm g hg => hb.block g (S.own b hm g hg).2.lt

theorem St.drew (S : St M w0 w L) : St M w0 w.drew L := ⟨⟨S.below.os, S.below.tape, S.below.output, S.below.size, S.below.block⟩, S.own, S.apart⟩

/-- Some of the blocks are forgotten. -/
theorem St.tail {x : Ent} (S : St M w0 w (x :: L)) : St M w0 w L := ⟨S.below, fun b hm => S.own b (List.mem_cons_of_mem _ hm), (List.pairwise_cons.1 S.apart).2⟩
theorem St.nil (S : St M w0 w L) : St M w0 w [] := ⟨S.below, by simp, by simp⟩

theorem St.push (S : St M w0 w L) {g t : Nat} {cs : List Value} (hg : hasBlk w (g, t, cs)) (hlo : w0.heap.size ≤ g ∨ g ∈ M) (hne : ∀ b ∈ L, b.1 ≠ some g) : St M w0 w ((some g, t, cs) :: L) := by
  refine ⟨S.below, fun b hm g' hg' => ?_, ?_⟩
  · rcases List.mem_cons.1 hm with rfl | hm
    · cases hg'; exact ⟨hlo, hg⟩
    · exact S.own b hm g' hg'
  · refine List.pairwise_cons.2 ⟨fun b hb g' hg' => ?_, S.apart⟩
    cases hg'; exact hne b hb

/-- The call begins; two blocks that it was handed may turn. -/
theorem St.borrow1 {g t : Nat} {cs : List Value} (h : hasBlk w (g, t, cs)) : St [g] w w [(some g, t, cs)] :=
  (⟨BelowB.refl _ _, by simp, by simp⟩ : St [g] w w []).push h (.inr (by simp)) (by simp)
theorem St.borrow2 {g g' t t' : Nat} {cs cs' : List Value} (h : hasBlk w (g, t, cs)) (h' : hasBlk w (g', t', cs')) (hne : g ≠ g') : St [g, g'] w w [(some g, t, cs), (some g', t', cs')] :=
  ((⟨BelowB.refl _ _, by simp, by simp⟩ : St [g, g'] w w []).push h' (.inr (by simp)) (by simp)).push h (.inr (by simp)) (by simpa using fun e : g' = g => hne e.symm)

/-- A block that was not there when the blocks of L were. -/
theorem St.push_new {w1 : World} (S : St M w0 w1 L) (Sw : St M w0 w L) {g t : Nat} {cs : List Value} (hg : hasBlk w1 (g, t, cs)) (hlo : w.heap.size ≤ g) : St M w0 w1 ((some g, t, cs) :: L) :=
  S.push hg (.inl (Nat.le_trans Sw.size hlo)) fun b hb he => by have := (Sw.own b hb g he).2.lt; simp at this; omega

theorem St.nilEnt (S : St M w0 w L) (t : TypeId) : St M w0 w ((none, t, []) :: L) := by
  refine ⟨S.below, fun b hm g' hg' => ?_, List.pairwise_cons.2 ⟨fun b hb g' hg' => (by cases hg'), S.apart⟩⟩
  rcases List.mem_cons.1 hm with rfl | hm
  · cases hg'
  · exact S.own b hm g' hg'

theorem BelowB.alloc (h : BelowB M w0 w) (o : Obj) : BelowB M w0 (w.alloc o) :=
  ⟨h.os, h.tape, h.output, Nat.le_trans h.size (by simp), fun k hk hm => (Below.heap_alloc w o k (Nat.lt_of_lt_of_le hk h.size)).trans (h.block k hk hm)⟩
theorem BelowB.setCell (h : BelowB M w0 w) {g : Nat} (o : Nat) (v : Value) (hg : w0.heap.size ≤ g ∨ g ∈ M) : BelowB M w0 (w.setCell ⟨g, o, none⟩ v) :=
  ⟨h.os, h.tape, h.output, by simpa using h.size, fun k hk hm => (Below.heap_setCell w ⟨g, o, none⟩ v k (fun e => by
    simp only at e
    subst e
    rcases hg with hg | hg
    · omega
    · exact hm hg)).trans (h.block k hk hm)⟩

theorem St.alloc (S : St M w0 w L) (t : TypeId) (cs : List Value) : St M w0 (w.alloc (.cells cs.toArray t)) ((some w.heap.size, t, cs) :: L) := by
  have S1 : St M w0 (w.alloc (.cells cs.toArray t)) L := S.keeps (S.below.alloc _) fun b hm g hg => Below.heap_alloc w _ g (S.own b hm g hg).2.lt
  exact S1.push_new S (by show (w.heap.push _)[w.heap.size]? = _; simp) (Nat.le_refl _)

theorem keep_alloc (w : World) (o : Obj) (M : List Nat) : Keep M w (w.alloc o) := ⟨by simp, fun b hb _ => Below.heap_alloc w o b hb⟩
theorem keep_drew (w : World) (M : List Nat) : Keep M w w.drew := ⟨Nat.le_refl _, fun _ _ _ => rfl⟩
theorem keep_setCell (w : World) (g o : Nat) (v : Value) : Keep [g] w (w.setCell ⟨g, o, none⟩ v) :=
  ⟨by simp, fun b _ hm => Below.heap_setCell w ⟨g, o, none⟩ v b (by simpa using hm)⟩
theorem Keep.mono {M' : List Nat} (h : Keep M w w') (hs : ∀ g ∈ M, g ∈ M') : Keep M' w w' := ⟨h.size, fun i hi hm => h.same i hi fun hh => hm (hs i hh)⟩

theorem heap_setCell_same {w : World} {g t : Nat} {cs : List Value} (h : hasBlk w (g, t, cs)) (o : Nat) (v : Value) : hasBlk (w.setCell ⟨g, o, none⟩ v) (g, t, cs.set o v) := by
  unfold hasBlk at *
  simp only [World.setCell, Array.getElem?_modify, h]
  simp

theorem pairwise_get {l : List Nat} (h : l.Pairwise (· ≠ ·)) {i j a : Nat} (hi : l[i]? = some a) (hj : l[j]? = some a) : i = j := by
  induction l generalizing i j with
  | nil => simp at hi
  | cons x xs ih =>
    obtain ⟨hx, hxs⟩ := List.pairwise_cons.1 h
    cases i <;> cases j
    · rfl
    · simp at hi hj; subst hi; exact absurd rfl (hx _ (List.mem_of_getElem? hj))
    · simp at hi hj; subst hj; exact absurd rfl (hx _ (List.mem_of_getElem? hi))
    · simp at hi hj; rw [ih hxs hi hj]

theorem ent_get {l : List Ent} (h : l.Pairwise fun b b' => ∀ g, b.1 = some g → b'.1 ≠ some g) {i j g : Nat} {a b : Ent} (hi : l[i]? = some a) (hj : l[j]? = some b) (ha : a.1 = some g) (hb : b.1 = some g) : i = j := by
  induction l generalizing i j with
  | nil => simp at hi
  | cons x xs ih =>
    obtain ⟨hx, hxs⟩ := List.pairwise_cons.1 h
    cases i <;> cases j
    · rfl
    · simp at hi hj; subst hi; exact absurd hb (hx _ (List.mem_of_getElem? hj) g ha)
    · simp at hi hj; subst hj; exact absurd ha (hx _ (List.mem_of_getElem? hi) g hb)
    · simp at hi hj; rw [ih hxs hi hj]

/-- One entry is replaced: all other blocks are as they were. -/
theorem St.replace (S : St M w0 w L) (k : Nat) {x y : Ent} (hk : L[k]? = some x) (hb : BelowB M w0 w') (hsame : ∀ b, b < w.heap.size → x.1 ≠ some b → w'.heap[b]? = w.heap[b]?)
    (hy : ∀ g, y.1 = some g → (w0.heap.size ≤ g ∨ g ∈ M) ∧ hasBlk w' (g, y.2) ∧ (x.1 = some g ∨ w.heap.size ≤ g)) : St M w0 w' (L.set k y) := by
  have hkl : k < L.length := (List.getElem?_eq_some_iff.1 hk).1
  have other : ∀ (j : Nat) (b : Ent) (g : Nat), L[j]? = some b → j ≠ k → b.1 = some g → x.1 ≠ some g := fun j b g hj hjk hbg hx => hjk (ent_get S.apart hj hk hbg hx)
  refine ⟨hb, fun b hm g hg => ?_, ?_⟩
  · obtain ⟨j, hj⟩ := List.getElem?_of_mem hm
    rw [List.getElem?_set] at hj
    split at hj
    · rename_i hkj
      subst hkj
      cases hj; exact ⟨(hy g hg).1, (hy g hg).2.1⟩
    · rename_i hkj
      have hmem := List.mem_of_getElem? hj
      have ho := S.own b hmem g hg
      exact ⟨ho.1, (hsame g ho.2.lt (other j b g hj (fun h => hkj h.symm) hg)).trans ho.2⟩
  · rw [List.pairwise_iff_getElem]
    intro i j hi hj hij g hgi hgj
    simp only [List.length_set] at hi hj
    have gi : L[i]? = some L[i] := List.getElem?_eq_getElem hi
    have gj : L[j]? = some L[j] := List.getElem?_eq_getElem hj
    have key : ∀ (m : Nat) (b : Ent), L[m]? = some b → m ≠ k → b.1 = some g → y.1 ≠ some g := fun m b hm hmk hbg hyg => by
      rcases (hy g hyg).2.2 with h | h
      · exact other m b g hm hmk hbg h
      · have := (S.own b (List.mem_of_getElem? hm) g hbg).2.lt; simp at this; omega
    rw [List.getElem_set] at hgi hgj
    split at hgi
    · rename_i hki
      split at hgj
      · rename_i hkj; omega
      · rename_i hkj; exact key j _ gj (fun h => hkj h.symm) hgj hgi
    · rename_i hki
      split at hgj
      · exact key i _ gi (fun h => hki h.symm) hgi hgj
      · have := ent_get S.apart gi gj hgi hgj; omega

/-- A call has turned blocks of ours. -/
theorem St.changed {G : List Nat} {L' : List Ent} (S : St M w0 w L) (hb : BelowB G w w') (hG : ∀ g ∈ G, w0.heap.size ≤ g ∨ g ∈ M) (hsame : L'.map (·.1) = L.map (·.1)) (hblk : ∀ b ∈ L', ∀ g, b.1 = some g → hasBlk w' (g, b.2)) : St M w0 w' L' := by
  refine ⟨⟨hb.os.trans S.below.os, hb.tape.trans S.below.tape, hb.output.trans S.below.output, Nat.le_trans S.size hb.size, fun k hk hm => ?_⟩, fun b hm g hg => ⟨?_, hblk b hm g hg⟩, ?_⟩
  · refine (hb.block k (Nat.lt_of_lt_of_le hk S.size) fun h => ?_).trans (S.below.block k hk hm)
    rcases hG k h with h' | h'
    · omega
    · exact hm h'
  · obtain ⟨i, hi⟩ := List.getElem?_of_mem hm
    have h1 : (L'.map (·.1))[i]? = some (some g) := by simp [hi, hg]
    rw [hsame] at h1
    simp only [List.getElem?_map, Option.map_eq_some_iff] at h1
    obtain ⟨c, hc, hcg⟩ := h1
    exact (S.own c (List.mem_of_getElem? hc) g hcg).1
  · have key : ∀ (X : List Ent), (X.Pairwise fun b b' => ∀ g, b.1 = some g → b'.1 ≠ some g) ↔ ((X.map (·.1)).Pairwise fun x y => ∀ g, x = some g → y ≠ some g) := fun X => by rw [List.pairwise_map]
    rw [key, hsame, ← key]; exact S.apart

theorem St.changed1 {g t t' : Nat} {cs cs' : List Value} (S : St M w0 w L) (i : Nat) (hi : L[i]? = some (some g, t, cs)) (hb : BelowB [g] w w') (h1 : hasBlk w' (g, t', cs')) : St M w0 w' (L.set i (some g, t', cs')) := by
  have hil : i < L.length := (List.getElem?_eq_some_iff.1 hi).1
  refine S.changed hb (fun x hx => ?_) ?_ (fun b hm x hx => ?_)
  · simp at hx; subst hx; exact S.new i hi
  · apply List.ext_getElem?
    intro m
    simp only [List.getElem?_map, List.getElem?_set]
    split
    · rename_i h; subst h; rw [hi]; rfl
    · rfl
  · obtain ⟨m, hm'⟩ := List.getElem?_of_mem hm
    rw [List.getElem?_set] at hm'
    split at hm'
    · rename_i h; subst h; cases hm'; cases hx; exact h1
    · rename_i hne
      have ho := S.own b (List.mem_of_getElem? hm') x hx
      exact (hb.block x ho.2.lt (fun hh => by simp at hh; subst hh; exact hne (ent_get S.apart hi hm' rfl hx))).trans ho.2

theorem St.changed2 {g g' t t' : Nat} {cs cs' ds ds' : List Value} (S : St M w0 w L) (i j : Nat) (hi : L[i]? = some (some g, t, cs)) (hj : L[j]? = some (some g', t', ds)) (hb : BelowB [g, g'] w w')
    (h1 : hasBlk w' (g, t, cs')) (h2 : hasBlk w' (g', t', ds')) : St M w0 w' ((L.set i (some g, t, cs')).set j (some g', t', ds')) := by
  have hil : i < L.length := (List.getElem?_eq_some_iff.1 hi).1
  have hjl : j < L.length := (List.getElem?_eq_some_iff.1 hj).1
  refine S.changed hb (fun x hx => ?_) ?_ (fun b hm x hx => ?_)
  · simp at hx; rcases hx with rfl | rfl
    · exact S.new i hi
    · exact S.new j hj
  · apply List.ext_getElem?
    intro m
    simp only [List.getElem?_map, List.getElem?_set, List.length_set]
    split
    · rename_i h; subst h; rw [hj]; rfl
    · split
      · rename_i h; subst h; rw [hi]; rfl
      · rfl
  · obtain ⟨m, hm'⟩ := List.getElem?_of_mem hm
    rw [List.getElem?_set] at hm'
    split at hm'
    · rename_i h; subst h
      split at hm'
      · cases hm'; cases hx; exact h2
      · cases hm'
    · rename_i hne
      rw [List.getElem?_set] at hm'
      split at hm'
      · rename_i h; subst h
        cases hm'; cases hx; exact h1
      · rename_i hne'
        have ho := S.own b (List.mem_of_getElem? hm') x hx
        exact (hb.block x ho.2.lt (fun hh => by
          simp at hh; rcases hh with rfl | rfl
          · exact hne' (ent_get S.apart hi hm' rfl hx)
          · exact hne (ent_get S.apart hj hm' rfl hx))).trans ho.2

theorem St.set (S : St M w0 w L) (k : Nat) {g t : Nat} {cs : List Value} (hk : L[k]? = some (some g, t, cs)) (o : Nat) (v : Value) :
    St M w0 (w.setCell ⟨g, o, none⟩ v) (L.set k (some g, t, cs.set o v)) := by
  have hg := S.own _ (List.mem_of_getElem? hk) g rfl
  refine S.replace k hk (S.below.setCell o v hg.1) (fun b _ hne => Below.heap_setCell w ⟨g, o, none⟩ v b (fun h => hne (by rw [h]))) (fun g' hg' => ?_)
  cases hg'
  exact ⟨hg.1, heap_setCell_same hg.2 o v, .inl rfl⟩
end

/-! ### The operations -/

section
variable {P : Program} {r : Option Nat} {N : Nat} {D : List Deferred} {e : Env} {w w0 : World} {ops : Array Oper} {rest : List Oper} {K : List Deferred → Env → World → Prop} {L : List Ent} {M : List Nat}
variable {d : Nat} {t : TypeId} {p : String} {af : Array Edge}

theorem o_move {x : Operand} {v : Value} (hv : ev e x = v) (hd : Nat.ble (d + 1) N = true) (h : WL P r N ops rest K D (upd e d v) w) : WL P r N ops (⟨some d, .move x, t, p, af, none⟩ :: rest) K D e w :=
  WL_val rfl rfl hd (by simp) (by simp only [execOp, hv, Sem.run_pure]) h
theorem o_assign {x : Operand} {v : Value} (hv : ev e x = v) (hd : Nat.ble (d + 1) N = true) (h : WL P r N ops rest K D (upd e d v) w) : WL P r N ops (⟨some d, .assign x, t, p, af, none⟩ :: rest) K D e w :=
  WL_val rfl rfl hd (by simp) (by simp only [execOp, hv, Sem.run_pure]) h
theorem o_pick {c a b : Operand} {t' : Bool} {v : Value} (hc : ev e c = .bool t') (hv : (bif t' then ev e a else ev e b) = v) (hd : Nat.ble (d + 1) N = true) (h : WL P r N ops rest K D (upd e d v) w) :
    WL P r N ops (⟨some d, .pick c a b, t, p, af, none⟩ :: rest) K D e w :=
  WL_val rfl rfl hd (by simp) (by subst hv; cases t' <;> simp [execOp, hc, asBool]) h

/-- A block of its own for a value. -/
theorem o_box {el : TypeId} {x : Operand} {v : Value} {cs : List Value} (S : St M w0 w L) (hv : ev e x = v) (hcs : v.cells.toList = cs) (hd : Nat.ble (d + 1) N = true)
    (h : ∀ g w1, St M w0 w1 ((some g, el, cs) :: L) → Keep [] w w1 → w.heap.size ≤ g → WL P r N ops rest K D (upd e d (.pointer (some ⟨g, 0, none⟩))) w1) :
    WL P r N ops (⟨some d, .box el x, t, p, af, none⟩ :: rest) K D e w := by
  refine WL_val (v := .pointer (some ⟨w.heap.size, 0, none⟩)) (w' := w.alloc (.cells cs.toArray el)) rfl rfl hd (by simp) ?_ (h _ _ (S.alloc el cs) (keep_alloc _ _ _) (Nat.le_refl _))
  subst hcs
  simp [execOp, Instr.box, newVar, newRow, hv]

theorem o_boxa {el : TypeId} {x : Operand} {cs : List Value} (S : St M w0 w L) (hv : ev e x = .agg cs.toArray) (hd : Nat.ble (d + 1) N = true)
    (h : ∀ g w1, St M w0 w1 ((some g, el, cs) :: L) → Keep [] w w1 → w.heap.size ≤ g → WL P r N ops rest K D (upd e d (.pointer (some ⟨g, 0, none⟩))) w1) :
    WL P r N ops (⟨some d, .box el x, t, p, af, none⟩ :: rest) K D e w := o_box S hv (by simp [Value.cells]) hd h
theorem o_box1 {el : TypeId} {x : Operand} {v : Value} (S : St M w0 w L) (hv : ev e x = v) (hcs : v.cells.toList = [v]) (hd : Nat.ble (d + 1) N = true)
    (h : ∀ g w1, St M w0 w1 ((some g, el, [v]) :: L) → Keep [] w w1 → w.heap.size ≤ g → WL P r N ops rest K D (upd e d (.pointer (some ⟨g, 0, none⟩))) w1) :
    WL P r N ops (⟨some d, .box el x, t, p, af, none⟩ :: rest) K D e w := o_box S hv hcs hd h

theorem o_alloc {el : TypeId} {z : Value} {cs : List Value} (S : St M w0 w L) (hz : ∀ w, (zeroValue el).run P w = .ok z w) (hcs : z.cells.toList = cs) (hd : Nat.ble (d + 1) N = true)
    (h : ∀ g w1, St M w0 w1 ((some g, el, cs) :: L) → Keep [] w w1 → w.heap.size ≤ g → WL P r N ops rest K D (upd e d (.pointer (some ⟨g, 0, none⟩))) w1) :
    WL P r N ops (⟨some d, .alloc el, t, p, af, none⟩ :: rest) K D e w := by
  refine WL_val (v := .pointer (some ⟨w.heap.size, 0, none⟩)) (w' := w.alloc (.cells cs.toArray el)) rfl rfl hd (by simp) ?_ (h _ _ (S.alloc el cs) (keep_alloc _ _ _) (Nat.le_refl _))
  subst hcs
  simp [execOp, Instr.alloc, newVar, newRow, hz]

theorem o_nilCheck {x : Operand} {a : Addr} (hx : ev e x = .pointer (some a)) (hd : Nat.ble (d + 1) N = true) (h : WL P r N ops rest K D (upd e d (.pointer (some a))) w) :
    WL P r N ops (⟨some d, .nilCheck x, t, p, af, none⟩ :: rest) K D e w :=
  WL_val rfl rfl hd (by simp) (by simp [execOp, hx]) h

/-- A field's place: its offset in cells. -/
def FA (P : Program) (s f off : Nat) : Prop := ∀ (w : World) (a : Addr), (Instr.fieldAt s (.pointer (some a)) f).run P w = .ok (.pointer (some (a.add off))) w

theorem fa_of {s f off n : Nat} {fs : Array Field} {fld : Field} (hu : P.underlying s = some (.struct fs)) (hf : fs[f]? = some fld) (ho : fld.offset = off)
    (hi : (P.info? fld.type).map (·.size) = some (n + 1)) : FA P s f off := by
  intro w a
  cases hinfo : P.info? fld.type with
  | none => rw [hinfo] at hi; cases hi
  | some i =>
    rw [hinfo] at hi
    have hsz : i.size = n + 1 := by simpa using hi
    simp [Instr.fieldAt, run_underlying hu, hf, Instr.sureAddr, fieldPlace, sizeOf, typeInfo, hinfo, hsz, ho]

theorem o_fieldAddr {s f off b o : Nat} {x : Operand} (hF : FA P s f off) (hx : ev e x = .pointer (some ⟨b, o, none⟩)) (hd : Nat.ble (d + 1) N = true)
    (h : WL P r N ops rest K D (upd e d (.pointer (some ⟨b, o + off, none⟩))) w) : WL P r N ops (⟨some d, .fieldAddr s x f, t, p, af, none⟩ :: rest) K D e w :=
  WL_val rfl rfl hd (by simp) (by simp [execOp, hx, hF w, Addr.add_lit]) h

/-- A type of one cell. -/
def One (P : Program) (t : TypeId) : Prop := ∀ (w : World) (a : Addr), (loadVar t a).run P w = (load a).run P w

theorem one_of {t : TypeId} {ds : TypeDesc} (hu : P.underlying t = some ds) (h1 : ∀ fs, ds ≠ .struct fs) (h2 : ∀ n e, ds ≠ .array n e) : One P t := by
  intro w a
  have : (isAgg t).run P w = .ok false w := by
    simp only [isAgg, Sem.run_bind, run_underlying hu, Result.andThen_ok]
    cases ds <;> first | rfl | exact absurd rfl (h1 _) | exact absurd rfl (h2 _ _)
  simp only [loadVar, Sem.run_bind, this, Result.andThen_ok]
  rfl

theorem o_load {ty b o : Nat} {x : Operand} {v : Value} (h1 : One P ty) (hx : ev e x = .pointer (some ⟨b, o, none⟩)) (hc : w.cell? ⟨b, o, none⟩ = some v) (hd : Nat.ble (d + 1) N = true)
    (h : WL P r N ops rest K D (upd e d v) w) : WL P r N ops (⟨some d, .load ty x, t, p, af, none⟩ :: rest) K D e w :=
  WL_val rfl rfl hd (by simp) (by simp [execOp, hx, Instr.loadAt, Instr.sureAddr, h1 w, hc]) h

/-- Cells in a row. -/
def Cells (w : World) (b o : Nat) (cs : List Value) : Prop := ∀ j v, cs[j]? = some v → w.cell? ⟨b, o + j, none⟩ = some v

theorem St.cells (S : St M w0 w L) (k : Nat) {g t : Nat} {cs : List Value} (hk : L[k]? = some (some g, t, cs)) : Cells w g 0 cs :=
  fun j v hj => by rw [Nat.zero_add]; exact S.cell k hk hj
theorem St.cellsAt (S : St M w0 w L) (k off n : Nat) {g t : Nat} {cs : List Value} (hk : L[k]? = some (some g, t, cs)) : Cells w g off ((cs.drop off).take n) := fun j v hj => by
  rw [List.getElem?_take] at hj
  split at hj
  · rw [List.getElem?_drop] at hj; exact S.cell k hk hj
  · cases hj

/-- A type of several cells. -/
def Many (P : Program) (t : TypeId) (n : Nat) : Prop := ∀ (w : World) (a : Addr), (loadVar t a).run P w = ((loadCells a n).run P w).andThen fun cs w => .ok (.agg cs) w

theorem many_of {t : TypeId} {n : Nat} (h1 : (P.underlying t).elim False (fun ds => (∃ fs, ds = .struct fs) ∨ ∃ k el, ds = .array k el)) (hn : (P.info? t).map (·.size) = some n) : Many P t n := by
  intro w a
  cases hu : P.underlying t with
  | none => rw [hu] at h1; exact h1.elim
  | some ds =>
    rw [hu] at h1
    have hagg : (isAgg t).run P w = .ok true w := by
      simp only [isAgg, Sem.run_bind, run_underlying hu, Result.andThen_ok]
      rcases h1 with ⟨fs, rfl⟩ | ⟨k, el, rfl⟩ <;> rfl
    have hsz : (sizeOf t).run P w = .ok n w := by
      cases hi : P.info? t with
      | none => rw [hi] at hn; cases hn
      | some i => rw [hi] at hn; simp at hn; simp [sizeOf, typeInfo, hi, hn]
    simp only [loadVar, Sem.run_bind, hagg, Result.andThen_ok, if_true, hsz]
    rfl

theorem o_loadN {ty n b o : Nat} {x : Operand} {cs : List Value} (hM : Many P ty n) (hx : ev e x = .pointer (some ⟨b, o, none⟩)) (hc : Cells w b o cs) (hn : cs.length = n) (hd : Nat.ble (d + 1) N = true)
    (h : WL P r N ops rest K D (upd e d (.agg cs.toArray)) w) : WL P r N ops (⟨some d, .load ty x, t, p, af, none⟩ :: rest) K D e w :=
  WL_val rfl rfl hd (by simp) (by
    subst hn
    have := run_loadCells_list (P := P) w ⟨b, o, none⟩ cs (fun j v hj => by rw [Addr.add_lit]; exact hc j v hj)
    simp [execOp, hx, Instr.loadAt, Instr.sureAddr, hM w, this]) h

/-! Integers -/

def i64 (n : Int) : Prop := -9223372036854775808 ≤ n ∧ n ≤ 9223372036854775807

theorem wrap_id {n : Int} (h : i64 n) : IntKind.i64.wrap n = n := by
  rw [IntKind.wrap_i64]; unfold i64 at h; omega

variable {x y : Operand} {a b : Int} {xt yt : TypeId} {kd : IntKind}

theorem o_add (hx : ev e x = .int .i64 a) (hy : ev e y = .int .i64 b) (hr : i64 (a + b)) (hd : Nat.ble (d + 1) N = true) (h : WL P r N ops rest K D (upd e d (.int .i64 (a + b))) w) :
    WL P r N ops (⟨some d, .binOp .add xt x y yt, t, p, af, none⟩ :: rest) K D e w :=
  WL_val rfl rfl hd (by simp) (by simp [execOp, hx, hy, eqGuard_add, binOp_add, Op.intArith, wrap_id hr]) h
theorem o_sub (hx : ev e x = .int .i64 a) (hy : ev e y = .int .i64 b) (hr : i64 (a - b)) (hd : Nat.ble (d + 1) N = true) (h : WL P r N ops rest K D (upd e d (.int .i64 (a - b))) w) :
    WL P r N ops (⟨some d, .binOp .sub xt x y yt, t, p, af, none⟩ :: rest) K D e w :=
  WL_val rfl rfl hd (by simp) (by simp [execOp, hx, hy, eqGuard_sub, binOp_sub, Op.intArith, wrap_id hr]) h
theorem o_mul (hx : ev e x = .int .i64 a) (hy : ev e y = .int .i64 b) (hr : i64 (a * b)) (hd : Nat.ble (d + 1) N = true) (h : WL P r N ops rest K D (upd e d (.int .i64 (a * b))) w) :
    WL P r N ops (⟨some d, .binOp .mul xt x y yt, t, p, af, none⟩ :: rest) K D e w :=
  WL_val rfl rfl hd (by simp) (by simp [execOp, hx, hy, eqGuard_mul, binOp_mul, Op.intArith, wrap_id hr]) h

theorem o_lss (hx : ev e x = .int kd a) (hy : ev e y = .int kd b) (hd : Nat.ble (d + 1) N = true) (h1 : a < b → WL P r N ops rest K D (upd e d (.bool true)) w) (h2 : b ≤ a → WL P r N ops rest K D (upd e d (.bool false)) w) :
    WL P r N ops (⟨some d, .binOp .lss xt x y yt, t, p, af, none⟩ :: rest) K D e w := by
  by_cases hab : a < b
  · exact WL_val rfl rfl hd (by simp) (by simp [execOp, hx, hy, eqGuard_lss, binOp_lss, hab]) (h1 hab)
  · exact WL_val rfl rfl hd (by simp) (by simp [execOp, hx, hy, eqGuard_lss, binOp_lss, hab]) (h2 (by omega))
theorem o_leq (hx : ev e x = .int kd a) (hy : ev e y = .int kd b) (hd : Nat.ble (d + 1) N = true) (h1 : a ≤ b → WL P r N ops rest K D (upd e d (.bool true)) w) (h2 : b < a → WL P r N ops rest K D (upd e d (.bool false)) w) :
    WL P r N ops (⟨some d, .binOp .leq xt x y yt, t, p, af, none⟩ :: rest) K D e w := by
  by_cases hab : a ≤ b
  · exact WL_val rfl rfl hd (by simp) (by simp [execOp, hx, hy, eqGuard_leq, binOp_leq, hab]) (h1 hab)
  · exact WL_val rfl rfl hd (by simp) (by simp [execOp, hx, hy, eqGuard_leq, binOp_leq, hab]) (h2 (by omega))
theorem o_gtr (hx : ev e x = .int kd a) (hy : ev e y = .int kd b) (hd : Nat.ble (d + 1) N = true) (h1 : b < a → WL P r N ops rest K D (upd e d (.bool true)) w) (h2 : a ≤ b → WL P r N ops rest K D (upd e d (.bool false)) w) :
    WL P r N ops (⟨some d, .binOp .gtr xt x y yt, t, p, af, none⟩ :: rest) K D e w := by
  by_cases hab : b < a
  · exact WL_val rfl rfl hd (by simp) (by simp [execOp, hx, hy, eqGuard_gtr, binOp_gtr, hab]) (h1 hab)
  · exact WL_val rfl rfl hd (by simp) (by simp [execOp, hx, hy, eqGuard_gtr, binOp_gtr, hab]) (h2 (by omega))
theorem o_geq (hx : ev e x = .int kd a) (hy : ev e y = .int kd b) (hd : Nat.ble (d + 1) N = true) (h1 : b ≤ a → WL P r N ops rest K D (upd e d (.bool true)) w) (h2 : a < b → WL P r N ops rest K D (upd e d (.bool false)) w) :
    WL P r N ops (⟨some d, .binOp .geq xt x y yt, t, p, af, none⟩ :: rest) K D e w := by
  by_cases hab : b ≤ a
  · exact WL_val rfl rfl hd (by simp) (by simp [execOp, hx, hy, eqGuard_geq, binOp_geq, hab]) (h1 hab)
  · exact WL_val rfl rfl hd (by simp) (by simp [execOp, hx, hy, eqGuard_geq, binOp_geq, hab]) (h2 (by omega))
theorem o_eql (hx : ev e x = .int kd a) (hy : ev e y = .int kd b) (hd : Nat.ble (d + 1) N = true) (h1 : a = b → WL P r N ops rest K D (upd e d (.bool true)) w) (h2 : a ≠ b → WL P r N ops rest K D (upd e d (.bool false)) w) :
    WL P r N ops (⟨some d, .binOp .eql xt x y yt, t, p, af, none⟩ :: rest) K D e w := by
  by_cases hab : a = b
  · exact WL_val rfl rfl hd (by simp) (by simp [execOp, hx, hy, eqGuard_at_int, binOp_eql, hab]) (h1 hab)
  · exact WL_val rfl rfl hd (by simp) (by simp [execOp, hx, hy, eqGuard_at_int, binOp_eql, hab]) (h2 hab)
theorem o_neq (hx : ev e x = .int kd a) (hy : ev e y = .int kd b) (hd : Nat.ble (d + 1) N = true) (h1 : a ≠ b → WL P r N ops rest K D (upd e d (.bool true)) w) (h2 : a = b → WL P r N ops rest K D (upd e d (.bool false)) w) :
    WL P r N ops (⟨some d, .binOp .neq xt x y yt, t, p, af, none⟩ :: rest) K D e w := by
  by_cases hab : a = b
  · exact WL_val rfl rfl hd (by simp) (by simp [execOp, hx, hy, eqGuard_at_int, binOp_neq, hab]) (h2 hab)
  · exact WL_val rfl rfl hd (by simp) (by simp [execOp, hx, hy, eqGuard_at_int, binOp_neq, hab]) (h1 hab)

theorem o_not {z : Bool} (hx : ev e x = .bool z) (hd : Nat.ble (d + 1) N = true) (h : WL P r N ops rest K D (upd e d (.bool (!z))) w) : WL P r N ops (⟨some d, .unOp .not xt x, t, p, af, none⟩ :: rest) K D e w :=
  WL_val rfl rfl hd (by simp) (by simp [execOp, hx, Op.unary]) h

/-! Slices -/

/-- A slice type; the element's cells. -/
def SlT (P : Program) (ty size : Nat) : Prop := ∃ el, P.underlying ty = some (.slice el) ∧ (P.info? el).map (·.size) = some size

theorem slT_size {ty size : Nat} (h : SlT P ty size) : ∃ el, P.underlying ty = some (.slice el) ∧ ∀ w, (sizeOf el).run P w = .ok size w := by
  obtain ⟨el, hu, hi⟩ := h
  refine ⟨el, hu, fun w => ?_⟩
  cases hh : P.info? el with
  | none => rw [hh] at hi; cases hi
  | some i => rw [hh] at hi; simp at hi; simp [sizeOf, typeInfo, hh, hi]

theorem o_len {ty size : Nat} {A : Option Addr} {n c : Nat} (hT : SlT P ty size) (hx : ev e x = .slice A n c) (hd : Nat.ble (d + 1) N = true) (h : WL P r N ops rest K D (upd e d (.int .i64 n)) w) :
    WL P r N ops (⟨some d, .call { callee := .builtin .len, args := #[x], argTypes := #[ty] }, t, p, af, none⟩ :: rest) K D e w := by
  obtain ⟨el, hu, _⟩ := hT
  exact WL_val rfl rfl hd (by simp) (by simp [execOp, resolve, invoke, builtin, Builtin.len_, hx, run_underlying hu, goInt]) h

theorem o_indexAddr {ty size b o n c : Nat} {A : Option Addr} (hT : SlT P ty size) (hx : ev e x = .slice A n c) (hA : A = some ⟨b, o, none⟩) (hy : ev e y = .int kd a) (h0 : 0 ≤ a) (h1 : a < n) (hd : Nat.ble (d + 1) N = true)
    (h : WL P r N ops rest K D (upd e d (.pointer (some ⟨b, o + a.toNat * size, none⟩))) w) : WL P r N ops (⟨some d, .indexAddr ty x y, t, p, af, none⟩ :: rest) K D e w := by
  obtain ⟨el, hu, hsz⟩ := slT_size hT
  subst hA
  exact WL_val rfl rfl hd (by simp) (by simp [execOp, Instr.indexAt, hx, hy, asIntOf, run_underlying hu, h0, h1, hsz, Addr.add_lit]) h

/-! Calls of a function of the program -/

theorem run_enter {f : FuncId} {args : Array Value} {fn : Func} (hf : P.funcs[f]? = some fn) (hn : (fn.name == "runtime.NumGoroutine") = false) (hb : fn.body.isNone = false) (w : World) :
    (callFunc f args).run P w = .ok (.enter f args) w := by
  simp only [callFunc, Sem.run_bind, run_program, Result.andThen_ok, hf, hn, hb, Bool.false_eq_true, if_false]
  rfl

/-- A function of the program that has a body. -/
def Has (P : Program) (f : FuncId) : Prop := ∀ (args : Array Value) (w : World), (callFunc f args).run P w = .ok (.enter f args) w
theorem has_of {f : FuncId} {fn : Func} (hf : P.funcs[f]? = some fn) (hn : (fn.name == "runtime.NumGoroutine") = false) (hb : fn.body.isNone = false) : Has P f := fun _ w => run_enter hf hn hb w

theorem o_call {f : FuncId} {args : Array Operand} {at_ : Array TypeId} {vs : List Value} {R : Value → World → Prop} (hH : Has P f) (hvs : args.toList.map (ev e) = vs) (hd : Nat.ble (d + 1) N = true)
    (hc : Does P f vs.toArray w R) (h : ∀ v w', R v w' → WL P r N ops rest K D (upd e d v) w') :
    WL P r N ops (⟨some d, .call { callee := .value (.func f), args := args, argTypes := at_ }, t, p, af, none⟩ :: rest) K D e w := by
  refine WL_call rfl rfl hd (by simp) ?_ hc h
  subst hvs
  have : (args.map (ev e)) = (args.toList.map (ev e)).toArray := by apply Array.ext'; simp
  simp [execOp, resolve, Deferred.ofValue, invoke, ev, hH _ w, this]

/-- A call of a function value. -/
theorem o_callv {f : FuncId} {g : Operand} {caps : Array Value} {args : Array Operand} {at_ : Array TypeId} {vs : List Value} {R : Value → World → Prop} (hH : Has P f) (hg : ev e g = .func (.func f) #[] caps)
    (hvs : args.toList.map (ev e) ++ caps.toList = vs) (hd : Nat.ble (d + 1) N = true)
    (hc : Does P f vs.toArray w R) (h : ∀ v w', R v w' → WL P r N ops rest K D (upd e d v) w') :
    WL P r N ops (⟨some d, .call { callee := .value g, args := args, argTypes := at_ }, t, p, af, none⟩ :: rest) K D e w := by
  refine WL_call rfl rfl hd (by simp) ?_ hc h
  subst hvs
  have : (args.map (ev e) ++ caps) = (args.toList.map (ev e) ++ caps.toList).toArray := by apply Array.ext'; simp
  simp [execOp, resolve, Deferred.ofValue, invoke, hg, hH _ w, this]

theorem o_call0 {f : FuncId} {args : Array Operand} {at_ : Array TypeId} {vs : List Value} {R : Value → World → Prop} (hH : Has P f) (hvs : args.toList.map (ev e) = vs)
    (hc : Does P f vs.toArray w R) (h : ∀ v w', R v w' → WL P r N ops rest K D e w') :
    WL P r N ops (⟨none, .call { callee := .value (.func f), args := args, argTypes := at_ }, t, p, af, none⟩ :: rest) K D e w := by
  refine WL_call0 rfl rfl (by simp) ?_ hc h
  subst hvs
  have : (args.map (ev e)) = (args.toList.map (ev e)).toArray := by apply Array.ext'; simp
  simp [execOp, resolve, Deferred.ofValue, invoke, ev, hH _ w, this]
theorem o_callv0 {f : FuncId} {g : Operand} {caps : Array Value} {args : Array Operand} {at_ : Array TypeId} {vs : List Value} {R : Value → World → Prop} (hH : Has P f) (hg : ev e g = .func (.func f) #[] caps)
    (hvs : args.toList.map (ev e) ++ caps.toList = vs)
    (hc : Does P f vs.toArray w R) (h : ∀ v w', R v w' → WL P r N ops rest K D e w') :
    WL P r N ops (⟨none, .call { callee := .value g, args := args, argTypes := at_ }, t, p, af, none⟩ :: rest) K D e w := by
  refine WL_call0 rfl rfl (by simp) ?_ hc h
  subst hvs
  have : (args.map (ev e) ++ caps) = (args.toList.map (ev e) ++ caps.toList).toArray := by apply Array.ext'; simp
  simp [execOp, resolve, Deferred.ofValue, invoke, hg, hH _ w, this]

theorem o_extract {vs : Array Value} {ix : Nat} {v : Value} (hx : ev e x = .tuple vs) (hv : vs[ix]? = some v) (hd : Nat.ble (d + 1) N = true) (h : WL P r N ops rest K D (upd e d v) w) :
    WL P r N ops (⟨some d, .extract x ix, t, p, af, none⟩ :: rest) K D e w :=
  WL_val rfl rfl hd (by simp) (by simp [execOp, hx, Instr.extract, hv]) h

theorem o_makeFunc {fn : Fn} {cap : Array Operand} {vs : List Value} (hvs : cap.toList.map (ev e) = vs) (hd : Nat.ble (d + 1) N = true) (h : WL P r N ops rest K D (upd e d (.func fn #[] vs.toArray)) w) :
    WL P r N ops (⟨some d, .makeFunc fn #[] cap, t, p, af, none⟩ :: rest) K D e w := by
  have hc : (cap.map (ev e)) = vs.toArray := by subst hvs; apply Array.ext'; simp
  exact WL_val rfl rfl hd (by simp) (by simp [execOp, Instr.makeFunc, hc]) h

theorem o_neg (hx : ev e x = .int .i64 a) (hr : i64 (-a)) (hd : Nat.ble (d + 1) N = true) (h : WL P r N ops rest K D (upd e d (.int .i64 (-a))) w) :
    WL P r N ops (⟨some d, .unOp .neg xt x, t, p, af, none⟩ :: rest) K D e w :=
  WL_val rfl rfl hd (by simp) (by
    have h0 : (0 : Int) - a = -a := by omega
    simp only [execOp, hx, Op.unary, Op.intArith, Sem.run_bind, Sem.run_pure, Result.andThen_ok, h0, wrap_id hr]) h

/-! A field of a struct that is a value -/

def splice (z : List Value) (off : Nat) (cs : List Value) : List Value := z.take off ++ cs ++ z.drop (off + cs.length)

/-- A field of one cell, of a struct as a value. -/
def Fld (P : Program) (s f off : Nat) : Prop := ∀ (w : World) (cs : Array Value) (v : Value), cs[off]? = some v → (Instr.field s (.agg cs) f).run P w = .ok v w
theorem fld_of {s f off : Nat} {fs : Array Field} {fld : Field} (hu : P.underlying s = some (.struct fs)) (hf : fs[f]? = some fld) (ho : fld.offset = off) {ds : TypeDesc} (hd : P.underlying fld.type = some ds)
    (h1 : ∀ fs, ds ≠ .struct fs) (h2 : ∀ n e, ds ≠ .array n e) : Fld P s f off := by
  intro w cs v hv
  have hagg : (isAgg fld.type).run P w = .ok false w := by
    simp only [isAgg, Sem.run_bind, run_underlying hd, Result.andThen_ok]
    cases ds <;> first | rfl | exact absurd rfl (h1 _) | exact absurd rfl (h2 _ _)
  simp [Instr.field, run_underlying hu, hf, asAgg, part, hagg, ho, hv]
theorem o_field {s f off : Nat} {cs : Array Value} {v : Value} (hF : Fld P s f off) (hx : ev e x = .agg cs) (hv : cs[off]? = some v) (hd : Nat.ble (d + 1) N = true) (h : WL P r N ops rest K D (upd e d v) w) :
    WL P r N ops (⟨some d, .field s x f, t, p, af, none⟩ :: rest) K D e w :=
  WL_val rfl rfl hd (by simp) (by simp [execOp, hx, hF w cs v hv]) h

/-! A struct that is built -/

/-- How a struct type is built: its zero cells, and the place and size of each field. -/
def Bld (P : Program) (ty : Nat) (z : List Value) (pl : List (Nat × Nat)) : Prop :=
  ∀ (w : World) (parts : List (Nat × Value)) (cs : Array Value), Instr.fill (fun i => pl[i]?) z.toArray parts = some cs → (Instr.build ty parts.toArray).run P w = .ok (.agg cs) w

theorem bld_of {ty : Nat} {z : List Value} {pl : List (Nat × Nat)} {fs : Array Field} (hu : P.underlying ty = some (.struct fs)) (hz : ∀ w, (zeroValue ty).run P w = .ok (.agg z.toArray) w)
    (hp : ∀ w, (fs.mapM fun f => do pure (f.offset, ← sizeOf f.type) : Sem (Array (Nat × Nat))).run P w = .ok pl.toArray w) : Bld P ty z pl := by
  intro w parts cs hf
  have hp' := hp w
  simp only [Instr.build, Sem.run_bind, hz, Result.andThen_ok, run_underlying hu, Value.cells]
  rw [hp']
  simp only [Result.andThen_ok, List.getElem?_toArray, hf]
  rfl

/-- 'fill' on lists. -/
def fillL (pl : List (Nat × Nat)) : List Value → List (Nat × Value) → List Value
  | z, [] => z
  | z, (i, v) :: rest => fillL pl (splice z ((pl[i]?).getD (0, 0)).1 v.cells.toList) rest

def fillOk (pl : List (Nat × Nat)) (n : Nat) : List (Nat × Value) → Bool
  | [] => true
  | (i, v) :: rest => (match pl[i]? with
    | none => false
    | some (off, size) => v.cells.size == size && Nat.ble (off + size) n) && fillOk pl n rest

theorem zip_splice (vs z : List Value) (off : Nat) (h : off + vs.length ≤ z.length) :
    (vs.toArray.zipIdx.foldl (fun cs (c, j) => cs.setIfInBounds (off + j) c) z.toArray) = (splice z off vs).toArray := by
  have key : ∀ (vs : List Value) (k : Nat) (z : List Value), off + k + vs.length ≤ z.length →
      ((vs.zipIdx k).foldl (fun cs (c, j) => Array.setIfInBounds cs (off + j) c) z.toArray) = (splice z (off + k) vs).toArray := by
    intro vs
    induction vs with
    | nil => intro k z h; simp [splice]
    | cons v vs ih =>
      intro k z h
      simp only [List.length_cons] at h
      simp only [List.zipIdx_cons, List.foldl_cons, List.setIfInBounds_toArray]
      rw [ih (k + 1) (z.set (off + k) v) (by simp; omega)]
      congr 1
      unfold splice
      have h1 : (z.set (off + k) v).take (off + (k + 1)) = z.take (off + k) ++ [v] := by
        rw [← Nat.add_assoc, List.take_add_one, List.take_set_of_le (Nat.le_refl _)]
        simp [show off + k < z.length by omega]
      have h2 : (z.set (off + k) v).drop (off + (k + 1) + vs.length) = z.drop (off + k + (v :: vs).length) := by
        rw [List.drop_set_of_lt (by omega)]
        congr 1
        simp only [List.length_cons]; omega
      rw [h1, h2]
      simp
  have := key vs 0 z (by simpa using h)
  simpa [← Array.foldl_toList] using this

theorem splice_length {z : List Value} {off : Nat} {vs : List Value} (h : off + vs.length ≤ z.length) : (splice z off vs).length = z.length := by
  simp [splice]; omega

theorem fill_list (pl : List (Nat × Nat)) : ∀ (parts : List (Nat × Value)) (z : List Value), fillOk pl z.length parts = true → Instr.fill (fun i => pl[i]?) z.toArray parts = some (fillL pl z parts).toArray := by
  intro parts
  induction parts with
  | nil => intro z _; rfl
  | cons x rest ih =>
    intro z h
    obtain ⟨i, v⟩ := x
    simp only [fillOk, Bool.and_eq_true] at h
    obtain ⟨h1, h2⟩ := h
    cases hp : pl[i]? with
    | none => rw [hp] at h1; cases h1
    | some q =>
      obtain ⟨off, size⟩ := q
      rw [hp] at h1
      simp only [Bool.and_eq_true, beq_iff_eq] at h1
      obtain ⟨h3, h4⟩ := h1
      have h4 := Nat.le_of_ble_eq_true h4
      have hv : v.cells = v.cells.toList.toArray := by simp
      have hlen : v.cells.toList.length = size := by simpa using h3
      simp only [Instr.fill, hp, fillL, Option.getD_some]
      have hc : (v.cells.size ≠ size || off + v.cells.size > z.toArray.size) = false := by
        simp [h3]; omega
      simp only [hc, Bool.false_eq_true, if_false]
      have := zip_splice v.cells.toList z off (by omega)
      rw [← hv] at this
      rw [this]
      exact ih _ (by rw [splice_length (by omega)]; exact h2)

theorem o_build {ty : Nat} {parts : Array (Nat × Operand)} {z : List Value} {pl : List (Nat × Nat)} {vs : List (Nat × Value)} {cs : List Value} (hB : Bld P ty z pl) (hvs : parts.toList.map (fun q => (q.1, ev e q.2)) = vs)
    (hok : fillOk pl z.length vs = true) (hcs : fillL pl z vs = cs) (hd : Nat.ble (d + 1) N = true) (h : WL P r N ops rest K D (upd e d (.agg cs.toArray)) w) :
    WL P r N ops (⟨some d, .build ty parts, t, p, af, none⟩ :: rest) K D e w := by
  have hp : (parts.map fun (i, x) => (i, ev e x)) = vs.toArray := by subst hvs; apply Array.ext'; simp
  subst hcs
  exact WL_val rfl rfl hd (by simp) (by simp [execOp, hp, hB w vs _ (fill_list pl vs z hok)]) h

/-! A slice that is built -/

/-- A slice type: its element type, the element's cells, its zero cells, its bytes. -/
structure SlZ (P : Program) (ty el size : Nat) (z : Value) (bytes : Nat) : Prop where
  und : P.underlying ty = some (.slice el)
  info : (P.info? el).map (fun i => (i.zero, i.size, i.bytes)) = some (some z, size, bytes)
  zs : z.cells.size = size
  pos : 0 < size

theorem SlZ.slT {ty el size bytes : Nat} {z : Value} (h : SlZ P ty el size z bytes) : SlT P ty size := by
  refine ⟨el, h.und, ?_⟩
  have := h.info
  cases hi : P.info? el with
  | none => rw [hi] at this; cases this
  | some i => rw [hi] at this; simp at this ⊢; exact this.2.1

theorem SlZ.parts {ty el size bytes : Nat} {z : Value} (h : SlZ P ty el size z bytes) : ∃ i, P.info? el = some i ∧ i.zero = some z ∧ i.size = size ∧ i.bytes = bytes := by
  have := h.info
  cases hi : P.info? el with
  | none => rw [hi] at this; cases this
  | some i => rw [hi] at this; simp at this; exact ⟨i, rfl, this⟩

theorem fill_row (size : Nat) : ∀ (vs : List Value) (k : Nat) (done rest : List Value), done.length = k * size → rest.length = vs.length * size → (∀ v ∈ vs, v.cells.size = size) →
    Instr.fill (fun i => some (i * size, size)) (done ++ rest).toArray ((vs.zipIdx k).map fun q => (q.2, q.1)) = some (done ++ vs.flatMap (·.cells.toList)).toArray := by
  intro vs
  induction vs with
  | nil => intro k done rest hd hr _; simp at hr; subst hr; simp [Instr.fill]
  | cons v vs ih =>
    intro k done rest hd hr hv
    have hv0 : v.cells.size = size := hv v (by simp)
    have hlen : v.cells.toList.length = size := by simpa using hv0
    simp only [List.length_cons, Nat.add_mul, Nat.one_mul] at hr
    simp only [List.zipIdx_cons, List.map_cons, Instr.fill]
    have hc : (v.cells.size ≠ size || k * size + v.cells.size > (done ++ rest).toArray.size) = false := by
      simp [hv0]; omega
    simp only [hc, Bool.false_eq_true, if_false]
    have hvv : v.cells = v.cells.toList.toArray := by simp
    have hz := zip_splice v.cells.toList (done ++ rest) (k * size) (by simp; omega)
    rw [← hvv] at hz
    rw [hz]
    have hs : splice (done ++ rest) (k * size) v.cells.toList = (done ++ v.cells.toList) ++ rest.drop size := by
      unfold splice
      rw [← hd, List.take_left', hlen, ← List.drop_drop, List.drop_left']
      · simp
      · rfl
    rw [hs, ih (k + 1) (done ++ v.cells.toList) (rest.drop size) (by simp [hd, Nat.add_mul, hv0]) (by simp; omega) (fun u hu => hv u (by simp [hu]))]
    simp

theorem run_buildSlice {ty el size bytes n : Nat} {z : Value} (hS : SlZ P ty el size z bytes) {vs : List Value} (hn : vs.length = n) (h0 : 0 < n) (hbig : n * size ≤ 16777216) (hv : ∀ v ∈ vs, v.cells.size = size) (w : World) :
    (Instr.buildSlice ty n ((vs.zipIdx 0).map fun q => (q.2, q.1)).toArray).run P w = .ok (.slice (some ⟨w.heap.size, 0, none⟩) n n) (w.alloc (.cells (vs.flatMap (·.cells.toList)).toArray el)) := by
  obtain ⟨i, hi, hz, hsz, _⟩ := hS.parts
  have hpos := hS.pos
  have hne : ¬ (n * size = 0) := by
    have := Nat.mul_pos h0 hpos; omega
  have hsz' : (sizeOf el).run P w = .ok size w := by simp [sizeOf, typeInfo, hi, hsz]
  have hz' : (zeroValue el).run P w = .ok z w := by simp [zeroValue, typeInfo, hi, hz]
  have hbig' : ¬ (n * size > 2 ^ 24) := by omega
  have hfill := fill_row size vs 0 [] ((Array.range (n * size)).map (z.cells[· % z.cells.size]!)).toList (by simp) (by simp [hn]) hv
  simp only [List.nil_append, Array.toArray_toList] at hfill
  simp only [Instr.buildSlice, Sem.run_bind, run_underlying hS.und, Result.andThen_ok, hsz', hbig', hne, if_false, hz', Sem.run_pure, hfill, newRow, run_newObj]
  rfl

theorem o_buildSlice {ty el size bytes n : Nat} {z : Value} {parts : Array (Nat × Operand)} {vs : List Value} {cs : List Value} (S : St M w0 w L) (hS : SlZ P ty el size z bytes)
    (hvs : parts.toList.map (fun q => (q.1, ev e q.2)) = (vs.zipIdx 0).map fun q => (q.2, q.1)) (hn : vs.length = n) (h0 : Nat.ble 1 n = true) (hbig : Nat.ble (n * size) 16777216 = true) (hv : vs.map (·.cells.size) = List.replicate n size)
    (hcs : vs.flatMap (·.cells.toList) = cs) (hd : Nat.ble (d + 1) N = true)
    (h : ∀ g w1, St M w0 w1 ((some g, el, cs) :: L) → Keep [] w w1 → w.heap.size ≤ g → WL P r N ops rest K D (upd e d (.slice (some ⟨g, 0, none⟩) n n)) w1) :
    WL P r N ops (⟨some d, .buildSlice ty n parts, t, p, af, none⟩ :: rest) K D e w := by
  have hp : (parts.map fun (i, x) => (i, ev e x)) = ((vs.zipIdx 0).map fun q => (q.2, q.1)).toArray := by rw [← hvs]; apply Array.ext'; simp
  have hv' : ∀ v ∈ vs, v.cells.size = size := fun v hm => by
    have : v.cells.size ∈ vs.map (·.cells.size) := List.mem_map.2 ⟨v, hm, rfl⟩
    rw [hv] at this; exact (List.mem_replicate.1 this).2
  have hrun := run_buildSlice hS hn (Nat.le_of_ble_eq_true h0) (Nat.le_of_ble_eq_true hbig) hv' w
  subst hcs
  refine WL_val (v := .slice (some ⟨w.heap.size, 0, none⟩) n n) (w' := w.alloc (.cells (vs.flatMap (·.cells.toList)).toArray el)) rfl rfl hd (by simp) ?_ (h _ _ (S.alloc el _) (keep_alloc _ _ _) (Nat.le_refl _))
  simp only [execOp, hp, Sem.run_bind, hrun, Result.andThen_ok, Sem.run_pure]

/-! Stores into a block of the call's own -/

def Sz (P : Program) (ty n : Nat) : Prop := ∀ w : World, (sizeOf ty).run P w = .ok n w
theorem sz_of {ty n : Nat} (h : (P.info? ty).map (·.size) = some n) : Sz P ty n := by
  intro w
  cases hi : P.info? ty with
  | none => rw [hi] at h; cases h
  | some i => rw [hi] at h; simp at h; simp [sizeOf, typeInfo, hi, h]

def oneV : Value → Bool
  | .agg _ => false
  | .tuple _ => false
  | _ => true

theorem run_store1 {ty g o tb : Nat} {cs : List Value} {v : Value} (hz : Sz P ty 1) (hb : hasBlk w (g, tb, cs)) (hlt : o < cs.length) (h1 : oneV v = true) :
    (Instr.storeAt ty (.pointer (some ⟨g, o, none⟩)) v).run P w = .ok () (w.setCell ⟨g, o, none⟩ v) := by
  have hc : w.cell? ⟨g, o, none⟩ = some cs[o] := hb.cell (List.getElem?_eq_getElem hlt)
  have hf := hb.frozen o
  have hvc : v.cells = #[v] := by cases v <;> first | rfl | cases h1
  have hst : (store ⟨g, o, none⟩ v).run P w = .ok () (w.setCell ⟨g, o, none⟩ v) := by
    cases v <;> first | (cases h1; done) | simp [store, Sem.run, hc, hf]
  simp only [Instr.storeAt, Instr.sureAddr, Sem.run_bind, Sem.run_pure, Result.andThen_ok, storeVar, hvc, hz w]
  simp [storeCells, Addr.add_zero', hst]

theorem o_store {ty g o tb kk : Nat} {cs : List Value} {v : Value} (S : St M w0 w L) (hz : Sz P ty 1) (hx : ev e x = .pointer (some ⟨g, o, none⟩)) (hy : ev e y = v) (h1 : oneV v = true) (hk : L[kk]? = some (some g, tb, cs)) (ho : o < cs.length)
    (h : ∀ w1, St M w0 w1 (L.set kk (some g, tb, cs.set o v)) → Keep [g] w w1 → WL P r N ops rest K D e w1) :
    WL P r N ops (⟨none, .store ty x y, t, p, af, none⟩ :: rest) K D e w :=
  WL_unit rfl rfl (by simp) (by simp only [execOp, hx, hy, Sem.run_bind, run_store1 hz (S.blk kk hk) ho h1, Result.andThen_ok, Sem.run_pure]) (h _ (S.set kk hk o v) (keep_setCell w g o v))

/-! Slices of slices -/

theorem o_slice {ty size lo hi c n o b : Nat} {xl xh : Option Operand} (hT : SlT P ty size) (hx : ev e x = .slice (some ⟨b, o, none⟩) n c) (hl : (xl.map (ev e) = none ∧ lo = 0) ∨ xl.map (ev e) = some (.int kd (lo : Int)))
    (hh : (xh.map (ev e) = none ∧ hi = n) ∨ xh.map (ev e) = some (.int kd (hi : Int))) (h1 : lo ≤ hi) (h2 : hi ≤ c) (h3 : n ≤ c) (hd : Nat.ble (d + 1) N = true)
    (h : WL P r N ops rest K D (upd e d (.slice (some (if c = lo then ⟨b, o, none⟩ else ⟨b, o + lo * size, none⟩)) (hi - lo) (c - lo))) w) :
    WL P r N ops (⟨some d, .slice ty x xl xh none, t, p, af, none⟩ :: rest) K D e w := by
  obtain ⟨el, hu, hsz⟩ := slT_size hT
  have e1 : (0 : Int) ≤ (lo : Int) ∧ (lo : Int) ≤ (hi : Int) := by omega
  have e2 : (0 : Int) ≤ (hi : Int) ∧ (hi : Int) ≤ (c : Int) := by omega
  refine WL_val rfl rfl hd (by simp) ?_ h
  have hrun : (Instr.slice ty (.slice (some ⟨b, o, none⟩) n c) (xl.map (ev e)) (xh.map (ev e)) none).run P w = .ok (.slice (some (if c = lo then ⟨b, o, none⟩ else ⟨b, o + lo * size, none⟩)) (hi - lo) (c - lo)) w := by
    rcases hl with ⟨hl, rfl⟩ | hl <;> rcases hh with ⟨hh, rfl⟩ | hh <;> rw [hl, hh] <;>
      simp [Instr.slice, Instr.sliceBounds, Instr.sliceBound, asIntOf, run_underlying hu, hsz, e1, e2, h1, h2, Addr.add_lit] <;>
      (split <;> rfl)
  simp only [execOp, Instr.sliceAt, Sem.run_bind, run_underlying hu, Result.andThen_ok, hx, Option.map_none, hrun, Sem.run_pure]

/-! Arrays -/

/-- An array type: its length and the element's cells. -/
def ArT (P : Program) (ty len size : Nat) : Prop := ∃ el, P.underlying ty = some (.array len el) ∧ (∀ w : World, (sizeOf el).run P w = .ok size w) ∧ (size = 1 → ∀ w : World, (isAgg el).run P w = .ok false w)
theorem arT_of {ty len el size : Nat} (hu : P.underlying ty = some (.array len el)) (hz : (P.info? el).map (·.size) = some size) (ha : size = 1 → ∀ w : World, (isAgg el).run P w = .ok false w) : ArT P ty len size :=
  ⟨el, hu, fun w => by
    cases hi : P.info? el with
    | none => rw [hi] at hz; cases hz
    | some i => rw [hi] at hz; simp at hz; simp [sizeOf, typeInfo, hi, hz], ha⟩

theorem o_indexArr {ty len size b o : Nat} (hT : ArT P ty len size) (hx : ev e x = .pointer (some ⟨b, o, none⟩)) (hy : ev e y = .int kd a) (h0 : 0 ≤ a) (h1 : a < len) (hd : Nat.ble (d + 1) N = true)
    (h : WL P r N ops rest K D (upd e d (.pointer (some ⟨b, o + a.toNat * size, none⟩))) w) : WL P r N ops (⟨some d, .indexAddr ty x y, t, p, af, none⟩ :: rest) K D e w := by
  obtain ⟨el, hu, hsz, _⟩ := hT
  exact WL_val rfl rfl hd (by simp) (by simp [execOp, Instr.indexAt, Instr.sureAddr, hx, hy, asIntOf, run_underlying hu, h0, h1, hsz, Addr.add_lit]) h

theorem o_index {ty len : Nat} {cs : Array Value} {v : Value} (hT : ArT P ty len 1) (hx : ev e x = .agg cs) (hy : ev e y = .int kd a) (h0 : 0 ≤ a) (h1 : a < len) (hv : cs[a.toNat]? = some v) (hd : Nat.ble (d + 1) N = true)
    (h : WL P r N ops rest K D (upd e d v) w) : WL P r N ops (⟨some d, .index ty x y, t, p, af, none⟩ :: rest) K D e w := by
  obtain ⟨el, hu, hsz, ha⟩ := hT
  exact WL_val rfl rfl hd (by simp) (by simp [execOp, Instr.index, hx, hy, asIntOf, run_underlying hu, h0, h1, hsz, part, ha rfl, hv]) h

/-! Bits, shifts, sums that may wrap -/

def band (a b : Int) : Int := bits .and .i64 a b
def bor (a b : Int) : Int := bits .or .i64 a b
def bxor (a b : Int) : Int := bits .xor .i64 a b
def wr (a : Int) : Int := IntKind.i64.wrap a

theorem o_and (hx : ev e x = .int .i64 a) (hy : ev e y = .int .i64 b) (hd : Nat.ble (d + 1) N = true) (h : WL P r N ops rest K D (upd e d (.int .i64 (band a b))) w) :
    WL P r N ops (⟨some d, .binOp .and xt x y yt, t, p, af, none⟩ :: rest) K D e w :=
  WL_val rfl rfl hd (by simp) (by simp [execOp, hx, hy, eqGuard_and, binOp_and, intBits_and, band]) h
theorem o_or (hx : ev e x = .int .i64 a) (hy : ev e y = .int .i64 b) (hd : Nat.ble (d + 1) N = true) (h : WL P r N ops rest K D (upd e d (.int .i64 (bor a b))) w) :
    WL P r N ops (⟨some d, .binOp .or xt x y yt, t, p, af, none⟩ :: rest) K D e w :=
  WL_val rfl rfl hd (by simp) (by simp [execOp, hx, hy, eqGuard_or, binOp_or, intBits_or, bor]) h
theorem o_xor (hx : ev e x = .int .i64 a) (hy : ev e y = .int .i64 b) (hd : Nat.ble (d + 1) N = true) (h : WL P r N ops rest K D (upd e d (.int .i64 (bxor a b))) w) :
    WL P r N ops (⟨some d, .binOp .xor xt x y yt, t, p, af, none⟩ :: rest) K D e w :=
  WL_val rfl rfl hd (by simp) (by simp [execOp, hx, hy, eqGuard_xor, binOp_xor, intBits_xor, bxor]) h
theorem o_unxor (hx : ev e x = .int .i64 a) (hd : Nat.ble (d + 1) N = true) (h : WL P r N ops rest K D (upd e d (.int .i64 (bxor (-1) a))) w) :
    WL P r N ops (⟨some d, .unOp .xor xt x, t, p, af, none⟩ :: rest) K D e w :=
  WL_val rfl rfl hd (by simp) (by
    have h0 : Op.unary .xor (.int .i64 a) = Op.intBits .xor .i64 (-1) a := rfl
    simp [execOp, hx, h0, intBits_xor, bxor]) h
theorem o_addW (hx : ev e x = .int .i64 a) (hy : ev e y = .int .i64 b) (hd : Nat.ble (d + 1) N = true) (h : WL P r N ops rest K D (upd e d (.int .i64 (wr (a + b)))) w) :
    WL P r N ops (⟨some d, .binOp .add xt x y yt, t, p, af, none⟩ :: rest) K D e w :=
  WL_val rfl rfl hd (by simp) (by simp [execOp, hx, hy, eqGuard_add, binOp_add, Op.intArith, wr]) h
theorem o_mulW (hx : ev e x = .int .i64 a) (hy : ev e y = .int .i64 b) (hd : Nat.ble (d + 1) N = true) (h : WL P r N ops rest K D (upd e d (.int .i64 (wr (a * b)))) w) :
    WL P r N ops (⟨some d, .binOp .mul xt x y yt, t, p, af, none⟩ :: rest) K D e w :=
  WL_val rfl rfl hd (by simp) (by simp [execOp, hx, hy, eqGuard_mul, binOp_mul, Op.intArith, wr]) h
theorem o_negW (hx : ev e x = .int .i64 a) (hd : Nat.ble (d + 1) N = true) (h : WL P r N ops rest K D (upd e d (.int .i64 (wr (0 - a)))) w) :
    WL P r N ops (⟨some d, .unOp .neg xt x, t, p, af, none⟩ :: rest) K D e w :=
  WL_val rfl rfl hd (by simp) (by simp only [execOp, hx, Op.unary, Op.intArith, Sem.run_bind, Sem.run_pure, Result.andThen_ok, wr]) h

/-- 1 << n. -/
theorem o_shl1 {n : Nat} (hx : ev e x = .int .i64 1) (hy : ev e y = .int .i64 (n : Int)) (hn : n ≤ 62) (hd : Nat.ble (d + 1) N = true) (h : WL P r N ops rest K D (upd e d (.int .i64 ((2 ^ n : Nat) : Int))) w) :
    WL P r N ops (⟨some d, .binOp .shl xt x y yt, t, p, af, none⟩ :: rest) K D e w :=
  WL_val rfl rfl hd (by simp) (by
    have h2 : (2 : Nat) ^ n ≤ 2 ^ 62 := Nat.pow_le_pow_right (by omega) hn
    have h3 : min n IntKind.i64.bits = n := by simp [IntKind.bits]; omega
    have h4 : ((1 : Int) * 2 ^ n) = ((2 ^ n : Nat) : Int) := by simp
    have h5 : IntKind.i64.wrap ((2 ^ n : Nat) : Int) = ((2 ^ n : Nat) : Int) := by
      generalize (2 : Nat) ^ n = q at h2
      exact wrap_id ⟨by omega, by omega⟩
    have h6 : ¬ ((n : Int) < 0) := by omega
    simp only [execOp, hx, hy, eqGuard_shl, binOp_shl, Op.shift, h6, if_false, Int.toNat_natCast, h3, h4, h5, Sem.run_bind, Sem.run_pure, Result.andThen_ok]) h
/-- a >> n. -/
theorem o_shr {n : Nat} (hx : ev e x = .int .i64 a) (hy : ev e y = .int .i64 (n : Int)) (hn : n ≤ 62) (hd : Nat.ble (d + 1) N = true) (h : WL P r N ops rest K D (upd e d (.int .i64 (a / ((2 ^ n : Nat) : Int)))) w) :
    WL P r N ops (⟨some d, .binOp .shr xt x y yt, t, p, af, none⟩ :: rest) K D e w :=
  WL_val rfl rfl hd (by simp) (by
    have h3 : min n IntKind.i64.bits = n := by simp [IntKind.bits]; omega
    have h6 : ¬ ((n : Int) < 0) := by omega
    have h7 : a.fdiv (2 ^ n) = a / ((2 ^ n : Nat) : Int) := by
      rw [Int.fdiv_eq_ediv_of_nonneg]
      · simp
      · exact Int.le_of_lt (Int.pow_pos (by omega))
    simp only [execOp, hx, hy, eqGuard_shr, binOp_shr, Op.shift, h6, if_false, Int.toNat_natCast, h3, h7, Sem.run_bind, Sem.run_pure, Result.andThen_ok]) h

/-! Booleans compared -/
theorem o_eqlb {z z' : Bool} (hU : P.underlying xt = some .bool) (hx : ev e x = .bool z) (hy : ev e y = .bool z') (hd : Nat.ble (d + 1) N = true) (h : WL P r N ops rest K D (upd e d (.bool (z == z'))) w) :
    WL P r N ops (⟨some d, .binOp .eql xt x y yt, t, p, af, none⟩ :: rest) K D e w :=
  WL_val rfl rfl hd (by simp) (by simp [execOp, hx, hy, eqGuard_at_bool, binOp, run_equal_bool w xt z z' hU]) h
theorem o_neqb {z z' : Bool} (hU : P.underlying xt = some .bool) (hx : ev e x = .bool z) (hy : ev e y = .bool z') (hd : Nat.ble (d + 1) N = true) (h : WL P r N ops rest K D (upd e d (.bool (!(z == z')))) w) :
    WL P r N ops (⟨some d, .binOp .neq xt x y yt, t, p, af, none⟩ :: rest) K D e w :=
  WL_val rfl rfl hd (by simp) (by simp [execOp, hx, hy, eqGuard_at_bool, binOp, run_equal_bool w xt z z' hU]) h

/-! Stores of several cells -/
def setsAt (cs : List Value) (o : Nat) : List Value → List Value
  | [] => cs
  | v :: vs => setsAt (cs.set o v) (o + 1) vs

theorem St.setN {g tb kk o : Nat} : ∀ (vs : List Value) (i : Nat) (cs : List Value) (w : World) (L : List Ent), L[kk]? = some (some g, tb, cs) → St M w0 w L → o + i + vs.length ≤ cs.length → (∀ v ∈ vs, oneV v = true) →
    ∃ w1, (storeCells ⟨g, o, none⟩ vs i).run P w = .ok () w1 ∧ St M w0 w1 (L.set kk (some g, tb, setsAt cs (o + i) vs)) ∧ Keep [g] w w1 := by
  intro vs
  induction vs with
  | nil =>
    intro i cs w L hk S _ _
    refine ⟨w, rfl, ?_, Keep.refl _ _⟩
    obtain ⟨hlt, he⟩ := List.getElem?_eq_some_iff.1 hk
    have : L.set kk (some g, tb, cs) = L := by rw [← he]; exact List.set_getElem_self hlt
    simp only [setsAt, this]; exact S
  | cons v vs ih =>
    intro i cs w L hk S hlen h1
    simp only [List.length_cons] at hlen
    have hb := S.blk kk hk
    have hlt : o + i < cs.length := by omega
    have hc : w.cell? ⟨g, o + i, none⟩ = some cs[o + i] := hb.cell (List.getElem?_eq_getElem hlt)
    have hf := hb.frozen (o + i)
    have hv1 : oneV v = true := h1 v (by simp)
    have hst : (store ⟨g, o + i, none⟩ v).run P w = .ok () (w.setCell ⟨g, o + i, none⟩ v) := by
      cases v <;> first | (cases hv1; done) | simp [store, Sem.run, hc, hf]
    have S1 := S.set kk hk (o + i) v
    have hkl : kk < L.length := (List.getElem?_eq_some_iff.1 hk).1
    obtain ⟨w1, h2, h3, h4⟩ := ih (i + 1) (cs.set (o + i) v) (w.setCell ⟨g, o + i, none⟩ v) (L.set kk (some g, tb, cs.set (o + i) v)) (by simp [hkl]) S1 (by simp; omega) (fun u hu => h1 u (by simp [hu]))
    refine ⟨w1, ?_, ?_, (keep_setCell w g (o + i) v).trans h4⟩
    · simp only [storeCells, Addr.add_lit, Sem.run_bind, hst, Result.andThen_ok, h2]
    · rw [List.set_set] at h3
      simpa only [setsAt, Nat.add_assoc] using h3

theorem o_storeN {ty g o tb kk n : Nat} {cs vs : List Value} {av : Array Value} (S : St M w0 w L) (hz : Sz P ty n) (hx : ev e x = .pointer (some ⟨g, o, none⟩)) (hy : ev e y = .agg av) (hvs : av.toList = vs) (hn : vs.length = n) (h1 : vs.all oneV = true) (hk : L[kk]? = some (some g, tb, cs)) (ho : Nat.ble (o + n) cs.length = true)
    (h : ∀ w1, St M w0 w1 (L.set kk (some g, tb, setsAt cs o vs)) → Keep [g] w w1 → WL P r N ops rest K D e w1) :
    WL P r N ops (⟨none, .store ty x y, t, p, af, none⟩ :: rest) K D e w := by
  have ho' := Nat.le_of_ble_eq_true ho
  obtain ⟨w1, h2, h3, h4⟩ := St.setN (P := P) (o := o) vs 0 cs w L hk S (by omega) (fun v hv => List.all_eq_true.1 h1 v hv)
  refine WL_unit rfl rfl (by simp) ?_ (h w1 h3 h4)
  have hsz : av.size = n := by rw [← hn, ← hvs]; simp
  simp only [execOp, hx, hy, Instr.storeAt, Instr.sureAddr, Sem.run_bind, Sem.run_pure, Result.andThen_ok, storeVar, Value.cells, hz w, hsz, ne_eq, not_true, if_false, hvs, h2]

theorem St.push_more {w1 : World} {L1 : List Ent} (S : St M w0 w1 (L1 ++ L)) (Sw : St M w0 w L) {g t : Nat} {cs : List Value} (hg : hasBlk w1 (g, t, cs)) (hlo : w.heap.size ≤ g) (hn : ∀ b ∈ L1, b.1 ≠ some g) : St M w0 w1 ((some g, t, cs) :: (L1 ++ L)) :=
  S.push hg (.inl (Nat.le_trans Sw.size hlo)) (fun b hb => by
    rcases List.mem_append.1 hb with h | h
    · exact hn b h
    · intro hh
      have := (Sw.own b h g hh).2.lt
      simp at this; omega)
end
end Go.Fw
