/-
  The framework: rows of expressions that a call makes and grows.
-/
import Derived.Test.YtinhchacppkmgaaDoorNo1
namespace Go.Fw
open Go.RowKit

theorem flat4 : ∀ (css : List (List Value)) (i : Nat) (c : List Value), (∀ x ∈ css, x.length = 4) → css[i]? = some c → ∀ (j : Nat) (u : Value), c[j]? = some u → css.flatten[i * 4 + j]? = some u := by
  intro css
  induction css with
  | nil => intro i c _ h; simp at h
  | cons x xs ih =>
    intro i c h4 hi j u hj
    have hx := h4 x (by simp)
    cases i with
    | zero =>
      simp at hi; subst hi
      have hjl : j < x.length := (List.getElem?_eq_some_iff.1 hj).1
      rw [List.flatten_cons, Nat.zero_mul, Nat.zero_add, List.getElem?_append_left hjl]; exact hj
    | succ i =>
      have := ih i c (fun y hy => h4 y (by simp [hy])) (by simpa using hi) j u hj
      rw [List.flatten_cons, List.getElem?_append_right (by omega)]
      rw [show (i + 1) * 4 + j - x.length = i * 4 + j by omega]; exact this
theorem flat4_len (css : List (List Value)) (h4 : ∀ x ∈ css, x.length = 4) : css.flatten.length = css.length * 4 := by
  induction css with
  | nil => rfl
  | cons x xs ih => rw [List.flatten_cons, List.length_append, ih (fun y hy => h4 y (by simp [hy])), h4 x (by simp), List.length_cons]; omega

/-- A row of the call's own that reads as a list of expressions. -/
def RowE (M : List Nat) (w : World) (G : Option Nat) (cs : List Value) (v : Value) (l : List E) : Prop :=
  ∃ css : List (List Value), css.length = l.length ∧ (∀ x ∈ css, x.length = 4) ∧ RowV G 4 l.length cs v css.flatten ∧ ∀ (i : Nat) (h : i < l.length), ∃ c, css[i]? = some c ∧ RdE (G.toList ++ M) w l[i] c

theorem RowE.keep {M : List Nat} {w w' : World} {G : Option Nat} {cs : List Value} {v : Value} {l : List E} (h : RowE M w G cs v l) (hk : Keep [] w w') : RowE M w' G cs v l := by
  obtain ⟨css, h1, h2, h3, h4⟩ := h
  refine ⟨css, h1, h2, h3, fun i hi => ?_⟩
  obtain ⟨c, h5, h6⟩ := h4 i hi
  exact ⟨c, h5, RdE.keep hk.of_nil _ _ h6⟩

theorem RowE.rdL {M M' : List Nat} {w0 w : World} {L : List Ent} {k el : Nat} {G : Option Nat} {cs : List Value} {v : Value} {l : List E} (h : RowE M w G cs v l) (S : St M' w0 w L) (hk : L[k]? = some (G, el, cs)) (hM : ∀ g, G = some g → g ∉ M) (hl : l.length ≤ 1000000) : RdL M w v l := by
  obtain ⟨css, h1, h2, ⟨h3, hr⟩, h4⟩ := h
  rcases hr with ⟨rfl, rfl, h0⟩ | ⟨g, cap, rfl, rfl, q1, q2, q3, q4⟩
  · exact RdL.mk (by omega) (by omega) (by unfold maxLen; omega) (by omega) (fun h => absurd h (by omega))
  · refine RdL.mk rfl q1 q2 (by omega) (fun _ => ⟨g, 0, rfl, hM g rfl, fun i hi => ?_⟩)
    obtain ⟨c, h5, h6⟩ := h4 i hi
    refine ⟨c, fun j u hj => ?_, RdE.more (fun x hx => .inl (by simp [hx])) _ _ h6⟩
    have hf := flat4 css i c h2 h5 j u hj
    have hc4 : c.length = 4 := h6.length
    have hj4 : j < c.length := (List.getElem?_eq_some_iff.1 hj).1
    rw [← q4, List.getElem?_take, if_pos (by omega)] at hf
    have := S.cell k hk hf
    simpa using this

section
variable {P : Program} {r : Option Nat} {N : Nat} {D : List Deferred} {e : Env} {w w0 : World} {ops : Array Oper} {rest : List Oper} {K : List Deferred → Env → World → Prop} {L : List Ent} {M : List Nat}
variable {d : Nat} {t : TypeId} {p : String} {af : Array Edge} {x y : Operand}

/-- An empty slice literal. -/
theorem o_build0 {ty el size bytes : Nat} {z : Value} (S : St M w0 w L) (hS : SlZ P ty el size z bytes) (hd : Nat.ble (d + 1) N = true)
    (h : ∀ g w1, St M w0 w1 ((some g, el, []) :: L) → Keep [] w w1 → w.heap.size ≤ g → WL P r N ops rest K D (upd e d (.slice (some ⟨g, 0, none⟩) 0 0)) w1) :
    WL P r N ops (⟨some d, .buildSlice ty 0 #[], t, p, af, none⟩ :: rest) K D e w := by
  obtain ⟨i, hi, hz, hsz, _⟩ := hS.parts
  have hsz' : (sizeOf el).run P w = .ok size w := by simp [sizeOf, typeInfo, hi, hsz]
  refine WL_val (v := .slice (some ⟨w.heap.size, 0, none⟩) 0 0) (w' := w.alloc (.cells #[] el)) rfl rfl hd (by simp) ?_ (h _ _ (S.alloc el []) (keep_alloc _ _ _) (Nat.le_refl _))
  simp [execOp, Instr.buildSlice, run_underlying hS.und, hsz', newRow, Instr.fill]
  have h0 : Array.map (fun _ => (default : Value)) (Array.range 0) = #[] := by simp
  rw [h0]

theorem RowE.new {g : Nat} : RowE M w (some g) [] (.slice (some ⟨g, 0, none⟩) 0 0) [] :=
  ⟨[], rfl, by simp, ⟨by simp, .inr ⟨g, 0, rfl, rfl, Nat.le_refl _, by unfold maxLen; omega, by simp, by simp⟩⟩, fun i hi => absurd hi (by simp)⟩
theorem RowE.nil : RowE M w none [] (.slice none 0 0) [] := ⟨[], rfl, by simp, RowV.nil 4, fun i hi => absurd hi (by simp)⟩

/-- One expression is appended. -/
theorem o_appendE {M2 : List Nat} {ty el bytes k c b o : Nat} {z v : Value} {G : Option Nat} {cs news : List Value} {l : List E} {e1 : E} (S : St M w0 w L) (hS : SlZ P ty el 4 z bytes) (hby : bytes ≤ 1000) (hk : L[k]? = some (G, el, cs)) (hR : RowE M2 w G cs v l)
    (hx : ev e x = v) (hy : ev e y = .slice (some ⟨b, o, none⟩) 1 c) (hnews : Cells w b o news) (he : RdE (G.toList ++ M2) w e1 news) (hll : l.length ≤ 1000000) (hd : Nat.ble (d + 1) N = true)
    (h : ∀ v' G' cs' w1, St M w0 w1 (L.set k (G', el, cs')) → RowE M2 w1 G' cs' v' (l ++ [e1]) → Keep G.toList w w1 → (∀ g ∈ G'.toList, g ∈ G.toList ∨ w.heap.size ≤ g) → WL P r N ops rest K D (upd e d v') w1) :
    WL P r N ops (⟨some d, .call { callee := .builtin .append, args := #[x, y], argTypes := #[ty, ty] }, t, p, af, none⟩ :: rest) K D e w := by
  obtain ⟨css, c1, c2, c3, c4⟩ := hR
  have hlen := he.length
  have hone : ∀ u ∈ news, u.oneCell' = true := by
    obtain ⟨A, n, q, rfl, -⟩ := he.open_
    simp [Value.oneCell']
  obtain ⟨i, hi, hz, hsz, hbb⟩ := hS.parts
  obtain ⟨hown, hG⟩ := c3.own S hk
  have hb2 : (l.length + 1) * bytes ≤ 140737488355328 := by
    have : (l.length + 1) * bytes ≤ 1000001 * 1000 := Nat.mul_le_mul (by omega) hby
    omega
  obtain ⟨v', w1, hrun, hown', hgrow, _, hblk⟩ := run_append_own_at (P := P) w 0 ty t el i z 4 bytes hS.und hi hz hsz hbb hS.zs hS.pos v l.length css.flatten hown ⟨b, o, none⟩ 1 c news (by omega)
    (fun j u hj => by rw [Addr.add_lit]; exact hnews j u hj) hone (by unfold maxLen; omega) hb2 (Nat.zero_le _)
  obtain ⟨G', cs', hR', hG', hnew⟩ := row_of_own hown'
  have hsame : ∀ q, q < w.heap.size → G ≠ some q → w1.heap[q]? = w.heap[q]? := fun q hq hne => hgrow.block q hq (fun hh => hne (by rw [← hG, ← hh]))
  have hbelow : BelowB M w0 w1 := ⟨hgrow.os.trans S.below.os, hgrow.tape.trans S.below.tape, hgrow.output.trans S.below.output, Nat.le_trans S.size hgrow.size, fun q hq hm =>
    (hsame q (Nat.lt_of_lt_of_le hq S.size) (fun hh => by
      subst hh
      rcases S.new k hk with h' | h'
      · omega
      · exact hm h')).trans (S.below.block q hq hm)⟩
  have hkeep : Keep G.toList w w1 := ⟨hgrow.size, fun q hq hm => hsame q hq (fun hh => hm (by rw [hh]; simp))⟩
  have hfresh : ∀ g ∈ G'.toList, g ∈ G.toList ∨ w.heap.size ≤ g := by
    intro g hg
    have hg' : G' = some g := by cases G' with
      | none => simp at hg
      | some q => simp at hg; rw [hg]
    rcases hblk with hb | hb
    · left; have hGg : G = some g := by rw [← hG, ← hb, hG']; exact hg'
      rw [hGg]; simp
    · rw [hG', hg'] at hb; cases hb; exact .inr (Nat.le_refl _)
  refine WL_val (v := v') (w' := w1) rfl rfl hd (by simp) ?_ (h v' G' cs' w1 (S.replace k hk hbelow hsame (fun g hg => ?_)) ?_ hkeep hfresh)
  · simp [execOp, resolve, invoke, builtin, hx, hy, hrun]
  · obtain ⟨_, h3⟩ := hnew g hg
    rcases hblk with hb | hb
    · have hGg : G = some g := by rw [← hG, ← hb, hG']; exact hg
      subst hGg
      exact ⟨S.new k hk, h3, .inl rfl⟩
    · have hg2 : G' = some g := hg
      rw [hG', hg2] at hb; cases hb
      exact ⟨.inl S.size, h3, .inr (Nat.le_refl _)⟩
  · have hmv : ∀ (e2 : E) (c : List Value), RdE (G.toList ++ M2) w e2 c → RdE (G'.toList ++ M2) w1 e2 c := by
      intro e2 c hr
      have h5 : RdE (G.toList ++ (G'.toList ++ M2)) w e2 c := RdE.more (fun g hg => by
        rcases List.mem_append.1 hg with hg | hg
        · exact .inl (List.mem_append_left _ hg)
        · rcases List.mem_append.1 hg with hg | hg
          · rcases hfresh g hg with h | h
            · exact .inl (List.mem_append_left _ h)
            · exact .inr h
          · exact .inl (List.mem_append_right _ hg)) _ _ hr
      exact RdE.more (fun g hg => .inl (List.mem_append_right _ hg)) _ _ (RdE.keep (hkeep.mono (fun g hg => List.mem_append_left _ hg)) _ _ h5)
    refine ⟨css ++ [news], by simp [c1], fun x hx => ?_, ?_, fun i hi => ?_⟩
    · rcases List.mem_append.1 hx with hx | hx
      · exact c2 x hx
      · simp at hx; subst hx; exact hlen
    · have e1 : (l ++ [e1]).length = l.length + 1 := by simp
      rw [e1, List.flatten_append]; simpa using hR'
    · by_cases hil : i < l.length
      · obtain ⟨c, h5, h6⟩ := c4 i hil
        refine ⟨c, by rw [List.getElem?_append_left (by omega)]; exact h5, ?_⟩
        rw [List.getElem_append_left hil]; exact hmv _ _ h6
      · have hieq : i = l.length := by simp at hi; omega
        subst hieq
        refine ⟨news, by rw [List.getElem?_append_right (by omega), c1]; simp, ?_⟩
        rw [List.getElem_append_right (Nat.le_refl _)]; simpa using hmv _ _ he
end
end Go.Fw
