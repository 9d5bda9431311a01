/-
  The framework: rows that a call makes and grows (append, make), and slices read as lists.
-/
import Derived.Test.YtinhchacppkmgaaDoorFwQuiet
import Derived.Maps.AppendAt
import Derived.Laws.MakeOwn
namespace Go.Fw
open Go.RowKit

/-- A slice value over an entry: nil, or the first n elements of the entry's block. -/
def RowV (G : Option Nat) (size n : Nat) (cs : List Value) (v : Value) (xs : List Value) : Prop :=
  xs.length = n * size ∧ ((G = none ∧ v = .slice none 0 0 ∧ n = 0) ∨
    ∃ g cap, G = some g ∧ v = .slice (some ⟨g, 0, none⟩) n cap ∧ n ≤ cap ∧ cap ≤ maxLen ∧ cs.length = cap * size ∧ cs.take (n * size) = xs)

theorem RowV.nil (size : Nat) : RowV none size 0 [] (.slice none 0 0) [] := ⟨by simp, .inl ⟨rfl, rfl, rfl⟩⟩

theorem RowV.own {M : List Nat} {w0 w : World} {L : List Ent} {k : Nat} {G : Option Nat} {el size n : Nat} {cs xs : List Value} {v : Value} (hR : RowV G size n cs v xs) (S : St M w0 w L) (hk : L[k]? = some (G, el, cs)) :
    w.ownsRow 0 el size v n xs ∧ v.ownBlock = G := by
  rcases hR with ⟨hl, ⟨rfl, rfl, rfl⟩ | ⟨g, cap, rfl, rfl, h1, h2, h3, h4⟩⟩
  · exact ⟨⟨hl, .inl ⟨rfl, rfl⟩⟩, rfl⟩
  · refine ⟨⟨hl, .inr ⟨g, cap, cs.toArray, rfl, Nat.zero_le _, S.blk k hk, h1, h2, by simpa using h3, by simpa using h4⟩⟩, rfl⟩

theorem row_of_own {w : World} {base el size n : Nat} {v : Value} {xs : List Value} (h : w.ownsRow base el size v n xs) :
    ∃ G cs, RowV G size n cs v xs ∧ v.ownBlock = G ∧ ∀ g, G = some g → base ≤ g ∧ hasBlk w (g, el, cs) := by
  obtain ⟨hl, ⟨rfl, rfl⟩ | ⟨g, cap, cur, rfl, hb, hh, h1, h2, h3, h4⟩⟩ := h
  · exact ⟨none, [], ⟨hl, .inl ⟨rfl, rfl, rfl⟩⟩, rfl, fun g hg => by cases hg⟩
  · refine ⟨some g, cur.toList, ⟨hl, .inr ⟨g, cap, rfl, rfl, h1, h2, by simpa using h3, h4⟩⟩, rfl, fun g' hg => ?_⟩
    cases hg
    exact ⟨hb, by unfold hasBlk; simpa using hh⟩

section
variable {P : Program} {r : Option Nat} {N : Nat} {D : List Deferred} {e : Env} {w w0 : World} {ops : Array Oper} {rest : List Oper} {K : List Deferred → Env → World → Prop} {L : List Ent} {M : List Nat}
variable {d : Nat} {t : TypeId} {p : String} {af : Array Edge} {x y : Operand}

/-- 'append' onto a row of the call's own. -/
theorem o_append {ty el size bytes k n m c b o : Nat} {z v : Value} {G : Option Nat} {cs xs news : List Value} (S : St M w0 w L) (hS : SlZ P ty el size z bytes) (hk : L[k]? = some (G, el, cs)) (hR : RowV G size n cs v xs)
    (hx : ev e x = v) (hy : ev e y = .slice (some ⟨b, o, none⟩) m c) (hnews : Cells w b o news) (hl : news.length = m * size) (h1 : ∀ u ∈ news, u.oneCell' = true)
    (h63 : n + m ≤ 140737488355328) (hbytes : (n + m) * bytes ≤ 140737488355328) (hd : Nat.ble (d + 1) N = true)
    (h : ∀ v' G' cs' w1, St M w0 w1 (L.set k (G', el, cs')) → RowV G' size (n + m) cs' v' (xs ++ news) → Keep G.toList w w1 → WL P r N ops rest K D (upd e d v') w1) :
    WL P r N ops (⟨some d, .call { callee := .builtin .append, args := #[x, y], argTypes := #[ty, ty] }, t, p, af, none⟩ :: rest) K D e w := by
  obtain ⟨i, hi, hz, hsz, hby⟩ := hS.parts
  obtain ⟨hown, hG⟩ := hR.own S hk
  obtain ⟨v', w1, hrun, hown', hgrow, _, hblk⟩ := run_append_own_at (P := P) w 0 ty t el i z size bytes hS.und hi hz hsz hby hS.zs hS.pos v n xs hown ⟨b, o, none⟩ m c news hl
    (fun j u hj => by rw [Addr.add_lit]; exact hnews j u hj) h1 (by unfold maxLen; omega) hbytes (Nat.zero_le _)
  obtain ⟨G', cs', hR', hG', hnew⟩ := row_of_own hown'
  have hsame : ∀ q, q < w.heap.size → G ≠ some q → w1.heap[q]? = w.heap[q]? := fun q hq hne => hgrow.block q hq (fun hh => hne (by rw [← hG, ← hh]))
  have hbelow : BelowB M w0 w1 := ⟨hgrow.os.trans S.below.os, hgrow.tape.trans S.below.tape, hgrow.output.trans S.below.output, Nat.le_trans S.size hgrow.size, fun q hq hm =>
    (hsame q (Nat.lt_of_lt_of_le hq S.size) (fun hh => by
      subst hh
      rcases S.new k hk with h' | h'
      · omega
      · exact hm h')).trans (S.below.block q hq hm)⟩
  refine WL_val (v := v') (w' := w1) rfl rfl hd (by simp) ?_ (h v' G' cs' w1 (S.replace k hk hbelow hsame (fun g hg => ?_)) hR' ⟨hgrow.size, fun q hq hm => hsame q hq (fun hh => hm (by rw [hh]; simp))⟩)
  · simp [execOp, resolve, invoke, builtin, hx, hy, hrun]
  · obtain ⟨_, h3⟩ := hnew g hg
    rcases hblk with hb | hb
    · have hGg : G = some g := by rw [← hG, ← hb, hG']; exact hg
      subst hGg
      exact ⟨S.new k hk, h3, .inl rfl⟩
    · have hg2 : G' = some g := hg
      rw [hG', hg2] at hb; cases hb
      exact ⟨.inl S.size, h3, .inr (Nat.le_refl _)⟩

/-- 'make([]T, n)', T of one cell. -/
theorem o_make {ty el bytes n c : Nat} {z : Value} {kl kc : IntKind} (S : St M w0 w L) (hS : SlZ P ty el 1 z bytes) (hx : ev e x = .int kl (n : Int)) (hy : ev e y = .int kc (c : Int)) (hnc : n ≤ c) (hb : bytes * c ≤ 140737488355328) (hc : c ≤ 140737488355328)
    (hz1 : z.cells = #[z]) (hd : Nat.ble (d + 1) N = true)
    (h : ∀ g w1, St M w0 w1 ((some g, el, List.replicate c z) :: L) → Keep [] w w1 → w.heap.size ≤ g → WL P r N ops rest K D (upd e d (.slice (some ⟨g, 0, none⟩) n c)) w1) :
    WL P r N ops (⟨some d, .makeSlice ty x y, t, p, af, none⟩ :: rest) K D e w := by
  obtain ⟨i, hi, hz, hsz, hby⟩ := hS.parts
  have hbb : (i.bytes : Int) * (c : Int) ≤ 281474976710656 := by
    have : ((bytes * c : Nat) : Int) ≤ 281474976710656 := by omega
    rw [hby]; rwa [Int.natCast_mul] at this
  have hr := run_make (P := P) w ty el i z hS.und hi hz kl kc n c (by omega) (by omega) hbb (by omega)
  have hm : madeCells z.cells (c * i.size) = (List.replicate c z).toArray := by
    rw [hz1, hsz, Nat.mul_one]
    apply Array.ext
    · simp [madeCells]
    · intro j h1 h2
      simp [madeCells, Nat.mod_one]
  simp only [Int.toNat_natCast, hm] at hr
  refine WL_val (v := .slice (some ⟨w.heap.size, 0, none⟩) n c) rfl rfl hd (by simp) ?_ (h _ _ (S.alloc el _) (keep_alloc _ _ _) (Nat.le_refl _))
  simp only [execOp, hx, hy, Sem.run_bind, hr, Result.andThen_ok, Sem.run_pure]
end

/-- 'make([]T, n)' among the operations of B. -/
theorem BKL_make {P : Program} {l : List Oper} {e : Env} {B : List Nat} {G : List (Nat × Value) → List Nat → World → Prop} {w w0 : World} {L : List Ent} {M : List Nat} {b d : Nat} {t : TypeId} {p : String} {af : Array Edge} {gd : Option (Nat × Bool)} {x y : Operand}
    {ty el bytes n c : Nat} {z : Value} {kl kc : IntKind} (ho : l[b]? = some ⟨some d, .makeSlice ty x y, t, p, af, gd⟩) (hw : wantedE l.toArray e ⟨some d, .makeSlice ty x y, t, p, af, gd⟩ = true)
    (hS : SlZ P ty el 1 z bytes) (hx : ev e x = .int kl (n : Int)) (hy : ev e y = .int kc (c : Int)) (hnc : n ≤ c) (hb : bytes * c ≤ 140737488355328) (hc : c ≤ 140737488355328)
    (hz1 : z.cells = #[z])
    (h : BKL P l (Cl M w0 w L) e B fun us gs w1 => ∀ g, hasBlk w1 (g, el, List.replicate c z) → w.heap.size ≤ g → g ∉ gs → G ((d, .slice (some ⟨g, 0, none⟩) n c) :: us) (g :: gs) w1) :
    BKL P l (Cl M w0 w L) e (b :: B) G := by
  obtain ⟨i, hi, hz, hsz, hby⟩ := hS.parts
  have hbb : (i.bytes : Int) * (c : Int) ≤ 281474976710656 := by
    have : ((bytes * c : Nat) : Int) ≤ 281474976710656 := by omega
    rw [hby]; rwa [Int.natCast_mul] at this
  refine BKL_new (mk := fun g => .slice (some ⟨g, 0, none⟩) n c) (t := el) (cs := List.replicate c z) (fun _ => rfl) ho rfl hw (fun w1 _ => ?_) h
  have hr := run_make (P := P) w1 ty el i z hS.und hi hz kl kc n c (by omega) (by omega) hbb (by omega)
  have hm : madeCells z.cells (c * i.size) = (List.replicate c z).toArray := by
    rw [hz1, hsz, Nat.mul_one]
    apply Array.ext
    · simp [madeCells]
    · intro j h1 h2
      simp [madeCells, Nat.mod_one]
  simp only [Int.toNat_natCast, hm] at hr
  simp only [execOp, hx, hy, Sem.run_bind, hr, Result.andThen_ok, Sem.run_pure]

/-! ### Calls by contracts of the usual form -/

section
variable {P : Program} {r : Option Nat} {N : Nat} {D : List Deferred} {e : Env} {w w0 : World} {ops : Array Oper} {rest : List Oper} {K : List Deferred → Env → World → Prop} {L : List Ent} {M : List Nat}
variable {d : Nat} {t : TypeId} {p : String} {af : Array Edge} {f : FuncId} {args : Array Operand} {at_ : Array TypeId} {vs : List Value}

theorem o_calln {R : Value → World → Prop} (S : St M w0 w L) (hH : Has P f) (hvs : args.toList.map (ev e) = vs) (hd : Nat.ble (d + 1) N = true)
    (hc : Does P f vs.toArray w fun v w' => R v w' ∧ Below w.heap.size w w') (h : ∀ v w1, R v w1 → St M w0 w1 L → Keep [] w w1 → WL P r N ops rest K D (upd e d v) w1) :
    WL P r N ops (⟨some d, .call { callee := .value (.func f), args := args, argTypes := at_ }, t, p, af, none⟩ :: rest) K D e w :=
  o_call hH hvs hd hc fun v w1 hr => h v w1 hr.1 (S.later hr.2) (Keep.of_below hr.2)

theorem o_callr {V : Value} (S : St M w0 w L) (hH : Has P f) (hvs : args.toList.map (ev e) = vs) (hd : Nat.ble (d + 1) N = true)
    (hc : Does P f vs.toArray w fun v w' => v = V ∧ Below w.heap.size w w') (h : ∀ w1, St M w0 w1 L → Keep [] w w1 → WL P r N ops rest K D (upd e d V) w1) :
    WL P r N ops (⟨some d, .call { callee := .value (.func f), args := args, argTypes := at_ }, t, p, af, none⟩ :: rest) K D e w :=
  o_calln S hH hvs hd hc fun v w1 hr S1 X1 => by subst hr; exact h w1 S1 X1

theorem o_callb {b : Bool} (S : St M w0 w L) (hH : Has P f) (hvs : args.toList.map (ev e) = vs) (hd : Nat.ble (d + 1) N = true)
    (hc : Does P f vs.toArray w fun v w' => v = .bool b ∧ Below w.heap.size w w') (h1 : b = true → ∀ w1, St M w0 w1 L → Keep [] w w1 → WL P r N ops rest K D (upd e d (.bool true)) w1)
    (h2 : b = false → ∀ w1, St M w0 w1 L → Keep [] w w1 → WL P r N ops rest K D (upd e d (.bool false)) w1) :
    WL P r N ops (⟨some d, .call { callee := .value (.func f), args := args, argTypes := at_ }, t, p, af, none⟩ :: rest) K D e w := by
  cases b
  · exact o_callr S hH hvs hd hc (h2 rfl)
  · exact o_callr S hH hvs hd hc (h1 rfl)

theorem o_callvn {g : Operand} {caps : Array Value} {R : Value → World → Prop} (S : St M w0 w L) (hH : Has P f) (hg : ev e g = .func (.func f) #[] caps) (hvs : args.toList.map (ev e) ++ caps.toList = vs) (hd : Nat.ble (d + 1) N = true)
    (hc : Does P f vs.toArray w fun v w' => R v w' ∧ Below w.heap.size w w') (h : ∀ v w1, R v w1 → St M w0 w1 L → Keep [] w w1 → WL P r N ops rest K D (upd e d v) w1) :
    WL P r N ops (⟨some d, .call { callee := .value g, args := args, argTypes := at_ }, t, p, af, none⟩ :: rest) K D e w :=
  o_callv hH hg hvs hd hc fun v w1 hr => h v w1 hr.1 (S.later hr.2) (Keep.of_below hr.2)

variable {Kq : Env → Prop}
theorem q_callr {V : Value} (hH : Has P f) (hvs : args.toList.map (ev e) = vs) (hd : Nat.ble (d + 1) N = true)
    (hc : ∀ w1, St M w0 w1 L → Keep [] w w1 → Does P f vs.toArray w1 fun v w' => v = V ∧ Below w1.heap.size w1 w') (h : QL P N ops (Cl M w0 w L) rest Kq (upd e d V)) :
    QL P N ops (Cl M w0 w L) (⟨some d, .call { callee := .value (.func f), args := args, argTypes := at_ }, t, p, af, none⟩ :: rest) Kq e :=
  q_call hH hvs hd (fun w1 hw => does_cl hw (hc w1 hw.1 hw.2) fun _ _ h => h) h

theorem q_callb {b : Bool} (hH : Has P f) (hvs : args.toList.map (ev e) = vs) (hd : Nat.ble (d + 1) N = true)
    (hc : ∀ w1, St M w0 w1 L → Keep [] w w1 → Does P f vs.toArray w1 fun v w' => v = .bool b ∧ Below w1.heap.size w1 w') (h1 : b = true → QL P N ops (Cl M w0 w L) rest Kq (upd e d (.bool true)))
    (h2 : b = false → QL P N ops (Cl M w0 w L) rest Kq (upd e d (.bool false))) :
    QL P N ops (Cl M w0 w L) (⟨some d, .call { callee := .value (.func f), args := args, argTypes := at_ }, t, p, af, none⟩ :: rest) Kq e := by
  cases b
  · exact q_callr hH hvs hd hc (h2 rfl)
  · exact q_callr hH hvs hd hc (h1 rfl)
end

/-! ### Slices read as lists -/

section
variable {α : Type}

/-- The slice value v reads as the list l; each element lies in 'size' cells, and R says what they read as. No block of M is touched. -/
def RdS (M : List Nat) (w : World) (size : Nat) (R : List Value → α → Prop) (v : Value) (l : List α) : Prop :=
  ∃ A n c, v = .slice A n c ∧ n = l.length ∧ n ≤ c ∧ c ≤ maxLen ∧ n ≤ 140737488355328 ∧
    (0 < n → ∃ b o, A = some ⟨b, o, none⟩ ∧ b ∉ M ∧ ∀ i x, l[i]? = some x → ∃ cs, cs.length = size ∧ Cells w b (o + i * size) cs ∧ R cs x)

theorem Cells.keep {M : List Nat} {w w' : World} {b o : Nat} {cs : List Value} (h : Cells w b o cs) (hk : Keep M w w') (hb : b ∉ M) : Cells w' b o cs :=
  fun j v hj => hk.cell (a := ⟨b, o + j, none⟩) hb (h j v hj)

theorem RdS.keep {M : List Nat} {w w' : World} {size : Nat} {R : List Value → α → Prop} {v : Value} {l : List α} (h : RdS M w size R v l) (hk : Keep M w w') : RdS M w' size R v l := by
  obtain ⟨A, n, c, h1, h2, h3, h4, h4', h5⟩ := h
  refine ⟨A, n, c, h1, h2, h3, h4, h4', fun hn => ?_⟩
  obtain ⟨b, o, h6, h7, h8⟩ := h5 hn
  refine ⟨b, o, h6, h7, fun i x hi => ?_⟩
  obtain ⟨cs, h9, h10, h11⟩ := h8 i x hi
  exact ⟨cs, h9, h10.keep hk h7, h11⟩

theorem RdS.mono {M : List Nat} {w : World} {size : Nat} {R R' : List Value → α → Prop} {v : Value} {l : List α} (h : RdS M w size R v l) (hR : ∀ cs x, R cs x → R' cs x) : RdS M w size R' v l := by
  obtain ⟨A, n, c, h1, h2, h3, h4, h4', h5⟩ := h
  refine ⟨A, n, c, h1, h2, h3, h4, h4', fun hn => ?_⟩
  obtain ⟨b, o, h6, h7, h8⟩ := h5 hn
  exact ⟨b, o, h6, h7, fun i x hi => let ⟨cs, h9, h10, h11⟩ := h8 i x hi; ⟨cs, h9, h10, hR _ _ h11⟩⟩

/-- Less is forbidden. -/
theorem RdS.less {M M' : List Nat} {w : World} {size : Nat} {R : List Value → α → Prop} {v : Value} {l : List α} (h : RdS M w size R v l) (hM : ∀ g ∈ M', g ∈ M) : RdS M' w size R v l := by
  obtain ⟨A, n, c, h1, h2, h3, h4, h4', h5⟩ := h
  refine ⟨A, n, c, h1, h2, h3, h4, h4', fun hn => ?_⟩
  obtain ⟨b, o, h6, h7, h8⟩ := h5 hn
  exact ⟨b, o, h6, fun hh => h7 (hM b hh), h8⟩

/-- An integer in a cell. -/
def RInt (cs : List Value) (x : Int) : Prop := cs = [.int .i64 x] ∧ i64 x
/-- The slice reads as a list of ints. -/
abbrev RdI (M : List Nat) (w : World) (v : Value) (l : List Int) : Prop := RdS M w 1 RInt v l

/-- A row of the call's own as a slice that reads. -/
theorem RowV.rd {M' : List Nat} {w0 w : World} {L : List Ent} {k : Nat} {G : Option Nat} {el size n : Nat} {cs xs : List Value} {v : Value} {M : List Nat} {R : List Value → α → Prop} {l : List α} (hR : RowV G size n cs v xs) (S : St M' w0 w L) (hk : L[k]? = some (G, el, cs))
    (hM : ∀ g, G = some g → g ∉ M) (hn : n = l.length) (hbig : n ≤ 140737488355328) (hl : ∀ i x, l[i]? = some x → ((xs.drop (i * size)).take size).length = size ∧ R ((xs.drop (i * size)).take size) x) : RdS M w size R v l := by
  rcases hR with ⟨hlen, ⟨rfl, rfl, rfl⟩ | ⟨g, cap, rfl, rfl, h1, h2, h3, h4⟩⟩
  · exact ⟨none, 0, 0, rfl, hn, Nat.le_refl _, by unfold maxLen; omega, hbig, fun h => absurd h (by omega)⟩
  · refine ⟨_, n, cap, rfl, hn, h1, h2, hbig, fun _ => ⟨g, 0, rfl, hM g rfl, fun i x hi => ⟨(xs.drop (i * size)).take size, (hl i x hi).1, fun j v hj => ?_, (hl i x hi).2⟩⟩⟩
    refine S.cell k hk ?_
    rw [List.getElem?_take] at hj
    split at hj
    · rw [List.getElem?_drop, ← h4, List.getElem?_take] at hj
      split at hj
      · rw [Nat.zero_add]; exact hj
      · cases hj
    · cases hj

theorem RowV.rdI {w0 w : World} {L : List Ent} {k : Nat} {G : Option Nat} {el n : Nat} {cs : List Value} {v : Value} {M : List Nat} {l : List Int} (hR : RowV G 1 n cs v (l.map (Value.int .i64))) (S : St [] w0 w L) (hk : L[k]? = some (G, el, cs))
    (hM : ∀ g ∈ M, g < w0.heap.size) (hl : ∀ x ∈ l, i64 x) (hbig : l.length ≤ 140737488355328) : RdI M w v l := by
  have hn : n = l.length := by have := hR.1; simp at this; omega
  subst hn
  refine hR.rd S hk (fun g hg hm => ?_) rfl hbig (fun i x hi => ?_)
  · subst hg
    rcases S.new k hk with h | h
    · have := hM g hm; omega
    · simp at h
  · have hlt : i < l.length := (List.getElem?_eq_some_iff.1 hi).1
    have hx : l[i] = x := (List.getElem?_eq_some_iff.1 hi).2
    have e1 : ((l.map (Value.int .i64)).drop (i * 1)).take 1 = [.int .i64 x] := by
      rw [Nat.mul_one, List.drop_eq_getElem_cons (by simpa using hlt)]
      simp [hx]
    rw [e1]
    exact ⟨rfl, rfl, hl x (by rw [← hx]; exact List.getElem_mem hlt)⟩

/-- The element of a slice of ints. -/
theorem RdS.at {M : List Nat} {w : World} {size : Nat} {R : List Value → α → Prop} {A : Option Addr} {n c : Nat} {l : List α} (h : RdS M w size R (.slice A n c) l) : n = l.length ∧ n ≤ c ∧ c ≤ maxLen ∧ n ≤ 140737488355328 ∧
    (0 < n → ∃ b o, A = some ⟨b, o, none⟩ ∧ b ∉ M ∧ ∀ i x, l[i]? = some x → ∃ cs, cs.length = size ∧ Cells w b (o + i * size) cs ∧ R cs x) := by
  obtain ⟨A', n', c', he, h1, h2, h3, h4, h5⟩ := h
  cases he
  exact ⟨h1, h2, h3, h4, h5⟩
theorem RdS.form {M : List Nat} {w : World} {size : Nat} {R : List Value → α → Prop} {v : Value} {l : List α} (h : RdS M w size R v l) : ∃ A n c, v = .slice A n c := by
  obtain ⟨A', n', c', he, _⟩ := h
  exact ⟨_, _, _, he⟩

/-- What is newer than the world is not touched. -/
theorem RdS.more {M M' : List Nat} {w : World} {size : Nat} {R : List Value → α → Prop} {v : Value} {l : List α} (h : RdS M w size R v l) (hs : 0 < size) (hM : ∀ g ∈ M', g ∈ M ∨ w.heap.size ≤ g) : RdS M' w size R v l := by
  obtain ⟨A, n, c, h1, h2, h3, h4, h4', h5⟩ := h
  refine ⟨A, n, c, h1, h2, h3, h4, h4', fun hn => ?_⟩
  obtain ⟨b, o, h6, h7, h8⟩ := h5 hn
  refine ⟨b, o, h6, fun hh => ?_, h8⟩
  rcases hM b hh with h | h
  · exact h7 h
  · have hl : 0 < l.length := by omega
    obtain ⟨cs, h9, h10, _⟩ := h8 0 l[0] (List.getElem?_eq_getElem hl)
    have := World.block_lt_of_cell? w _ (h10 0 cs[0] (List.getElem?_eq_getElem (by omega)))
    simp at this; omega

/-- A block of the call's own as a slice that reads. -/
theorem St.rd1 {w0 w : World} {L : List Ent} {k : Nat} {g el n : Nat} {cs : List Value} {M M' : List Nat} {R : List Value → α → Prop} {l : List α} (S : St M' w0 w L) (hk : L[k]? = some (some g, el, cs)) (hM : g ∉ M) (hn : n = l.length) (hbig : n ≤ 140737488355328)
    (hl : ∀ (i : Nat) (x : α), l[i]? = some x → ∃ v, cs[i]? = some v ∧ R [v] x) : RdS M w 1 R (.slice (some ⟨g, 0, none⟩) n n) l := by
  refine ⟨_, n, n, rfl, hn, Nat.le_refl _, by unfold maxLen; omega, hbig, fun _ => ⟨g, 0, rfl, hM, fun i x hi => ?_⟩⟩
  obtain ⟨v, hv, hr⟩ := hl i x hi
  refine ⟨[v], rfl, fun j u hj => ?_, hr⟩
  cases j with
  | zero => simp at hj; subst hj; simpa using S.cell k hk hv
  | succ j => simp at hj
end
end Go.Fw
