/-
  Part 5 of 6 of the proof of ScheduleComposition: what it leans on. No conditions.
-/
import Derived.Test.YtgnbfmifjlnigaaGreatDoorZScheduleComposition4
import Derived.Lib.Builder
import Derived.Lib.AppendStr
import Derived.Laws.Externs
import Derived.Shelf.Strings.Builder1
import Derived.Shelf.Strconv.Itoa0
import Derived.Shelf.Strconv.Itoa1
import Derived.Shelf.LaysM
import Derived.Shelf.Strconv.Itoa2
import Derived.Shelf.Strconv.Itoa3
import Derived.Shelf.Strings.Search1
import Derived.Shelf.Strings.Search2
import Derived.Shelf.Strings.Cut
import Derived.Shelf.Strings.Shaped
import Derived.Ground.Names2Prog
import Derived.Shelf.Slices.Clone
import Derived.Ground.SlgnProg
import Derived.Shelf.SlicesE.Clone
import Derived.Test.YtgnbfmifjlnigaaGreatDoorProg
import Derived.Laws.Concat
import Derived.Scope
set_option maxRecDepth 100000
namespace Go.Fw
open Go.RowKit
def nextC (p : ProgD) (m : Int) (c : ConfD) (x : ChoiceD) : ConfD × Int := if x ∈ choicesC p m c then (doC p m c x, 0) else (⟨[], [], []⟩, 110)
theorem nextC_in {p : ProgD} {m : Int} {c : ConfD} {x : ChoiceD} (h : x ∈ choicesC p m c) : nextC p m c x = (doC p m c x, 0) := if_pos h
theorem nextC_out {p : ProgD} {m : Int} {c : ConfD} {x : ChoiceD} (h : x ∉ choicesC p m c) : nextC p m c x = (⟨[], [], []⟩, 110) := if_neg h
theorem rdConf_zero {M : List Nat} {w : World} : RdConf M w ⟨[], [], []⟩ [.slice none 0 0, .slice none 0 0, .slice none 0 0] := ⟨_, _, _, rfl, rdS_nil, rdS_nil, rdS_nil⟩
section
variable {p : ProgD} {m : Int} {c : ConfD} {t : Nat} {b : List EntryD}
theorem out_thread {x : ChoiceD} (h : x.thread < 0 ∨ p.threads.length ≤ x.thread) : x ∉ choicesC p m c := fun hx => by
 obtain ⟨_, _, ⟨i, _, _, _, rfl⟩ | ⟨i, _, _, rfl⟩⟩ := mem_choices.1 hx
 ·simp at h; omega
 ·simp at h; omega
theorem out_step {x : ChoiceD} (h : x.step < -1) : x ∉ choicesC p m c := fun hx => by
 obtain ⟨_, _, ⟨i, _, _, _, rfl⟩ | ⟨i, _, _, rfl⟩⟩ := mem_choices.1 hx
 ·simp at h; omega
 ·simp at h
theorem out_cell {st cell : Int} (hs : 0 ≤ st) (h : ¬ cell = 0) : (⟨t, st, cell⟩ : ChoiceD) ∉ choicesC p m c := fun hx => by
 obtain ⟨t, _, ⟨i, _, _, _, h1⟩ | ⟨i, _, _, h1⟩⟩ := mem_choices.1 hx
 ·simp at h1; omega
 ·simp at h1; omega
theorem out_long {th : ThreadD} (hth : p.threads[t]? = some th) {st cell : Int} (hs : 0 ≤ st) (h : th.steps.length ≤ st) : (⟨t, st, cell⟩ : ChoiceD) ∉ choicesC p m c := fun hx => by
 obtain ⟨t', _, ⟨i, _, h1, _, h2⟩ | ⟨i, _, _, h1⟩⟩ := mem_choices.1 hx
 ·simp only [ChoiceD.mk.injEq] at h2
  obtain ⟨_, rfl, rfl⟩ := h2
  obtain rfl : t = t' := by omega
  rw [stepsC_some hth] at h1
  have := some_lt h1
  omega
 ·simp at h1; omega
theorem out_off {th : ThreadD} (hth : p.threads[t]? = some th) {i : Nat} {s : StepD} (hs : th.steps[i]? = some s) {cell : Int} (h : enabledC p m c t s = false) : (⟨t, i, cell⟩ : ChoiceD) ∉ choicesC p m c := fun hx => by
 obtain ⟨t', _, ⟨i', _, h1, h2, h3⟩ | ⟨i', _, _, h1⟩⟩ := mem_choices.1 hx
 ·simp only [ChoiceD.mk.injEq] at h3
  obtain ⟨_, _, rfl⟩ := h3
  obtain rfl : t = t' := by omega
  obtain rfl : i = i' := by omega
  rw [stepsC_some hth, hs] at h1
  cases h1
  rw [h] at h2; cases h2
 ·simp only [ChoiceD.mk.injEq] at h1; omega
theorem in_step {th : ThreadD} (hth : p.threads[t]? = some th) {i : Nat} {s : StepD} (hs : th.steps[i]? = some s) (h : enabledC p m c t s = true) : (⟨t, i, 0⟩ : ChoiceD) ∈ choicesC p m c :=
 mem_choices.2 ⟨t, some_lt hth, .inl ⟨i, s, by rw [stepsC_some hth]; exact hs, h, rfl⟩⟩
theorem do_st {th : ThreadD} (hth : p.threads[t]? = some th) {i : Nat} {s : StepD} (hs : th.steps[i]? = some s) : doC p m c ⟨t, i, 0⟩ = execC p m c t s := do_step (by rw [stepsC_some hth]; exact hs)
theorem out_comm (hb : c.buf[t]? = some b) {xc : Int} (h : ∀ q en, q < b.length → b[q]? = some en → readyC m b q = true → en.cells.getD 0 0 ≠ xc) : (⟨t, -1, xc⟩ : ChoiceD) ∉ choicesC p m c := fun hx => by
 obtain ⟨t', _, ⟨_, _, h1, h2, h3⟩ | ⟨i, h1, h2, h3⟩⟩ := mem_choices.1 hx
 ·simp only [ChoiceD.mk.injEq] at h3; omega
 ·simp only [ChoiceD.mk.injEq] at h3
  obtain ⟨_, -, h3⟩ := h3
  obtain rfl : t = t' := by omega
  rw [getD_some hb] at h1 h2 h3
  have hx : b[i]? = some b[i] := List.getElem?_eq_getElem h1
  rw [getD_some hx] at h3
  exact h i _ h1 hx h2 h3.symm
theorem in_comm (ht : t < p.threads.length) (hb : c.buf[t]? = some b) {i : Nat} {en : EntryD} (hx : b[i]? = some en) (hr : readyC m b i = true) : (⟨t, -1, en.cells.getD 0 0⟩ : ChoiceD) ∈ choicesC p m c :=
 mem_choices.2 ⟨t, ht, .inr ⟨i, by rw [getD_some hb]; exact some_lt hx, by rw [getD_some hb]; exact hr, by rw [getD_some hb, getD_some hx]⟩⟩
theorem do_comm (hb : c.buf[t]? = some b) (hne : ∀ e ∈ b, e.cells ≠ []) {i : Nat} {en : EntryD} (hx : b[i]? = some en) (hr : readyC m b i = true) : doC p m c ⟨t, -1, en.cells.getD 0 0⟩ = commitC c t i := by
 unfold doC
 rw [if_pos rfl]
 simp only [Int.toNat_natCast]
 rw [getD_some hb]
 have : (b.findIdx? fun e => decide (e.cells.getD 0 0 = en.cells.getD 0 0)) = some i := by
  rw [List.findIdx?_eq_some_iff_getElem]
  refine ⟨some_lt hx, ?_, fun j hj => ?_⟩
  ·have := (List.getElem?_eq_some_iff.1 hx).2
   rw [this]; simp
  ·simp only [decide_eq_true_eq]
   intro he
   have hlt := some_lt hx
   have hjx : b[j]? = some b[j] := List.getElem?_eq_getElem (by omega)
   have hi0 : ¬ i = 0 := by omega
   rw [ready_eq hx, decide_eq_false hi0] at hr
   simp only [Bool.false_or, Bool.and_eq_true, Bool.not_eq_true', List.any_eq_false] at hr
   have h1 := hr.2 b[j] (by rw [List.mem_take_iff_getElem]; exact ⟨j, by omega, rfl⟩)
   apply h1
   rw [meet_iff]
   have hcn := hne en (some_mem hx)
   have hcj := hne b[j] (List.getElem_mem _)
   refine ⟨en.cells.getD 0 0, ?_, ?_⟩
   ·cases hc : en.cells with
    | nil => exact absurd hc hcn
    | cons a l => simp
   ·rw [← he]
    cases hc : (b[j]).cells with
    | nil => exact absurd hc hcj
    | cons a l => simp
 rw [this]; rfl
end
theorem two_new {w0 w : World} {L : List Ent} {M : List Nat} (S : St [] w0 w L) {i j g g' t t' : Nat} {cs cs' : List Value} (h0 : L[i]? = some (some g, t, cs)) (h1 : L[j]? = some (some g', t', cs')) : ∀ x ∈ g :: g' :: M, x ∈ M ∨ w0.heap.size ≤ x := fun x hx => by
 rcases List.mem_cons.1 hx with rfl | hx
 ·exact .inr (by simpa using S.new i h0)
 ·rcases List.mem_cons.1 hx with rfl | hx
  ·exact .inr (by simpa using S.new j h1)
  ·exact .inl hx
theorem two_lt {w0 w : World} {L : List Ent} {M : List Nat} (S : St [] w0 w L) {i j g g' t t' : Nat} {cs cs' : List Value} (h0 : L[i]? = some (some g, t, cs)) (h1 : L[j]? = some (some g', t', cs')) (hM : ∀ g ∈ M, g < w0.heap.size) : ∀ x ∈ g :: g' :: M, x < w.heap.size := fun x hx => by
 rcases List.mem_cons.1 hx with rfl | hx
 ·exact S.lt i h0
 ·rcases List.mem_cons.1 hx with rfl | hx
  ·exact S.lt j h1
  ·exact Nat.lt_of_lt_of_le (hM x hx) S.size
end Go.Fw
namespace Go.Proofs.YtgnbfmifjlnigaaGreatDoor
open Go.Fw Go.RowKit
theorem InP.two {p : ProgD} {M : List Nat} {w0 w : World} {cs : List Value} (h : InP p M w0 cs) {L : List Ent} (S : St [] w0 w L) {i j g g' t t' : Nat} {ds ds' : List Value} (h0 : L[i]? = some (some g, t, ds)) (h1 : L[j]? = some (some g', t', ds')) : InP p (g :: g' :: M) w cs :=
 ⟨(h.rd.more (two_new S h0 h1)).keep (S.keep0 _), h.ok, (h.msk.more (two_new S h0 h1)).keep (S.keep0 _), two_lt S h0 h1 h.lt⟩
theorem machNextN_fn (p : ProgD) (c : ConfD) (x : ChoiceD) (M : List Nat) (w0 : World) (cs xs : List Value) (hI : InP p M w0 cs) (hX : RdConf M w0 c xs) (hf : FitC p c) (he : noBuf c) (hx : x ∉ choicesC p 0 c) :
 Does Tryz.prog 18 #[.agg cs.toArray, .agg xs.toArray, .agg #[.int .i64 x.thread, .int .i64 x.step, .int .i64 x.cell]] w0 fun v w' => v = .tuple #[.agg #[.slice none 0 0, .slice none 0 0, .slice none 0 0], .int .i64 110] ∧ Below w0.heap.size w0 w' := by
 obtain ⟨Ac, nc, cc, Am, nm, cm, Al, nl, cl, At, nt, ct, rfl, _, _, _, _, _, _, _, _, _, _, _, _⟩ := hI.rd.open_
 obtain ⟨Xm, xm, ym, Xa, xa, ya, Xb, xb, yb, rfl, _, _, _, _, _, _, _, _, _⟩ := hX.open_
 have S := St.refl w0
 refine dnR Tryz.func18 rfl Tryz.ntmps18 rfl ?_
 refine wO0 rfl ⟨⟩ (o_boxa S (by conv => lhs; whnf) rfl ?_)
 intro g3 w3 S3 X3 G3
 refine o_boxa S3 (by conv => lhs; whnf) rfl ?_
 intro g4 w4 S4 X4 G4
 refine o_boxa S4 (by conv => lhs; whnf) rfl ?_
 intro g5 w5 S5 X5 G5
 refine o_alloc S5 zv_46 rfl rfl ?_
 intro g6 w6 S6 X6 G6
 refine lO S6.k [.w 3] rfl ⟨⟨rfl,rfl⟩,⟨⟩⟩ (o_callr S6 has_35 rfl rfl (machValid_fn p M _ _ (hI.keep (S6.keep0 M))) ?_)
 intro w11 S11 X11
 refine lO S11.k [.w 3,.w 2] rfl ⟨⟨rfl,rfl⟩,⟨rfl,rfl⟩,⟨⟩⟩ (o_callr S11 has_36 rfl rfl (machFits_fn p c M _ _ _ (hI.keep (S11.keep0 M)) (hX.keep (S11.keep0 M)) hf he) ?_)
 intro w16 S16 X16
 refine lO S16.k [.w 3,.w 2] rfl ⟨⟨rfl,rfl⟩,⟨rfl,rfl⟩,⟨⟩⟩ (o_calln S16 has_37 rfl rfl (machChoices_fn p c M _ _ _ (hI.keep (S16.keep0 M)) (hX.keep (S16.keep0 M)) hf he) ?_)
 rintro v22 w22 hr S22 X22
 obtain ⟨Ar, nr, cr, rfl⟩ := hr.form
 obtain ⟨_, -, _⟩ := hr.len
 have K22 := Keep.refl [] w22
 refine lC0 rfl ⟨⟩ (wL (fun μk D ε w => D = [] ∧ ∃ k : Nat, (k + μk = ((choicesC p 0 c).length)) ∧ (Keep [] w22 w) ∧ St [] w0 w [(some g6, 46, [.slice none 0 0, .slice none 0 0, .slice none 0 0]), (some g5, 53, [.int .i64 x.thread, .int .i64 x.step, .int .i64 x.cell]), (some g4, 46, [.slice Xm xm ym, .slice Xa xa ya, .slice Xb xb yb]), (some g3, 36, [.slice Ac nc cc, .slice Am nm cm, .slice Al nl cl, .slice At nt ct])] ∧ Sl ε [(3, .pointer (some ⟨g3, 0, none⟩)), (4, .pointer (some ⟨g4, 0, none⟩)), (5, .pointer (some ⟨g5, 0, none⟩)), (6, .pointer (some ⟨g6, 0, none⟩)), (22, .slice Ar nr cr), (23, .int .i64 nr), (24, .int .i64 k)]) (μ := ((choicesC p 0 c).length)) ⟨rfl, 0, by omega, K22, S22, rfl⟩ ?_)
 rintro μk D ε w ⟨rfl, k, _, K22, S, e⟩
 refine wK e (wB0 rfl ⟨⟩ (fun h25 => ?_) fun h25 => ?_)
 ·obtain ⟨y, b26, p26, _, hxy, hA26, _, hl26, hc26, hr26⟩ := RdS.get ((hr.keep K22.of_nil)) (k) (by omega)
  obtain ⟨rfl, _, _, _⟩ := id hr26
  refine lO (S.k.b hc26) [.x b26 p26,.v 0] rfl ⟨⟨rfl,hl26⟩,⟨hA26,by omega⟩,⟨⟩⟩ (o_alloc S zv_53 rfl rfl ?_)
  intro g9 w9 S9 X9 G9
  have GK229 := Nat.le_trans K22.size G9
  replace K22 := K22.trans X9
  refine o_storeN (kk := 0) (vs := [_, _, _]) S9 sz_53 rfl rfl rfl rfl rfl rfl rfl ?_
  intro w5_3 S5_3 X5_3
  dsimp only [setsAt, List.set] at S5_3
  replace K22 := K22.fresh X5_3 (by first | exact GK229)
  refine lOn 6 S5_3.k [.w 2,.w 0] rfl ⟨⟨rfl,by rfl⟩,⟨rfl,rfl⟩,⟨⟩⟩ (o_eql3 eq_choice rfl rfl rfl (fun h30 => ?_) fun h30 => ?_)
  ·exact absurd (some_mem hxy) (by obtain ⟨a, b, c⟩ := x; obtain ⟨a', b', c'⟩ := y; obtain ⟨rfl, rfl, rfl⟩ := h30; exact hx)
  refine lP0 rfl ⟨by omega,⟨⟩⟩ ⟨μk - 1, by omega, rfl, (k + 1), (by omega), (K22), S5_3.tail, rfl⟩
 refine lO0 rfl ⟨⟩ (o_build bld_46 (vs := []) (cs := [_, _, _]) rfl rfl rfl rfl ?_)
 refine o_storeN (kk := 0) (vs := [_, _, _]) S sz_46 rfl rfl rfl rfl rfl rfl rfl ?_
 intro w9_1 S9_1 X9_1
 dsimp only [setsAt, List.set] at S9_1
 exact lR0 rfl ⟨⟩ (ret_cell_tmp (n := 3) rfl many_46 rfl (S9_1.cells 0 rfl) rfl rfl ⟨rfl, S9_1.fin⟩)
theorem machNextAll_fn (p : ProgD) (c : ConfD) (x : ChoiceD) (M : List Nat) (w0 : World) (cs xs : List Value) (hI : InP p M w0 cs) (hX : RdConf M w0 c xs) (hf : FitC p c) (he : noBuf c) :
 Does Tryz.prog 18 #[.agg cs.toArray, .agg xs.toArray, .agg #[.int .i64 x.thread, .int .i64 x.step, .int .i64 x.cell]] w0 fun v w' => (∃ ys, v = .tuple #[.agg ys.toArray, .int .i64 (nextC p 0 c x).2] ∧ RdConf M w' (nextC p 0 c x).1 ys) ∧ Below w0.heap.size w0 w' := by
 by_cases hx : x ∈ choicesC p 0 c
 ·rw [nextC_in hx]; exact machNext_fn p c x M w0 cs xs hI hX hf he hx
 ·rw [nextC_out hx]; exact (machNextN_fn p c x M w0 cs xs hI hX hf he hx).mono fun _ _ h => ⟨⟨_, h.1, rdConf_zero⟩, h.2⟩
theorem one_errno : One Tryz.prog 24 := one_of Tryz.underlying24 (by intro _ h; cases h) (by intro _ _ h; cases h)
set_option maxHeartbeats 2000000 in
theorem bufNext_fn (p : ProgD) (c : ConfD) (m : Int) (x : ChoiceD) (hm : (m = 0 ∧ noBuf c) ∨ m = 1 ∨ m = 2) (M : List Nat) (w0 : World) (cs xs : List Value) (hI : InP p M w0 cs) (hX : RdConf M w0 c xs) (hf : FitC p c) :
 Does Tryz.prog 19 #[.agg cs.toArray, .int .i64 m, .agg xs.toArray, .agg #[.int .i64 x.thread, .int .i64 x.step, .int .i64 x.cell]] w0 fun v w' => (∃ ys, v = .tuple #[.agg ys.toArray, .int .i64 (nextC p m c x).2] ∧ RdConf M w' (nextC p m c x).1 ys) ∧ Below w0.heap.size w0 w' := by
 obtain ⟨Ac, nc, cc, Am, nm, cm, Al, nl, cl, At, nt, ct, rfl, _, _, _, hTh, _, _, _, hnt, _, _, _, _⟩ := hI.rd.open_
 obtain ⟨Xm, xm, ym, Xa, xa, ya, Xb, xb, yb, rfl, _, _, _, _, _, _, _, _, _⟩ := hX.open_
 have S := St.refl w0
 have hM := hI.lt
 have hp := hI.ok
 have f2 := hf.nat
 have f3 := hf.nbuf
 have n2 := hp.nthreads
 obtain ⟨xt, xst, xc⟩ := x
 simp only
 refine Does_enterL Tryz.func19 rfl Tryz.ntmps19 rfl ?_
 refine W_seq ?_
 refine W_region ?_
 refine o_boxa S (by conv => lhs; whnf) rfl ?_
 intro g4 w4 S4 X4 G4
 refine o_boxa S4 (by conv => lhs; whnf) rfl ?_
 intro g6 w6 S6 X6 G6
 refine o_boxa S6 (by conv => lhs; whnf) rfl ?_
 intro g7 w7 S7 X7 G7
 refine o_alloc S7 zv_46 rfl rfl ?_
 intro g8 w8 S8 X8 G8
 refine o_alloc S8 zv_24 rfl rfl ?_
 intro g9 w9 S9 X9 G9
 refine WL_nil ?_
 refine W_seq ?_
 refine W_seq ?_
 refine W_region ?_
 refine o_move (v := .int .i64 _) rfl rfl ?_
 refine o_eql rfl rfl rfl (fun h16 => ?_) fun h16 => ?_
 ·refine WL_nil ?_
  refine W_then rfl ?_
  refine W_seq ?_
  have hm0 : m = 0 ∧ noBuf c := by rcases hm with h | h | h; exact h; omega; omega
  obtain ⟨rfl, he⟩ := hm0
  refine W_region ?_
  refine o_loadN many_36 rfl (S9.cells 4 rfl) rfl rfl ?_
  refine o_loadN many_46 rfl (S9.cells 3 rfl) rfl rfl ?_
  refine o_loadN many_53 rfl (S9.cells 2 rfl) rfl rfl ?_
  refine o_calln S9 has_18 rfl rfl (machNextAll_fn p c ⟨xt, xst, xc⟩ (g9 :: g8 :: M) _ _ _ (hI.two S9 (i := 0) (j := 1) rfl rfl) ((hX.more (two_new S9 (i := 0) (j := 1) rfl rfl)).keep (S9.keep0 _)) hf he) ?_
  rintro v20 w20 ⟨ys, rfl, hy⟩ S20 X20
  obtain ⟨Ym, ym', zm, Ya, ya', za, Yb, yb', zb, rfl, -⟩ := hy.open_
  refine o_extract rfl rfl rfl ?_
  refine o_extract rfl rfl rfl ?_
  first | refine o_storeN (kk := 1) (vs := [_, _, _]) S20 sz_46 rfl rfl rfl rfl rfl rfl rfl ?_
  intro w2_6 S2_6 X2_6
  dsimp only [setsAt, List.set] at S2_6
  replace hy := hy.keep (X2_6.mono (by simp))
  first | refine o_store (kk := 0) S2_6 sz_24 rfl (by conv => lhs; whnf) rfl rfl (by exact Nat.le_of_ble_eq_true rfl) ?_
  intro w2_7 S2_7 X2_7
  replace hy := hy.keep (X2_7.mono (by simp))
  refine WL_nil ?_
  refine W_ret ?_
  exact retL_cells2 (n := 3) rfl many_46 one_errno rfl rfl rfl [] rfl List.nodup_nil NC.nil (S2_7.cells 1 rfl) (S2_7.cell 0 rfl rfl) (by simp) (by simp) (fun w' hb => ⟨⟨_, rfl, (hy.keep (Keep.of_below hb.nil)).less (fun g hg => by simp [hg])⟩, (S2_7.below.trans hb).nil⟩)
 refine WL_nil ?_
 refine W_else rfl ?_
 refine W_skip ?_
 refine W_seq ?_
 have hm2 : m = 1 ∨ m = 2 := by rcases hm with h | h | h; exact absurd h.1 (by assumption); exact .inl h; exact .inr h
 refine W_region ?_
 refine o_loadN many_36 rfl (S9.cells 4 rfl) rfl rfl ?_
 refine o_move (v := .int .i64 _) rfl rfl ?_
 refine o_loadN many_46 rfl (S9.cells 3 rfl) rfl rfl ?_
 refine o_callr S9 has_39 rfl rfl (load_fn p c m hm2 M _ _ _ (hI.keep (S9.keep0 M)) (hX.keep (S9.keep0 M)) hf) ?_
 intro w27 S27 X27
 refine o_move (by conv => lhs; whnf) rfl ?_
 refine o_extract rfl rfl rfl ?_
 refine o_extract rfl rfl rfl ?_
 refine o_alloc S27 zv_98 rfl rfl ?_
 intro g10 w10 S10 X10 G10
 refine o_storeN (kk := 0) (vs := [_, _, _, _, _, _, _, _]) S10 sz_98 rfl rfl rfl rfl rfl rfl rfl ?_
 intro w3_8 S3_8 X3_8
 dsimp only [setsAt, List.set] at S3_8
 refine o_assign (v := .bool _) rfl rfl ?_
 refine WL_nil ?_
 refine W_seq ?_
 refine W_seq ?_
 refine W_region ?_
 refine o_move (v := .bool _) rfl rfl ?_
 refine o_not rfl rfl ?_
 refine WL_nil ?_
 refine W_else rfl ?_
 refine W_skip ?_
 refine W_seq ?_
 refine W_seq ?_
 refine W_region ?_
 refine o_fieldAddr fa_53_0 rfl rfl ?_
 refine o_load one_3 rfl (by exact S3_8.cell 3 rfl rfl) rfl ?_
 refine o_lss rfl rfl rfl (fun h35 => ?_) fun h35 => ?_
 ·refine o_move (v := .bool _) rfl rfl ?_
  refine WL_off rfl rfl rfl rfl ?_
  refine WL_off rfl rfl rfl rfl ?_
  refine WL_off rfl rfl rfl rfl ?_
  refine WL_off rfl rfl rfl rfl ?_
  refine WL_off rfl rfl rfl rfl ?_
  refine WL_off rfl rfl rfl rfl ?_
  refine o_pick rfl (v := .bool _) rfl rfl ?_
  refine o_move (v := .bool _) rfl rfl ?_
  refine WL_off rfl rfl rfl rfl ?_
  refine WL_off rfl rfl rfl rfl ?_
  refine WL_off rfl rfl rfl rfl ?_
  refine o_pick rfl (v := .bool _) rfl rfl ?_
  refine WL_nil ?_
  refine W_then rfl ?_
  refine W_seq ?_
  refine W_region ?_
  refine o_build bld_46 (vs := []) (cs := [_, _, _]) rfl rfl rfl rfl ?_
  first | refine o_storeN (kk := 2) (vs := [_, _, _]) S3_8 sz_46 rfl rfl rfl rfl rfl rfl rfl ?_
  intro w7_1 S7_1 X7_1
  dsimp only [setsAt, List.set] at S7_1
  first | refine o_store (kk := 1) S7_1 sz_24 rfl (by conv => lhs; whnf) rfl rfl (by exact Nat.le_of_ble_eq_true rfl) ?_
  intro w7_2 S7_2 X7_2
  refine WL_nil ?_
  refine W_ret ?_
  rw [nextC_out (out_thread (x := ⟨xt, xst, xc⟩) (.inl h35))]
  exact retL_cells2 (n := 3) rfl many_46 one_errno rfl rfl rfl [] rfl List.nodup_nil NC.nil (S7_2.cells 2 rfl) (S7_2.cell 1 rfl rfl) (by simp) (by simp) (fun w' hb => ⟨⟨_, rfl, rdConf_zero⟩, (S7_2.below.trans hb).nil⟩)
 refine o_move (v := .bool _) rfl rfl ?_
 refine WL_on rfl rfl rfl ?_
 refine o_fieldAddr fa_53_0 rfl rfl ?_
 refine WL_on rfl rfl rfl ?_
 refine o_load one_3 rfl (by exact S3_8.cell 3 rfl rfl) rfl ?_
 refine WL_on rfl rfl rfl ?_
 refine o_fieldAddr fa_36_3 rfl rfl ?_
 refine WL_on rfl rfl rfl ?_
 refine o_load one_34 rfl (by exact S3_8.cell 5 rfl rfl) rfl ?_
 refine WL_on rfl rfl rfl ?_
 refine o_len slz_34.slT rfl rfl ?_
 refine WL_on rfl rfl rfl ?_
 refine o_geq rfl rfl rfl (fun h42 => ?_) fun h42 => ?_
 ·refine o_pick rfl (v := .bool _) rfl rfl ?_
  refine o_move (v := .bool _) rfl rfl ?_
  refine WL_off rfl rfl rfl rfl ?_
  refine WL_off rfl rfl rfl rfl ?_
  refine WL_off rfl rfl rfl rfl ?_
  refine o_pick rfl (v := .bool _) rfl rfl ?_
  refine WL_nil ?_
  refine W_then rfl ?_
  refine W_seq ?_
  refine W_region ?_
  refine o_build bld_46 (vs := []) (cs := [_, _, _]) rfl rfl rfl rfl ?_
  first | refine o_storeN (kk := 2) (vs := [_, _, _]) S3_8 sz_46 rfl rfl rfl rfl rfl rfl rfl ?_
  intro w7_1 S7_1 X7_1
  dsimp only [setsAt, List.set] at S7_1
  first | refine o_store (kk := 1) S7_1 sz_24 rfl (by conv => lhs; whnf) rfl rfl (by exact Nat.le_of_ble_eq_true rfl) ?_
  intro w7_2 S7_2 X7_2
  refine WL_nil ?_
  refine W_ret ?_
  rw [nextC_out (out_thread (x := ⟨xt, xst, xc⟩) (.inr (by rw [← hnt]; exact h42)))]
  exact retL_cells2 (n := 3) rfl many_46 one_errno rfl rfl rfl [] rfl List.nodup_nil NC.nil (S7_2.cells 2 rfl) (S7_2.cell 1 rfl rfl) (by simp) (by simp) (fun w' hb => ⟨⟨_, rfl, rdConf_zero⟩, (S7_2.below.trans hb).nil⟩)
 refine o_pick rfl (v := .bool _) rfl rfl ?_
 refine o_move (v := .bool _) rfl rfl ?_
 refine WL_on rfl rfl rfl ?_
 refine o_fieldAddr fa_53_1 rfl rfl ?_
 refine WL_on rfl rfl rfl ?_
 refine o_load one_3 rfl (by exact S3_8.cell 3 rfl rfl) rfl ?_
 refine WL_on rfl rfl rfl ?_
 refine o_lss rfl rfl rfl (fun h47 => ?_) fun h47 => ?_
 ·refine o_pick rfl (v := .bool _) rfl rfl ?_
  refine WL_nil ?_
  refine W_then rfl ?_
  refine W_seq ?_
  refine W_region ?_
  refine o_build bld_46 (vs := []) (cs := [_, _, _]) rfl rfl rfl rfl ?_
  first | refine o_storeN (kk := 2) (vs := [_, _, _]) S3_8 sz_46 rfl rfl rfl rfl rfl rfl rfl ?_
  intro w7_1 S7_1 X7_1
  dsimp only [setsAt, List.set] at S7_1
  first | refine o_store (kk := 1) S7_1 sz_24 rfl (by conv => lhs; whnf) rfl rfl (by exact Nat.le_of_ble_eq_true rfl) ?_
  intro w7_2 S7_2 X7_2
  refine WL_nil ?_
  refine W_ret ?_
  rw [nextC_out (out_step (x := ⟨xt, xst, xc⟩) h47)]
  exact retL_cells2 (n := 3) rfl many_46 one_errno rfl rfl rfl [] rfl List.nodup_nil NC.nil (S7_2.cells 2 rfl) (S7_2.cell 1 rfl rfl) (by simp) (by simp) (fun w' hb => ⟨⟨_, rfl, rdConf_zero⟩, (S7_2.below.trans hb).nil⟩)
 refine o_pick rfl (v := .bool _) rfl rfl ?_
 refine WL_nil ?_
 refine W_else rfl ?_
 refine W_skip ?_
 refine W_seq ?_
 refine W_seq ?_
 obtain ⟨t, rfl⟩ := Int.eq_ofNat_of_zero_le (show 0 ≤ xt by omega)
 have ht : t < p.threads.length := by omega
 obtain ⟨b, hxb⟩ : ∃ b, c.buf[t]? = some b := ⟨c.buf[t]'(by omega), List.getElem?_eq_getElem _⟩
 obtain ⟨th, hxth⟩ : ∃ th, p.threads[t]? = some th := ⟨p.threads[t]'(by omega), List.getElem?_eq_getElem _⟩
 refine W_region ?_
 refine o_fieldAddr fa_53_1 rfl rfl ?_
 refine o_load one_3 rfl (by exact S3_8.cell 3 rfl rfl) rfl ?_
 refine o_eql rfl rfl rfl (fun h52 => ?_) fun h52 => ?_
 ·refine WL_nil ?_
  refine W_then rfl ?_
  refine W_seq ?_
  refine W_seq ?_
  subst h52
  refine W_region ?_
  refine o_loadN many_98 rfl (S3_8.cells 0 rfl) rfl rfl ?_
  refine o_fieldAddr fa_53_0 rfl rfl ?_
  refine o_load one_3 rfl (by exact S3_8.cell 3 rfl rfl) rfl ?_
  have Zb := S3_8.size
  refine o_calln S3_8 has_40 rfl rfl (open_fn _ rfl (t : Int) _) ?_
  rintro v56 w56 ⟨gs, gt, rfl, _, _, hbs, hbt⟩ S56 X56
  refine WL_nil ?_
  refine W_block ?_
  refine W_rangeFunc (vs := fun y => #[y, _, _]) has_67 rfl (fun _ => rfl) (fun rc wi hst hpe htm henv hps has hbo hdr hl hB hsz => ?_)
  obtain ⟨l, hl'⟩ : ∃ l, l = w56.heap.size + 1 := ⟨_, rfl⟩
  have hO1 := range_start (NC.nil (w := w56)) hdr hl hB
  rw [← hl'] at hl hO1 ⊢
  have Si := S56.later hB
  have Ki : Keep [] w56 wi := Keep.of_below hB
  have Zw := S56.size
  have lgs : gs < w56.heap.size := hbs.lt
  have hMl : ∀ g ∈ (l :: M), g ∈ M ∨ w0.heap.size ≤ g := fun g hg => by
   rcases List.mem_cons.1 hg with rfl | hg
   ·right; omega
   ·exact .inl hg
  have hXi : RdConf (l :: M) wi c _ := (hX.more hMl).keep (Si.keep0 _)
  have hgsM : gs ∉ (l :: M) := fun hh => by
   rcases List.mem_cons.1 hh with h | h
   ·omega
   ·have := hM gs h; omega
  have hlne : ∀ x ∈ [(w56.heap.size, Obj.deferred (some []))], x.1 ≠ l := fun x hx => by
   rcases List.mem_cons.1 hx with rfl | hx
   ·show w56.heap.size ≠ l; omega
   ·cases hx
  refine Does.mono (open1_fn c m t b hxb gs gt l (l :: M) wi _ [.slice Ac nc cc, .slice Am nm cm, .slice Al nl cl, .slice At nt ct] rfl (fun i w => NC w [(l, .loop rc), (w56.heap.size, .deferred (some []))] ∧ St [] w0 w [(some g10, 98, [.slice Xm xm ym, .slice Xa xa ya, .slice Xb xb yb, .slice Ac nc cc, .slice Am nm cm, .slice Al nl cl, .slice At nt ct, .int .i64 m]), (some g9, 24, [.int .i64 0]), (some g8, 46, [.slice none 0 0, .slice none 0 0, .slice none 0 0]), (some g7, 53, [.int .i64 t, .int .i64 (-1), .int .i64 xc]), (some g6, 46, [.slice Xm xm ym, .slice Xa xa ya, .slice Xb xb yb]), (some g4, 36, [.slice Ac nc cc, .slice Am nm cm, .slice Al nl cl, .slice At nt ct])] ∧ Keep (l :: M) wi w ∧ (∀ q en, q < i → b[q]? = some en → readyC m b q = true → en.cells.getD 0 0 ≠ xc)) (fun w => ∃ (i : Nat) (en : EntryD) (ys : List Value), b[i]? = some en ∧ readyC m b i = true ∧ en.cells.getD 0 0 = xc ∧ (∀ q en, q < i → b[q]? = some en → readyC m b q = true → en.cells.getD 0 0 ≠ xc) ∧ NC w [(l, .loop { rc with state := .done, pending := some .ret }), (w56.heap.size, .deferred (some []))] ∧ St [] w0 w [(some g10, 98, [.slice Xm xm ym, .slice Xa xa ya, .slice Xb xb yb, .slice Ac nc cc, .slice Am nm cm, .slice Al nl cl, .slice At nt ct, .int .i64 m]), (some g9, 24, [.int .i64 0]), (some g8, 46, ys), (some g7, 53, [.int .i64 t, .int .i64 (-1), .int .i64 xc]), (some g6, 46, [.slice Xm xm ym, .slice Xa xa ya, .slice Xb xb yb]), (some g4, 36, [.slice Ac nc cc, .slice Am nm cm, .slice Al nl cl, .slice At nt ct])] ∧ ys.length = 3 ∧ RdConf (l :: w56.heap.size :: M) w (commitC c t i) ys) hXi hgsM (keep_hasBlk Ki hbs) (keep_hasBlk Ki hbt) ⟨hO1, Si, Keep.refl _ _, fun q en hq => absurd hq (by omega)⟩ (fun i w hJ => hJ.2.2.1) ?_ ?_ (fun i en w es hxen hrd hJ hE => ?_)) ?_
  ·rintro i w w' ⟨hO3, S3, K3, hno⟩ hB'
   exact ⟨hO3.keep (Keep.of_below hB'), S3.later hB', K3.trans (Keep.of_below hB'), hno⟩
  ·rintro i w ⟨hO3, S3, K3, hno⟩ hi hr
   exact ⟨hO3, S3, K3, fun q en hq hx hr' => by
    by_cases hqi : q = i
    ·subst hqi; rw [hr] at hr'; cases hr'
    ·exact hno q en (by omega) hx hr'⟩
  ·obtain ⟨hO3, S3, K3, hno⟩ := hJ
   obtain ⟨_, _, _, _, _, _, rfl, -⟩ := REntry.open_ (hE _ _ (fun g hg => .inl hg) K3)
   have qE := (hf.bufs t b hxb).2.1 en (some_mem hxen)
   have qE0 : 0 < en.cells.length := by
    rcases Nat.eq_zero_or_pos en.cells.length with h | h
    ·exact absurd (List.length_eq_zero_iff.1 h) qE.some_
    ·exact h
   have li := some_lt hxen
   refine yields2 (hO3 (l, .loop rc) (by simp)).1 hst htm henv hps has hbo rfl rfl ?_
   refine W_seq ?_
   refine W_region ?_
   refine o_assign (v := .int .i64 _) rfl rfl ?_
   refine WL_nil ?_
   refine W_region ?_
   refine o_alloc S3 zv_93 rfl rfl ?_
   intro g13 w13 S13 X13 G13
   have GK313 := Nat.le_trans K3.size G13
   replace K3 := K3.trans (X13.of_nil)
   replace hO3 := hO3.keep X13
   refine o_storeN (kk := 0) (vs := [_, _]) S13 sz_93 rfl rfl rfl rfl rfl rfl rfl ?_
   intro w11_1 S11_1 X11_1
   dsimp only [setsAt, List.set] at S11_1
   replace K3 := K3.fresh2 X11_1 (by exact .inl GK313)
   replace hO3 := by exact hO3.keepS X11_1 (S13.blk 0 rfl)
   refine WL_nil ?_
   refine ⟨(hO3 (l, .loop rc) (by simp)).1, ?_⟩
   have Sb := S11_1.putObj (.loop { rc with state := .busy }) hO3 (List.mem_cons_self) (.inl (by omega))
   have hOb := hO3.put (o' := .loop { rc with state := .busy }) hlne (by simp)
   have Kb := K3.fresh2 (keep_putObj w11_1 l (.loop { rc with state := .busy })) (.inr (by simp))
   generalize w11_1.putObj l (.loop { rc with state := .busy }) = wb at Sb hOb Kb ⊢
   obtain ⟨_, _, _, _, _, _, heq, hCeB, -⟩ := REntry.open_ (hE (l :: M) wb (fun g hg => .inl hg) Kb)
   simp only [List.cons.injEq, Value.slice.injEq, and_true] at heq
   obtain ⟨⟨rfl, rfl, rfl⟩, rfl, rfl, rfl⟩ := heq
   have hec := hCeB.len.1
   refine W_block ?_
   refine W_seq ?_
   obtain ⟨_, _, _, _, hxx0, _, _, _, hcx, hrx⟩ := RdS.get hCeB 0 qE0
   obtain ⟨rfl, _⟩ := hrx
   refine W_draw fmx [0, 1, 2, 3, 4, 5, 6] [] [] (by kernel_rfl) rfl (Cl _ _ _ _) (Cl.start Sb) ?_
   refine q_fieldAddr fa_93_0 rfl rfl ?_
   refine q_load one_43 rfl (fun w1 hw => by exact hw.1.cell 0 rfl rfl) rfl ?_
   refine q_indexAddr slz_43.slT rfl (by assumption) rfl (by omega) (by omega) rfl ?_
   refine q_load one_3 rfl (fun w1 hw => by exact hw.2.cell List.not_mem_nil (hcx 0 _ rfl)) rfl ?_
   refine q_fieldAddr fa_53_2 rfl rfl ?_
   refine q_load one_3 rfl (fun w1 hw => by exact hw.1.cell 4 rfl rfl) rfl ?_
   refine q_eql rfl rfl rfl (fun h65 => ?_) fun h65 => ?_
   ·refine QL_nil ?_
    refine BK_of (BKL_nil ?_)
    rintro wR12 ⟨SR12, XR12⟩
    replace Kb := Kb.trans (XR12.of_nil)
    replace hOb := hOb.keep XR12
    refine WL_nil ?_
    refine W_then rfl ?_
    refine W_seq ?_
    refine W_region ?_
    refine o_loadN many_98 rfl (SR12.cells 1 rfl) rfl rfl ?_
    refine o_fieldAddr fa_53_0 rfl rfl ?_
    refine o_load one_3 rfl (by exact SR12.cell 4 rfl rfl) rfl ?_
    refine o_move (v := .int .i64 _) rfl rfl ?_
    have hM4 : ∀ g ∈ l :: w56.heap.size :: g9 :: g8 :: M, g < wR12.heap.size := fun g hg => by
     rcases List.mem_cons.1 hg with rfl | hg
     ·exact hOb.lt _ List.mem_cons_self
     ·rcases List.mem_cons.1 hg with rfl | hg
      ·exact hOb.lt (w56.heap.size, .deferred (some [])) (by simp)
      ·exact two_lt SR12 (i := 2) (j := 3) rfl rfl hM g hg
    have hN4 : ∀ g ∈ l :: w56.heap.size :: g9 :: g8 :: M, g ∈ M ∨ w0.heap.size ≤ g := fun g hg => by
     rcases List.mem_cons.1 hg with rfl | hg
     ·right; omega
     ·rcases List.mem_cons.1 hg with rfl | hg
      ·right; omega
      ·exact two_new SR12 (i := 2) (j := 3) rfl rfl g hg
    refine o_calln SR12 has_41 rfl rfl (commit_fn p hp c t i b (l :: w56.heap.size :: g9 :: g8 :: M) _ hM4 [.slice Ac nc cc, .slice Am nm cm, .slice Al nl cl, .slice At nt ct] [.slice Xm xm ym, .slice Xa xa ya, .slice Xb xb yb] m ⟨(hI.rd.more hN4).keep (SR12.keep0 _), hI.ok, (hI.msk.more hN4).keep (SR12.keep0 _), hM4⟩ ((hX.more hN4).keep (SR12.keep0 _)) hf hxb li) ?_
    rintro v70 w70 ⟨ys, rfl, hy⟩ S70 X70
    replace hOb := hOb.keep X70
    obtain ⟨Ym, ym', zm, Ya, ya', za, Yb, yb', zb, rfl, -⟩ := hy.open_
    first | refine o_storeN (kk := 3) (vs := [_, _, _]) S70 sz_46 rfl rfl rfl rfl rfl rfl rfl ?_
    intro w13_5 S13_5 X13_5
    dsimp only [setsAt, List.set] at S13_5
    replace hOb := by exact hOb.keepS X13_5 (S70.blk 3 rfl)
    replace hy := hy.keep (X13_5.mono (by simp))
    first | refine o_store (kk := 2) S13_5 sz_24 rfl (by conv => lhs; whnf) rfl rfl (by exact Nat.le_of_ble_eq_true rfl) ?_
    intro w13_6 S13_6 X13_6
    replace hOb := by exact hOb.keepS X13_6 (S13_5.blk 2 rfl)
    replace hy := hy.keep (X13_6.mono (by simp))
    refine WL_nil ?_
    refine W_ret ?_
    refine ⟨{ rc with state := .busy }, (hOb (l, _) (by simp)).1, .inr ⟨rfl, ?_⟩⟩
    have hOn := hOb.put (o' := .loop { rc with state := .done, pending := some .ret }) hlne (by simp)
    have Sn := S13_6.tail.putObj (.loop { rc with state := .done, pending := some .ret }) hOb (List.mem_cons_self) (.inl (by omega))
    exact ⟨i, en, _, hxen, hrd, by rw [getD_some hxx0]; exact h65, hno, hOn, Sn, rfl, (hy.keep ((keep_putObj w13_6 l _).mono (by simp))).less (fun g hg => by simp only [List.mem_cons] at hg ⊢; rcases hg with h | h | h <;> simp [h])⟩
   refine QL_nil ?_
   refine BK_of (BKL_nil ?_)
   rintro wR12 ⟨SR12, XR12⟩
   replace Kb := Kb.trans (XR12.of_nil)
   replace hOb := hOb.keep XR12
   refine WL_nil ?_
   refine W_else rfl ?_
   refine W_skip ?_
   refine ⟨{ rc with state := .busy }, (hOb (l, _) (by simp)).1, .inl ⟨rfl, ?_⟩⟩
   have hOn := hOb.put (o' := .loop rc) hlne (by simp)
   have Sn := SR12.tail.putObj (.loop rc) hOb (List.mem_cons_self) (.inl (by omega))
   have Kn := Kb.fresh2 (keep_putObj wR12 l (.loop rc)) (.inr (by simp))
   rw [rec_back hst hpe]
   exact ⟨hOn, Sn, Kn, fun q en' hq hx hr' => by
    by_cases hqi : q = i
    ·subst hqi; obtain rfl := Option.some.inj (hxen.symm.trans hx); rw [getD_some hxx0]; exact h65
    ·exact hno q en' (by omega) hx hr'⟩
  rintro v w3 (⟨hO3, S3, K3, hno⟩ | ⟨i, en, ys, hxen, hrd, hce, hfst, hO3, S3, hy3, hyr⟩)
  rotate_left
  ·refine ⟨{ rc with state := .done, pending := some .ret }, (hO3 (l, _) List.mem_cons_self).1, by simp, .inr ⟨rfl, ?_⟩⟩
   have Sa := S3.putObj (.loop { rc with state := .exhausted, pending := some .ret }) hO3 (List.mem_cons_self) (.inl (by omega))
   have hOa := (hO3.put (o' := .loop { rc with state := .exhausted, pending := some .ret }) hlne (by simp)).tail
   have Ka := keep_putObj w3 l (.loop { rc with state := .exhausted, pending := some .ret })
   have hya := hyr.keep (Ka.mono (by simp))
   subst hce
   rw [nextC_in (in_comm ht hxb hxen hrd), do_comm hxb (fun e he => ((hf.bufs t b hxb).2.1 e he).some_) hxen hrd]
   exact retL_cells2 (n := 3) rfl many_46 one_errno rfl rfl hy3 [w56.heap.size] rfl (by simp) hOa (Sa.cells 2 rfl) (Sa.cell 1 rfl rfl) (by have := hOa.ne (Sa.blk 2 rfl) _ (List.mem_cons_self); simpa using fun h : g8 = _ => this h.symm) (by have := hOa.ne (Sa.blk 1 rfl) _ (List.mem_cons_self); simpa using fun h : g9 = _ => this h.symm) (fun w' hb => ⟨⟨_, rfl, (hya.keep ((Keep.of_belowM hb).mono (by simp))).less (fun g hg => by simp [hg])⟩, (BelowB.step Sa.below hb (by simp; omega)).nil⟩)
  refine ⟨rc, (hO3 (l, .loop rc) (by simp)).1, by rw [hst]; simp, .inl ⟨hpe, ?_⟩⟩
  have Sa := S3.putObj (.loop { rc with state := .exhausted }) hO3 (List.mem_cons_self) (.inl (by omega))
  have hOa := (hO3.put (o' := .loop { rc with state := .exhausted }) hlne (by simp)).tail
  generalize w3.putObj l (.loop { rc with state := .exhausted }) = wa at Sa hOa ⊢
  refine W_seq ?_
  refine W_region ?_
  refine o_build bld_46 (vs := []) (cs := [_, _, _]) rfl rfl rfl rfl ?_
  first | refine o_storeN (kk := 2) (vs := [_, _, _]) Sa sz_46 rfl rfl rfl rfl rfl rfl rfl ?_
  intro w14_1 S14_1 X14_1
  dsimp only [setsAt, List.set] at S14_1
  replace hOa := by exact hOa.keepS X14_1 (Sa.blk 2 rfl)
  first | refine o_store (kk := 1) S14_1 sz_24 rfl (by conv => lhs; whnf) rfl rfl (by exact Nat.le_of_ble_eq_true rfl) ?_
  intro w14_2 S14_2 X14_2
  replace hOa := by exact hOa.keepS X14_2 (S14_1.blk 1 rfl)
  refine WL_nil ?_
  refine W_ret ?_
  rw [nextC_out (out_comm hxb hno)]
  exact retL_cells2 (n := 3) rfl many_46 one_errno rfl rfl rfl [w56.heap.size] rfl (by simp) hOa (S14_2.cells 2 rfl) (S14_2.cell 1 rfl rfl) (by have := hOa.ne (S14_2.blk 2 rfl) _ (List.mem_cons_self); simpa using fun h : g8 = _ => this h.symm) (by have := hOa.ne (S14_2.blk 1 rfl) _ (List.mem_cons_self); simpa using fun h : g9 = _ => this h.symm) (fun w' hb => ⟨⟨_, rfl, rdConf_zero⟩, (BelowB.step S14_2.below hb (by simp; omega)).nil⟩)
 refine WL_nil ?_
 refine W_else rfl ?_
 refine W_skip ?_
 refine W_seq ?_
 obtain ⟨i, rfl⟩ := Int.eq_ofNat_of_zero_le (show 0 ≤ xst by omega)
 refine W_region ?_
 refine o_loadN many_46 rfl (S3_8.cells 4 rfl) rfl rfl ?_
 refine o_fieldAddr fa_53_0 rfl rfl ?_
 refine o_load one_3 rfl (by exact S3_8.cell 3 rfl rfl) rfl ?_
 refine o_calln S3_8 has_42 rfl rfl (view_fn p hp c t b (g9 :: g8 :: M) _ (two_lt S3_8 (i := 1) (j := 2) rfl rfl hM) _ ((hX.more (two_new S3_8 (i := 1) (j := 2) rfl rfl)).keep (S3_8.keep0 _)) hf hxb) ?_
 rintro v75 w75 hV S75 X75
 obtain ⟨_, _, _, rfl⟩ := hV.form
 refine o_assign (by conv => lhs; whnf) rfl ?_
 refine WL_nil ?_
 refine W_seq ?_
 refine W_seq ?_
 refine W_draw fmx [0, 1, 2, 3, 4, 5, 6, 7, 8, 9, 10, 11, 12, 13, 14, 15, 16, 17, 18, 19, 20, 21, 22, 23, 24, 25] [] [] (by kernel_rfl) rfl (Cl _ _ _ _) (Cl.start S75) ?_
 refine q_fieldAddr fa_53_2 rfl rfl ?_
 refine q_load one_3 rfl (fun w1 hw => by exact hw.1.cell 3 rfl rfl) rfl ?_
 refine q_neq rfl rfl rfl (fun h78 => ?_) fun h78 => ?_
 ·refine q_move (v := .bool _) rfl rfl ?_
  refine QL_off rfl rfl rfl ?_
  refine QL_off rfl rfl rfl ?_
  refine QL_off rfl rfl rfl ?_
  refine QL_off rfl rfl rfl ?_
  refine QL_off rfl rfl rfl ?_
  refine QL_off rfl rfl rfl ?_
  refine QL_off rfl rfl rfl ?_
  refine QL_off rfl rfl rfl ?_
  refine QL_off rfl rfl rfl ?_
  refine QL_off rfl rfl rfl ?_
  refine QL_off rfl rfl rfl ?_
  refine q_pick rfl (v := .bool _) rfl rfl ?_
  refine q_move (v := .bool _) rfl rfl ?_
  refine QL_off rfl rfl rfl ?_
  refine QL_off rfl rfl rfl ?_
  refine QL_off rfl rfl rfl ?_
  refine QL_off rfl rfl rfl ?_
  refine QL_off rfl rfl rfl ?_
  refine QL_off rfl rfl rfl ?_
  refine QL_off rfl rfl rfl ?_
  refine QL_off rfl rfl rfl ?_
  refine q_pick rfl (v := .bool _) rfl rfl ?_
  refine QL_nil ?_
  refine BK_of (BKL_nil ?_)
  rintro wR16 ⟨SR16, XR16⟩
  replace hV := hV.keep (XR16.of_nil)
  refine WL_nil ?_
  refine W_then rfl ?_
  refine W_seq ?_
  refine W_region ?_
  refine o_build bld_46 (vs := []) (cs := [_, _, _]) rfl rfl rfl rfl ?_
  first | refine o_storeN (kk := 2) (vs := [_, _, _]) SR16 sz_46 rfl rfl rfl rfl rfl rfl rfl ?_
  intro w17_1 S17_1 X17_1
  dsimp only [setsAt, List.set] at S17_1
  first | refine o_store (kk := 1) S17_1 sz_24 rfl (by conv => lhs; whnf) rfl rfl (by exact Nat.le_of_ble_eq_true rfl) ?_
  intro w17_2 S17_2 X17_2
  refine WL_nil ?_
  refine W_ret ?_
  rw [nextC_out (out_cell (t := t) (st := i) (by omega) h78)]
  exact retL_cells2 (n := 3) rfl many_46 one_errno rfl rfl rfl [] rfl List.nodup_nil NC.nil (S17_2.cells 2 rfl) (S17_2.cell 1 rfl rfl) (by simp) (by simp) (fun w' hb => ⟨⟨_, rfl, rdConf_zero⟩, (S17_2.below.trans hb).nil⟩)
 refine q_move (v := .bool _) rfl rfl ?_
 refine QL_on rfl rfl ?_
 refine q_fieldAddr fa_53_1 rfl rfl ?_
 refine QL_on rfl rfl ?_
 refine q_load one_3 rfl (fun w1 hw => by exact hw.1.cell 3 rfl rfl) rfl ?_
 refine QL_on rfl rfl ?_
 refine q_fieldAddr fa_36_3 rfl rfl ?_
 refine QL_on rfl rfl ?_
 refine q_load one_34 rfl (fun w1 hw => by exact hw.1.cell 5 rfl rfl) rfl ?_
 refine QL_on rfl rfl ?_
 refine q_fieldAddr fa_53_0 rfl rfl ?_
 refine QL_on rfl rfl ?_
 refine q_load one_3 rfl (fun w1 hw => by exact hw.1.cell 3 rfl rfl) rfl ?_
 refine QL_on rfl rfl ?_
 obtain ⟨_, _, _, _, hx86, _, _, _, hc86, hr86⟩ := RdS.get (hTh) (t) (by omega)
 obtain rfl := Option.some.inj (hxth.symm.trans hx86)
 obtain ⟨_, _, _, _, _, _, _, _, _, _, _, _, rfl, _, _, _, _, _, _, _, hns86, _, _, _, _, _⟩ := RThread.open_ hr86
 refine q_indexAddr slz_34.slT rfl (by assumption) rfl (by omega) (by omega) rfl ?_
 refine QL_on rfl rfl ?_
 refine q_fieldAddr fa_83_4 rfl rfl ?_
 refine QL_on rfl rfl ?_
 refine q_load one_80 rfl (fun w1 hw => by exact hw.1.old (hc86 _ _ rfl)) rfl ?_
 refine QL_on rfl rfl ?_
 refine q_len slz_80.slT rfl rfl ?_
 refine QL_on rfl rfl ?_
 refine q_geq rfl rfl rfl (fun h90 => ?_) fun h90 => ?_
 ·refine q_pick rfl (v := .bool _) rfl rfl ?_
  refine q_move (v := .bool _) rfl rfl ?_
  refine QL_off rfl rfl rfl ?_
  refine QL_off rfl rfl rfl ?_
  refine QL_off rfl rfl rfl ?_
  refine QL_off rfl rfl rfl ?_
  refine QL_off rfl rfl rfl ?_
  refine QL_off rfl rfl rfl ?_
  refine QL_off rfl rfl rfl ?_
  refine QL_off rfl rfl rfl ?_
  refine q_pick rfl (v := .bool _) rfl rfl ?_
  refine QL_nil ?_
  refine BK_of (BKL_nil ?_)
  rintro wR16 ⟨SR16, XR16⟩
  replace hV := hV.keep (XR16.of_nil)
  refine WL_nil ?_
  refine W_then rfl ?_
  refine W_seq ?_
  refine W_region ?_
  refine o_build bld_46 (vs := []) (cs := [_, _, _]) rfl rfl rfl rfl ?_
  first | refine o_storeN (kk := 2) (vs := [_, _, _]) SR16 sz_46 rfl rfl rfl rfl rfl rfl rfl ?_
  intro w17_1 S17_1 X17_1
  dsimp only [setsAt, List.set] at S17_1
  first | refine o_store (kk := 1) S17_1 sz_24 rfl (by conv => lhs; whnf) rfl rfl (by exact Nat.le_of_ble_eq_true rfl) ?_
  intro w17_2 S17_2 X17_2
  refine WL_nil ?_
  refine W_ret ?_
  rw [nextC_out (out_long hxth (st := i) (by omega) (by rw [← hns86]; exact h90))]
  exact retL_cells2 (n := 3) rfl many_46 one_errno rfl rfl rfl [] rfl List.nodup_nil NC.nil (S17_2.cells 2 rfl) (S17_2.cell 1 rfl rfl) (by simp) (by simp) (fun w' hb => ⟨⟨_, rfl, rdConf_zero⟩, (S17_2.below.trans hb).nil⟩)
 refine q_pick rfl (v := .bool _) rfl rfl ?_
 refine q_move (v := .bool _) rfl rfl ?_
 refine QL_on rfl rfl ?_
 refine q_loadN many_98 rfl (fun w1 hw => hw.1.cells 0 rfl) rfl rfl ?_
 refine QL_on rfl rfl ?_
 refine q_fieldAddr fa_53_0 rfl rfl ?_
 refine QL_on rfl rfl ?_
 refine q_load one_3 rfl (fun w1 hw => by exact hw.1.cell 3 rfl rfl) rfl ?_
 refine QL_on rfl rfl ?_
 refine q_fieldAddr fa_53_1 rfl rfl ?_
 refine QL_on rfl rfl ?_
 refine q_load one_3 rfl (fun w1 hw => by exact hw.1.cell 3 rfl rfl) rfl ?_
 refine QL_on rfl rfl ?_
 refine q_move (by conv => lhs; whnf) rfl ?_
 refine QL_on rfl rfl ?_
 obtain ⟨s, hxs⟩ : ∃ s, th.steps[i]? = some s := ⟨th.steps[i]'(by omega), List.getElem?_eq_getElem _⟩
 refine q_callb has_43 rfl rfl (fun w1 S1 X1 => bufEnabled_fn p c m hm2 t i th s M _ [.slice Ac nc cc, .slice Am nm cm, .slice Al nl cl, .slice At nt ct] [.slice Xm xm ym, .slice Xa xa ya, .slice Xb xb yb] _ (hI.keep (S1.keep0 M)) (hX.keep (S1.keep0 M)) ((hV.keep (X1.of_nil)).less (fun g hg => List.mem_cons_of_mem _ (List.mem_cons_of_mem _ hg))) hf hxth hxs) (fun h99 => ?_) fun h99 => ?_
 ·refine QL_on rfl rfl ?_
  refine q_not rfl rfl ?_
  refine q_pick rfl (v := .bool _) rfl rfl ?_
  refine QL_nil ?_
  refine BK_of (BKL_nil ?_)
  rintro wR16 ⟨SR16, XR16⟩
  replace hV := hV.keep (XR16.of_nil)
  refine WL_nil ?_
  refine W_else rfl ?_
  refine W_skip ?_
  refine W_seq ?_
  subst h78
  have hin := in_step hxth hxs h99
  have hdo : doC p m c ⟨t, i, 0⟩ = execC p m c t s := do_st hxth hxs
  have hf' := fit_do hp hf hin
  rw [hdo] at hf'
  refine W_region ?_
  refine o_loadN many_98 rfl (SR16.cells 0 rfl) rfl rfl ?_
  refine o_loadN many_53 rfl (SR16.cells 3 rfl) rfl rfl ?_
  refine o_move (by conv => lhs; whnf) rfl ?_
  refine o_calln SR16 has_44 rfl rfl (execute_fn p c m hm2 t i th s (g9 :: g8 :: M) _ [.slice Ac nc cc, .slice Am nm cm, .slice Al nl cl, .slice At nt ct] [.slice Xm xm ym, .slice Xa xa ya, .slice Xb xb yb] _ (hI.two SR16 (i := 1) (j := 2) rfl rfl) ((hX.more (two_new SR16 (i := 1) (j := 2) rfl rfl)).keep (SR16.keep0 _)) hV hf hxth hxs hf') ?_
  rintro v106 w106 ⟨ys, rfl, hy⟩ S106 X106
  obtain ⟨Ym, ym', zm, Ya, ya', za, Yb, yb', zb, rfl, -⟩ := hy.open_
  first | refine o_storeN (kk := 2) (vs := [_, _, _]) S106 sz_46 rfl rfl rfl rfl rfl rfl rfl ?_
  intro w18_4 S18_4 X18_4
  dsimp only [setsAt, List.set] at S18_4
  replace hy := hy.keep (X18_4.mono (by simp))
  first | refine o_store (kk := 1) S18_4 sz_24 rfl (by conv => lhs; whnf) rfl rfl (by exact Nat.le_of_ble_eq_true rfl) ?_
  intro w18_5 S18_5 X18_5
  replace hy := hy.keep (X18_5.mono (by simp))
  refine WL_nil ?_
  refine W_ret ?_
  rw [nextC_in hin, hdo]
  exact retL_cells2 (n := 3) rfl many_46 one_errno rfl rfl rfl [] rfl List.nodup_nil NC.nil (S18_5.cells 2 rfl) (S18_5.cell 1 rfl rfl) (by simp) (by simp) (fun w' hb => ⟨⟨_, rfl, (hy.keep (Keep.of_below hb.nil)).less (fun g hg => by simp [hg])⟩, (S18_5.below.trans hb).nil⟩)
 refine QL_on rfl rfl ?_
 refine q_not rfl rfl ?_
 refine q_pick rfl (v := .bool _) rfl rfl ?_
 refine QL_nil ?_
 refine BK_of (BKL_nil ?_)
 rintro wR16 ⟨SR16, XR16⟩
 refine WL_nil ?_
 refine W_then rfl ?_
 refine W_seq ?_
 refine W_region ?_
 refine o_build bld_46 (vs := []) (cs := [_, _, _]) rfl rfl rfl rfl ?_
 first | refine o_storeN (kk := 2) (vs := [_, _, _]) SR16 sz_46 rfl rfl rfl rfl rfl rfl rfl ?_
 intro w17_1 S17_1 X17_1
 dsimp only [setsAt, List.set] at S17_1
 first | refine o_store (kk := 1) S17_1 sz_24 rfl (by conv => lhs; whnf) rfl rfl (by exact Nat.le_of_ble_eq_true rfl) ?_
 intro w17_2 S17_2 X17_2
 refine WL_nil ?_
 refine W_ret ?_
 rw [nextC_out (out_off hxth hxs h99)]
 exact retL_cells2 (n := 3) rfl many_46 one_errno rfl rfl rfl [] rfl List.nodup_nil NC.nil (S17_2.cells 2 rfl) (S17_2.cell 1 rfl rfl) (by simp) (by simp) (fun w' hb => ⟨⟨_, rfl, rdConf_zero⟩, (S17_2.below.trans hb).nil⟩)
end Go.Proofs.YtgnbfmifjlnigaaGreatDoor
namespace Go.Fw
open Go.RowKit
def runTo (p : ProgD) (m : Int) (c : ConfD) : List ChoiceD → List ConfD
 | [] => []
 | x :: l => if x ∈ choicesC p m c then doC p m c x :: runTo p m (doC p m c x) l else []
def runC (p : ProgD) (m : Int) (run : List ChoiceD) : List ConfD := startC p :: runTo p m (startC p) run
theorem doC_in' {p : ProgD} {m : Int} {c : ConfD} (he : noBuf c) {x : ChoiceD} (hx : x ∈ choicesC p m c) : ∃ (t i : Nat) (th : ThreadD) (s : StepD), x = ⟨t, i, 0⟩ ∧ p.threads[t]? = some th ∧ th.steps[i]? = some s ∧ enabledC p m c t s = true := by
 obtain ⟨t, ht, h | h⟩ := mem_choices.1 hx
 ·obtain ⟨i, s, hs, he, rfl⟩ := h
  have hth : p.threads[t]? = some p.threads[t] := List.getElem?_eq_getElem ht
  rw [stepsC_some hth] at hs
  exact ⟨t, i, _, s, rfl, hth, hs, he⟩
 ·obtain ⟨i, h1, -⟩ := h
  rw [he.getD] at h1; simp at h1
section
variable {p : ProgD} {m : Int}
theorem runTo_len : ∀ (run : List ChoiceD) (c : ConfD), (runTo p m c run).length ≤ run.length
 | [], _ => Nat.le_refl _
 | x :: l, c => by
   unfold runTo
   split
   ·simpa using runTo_len l _
   ·simp
theorem runTo_get : ∀ (run : List ChoiceD) (c0 : ConfD) (k : Nat) (c : ConfD) (x : ChoiceD), (c0 :: runTo p m c0 run)[k]? = some c → run[k]? = some x →
 (x ∈ choicesC p m c → (c0 :: runTo p m c0 run)[k + 1]? = some (doC p m c x)) ∧ (x ∉ choicesC p m c → (runTo p m c0 run).length = k)
 | [], _, _, _, _, _, h => by simp at h
 | y :: l, c0, 0, c, x, hc, hx => by
   simp at hc hx
   subst hc; subst hx
   unfold runTo
   constructor
   ·intro h; rw [if_pos h]; rfl
   ·intro h; rw [if_neg h]; rfl
 | y :: l, c0, k + 1, c, x, hc, hx => by
   have hx' : l[k]? = some x := by simpa using hx
   by_cases hy : y ∈ choicesC p m c0
   ·have e : runTo p m c0 (y :: l) = doC p m c0 y :: runTo p m (doC p m c0 y) l := by rw [runTo, if_pos hy]
    rw [e] at hc ⊢
    have hc' : (doC p m c0 y :: runTo p m (doC p m c0 y) l)[k]? = some c := by simpa using hc
    obtain ⟨h1, h2⟩ := runTo_get l _ k c x hc' hx'
    exact ⟨fun h => by rw [List.getElem?_cons_succ]; exact h1 h, fun h => by rw [List.length_cons, h2 h]⟩
   ·have e : runTo p m c0 (y :: l) = [] := by rw [runTo, if_neg hy]
    rw [e] at hc
    simp at hc
theorem runC_len (p : ProgD) (m : Int) (run : List ChoiceD) : (runC p m run).length = (runTo p m (startC p) run).length + 1 := rfl
theorem runC_le (p : ProgD) (m : Int) (run : List ChoiceD) : (runC p m run).length ≤ run.length + 1 := by have := runTo_len (p := p) (m := m) run (startC p); rw [runC_len]; omega
theorem runC_yes {run : List ChoiceD} {k : Nat} {c : ConfD} {x : ChoiceD} (hc : (runC p m run)[k]? = some c) (hx : run[k]? = some x) (h : x ∈ choicesC p m c) : (runC p m run)[k + 1]? = some (doC p m c x) := (runTo_get run _ k c x hc hx).1 h
theorem runC_no {run : List ChoiceD} {k : Nat} {c : ConfD} {x : ChoiceD} (hc : (runC p m run)[k]? = some c) (hx : run[k]? = some x) (h : x ∉ choicesC p m c) : (runC p m run).length = k + 1 := by rw [runC_len, (runTo_get run _ k c x hc hx).2 h]
def Good (p : ProgD) (m : Int) (c : ConfD) : Prop := FitC p c ∧ (m = 0 → noBuf c)
theorem good_start (hp : ProgOK p) : Good p m (startC p) := ⟨fit_start hp, fun _ b hb => by
 simp only [startC, List.mem_map] at hb
 obtain ⟨_, _, rfl⟩ := hb; rfl⟩
theorem good_do (hp : ProgOK p) {c : ConfD} (h : Good p m c) {x : ChoiceD} (hx : x ∈ choicesC p m c) : Good p m (doC p m c x) := ⟨fit_do hp h.1 hx, fun h0 => by
 subst h0
 obtain ⟨_, _, _, _, rfl, hth, hs, _⟩ := doC_in' (h.2 rfl) hx
 rw [doC0 (h.2 rfl) hth hs]
 exact h.2 rfl⟩
theorem good_all (hp : ProgOK p) : ∀ (run : List ChoiceD) (c0 : ConfD), Good p m c0 → ∀ c ∈ c0 :: runTo p m c0 run, Good p m c
 | [], c0, h, c, hc => by simp [runTo] at hc; subst hc; exact h
 | y :: l, c0, h, c, hc => by
   rcases List.mem_cons.1 hc with rfl | hc
   ·exact h
   ·unfold runTo at hc
    split at hc
    ·rename_i hy
     exact good_all hp l _ (good_do hp h hy) c hc
    ·cases hc
theorem good_run (hp : ProgOK p) {run : List ChoiceD} {c : ConfD} (hc : c ∈ runC p m run) : Good p m c := good_all hp run _ (good_start hp) c hc
end
end Go.Fw
namespace Go.Proofs.YtgnbfmifjlnigaaGreatDoor
open Go.Fw Go.RowKit
theorem confs_fn (cs : List Value) (h4 : cs.length = 4) (m : Int) (A : Option Addr) (n cap : Nat) (w0 : World) :
 Does Tryz.prog 34 #[.agg cs.toArray, .int .i64 m, .slice A n cap] w0 fun v w' => (∃ gp gr gm, v = .func (.func 62) #[] #[.pointer (some ⟨gp, 0, none⟩), .pointer (some ⟨gr, 0, none⟩), .pointer (some ⟨gm, 0, none⟩)] ∧ w0.heap.size ≤ gp ∧ w0.heap.size ≤ gr ∧ w0.heap.size ≤ gm ∧
  hasBlk w' (gp, 36, cs) ∧ hasBlk w' (gr, 22, [.slice A n cap]) ∧ hasBlk w' (gm, 3, [.int .i64 m])) ∧ Below w0.heap.size w0 w' := by
 have S := St.refl w0
 match cs, h4 with
 | [c0, c1, c2, c3], _ =>
 refine dnR Tryz.func34 rfl Tryz.ntmps34 rfl ?_
 refine wO0 rfl ⟨⟩ (o_boxa S (by conv => lhs; whnf) rfl ?_)
 intro g3 w3 S3 X3 G3
 refine o_box1 S3 (v := .int .i64 _) rfl rfl rfl ?_
 intro g4 w4 S4 X4 G4
 refine o_box1 S4 (v := .slice _ _ _) rfl rfl rfl ?_
 intro g5 w5 S5 X5 G5
 refine lO0 rfl ⟨⟩ (o_makeFunc rfl rfl ?_)
 refine lR0 rfl ⟨⟩ (ret_1 rfl (by conv => lhs; whnf) ?_)
 exact ⟨⟨g3, g5, g4, rfl, by simpa using S5.new 2 rfl, by simpa using S5.new 0 rfl, by simpa using S5.new 1 rfl, S5.blk 2 rfl, S5.blk 0 rfl, S5.blk 1 rfl⟩, S5.fin⟩
structure Rounds (p : ProgD) (m : Int) (run : List ChoiceD) (l : Nat) (Bs0 M0 : List Nat) (w0 : World) (J : Nat → Nat → List Nat → World → Prop) (Q : World → Prop) : Prop where
 start : ∀ g5 w, w0.heap.size ≤ g5 → Below w0.heap.size w0 w → J g5 0 Bs0 w
 own : ∀ g5 k Bs w w', w0.heap.size ≤ g5 → g5 ∉ Bs → J g5 k Bs w → BelowB [g5] w w' → J g5 k Bs w'
 lt : ∀ g5 k Bs w, J g5 k Bs w → ∀ g ∈ Bs, g < w.heap.size
 each : ∀ g5 k Bs w c ys (err : Int), w0.heap.size ≤ g5 → g5 < w.heap.size → g5 ∉ Bs → J g5 k Bs w → Keep Bs0 w0 w → ((err = 0 ∧ (runC p m run)[k]? = some c) ∨ (err = 110 ∧ k = (runC p m run).length ∧ (runC p m run).length ≤ run.length ∧ c = ⟨[], [], []⟩)) → RdConf (g5 :: (Bs ++ M0)) w c ys →
  Yld Tryz.prog l #[.agg ys.toArray, .int .i64 err] w fun v w' => (err = 0 ∧ v = .bool true ∧ ∃ Bs', J g5 (k + 1) Bs' w' ∧ Keep Bs w w' ∧ ∀ g ∈ Bs', g ∈ Bs ∨ w.heap.size ≤ g) ∨ (err = 110 ∧ v = .bool false ∧ Q w')
section
variable {p : ProgD} {m : Int} {run : List ChoiceD} {l : Nat} {Bs0 M0 : List Nat} {w0 : World} {J : Nat → Nat → List Nat → World → Prop} {Q : World → Prop}
theorem Rounds.round (h : Rounds p m run l Bs0 M0 w0 J Q) : ∀ g5 k Bs w c ys, w0.heap.size ≤ g5 → g5 < w.heap.size → g5 ∉ Bs → J g5 k Bs w → Keep Bs0 w0 w → (runC p m run)[k]? = some c → RdConf (g5 :: (Bs ++ M0)) w c ys → Yld Tryz.prog l #[.agg ys.toArray, .int .i64 0] w fun v w' => v = .bool true ∧ ∃ Bs', J g5 (k + 1) Bs' w' ∧ Keep Bs w w' ∧ ∀ g ∈ Bs', g ∈ Bs ∨ w.heap.size ≤ g :=
 fun g5 k Bs w c ys h1 h2 h3 h4 h5 h6 h7 => (h.each g5 k Bs w c ys 0 h1 h2 h3 h4 h5 (.inl ⟨rfl, h6⟩) h7).mono fun v w' hh => by
  rcases hh with ⟨_, hh⟩ | ⟨hh, _⟩
  ·exact hh
  ·omega
theorem Rounds.last (h : Rounds p m run l Bs0 M0 w0 J Q) : ∀ g5 Bs w ys, w0.heap.size ≤ g5 → g5 < w.heap.size → g5 ∉ Bs → Keep Bs0 w0 w → (runC p m run).length ≤ run.length → J g5 (runC p m run).length Bs w → RdConf (g5 :: (Bs ++ M0)) w ⟨[], [], []⟩ ys → Yld Tryz.prog l #[.agg ys.toArray, .int .i64 110] w fun v w' => v = .bool false ∧ Q w' :=
 fun g5 Bs w ys h1 h2 h3 h4 h5 h6 h7 => (h.each g5 _ Bs w _ ys 110 h1 h2 h3 h6 h4 (.inr ⟨rfl, rfl, h5, rfl⟩) h7).mono fun v w' hh => by
  rcases hh with ⟨hh, _⟩ | ⟨_, hh⟩
  ·omega
  ·exact hh
end
theorem keep_hasBlkM {M : List Nat} {w w' : World} {b : Blk} (hk : Keep M w w') (hm : b.1 ∉ M) (h : hasBlk w b) : hasBlk w' b := by
 have := h.lt
 unfold hasBlk at *; rw [hk.same _ this hm]; exact h
theorem InP.grow {p : ProgD} {Bs0 M0 N : List Nat} {w0 w : World} {cs : List Value} (h : InP p (Bs0 ++ M0) w0 cs) (hK : Keep Bs0 w0 w) (hN : ∀ g ∈ N, g ∈ Bs0 ++ M0 ∨ w0.heap.size ≤ g) (hlt : ∀ g ∈ N, g < w.heap.size) : InP p N w cs := by
 have hm : ∀ g ∈ Bs0 ++ N, g ∈ Bs0 ++ M0 ∨ w0.heap.size ≤ g := fun g hg => by
  rcases List.mem_append.1 hg with h | h
  ·exact .inl (List.mem_append_left _ h)
  ·exact hN g h
 have hk : Keep (Bs0 ++ N) w0 w := hK.mono fun g hg => List.mem_append_left _ hg
 exact ⟨((h.rd.more hm).keep hk).less fun g hg => List.mem_append_right _ hg, h.ok, ⟨fun hh => ((h.msk.more hm).keep hk).1 (List.mem_append_right _ hh), ((h.msk.more hm).keep hk).2⟩, hlt⟩
theorem RdConf.grow {c : ConfD} {ys : List Value} {g5 : Nat} {Bs Bs' M0 : List Nat} {w w' : World} (h : RdConf (g5 :: (Bs ++ M0)) w c ys) (hk : Keep Bs w w') (hb : ∀ g ∈ Bs', g ∈ Bs ∨ w.heap.size ≤ g) : RdConf (g5 :: (Bs' ++ M0)) w' c ys := by
 have h1 : RdConf (Bs ++ (g5 :: (Bs' ++ M0))) w c ys := h.more fun g hg => by
  simp only [List.mem_append, List.mem_cons] at hg ⊢
  rcases hg with hg | rfl | hg | hg
  ·exact .inl (.inr (.inl hg))
  ·exact .inl (.inl rfl)
  ·rcases hb g hg with h | h
   ·exact .inl (.inr (.inl h))
   ·exact .inr h
  ·exact .inl (.inr (.inr hg))
 exact (h1.keep (hk.mono fun g hg => List.mem_append_left _ hg)).less fun g hg => List.mem_append_right _ hg
theorem confs1_fn (p : ProgD) (m : Int) (hm : m = 0 ∨ m = 1 ∨ m = 2) (run : List ChoiceD) (gp gr gm l : Nat) (Bs0 M0 : List Nat) (w0 : World) (cs : List Value) (vr : Value) (J : Nat → Nat → List Nat → World → Prop) (Q : World → Prop)
 (hI : InP p (Bs0 ++ M0) w0 cs) (hRun : RdCh (Bs0 ++ M0) w0 vr run) (hbp : hasBlk w0 (gp, 36, cs)) (hbr : hasBlk w0 (gr, 22, [vr])) (hbm : hasBlk w0 (gm, 3, [.int .i64 m])) (hgp : gp ∉ Bs0) (hgr : gr ∉ Bs0) (hgm : gm ∉ Bs0)
 (hJ : Rounds p m run l Bs0 M0 w0 J Q) :
 Does Tryz.prog 62 #[.func (.yield l) #[] #[], .pointer (some ⟨gp, 0, none⟩), .pointer (some ⟨gr, 0, none⟩), .pointer (some ⟨gm, 0, none⟩)] w0 fun _ w' => ((runC p m run).length = run.length + 1 ∧ ∃ g5 Bs, J g5 (runC p m run).length Bs w') ∨ Q w' := by
 obtain ⟨Ac, nc, cc, Am, nm, cm, Al, nl, cl, At, nt, ct, rfl, -⟩ := hI.rd.open_
 obtain ⟨Ar, nr, cr, rfl⟩ := hRun.form
 obtain ⟨_, -, _⟩ := hRun.len
 have hp := hI.ok
 have S := St.refl w0
 have hcp : Cells w0 gp 0 [.slice Ac nc cc, .slice Am nm cm, .slice Al nl cl, .slice At nt ct] := fun j v hj => by rw [Nat.zero_add]; exact hbp.cell hj
 have hB0 : ∀ g ∈ Bs0, g < w0.heap.size := fun g hg => hI.lt g (List.mem_append_left _ hg)
 refine dnR Tryz.func62 rfl Tryz.ntmps62 rfl ?_
 refine wO0 rfl ⟨⟩ (o_loadN many_36 rfl (hcp.keep (S.keep0 []) (by simp)) (by rfl) rfl ?_)
 refine o_calln S has_15 rfl rfl (machStart_fn p (Bs0 ++ M0) _ _ (hI.keep (S.keep0 _))) ?_
 rintro v10 w10 ⟨_, rfl, hx⟩ S10 X10
 obtain ⟨Ym, ym', zm, Ya, ya', za, Yb, yb', zb, rfl, -⟩ := hx.open_
 refine o_alloc S10 zv_46 rfl rfl ?_
 intro g5 w5 S5 X5 G5
 have G5' := Nat.le_trans S10.size G5
 replace hx := (hx.more (M' := g5 :: (Bs0 ++ M0)) (fun g hg => by rcases List.mem_cons.1 hg with rfl | hg; exact .inr G5; exact .inl hg)).keep X5.of_nil
 first | refine o_storeN (kk := 0) (vs := [_, _, _]) S5 sz_46 rfl rfl rfl rfl rfl rfl rfl ?_
 intro w0_3 S0_3 X0_3
 dsimp only [setsAt, List.set] at S0_3
 replace hx := hx.keep (X0_3.mono (by simp))
 refine lO0 rfl ⟨⟩ (o_loadN many_46 rfl (S0_3.cells 0 rfl) rfl rfl ?_)
 refine lO0 rfl ⟨⟩ ?_
 have hJ0 := hJ.start g5 _ G5' S0_3.fin
 refine o_yield rfl rfl rfl (hJ.round g5 0 Bs0 _ (startC p) _ G5' (S0_3.lt 0 rfl) (fun hh => by have := hB0 g5 hh; omega) hJ0 (S0_3.keep0 _) rfl hx) ?_
 rintro v14 w14 ⟨rfl, Bs1, hJ1, hK1, hN1⟩
 have hb14 := keep_hasBlkM hK1 (fun hh => by have := hB0 g5 hh; omega) (S0_3.blk 0 rfl)
 have hx1 := RdConf.grow hx hK1 hN1
 have K14 : Keep Bs0 w0 w14 := (S0_3.keep0 Bs0).trans hK1
 have hN14 : ∀ g ∈ Bs1, g ∈ Bs0 ∨ w0.heap.size ≤ g := fun g hg => by
  rcases hN1 g hg with h | h
  ·exact .inl h
  ·right; have := S0_3.size; omega
 have n14 : g5 ∉ Bs1 := fun hh => by
  rcases hN1 g5 hh with h | h
  ·have := hB0 g5 h; omega
  ·have := S0_3.lt 0 rfl; omega
 have S := St.borrow1 hb14
 have hcr : w14.cell? ⟨gr, 0, none⟩ = some (.slice Ar nr cr) := K14.cell (a := ⟨gr, 0, none⟩) hgr (hbr.cell rfl)
 refine lO0 rfl ⟨⟩ (o_load one_22 rfl (by exact hcr) rfl ?_)
 refine lC0 rfl ⟨⟩ (wL (fun μ D ε w => D = [] ∧ ∃ k : Nat, ∃ c : ConfD, ∃ ys : List Value, ∃ Bs : List Nat, (k + μ = run.length) ∧ ((runC p m run)[k]? = some c) ∧ (J g5 (k + 1) Bs w) ∧ (RdConf (g5 :: (Bs ++ M0)) w c ys) ∧ (Keep Bs0 w0 w) ∧ (∀ g ∈ Bs, g ∈ Bs0 ∨ w0.heap.size ≤ g) ∧ (g5 ∉ Bs) ∧ (hasBlk w (g5, 46, ys)) ∧ ε 0 = .func (.yield l) #[] #[] ∧ ε 1 = .pointer (some ⟨gp, 0, none⟩) ∧ ε 3 = .pointer (some ⟨gm, 0, none⟩) ∧ ε 5 = .pointer (some ⟨g5, 0, none⟩) ∧ ε 16 = .slice Ar nr cr ∧ ε 17 = .int .i64 nr ∧ ε 18 = .int .i64 k) (μ := run.length) ⟨rfl, 0, startC p, _, Bs1, by omega, rfl, hJ1, hx1, K14, hN14, n14, hb14, rfl, rfl, rfl, rfl, rfl, rfl, rfl⟩ ?_)
 rintro μ D ε w ⟨rfl, k, c, ys, Bs, _, hc, hJk, hx, hK, hN, n5, hb5, e0, e1, e3, e5, e16, e17, e18⟩
 refine W_known 0 e0 (W_known 1 e1 (W_known 3 e3 (W_known 5 e5 (W_known 16 e16 (W_known 17 e17 (W_known 18 e18 ?_))))))
 clear e0 e1 e3 e5 e16 e17 e18
 obtain ⟨Ym, ym', zm, Ya, ya', za, Yb, yb', zb, rfl, -⟩ := hx.open_
 have hRunW := hRun.keep (hK.mono (fun g hg => List.mem_append_left M0 hg))
 have hgp5 : gp ∉ [g5] := fun hh => by rw [List.mem_singleton] at hh; have := hbp.lt; simp at this; omega
 have hgm5 : gm ∉ [g5] := fun hh => by rw [List.mem_singleton] at hh; have := hbm.lt; simp at this; omega
 have hcm : w.cell? ⟨gm, 0, none⟩ = some (.int .i64 m) := hK.cell (a := ⟨gm, 0, none⟩) hgm (hbm.cell rfl)
 have hcpw := hcp.keep hK hgp
 replace S := St.borrow1 hb5
 refine wB0 rfl ⟨⟩ (fun h19 => ?_) fun h19 => ?_
 ·obtain ⟨x, b20, p20, _, hxx, hA20, _, hl20, hc20, hr20⟩ := RdS.get (hRunW) (k) (by omega)
  obtain ⟨rfl, _, _, _⟩ := id hr20
  refine lO (S.k.b hc20) [.x b20 p20,.v 0] rfl ⟨⟨rfl,hl20⟩,⟨hA20,by omega⟩,⟨⟩⟩ (o_alloc S zv_53 rfl rfl ?_)
  intro g8 w8 S8 X8 G8
  first | refine o_storeN (kk := 0) (vs := [_, _, _]) S8 sz_53 rfl rfl rfl rfl rfl rfl rfl ?_
  intro w4_3 S4_3 X4_3
  dsimp only [setsAt, List.set] at S4_3
  refine lO0 rfl ⟨⟩ (o_loadN many_36 rfl (hcpw.keep S4_3.keepM hgp5) (by rfl) rfl ?_)
  refine o_load one_3 rfl (by exact S4_3.oldM hgm5 hcm) rfl ?_
  refine o_loadN many_46 rfl (S4_3.cells 1 rfl) rfl rfl ?_
  refine lO S4_3.k [.w 0] rfl ⟨⟨rfl,by rfl⟩,⟨⟩⟩ ?_
  have hlt27 : ∀ g ∈ g5 :: (Bs ++ M0), g < w4_3.heap.size := fun g hg => by
   have hsz := S4_3.size
   rcases List.mem_cons.1 hg with rfl | hg
   ·exact S4_3.lt 1 rfl
   ·rcases List.mem_append.1 hg with h | h
    ·have := hJ.lt _ _ _ _ hJk g h; omega
    ·have := hI.lt g (List.mem_append_right _ h); have := hK.size; omega
  have hN27 : ∀ g ∈ g5 :: (Bs ++ M0), g ∈ Bs0 ++ M0 ∨ w0.heap.size ≤ g := fun g hg => by
   rcases List.mem_cons.1 hg with rfl | hg
   ·exact .inr G5'
   ·rcases List.mem_append.1 hg with h | h
    ·rcases hN g h with h | h
     ·exact .inl (List.mem_append_left _ h)
     ·exact .inr h
    ·exact .inl (List.mem_append_right _ h)
  have hK27 : Keep Bs0 w0 w4_3 := hK.freshL S4_3.keepM (fun g hg => by rw [List.mem_singleton] at hg; subst hg; exact .inl G5')
  have hgd := good_run hp (some_mem hc)
  refine o_calln S4_3 has_19 rfl rfl (bufNext_fn p c m x (by rcases hm with h | h | h; exact .inl ⟨h, hgd.2 h⟩; exact .inr (.inl h); exact .inr (.inr h)) (g5 :: (Bs ++ M0)) _ _ _ (hI.grow hK27 hN27 hlt27) (hx.keep (S4_3.keepM.mono (by simp))) hgd.1) ?_
  rintro v27 w27 ⟨_, rfl, hz⟩ S27 X27
  obtain ⟨Zm, zm1, zm2, Za, za1, za2, Zb, zb1, zb2, rfl, -⟩ := hz.open_
  refine lO0 rfl ⟨⟩ ?_
  first | refine o_storeN (kk := 1) (vs := [_, _, _]) S27 sz_46 rfl rfl rfl rfl rfl rfl rfl ?_
  intro w5_8 S5_8 X5_8
  dsimp only [setsAt, List.set] at S5_8
  replace hz := hz.keep (X5_8.mono (by simp))
  refine lO0 rfl ⟨⟩ (o_loadN many_46 rfl (S5_8.cells 1 rfl) rfl rfl ?_)
  refine lO0 rfl ⟨⟩ ?_
  have hJ33 := hJ.own g5 (k + 1) Bs _ _ G5' n5 hJk S5_8.below
  have hK33 : Keep Bs0 w0 w5_8 := hK.freshL S5_8.keepM (fun g hg => by rw [List.mem_singleton] at hg; subst hg; exact .inl G5')
  have hYY : Yld Tryz.prog l #[.agg #[.slice Zm zm1 zm2, .slice Za za1 za2, .slice Zb zb1 zb2], .int .i64 (nextC p m c x).2] w5_8 fun v w' => (v = .bool true ∧ x ∈ choicesC p m c ∧ ∃ Bs', J g5 (k + 1 + 1) Bs' w' ∧ Keep Bs w5_8 w' ∧ ∀ g ∈ Bs', g ∈ Bs ∨ w5_8.heap.size ≤ g) ∨ (v = .bool false ∧ Q w') := by
   by_cases hin : x ∈ choicesC p m c
   ·have hz2 := hz
    rw [nextC_in hin] at hz2 ⊢
    exact (hJ.round g5 (k + 1) Bs _ _ _ G5' (S5_8.lt 1 rfl) n5 hJ33 hK33 (runC_yes hc hxx hin) hz2).mono fun v w' h => .inl ⟨h.1, hin, h.2⟩
   ·have hz2 := hz
    rw [nextC_out hin] at hz2 ⊢
    have hln := runC_no hc hxx hin
    exact (hJ.last g5 Bs _ _ G5' (S5_8.lt 1 rfl) n5 hK33 (by omega) (by rw [hln]; exact hJ33) hz2).mono fun v w' h => .inr h
  refine o_yield rfl rfl rfl hYY ?_
  rintro v33 w33 (⟨rfl, hin, Bs1, hJ1, hK1, hN1⟩ | ⟨rfl, hQ33⟩)
  ·refine lB0 rfl ⟨⟩ (fun h37 => by exact absurd (by rw [nextC_in hin]) h37) (fun h37 => ?_)
   refine lP0 rfl ⟨by omega,⟨⟩⟩ ?_
   have hz2 := hz
   rw [nextC_in hin] at hz2
   have hc2 := runC_yes hc hxx hin
   have hb33 := keep_hasBlkM hK1 n5 (S5_8.blk 1 rfl)
   have hx1 := RdConf.grow hz2 hK1 hN1
   have K33 : Keep Bs0 w0 w33 := hK33.freshL hK1 (fun g hg => (hN g hg).symm)
   have hN33 : ∀ g ∈ Bs1, g ∈ Bs0 ∨ w0.heap.size ≤ g := fun g hg => by
    rcases hN1 g hg with h | h
    ·exact hN g h
    ·right; have := hK33.size; omega
   have n33 : g5 ∉ Bs1 := fun hh => by
    rcases hN1 g5 hh with h | h
    ·exact n5 h
    ·have := S5_8.lt 1 rfl; omega
   exact ⟨μ - 1, by omega, rfl, k + 1, _, _, Bs1, by omega, hc2, hJ1, hx1, K33, hN33, n33, hb33, rfl, rfl, rfl, rfl, rfl, rfl, rfl⟩
  refine lR0 rfl ⟨⟩ (ret_none rfl ?_)
  exact .inr hQ33
 refine lF0 rfl ⟨⟩ (ret_none rfl ?_)
 refine .inl ⟨?_, g5, Bs, ?_⟩
 ·have := some_lt hc; have := runC_le p m run; omega
 ·have := some_lt hc; have := runC_le p m run
  rw [show (runC p m run).length = k + 1 by omega]; exact hJk
end Go.Proofs.YtgnbfmifjlnigaaGreatDoor
namespace Go.Fw
open Go.RowKit
theorem NC.keepN {w w' : World} {rs : List (Nat × Obj)} (h : NC w rs) {Gs : List Nat} (k : Keep Gs w w') (hg : ∀ x ∈ rs, x.1 ∉ Gs) : NC w' rs := fun x hx => ⟨(k.same x.1 (h.lt x hx) (hg x hx)).trans (h x hx).1, (h x hx).2⟩
theorem St.other {M : List Nat} {w0 w w' : World} {L : List Ent} (S : St M w0 w L) {g : Nat} (hb : BelowB [g] w w') (hg : w0.heap.size ≤ g) (hn : g ∉ blks L) : St M w0 w' L := by
 refine ⟨⟨hb.os.trans S.below.os, hb.tape.trans S.below.tape, hb.output.trans S.below.output, Nat.le_trans S.below.size hb.size, fun k hk hm => ?_⟩, fun b hm x hx => ?_, S.apart⟩
 ·rw [hb.block k (Nat.lt_of_lt_of_le hk S.below.size) (by rw [List.mem_singleton]; omega)]
  exact S.below.block k hk hm
 ·obtain ⟨h1, h2⟩ := S.own b hm x hx
  refine ⟨h1, ?_⟩
  have hlt := h2.lt
  unfold hasBlk at *
  rw [hb.block x hlt (by rw [List.mem_singleton]; rintro rfl; exact hn (mem_blks.2 ⟨b, hm, hx⟩))]
  exact h2
theorem blks5 {a b c d e t1 t2 t3 t4 t5 t6 : Nat} {c1 c2 c3 c4 c5 c6 : List Value} {G : Option Nat} : blks ([(some a, t1, c1), (some b, t2, c2), (some c, t3, c3), (some d, t4, c4), (some e, t5, c5)] ++ [(G, t6, c6)]) = a :: b :: c :: d :: e :: G.toList := by cases G <;> rfl
section
variable {P : Program} {fn : Func} {R : Value → World → Prop} {D : List Deferred} {e : Env} {w : World}
theorem retL_cells3 {a1 t1 a2 t2 a3 t3 g1 g2 g3 : Nat} {v1 v2 v3 : Value} (h : fn.results = #[.cell a1 t1, .cell a2 t2, .cell a3 t3]) (o1 : One P t1) (o2 : One P t2) (o3 : One P t3) (e1 : e a1 = .pointer (some ⟨g1, 0, none⟩)) (e2 : e a2 = .pointer (some ⟨g2, 0, none⟩)) (e3 : e a3 = .pointer (some ⟨g3, 0, none⟩))
 (rs : List Nat) (hD : D = rs.map mark0) (hn : rs.Nodup) (hO : NC w (marks rs)) {x1 x2 x3 : Nat} {c1 c2 c3 : List Value} (b1 : hasBlk w (g1, x1, c1)) (b2 : hasBlk w (g2, x2, c2)) (b3 : hasBlk w (g3, x3, c3)) (q1 : c1[0]? = some v1) (q2 : c2[0]? = some v2) (q3 : c3[0]? = some v3) (hR : ∀ w', BelowB rs w w' → R (.tuple #[v1, v2, v3]) w') : RetPostL P fn R D e w :=
 ⟨rs, hD, hn, hO, fun w' hb _ tmps he => by
  have hk : Keep rs w w' := ⟨hb.size, hb.block⟩
  have hne : ∀ {g x : Nat} {c : List Value}, hasBlk w (g, x, c) → g ∉ rs := fun hb hh => hO.ne hb _ (List.mem_map.2 ⟨_, hh, rfl⟩) rfl
  have k1 := hk.cell (a := ⟨g1, 0, none⟩) (hne b1) (b1.cell q1)
  have k2 := hk.cell (a := ⟨g2, 0, none⟩) (hne b2) (b2.cell q2)
  have k3 := hk.cell (a := ⟨g3, 0, none⟩) (hne b3) (b3.cell q3)
  subst he
  simp only [envOf, Array.getD_eq_getD_getElem?] at e1 e2 e3
  have hl : ∀ (t g : Nat) (v : Value), One P t → w'.cell? ⟨g, 0, none⟩ = some v → (loadVar t ⟨g, 0, none⟩).run P w' = .ok v w' := fun t g v ho hc => by rw [ho w']; simp [load, Sem.run, hc]
  exact ⟨_, by simp [results, h, asAddr, e1, e2, e3, hl _ _ _ o1 k1, hl _ _ _ o2 k2, hl _ _ _ o3 k3], hR w' hb⟩⟩
end
abbrev RdCf (M : List Nat) (w : World) (v : Value) (l : List ConfD) : Prop := RdS M w 3 (RConf M w) v l
theorem RConf.keep {M : List Nat} {w w' : World} (hk : Keep M w w') : ∀ cs c, RConf M w cs c → RConf M w' cs c := fun _ _ h => RdConf.keep hk h
theorem RConf.less {M M' : List Nat} {w : World} (hk : ∀ g ∈ M', g ∈ M) : ∀ cs c, RConf M w cs c → RConf M' w cs c := fun _ _ h => RdConf.less hk h
def errC (p : ProgD) (m : Int) (run : List ChoiceD) : Int := if (runC p m run).length = run.length + 1 then 0 else 110
end Go.Fw
namespace Go.Proofs.YtgnbfmifjlnigaaGreatDoor
open Go.Fw Go.RowKit
theorem row_run {M Mx : List Nat} {w0 w w' : World} {A : List Ent} {G : Option Nat} {cs' : List Value} {v : Value} {l : List ConfD} {r : Nat} (hrow : RowR RConf 3 Mx w G cs' v l) (S : St [] w0 w (A ++ [(G, 46, cs')])) (hM : ∀ g ∈ M, g < w0.heap.size) (hsub : ∀ g ∈ r :: M, g ∈ Mx) (hO : NC w (marks [r])) (hb : BelowB [r] w w') (hl : l.length ≤ 1000000) : RdCf M w' v l := by
 have h1 : RowR RConf 3 (r :: M) w G cs' v l := hrow.more law_conf fun g hg => .inl (.inr (hsub g hg))
 have h2 := h1.rd law_conf S (k := A.length) (el := 46) (by simp) (fun g hg hm => by
  subst hg
  have hmem : (some g, 46, cs') ∈ A ++ [(some g, 46, cs')] := by simp
  have hblk := S.own _ hmem g rfl
  rcases List.mem_cons.1 hm with rfl | hm
  ·exact hO.ne hblk.2 _ (List.mem_cons_self) rfl
  ·rcases hblk.1 with h | h
   ·have := hM g hm; omega
   ·cases h) hl
 have hk : Keep (r :: M) w w' := (Keep.of_belowM hb).mono (by simp)
 exact RdS.lessW (RdS.keepW h2 hk (RConf.keep hk)) (fun g hg => List.mem_cons_of_mem _ hg) (RConf.less fun g hg => List.mem_cons_of_mem _ hg)
set_option maxHeartbeats 2000000 in
theorem run_fn (p : ProgD) (m : Int) (hm : m = 0 ∨ m = 1 ∨ m = 2) (run : List ChoiceD) (M : List Nat) (w0 : World) (cs : List Value) (vr : Value) (hI : InP p M w0 cs) (hRun : RdCh M w0 vr run) (hlen : run.length ≤ 120) :
 Does Tryz.prog 13 #[.agg cs.toArray, .int .i64 m, vr] w0 fun v w' => (∃ vl, v = .tuple #[vl, .int .i64 (errC p m run), .int .i64 (((runC p m run).length : Int) - 1)] ∧ RdCf M w' vl (runC p m run)) ∧ Below w0.heap.size w0 w' := by
 obtain ⟨Ac, nc, cc, Am, nm, cm, Al, nl, cl, At, nt, ct, rfl, _, _, _, _, _, _, _, _, _, _, _, _⟩ := hI.rd.open_
 obtain ⟨Ar, nr, cr, rfl⟩ := hRun.form
 obtain ⟨_, -, _⟩ := hRun.len
 have hp := hI.ok
 have hM := hI.lt
 have S := St.refl w0
 have hle := runC_le p m run
 refine Does_enterL Tryz.func13 rfl Tryz.ntmps13 rfl ?_
 refine W_seq ?_
 refine W_region ?_
 refine o_boxa S (by conv => lhs; whnf) rfl ?_
 intro g3 w3 S3 X3 G3
 refine o_alloc S3 zv_38 rfl rfl ?_
 intro g6 w6 S6 X6 G6
 refine o_alloc S6 zv_24 rfl rfl ?_
 intro g7 w7 S7 X7 G7
 refine o_alloc S7 zv_3 rfl rfl ?_
 intro g8 w8 S8 X8 G8
 refine WL_nil ?_
 refine W_seq ?_
 refine W_seq ?_
 refine W_region ?_
 refine o_loadN many_36 rfl (S8.cells 3 rfl) rfl rfl ?_
 refine o_callr S8 has_33 rfl rfl (validP_fn p M _ _ (hI.keep (S8.keep0 M)).rd hI.ok (hI.keep (S8.keep0 M)).msk (hI.keep (S8.keep0 M)).lt) ?_
 intro w17 S17 X17
 refine o_move (by conv => lhs; whnf) rfl ?_
 refine o_extract rfl rfl rfl ?_
 refine o_extract rfl rfl rfl ?_
 refine o_extract rfl rfl rfl ?_
 refine o_assign (v := .int .i64 _) rfl rfl ?_
 refine o_assign (v := .int .i64 _) rfl rfl ?_
 refine o_assign (v := .int .i64 _) rfl rfl ?_
 refine WL_nil ?_
 refine W_seq ?_
 refine W_region ?_
 refine o_move (v := .int .i64 _) rfl rfl ?_
 refine o_neq rfl rfl rfl (fun h22 => ?_) fun h22 => ?_
 ·exfalso; omega
 refine WL_nil ?_
 refine W_else rfl ?_
 refine W_skip ?_
 refine W_seq ?_
 refine W_seq ?_
 refine W_region ?_
 refine o_move (v := .int .i64 _) rfl rfl ?_
 refine o_neq rfl rfl rfl (fun h24 => ?_) fun h24 => ?_
 ·refine o_move (v := .bool _) rfl rfl ?_
  refine WL_on rfl rfl rfl ?_
  refine o_move (v := .int .i64 _) rfl rfl ?_
  refine WL_on rfl rfl rfl ?_
  refine o_neq rfl rfl rfl (fun h27 => ?_) fun h27 => ?_
  ·refine o_pick rfl (v := .bool _) rfl rfl ?_
   refine o_move (v := .bool _) rfl rfl ?_
   refine WL_on rfl rfl rfl ?_
   refine o_move (v := .int .i64 _) rfl rfl ?_
   refine WL_on rfl rfl rfl ?_
   refine o_neq rfl rfl rfl (fun h31 => ?_) fun h31 => ?_
   ·exfalso; omega
   refine o_pick rfl (v := .bool _) rfl rfl ?_
   refine WL_nil ?_
   refine W_else rfl ?_
   refine W_skip ?_
   refine W_seq ?_
   refine W_seq ?_
   refine W_region ?_
   refine o_move (by conv => lhs; whnf) rfl ?_
   refine o_len slz_22.slT rfl rfl ?_
   refine o_gtr rfl rfl rfl (fun h35 => ?_) fun h35 => ?_
   ·exfalso; omega
   refine WL_nil ?_
   refine W_else rfl ?_
   refine W_skip ?_
   refine W_seq ?_
   refine W_region ?_
   refine o_alloc S17 zv_38 rfl rfl ?_
   intro g12 w12 S12 X12 G12
   refine WL_nil ?_
   refine W_seq ?_
   refine W_seq ?_
   refine W_region ?_
   refine o_loadN many_36 rfl (S12.cells 4 rfl) rfl rfl ?_
   refine o_move (v := .int .i64 _) rfl rfl ?_
   refine o_move (by conv => lhs; whnf) rfl ?_
   have Zb := S12.size
   refine o_calln S12 has_34 rfl rfl (confs_fn _ rfl m Ar nr cr _) ?_
   rintro v39 w39 ⟨gp, gr, gm, rfl, Ggp, Ggr, Ggm, hbp, hbr, hbm⟩ S39 X39
   refine WL_nil ?_
   refine W_block ?_
   refine W_rangeFunc (vs := fun y => #[y, _, _, _]) has_62 rfl (fun _ => rfl) (fun rc wi hst hpe htm henv hps has hbo hdr hl hB hsz => ?_)
   obtain ⟨l, hl'⟩ : ∃ l, l = w39.heap.size + 1 := ⟨_, rfl⟩
   have hO1 := range_start (NC.nil (w := w39)) hdr hl hB
   rw [← hl'] at hl hO1 ⊢
   have Si := (S39.later hB).nils (R := [(none, 46, [])]) (by simp)
   have Ki : Keep [] w39 wi := Keep.of_below hB
   have Zw := S39.size
   have lgp : gp < w39.heap.size := hbp.lt
   have lgr : gr < w39.heap.size := hbr.lt
   have lgm : gm < w39.heap.size := hbm.lt
   have hlne : ∀ x ∈ [(w39.heap.size, Obj.deferred (some []))], x.1 ≠ l := fun x hx => by
    rcases List.mem_cons.1 hx with rfl | hx
    ·show w39.heap.size ≠ l; omega
    ·cases hx
   have hBmem : ∀ g ∈ g12 :: g8 :: g7 :: g6 :: g3 :: ([] : List Nat), g < w12.heap.size ∧ w0.heap.size ≤ g := fun g hg => by
    simp only [List.mem_cons, List.not_mem_nil, or_false] at hg
    rcases hg with rfl | rfl | rfl | rfl | rfl
    ·exact ⟨S12.lt 0 rfl, by simpa using S12.new 0 rfl⟩
    ·exact ⟨S12.lt 1 rfl, by simpa using S12.new 1 rfl⟩
    ·exact ⟨S12.lt 2 rfl, by simpa using S12.new 2 rfl⟩
    ·exact ⟨S12.lt 3 rfl, by simpa using S12.new 3 rfl⟩
    ·exact ⟨S12.lt 4 rfl, by simpa using S12.new 4 rfl⟩
   have hN0 : ∀ g ∈ (l :: g12 :: g8 :: g7 :: g6 :: g3 :: []) ++ (w39.heap.size :: M), g ∈ M ∨ w0.heap.size ≤ g := fun g hg => by
    rcases List.mem_append.1 hg with hg | hg
    ·rcases List.mem_cons.1 hg with rfl | hg
     ·right; omega
     ·exact .inr (hBmem g hg).2
    ·rcases List.mem_cons.1 hg with rfl | hg
     ·right; omega
     ·exact .inl hg
   have hlt0 : ∀ g ∈ (l :: g12 :: g8 :: g7 :: g6 :: g3 :: []) ++ (w39.heap.size :: M), g < wi.heap.size := fun g hg => by
    rcases List.mem_append.1 hg with hg | hg
    ·rcases List.mem_cons.1 hg with rfl | hg
     ·omega
     ·have := (hBmem g hg).1; omega
    ·rcases List.mem_cons.1 hg with rfl | hg
     ·omega
     ·have := hM g hg; omega
   have hIi : InP p ((l :: g12 :: g8 :: g7 :: g6 :: g3 :: []) ++ (w39.heap.size :: M)) wi _ := ⟨(hI.rd.more hN0).keep (Si.keep0 _), hI.ok, (hI.msk.more hN0).keep (Si.keep0 _), hlt0⟩
   have hRi : RdCh ((l :: g12 :: g8 :: g7 :: g6 :: g3 :: []) ++ (w39.heap.size :: M)) wi (.slice Ar nr cr) run := (hRun.more (by omega) hN0).keep (Si.keep0 _)
   have hnB : ∀ g, w12.heap.size ≤ g → g < w39.heap.size → g ∉ (l :: g12 :: g8 :: g7 :: g6 :: g3 :: []) := fun g h1 h2 hh => by
    rcases List.mem_cons.1 hh with h | h
    ·omega
    ·have := (hBmem g h).1; omega
   refine Does.mono (confs1_fn p m hm run gp gr gm l (l :: g12 :: g8 :: g7 :: g6 :: g3 :: []) (w39.heap.size :: M) wi _ _ (fun g5 k Bs w => ∃ (G : Option Nat) (cs' : List Value) (v : Value), Bs = (l :: g12 :: g8 :: g7 :: g6 :: g3 :: G.toList) ∧ NC w [(l, .loop rc), (w39.heap.size, .deferred (some []))] ∧ St [] w0 w ([(some g12, 38, [v]), (some g8, 3, [.int .i64 0]), (some g7, 24, [.int .i64 0]), (some g6, 38, [.slice none 0 0]), (some g3, 36, [.slice Ac nc cc, .slice Am nm cm, .slice Al nl cl, .slice At nt ct])] ++ [(G, 46, cs')]) ∧ RowR RConf 3 (g5 :: l :: w39.heap.size :: g12 :: g8 :: g7 :: g6 :: g3 :: M) w G cs' v ((runC p m run).take k)) (fun w => (runC p m run).length ≤ run.length ∧ ∃ (g5 : Nat) (G : Option Nat) (cs' : List Value) (v : Value), NC w [(l, .loop { rc with state := .done, pending := some .ret }), (w39.heap.size, .deferred (some []))] ∧ St [] w0 w ([(some g12, 38, [v]), (some g8, 3, [.int .i64 (((runC p m run).length : Int) - 1)]), (some g7, 24, [.int .i64 110]), (some g6, 38, [v]), (some g3, 36, [.slice Ac nc cc, .slice Am nm cm, .slice Al nl cl, .slice At nt ct])] ++ [(G, 46, cs')]) ∧ RowR RConf 3 (g5 :: l :: w39.heap.size :: g12 :: g8 :: g7 :: g6 :: g3 :: M) w G cs' v (runC p m run)) hIi hRi (keep_hasBlk Ki hbp) (keep_hasBlk Ki hbr) (keep_hasBlk Ki hbm) (hnB gp Ggp lgp) (hnB gr Ggr lgr) (hnB gm Ggm lgm) ⟨?_, ?_, ?_, fun g5 k Bs w c ys err hg5 hg5w hn5 hJ hKw hcase hY => ?_⟩) ?_
   ·intro g5 w hg5 hBw
    exact ⟨none, [], _, rfl, hO1.keep (Keep.of_below hBw), Si.later hBw, RowR.nil⟩
   ·rintro g5 k Bs w w' hg5 hn5 ⟨G, cs', v, rfl, hO, S, hrow⟩ hb
    simp only [List.mem_cons, not_or] at hn5
    refine ⟨G, cs', v, rfl, hO.keepN (Keep.of_belowM hb) (fun x hx => ?_), S.other hb (by omega) (by rw [blks5]; simp only [List.mem_cons, not_or]; exact hn5.2), hrow.keep law_conf ((Keep.of_belowM hb).mono (by simp))⟩
    rw [List.mem_singleton]
    rcases List.mem_cons.1 hx with rfl | hx
    ·exact fun h => hn5.1 h.symm
    ·rcases List.mem_cons.1 hx with rfl | hx
     ·show ¬ w39.heap.size = g5; omega
     ·cases hx
   ·rintro g5 k Bs w ⟨G, cs', v, rfl, hO, S, hrow⟩ g hg
    rcases List.mem_cons.1 hg with rfl | hg
    ·exact hO.lt _ List.mem_cons_self
    ·have hb5 : g ∈ blks ([(some g12, 38, [v]), (some g8, 3, [.int .i64 0]), (some g7, 24, [.int .i64 0]), (some g6, 38, [.slice none 0 0]), (some g3, 36, [.slice Ac nc cc, .slice Am nm cm, .slice Al nl cl, .slice At nt ct])] ++ [(G, 46, cs')]) := by rw [blks5]; exact hg
     obtain ⟨x, hx, hg⟩ := mem_blks.1 hb5; exact (S.own x hx g hg).2.lt
   ·obtain ⟨G, cs', v, rfl, hO3, S3, hrow3⟩ := hJ
    obtain ⟨Ym, ym', zm, Ya, ya', za, Yb, yb', zb, rfl, -⟩ := hY.open_
    have K3 := Keep.refl (l :: g12 :: g8 :: g7 :: g6 :: g3 :: G.toList) w
    refine yields2 (hO3 (l, .loop rc) (by simp)).1 hst htm henv hps has hbo rfl rfl ?_
    refine W_seq ?_
    refine W_region ?_
    refine o_alloc S3 zv_46 rfl rfl ?_
    intro g13 w13 S13 X13 G13
    have GK313 := Nat.le_trans K3.size G13
    replace K3 := K3.trans (X13.of_nil)
    replace hO3 := hO3.keep X13
    refine o_storeN (kk := 0) (vs := [_, _, _]) S13 sz_46 rfl rfl rfl rfl rfl rfl rfl ?_
    intro w10_1 S10_1 X10_1
    dsimp only [setsAt, List.set] at S10_1
    replace K3 := K3.fresh2 X10_1 (by exact .inl GK313)
    replace hO3 := by exact hO3.keepS X10_1 (S13.blk 0 rfl)
    refine WL_nil ?_
    refine W_region ?_
    refine o_assign (v := .int .i64 _) rfl rfl ?_
    refine WL_nil ?_
    refine ⟨(hO3 (l, .loop rc) (by simp)).1, ?_⟩
    have Sb := S10_1.putObj (.loop { rc with state := .busy }) hO3 (List.mem_cons_self) (.inl (by omega))
    have hOb := hO3.put (o' := .loop { rc with state := .busy }) hlne (by simp)
    have Kb := K3.fresh2 (keep_putObj w10_1 l (.loop { rc with state := .busy })) (.inr (by simp))
    generalize w10_1.putObj l (.loop { rc with state := .busy }) = wb at Sb hOb Kb ⊢
    have hYb := hY.keep (Kb.mono (fun g hg => List.mem_cons_of_mem _ (List.mem_append_left _ hg)))
    have hsubB : ∀ g ∈ G.toList ++ (g5 :: l :: w39.heap.size :: g12 :: g8 :: g7 :: g6 :: g3 :: M), g ∈ g5 :: ((l :: g12 :: g8 :: g7 :: g6 :: g3 :: G.toList) ++ (w39.heap.size :: M)) := fun g hg => by
     simp only [List.mem_append, List.mem_cons] at hg ⊢
     rcases hg with h | h | h | h | h | h | h | h | h | h <;> simp [h]
    have hsubC : ∀ g ∈ (l :: g12 :: g8 :: g7 :: g6 :: g3 :: G.toList), g ∈ G.toList ++ (g5 :: l :: w39.heap.size :: g12 :: g8 :: g7 :: g6 :: g3 :: M) := fun g hg => by
     simp only [List.mem_append, List.mem_cons] at hg ⊢
     rcases hg with h | h | h | h | h | h | h <;> simp [h]
    have hrowB := hrow3.keep law_conf (Kb.mono hsubC)
    have Kr := Keep.refl [] wb
    have Zb2 := Kb.size
    refine W_block ?_
    refine W_seq ?_
    refine W_seq ?_
    refine W_region ?_
    refine o_move (v := .int .i64 _) rfl rfl ?_
    refine o_neq rfl rfl rfl (fun h43 => ?_) fun h43 => ?_
    ·refine WL_nil ?_
     refine W_then rfl ?_
     refine W_seq ?_
     obtain ⟨herr, rfl, hle2, hc0⟩ := hcase.resolve_left (fun h => h43 h.1)
     rw [List.take_length] at hrowB
     refine W_any fmx (by kernel_rfl) (fun f ε w => ε 6 = .pointer (some ⟨g6, 0, none⟩) ∧ ε 7 = .pointer (some ⟨g7, 0, none⟩) ∧ ε 8 = .pointer (some ⟨g8, 0, none⟩) ∧ ε 12 = .pointer (some ⟨g12, 0, none⟩) ∧ ∃ (u8 u7 u6 : Value) (c13 : List Value), St [] w0 w ([(some g13, 46, c13), (some g12, 38, [v]), (some g8, 3, [u8]), (some g7, 24, [u7]), (some g6, 38, [u6]), (some g3, 36, [.slice Ac nc cc, .slice Am nm cm, .slice Al nl cl, .slice At nt ct])] ++ [(G, 46, cs')]) ∧ NC w [(l, .loop { rc with state := .busy }), (w39.heap.size, .deferred (some []))] ∧ RowR RConf 3 (g5 :: l :: w39.heap.size :: g12 :: g8 :: g7 :: g6 :: g3 :: M) w G cs' v (runC p m run) ∧ (f 0 = true → ε 44 = v) ∧ (f 1 = true → ε 45 = v) ∧ (f 2 = true → ε 46 = .int .i64 ((runC p m run).length : Nat)) ∧ (f 3 = true → ε 47 = .int .i64 (((runC p m run).length : Int) - 1)) ∧ (f 4 = true → u6 = v) ∧ (f 5 = true → u7 = .int .i64 110) ∧ (f 6 = true → u8 = .int .i64 (((runC p m run).length : Int) - 1))) ?_ ?_ ?_
     ·exact ⟨rfl, rfl, rfl, rfl, _, _, _, _, Sb.drew, hOb.keep (keep_drew _ _), hrowB.keep law_conf (keep_drew _ _), by simp, by simp, by simp, by simp, by simp, by simp, by simp⟩
     ·rintro f ε w i o ⟨e6, e7, e8, e12, u8, u7, u6, c13, S, hO, hrow, h0, h1, h2, h3, h4, h5, h6⟩ ho hfi hpr
      have hi : i < 7 := (List.getElem?_eq_some_iff.1 ho).1
      refine WL_known 6 e6 (WL_known 7 e7 (WL_known 8 e8 (WL_known 12 e12 ?_)))
      rcases (show i = 0 ∨ i = 1 ∨ i = 2 ∨ i = 3 ∨ i = 4 ∨ i = 5 ∨ i = 6 by omega) with rfl | rfl | rfl | rfl | rfl | rfl | rfl
      ·cases ho
       refine o_load one_38 rfl (S.cell 1 rfl rfl) rfl ?_
       refine WL_nil ⟨rfl, rfl, rfl, rfl, rfl, u8, u7, u6, c13, S, hO, hrow, fun _ => rfl, fun hh => h1 (by simpa using hh), fun hh => h2 (by simpa using hh), fun hh => h3 (by simpa using hh), fun hh => h4 (by simpa using hh), fun hh => h5 (by simpa using hh), fun hh => h6 (by simpa using hh)⟩
      ·cases ho
       refine o_load one_38 rfl (S.cell 1 rfl rfl) rfl ?_
       refine WL_nil ⟨rfl, rfl, rfl, rfl, rfl, u8, u7, u6, c13, S, hO, hrow, fun hh => h0 (by simpa using hh), fun _ => rfl, fun hh => h2 (by simpa using hh), fun hh => h3 (by simpa using hh), fun hh => h4 (by simpa using hh), fun hh => h5 (by simpa using hh), fun hh => h6 (by simpa using hh)⟩
      ·cases ho
       obtain ⟨Av, cv, hv⟩ := hrow.form
       refine WL_known 45 ((h1 (hpr 1 (by decide))).trans hv) ?_
       refine o_len slz_38.slT rfl rfl ?_
       refine WL_nil ⟨rfl, rfl, rfl, rfl, rfl, u8, u7, u6, c13, S, hO, hrow, fun hh => h0 (by simpa using hh), fun _ => hv.symm, fun _ => rfl, fun hh => h3 (by simpa using hh), fun hh => h4 (by simpa using hh), fun hh => h5 (by simpa using hh), fun hh => h6 (by simpa using hh)⟩
      ·cases ho
       refine WL_known 46 (h2 (hpr 2 (by decide))) ?_
       refine o_sub rfl rfl (by have := runC_le p m run; unfold i64; omega) rfl ?_
       refine WL_nil ⟨rfl, rfl, rfl, rfl, rfl, u8, u7, u6, c13, S, hO, hrow, fun hh => h0 (by simpa using hh), fun hh => h1 (by simpa using hh), fun _ => rfl, fun _ => rfl, fun hh => h4 (by simpa using hh), fun hh => h5 (by simpa using hh), fun hh => h6 (by simpa using hh)⟩
      ·cases ho
       obtain ⟨Av, cv, hv⟩ := hrow.form
       subst hv
       refine WL_known 44 (h0 (hpr 0 (by decide))) ?_
       refine o_store (kk := 4) S sz_38 rfl (by conv => lhs; whnf) rfl rfl (Nat.le_of_ble_eq_true rfl) ?_
       intro w1 S1 X1
       refine WL_nil ⟨rfl, rfl, rfl, rfl, rfl, u8, u7, _, c13, S1, hO.keepS X1 (S.blk 4 rfl), hrow.keep law_conf (X1.mono (by simp)), fun _ => rfl, fun hh => h1 (by simpa using hh), fun hh => h2 (by simpa using hh), fun hh => h3 (by simpa using hh), fun _ => rfl, fun hh => h5 (by simpa using hh), fun hh => h6 (by simpa using hh)⟩
      ·cases ho
       refine o_store (kk := 3) S sz_24 rfl (by conv => lhs; whnf) rfl rfl (Nat.le_of_ble_eq_true rfl) ?_
       intro w1 S1 X1
       refine WL_nil ⟨rfl, rfl, rfl, rfl, rfl, u8, _, u6, c13, S1, hO.keepS X1 (S.blk 3 rfl), hrow.keep law_conf (X1.mono (by simp)), fun hh => h0 (by simpa using hh), fun hh => h1 (by simpa using hh), fun hh => h2 (by simpa using hh), fun hh => h3 (by simpa using hh), fun hh => h4 (by simpa using hh), fun _ => rfl, fun hh => h6 (by simpa using hh)⟩
      ·cases ho
       refine WL_known 47 (h3 (hpr 3 (by decide))) ?_
       refine o_store (kk := 2) S sz_3 rfl (by conv => lhs; whnf) rfl rfl (Nat.le_of_ble_eq_true rfl) ?_
       intro w1 S1 X1
       refine WL_nil ⟨rfl, rfl, rfl, rfl, rfl, _, u7, u6, c13, S1, hO.keepS X1 (S.blk 2 rfl), hrow.keep law_conf (X1.mono (by simp)), fun hh => h0 (by simpa using hh), fun hh => h1 (by simpa using hh), fun hh => h2 (by simpa using hh), fun _ => rfl, fun hh => h4 (by simpa using hh), fun hh => h5 (by simpa using hh), fun _ => rfl⟩
     rintro f ε w ⟨e6, e7, e8, e12, u8, u7, u6, c13, S13, hO13, hrow13, h0, h1, h2, h3, h4, h5, h6⟩ hall
     obtain rfl := h4 (hall 4 (by decide))
     obtain rfl := h5 (hall 5 (by decide))
     obtain rfl := h6 (hall 6 (by decide))
     refine W_ret ?_
     refine ⟨{ rc with state := .busy }, (hO13 (l, _) List.mem_cons_self).1, .inr ⟨herr, rfl, hle2, g5, G, cs', _, hO13.put (o' := .loop { rc with state := .done, pending := some .ret }) hlne (by simp), S13.tail.putObj (.loop { rc with state := .done, pending := some .ret }) hO13 (List.mem_cons_self) (.inl (by omega)), hrow13.keep law_conf ((keep_putObj w l _).mono (by simp))⟩⟩
    refine WL_nil ?_
    refine W_else rfl ?_
    refine W_skip ?_
    refine W_region ?_
    refine o_load one_38 rfl (by exact Sb.cell 1 rfl rfl) rfl ?_
    refine o_loadN many_46 rfl (Sb.cells 0 rfl) rfl rfl ?_
    refine o_buildSlice Sb slz_38 (vs := [.agg _]) (cs := [_, _, _]) (by rfl) rfl rfl rfl rfl rfl rfl ?_
    intro g50 w50 S50 X50 G50
    replace Kr := Kr.trans X50
    replace Kb := Kb.trans (X50.of_nil)
    replace hOb := hOb.keep X50
    replace hYb := hYb.keep (X50.of_nil)
    have hc51 : (runC p m run)[k]? = some c := by rcases hcase with h | h; exact h.2; omega
    refine o_append1 law_conf (k := 7) (e1 := c) S50 slz_38 (by decide) rfl (hrowB.keep law_conf Kr.of_nil) rfl rfl (S50.cells 0 rfl) (RdConf.less hsubB hYb) (by rw [List.length_take]; omega) rfl ?_
    intro v51 G51 cs51 w51 S51 hrow51 X51 F51
    have Z51 := Kb.size
    obtain ⟨A51, c51, rfl⟩ := hrow51.form
    replace hOb := hOb.keepL X51 (opt_blk S50 7 rfl)
    replace Kb := Kb.freshL X51 (fun g hg => .inr (by simp [hg]))
    first | refine o_store (kk := 2) S51 sz_38 rfl (by conv => lhs; whnf) rfl rfl (by exact Nat.le_of_ble_eq_true rfl) ?_
    intro w14_4 S14_4 X14_4
    replace Kb := Kb.fresh2 X14_4 (by exact .inr (by simp))
    replace hOb := by exact hOb.keepS X14_4 (S51.blk 2 rfl)
    refine WL_nil ?_
    obtain ⟨herr, hc⟩ : err = 0 ∧ (runC p m run)[k]? = some c := ⟨h43, by rcases hcase with h | h; exact h.2; omega⟩
    have hOn := hOb.put (o' := .loop rc) hlne (by simp)
    have Sn := S14_4.tail.tail.putObj (.loop rc) hOb (List.mem_cons_self) (.inl (by omega))
    have Kn := Kb.fresh2 (keep_putObj w14_4 l (.loop rc)) (.inr (by simp))
    have hrn := (hrow51.keep law_conf (X14_4.mono (by simp))).keep law_conf ((keep_putObj w14_4 l (.loop rc)).mono (by simp))
    refine ⟨{ rc with state := .busy }, (hOb (l, _) List.mem_cons_self).1, .inl ⟨herr, rfl, l :: g12 :: g8 :: g7 :: g6 :: g3 :: G51.toList, ?_⟩⟩
    rw [rec_back hst hpe]
    refine ⟨⟨G51, cs51, _, rfl, hOn, Sn, by rw [take_some hc]; exact hrn⟩, Kn, fun g hg => ?_⟩
    simp only [List.mem_cons] at hg ⊢
    rcases hg with h | h | h | h | h | h | h
    ·simp [h]
    ·simp [h]
    ·simp [h]
    ·simp [h]
    ·simp [h]
    ·simp [h]
    ·rcases F51 g h with h | h
     ·simp [h]
     ·right; omega
   rintro v3 w3 (⟨hlen1, g5, Bs, G, cs', v, rfl, hO3, S3, hrow3⟩ | ⟨hle2, g5, G, cs', v, hO3, S3, hrow3⟩)
   rotate_left
   ·refine ⟨{ rc with state := .done, pending := some .ret }, (hO3 (l, _) List.mem_cons_self).1, by simp, .inr ⟨rfl, ?_⟩⟩
    have Sa := S3.putObj (.loop { rc with state := .exhausted, pending := some .ret }) hO3 (List.mem_cons_self) (.inl (by omega))
    have hOa := (hO3.put (o' := .loop { rc with state := .exhausted, pending := some .ret }) hlne (by simp)).tail
    have hra := hrow3.keep law_conf ((keep_putObj w3 l (.loop { rc with state := .exhausted, pending := some .ret })).mono (by simp))
    exact retL_cells3 rfl one_38 one_errno one_3 rfl rfl rfl [w39.heap.size] rfl (by simp) hOa (Sa.blk 3 rfl) (Sa.blk 2 rfl) (Sa.blk 1 rfl) rfl rfl rfl (fun w' hb => ⟨⟨v, by unfold errC; rw [if_neg (by omega)], row_run (A := [_, _, _, _, _]) hra Sa hM (fun g hg => by rcases List.mem_cons.1 hg with h | h <;> simp [h]) hOa hb (by omega)⟩, (BelowB.step Sa.below hb (by simp; omega)).nil⟩)
   refine ⟨rc, (hO3 (l, .loop rc) (by simp)).1, by rw [hst]; simp, .inl ⟨hpe, ?_⟩⟩
   have Sa := S3.putObj (.loop { rc with state := .exhausted }) hO3 (List.mem_cons_self) (.inl (by omega))
   have hOa := (hO3.put (o' := .loop { rc with state := .exhausted }) hlne (by simp)).tail
   have hra := hrow3.keep law_conf ((keep_putObj w3 l (.loop { rc with state := .exhausted })).mono (by simp))
   rw [List.take_length] at hra
   generalize w3.putObj l (.loop { rc with state := .exhausted }) = wa at Sa hOa hra ⊢
   obtain ⟨Av, cv, rfl⟩ := hra.form
   refine W_seq ?_
   refine W_region ?_
   refine o_load one_38 rfl (by exact Sa.cell 0 rfl rfl) rfl ?_
   refine o_move (by conv => lhs; whnf) rfl ?_
   refine o_len slz_22.slT rfl rfl ?_
   first | refine o_store (kk := 3) Sa sz_38 rfl (by conv => lhs; whnf) rfl rfl (by exact Nat.le_of_ble_eq_true rfl) ?_
   intro w15_3 S15_3 X15_3
   replace hOa := by exact hOa.keepS X15_3 (Sa.blk 3 rfl)
   first | refine o_store (kk := 2) S15_3 sz_24 rfl (by conv => lhs; whnf) rfl rfl (by exact Nat.le_of_ble_eq_true rfl) ?_
   intro w15_4 S15_4 X15_4
   replace hOa := by exact hOa.keepS X15_4 (S15_3.blk 2 rfl)
   first | refine o_store (kk := 1) S15_4 sz_3 rfl (by conv => lhs; whnf) rfl rfl (by exact Nat.le_of_ble_eq_true rfl) ?_
   intro w15_5 S15_5 X15_5
   replace hOa := by exact hOa.keepS X15_5 (S15_4.blk 1 rfl)
   refine WL_nil ?_
   refine W_ret ?_
   have hrz := ((hra.keep law_conf (X15_3.mono (by simp))).keep law_conf (X15_4.mono (by simp))).keep law_conf (X15_5.mono (by simp))
   refine retL_cells3 rfl one_38 one_errno one_3 rfl rfl rfl [w39.heap.size] rfl (by simp) hOa (S15_5.blk 3 rfl) (S15_5.blk 2 rfl) (S15_5.blk 1 rfl) rfl rfl rfl (fun w' hb => ⟨⟨_, ?_, row_run (A := [_, _, _, _, _]) hrz S15_5 hM (fun g hg => by rcases List.mem_cons.1 hg with h | h <;> simp [h]) hOa hb (by omega)⟩, (BelowB.step S15_5.below hb (by simp; omega)).nil⟩)
   unfold errC
   rw [if_pos hlen1, show ((runC p m run).length : Int) - 1 = (nr : Int) by omega]
  refine o_pick rfl (v := .bool _) rfl rfl ?_
  refine o_move (v := .bool _) rfl rfl ?_
  refine WL_off rfl rfl rfl rfl ?_
  refine WL_off rfl rfl rfl rfl ?_
  refine o_pick rfl (v := .bool _) rfl rfl ?_
  refine WL_nil ?_
  refine W_else rfl ?_
  refine W_skip ?_
  refine W_seq ?_
  refine W_seq ?_
  refine W_region ?_
  refine o_move (by conv => lhs; whnf) rfl ?_
  refine o_len slz_22.slT rfl rfl ?_
  refine o_gtr rfl rfl rfl (fun h35 => ?_) fun h35 => ?_
  ·exfalso; omega
  refine WL_nil ?_
  refine W_else rfl ?_
  refine W_skip ?_
  refine W_seq ?_
  refine W_region ?_
  refine o_alloc S17 zv_38 rfl rfl ?_
  intro g12 w12 S12 X12 G12
  refine WL_nil ?_
  refine W_seq ?_
  refine W_seq ?_
  refine W_region ?_
  refine o_loadN many_36 rfl (S12.cells 4 rfl) rfl rfl ?_
  refine o_move (v := .int .i64 _) rfl rfl ?_
  refine o_move (by conv => lhs; whnf) rfl ?_
  have Zb := S12.size
  refine o_calln S12 has_34 rfl rfl (confs_fn _ rfl m Ar nr cr _) ?_
  rintro v39 w39 ⟨gp, gr, gm, rfl, Ggp, Ggr, Ggm, hbp, hbr, hbm⟩ S39 X39
  refine WL_nil ?_
  refine W_block ?_
  refine W_rangeFunc (vs := fun y => #[y, _, _, _]) has_62 rfl (fun _ => rfl) (fun rc wi hst hpe htm henv hps has hbo hdr hl hB hsz => ?_)
  obtain ⟨l, hl'⟩ : ∃ l, l = w39.heap.size + 1 := ⟨_, rfl⟩
  have hO1 := range_start (NC.nil (w := w39)) hdr hl hB
  rw [← hl'] at hl hO1 ⊢
  have Si := (S39.later hB).nils (R := [(none, 46, [])]) (by simp)
  have Ki : Keep [] w39 wi := Keep.of_below hB
  have Zw := S39.size
  have lgp : gp < w39.heap.size := hbp.lt
  have lgr : gr < w39.heap.size := hbr.lt
  have lgm : gm < w39.heap.size := hbm.lt
  have hlne : ∀ x ∈ [(w39.heap.size, Obj.deferred (some []))], x.1 ≠ l := fun x hx => by
   rcases List.mem_cons.1 hx with rfl | hx
   ·show w39.heap.size ≠ l; omega
   ·cases hx
  have hBmem : ∀ g ∈ g12 :: g8 :: g7 :: g6 :: g3 :: ([] : List Nat), g < w12.heap.size ∧ w0.heap.size ≤ g := fun g hg => by
   simp only [List.mem_cons, List.not_mem_nil, or_false] at hg
   rcases hg with rfl | rfl | rfl | rfl | rfl
   ·exact ⟨S12.lt 0 rfl, by simpa using S12.new 0 rfl⟩
   ·exact ⟨S12.lt 1 rfl, by simpa using S12.new 1 rfl⟩
   ·exact ⟨S12.lt 2 rfl, by simpa using S12.new 2 rfl⟩
   ·exact ⟨S12.lt 3 rfl, by simpa using S12.new 3 rfl⟩
   ·exact ⟨S12.lt 4 rfl, by simpa using S12.new 4 rfl⟩
  have hN0 : ∀ g ∈ (l :: g12 :: g8 :: g7 :: g6 :: g3 :: []) ++ (w39.heap.size :: M), g ∈ M ∨ w0.heap.size ≤ g := fun g hg => by
   rcases List.mem_append.1 hg with hg | hg
   ·rcases List.mem_cons.1 hg with rfl | hg
    ·right; omega
    ·exact .inr (hBmem g hg).2
   ·rcases List.mem_cons.1 hg with rfl | hg
    ·right; omega
    ·exact .inl hg
  have hlt0 : ∀ g ∈ (l :: g12 :: g8 :: g7 :: g6 :: g3 :: []) ++ (w39.heap.size :: M), g < wi.heap.size := fun g hg => by
   rcases List.mem_append.1 hg with hg | hg
   ·rcases List.mem_cons.1 hg with rfl | hg
    ·omega
    ·have := (hBmem g hg).1; omega
   ·rcases List.mem_cons.1 hg with rfl | hg
    ·omega
    ·have := hM g hg; omega
  have hIi : InP p ((l :: g12 :: g8 :: g7 :: g6 :: g3 :: []) ++ (w39.heap.size :: M)) wi _ := ⟨(hI.rd.more hN0).keep (Si.keep0 _), hI.ok, (hI.msk.more hN0).keep (Si.keep0 _), hlt0⟩
  have hRi : RdCh ((l :: g12 :: g8 :: g7 :: g6 :: g3 :: []) ++ (w39.heap.size :: M)) wi (.slice Ar nr cr) run := (hRun.more (by omega) hN0).keep (Si.keep0 _)
  have hnB : ∀ g, w12.heap.size ≤ g → g < w39.heap.size → g ∉ (l :: g12 :: g8 :: g7 :: g6 :: g3 :: []) := fun g h1 h2 hh => by
   rcases List.mem_cons.1 hh with h | h
   ·omega
   ·have := (hBmem g h).1; omega
  refine Does.mono (confs1_fn p m hm run gp gr gm l (l :: g12 :: g8 :: g7 :: g6 :: g3 :: []) (w39.heap.size :: M) wi _ _ (fun g5 k Bs w => ∃ (G : Option Nat) (cs' : List Value) (v : Value), Bs = (l :: g12 :: g8 :: g7 :: g6 :: g3 :: G.toList) ∧ NC w [(l, .loop rc), (w39.heap.size, .deferred (some []))] ∧ St [] w0 w ([(some g12, 38, [v]), (some g8, 3, [.int .i64 0]), (some g7, 24, [.int .i64 0]), (some g6, 38, [.slice none 0 0]), (some g3, 36, [.slice Ac nc cc, .slice Am nm cm, .slice Al nl cl, .slice At nt ct])] ++ [(G, 46, cs')]) ∧ RowR RConf 3 (g5 :: l :: w39.heap.size :: g12 :: g8 :: g7 :: g6 :: g3 :: M) w G cs' v ((runC p m run).take k)) (fun w => (runC p m run).length ≤ run.length ∧ ∃ (g5 : Nat) (G : Option Nat) (cs' : List Value) (v : Value), NC w [(l, .loop { rc with state := .done, pending := some .ret }), (w39.heap.size, .deferred (some []))] ∧ St [] w0 w ([(some g12, 38, [v]), (some g8, 3, [.int .i64 (((runC p m run).length : Int) - 1)]), (some g7, 24, [.int .i64 110]), (some g6, 38, [v]), (some g3, 36, [.slice Ac nc cc, .slice Am nm cm, .slice Al nl cl, .slice At nt ct])] ++ [(G, 46, cs')]) ∧ RowR RConf 3 (g5 :: l :: w39.heap.size :: g12 :: g8 :: g7 :: g6 :: g3 :: M) w G cs' v (runC p m run)) hIi hRi (keep_hasBlk Ki hbp) (keep_hasBlk Ki hbr) (keep_hasBlk Ki hbm) (hnB gp Ggp lgp) (hnB gr Ggr lgr) (hnB gm Ggm lgm) ⟨?_, ?_, ?_, fun g5 k Bs w c ys err hg5 hg5w hn5 hJ hKw hcase hY => ?_⟩) ?_
  ·intro g5 w hg5 hBw
   exact ⟨none, [], _, rfl, hO1.keep (Keep.of_below hBw), Si.later hBw, RowR.nil⟩
  ·rintro g5 k Bs w w' hg5 hn5 ⟨G, cs', v, rfl, hO, S, hrow⟩ hb
   simp only [List.mem_cons, not_or] at hn5
   refine ⟨G, cs', v, rfl, hO.keepN (Keep.of_belowM hb) (fun x hx => ?_), S.other hb (by omega) (by rw [blks5]; simp only [List.mem_cons, not_or]; exact hn5.2), hrow.keep law_conf ((Keep.of_belowM hb).mono (by simp))⟩
   rw [List.mem_singleton]
   rcases List.mem_cons.1 hx with rfl | hx
   ·exact fun h => hn5.1 h.symm
   ·rcases List.mem_cons.1 hx with rfl | hx
    ·show ¬ w39.heap.size = g5; omega
    ·cases hx
  ·rintro g5 k Bs w ⟨G, cs', v, rfl, hO, S, hrow⟩ g hg
   rcases List.mem_cons.1 hg with rfl | hg
   ·exact hO.lt _ List.mem_cons_self
   ·have hb5 : g ∈ blks ([(some g12, 38, [v]), (some g8, 3, [.int .i64 0]), (some g7, 24, [.int .i64 0]), (some g6, 38, [.slice none 0 0]), (some g3, 36, [.slice Ac nc cc, .slice Am nm cm, .slice Al nl cl, .slice At nt ct])] ++ [(G, 46, cs')]) := by rw [blks5]; exact hg
    obtain ⟨x, hx, hg⟩ := mem_blks.1 hb5; exact (S.own x hx g hg).2.lt
  ·obtain ⟨G, cs', v, rfl, hO3, S3, hrow3⟩ := hJ
   obtain ⟨Ym, ym', zm, Ya, ya', za, Yb, yb', zb, rfl, -⟩ := hY.open_
   have K3 := Keep.refl (l :: g12 :: g8 :: g7 :: g6 :: g3 :: G.toList) w
   refine yields2 (hO3 (l, .loop rc) (by simp)).1 hst htm henv hps has hbo rfl rfl ?_
   refine W_seq ?_
   refine W_region ?_
   refine o_alloc S3 zv_46 rfl rfl ?_
   intro g13 w13 S13 X13 G13
   have GK313 := Nat.le_trans K3.size G13
   replace K3 := K3.trans (X13.of_nil)
   replace hO3 := hO3.keep X13
   refine o_storeN (kk := 0) (vs := [_, _, _]) S13 sz_46 rfl rfl rfl rfl rfl rfl rfl ?_
   intro w10_1 S10_1 X10_1
   dsimp only [setsAt, List.set] at S10_1
   replace K3 := K3.fresh2 X10_1 (by exact .inl GK313)
   replace hO3 := by exact hO3.keepS X10_1 (S13.blk 0 rfl)
   refine WL_nil ?_
   refine W_region ?_
   refine o_assign (v := .int .i64 _) rfl rfl ?_
   refine WL_nil ?_
   refine ⟨(hO3 (l, .loop rc) (by simp)).1, ?_⟩
   have Sb := S10_1.putObj (.loop { rc with state := .busy }) hO3 (List.mem_cons_self) (.inl (by omega))
   have hOb := hO3.put (o' := .loop { rc with state := .busy }) hlne (by simp)
   have Kb := K3.fresh2 (keep_putObj w10_1 l (.loop { rc with state := .busy })) (.inr (by simp))
   generalize w10_1.putObj l (.loop { rc with state := .busy }) = wb at Sb hOb Kb ⊢
   have hYb := hY.keep (Kb.mono (fun g hg => List.mem_cons_of_mem _ (List.mem_append_left _ hg)))
   have hsubB : ∀ g ∈ G.toList ++ (g5 :: l :: w39.heap.size :: g12 :: g8 :: g7 :: g6 :: g3 :: M), g ∈ g5 :: ((l :: g12 :: g8 :: g7 :: g6 :: g3 :: G.toList) ++ (w39.heap.size :: M)) := fun g hg => by
    simp only [List.mem_append, List.mem_cons] at hg ⊢
    rcases hg with h | h | h | h | h | h | h | h | h | h <;> simp [h]
   have hsubC : ∀ g ∈ (l :: g12 :: g8 :: g7 :: g6 :: g3 :: G.toList), g ∈ G.toList ++ (g5 :: l :: w39.heap.size :: g12 :: g8 :: g7 :: g6 :: g3 :: M) := fun g hg => by
    simp only [List.mem_append, List.mem_cons] at hg ⊢
    rcases hg with h | h | h | h | h | h | h <;> simp [h]
   have hrowB := hrow3.keep law_conf (Kb.mono hsubC)
   have Kr := Keep.refl [] wb
   have Zb2 := Kb.size
   refine W_block ?_
   refine W_seq ?_
   refine W_seq ?_
   refine W_region ?_
   refine o_move (v := .int .i64 _) rfl rfl ?_
   refine o_neq rfl rfl rfl (fun h43 => ?_) fun h43 => ?_
   ·refine WL_nil ?_
    refine W_then rfl ?_
    refine W_seq ?_
    obtain ⟨herr, rfl, hle2, hc0⟩ := hcase.resolve_left (fun h => h43 h.1)
    rw [List.take_length] at hrowB
    refine W_any fmx (by kernel_rfl) (fun f ε w => ε 6 = .pointer (some ⟨g6, 0, none⟩) ∧ ε 7 = .pointer (some ⟨g7, 0, none⟩) ∧ ε 8 = .pointer (some ⟨g8, 0, none⟩) ∧ ε 12 = .pointer (some ⟨g12, 0, none⟩) ∧ ∃ (u8 u7 u6 : Value) (c13 : List Value), St [] w0 w ([(some g13, 46, c13), (some g12, 38, [v]), (some g8, 3, [u8]), (some g7, 24, [u7]), (some g6, 38, [u6]), (some g3, 36, [.slice Ac nc cc, .slice Am nm cm, .slice Al nl cl, .slice At nt ct])] ++ [(G, 46, cs')]) ∧ NC w [(l, .loop { rc with state := .busy }), (w39.heap.size, .deferred (some []))] ∧ RowR RConf 3 (g5 :: l :: w39.heap.size :: g12 :: g8 :: g7 :: g6 :: g3 :: M) w G cs' v (runC p m run) ∧ (f 0 = true → ε 44 = v) ∧ (f 1 = true → ε 45 = v) ∧ (f 2 = true → ε 46 = .int .i64 ((runC p m run).length : Nat)) ∧ (f 3 = true → ε 47 = .int .i64 (((runC p m run).length : Int) - 1)) ∧ (f 4 = true → u6 = v) ∧ (f 5 = true → u7 = .int .i64 110) ∧ (f 6 = true → u8 = .int .i64 (((runC p m run).length : Int) - 1))) ?_ ?_ ?_
    ·exact ⟨rfl, rfl, rfl, rfl, _, _, _, _, Sb.drew, hOb.keep (keep_drew _ _), hrowB.keep law_conf (keep_drew _ _), by simp, by simp, by simp, by simp, by simp, by simp, by simp⟩
    ·rintro f ε w i o ⟨e6, e7, e8, e12, u8, u7, u6, c13, S, hO, hrow, h0, h1, h2, h3, h4, h5, h6⟩ ho hfi hpr
     have hi : i < 7 := (List.getElem?_eq_some_iff.1 ho).1
     refine WL_known 6 e6 (WL_known 7 e7 (WL_known 8 e8 (WL_known 12 e12 ?_)))
     rcases (show i = 0 ∨ i = 1 ∨ i = 2 ∨ i = 3 ∨ i = 4 ∨ i = 5 ∨ i = 6 by omega) with rfl | rfl | rfl | rfl | rfl | rfl | rfl
     ·cases ho
      refine o_load one_38 rfl (S.cell 1 rfl rfl) rfl ?_
      refine WL_nil ⟨rfl, rfl, rfl, rfl, rfl, u8, u7, u6, c13, S, hO, hrow, fun _ => rfl, fun hh => h1 (by simpa using hh), fun hh => h2 (by simpa using hh), fun hh => h3 (by simpa using hh), fun hh => h4 (by simpa using hh), fun hh => h5 (by simpa using hh), fun hh => h6 (by simpa using hh)⟩
     ·cases ho
      refine o_load one_38 rfl (S.cell 1 rfl rfl) rfl ?_
      refine WL_nil ⟨rfl, rfl, rfl, rfl, rfl, u8, u7, u6, c13, S, hO, hrow, fun hh => h0 (by simpa using hh), fun _ => rfl, fun hh => h2 (by simpa using hh), fun hh => h3 (by simpa using hh), fun hh => h4 (by simpa using hh), fun hh => h5 (by simpa using hh), fun hh => h6 (by simpa using hh)⟩
     ·cases ho
      obtain ⟨Av, cv, hv⟩ := hrow.form
      refine WL_known 45 ((h1 (hpr 1 (by decide))).trans hv) ?_
      refine o_len slz_38.slT rfl rfl ?_
      refine WL_nil ⟨rfl, rfl, rfl, rfl, rfl, u8, u7, u6, c13, S, hO, hrow, fun hh => h0 (by simpa using hh), fun _ => hv.symm, fun _ => rfl, fun hh => h3 (by simpa using hh), fun hh => h4 (by simpa using hh), fun hh => h5 (by simpa using hh), fun hh => h6 (by simpa using hh)⟩
     ·cases ho
      refine WL_known 46 (h2 (hpr 2 (by decide))) ?_
      refine o_sub rfl rfl (by have := runC_le p m run; unfold i64; omega) rfl ?_
      refine WL_nil ⟨rfl, rfl, rfl, rfl, rfl, u8, u7, u6, c13, S, hO, hrow, fun hh => h0 (by simpa using hh), fun hh => h1 (by simpa using hh), fun _ => rfl, fun _ => rfl, fun hh => h4 (by simpa using hh), fun hh => h5 (by simpa using hh), fun hh => h6 (by simpa using hh)⟩
     ·cases ho
      obtain ⟨Av, cv, hv⟩ := hrow.form
      subst hv
      refine WL_known 44 (h0 (hpr 0 (by decide))) ?_
      refine o_store (kk := 4) S sz_38 rfl (by conv => lhs; whnf) rfl rfl (Nat.le_of_ble_eq_true rfl) ?_
      intro w1 S1 X1
      refine WL_nil ⟨rfl, rfl, rfl, rfl, rfl, u8, u7, _, c13, S1, hO.keepS X1 (S.blk 4 rfl), hrow.keep law_conf (X1.mono (by simp)), fun _ => rfl, fun hh => h1 (by simpa using hh), fun hh => h2 (by simpa using hh), fun hh => h3 (by simpa using hh), fun _ => rfl, fun hh => h5 (by simpa using hh), fun hh => h6 (by simpa using hh)⟩
     ·cases ho
      refine o_store (kk := 3) S sz_24 rfl (by conv => lhs; whnf) rfl rfl (Nat.le_of_ble_eq_true rfl) ?_
      intro w1 S1 X1
      refine WL_nil ⟨rfl, rfl, rfl, rfl, rfl, u8, _, u6, c13, S1, hO.keepS X1 (S.blk 3 rfl), hrow.keep law_conf (X1.mono (by simp)), fun hh => h0 (by simpa using hh), fun hh => h1 (by simpa using hh), fun hh => h2 (by simpa using hh), fun hh => h3 (by simpa using hh), fun hh => h4 (by simpa using hh), fun _ => rfl, fun hh => h6 (by simpa using hh)⟩
     ·cases ho
      refine WL_known 47 (h3 (hpr 3 (by decide))) ?_
      refine o_store (kk := 2) S sz_3 rfl (by conv => lhs; whnf) rfl rfl (Nat.le_of_ble_eq_true rfl) ?_
      intro w1 S1 X1
      refine WL_nil ⟨rfl, rfl, rfl, rfl, rfl, _, u7, u6, c13, S1, hO.keepS X1 (S.blk 2 rfl), hrow.keep law_conf (X1.mono (by simp)), fun hh => h0 (by simpa using hh), fun hh => h1 (by simpa using hh), fun hh => h2 (by simpa using hh), fun _ => rfl, fun hh => h4 (by simpa using hh), fun hh => h5 (by simpa using hh), fun _ => rfl⟩
    rintro f ε w ⟨e6, e7, e8, e12, u8, u7, u6, c13, S13, hO13, hrow13, h0, h1, h2, h3, h4, h5, h6⟩ hall
    obtain rfl := h4 (hall 4 (by decide))
    obtain rfl := h5 (hall 5 (by decide))
    obtain rfl := h6 (hall 6 (by decide))
    refine W_ret ?_
    refine ⟨{ rc with state := .busy }, (hO13 (l, _) List.mem_cons_self).1, .inr ⟨herr, rfl, hle2, g5, G, cs', _, hO13.put (o' := .loop { rc with state := .done, pending := some .ret }) hlne (by simp), S13.tail.putObj (.loop { rc with state := .done, pending := some .ret }) hO13 (List.mem_cons_self) (.inl (by omega)), hrow13.keep law_conf ((keep_putObj w l _).mono (by simp))⟩⟩
   refine WL_nil ?_
   refine W_else rfl ?_
   refine W_skip ?_
   refine W_region ?_
   refine o_load one_38 rfl (by exact Sb.cell 1 rfl rfl) rfl ?_
   refine o_loadN many_46 rfl (Sb.cells 0 rfl) rfl rfl ?_
   refine o_buildSlice Sb slz_38 (vs := [.agg _]) (cs := [_, _, _]) (by rfl) rfl rfl rfl rfl rfl rfl ?_
   intro g50 w50 S50 X50 G50
   replace Kr := Kr.trans X50
   replace Kb := Kb.trans (X50.of_nil)
   replace hOb := hOb.keep X50
   replace hYb := hYb.keep (X50.of_nil)
   have hc51 : (runC p m run)[k]? = some c := by rcases hcase with h | h; exact h.2; omega
   refine o_append1 law_conf (k := 7) (e1 := c) S50 slz_38 (by decide) rfl (hrowB.keep law_conf Kr.of_nil) rfl rfl (S50.cells 0 rfl) (RdConf.less hsubB hYb) (by rw [List.length_take]; omega) rfl ?_
   intro v51 G51 cs51 w51 S51 hrow51 X51 F51
   have Z51 := Kb.size
   obtain ⟨A51, c51, rfl⟩ := hrow51.form
   replace hOb := hOb.keepL X51 (opt_blk S50 7 rfl)
   replace Kb := Kb.freshL X51 (fun g hg => .inr (by simp [hg]))
   first | refine o_store (kk := 2) S51 sz_38 rfl (by conv => lhs; whnf) rfl rfl (by exact Nat.le_of_ble_eq_true rfl) ?_
   intro w14_4 S14_4 X14_4
   replace Kb := Kb.fresh2 X14_4 (by exact .inr (by simp))
   replace hOb := by exact hOb.keepS X14_4 (S51.blk 2 rfl)
   refine WL_nil ?_
   obtain ⟨herr, hc⟩ : err = 0 ∧ (runC p m run)[k]? = some c := ⟨h43, by rcases hcase with h | h; exact h.2; omega⟩
   have hOn := hOb.put (o' := .loop rc) hlne (by simp)
   have Sn := S14_4.tail.tail.putObj (.loop rc) hOb (List.mem_cons_self) (.inl (by omega))
   have Kn := Kb.fresh2 (keep_putObj w14_4 l (.loop rc)) (.inr (by simp))
   have hrn := (hrow51.keep law_conf (X14_4.mono (by simp))).keep law_conf ((keep_putObj w14_4 l (.loop rc)).mono (by simp))
   refine ⟨{ rc with state := .busy }, (hOb (l, _) List.mem_cons_self).1, .inl ⟨herr, rfl, l :: g12 :: g8 :: g7 :: g6 :: g3 :: G51.toList, ?_⟩⟩
   rw [rec_back hst hpe]
   refine ⟨⟨G51, cs51, _, rfl, hOn, Sn, by rw [take_some hc]; exact hrn⟩, Kn, fun g hg => ?_⟩
   simp only [List.mem_cons] at hg ⊢
   rcases hg with h | h | h | h | h | h | h
   ·simp [h]
   ·simp [h]
   ·simp [h]
   ·simp [h]
   ·simp [h]
   ·simp [h]
   ·rcases F51 g h with h | h
    ·simp [h]
    ·right; omega
  rintro v3 w3 (⟨hlen1, g5, Bs, G, cs', v, rfl, hO3, S3, hrow3⟩ | ⟨hle2, g5, G, cs', v, hO3, S3, hrow3⟩)
  rotate_left
  ·refine ⟨{ rc with state := .done, pending := some .ret }, (hO3 (l, _) List.mem_cons_self).1, by simp, .inr ⟨rfl, ?_⟩⟩
   have Sa := S3.putObj (.loop { rc with state := .exhausted, pending := some .ret }) hO3 (List.mem_cons_self) (.inl (by omega))
   have hOa := (hO3.put (o' := .loop { rc with state := .exhausted, pending := some .ret }) hlne (by simp)).tail
   have hra := hrow3.keep law_conf ((keep_putObj w3 l (.loop { rc with state := .exhausted, pending := some .ret })).mono (by simp))
   exact retL_cells3 rfl one_38 one_errno one_3 rfl rfl rfl [w39.heap.size] rfl (by simp) hOa (Sa.blk 3 rfl) (Sa.blk 2 rfl) (Sa.blk 1 rfl) rfl rfl rfl (fun w' hb => ⟨⟨v, by unfold errC; rw [if_neg (by omega)], row_run (A := [_, _, _, _, _]) hra Sa hM (fun g hg => by rcases List.mem_cons.1 hg with h | h <;> simp [h]) hOa hb (by omega)⟩, (BelowB.step Sa.below hb (by simp; omega)).nil⟩)
  refine ⟨rc, (hO3 (l, .loop rc) (by simp)).1, by rw [hst]; simp, .inl ⟨hpe, ?_⟩⟩
  have Sa := S3.putObj (.loop { rc with state := .exhausted }) hO3 (List.mem_cons_self) (.inl (by omega))
  have hOa := (hO3.put (o' := .loop { rc with state := .exhausted }) hlne (by simp)).tail
  have hra := hrow3.keep law_conf ((keep_putObj w3 l (.loop { rc with state := .exhausted })).mono (by simp))
  rw [List.take_length] at hra
  generalize w3.putObj l (.loop { rc with state := .exhausted }) = wa at Sa hOa hra ⊢
  obtain ⟨Av, cv, rfl⟩ := hra.form
  refine W_seq ?_
  refine W_region ?_
  refine o_load one_38 rfl (by exact Sa.cell 0 rfl rfl) rfl ?_
  refine o_move (by conv => lhs; whnf) rfl ?_
  refine o_len slz_22.slT rfl rfl ?_
  first | refine o_store (kk := 3) Sa sz_38 rfl (by conv => lhs; whnf) rfl rfl (by exact Nat.le_of_ble_eq_true rfl) ?_
  intro w15_3 S15_3 X15_3
  replace hOa := by exact hOa.keepS X15_3 (Sa.blk 3 rfl)
  first | refine o_store (kk := 2) S15_3 sz_24 rfl (by conv => lhs; whnf) rfl rfl (by exact Nat.le_of_ble_eq_true rfl) ?_
  intro w15_4 S15_4 X15_4
  replace hOa := by exact hOa.keepS X15_4 (S15_3.blk 2 rfl)
  first | refine o_store (kk := 1) S15_4 sz_3 rfl (by conv => lhs; whnf) rfl rfl (by exact Nat.le_of_ble_eq_true rfl) ?_
  intro w15_5 S15_5 X15_5
  replace hOa := by exact hOa.keepS X15_5 (S15_4.blk 1 rfl)
  refine WL_nil ?_
  refine W_ret ?_
  have hrz := ((hra.keep law_conf (X15_3.mono (by simp))).keep law_conf (X15_4.mono (by simp))).keep law_conf (X15_5.mono (by simp))
  refine retL_cells3 rfl one_38 one_errno one_3 rfl rfl rfl [w39.heap.size] rfl (by simp) hOa (S15_5.blk 3 rfl) (S15_5.blk 2 rfl) (S15_5.blk 1 rfl) rfl rfl rfl (fun w' hb => ⟨⟨_, ?_, row_run (A := [_, _, _, _, _]) hrz S15_5 hM (fun g hg => by rcases List.mem_cons.1 hg with h | h <;> simp [h]) hOa hb (by omega)⟩, (BelowB.step S15_5.below hb (by simp; omega)).nil⟩)
  unfold errC
  rw [if_pos hlen1, show ((runC p m run).length : Int) - 1 = (nr : Int) by omega]
 refine o_move (v := .bool _) rfl rfl ?_
 refine WL_off rfl rfl rfl rfl ?_
 refine WL_off rfl rfl rfl rfl ?_
 refine o_pick rfl (v := .bool _) rfl rfl ?_
 refine o_move (v := .bool _) rfl rfl ?_
 refine WL_off rfl rfl rfl rfl ?_
 refine WL_off rfl rfl rfl rfl ?_
 refine o_pick rfl (v := .bool _) rfl rfl ?_
 refine WL_nil ?_
 refine W_else rfl ?_
 refine W_skip ?_
 refine W_seq ?_
 refine W_seq ?_
 refine W_region ?_
 refine o_move (by conv => lhs; whnf) rfl ?_
 refine o_len slz_22.slT rfl rfl ?_
 refine o_gtr rfl rfl rfl (fun h35 => ?_) fun h35 => ?_
 ·exfalso; omega
 refine WL_nil ?_
 refine W_else rfl ?_
 refine W_skip ?_
 refine W_seq ?_
 refine W_region ?_
 refine o_alloc S17 zv_38 rfl rfl ?_
 intro g12 w12 S12 X12 G12
 refine WL_nil ?_
 refine W_seq ?_
 refine W_seq ?_
 refine W_region ?_
 refine o_loadN many_36 rfl (S12.cells 4 rfl) rfl rfl ?_
 refine o_move (v := .int .i64 _) rfl rfl ?_
 refine o_move (by conv => lhs; whnf) rfl ?_
 have Zb := S12.size
 refine o_calln S12 has_34 rfl rfl (confs_fn _ rfl m Ar nr cr _) ?_
 rintro v39 w39 ⟨gp, gr, gm, rfl, Ggp, Ggr, Ggm, hbp, hbr, hbm⟩ S39 X39
 refine WL_nil ?_
 refine W_block ?_
 refine W_rangeFunc (vs := fun y => #[y, _, _, _]) has_62 rfl (fun _ => rfl) (fun rc wi hst hpe htm henv hps has hbo hdr hl hB hsz => ?_)
 obtain ⟨l, hl'⟩ : ∃ l, l = w39.heap.size + 1 := ⟨_, rfl⟩
 have hO1 := range_start (NC.nil (w := w39)) hdr hl hB
 rw [← hl'] at hl hO1 ⊢
 have Si := (S39.later hB).nils (R := [(none, 46, [])]) (by simp)
 have Ki : Keep [] w39 wi := Keep.of_below hB
 have Zw := S39.size
 have lgp : gp < w39.heap.size := hbp.lt
 have lgr : gr < w39.heap.size := hbr.lt
 have lgm : gm < w39.heap.size := hbm.lt
 have hlne : ∀ x ∈ [(w39.heap.size, Obj.deferred (some []))], x.1 ≠ l := fun x hx => by
  rcases List.mem_cons.1 hx with rfl | hx
  ·show w39.heap.size ≠ l; omega
  ·cases hx
 have hBmem : ∀ g ∈ g12 :: g8 :: g7 :: g6 :: g3 :: ([] : List Nat), g < w12.heap.size ∧ w0.heap.size ≤ g := fun g hg => by
  simp only [List.mem_cons, List.not_mem_nil, or_false] at hg
  rcases hg with rfl | rfl | rfl | rfl | rfl
  ·exact ⟨S12.lt 0 rfl, by simpa using S12.new 0 rfl⟩
  ·exact ⟨S12.lt 1 rfl, by simpa using S12.new 1 rfl⟩
  ·exact ⟨S12.lt 2 rfl, by simpa using S12.new 2 rfl⟩
  ·exact ⟨S12.lt 3 rfl, by simpa using S12.new 3 rfl⟩
  ·exact ⟨S12.lt 4 rfl, by simpa using S12.new 4 rfl⟩
 have hN0 : ∀ g ∈ (l :: g12 :: g8 :: g7 :: g6 :: g3 :: []) ++ (w39.heap.size :: M), g ∈ M ∨ w0.heap.size ≤ g := fun g hg => by
  rcases List.mem_append.1 hg with hg | hg
  ·rcases List.mem_cons.1 hg with rfl | hg
   ·right; omega
   ·exact .inr (hBmem g hg).2
  ·rcases List.mem_cons.1 hg with rfl | hg
   ·right; omega
   ·exact .inl hg
 have hlt0 : ∀ g ∈ (l :: g12 :: g8 :: g7 :: g6 :: g3 :: []) ++ (w39.heap.size :: M), g < wi.heap.size := fun g hg => by
  rcases List.mem_append.1 hg with hg | hg
  ·rcases List.mem_cons.1 hg with rfl | hg
   ·omega
   ·have := (hBmem g hg).1; omega
  ·rcases List.mem_cons.1 hg with rfl | hg
   ·omega
   ·have := hM g hg; omega
 have hIi : InP p ((l :: g12 :: g8 :: g7 :: g6 :: g3 :: []) ++ (w39.heap.size :: M)) wi _ := ⟨(hI.rd.more hN0).keep (Si.keep0 _), hI.ok, (hI.msk.more hN0).keep (Si.keep0 _), hlt0⟩
 have hRi : RdCh ((l :: g12 :: g8 :: g7 :: g6 :: g3 :: []) ++ (w39.heap.size :: M)) wi (.slice Ar nr cr) run := (hRun.more (by omega) hN0).keep (Si.keep0 _)
 have hnB : ∀ g, w12.heap.size ≤ g → g < w39.heap.size → g ∉ (l :: g12 :: g8 :: g7 :: g6 :: g3 :: []) := fun g h1 h2 hh => by
  rcases List.mem_cons.1 hh with h | h
  ·omega
  ·have := (hBmem g h).1; omega
 refine Does.mono (confs1_fn p m hm run gp gr gm l (l :: g12 :: g8 :: g7 :: g6 :: g3 :: []) (w39.heap.size :: M) wi _ _ (fun g5 k Bs w => ∃ (G : Option Nat) (cs' : List Value) (v : Value), Bs = (l :: g12 :: g8 :: g7 :: g6 :: g3 :: G.toList) ∧ NC w [(l, .loop rc), (w39.heap.size, .deferred (some []))] ∧ St [] w0 w ([(some g12, 38, [v]), (some g8, 3, [.int .i64 0]), (some g7, 24, [.int .i64 0]), (some g6, 38, [.slice none 0 0]), (some g3, 36, [.slice Ac nc cc, .slice Am nm cm, .slice Al nl cl, .slice At nt ct])] ++ [(G, 46, cs')]) ∧ RowR RConf 3 (g5 :: l :: w39.heap.size :: g12 :: g8 :: g7 :: g6 :: g3 :: M) w G cs' v ((runC p m run).take k)) (fun w => (runC p m run).length ≤ run.length ∧ ∃ (g5 : Nat) (G : Option Nat) (cs' : List Value) (v : Value), NC w [(l, .loop { rc with state := .done, pending := some .ret }), (w39.heap.size, .deferred (some []))] ∧ St [] w0 w ([(some g12, 38, [v]), (some g8, 3, [.int .i64 (((runC p m run).length : Int) - 1)]), (some g7, 24, [.int .i64 110]), (some g6, 38, [v]), (some g3, 36, [.slice Ac nc cc, .slice Am nm cm, .slice Al nl cl, .slice At nt ct])] ++ [(G, 46, cs')]) ∧ RowR RConf 3 (g5 :: l :: w39.heap.size :: g12 :: g8 :: g7 :: g6 :: g3 :: M) w G cs' v (runC p m run)) hIi hRi (keep_hasBlk Ki hbp) (keep_hasBlk Ki hbr) (keep_hasBlk Ki hbm) (hnB gp Ggp lgp) (hnB gr Ggr lgr) (hnB gm Ggm lgm) ⟨?_, ?_, ?_, fun g5 k Bs w c ys err hg5 hg5w hn5 hJ hKw hcase hY => ?_⟩) ?_
 ·intro g5 w hg5 hBw
  exact ⟨none, [], _, rfl, hO1.keep (Keep.of_below hBw), Si.later hBw, RowR.nil⟩
 ·rintro g5 k Bs w w' hg5 hn5 ⟨G, cs', v, rfl, hO, S, hrow⟩ hb
  simp only [List.mem_cons, not_or] at hn5
  refine ⟨G, cs', v, rfl, hO.keepN (Keep.of_belowM hb) (fun x hx => ?_), S.other hb (by omega) (by rw [blks5]; simp only [List.mem_cons, not_or]; exact hn5.2), hrow.keep law_conf ((Keep.of_belowM hb).mono (by simp))⟩
  rw [List.mem_singleton]
  rcases List.mem_cons.1 hx with rfl | hx
  ·exact fun h => hn5.1 h.symm
  ·rcases List.mem_cons.1 hx with rfl | hx
   ·show ¬ w39.heap.size = g5; omega
   ·cases hx
 ·rintro g5 k Bs w ⟨G, cs', v, rfl, hO, S, hrow⟩ g hg
  rcases List.mem_cons.1 hg with rfl | hg
  ·exact hO.lt _ List.mem_cons_self
  ·have hb5 : g ∈ blks ([(some g12, 38, [v]), (some g8, 3, [.int .i64 0]), (some g7, 24, [.int .i64 0]), (some g6, 38, [.slice none 0 0]), (some g3, 36, [.slice Ac nc cc, .slice Am nm cm, .slice Al nl cl, .slice At nt ct])] ++ [(G, 46, cs')]) := by rw [blks5]; exact hg
   obtain ⟨x, hx, hg⟩ := mem_blks.1 hb5; exact (S.own x hx g hg).2.lt
 ·obtain ⟨G, cs', v, rfl, hO3, S3, hrow3⟩ := hJ
  obtain ⟨Ym, ym', zm, Ya, ya', za, Yb, yb', zb, rfl, -⟩ := hY.open_
  have K3 := Keep.refl (l :: g12 :: g8 :: g7 :: g6 :: g3 :: G.toList) w
  refine yields2 (hO3 (l, .loop rc) (by simp)).1 hst htm henv hps has hbo rfl rfl ?_
  refine W_seq ?_
  refine W_region ?_
  refine o_alloc S3 zv_46 rfl rfl ?_
  intro g13 w13 S13 X13 G13
  have GK313 := Nat.le_trans K3.size G13
  replace K3 := K3.trans (X13.of_nil)
  replace hO3 := hO3.keep X13
  refine o_storeN (kk := 0) (vs := [_, _, _]) S13 sz_46 rfl rfl rfl rfl rfl rfl rfl ?_
  intro w10_1 S10_1 X10_1
  dsimp only [setsAt, List.set] at S10_1
  replace K3 := K3.fresh2 X10_1 (by exact .inl GK313)
  replace hO3 := by exact hO3.keepS X10_1 (S13.blk 0 rfl)
  refine WL_nil ?_
  refine W_region ?_
  refine o_assign (v := .int .i64 _) rfl rfl ?_
  refine WL_nil ?_
  refine ⟨(hO3 (l, .loop rc) (by simp)).1, ?_⟩
  have Sb := S10_1.putObj (.loop { rc with state := .busy }) hO3 (List.mem_cons_self) (.inl (by omega))
  have hOb := hO3.put (o' := .loop { rc with state := .busy }) hlne (by simp)
  have Kb := K3.fresh2 (keep_putObj w10_1 l (.loop { rc with state := .busy })) (.inr (by simp))
  generalize w10_1.putObj l (.loop { rc with state := .busy }) = wb at Sb hOb Kb ⊢
  have hYb := hY.keep (Kb.mono (fun g hg => List.mem_cons_of_mem _ (List.mem_append_left _ hg)))
  have hsubB : ∀ g ∈ G.toList ++ (g5 :: l :: w39.heap.size :: g12 :: g8 :: g7 :: g6 :: g3 :: M), g ∈ g5 :: ((l :: g12 :: g8 :: g7 :: g6 :: g3 :: G.toList) ++ (w39.heap.size :: M)) := fun g hg => by
   simp only [List.mem_append, List.mem_cons] at hg ⊢
   rcases hg with h | h | h | h | h | h | h | h | h | h <;> simp [h]
  have hsubC : ∀ g ∈ (l :: g12 :: g8 :: g7 :: g6 :: g3 :: G.toList), g ∈ G.toList ++ (g5 :: l :: w39.heap.size :: g12 :: g8 :: g7 :: g6 :: g3 :: M) := fun g hg => by
   simp only [List.mem_append, List.mem_cons] at hg ⊢
   rcases hg with h | h | h | h | h | h | h <;> simp [h]
  have hrowB := hrow3.keep law_conf (Kb.mono hsubC)
  have Kr := Keep.refl [] wb
  have Zb2 := Kb.size
  refine W_block ?_
  refine W_seq ?_
  refine W_seq ?_
  refine W_region ?_
  refine o_move (v := .int .i64 _) rfl rfl ?_
  refine o_neq rfl rfl rfl (fun h43 => ?_) fun h43 => ?_
  ·refine WL_nil ?_
   refine W_then rfl ?_
   refine W_seq ?_
   obtain ⟨herr, rfl, hle2, hc0⟩ := hcase.resolve_left (fun h => h43 h.1)
   rw [List.take_length] at hrowB
   refine W_any fmx (by kernel_rfl) (fun f ε w => ε 6 = .pointer (some ⟨g6, 0, none⟩) ∧ ε 7 = .pointer (some ⟨g7, 0, none⟩) ∧ ε 8 = .pointer (some ⟨g8, 0, none⟩) ∧ ε 12 = .pointer (some ⟨g12, 0, none⟩) ∧ ∃ (u8 u7 u6 : Value) (c13 : List Value), St [] w0 w ([(some g13, 46, c13), (some g12, 38, [v]), (some g8, 3, [u8]), (some g7, 24, [u7]), (some g6, 38, [u6]), (some g3, 36, [.slice Ac nc cc, .slice Am nm cm, .slice Al nl cl, .slice At nt ct])] ++ [(G, 46, cs')]) ∧ NC w [(l, .loop { rc with state := .busy }), (w39.heap.size, .deferred (some []))] ∧ RowR RConf 3 (g5 :: l :: w39.heap.size :: g12 :: g8 :: g7 :: g6 :: g3 :: M) w G cs' v (runC p m run) ∧ (f 0 = true → ε 44 = v) ∧ (f 1 = true → ε 45 = v) ∧ (f 2 = true → ε 46 = .int .i64 ((runC p m run).length : Nat)) ∧ (f 3 = true → ε 47 = .int .i64 (((runC p m run).length : Int) - 1)) ∧ (f 4 = true → u6 = v) ∧ (f 5 = true → u7 = .int .i64 110) ∧ (f 6 = true → u8 = .int .i64 (((runC p m run).length : Int) - 1))) ?_ ?_ ?_
   ·exact ⟨rfl, rfl, rfl, rfl, _, _, _, _, Sb.drew, hOb.keep (keep_drew _ _), hrowB.keep law_conf (keep_drew _ _), by simp, by simp, by simp, by simp, by simp, by simp, by simp⟩
   ·rintro f ε w i o ⟨e6, e7, e8, e12, u8, u7, u6, c13, S, hO, hrow, h0, h1, h2, h3, h4, h5, h6⟩ ho hfi hpr
    have hi : i < 7 := (List.getElem?_eq_some_iff.1 ho).1
    refine WL_known 6 e6 (WL_known 7 e7 (WL_known 8 e8 (WL_known 12 e12 ?_)))
    rcases (show i = 0 ∨ i = 1 ∨ i = 2 ∨ i = 3 ∨ i = 4 ∨ i = 5 ∨ i = 6 by omega) with rfl | rfl | rfl | rfl | rfl | rfl | rfl
    ·cases ho
     refine o_load one_38 rfl (S.cell 1 rfl rfl) rfl ?_
     refine WL_nil ⟨rfl, rfl, rfl, rfl, rfl, u8, u7, u6, c13, S, hO, hrow, fun _ => rfl, fun hh => h1 (by simpa using hh), fun hh => h2 (by simpa using hh), fun hh => h3 (by simpa using hh), fun hh => h4 (by simpa using hh), fun hh => h5 (by simpa using hh), fun hh => h6 (by simpa using hh)⟩
    ·cases ho
     refine o_load one_38 rfl (S.cell 1 rfl rfl) rfl ?_
     refine WL_nil ⟨rfl, rfl, rfl, rfl, rfl, u8, u7, u6, c13, S, hO, hrow, fun hh => h0 (by simpa using hh), fun _ => rfl, fun hh => h2 (by simpa using hh), fun hh => h3 (by simpa using hh), fun hh => h4 (by simpa using hh), fun hh => h5 (by simpa using hh), fun hh => h6 (by simpa using hh)⟩
    ·cases ho
     obtain ⟨Av, cv, hv⟩ := hrow.form
     refine WL_known 45 ((h1 (hpr 1 (by decide))).trans hv) ?_
     refine o_len slz_38.slT rfl rfl ?_
     refine WL_nil ⟨rfl, rfl, rfl, rfl, rfl, u8, u7, u6, c13, S, hO, hrow, fun hh => h0 (by simpa using hh), fun _ => hv.symm, fun _ => rfl, fun hh => h3 (by simpa using hh), fun hh => h4 (by simpa using hh), fun hh => h5 (by simpa using hh), fun hh => h6 (by simpa using hh)⟩
    ·cases ho
     refine WL_known 46 (h2 (hpr 2 (by decide))) ?_
     refine o_sub rfl rfl (by have := runC_le p m run; unfold i64; omega) rfl ?_
     refine WL_nil ⟨rfl, rfl, rfl, rfl, rfl, u8, u7, u6, c13, S, hO, hrow, fun hh => h0 (by simpa using hh), fun hh => h1 (by simpa using hh), fun _ => rfl, fun _ => rfl, fun hh => h4 (by simpa using hh), fun hh => h5 (by simpa using hh), fun hh => h6 (by simpa using hh)⟩
    ·cases ho
     obtain ⟨Av, cv, hv⟩ := hrow.form
     subst hv
     refine WL_known 44 (h0 (hpr 0 (by decide))) ?_
     refine o_store (kk := 4) S sz_38 rfl (by conv => lhs; whnf) rfl rfl (Nat.le_of_ble_eq_true rfl) ?_
     intro w1 S1 X1
     refine WL_nil ⟨rfl, rfl, rfl, rfl, rfl, u8, u7, _, c13, S1, hO.keepS X1 (S.blk 4 rfl), hrow.keep law_conf (X1.mono (by simp)), fun _ => rfl, fun hh => h1 (by simpa using hh), fun hh => h2 (by simpa using hh), fun hh => h3 (by simpa using hh), fun _ => rfl, fun hh => h5 (by simpa using hh), fun hh => h6 (by simpa using hh)⟩
    ·cases ho
     refine o_store (kk := 3) S sz_24 rfl (by conv => lhs; whnf) rfl rfl (Nat.le_of_ble_eq_true rfl) ?_
     intro w1 S1 X1
     refine WL_nil ⟨rfl, rfl, rfl, rfl, rfl, u8, _, u6, c13, S1, hO.keepS X1 (S.blk 3 rfl), hrow.keep law_conf (X1.mono (by simp)), fun hh => h0 (by simpa using hh), fun hh => h1 (by simpa using hh), fun hh => h2 (by simpa using hh), fun hh => h3 (by simpa using hh), fun hh => h4 (by simpa using hh), fun _ => rfl, fun hh => h6 (by simpa using hh)⟩
    ·cases ho
     refine WL_known 47 (h3 (hpr 3 (by decide))) ?_
     refine o_store (kk := 2) S sz_3 rfl (by conv => lhs; whnf) rfl rfl (Nat.le_of_ble_eq_true rfl) ?_
     intro w1 S1 X1
     refine WL_nil ⟨rfl, rfl, rfl, rfl, rfl, _, u7, u6, c13, S1, hO.keepS X1 (S.blk 2 rfl), hrow.keep law_conf (X1.mono (by simp)), fun hh => h0 (by simpa using hh), fun hh => h1 (by simpa using hh), fun hh => h2 (by simpa using hh), fun _ => rfl, fun hh => h4 (by simpa using hh), fun hh => h5 (by simpa using hh), fun _ => rfl⟩
   rintro f ε w ⟨e6, e7, e8, e12, u8, u7, u6, c13, S13, hO13, hrow13, h0, h1, h2, h3, h4, h5, h6⟩ hall
   obtain rfl := h4 (hall 4 (by decide))
   obtain rfl := h5 (hall 5 (by decide))
   obtain rfl := h6 (hall 6 (by decide))
   refine W_ret ?_
   refine ⟨{ rc with state := .busy }, (hO13 (l, _) List.mem_cons_self).1, .inr ⟨herr, rfl, hle2, g5, G, cs', _, hO13.put (o' := .loop { rc with state := .done, pending := some .ret }) hlne (by simp), S13.tail.putObj (.loop { rc with state := .done, pending := some .ret }) hO13 (List.mem_cons_self) (.inl (by omega)), hrow13.keep law_conf ((keep_putObj w l _).mono (by simp))⟩⟩
  refine WL_nil ?_
  refine W_else rfl ?_
  refine W_skip ?_
  refine W_region ?_
  refine o_load one_38 rfl (by exact Sb.cell 1 rfl rfl) rfl ?_
  refine o_loadN many_46 rfl (Sb.cells 0 rfl) rfl rfl ?_
  refine o_buildSlice Sb slz_38 (vs := [.agg _]) (cs := [_, _, _]) (by rfl) rfl rfl rfl rfl rfl rfl ?_
  intro g50 w50 S50 X50 G50
  replace Kr := Kr.trans X50
  replace Kb := Kb.trans (X50.of_nil)
  replace hOb := hOb.keep X50
  replace hYb := hYb.keep (X50.of_nil)
  have hc51 : (runC p m run)[k]? = some c := by rcases hcase with h | h; exact h.2; omega
  refine o_append1 law_conf (k := 7) (e1 := c) S50 slz_38 (by decide) rfl (hrowB.keep law_conf Kr.of_nil) rfl rfl (S50.cells 0 rfl) (RdConf.less hsubB hYb) (by rw [List.length_take]; omega) rfl ?_
  intro v51 G51 cs51 w51 S51 hrow51 X51 F51
  have Z51 := Kb.size
  obtain ⟨A51, c51, rfl⟩ := hrow51.form
  replace hOb := hOb.keepL X51 (opt_blk S50 7 rfl)
  replace Kb := Kb.freshL X51 (fun g hg => .inr (by simp [hg]))
  first | refine o_store (kk := 2) S51 sz_38 rfl (by conv => lhs; whnf) rfl rfl (by exact Nat.le_of_ble_eq_true rfl) ?_
  intro w14_4 S14_4 X14_4
  replace Kb := Kb.fresh2 X14_4 (by exact .inr (by simp))
  replace hOb := by exact hOb.keepS X14_4 (S51.blk 2 rfl)
  refine WL_nil ?_
  obtain ⟨herr, hc⟩ : err = 0 ∧ (runC p m run)[k]? = some c := ⟨h43, by rcases hcase with h | h; exact h.2; omega⟩
  have hOn := hOb.put (o' := .loop rc) hlne (by simp)
  have Sn := S14_4.tail.tail.putObj (.loop rc) hOb (List.mem_cons_self) (.inl (by omega))
  have Kn := Kb.fresh2 (keep_putObj w14_4 l (.loop rc)) (.inr (by simp))
  have hrn := (hrow51.keep law_conf (X14_4.mono (by simp))).keep law_conf ((keep_putObj w14_4 l (.loop rc)).mono (by simp))
  refine ⟨{ rc with state := .busy }, (hOb (l, _) List.mem_cons_self).1, .inl ⟨herr, rfl, l :: g12 :: g8 :: g7 :: g6 :: g3 :: G51.toList, ?_⟩⟩
  rw [rec_back hst hpe]
  refine ⟨⟨G51, cs51, _, rfl, hOn, Sn, by rw [take_some hc]; exact hrn⟩, Kn, fun g hg => ?_⟩
  simp only [List.mem_cons] at hg ⊢
  rcases hg with h | h | h | h | h | h | h
  ·simp [h]
  ·simp [h]
  ·simp [h]
  ·simp [h]
  ·simp [h]
  ·simp [h]
  ·rcases F51 g h with h | h
   ·simp [h]
   ·right; omega
 rintro v3 w3 (⟨hlen1, g5, Bs, G, cs', v, rfl, hO3, S3, hrow3⟩ | ⟨hle2, g5, G, cs', v, hO3, S3, hrow3⟩)
 rotate_left
 ·refine ⟨{ rc with state := .done, pending := some .ret }, (hO3 (l, _) List.mem_cons_self).1, by simp, .inr ⟨rfl, ?_⟩⟩
  have Sa := S3.putObj (.loop { rc with state := .exhausted, pending := some .ret }) hO3 (List.mem_cons_self) (.inl (by omega))
  have hOa := (hO3.put (o' := .loop { rc with state := .exhausted, pending := some .ret }) hlne (by simp)).tail
  have hra := hrow3.keep law_conf ((keep_putObj w3 l (.loop { rc with state := .exhausted, pending := some .ret })).mono (by simp))
  exact retL_cells3 rfl one_38 one_errno one_3 rfl rfl rfl [w39.heap.size] rfl (by simp) hOa (Sa.blk 3 rfl) (Sa.blk 2 rfl) (Sa.blk 1 rfl) rfl rfl rfl (fun w' hb => ⟨⟨v, by unfold errC; rw [if_neg (by omega)], row_run (A := [_, _, _, _, _]) hra Sa hM (fun g hg => by rcases List.mem_cons.1 hg with h | h <;> simp [h]) hOa hb (by omega)⟩, (BelowB.step Sa.below hb (by simp; omega)).nil⟩)
 refine ⟨rc, (hO3 (l, .loop rc) (by simp)).1, by rw [hst]; simp, .inl ⟨hpe, ?_⟩⟩
 have Sa := S3.putObj (.loop { rc with state := .exhausted }) hO3 (List.mem_cons_self) (.inl (by omega))
 have hOa := (hO3.put (o' := .loop { rc with state := .exhausted }) hlne (by simp)).tail
 have hra := hrow3.keep law_conf ((keep_putObj w3 l (.loop { rc with state := .exhausted })).mono (by simp))
 rw [List.take_length] at hra
 generalize w3.putObj l (.loop { rc with state := .exhausted }) = wa at Sa hOa hra ⊢
 obtain ⟨Av, cv, rfl⟩ := hra.form
 refine W_seq ?_
 refine W_region ?_
 refine o_load one_38 rfl (by exact Sa.cell 0 rfl rfl) rfl ?_
 refine o_move (by conv => lhs; whnf) rfl ?_
 refine o_len slz_22.slT rfl rfl ?_
 first | refine o_store (kk := 3) Sa sz_38 rfl (by conv => lhs; whnf) rfl rfl (by exact Nat.le_of_ble_eq_true rfl) ?_
 intro w15_3 S15_3 X15_3
 replace hOa := by exact hOa.keepS X15_3 (Sa.blk 3 rfl)
 first | refine o_store (kk := 2) S15_3 sz_24 rfl (by conv => lhs; whnf) rfl rfl (by exact Nat.le_of_ble_eq_true rfl) ?_
 intro w15_4 S15_4 X15_4
 replace hOa := by exact hOa.keepS X15_4 (S15_3.blk 2 rfl)
 first | refine o_store (kk := 1) S15_4 sz_3 rfl (by conv => lhs; whnf) rfl rfl (by exact Nat.le_of_ble_eq_true rfl) ?_
 intro w15_5 S15_5 X15_5
 replace hOa := by exact hOa.keepS X15_5 (S15_4.blk 1 rfl)
 refine WL_nil ?_
 refine W_ret ?_
 have hrz := ((hra.keep law_conf (X15_3.mono (by simp))).keep law_conf (X15_4.mono (by simp))).keep law_conf (X15_5.mono (by simp))
 refine retL_cells3 rfl one_38 one_errno one_3 rfl rfl rfl [w39.heap.size] rfl (by simp) hOa (S15_5.blk 3 rfl) (S15_5.blk 2 rfl) (S15_5.blk 1 rfl) rfl rfl rfl (fun w' hb => ⟨⟨_, ?_, row_run (A := [_, _, _, _, _]) hrz S15_5 hM (fun g hg => by rcases List.mem_cons.1 hg with h | h <;> simp [h]) hOa hb (by omega)⟩, (BelowB.step S15_5.below hb (by simp; omega)).nil⟩)
 unfold errC
 rw [if_pos hlen1, show ((runC p m run).length : Int) - 1 = (nr : Int) by omega]
end Go.Proofs.YtgnbfmifjlnigaaGreatDoor
namespace Go.Fw
open Go.RowKit
theorem list_eq {α : Type} {a b : List α} (hl : a.length = b.length) {k : Nat} (hk : a.length ≤ k) (h : ∀ i x y, i < k → a[i]? = some x → b[i]? = some y → x = y) : a = b := by
 apply List.ext_getElem hl
 intro i h1 h2
 exact h i _ _ (by omega) (List.getElem?_eq_getElem h1) (List.getElem?_eq_getElem h2)
def EqTo {α : Type} (a b : List α) (k : Nat) : Prop := ∀ i x y, i < k → a[i]? = some x → b[i]? = some y → x = y
theorem EqTo.zero {α : Type} {a b : List α} : EqTo a b 0 := fun i x y h => absurd h (by omega)
theorem EqTo.succ {α : Type} {a b : List α} {k : Nat} (h : EqTo a b k) {x y : α} (hx : a[k]? = some x) (hy : b[k]? = some y) (he : x = y) : EqTo a b (k + 1) := fun i x' y' hi h1 h2 => by
 by_cases hik : i = k
 ·subst hik; rw [hx] at h1; rw [hy] at h2; cases h1; cases h2; exact he
 ·exact h i x' y' (by omega) h1 h2
theorem EqTo.all {α : Type} {a b : List α} {k : Nat} (h : EqTo a b k) (hl : a.length = b.length) (hk : a.length ≤ k) : a = b := list_eq hl hk h
theorem ne_len {α : Type} {a b : List α} (h : ¬ a.length = b.length) : a ≠ b := fun e => h (by rw [e])
theorem ne_at {α : Type} {a b : List α} {k : Nat} {x y : α} (hx : a[k]? = some x) (hy : b[k]? = some y) (h : x ≠ y) : a ≠ b := fun e => by subst e; rw [hx] at hy; cases hy; exact h rfl
theorem EntryD.ext' {a b : EntryD} (h1 : a.cells = b.cells) (h2 : a.values = b.values) : a = b := by cases a; cases b; simp_all
theorem ConfD.ext' {a b : ConfD} (h1 : a.mem = b.mem) (h2 : a.at_ = b.at_) (h3 : a.buf = b.buf) : a = b := by cases a; cases b; simp_all
theorem ChoiceD.ext' {a b : ChoiceD} (h : a.thread = b.thread ∧ a.step = b.step ∧ a.cell = b.cell) : a = b := by cases a; cases b; simp_all
end Go.Fw
namespace Go.Proofs.YtgnbfmifjlnigaaGreatDoor
open Go.Fw Go.RowKit
theorem ints_fn (a b : List Int) (M : List Nat) (w0 : World) (va vb : Value) (hA : RdI M w0 va a) (hB : RdI M w0 vb b) :
 Does Tryz.prog 24 #[va, vb] w0 fun v w' => v = .bool (decide (a = b)) ∧ Below w0.heap.size w0 w' := by
 obtain ⟨Aa, na, ca, rfl⟩ := hA.form
 obtain ⟨_, -, _⟩ := hA.len
 obtain ⟨Ab, nb, cb, rfl⟩ := hB.form
 obtain ⟨_, -, _⟩ := hB.len
 have S := St.refl w0
 refine dnR Tryz.func24 rfl Tryz.ntmps24 rfl ?_
 refine wB0 rfl ⟨⟩ (fun h10 => ?_) fun h10 => ?_
 ·refine lR0 rfl ⟨⟩ (ret_1 rfl (by conv => lhs; whnf) ?_)
  exact ⟨by rw [decide_eq_false (ne_len (by omega))], S.fin⟩
 refine lC0 rfl ⟨⟩ (wL (fun μk D ε w => D = [] ∧ ∃ k : Nat, (k + μk = (a.length)) ∧ (EqTo a b k) ∧ St [] w0 w [] ∧ Sl ε [(0, .slice Aa na ca), (1, .slice Ab nb cb), (5, .int .i64 k)]) (μ := (a.length)) ⟨rfl, 0, by omega, EqTo.zero, S, rfl⟩ ?_)
 rintro μk D ε w ⟨rfl, k, _, he, S, e⟩
 refine wK e (wB0 rfl ⟨⟩ (fun h14 => ?_) fun h14 => ?_)
 ·refine lC0 rfl ⟨⟩ (W_draw fmx [0, 1, 2, 3, 4, 5, 6, 7, 8] [] [] (by kernel_rfl) rfl (Cl _ _ _ _) (Cl.start S) ?_)
  obtain ⟨x, b19, p19, _, hxx, hA19, _, _, hc19, hr19⟩ := RdS.get (hA) (k) (by omega)
  obtain ⟨rfl, _⟩ := id hr19
  obtain ⟨_, b23, p23, _, hxy, hA23, _, _, hc23, hr23⟩ := RdS.get (hB) (k) (by omega)
  obtain ⟨rfl, _⟩ := id hr23
  refine qB ((S.q.a hc23).a hc19) [.x b19 p19,.f 0 0,.x b23 p23,.f 1 0] rfl ⟨rfl,⟨hA23,by omega⟩,rfl,⟨hA19,by omega⟩,⟨⟩⟩ (fun h25 => ?_) fun h25 => ?_
  ·refine qD rfl ⟨⟩ ?_
   rintro wR6 ⟨SR6, XR6⟩
   refine lR0 rfl ⟨⟩ (ret_1 rfl (by conv => lhs; whnf) ?_)
   exact ⟨by rw [decide_eq_false (ne_at hxx hxy h25)], SR6.fin⟩
  refine qD rfl ⟨⟩ ?_
  rintro wR6 ⟨SR6, XR6⟩
  refine lP0 rfl ⟨by omega,⟨⟩⟩ ⟨μk - 1, by omega, rfl, (k + 1), (by omega), (he.succ hxx hxy h25), SR6, rfl⟩
 refine lR0 rfl ⟨⟩ (ret_1 rfl (by conv => lhs; whnf) ?_)
 exact ⟨by rw [decide_eq_true (he.all (by omega) (by omega))], S.fin⟩
theorem same_fn (c d : ConfD) (M : List Nat) (w0 : World) (xs ys : List Value) (hX : RdConf M w0 c xs) (hY : RdConf M w0 d ys) :
 Does Tryz.prog 17 #[.agg xs.toArray, .agg ys.toArray] w0 fun v w' => v = .bool (decide (c = d)) ∧ Below w0.heap.size w0 w' := by
 obtain ⟨Xm, xm, ym, Xa, xa, ya, Xb, xb, yb, rfl, hMem, hAt, hBuf, _, _, _, _, _, _⟩ := hX.open_
 obtain ⟨Zm, zm, um, Za, za, ua, Zb, zb, ub, rfl, kMem, kAt, kBuf, _, _, _, _, _, _⟩ := hY.open_
 have S := St.refl w0
 refine dnR Tryz.func17 rfl Tryz.ntmps17 rfl ?_
 refine wO0 rfl ⟨⟩ (o_boxa S (by conv => lhs; whnf) rfl ?_)
 intro g2 w2 S2 X2 G2
 refine o_boxa S2 (by conv => lhs; whnf) rfl ?_
 intro g3 w3 S3 X3 G3
 refine lO S3.k [.o 1,.o 0] rfl ⟨rfl,rfl,⟨⟩⟩ (o_callb S3 has_24 rfl rfl (ints_fn c.mem d.mem M _ _ _ (hMem.keep (S3.keep0 M)) (kMem.keep (S3.keep0 M))) (fun h11 w11 S11 X11 => ?_) (fun h11 w11 S11 X11 => ?_))
 ·refine lO S11.k [.o 1,.o 0] rfl ⟨rfl,rfl,⟨⟩⟩ (o_callb S11 has_24 rfl rfl (ints_fn c.at_ d.at_ M _ _ _ (hAt.keep (S11.keep0 M)) (kAt.keep (S11.keep0 M))) (fun h18 w18 S18 X18 => ?_) (fun h18 w18 S18 X18 => ?_))
  ·refine lB S18.k [.o 1,.o 0] rfl ⟨rfl,rfl,⟨⟩⟩ (fun h28 => ?_) fun h28 => ?_
   ·refine lR0 rfl ⟨⟩ (ret_1 rfl (by conv => lhs; whnf) ?_)
    exact ⟨by rw [decide_eq_false (fun e : c = d => ne_len (a := c.buf) (b := d.buf) (by omega) (by rw [e]))], S18.fin⟩
   refine lC0 rfl ⟨⟩ (wL (fun μk D ε w => D = [] ∧ ∃ k : Nat, (k + μk = (c.buf.length)) ∧ (EqTo c.buf d.buf k) ∧ St [] w0 w [(some g3, 46, [.slice Zm zm um, .slice Za za ua, .slice Zb zb ub]), (some g2, 46, [.slice Xm xm ym, .slice Xa xa ya, .slice Xb xb yb])] ∧ Sl ε [(2, .pointer (some ⟨g2, 0, none⟩)), (3, .pointer (some ⟨g3, 0, none⟩)), (5, .int .i64 k)]) (μ := (c.buf.length)) ⟨rfl, 0, by omega, EqTo.zero, S18, rfl⟩ ?_)
   rintro μk D ε w ⟨rfl, k, _, he, S, e⟩
   refine wK e (wB S.k [.o 1] rfl ⟨rfl,⟨⟩⟩ (fun h34 => ?_) fun h34 => ?_)
   ·refine lC0 rfl ⟨⟩ (W_draw fmx [0, 1, 2, 3, 4, 5, 6, 7, 8, 9, 10, 11, 12] [] [] (by kernel_rfl) rfl (Cl _ _ _ _) (Cl.start S) ?_)
    obtain ⟨b, b40, p40, _, hxb, hA40, _, _, hc40, hr40⟩ := RdS.get (hBuf) (k) (by omega)
    obtain ⟨_, _, _, rfl, _, _, _⟩ := RBuf.open_ hr40
    obtain ⟨b', b46, p46, _, hxb', hA46, _, _, hc46, hr46⟩ := RdS.get (kBuf) (k) (by omega)
    obtain ⟨_, _, _, rfl, _, _, _⟩ := RBuf.open_ hr46
    refine qB ((S.q.a hc46).a hc40) [.o 1,.x b40 p40,.f 0 0,.o 0,.x b46 p46,.f 1 0] rfl ⟨rfl,⟨hA46,by omega⟩,rfl,rfl,⟨hA40,by omega⟩,rfl,⟨⟩⟩ (fun h49 => ?_) fun h49 => ?_
    ·refine qD rfl ⟨⟩ ?_
     rintro wR6 ⟨SR6, XR6⟩
     refine lR0 rfl ⟨⟩ (ret_1 rfl (by conv => lhs; whnf) ?_)
     exact ⟨by rw [decide_eq_false (fun e : c = d => ne_at hxb hxb' (ne_len (by omega)) (by rw [e]))], SR6.fin⟩
    refine qD rfl ⟨⟩ ?_
    rintro wR6 ⟨SR6, XR6⟩
    refine lC0 rfl ⟨⟩ (wL (fun μj D ε w => D = [] ∧ ∃ j : Nat, (j + μj = (b.length)) ∧ (EqTo b b' j) ∧ St [] w0 w [(some g3, 46, [.slice Zm zm um, .slice Za za ua, .slice Zb zb ub]), (some g2, 46, [.slice Xm xm ym, .slice Xa xa ya, .slice Xb xb yb])] ∧ Sl ε [(2, .pointer (some ⟨g2, 0, none⟩)), (3, .pointer (some ⟨g3, 0, none⟩)), (5, .int .i64 k), (6, .int .i64 j)]) (μ := (b.length)) ⟨rfl, 0, by omega, EqTo.zero, SR6, rfl⟩ ?_)
    rintro μj D ε w ⟨rfl, j, _, hj2, S, e⟩
    refine wK e ?_
    obtain ⟨_, b54, p54, _, hx54, hA54, _, _, hc54, hr54⟩ := RdS.get (hBuf) (k) (by omega)
    obtain rfl := Option.some.inj (hxb.symm.trans hx54)
    obtain ⟨_, _, _, rfl, _, _, _⟩ := RBuf.open_ hr54
    refine wB (S.k.a hc54) [.o 1,.x b54 p54,.f 0 0] rfl ⟨rfl,⟨hA54,by omega⟩,rfl,⟨⟩⟩ (fun h57 => ?_) fun h57 => ?_
    ·refine lC0 rfl ⟨⟩ (W_draw fmx [0, 1, 2, 3, 4, 5, 6, 7, 8, 9, 10, 11, 12, 13, 14, 15, 16, 17, 18, 19, 20, 21, 22, 23, 24, 25, 26, 27, 28, 29, 30, 31, 32, 33, 34, 35, 36, 37, 38, 39, 40, 41] [] [] (by kernel_rfl) rfl (Cl _ _ _ _) (Cl.start S) ?_)
     obtain ⟨_, b63, p63, _, hx63, hA63, _, _, hc63, hr63⟩ := RdS.get (hBuf) (k) (by omega)
     obtain rfl := Option.some.inj (hxb.symm.trans hx63)
     obtain ⟨_, _, _, rfl, hBu63, _, _⟩ := RBuf.open_ hr63
     obtain ⟨en, b66, p66, _, hxen, hA66, _, _, hc66, hr66⟩ := RdS.get (hBu63) (j) (by omega)
     obtain ⟨_, _, _, _, _, _, rfl, hCe66, _, _, _, _, _⟩ := REntry.open_ hr66
     obtain ⟨_, b72, p72, _, hx72, hA72, _, _, hc72, hr72⟩ := RdS.get (kBuf) (k) (by omega)
     obtain rfl := Option.some.inj (hxb'.symm.trans hx72)
     obtain ⟨_, _, _, rfl, hBu72, _, _⟩ := RBuf.open_ hr72
     obtain ⟨en', b75, p75, _, hxen', hA75, _, _, hc75, hr75⟩ := RdS.get (hBu72) (j) (by omega)
     obtain ⟨_, _, _, _, _, _, rfl, hCe75, _, _, _, _, _⟩ := REntry.open_ hr75
     refine qO ((((S.q.a hc75).a hc72).a hc66).a hc63) [.o 1,.x b63 p63,.f 0 0,.x b66 p66,.f 1 0,.o 0,.x b72 p72,.f 2 0,.x b75 p75,.f 3 0] rfl ⟨rfl,⟨hA75,by omega⟩,rfl,⟨hA72,by omega⟩,rfl,rfl,⟨hA66,by omega⟩,rfl,⟨hA63,by omega⟩,rfl,⟨⟩⟩ (q_callb has_24 rfl rfl (fun w1 S1 X1 => ints_fn en.cells en'.cells M _ _ _ (hCe66.keep (S1.keep0 M)) (hCe75.keep (S1.keep0 M))) (fun h78 => ?_) fun h78 => ?_)
     ·obtain ⟨_, b84, p84, _, hx84, hA84, _, _, hc84, hr84⟩ := RdS.get (hBuf) (k) (by omega)
      obtain rfl := Option.some.inj (hxb.symm.trans hx84)
      obtain ⟨_, _, _, rfl, hBu84, _, _⟩ := RBuf.open_ hr84
      obtain ⟨_, b87, p87, _, hx87, hA87, _, _, hc87, hr87⟩ := RdS.get (hBu84) (j) (by omega)
      obtain rfl := Option.some.inj (hxen.symm.trans hx87)
      obtain ⟨_, _, _, _, _, _, rfl, _, hVa87, _, _, _, _⟩ := REntry.open_ hr87
      obtain ⟨_, b93, p93, _, hx93, hA93, _, _, hc93, hr93⟩ := RdS.get (kBuf) (k) (by omega)
      obtain rfl := Option.some.inj (hxb'.symm.trans hx93)
      obtain ⟨_, _, _, rfl, hBu93, _, _⟩ := RBuf.open_ hr93
      obtain ⟨_, b96, p96, _, hx96, hA96, _, _, hc96, hr96⟩ := RdS.get (hBu93) (j) (by omega)
      obtain rfl := Option.some.inj (hxen'.symm.trans hx96)
      obtain ⟨_, _, _, _, _, _, rfl, _, hVa96, _, _, _, _⟩ := REntry.open_ hr96
      refine qO ((((S.q.a hc96).a hc93).a hc87).a hc84) [.o 1,.x b84 p84,.f 0 0,.x b87 p87,.f 1 1,.o 0,.x b93 p93,.f 2 0,.x b96 p96,.f 3 1] rfl ⟨rfl,⟨hA96,by omega⟩,rfl,⟨hA93,by omega⟩,rfl,rfl,⟨hA87,by omega⟩,rfl,⟨hA84,by omega⟩,rfl,⟨⟩⟩ (q_callb has_24 rfl rfl (fun w1 S1 X1 => ints_fn en.values en'.values M _ _ _ (hVa87.keep (S1.keep0 M)) (hVa96.keep (S1.keep0 M))) (fun h99 => ?_) fun h99 => ?_)
      ·refine qD rfl ⟨⟩ ?_
       rintro wR11 ⟨SR11, XR11⟩
       refine lP0 rfl ⟨by omega,⟨⟩⟩ ⟨μj - 1, by omega, rfl, (j + 1), (by omega), (hj2.succ hxen hxen' (EntryD.ext' (of_decide_eq_true h78) (of_decide_eq_true h99))), SR11, rfl⟩
      refine qD rfl ⟨⟩ ?_
      rintro wR11 ⟨SR11, XR11⟩
      refine lR0 rfl ⟨⟩ (ret_1 rfl (by conv => lhs; whnf) ?_)
      exact ⟨by rw [decide_eq_false (fun e : c = d => ne_at hxb hxb' (ne_at hxen hxen' (fun e' => of_decide_eq_false h99 (by rw [e']))) (by rw [e]))], SR11.fin⟩
     refine qD rfl ⟨⟩ ?_
     rintro wR11 ⟨SR11, XR11⟩
     refine lR0 rfl ⟨⟩ (ret_1 rfl (by conv => lhs; whnf) ?_)
     exact ⟨by rw [decide_eq_false (fun e : c = d => ne_at hxb hxb' (ne_at hxen hxen' (fun e' => of_decide_eq_false h78 (by rw [e']))) (by rw [e]))], SR11.fin⟩
    refine lP0 rfl ⟨by omega,⟨⟩⟩ ⟨μk - 1, by omega, rfl, (k + 1), (by omega), (he.succ hxb hxb' (hj2.all (by omega) (by omega))), S, rfl⟩
   refine lR0 rfl ⟨⟩ (ret_1 rfl (by conv => lhs; whnf) ?_)
   exact ⟨by rw [decide_eq_true (ConfD.ext' (of_decide_eq_true h11) (of_decide_eq_true h18) (he.all (by omega) (by omega)))], S.fin⟩
  refine lR0 rfl ⟨⟩ (ret_1 rfl (by conv => lhs; whnf) ?_)
  exact ⟨by rw [decide_eq_false (fun e => of_decide_eq_false h18 (by rw [e]))], S18.fin⟩
 refine lR0 rfl ⟨⟩ (ret_1 rfl (by conv => lhs; whnf) ?_)
 exact ⟨by rw [decide_eq_false (fun e => of_decide_eq_false h11 (by rw [e]))], S11.fin⟩
end Go.Proofs.YtgnbfmifjlnigaaGreatDoor
namespace Go.Fw
open Go.RowKit
section
variable {P : Program} {N : Nat} {ops : Array Oper} {rest : List Oper} {C : World → Prop} {K : Env → Prop} {e : Env} {d : Nat} {t : TypeId} {p : String} {af : Array Edge} {x y : Operand} {yt : TypeId}
theorem q_neq3 {ty : TypeId} {a b c a' b' c' : Int} (hE : Eq3 P ty) (hx : ev e x = .agg #[.int .i64 a, .int .i64 b, .int .i64 c]) (hy : ev e y = .agg #[.int .i64 a', .int .i64 b', .int .i64 c']) (hd : Nat.ble (d + 1) N = true)
 (h1 : ¬ (a = a' ∧ b = b' ∧ c = c') → QL P N ops C rest K (upd e d (.bool true))) (h2 : (a = a' ∧ b = b' ∧ c = c') → QL P N ops C rest K (upd e d (.bool false))) :
 QL P N ops C (⟨some d, .binOp .neq ty x y yt, t, p, af, none⟩ :: rest) K e := by
 have hn : ∀ w : World, (binOp .neq ty (.agg #[.int .i64 a, .int .i64 b, .int .i64 c]) (.agg #[.int .i64 a', .int .i64 b', .int .i64 c'])).run P w = .ok (.bool (!decide (a = a' ∧ b = b' ∧ c = c'))) w := fun w => by
  have := hE.2 w a b c a' b' c'
  rw [run_eql_struct] at this
  rw [run_neq_struct]
  revert this
  generalize (Op.equalIn 10000 ty (.agg #[.int .i64 a, .int .i64 b, .int .i64 c]) (.agg #[.int .i64 a', .int .i64 b', .int .i64 c'])).run P w = res
  intro this
  cases res with
  | ok z w' => simp only [Result.andThen_ok] at this ⊢; cases this; rfl
  | halt z w' => simp [Result.andThen] at this
 by_cases hh : a = a' ∧ b = b' ∧ c = c'
 ·exact QL_val rfl rfl hd (fun w _ => by simp only [execOp, hx, hy, Sem.run_bind, run_eqGuard_agg w _ _ _ _ _ _ hE.1, Result.andThen_ok, hn, Sem.run_pure, decide_eq_true hh]; rfl) (h2 hh)
 ·exact QL_val rfl rfl hd (fun w _ => by simp only [execOp, hx, hy, Sem.run_bind, run_eqGuard_agg w _ _ _ _ _ _ hE.1, Result.andThen_ok, hn, Sem.run_pure, decide_eq_false hh]; rfl) (h1 hh)
end
end Go.Fw
namespace Go.Proofs.YtgnbfmifjlnigaaGreatDoor
open Go.Fw Go.RowKit
theorem sameRun_fn (a b : List ChoiceD) (M : List Nat) (w0 : World) (va vb : Value) (hA : RdCh M w0 va a) (hB : RdCh M w0 vb b) :
 Does Tryz.prog 11 #[va, vb] w0 fun v w' => v = .bool (decide (a = b)) ∧ Below w0.heap.size w0 w' := by
 obtain ⟨Aa, na, ca, rfl⟩ := hA.form
 obtain ⟨_, -, _⟩ := hA.len
 obtain ⟨Ab, nb, cb, rfl⟩ := hB.form
 obtain ⟨_, -, _⟩ := hB.len
 have S := St.refl w0
 refine dnR Tryz.func11 rfl Tryz.ntmps11 rfl ?_
 refine wB0 rfl ⟨⟩ (fun h10 => ?_) fun h10 => ?_
 ·refine lR0 rfl ⟨⟩ (ret_1 rfl (by conv => lhs; whnf) ?_)
  exact ⟨by rw [decide_eq_false (ne_len (by omega))], S.fin⟩
 refine lC0 rfl ⟨⟩ (wL (fun μk D ε w => D = [] ∧ ∃ k : Nat, (k + μk = (a.length)) ∧ (EqTo a b k) ∧ St [] w0 w [] ∧ Sl ε [(0, .slice Aa na ca), (1, .slice Ab nb cb), (5, .int .i64 k)]) (μ := (a.length)) ⟨rfl, 0, by omega, EqTo.zero, S, rfl⟩ ?_)
 rintro μk D ε w ⟨rfl, k, _, he, S, e⟩
 refine wK e (wB0 rfl ⟨⟩ (fun h14 => ?_) fun h14 => ?_)
 ·refine lC0 rfl ⟨⟩ (W_draw fmx [0, 1, 2, 3, 4, 5, 6, 7, 8] [] [] (by kernel_rfl) rfl (Cl _ _ _ _) (Cl.start S) ?_)
  obtain ⟨x, b19, p19, _, hxx, hA19, _, hl19, hc19, hr19⟩ := RdS.get (hA) (k) (by omega)
  obtain ⟨rfl, _, _, _⟩ := id hr19
  obtain ⟨_, b23, p23, _, hxy, hA23, _, hl23, hc23, hr23⟩ := RdS.get (hB) (k) (by omega)
  obtain ⟨rfl, _, _, _⟩ := id hr23
  refine qOn 8 ((S.q.a hc23).a hc19) [.x b19 p19,.v 0,.x b23 p23,.v 1] rfl ⟨⟨rfl,hl23⟩,⟨hA23,by omega⟩,⟨rfl,hl19⟩,⟨hA19,by omega⟩,⟨⟩⟩ (q_neq3 eq_choice rfl rfl rfl (fun h25 => ?_) fun h25 => ?_)
  ·refine qD rfl ⟨⟩ ?_
   rintro wR6 ⟨SR6, XR6⟩
   refine lR0 rfl ⟨⟩ (ret_1 rfl (by conv => lhs; whnf) ?_)
   exact ⟨by rw [decide_eq_false (ne_at hxx hxy (fun e => h25 (by rw [e]; exact ⟨rfl, rfl, rfl⟩)))], SR6.fin⟩
  refine qD rfl ⟨⟩ ?_
  rintro wR6 ⟨SR6, XR6⟩
  refine lP0 rfl ⟨by omega,⟨⟩⟩ ⟨μk - 1, by omega, rfl, (k + 1), (by omega), (he.succ hxx hxy (ChoiceD.ext' h25)), SR6, rfl⟩
 refine lR0 rfl ⟨⟩ (ret_1 rfl (by conv => lhs; whnf) ?_)
 exact ⟨by rw [decide_eq_true (he.all (by omega) (by omega))], S.fin⟩
theorem thread13_fn (t : ThreadD) (M : List Nat) (w0 : World) (cs : List Value) (hT : RThread M w0 cs t) :
 Does Tryz.prog 31 #[.agg cs.toArray] w0 fun v w' => (∃ b, v = .bool b ∧ (b = true → True)) ∧ Below w0.heap.size w0 w' := by
 obtain ⟨Aa, na, ca, Am, nm, cm, As, ns, csx, Al, nl, cl, rfl, _, hEs, _, hSt, hLo, _, _, _, _, _, _, _, _⟩ := hT.open_
 have S := St.refl w0
 refine dnR Tryz.func31 rfl Tryz.ntmps31 rfl ?_
 refine wO0 rfl ⟨⟩ (o_boxa S (by conv => lhs; whnf) rfl ?_)
 intro g1 w1 S1 X1 G1
 refine lB S1.k [.o 0] rfl ⟨rfl,⟨⟩⟩ (fun h12 => ?_) fun h12 => ?_
 ·exact lT rfl ⟨⟩ rfl ⟨⟨_, rfl, fun _ => trivial⟩, S1.fin⟩
 refine lB S1.k [.o 0] rfl ⟨rfl,⟨⟩⟩ (fun h17 => ?_) fun h17 => ?_
 ·exact lT rfl ⟨⟩ rfl ⟨⟨_, rfl, fun _ => trivial⟩, S1.fin⟩
 refine lB S1.k [.o 0] rfl ⟨rfl,⟨⟩⟩ (fun h23 => ?_) fun h23 => ?_
 ·exact lT rfl ⟨⟩ rfl ⟨⟨_, rfl, fun _ => trivial⟩, S1.fin⟩
 refine lB S1.k [.o 0] rfl ⟨rfl,⟨⟩⟩ (fun h29 => ?_) fun h29 => ?_
 ·exact lT rfl ⟨⟩ rfl ⟨⟨_, rfl, fun _ => trivial⟩, S1.fin⟩
 refine lB S1.k [.o 0] rfl ⟨rfl,⟨⟩⟩ (fun h35 => ?_) fun h35 => ?_
 ·exact lT rfl ⟨⟩ rfl ⟨⟨_, rfl, fun _ => trivial⟩, S1.fin⟩
 refine lC0 rfl ⟨⟩ (wL (fun μk D ε w => D = [] ∧ ∃ k : Nat, (k + μk = (t.asserts.length)) ∧ St [] w0 w [(some g1, 83, [.string t.name, .int .i64 t.points, .slice Aa na ca, .slice Am nm cm, .slice As ns csx, .slice Al nl cl, .bool t.asleep])] ∧ Sl ε [(1, .pointer (some ⟨g1, 0, none⟩)), (3, .int .i64 k)]) (μ := (t.asserts.length)) ⟨rfl, 0, by omega, S1, rfl⟩ ?_)
 rintro μk D ε w ⟨rfl, k, hk, S, e⟩
 refine wK e (wB S.k [.o 0] rfl ⟨rfl,⟨⟩⟩ (fun h41 => ?_) fun h41 => ?_)
 ·obtain ⟨x, b47, p47, _, _, hA47, _, hl47, hc47, hr47⟩ := RdS.get (hEs) (k) (by omega)
  obtain ⟨_, _, _, rfl, _, _, _, _, _⟩ := RdE.cells hr47
  refine lO (S.k.a hc47) [.o 0,.x b47 p47,.v 0] rfl ⟨⟨rfl,hl47⟩,⟨hA47,by omega⟩,rfl,⟨⟩⟩ (o_callb S has_30 rfl rfl (small_fn x M _ _ _ (RdE.keep (S.keep0 M) _ _ hr47) (by omega) (by omega)) (fun h49 w49 S49 X49 => ?_) (fun h49 w49 S49 X49 => ?_))
  ·refine lP0 rfl ⟨by omega,⟨⟩⟩ ⟨μk - 1, by omega, rfl, (k + 1), (by omega), S49, rfl⟩
  exact lT rfl ⟨⟩ rfl ⟨⟨_, rfl, fun _ => trivial⟩, S49.fin⟩
 refine lC0 rfl ⟨⟩ (wL (fun μk D ε w => D = [] ∧ ∃ k : Nat, (k + μk = (t.loops.length)) ∧ St [] w0 w [(some g1, 83, [.string t.name, .int .i64 t.points, .slice Aa na ca, .slice Am nm cm, .slice As ns csx, .slice Al nl cl, .bool t.asleep])] ∧ Sl ε [(1, .pointer (some ⟨g1, 0, none⟩)), (5, .int .i64 k)]) (μ := (t.loops.length)) ⟨rfl, 0, by omega, S, rfl⟩ ?_)
 rintro μk D ε w ⟨rfl, k, hk, S, e⟩
 refine wK e (wB S.k [.o 0] rfl ⟨rfl,⟨⟩⟩ (fun h56 => ?_) fun h56 => ?_)
 ·obtain ⟨lo, b62, p62, _, hxlo, hA62, _, _, hc62, hr62⟩ := RdS.get (hLo) (k) (by omega)
  obtain ⟨_, _, _, _, _, _, rfl, _, _, _, _, _⟩ := RLoop.open_ hr62
  refine lB (S.k.a hc62) [.o 0,.x b62 p62,.f 0 1] rfl ⟨rfl,⟨hA62,by omega⟩,rfl,⟨⟩⟩ (fun h66 => ?_) fun h66 => ?_
  ·exact lT rfl ⟨⟩ rfl ⟨⟨_, rfl, fun _ => trivial⟩, S.fin⟩
  obtain ⟨_, b71, p71, _, hx71, hA71, _, _, hc71, hr71⟩ := RdS.get (hLo) (k) (by omega)
  obtain rfl := Option.some.inj (hxlo.symm.trans hx71)
  obtain ⟨_, _, _, _, _, _, rfl, _, _, hE71, _, _⟩ := RLoop.open_ hr71
  refine lO (S.k.a hc71) [.o 0,.x b71 p71,.f 0 2] rfl ⟨rfl,⟨hA71,by omega⟩,rfl,⟨⟩⟩ (o_callb S has_30 rfl rfl (small_fn lo.variant M _ _ _ (RdE.keep (S.keep0 M) _ _ hE71) (by omega) (by omega)) (fun h74 w74 S74 X74 => ?_) (fun h74 w74 S74 X74 => ?_))
  ·refine lP0 rfl ⟨by omega,⟨⟩⟩ ⟨μk - 1, by omega, rfl, (k + 1), (by omega), S74, rfl⟩
  exact lT rfl ⟨⟩ rfl ⟨⟨_, rfl, fun _ => trivial⟩, S74.fin⟩
 refine lC0 rfl ⟨⟩ (wL (fun μk D ε w => D = [] ∧ ∃ k : Nat, (k + μk = (t.steps.length)) ∧ St [] w0 w [(some g1, 83, [.string t.name, .int .i64 t.points, .slice Aa na ca, .slice Am nm cm, .slice As ns csx, .slice Al nl cl, .bool t.asleep])] ∧ Sl ε [(1, .pointer (some ⟨g1, 0, none⟩)), (6, .int .i64 k)]) (μ := (t.steps.length)) ⟨rfl, 0, by omega, S, rfl⟩ ?_)
 rintro μk D ε w ⟨rfl, k, hk, S, e⟩
 refine wK e (wB S.k [.o 0] rfl ⟨rfl,⟨⟩⟩ (fun h81 => ?_) fun h81 => ?_)
 ·obtain ⟨s, b87, p87, _, _, hA87, _, hl87, hc87, hr87⟩ := RdS.get (hSt) (k) (by omega)
  obtain ⟨Ag87, ng87, cg87, As87, ns87, cs87, rfl, ⟨_, _, _, _, _⟩, hG87, hSet87, _, _⟩ := RStep.open_ hr87
  refine lO (S.k.a hc87) [.o 0,.x b87 p87,.v 0] rfl ⟨⟨rfl,hl87⟩,⟨hA87,by omega⟩,rfl,⟨⟩⟩ (o_alloc S zv_112 rfl rfl ?_)
  intro g7 w7 S7 X7 G7
  refine o_storeN (kk := 0) (vs := [_, _, _, _, _, _, _, _, _, _, _]) S7 sz_112 rfl rfl rfl rfl rfl rfl rfl ?_
  intro w17_6 S17_6 X17_6
  dsimp only [setsAt, List.set] at S17_6
  refine lB S17_6.k [.o 0] rfl ⟨rfl,⟨⟩⟩ (fun h92 => ?_) fun h92 => ?_
  ·exact lT rfl ⟨⟩ rfl ⟨⟨_, rfl, fun _ => trivial⟩, S17_6.fin⟩
  refine lO S17_6.k [.o 0] rfl ⟨rfl,⟨⟩⟩ (o_callb S17_6 has_30 rfl rfl (small_fn s.guard M _ _ _ (RdE.keep (S17_6.keep0 M) _ _ hG87) (by omega) (by omega)) (fun h96 w96 S96 X96 => ?_) (fun h96 w96 S96 X96 => ?_))
  ·refine lC0 rfl ⟨⟩ (wL (fun μj D ε w => D = [] ∧ ∃ j : Nat, (j + μj = (s.set.length)) ∧ St [] w0 w [(some g7, 112, [.int .i64 s.kind, .int .i64 s.frm, .int .i64 s.to, .int .i64 s.guard.op, .int .i64 s.guard.w, .int .i64 s.guard.n, .slice Ag87 ng87 cg87, .slice As87 ns87 cs87, .bool s.release, .int .i64 s.target, .int .i64 s.module_]), (some g1, 83, [.string t.name, .int .i64 t.points, .slice Aa na ca, .slice Am nm cm, .slice As ns csx, .slice Al nl cl, .bool t.asleep])] ∧ Sl ε [(1, .pointer (some ⟨g1, 0, none⟩)), (6, .int .i64 k), (7, .pointer (some ⟨g7, 0, none⟩)), (8, .int .i64 j)]) (μ := (s.set.length)) ⟨rfl, 0, by omega, S96, rfl⟩ ?_)
   rintro μj D ε w ⟨rfl, j, _, S, e⟩
   refine wK e (wB S.k [.o 0] rfl ⟨rfl,⟨⟩⟩ (fun h103 => ?_) fun h103 => ?_)
   ·obtain ⟨a, b109, p109, _, _, hA109, _, _, hc109, hr109⟩ := RdS.get (hSet87) (j) (by omega)
    obtain ⟨_, _, _, rfl, _, hE109⟩ := RAssign.open_ hr109
    refine lO (S.k.a hc109) [.o 0,.x b109 p109,.f 0 1] rfl ⟨rfl,⟨hA109,by omega⟩,rfl,⟨⟩⟩ (o_callb S has_30 rfl rfl (small_fn a.to M _ _ _ (RdE.keep (S.keep0 M) _ _ hE109) (by omega) (by omega)) (fun h112 w112 S112 X112 => ?_) (fun h112 w112 S112 X112 => ?_))
    ·refine lP0 rfl ⟨by omega,⟨⟩⟩ ⟨μj - 1, by omega, rfl, (j + 1), (by omega), S112, rfl⟩
    exact lT rfl ⟨⟩ rfl ⟨⟨_, rfl, fun _ => trivial⟩, S112.fin⟩
   refine lP0 rfl ⟨by omega,⟨⟩⟩ ⟨μk - 1, by omega, rfl, (k + 1), (by omega), S.tail, rfl⟩
  exact lT rfl ⟨⟩ rfl ⟨⟨_, rfl, fun _ => trivial⟩, S96.fin⟩
 exact lT rfl ⟨⟩ rfl ⟨⟨_, rfl, fun _ => trivial⟩, S.fin⟩
theorem small13_fn (p : ProgD) (M : List Nat) (w0 : World) (cs : List Value) (hP : RdProg M w0 p cs) (hM : ∀ g ∈ M, g < w0.heap.size) (hN : Named p) :
 Does Tryz.prog 12 #[.agg cs.toArray] w0 fun v w' => (∃ b, v = .bool b ∧ (b = true → ProgOK p)) ∧ Below w0.heap.size w0 w' := by
 obtain ⟨Ac, nc, cc, Am, nm, cm, Al, nl, cl, At, nt, ct, rfl, _, hMo, hLk, hTh, _, _, _, _, _, _, _, _⟩ := hP.open_
 have S := St.refl w0
 refine dnR Tryz.func12 rfl Tryz.ntmps12 rfl ?_
 refine wO0 rfl ⟨⟩ (o_boxa S (by conv => lhs; whnf) rfl ?_)
 intro g1 w1 S1 X1 G1
 refine lB S1.k [.o 0] rfl ⟨rfl,⟨⟩⟩ (fun h15 => ?_) fun h15 => ?_
 ·exact lT rfl ⟨⟩ rfl ⟨⟨_, rfl, fun h => by cases h⟩, S1.fin⟩
 refine lB S1.k [.o 0] rfl ⟨rfl,⟨⟩⟩ (fun h20 => ?_) fun h20 => ?_
 ·exact lT rfl ⟨⟩ rfl ⟨⟨_, rfl, fun h => by cases h⟩, S1.fin⟩
 refine lB S1.k [.o 0] rfl ⟨rfl,⟨⟩⟩ (fun h26 => ?_) fun h26 => ?_
 ·exact lT rfl ⟨⟩ rfl ⟨⟨_, rfl, fun h => by cases h⟩, S1.fin⟩
 refine lB S1.k [.o 0] rfl ⟨rfl,⟨⟩⟩ (fun h32 => ?_) fun h32 => ?_
 ·exact lT rfl ⟨⟩ rfl ⟨⟨_, rfl, fun h => by cases h⟩, S1.fin⟩
 refine lC0 rfl ⟨⟩ (wL (fun μk D ε w => D = [] ∧ ∃ k : Nat, (k + μk = (p.modules.length)) ∧ St [] w0 w [(some g1, 36, [.slice Ac nc cc, .slice Am nm cm, .slice Al nl cl, .slice At nt ct])] ∧ Sl ε [(1, .pointer (some ⟨g1, 0, none⟩)), (3, .int .i64 k)]) (μ := (p.modules.length)) ⟨rfl, 0, by omega, S1, rfl⟩ ?_)
 rintro μk D ε w ⟨rfl, k, hk, S, e⟩
 refine wK e (wB S.k [.o 0] rfl ⟨rfl,⟨⟩⟩ (fun h38 => ?_) fun h38 => ?_)
 ·obtain ⟨mo, b44, p44, _, _, hA44, _, hl44, hc44, hr44⟩ := RdS.get (hMo) (k) (by omega)
  obtain ⟨_, _, _, _, _, _, _, _, _, rfl, hR44, hG44, _, _, _⟩ := RContract.open_ hr44
  refine lO (S.k.a hc44) [.o 0,.x b44 p44,.v 0] rfl ⟨⟨rfl,hl44⟩,⟨hA44,by omega⟩,rfl,⟨⟩⟩ (o_alloc S zv_75 rfl rfl ?_)
  intro g4 w4 S4 X4 G4
  refine o_storeN (kk := 0) (vs := [_, _, _, _, _, _, _, _, _, _, _]) S4 sz_75 rfl rfl rfl rfl rfl rfl rfl ?_
  intro w6_6 S6_6 X6_6
  dsimp only [setsAt, List.set] at S6_6
  refine lB S6_6.k [.o 0] rfl ⟨rfl,⟨⟩⟩ (fun h49 => ?_) fun h49 => ?_
  ·exact lT rfl ⟨⟩ rfl ⟨⟨_, rfl, fun h => by cases h⟩, S6_6.fin⟩
  refine lO S6_6.k [.o 0] rfl ⟨rfl,⟨⟩⟩ (o_callb S6_6 has_30 rfl rfl (small_fn mo.rely M _ _ _ (RdE.keep (S6_6.keep0 M) _ _ hR44) (by omega) (by omega)) (fun h53 w53 S53 X53 => ?_) (fun h53 w53 S53 X53 => ?_))
  ·refine lO S53.k [.o 0] rfl ⟨rfl,⟨⟩⟩ (o_callb S53 has_30 rfl rfl (small_fn mo.guar M _ _ _ (RdE.keep (S53.keep0 M) _ _ hG44) (by omega) (by omega)) (fun h59 w59 S59 X59 => ?_) (fun h59 w59 S59 X59 => ?_))
   ·refine lP0 rfl ⟨by omega,⟨⟩⟩ ⟨μk - 1, by omega, rfl, (k + 1), (by omega), S59.tail, rfl⟩
   exact lT rfl ⟨⟩ rfl ⟨⟨_, rfl, fun h => by cases h⟩, S59.fin⟩
  exact lT rfl ⟨⟩ rfl ⟨⟨_, rfl, fun h => by cases h⟩, S53.fin⟩
 refine lC0 rfl ⟨⟩ (wL (fun μk D ε w => D = [] ∧ ∃ k : Nat, (k + μk = (p.locks.length)) ∧ St [] w0 w [(some g1, 36, [.slice Ac nc cc, .slice Am nm cm, .slice Al nl cl, .slice At nt ct])] ∧ Sl ε [(1, .pointer (some ⟨g1, 0, none⟩)), (5, .int .i64 k)]) (μ := (p.locks.length)) ⟨rfl, 0, by omega, S, rfl⟩ ?_)
 rintro μk D ε w ⟨rfl, k, hk, S, e⟩
 refine wK e (wB S.k [.o 0] rfl ⟨rfl,⟨⟩⟩ (fun h66 => ?_) fun h66 => ?_)
 ·obtain ⟨lk, b72, p72, _, _, hA72, _, _, hc72, hr72⟩ := RdS.get (hLk) (k) (by omega)
  obtain ⟨_, _, _, rfl, _, _, hE72⟩ := RLock.open_ hr72
  refine lO (S.k.a hc72) [.o 0,.x b72 p72,.f 0 1] rfl ⟨rfl,⟨hA72,by omega⟩,rfl,⟨⟩⟩ (o_callb S has_30 rfl rfl (small_fn lk.inv M _ _ _ (RdE.keep (S.keep0 M) _ _ hE72) (by omega) (by omega)) (fun h75 w75 S75 X75 => ?_) (fun h75 w75 S75 X75 => ?_))
  ·refine lP0 rfl ⟨by omega,⟨⟩⟩ ⟨μk - 1, by omega, rfl, (k + 1), (by omega), S75, rfl⟩
  exact lT rfl ⟨⟩ rfl ⟨⟨_, rfl, fun h => by cases h⟩, S75.fin⟩
 refine lC0 rfl ⟨⟩ (wL (fun μk D ε w => D = [] ∧ ∃ k : Nat, (k + μk = (p.threads.length)) ∧ St [] w0 w [(some g1, 36, [.slice Ac nc cc, .slice Am nm cm, .slice Al nl cl, .slice At nt ct])] ∧ Sl ε [(1, .pointer (some ⟨g1, 0, none⟩)), (7, .int .i64 k)]) (μ := (p.threads.length)) ⟨rfl, 0, by omega, S, rfl⟩ ?_)
 rintro μk D ε w ⟨rfl, k, hk, S, e⟩
 refine wK e (wB S.k [.o 0] rfl ⟨rfl,⟨⟩⟩ (fun h82 => ?_) fun h82 => ?_)
 ·obtain ⟨th, b88, p88, _, _, hA88, _, hl88, hc88, hr88⟩ := RdS.get (hTh) (k) (by omega)
  obtain ⟨_, _, _, _, _, _, _, _, _, _, _, _, rfl, _, _, _, _, _, _, _, _, _, _, _, _, _⟩ := RThread.open_ hr88
  refine lO (S.k.a hc88) [.o 0,.x b88 p88,.v 0] rfl ⟨⟨rfl,hl88⟩,⟨hA88,by omega⟩,rfl,⟨⟩⟩ (o_calls S has_31 rfl rfl (thread13_fn th M _ _ (RThread.keep (S.keep0 M) _ _ hr88)) (fun h90 w90 S90 X90 => ?_) (fun w90 S90 X90 => ?_))
  ·refine lP0 rfl ⟨by omega,⟨⟩⟩ ⟨μk - 1, by omega, rfl, (k + 1), (by omega), S90, rfl⟩
  exact lT rfl ⟨⟩ rfl ⟨⟨_, rfl, fun h => by cases h⟩, S90.fin⟩
 refine lO S.k [.w 0] rfl ⟨⟨rfl,rfl⟩,⟨⟩⟩ (o_calln S has_32 rfl rfl (valid07_fn p M _ _ (hP.keep (S.keep0 M)) (fun g hg => Nat.lt_of_lt_of_le (hM g hg) S.size) hN) ?_)
 rintro v95 w95 ⟨_, _, _, rfl, hv⟩ S95 X95
 refine lB0 rfl ⟨⟩ (fun h100 => ?_) fun h100 => ?_
 ·exact lT rfl ⟨⟩ rfl ⟨⟨_, rfl, fun _ => hv h100⟩, S95.fin⟩
 exact lT rfl ⟨⟩ rfl ⟨⟨_, rfl, fun h => by cases h⟩, S95.fin⟩
end Go.Proofs.YtgnbfmifjlnigaaGreatDoor
namespace Go.Fw
open Go.RowKit
def labelB (s : ByteArray) : Bool := decide (1 ≤ s.size) && decide (s.size ≤ 64) && s.data.toList.all fun b => decide (33 ≤ b.toNat) && decide (b.toNat ≤ 126)
theorem labelB_ok {s : ByteArray} (h : labelB s = true) : isLabel s := by
 simp only [labelB, Bool.and_eq_true, decide_eq_true_eq, List.all_eq_true] at h
 refine ⟨h.1.1, h.1.2, fun i hi => ?_⟩
 exact h.2 s[i] (by rw [ByteArray.getElem_eq_getElem_data]; simp)
def inB (i : Int) (n : Nat) : Bool := decide (0 ≤ i) && decide (i < n)
theorem inB_ok {i : Int} {n : Nat} (h : inB i n = true) : isIn i n := by simpa [inB, isIn] using h
def overTB (cells : List CellD) (e : E) (sh : Bool) (t : Int) : Bool := (e.sup 3 ++ e.sup 2).all fun x => (decide (thrAt cells x ≠ -1) || sh) && (decide (thrAt cells x < 0) || decide (thrAt cells x = t))
theorem overTB_ok {cells : List CellD} {e : E} {sh : Bool} {t : Int} (h : overTB cells e sh t = true) : overT cells e sh t := fun x hx => by
 have := List.all_eq_true.1 h x hx
 simp only [Bool.and_eq_true, Bool.or_eq_true, decide_eq_true_eq] at this
 exact ⟨fun e => this.1.resolve_left (fun h => h e), fun e => this.2.resolve_left (by omega)⟩
def truthB (cells : List CellD) (e : E) (pair : Bool) (t : Int) : Bool := e.valid cells pair && decide (e.w = 1) && overTB cells e true t
theorem truthB_ok {cells : List CellD} {e : E} {pair : Bool} {t : Int} (h : truthB cells e pair t = true) : truthP cells e pair t := by
 simp only [truthB, Bool.and_eq_true, decide_eq_true_eq] at h
 exact ⟨h.1.1, h.1.2, overTB_ok h.2⟩
def risingB : List Int → Bool
 | [] => true
 | x :: l => (l.all fun y => decide (x < y)) && risingB l
theorem risingB_ok : ∀ {l : List Int}, risingB l = true → rising l
 | [], _ => List.Pairwise.nil
 | x :: l, h => by
   simp only [risingB, Bool.and_eq_true, List.all_eq_true, decide_eq_true_eq] at h
   exact List.Pairwise.cons h.1 (risingB_ok h.2)
def pwB {α : Type} (r : α → α → Bool) : List α → Bool
 | [] => true
 | x :: l => l.all (r x) && pwB r l
theorem pwB_ok {α : Type} {r : α → α → Bool} {R : α → α → Prop} (hr : ∀ a b, r a b = true → R a b) : ∀ {l : List α}, pwB r l = true → l.Pairwise R
 | [], _ => List.Pairwise.nil
 | x :: l, h => by
   simp only [pwB, Bool.and_eq_true, List.all_eq_true] at h
   exact List.Pairwise.cons (fun y hy => hr _ _ (h.1 y hy)) (pwB_ok hr h.2)
def absentB (e : E) : Bool := decide (e.op = 0) && decide (e.w = 0) && decide (e.n = 0) && e.kids.isEmpty
theorem absentB_ok {e : E} (h : absentB e = true) : e.absent := by
 simp only [absentB, Bool.and_eq_true, decide_eq_true_eq, List.isEmpty_iff] at h
 exact ⟨h.1.1.1, h.1.1.2, h.1.2, h.2⟩
def oneB (e : E) : Bool := decide (e.op = 1) && decide (e.w = 1) && decide (e.n = 1) && e.kids.isEmpty
theorem oneB_ok {e : E} (h : oneB e = true) : e = ⟨1, 1, 1, []⟩ := by
 simp only [oneB, Bool.and_eq_true, decide_eq_true_eq, List.isEmpty_iff] at h
 cases e; simp_all
def ifB (c : Prop) [Decidable c] (b : Bool) : Bool := !decide c || b
theorem ifB_ok {c : Prop} [Decidable c] {b : Bool} (h : ifB c b = true) (hc : c) : b = true := by simpa [ifB, hc] using h
def kindB (p : ProgD) (t : Int) (s : StepD) : Bool :=
 overTB p.cells s.guard (decide (s.kind = 4)) t &&
 ((List.range s.set.length).all fun i => match s.set[i]? with | some a => ifB (0 < i ∨ s.kind ≠ 2) (overTB p.cells a.to (decide (s.kind = 4)) t) | none => true) &&
 (s.set.all fun a => decide (thrAt p.cells a.cell = t ∨ thrAt p.cells a.cell = -1)) &&
 ifB (s.kind = 1) (s.set.all fun a => decide (thrAt p.cells a.cell = t)) &&
 ifB (s.kind = 2) (match s.set with | [] => false | a :: l => decide (thrAt p.cells a.cell = t ∧ ghAt p.cells a.cell = false ∧ a.to.op = 2 ∧ thrAt p.cells a.to.n = -1 ∧ ghAt p.cells a.to.n = false) && l.all fun b => decide (thrAt p.cells b.cell = t ∧ ghAt p.cells b.cell = true)) &&
 ifB (s.kind = 3) (match s.set with | [] => false | a :: l => decide (thrAt p.cells a.cell = -1 ∧ ghAt p.cells a.cell = false) && l.all fun b => decide (ghAt p.cells b.cell = true)) &&
 ifB (5 ≤ s.kind) (s.set.isEmpty && oneB s.guard) &&
 ifB (6 ≤ s.kind) (inB s.target p.threads.length && decide (s.target ≠ t)) &&
 ifB (s.kind = 6) (match p.threads[s.target.toNat]? with | some u => u.asleep | none => true)
theorem kindB_ok {p : ProgD} {t : Int} {s : StepD} (h : kindB p t s = true) : KindOK p t s := by
 simp only [kindB, Bool.and_eq_true] at h
 obtain ⟨⟨⟨⟨⟨⟨⟨⟨a1, a2⟩, a3⟩, a4⟩, a5⟩, a6⟩, a7⟩, a8⟩, a9⟩ := h
 refine ⟨overTB_ok a1, fun i hi hc => ?_, fun a ha => of_decide_eq_true (List.all_eq_true.1 a3 a ha), fun hk a ha => of_decide_eq_true (List.all_eq_true.1 (ifB_ok a4 hk) a ha), fun hk => ?_, fun hk => ?_, fun hk => ?_, fun hk => ?_, fun hk u hu => ?_⟩
 ·have := List.all_eq_true.1 a2 i (List.mem_range.2 hi)
  rw [List.getElem?_eq_getElem hi] at this
  exact overTB_ok (ifB_ok this hc)
 ·have := ifB_ok a5 hk
  split at this
  ·cases this
  ·rename_i a l hs
   rw [Bool.and_eq_true] at this
   obtain ⟨b1, b2, b3, b4, b5⟩ := of_decide_eq_true this.1
   exact ⟨a, l, hs, b1, b2, b3, b4, b5, fun b hb => of_decide_eq_true (List.all_eq_true.1 this.2 b hb)⟩
 ·have := ifB_ok a6 hk
  split at this
  ·cases this
  ·rename_i a l hs
   rw [Bool.and_eq_true] at this
   obtain ⟨b1, b2⟩ := of_decide_eq_true this.1
   exact ⟨a, l, hs, b1, b2, fun b hb => of_decide_eq_true (List.all_eq_true.1 this.2 b hb)⟩
 ·have := ifB_ok a7 hk
  rw [Bool.and_eq_true, List.isEmpty_iff] at this
  exact ⟨this.1, oneB_ok this.2⟩
 ·have := ifB_ok a8 hk
  rw [Bool.and_eq_true] at this
  exact ⟨inB_ok this.1, of_decide_eq_true this.2⟩
 ·have := ifB_ok a9 hk
  rw [hu] at this; exact this
def stepB (p : ProgD) (t : Int) (points : Int) (s : StepD) : Bool :=
 decide (1 ≤ s.kind ∧ s.kind ≤ 7) && decide (0 ≤ s.frm ∧ s.frm < points - 1) && decide (0 ≤ s.to ∧ s.to < points) && inB s.module_ p.modules.length && ifB (s.release = true) (decide (s.kind = 3)) &&
 ifB (s.target ≠ 0) (decide (s.kind = 6 ∨ s.kind = 7)) && (s.guard.valid p.cells false && decide (s.guard.w = 1)) &&
 (s.set.all fun a => inB a.cell p.cells.length && a.to.valid p.cells false && decide (a.to.w = wAt p.cells a.cell)) && pwB (fun a b => decide (a.cell ≠ b.cell)) s.set && kindB p t s
theorem stepB_ok {p : ProgD} {t points : Int} {s : StepD} (h : stepB p t points s = true) : StepOK p t points s := by
 simp only [stepB, Bool.and_eq_true] at h
 obtain ⟨⟨⟨⟨⟨⟨⟨⟨⟨a1, a2⟩, a3⟩, a4⟩, a5⟩, a6⟩, a7, a7'⟩, a8⟩, a9⟩, a10⟩ := h
 refine ⟨of_decide_eq_true a1, of_decide_eq_true a2, of_decide_eq_true a3, inB_ok a4, fun hr => of_decide_eq_true (ifB_ok a5 hr), fun hr => of_decide_eq_true (ifB_ok a6 hr), ⟨a7, of_decide_eq_true a7'⟩, fun a ha => ?_, pwB_ok (fun a b h => of_decide_eq_true h) a9, kindB_ok a10⟩
 have := List.all_eq_true.1 a8 a ha
 simp only [Bool.and_eq_true] at this
 exact ⟨inB_ok this.1.1, this.1.2, of_decide_eq_true this.2⟩
def loopB (p : ProgD) (t points : Int) (l : LoopD) : Bool := decide (0 ≤ l.head ∧ l.head < points) && risingB l.body && (l.body.all fun x => decide (0 ≤ x ∧ x < points ∧ x ≠ l.head)) && (l.variant.valid p.cells false && overTB p.cells l.variant true t)
theorem loopB_ok {p : ProgD} {t points : Int} {l : LoopD} (h : loopB p t points l = true) : LoopOK p t points l := by
 simp only [loopB, Bool.and_eq_true] at h
 obtain ⟨⟨⟨a1, a2⟩, a3⟩, a4, a5⟩ := h
 exact ⟨of_decide_eq_true a1, risingB_ok a2, fun x hx => of_decide_eq_true (List.all_eq_true.1 a3 x hx), a4, overTB_ok a5⟩
def threadB (p : ProgD) (t : Nat) (x : ThreadD) : Bool :=
 labelB x.name && decide (1 ≤ x.points ∧ x.points ≤ 48) && decide (x.steps.length ≤ 64) && decide (x.loops.length ≤ 8) && decide ((x.asserts.length : Int) = x.points) && decide ((x.modules.length : Int) = x.points) &&
 (x.modules.all fun m => inB m p.modules.length) && (x.asserts.all fun e => truthB p.cells e false t) && (x.steps.all fun s => stepB p t x.points s) && (x.loops.all fun l => loopB p t x.points l)
theorem threadB_ok {p : ProgD} {t : Nat} {x : ThreadD} (h : threadB p t x = true) : ThreadOK p t x := by
 simp only [threadB, Bool.and_eq_true] at h
 obtain ⟨⟨⟨⟨⟨⟨⟨⟨⟨a1, a2⟩, a3⟩, a4⟩, a5⟩, a6⟩, a7⟩, a8⟩, a9⟩, a10⟩ := h
 exact ⟨labelB_ok a1, of_decide_eq_true a2, of_decide_eq_true a3, of_decide_eq_true a4, of_decide_eq_true a5, of_decide_eq_true a6, fun m hm => inB_ok (List.all_eq_true.1 a7 m hm), fun m hm => truthB_ok (List.all_eq_true.1 a8 m hm),
  fun m hm => stepB_ok (List.all_eq_true.1 a9 m hm), fun m hm => loopB_ok (List.all_eq_true.1 a10 m hm)⟩
def cellB (p : ProgD) (c : CellD) : Bool := labelB c.name && decide (1 ≤ c.w ∧ c.w ≤ 8) && decide (0 ≤ c.init ∧ c.init < pow2 c.w.toNat) && decide (-1 ≤ c.thread ∧ c.thread < p.threads.length) && inB c.module_ p.modules.length
theorem cellB_ok {p : ProgD} {c : CellD} (h : cellB p c = true) : CellOK p c := by
 simp only [cellB, Bool.and_eq_true] at h
 obtain ⟨⟨⟨⟨a1, a2⟩, a3⟩, a4⟩, a5⟩ := h
 exact ⟨labelB_ok a1, of_decide_eq_true a2, of_decide_eq_true a3, of_decide_eq_true a4, inB_ok a5⟩
def modB (p : ProgD) (m : ContractD) : Bool := labelB m.name && labelB m.owner && (absentB m.rely || truthB p.cells m.rely true (-1)) && truthB p.cells m.guar true (-1) && (m.frame.all fun x => inB x p.cells.length && decide (thrAt p.cells x = -1)) && risingB m.frame
theorem modB_ok {p : ProgD} {m : ContractD} (h : modB p m = true) : ModOK p m := by
 simp only [modB, Bool.and_eq_true, Bool.or_eq_true] at h
 obtain ⟨⟨⟨⟨⟨a1, a2⟩, a3⟩, a4⟩, a5⟩, a6⟩ := h
 refine ⟨labelB_ok a1, labelB_ok a2, a3.imp absentB_ok truthB_ok, truthB_ok a4, fun x hx => ?_, risingB_ok a6⟩
 have := List.all_eq_true.1 a5 x hx
 rw [Bool.and_eq_true] at this
 exact ⟨inB_ok this.1, of_decide_eq_true this.2⟩
def lockB (p : ProgD) (l : LockD) : Bool := inB l.cell p.cells.length && decide (thrAt p.cells l.cell = -1 ∧ wAt p.cells l.cell = 1 ∧ ghAt p.cells l.cell = false) && inB l.module_ p.modules.length && truthB p.cells l.inv false (-1)
theorem lockB_ok {p : ProgD} {l : LockD} (h : lockB p l = true) : LockOK p l := by
 simp only [lockB, Bool.and_eq_true] at h
 obtain ⟨⟨⟨a1, a2⟩, a3⟩, a4⟩ := h
 exact ⟨⟨inB_ok a1, of_decide_eq_true a2⟩, inB_ok a3, truthB_ok a4⟩
def progB (p : ProgD) : Bool :=
 decide (p.cells.length ≤ 32) && decide (p.modules.length ≤ 6) && decide (p.locks.length ≤ 4) && decide (p.threads.length ≤ 4) &&
 p.cells.all (cellB p) && pwB (fun a b => decide (a.name ≠ b.name)) p.cells && p.modules.all (modB p) && pwB (fun a b => decide (a.name ≠ b.name)) p.modules && p.locks.all (lockB p) && pwB (fun a b => decide (a.cell ≠ b.cell)) p.locks &&
 ((List.range p.threads.length).all fun t => match p.threads[t]? with | some x => threadB p t x | none => true) && pwB (fun a b => decide (a.name ≠ b.name)) p.threads
theorem progB_ok {p : ProgD} (h : progB p = true) : ProgOK p := by
 simp only [progB, Bool.and_eq_true] at h
 obtain ⟨⟨⟨⟨⟨⟨⟨⟨⟨⟨⟨a1, a2⟩, a3⟩, a4⟩, a5⟩, a6⟩, a7⟩, a8⟩, a9⟩, a10⟩, a11⟩, a12⟩ := h
 refine ⟨of_decide_eq_true a1, of_decide_eq_true a2, of_decide_eq_true a3, of_decide_eq_true a4, fun c hc => cellB_ok (List.all_eq_true.1 a5 c hc), pwB_ok (fun _ _ h => of_decide_eq_true h) a6, fun c hc => modB_ok (List.all_eq_true.1 a7 c hc),
  pwB_ok (fun _ _ h => of_decide_eq_true h) a8, fun c hc => lockB_ok (List.all_eq_true.1 a9 c hc), pwB_ok (fun _ _ h => of_decide_eq_true h) a10, fun t ht => ?_, pwB_ok (fun _ _ h => of_decide_eq_true h) a12⟩
 have := List.all_eq_true.1 a11 t (List.mem_range.2 ht)
 rw [List.getElem?_eq_getElem ht] at this
 exact threadB_ok this
end Go.Fw
namespace Go.Fw
open Go.RowKit
section
variable {P : Program} {r : Option Nat} {N : Nat} {D : List Deferred} {e : Env} {w : World} {ops : Array Oper} {rest : List Oper} {K : List Deferred → Env → World → Prop}
variable {d : Nat} {t : TypeId} {p : String} {af : Array Edge} {x y : Operand} {xt yt : TypeId} {kd : IntKind} {a b : Int} {C : World → Prop} {Kq : Env → Prop}
theorem run_remI (w : World) (h0 : 0 ≤ a) (h1 : 0 < b) : (Op.intDiv .rem kd a b).run P w = .ok (.int kd (a % b)) w := by
 have hb : b ≠ 0 := by omega
 have ht : a.tmod b = a % b := Int.tmod_eq_emod_of_nonneg h0
 simp [Op.intDiv, hb, ht]
theorem o_rem (hx : ev e x = .int kd a) (hy : ev e y = .int kd b) (h0 : 0 ≤ a) (h1 : 0 < b) (hd : Nat.ble (d + 1) N = true) (h : WL P r N ops rest K D (upd e d (.int kd (a % b))) w) :
 WL P r N ops (⟨some d, .binOp .rem xt x y yt, t, p, af, none⟩ :: rest) K D e w :=
 WL_val rfl rfl hd (by simp) (by simp [execOp, hx, hy, eqGuard, binOp, run_remI w h0 h1]) h
theorem run_sliceTo {ty size k c n : Nat} {A : Option Addr} (hT : SlT P ty size) (w : World) (h1 : k ≤ c) : (Instr.slice ty (.slice A n c) none (some (.int kd (k : Int))) none).run P w = .ok (.slice A k c) w := by
 obtain ⟨_, hu, hsz⟩ := slT_size hT
 have e2 : (0 : Int) ≤ (k : Int) ∧ (k : Int) ≤ (c : Int) := by omega
 have e3 : A.map (·.add 0) = A := by cases A <;> simp [Addr.add_zero']
 simp [Instr.slice, Instr.sliceBounds, Instr.sliceBound, asIntOf, run_underlying hu, hsz, e2, e3, h1]
theorem o_sliceTo {ty size k c n : Nat} {A : Option Addr} {xh : Operand} (hT : SlT P ty size) (hx : ev e x = .slice A n c) (hy : ev e xh = .int kd (k : Int)) (h1 : k ≤ c) (hd : Nat.ble (d + 1) N = true) (h : WL P r N ops rest K D (upd e d (.slice A k c)) w) :
 WL P r N ops (⟨some d, .slice ty x none (some xh) none, t, p, af, none⟩ :: rest) K D e w := by
 refine WL_val rfl rfl hd (by simp) ?_ h
 have hu := (slT_size hT).choose_spec.1
 simp only [execOp, Instr.sliceAt, Sem.run_bind, run_underlying hu, Result.andThen_ok, hx, hy, Option.map_none, Option.map_some, run_sliceTo hT w h1, Sem.run_pure]
end
section
variable {α : Type} {M : List Nat} {w : World} {size : Nat} {R : List Value → α → Prop} {g : Nat}
theorem rdS_row {css : List (List Value)} {l : List α} {n : Nat} (hg : g ∉ M) (hc : Cells w g 0 css.flatten) (hn : n = l.length) (hl : css.length = l.length) (hl2 : l.length ≤ 1000000) (h4 : ∀ x ∈ css, x.length = size) (hR : ∀ (i : Nat) (x : α), l[i]? = some x → ∃ c, css[i]? = some c ∧ R c x) : RdS M w size R (.slice (some ⟨g, 0, none⟩) n n) l := by
 subst hn
 refine ⟨_, _, _, rfl, rfl, Nat.le_refl _, by unfold maxLen; omega, by omega, fun _ => ⟨g, 0, rfl, hg, fun i x hi => ?_⟩⟩
 obtain ⟨c, h5, h6⟩ := hR i x hi
 exact ⟨c, h4 c (List.mem_of_getElem? h5), fun j u hj => by simpa using hc _ u (flatN css i c h4 h5 j u hj), h6⟩
theorem rdS_1 {c : List Value} {x : α} (hg : g ∉ M) (hc : Cells w g 0 c) (h4 : c.length = size) (hr : R c x) : RdS M w size R (.slice (some ⟨g, 0, none⟩) 1 1) [x] :=
 rdS_row (css := [c]) hg (by simpa using hc) rfl rfl (by simp) (by simpa using h4) (fun i y hi => by
  match i, hi with
  | 0, hi => cases hi; exact ⟨c, rfl, hr⟩)
theorem rdS_2 {c c2 : List Value} {x x2 : α} (hg : g ∉ M) (hc : Cells w g 0 (c ++ c2)) (h4 : c.length = size) (h5 : c2.length = size) (hr : R c x) (hr2 : R c2 x2) : RdS M w size R (.slice (some ⟨g, 0, none⟩) 2 2) [x, x2] :=
 rdS_row (css := [c, c2]) hg (by simpa using hc) rfl rfl (by simp) (by simpa using ⟨h4, h5⟩) (fun i y hi => by
  match i, hi with
  | 0, hi => cases hi; exact ⟨c, rfl, hr⟩
  | 1, hi => cases hi; exact ⟨c2, rfl, hr2⟩)
theorem rdS_3 {c c2 c3 : List Value} {x x2 x3 : α} (hg : g ∉ M) (hc : Cells w g 0 (c ++ (c2 ++ c3))) (h4 : c.length = size) (h5 : c2.length = size) (h6 : c3.length = size) (hr : R c x) (hr2 : R c2 x2) (hr3 : R c3 x3) : RdS M w size R (.slice (some ⟨g, 0, none⟩) 3 3) [x, x2, x3] :=
 rdS_row (css := [c, c2, c3]) hg (by simpa using hc) rfl rfl (by simp) (by simpa using ⟨h4, h5, h6⟩) (fun i y hi => by
  match i, hi with
  | 0, hi => cases hi; exact ⟨c, rfl, hr⟩
  | 1, hi => cases hi; exact ⟨c2, rfl, hr2⟩
  | 2, hi => cases hi; exact ⟨c3, rfl, hr3⟩)
end
theorem does_true {P : Program} {f : FuncId} {args : Array Value} {w : World} {b : Bool} (h : Does P f args w fun v w' => v = .bool b ∧ Below w.heap.size w w') (hb : b = true) : Does P f args w fun v w' => v = .bool true ∧ Below w.heap.size w w' := by
 subst hb; exact h
theorem does_eq {P : Program} {f : FuncId} {args : Array Value} {w : World} {u u' : Value} (h : Does P f args w fun v w' => v = u ∧ Below w.heap.size w w') (hb : u = u') : Does P f args w fun v w' => v = u' ∧ Below w.heap.size w w' := by
 subst hb; exact h
end Go.Fw
namespace Go.Fw
open Go.RowKit
section
variable {P : Program} {r : Option Nat} {N : Nat} {D : List Deferred} {e : Env} {w w0 : World} {ops : Array Oper} {rest : List Oper} {K : List Deferred → Env → World → Prop} {L : List Ent} {M : List Nat}
variable {d : Nat} {t : TypeId} {p : String} {af : Array Edge} {x y : Operand} {yt : TypeId}
theorem run_eqlPN {ty te : TypeId} (hu : P.underlying ty = some (.pointer te)) (w : World) (v : Option Addr) : (binOp .eql ty (.pointer v) (.pointer none)).run P w = .ok (.bool v.isNone) w := by
 have h : ∀ k : Nat, (Op.equalIn (k + 1) ty (.pointer v) (.pointer none)).run P w = .ok v.isNone w := fun k => by
  cases v <;> simp [Op.equalIn, run_underlying hu]
 simp only [binOp]
 simp [Op.equal, Op.maxDepth, h 9999]
theorem o_eqlPN {ty te : TypeId} {v : Option Addr} (hu : P.underlying ty = some (.pointer te)) (hx : ev e x = .pointer v) (hy : ev e y = .pointer none) (hd : Nat.ble (d + 1) N = true) (h : WL P r N ops rest K D (upd e d (.bool v.isNone)) w) :
 WL P r N ops (⟨some d, .binOp .eql ty x y yt, t, p, af, none⟩ :: rest) K D e w :=
 WL_val rfl rfl hd (by simp) (by simp [execOp, hx, hy, eqGuard, run_eqlPN hu]) h
theorem o_neqPS {ty te : TypeId} {j : TypeInfo} {a : Addr} (hu : P.underlying ty = some (.pointer te)) (hj : P.info? te = some j) (hx : ev e x = .pointer (some a)) (hy : ev e y = .pointer (some a)) (hd : Nat.ble (d + 1) N = true) (h : WL P r N ops rest K D (upd e d (.bool false)) w) :
 WL P r N ops (⟨some d, .binOp .neq ty x y yt, t, p, af, none⟩ :: rest) K D e w :=
 WL_val rfl rfl hd (by simp) (by simp [execOp, hx, hy, eqGuard, Lib.run_neq_ptr_same w a hu hj]) h
theorem o_conv {src dst : TypeId} {v u : Value} (hx : ev e x = v) (hc : (convert src dst v).run P w = .ok u w) (hd : Nat.ble (d + 1) N = true) (h : WL P r N ops rest K D (upd e d u) w) :
 WL P r N ops (⟨some d, .convert src dst x, t, p, af, none⟩ :: rest) K D e w :=
 WL_val rfl rfl hd (by simp) (by simp [execOp, hx, hc]) h
theorem o_ext {f : FuncId} {at_ : Array TypeId} {v : Value} (hx : ev e x = v) (hc : (callFunc f #[v]).run P w = .ok (.value v) w) (hd : Nat.ble (d + 1) N = true) (h : WL P r N ops rest K D (upd e d v) w) :
 WL P r N ops (⟨some d, .call { callee := .value (.func f), args := #[x], argTypes := at_ }, t, p, af, none⟩ :: rest) K D e w :=
 WL_val rfl rfl hd (by simp) (by
  have h1 : ev e (.func f) = .func (.func f) #[] #[] := rfl
  simp [execOp, resolve, Deferred.ofValue, invoke, h1, hx, hc]) h
theorem o_appendS {ty u el bytes n B : Nat} {z v : Value} {xs : List Value} {s : ByteArray} (S : St M w0 w L) (hS : SlZ P ty el 1 z bytes) (hz8 : z = .int .u8 0) (hb1 : bytes = 1) (hu : P.underlying u = some .string) (hown : w.ownsRow B el 1 v n xs) (hBw : B ≤ w.heap.size) (hM : ∀ g, v.ownBlock = some g → w0.heap.size ≤ g ∨ g ∈ M) (hne : ∀ b ∈ L, ∀ g, b.1 = some g → v.ownBlock ≠ some g)
 (hx : ev e x = v) (hy : ev e y = .string s) (hn : n + s.size ≤ 140737488355328) (hd : Nat.ble (d + 1) N = true)
 (h : ∀ A m c w1, w1.ownsRow B el 1 (.slice A m c) (n + s.size) (xs ++ Lib.strCells s) → St M w0 w1 L → Keep v.ownBlock.toList w w1 → WL P r N ops rest K D (upd e d (.slice A m c)) w1) :
 WL P r N ops (⟨some d, .call { callee := .builtin .append, args := #[x, y], argTypes := #[ty, u] }, t, p, af, none⟩ :: rest) K D e w := by
 subst hz8; subst hb1
 obtain ⟨i, hi, hz, hsz, hby⟩ := hS.parts
 obtain ⟨v', w1, hrun, hown', hgrow, _⟩ := Lib.run_append_own_string (P := P) w B ty u t el i hS.und hu hi hz hsz hby v n xs hown s (by unfold maxLen; omega) hn hBw
 obtain ⟨A, m, c, rfl⟩ : ∃ A m c, v' = .slice A m c := by
  rcases hown'.2 with ⟨hv, _⟩ | ⟨g, cap, cur, hv, _⟩
  ·exact ⟨_, _, _, hv⟩
  ·exact ⟨_, _, _, hv⟩
 have hsame : ∀ q, q < w.heap.size → v.ownBlock ≠ some q → w1.heap[q]? = w.heap[q]? := fun q hq hne => hgrow.block q hq (fun hh => hne hh.symm)
 have hkeep : Keep v.ownBlock.toList w w1 := ⟨hgrow.size, fun q hq hm => hsame q hq (fun hh => hm (by rw [hh]; simp))⟩
 have hbelow : BelowB M w0 w1 := ⟨hgrow.os.trans S.below.os, hgrow.tape.trans S.below.tape, hgrow.output.trans S.below.output, Nat.le_trans S.size hgrow.size, fun q hq hm =>
  (hsame q (Nat.lt_of_lt_of_le hq S.size) (fun hh => by
    rcases hM q hh with h' | h'
    ·omega
    ·exact hm h')).trans (S.below.block q hq hm)⟩
 refine WL_val (v := .slice A m c) (w' := w1) rfl rfl hd (by simp) ?_ (h A m c w1 hown' (S.keeps hbelow fun b hb g hg => ?_) hkeep)
 ·simp [execOp, resolve, invoke, builtin, hx, hy, hrun]
 ·exact hsame g (S.own b hb g hg).2.lt (hne b hb g hg)
end
end Go.Fw
namespace Go.Fw
theorem ownsRow_keep {w w' : World} {B e n : Nat} {v : Value} {xs : List Value} (h : w.ownsRow B e 1 v n xs) {Gs : List Nat} (k : Keep Gs w w') (hg : ∀ g ∈ Gs, g < B) : w'.ownsRow B e 1 v n xs := by
 obtain ⟨h1, h2⟩ := h
 refine ⟨h1, ?_⟩
 rcases h2 with h2 | ⟨g, cap, cur, q1, q2, q3, q4⟩
 ·exact .inl h2
 ·refine .inr ⟨g, cap, cur, q1, q2, ?_, q4⟩
  have hlt : g < w.heap.size := by
   rcases Nat.lt_or_ge g w.heap.size with h' | h'
   ·exact h'
   ·rw [Array.getElem?_eq_none h'] at q3; cases q3
  rw [k.same g hlt (fun hh => by have := hg g hh; omega)]; exact q3
theorem ownsRow_block {w : World} {B e n : Nat} {v : Value} {xs : List Value} (h : w.ownsRow B e 1 v n xs) {g : Nat} (hg : v.ownBlock = some g) : B ≤ g ∧ g < w.heap.size := by
 rcases h.2 with ⟨rfl, _⟩ | ⟨g', cap, cur, rfl, q2, q3, q4⟩
 ·simp [Value.ownBlock] at hg
 ·simp [Value.ownBlock] at hg
  subst hg
  refine ⟨q2, ?_⟩
  rcases Nat.lt_or_ge g' w.heap.size with h' | h'
  ·exact h'
  ·rw [Array.getElem?_eq_none h'] at q3; cases q3
end Go.Fw
namespace Go.Proofs.YtgnbfmifjlnigaaGreatDoor
open Go.Fw Go.RowKit
theorem copyCheck_fn (g : Nat) (pv vb : Value) (hpv : pv = .pointer none ∨ pv = .pointer (some ⟨g, 0, none⟩)) (w0 : World) (hb : hasBlk w0 (g, 115, [pv, vb])) :
 Does Tryz.prog 73 #[.pointer (some ⟨g, 0, none⟩)] w0 fun _ w' => hasBlk w' (g, 115, [.pointer (some ⟨g, 0, none⟩), vb]) ∧ BelowB [g] w0 w' := by
 have S := St.borrow1 hb
 obtain ⟨j, hj, hjs⟩ : ∃ j, Tryz.prog.info? 115 = some j ∧ j.size = 2 := by
  have : (Tryz.prog.info? 115).map (·.size) = some 2 := by kernel_rfl
  obtain ⟨j, h1, h2⟩ := Option.map_eq_some_iff.1 this
  exact ⟨j, h1, h2⟩
 have hsh : ∀ w : World, hasBlk w (g, 115, [pv, vb]) → w.shape? g = some (115, 2) := fun w h => by
  unfold hasBlk at h; simp [World.shape?, h]
 rcases hpv with rfl | rfl
 refine dnR Tryz.func73 rfl Tryz.ntmps73 rfl ?_
 refine wO0 rfl ⟨⟩ (o_load one_113 rfl (by first | exact S.cell 0 rfl rfl) rfl ?_)
 refine o_eqlPN Tryz.underlying113 rfl rfl rfl ?_
 refine lO0 rfl ⟨⟩ ?_
 refine o_conv rfl (Lib.run_to_unsafe w0 ⟨g, 0, none⟩ Tryz.underlying113 Tryz.underlying172 hj (by rw [hjs]; decide) (hsh _ (S.blk 0 rfl)) (Nat.zero_lt_succ 1)) rfl ?_
 refine o_ext rfl (by rw [run_callFunc_extern Tryz.func103 (by kernel_rfl) (by kernel_rfl) (by kernel_rfl) (e := Extern.AbiNoEscape.same) (by kernel_rfl), Lib.run_noEscape]; rfl) rfl ?_
 refine o_conv rfl (Lib.run_from_unsafe w0 ⟨g, 0, none⟩ Tryz.underlying172 Tryz.underlying113 hj (hsh _ (S.blk 0 rfl)) (by kernel_rfl)) rfl ?_
 refine lO0 rfl ⟨⟩ ?_
 first | refine o_store (kk := 0) S sz_113 rfl (by conv => lhs; whnf) rfl rfl (by exact Nat.le_of_ble_eq_true rfl) ?_
 intro w1_7 S1_7 X1_7
 refine lF0 rfl ⟨⟩ (ret_none rfl ?_)
 exact ⟨S1_7.blk 0 rfl, S1_7.below⟩
 refine dnR Tryz.func73 rfl Tryz.ntmps73 rfl ?_
 refine wO0 rfl ⟨⟩ (o_load one_113 rfl (by first | exact S.cell 0 rfl rfl) rfl ?_)
 refine o_eqlPN Tryz.underlying113 rfl rfl rfl ?_
 refine lO0 rfl ⟨⟩ (o_load one_113 rfl (by first | exact S.cell 0 rfl rfl) rfl ?_)
 refine lOn 1 S.k [] rfl ⟨⟩ (o_neqPS Tryz.underlying113 hj rfl rfl rfl ?_)
 refine lF0 rfl ⟨⟩ (ret_none rfl ?_)
 exact ⟨S.blk 0 rfl, S.below⟩
theorem writeString_fn (B g : Nat) (hgB : g < B) (pv vb : Value) (hpv : pv = .pointer none ∨ pv = .pointer (some ⟨g, 0, none⟩)) (n : Nat) (bs : List Value) (s : ByteArray) (w0 : World) (hBw : B ≤ w0.heap.size) (hb : hasBlk w0 (g, 115, [pv, vb])) (hown : w0.ownsRow B 5 1 vb n bs) (hlen : n + s.size ≤ 1000000) :
 Does Tryz.prog 46 #[.pointer (some ⟨g, 0, none⟩), .string s] w0 fun _ w' => (∃ vb', hasBlk w' (g, 115, [.pointer (some ⟨g, 0, none⟩), vb']) ∧ w'.ownsRow B 5 1 vb' (n + s.size) (bs ++ Lib.strCells s)) ∧ BelowB (g :: vb.ownBlock.toList) w0 w' := by
 have S : St (g :: vb.ownBlock.toList) w0 w0 [(some g, 115, [pv, vb])] := (St.reflM _ w0).push hb (.inr (by simp)) (by simp)
 refine dnR Tryz.func46 rfl Tryz.ntmps46 rfl ?_
 refine wO0 rfl ⟨⟩ (o_call has_73 rfl rfl (copyCheck_fn g pv vb hpv _ (S.blk 0 rfl)) ?_)
 rintro v7 w7 ⟨hb7, B7⟩
 have S7 := S.changed1 0 rfl B7 hb7
 have hown7 := ownsRow_keep hown (Keep.of_belowM B7) (fun x hx => by rw [List.mem_singleton] at hx; omega)
 refine lO0 rfl ⟨⟩ (o_load one_59 rfl (by first | exact S7.cell 0 rfl rfl) rfl ?_)
 refine lO0 rfl ⟨⟩ ?_
 refine o_appendS S7 slz_59 rfl rfl Tryz.underlying9 hown7 (Nat.le_trans hBw S7.size) (fun x hx => .inr (by simp [hx])) (fun b hb' x hx hh => by simp at hb'; subst hb'; cases hx; have := (ownsRow_block hown7 hh).1; omega) rfl rfl (by omega) rfl ?_
 intro A14 m14 c14 w14 hown14 S14 X14
 refine lO0 rfl ⟨⟩ ?_
 first | refine o_store (kk := 0) S14 sz_59 rfl (by conv => lhs; whnf) rfl rfl (by exact Nat.le_of_ble_eq_true rfl) ?_
 intro w2_9 S2_9 X2_9
 refine lO0 rfl ⟨⟩ (o_lenS Tryz.underlying9 rfl rfl ?_)
 refine lR0 rfl ⟨⟩ (ret_2 rfl (by conv => lhs; whnf) (by conv => lhs; whnf) ?_)
 exact ⟨⟨_, S2_9.blk 0 rfl, ownsRow_keep hown14 X2_9 (fun x hx => by rw [List.mem_singleton] at hx; omega)⟩, S2_9.below⟩
end Go.Proofs.YtgnbfmifjlnigaaGreatDoor
namespace Go.Proofs
open Go.Shelf
def Tryz.lays169_ren : Go.Shelf.Ren := ⟨fun | 169 => 47 | n => n, fun | 70 => 113 | 9 => 9 | 0 => 0 | 72 => 115 | 37 => 59 | 127 => 147 | 3 => 3 | 5 => 5 | n => n, fun | n => n⟩
theorem Tryz.lays169 : Go.Proofs.Lays.n169 Tryz.prog Tryz.lays169_ren := {
 mixed := by kernel_rfl
 f169 := Tryz.func47.trans (congrArg some (by kernel_rfl))
 t0 := Tryz.underlying0
 a0 := Tryz.isAgg0
 z0 := Tryz.sizeOf0
 v0 := Tryz.zeroValue0
 t3 := Tryz.underlying3
 a3 := Tryz.isAgg3
 z3 := Tryz.sizeOf3
 v3 := Tryz.zeroValue3
 t9 := Tryz.underlying9
 a9 := Tryz.isAgg9
 z9 := Tryz.sizeOf9
 v9 := Tryz.zeroValue9
 t37 := Tryz.underlying59
 a37 := Tryz.isAgg59
 z37 := Tryz.sizeOf59
 v37 := Tryz.zeroValue59
 t70 := Tryz.underlying113
 a70 := Tryz.isAgg113
 z70 := Tryz.sizeOf113
 v70 := Tryz.zeroValue113
 t72 := Tryz.underlying115
 a72 := Tryz.isAgg115
 z72 := Tryz.sizeOf115
 v72 := Tryz.zeroValue115
 t127 := Tryz.underlying147
 a127 := Tryz.isAgg147
 z127 := Tryz.sizeOf147
 v127 := Tryz.zeroValue147 }
theorem Tryz.Builder_Extra_169 : Builder.Extra Tryz.prog Tryz.lays169_ren := {
 sizeBuilder := by kernel_rfl
 liesBuilder := by kernel_rfl
 t5 := Tryz.underlying5
 a5 := Tryz.isAgg5
 z5 := Tryz.sizeOf5
 v5 := Tryz.zeroValue5
 infoByte := by kernel_rfl
 cellsByte := by kernel_rfl
 sizeByte := by kernel_rfl
 neB5 := by decide }
open Go.RowKit in
theorem Tryz.Builder_String_any (B b : Nat) (l : List UInt8) (w : World) (h : Lib.IsBuilder 115 5 B b (Lib.byteCells l) w) (hBw : B ≤ w.heap.size) :
 Calls Tryz.prog 47 #[.pointer (some ⟨b, 0, none⟩)] w fun e w' => e = .returned (.string ⟨l.toArray⟩) ∧ Below B w w' := Any.Builder_String_any Tryz.lays169 Tryz.Builder_Extra_169 B b l w h hBw
def Tryz.lays171_ren : Go.Shelf.Ren := ⟨fun | 171 => 48 | 243 => 74 | 246 => 104 | 283 => 126 | 284 => 127 | 285 => 128 | 286 => 129 | 129 => 153 | 317 => 152 | 318 => 154 | 319 => 155 | 320 => 156 | 337 => 164 | 338 => 165 | n => n, fun | 3 => 3 | 9 => 9 | 2 => 2 | 4 => 4 | 171 => 192 | 0 => 0 | 53 => 193 | 37 => 59 | 5 => 5 | 173 => 196 | 212 => 213 | 51 => 198 | 20 => 20 | 213 => 214 | 46 => 157 | 232 => 221 | 233 => 222 | n => n, fun | 17 => 2 | 18 => 3 | 19 => 4 | n => n⟩
theorem Tryz.lays171 : Go.Proofs.Lays.n171 Tryz.prog Tryz.lays171_ren := {
 mixed := by kernel_rfl
 f129 := Tryz.func153.trans (congrArg some (by kernel_rfl))
 f171 := Tryz.func48.trans (congrArg some (by kernel_rfl))
 f243 := Tryz.func74.trans (congrArg some (by kernel_rfl))
 f246 := Tryz.func104.trans (congrArg some (by kernel_rfl))
 f283 := Tryz.func126.trans (congrArg some (by kernel_rfl))
 f284 := Tryz.func127.trans (congrArg some (by kernel_rfl))
 f285 := Tryz.func128.trans (congrArg some (by kernel_rfl))
 f286 := Tryz.func129.trans (congrArg some (by kernel_rfl))
 f317 := Tryz.func152.trans (congrArg some (by kernel_rfl))
 f318 := Tryz.func154.trans (congrArg some (by kernel_rfl))
 f319 := Tryz.func155.trans (congrArg some (by kernel_rfl))
 f320 := Tryz.func156.trans (congrArg some (by kernel_rfl))
 f337 := Tryz.func164.trans (congrArg some (by kernel_rfl))
 f338 := Tryz.func165.trans (congrArg some (by kernel_rfl))
 t0 := Tryz.underlying0
 a0 := Tryz.isAgg0
 z0 := Tryz.sizeOf0
 v0 := Tryz.zeroValue0
 t2 := Tryz.underlying2
 a2 := Tryz.isAgg2
 z2 := Tryz.sizeOf2
 v2 := Tryz.zeroValue2
 t3 := Tryz.underlying3
 a3 := Tryz.isAgg3
 z3 := Tryz.sizeOf3
 v3 := Tryz.zeroValue3
 t4 := Tryz.underlying4
 a4 := Tryz.isAgg4
 z4 := Tryz.sizeOf4
 v4 := Tryz.zeroValue4
 t5 := Tryz.underlying5
 a5 := Tryz.isAgg5
 z5 := Tryz.sizeOf5
 v5 := Tryz.zeroValue5
 t9 := Tryz.underlying9
 a9 := Tryz.isAgg9
 z9 := Tryz.sizeOf9
 v9 := Tryz.zeroValue9
 t20 := Tryz.underlying20
 a20 := Tryz.isAgg20
 z20 := Tryz.sizeOf20
 v20 := Tryz.zeroValue20
 t37 := Tryz.underlying59
 a37 := Tryz.isAgg59
 z37 := Tryz.sizeOf59
 v37 := Tryz.zeroValue59
 t46 := Tryz.underlying157
 a46 := Tryz.isAgg157
 z46 := Tryz.sizeOf157
 v46 := Tryz.zeroValue157
 t51 := Tryz.underlying198
 a51 := Tryz.isAgg198
 z51 := Tryz.sizeOf198
 v51 := Tryz.zeroValue198
 t53 := Tryz.underlying193
 a53 := Tryz.isAgg193
 z53 := Tryz.sizeOf193
 v53 := Tryz.zeroValue193
 t171 := Tryz.underlying192
 a171 := Tryz.isAgg192
 z171 := Tryz.sizeOf192
 v171 := Tryz.zeroValue192
 t173 := Tryz.underlying196
 a173 := Tryz.isAgg196
 z173 := Tryz.sizeOf196
 v173 := Tryz.zeroValue196
 t212 := Tryz.underlying213
 a212 := Tryz.isAgg213
 z212 := Tryz.sizeOf213
 v212 := Tryz.zeroValue213
 t213 := Tryz.underlying214
 a213 := Tryz.isAgg214
 z213 := Tryz.sizeOf214
 t232 := Tryz.underlying221
 a232 := Tryz.isAgg221
 z232 := Tryz.sizeOf221
 v232 := Tryz.zeroValue221
 t233 := Tryz.underlying222
 a233 := Tryz.isAgg222
 z233 := Tryz.sizeOf222
 v233 := Tryz.zeroValue222
 g17 := by kernel_rfl
 g18 := by kernel_rfl
 g19 := by kernel_rfl }
open Go.RowKit Go.Sort Go.Lib in
theorem Tryz.strconv_Itoa_small (i : Nat) (hi : i < 100) (w : World) :
 Calls Tryz.prog 48 #[.int .i64 i] w fun e w' => e = .returned (.string ⟨(Lib.decDigits i).toArray⟩) ∧ w' = w := Any.strconv_Itoa_small Tryz.lays171 i hi w
def Tryz.lays219_ren : Go.Shelf.Ren := ⟨fun | 219 => 75 | 217 => 105 | 225 => 106 | 224 => 107 | 267 => 108 | 266 => 130 | 314 => 131 | n => n, fun | 9 => 9 | 3 => 3 | 4 => 4 | 5 => 5 | 46 => 157 | 146 => 199 | 51 => 198 | n => n, fun | 1 => 0 | n => n⟩
theorem Tryz.lays219 : Go.Proofs.Lays.n219 Tryz.prog Tryz.lays219_ren := {
 mixed := by kernel_rfl
 f217 := Tryz.func105.trans (congrArg some (by kernel_rfl))
 f219 := Tryz.func75.trans (congrArg some (by kernel_rfl))
 f224 := Tryz.func107.trans (congrArg some (by kernel_rfl))
 f225 := Tryz.func106.trans (congrArg some (by kernel_rfl))
 f266 := Tryz.func130.trans (congrArg some (by kernel_rfl))
 f267 := Tryz.func108.trans (congrArg some (by kernel_rfl))
 f314 := Tryz.func131.trans (congrArg some (by kernel_rfl))
 t3 := Tryz.underlying3
 a3 := Tryz.isAgg3
 z3 := Tryz.sizeOf3
 v3 := Tryz.zeroValue3
 t4 := Tryz.underlying4
 a4 := Tryz.isAgg4
 z4 := Tryz.sizeOf4
 v4 := Tryz.zeroValue4
 t5 := Tryz.underlying5
 a5 := Tryz.isAgg5
 z5 := Tryz.sizeOf5
 v5 := Tryz.zeroValue5
 t9 := Tryz.underlying9
 a9 := Tryz.isAgg9
 z9 := Tryz.sizeOf9
 v9 := Tryz.zeroValue9
 t46 := Tryz.underlying157
 a46 := Tryz.isAgg157
 z46 := Tryz.sizeOf157
 v46 := Tryz.zeroValue157
 t51 := Tryz.underlying198
 a51 := Tryz.isAgg198
 z51 := Tryz.sizeOf198
 v51 := Tryz.zeroValue198
 t146 := Tryz.underlying199
 a146 := Tryz.isAgg199
 z146 := Tryz.sizeOf199
 v146 := Tryz.zeroValue199
 g1 := by kernel_rfl }
open Go.RowKit Go.Lib in
theorem Tryz.stringslite_Index_one (s : ByteArray) (c : UInt8) (w : World) :
 Calls Tryz.prog 75 #[.string s, .string ⟨#[c]⟩] w fun e w' => e = .returned (.int .i64 (Lib.indexByte s.data.toList c)) ∧ w' = w := Any.stringslite_Index_one Tryz.lays219 s c w
end Go.Proofs
namespace Go.Fw
open Go.RowKit
def strL (l : List UInt8) : ByteArray := ⟨l.toArray⟩
theorem strL_size (l : List UInt8) : (strL l).size = l.length := by simp [strL, ByteArray.size]
theorem strL_toList (l : List UInt8) : (strL l).data.toList = l := by simp [strL]
theorem strL_append (a b : List UInt8) : strL a ++ strL b = strL (a ++ b) := by
 apply ByteArray.ext; simp [strL]
theorem strL_inj {a b : List UInt8} (h : strL a = strL b) : a = b := by rw [← strL_toList a, h, strL_toList]
theorem strL_get (l : List UInt8) (i : Nat) (h : i < (strL l).size) : (strL l)[i] = l[i]'(by rw [strL_size] at h; exact h) := by
 simp [strL, ByteArray.getElem_eq_getElem_data]
theorem strL_extract (l : List UInt8) (a b : Nat) : (strL l).extract a b = strL ((l.take b).drop a) := by
 apply ByteArray.ext; simp [strL, List.drop_take]
section
variable {P : Program} {r : Option Nat} {N : Nat} {D : List Deferred} {e : Env} {w w0 : World} {ops : Array Oper} {rest : List Oper} {K : List Deferred → Env → World → Prop} {L : List Ent} {M : List Nat}
variable {d : Nat} {t : TypeId} {p : String} {af : Array Edge} {x y : Operand} {xt yt : TypeId} {kd : IntKind} {C : World → Prop} {Kq : Env → Prop}
theorem run_addS {xt : TypeId} (w : World) (a b : List UInt8) (h : a.length + b.length ≤ 1000000) : (binOp .add xt (.string (strL a)) (.string (strL b))).run P w = .ok (.string (strL (a ++ b))) w := by
 have h1 : ((strL a).size : Int) ≤ 8388608 := by rw [strL_size]; omega
 have h2 : ((strL b).size : Int) ≤ 8388608 := by rw [strL_size]; omega
 simp [binOp, run_string_add w (strL a) (strL b) h1 h2, strL_append]
theorem q_addS {a b : List UInt8} (hx : ev e x = .string (strL a)) (hy : ev e y = .string (strL b)) (hs : a.length + b.length ≤ 1000000) (hd : Nat.ble (d + 1) N = true) (h : QL P N ops C rest Kq (upd e d (.string (strL (a ++ b))))) :
 QL P N ops C (⟨some d, .binOp .add xt x y yt, t, p, af, none⟩ :: rest) Kq e :=
 QL_val rfl rfl hd (fun w _ => by simp [execOp, hx, hy, eqGuard, run_addS w a b hs]) h
theorem run_sliceS {ty : TypeId} (hu : P.underlying ty = some .string) (w : World) (s : List UInt8) {lo hi : Nat} {vl vh : Option Value} (hl : (vl = none ∧ lo = 0) ∨ vl = some (.int kd (lo : Int))) (hh : (vh = none ∧ hi = s.length) ∨ vh = some (.int kd (hi : Int))) (h1 : lo ≤ hi) (h2 : hi ≤ s.length) :
 (Instr.slice ty (.string (strL s)) vl vh none).run P w = .ok (.string (strL ((s.take hi).drop lo))) w := by
 have e1 : (0 : Int) ≤ (lo : Int) ∧ (lo : Int) ≤ (hi : Int) := by omega
 have e2 : (0 : Int) ≤ (hi : Int) ∧ (hi : Int) ≤ (s.length : Int) := by omega
 have e3 : (strL s).size = s.length := strL_size s
 rcases hl with ⟨rfl, rfl⟩ | rfl <;> rcases hh with ⟨rfl, rfl⟩ | rfl <;>
  simp [Instr.slice, Instr.sliceBounds, Instr.sliceBound, asIntOf, run_underlying hu, e1, e2, e3, h1, h2, strL_extract]
theorem o_sliceS {ty : TypeId} {s : List UInt8} {lo hi : Nat} {xl xh : Option Operand} (hu : P.underlying ty = some .string) (hx : ev e x = .string (strL s)) (hl : (xl.map (ev e) = none ∧ lo = 0) ∨ xl.map (ev e) = some (.int kd (lo : Int))) (hh : (xh.map (ev e) = none ∧ hi = s.length) ∨ xh.map (ev e) = some (.int kd (hi : Int))) (h1 : lo ≤ hi) (h2 : hi ≤ s.length) (hd : Nat.ble (d + 1) N = true)
 (h : WL P r N ops rest K D (upd e d (.string (strL ((s.take hi).drop lo)))) w) : WL P r N ops (⟨some d, .slice ty x xl xh none, t, p, af, none⟩ :: rest) K D e w := by
 refine WL_val rfl rfl hd (by simp) ?_ h
 have hr := run_sliceS (P := P) (kd := kd) hu w s hl hh h1 h2
 simp only [execOp, Instr.sliceAt, Sem.run_bind, run_underlying hu, Result.andThen_ok, hx, Option.map_none, hr, Sem.run_pure]
theorem q_sliceS {ty : TypeId} {s : List UInt8} {lo hi : Nat} {xl xh : Option Operand} (hu : P.underlying ty = some .string) (hx : ev e x = .string (strL s)) (hl : (xl.map (ev e) = none ∧ lo = 0) ∨ xl.map (ev e) = some (.int kd (lo : Int))) (hh : (xh.map (ev e) = none ∧ hi = s.length) ∨ xh.map (ev e) = some (.int kd (hi : Int))) (h1 : lo ≤ hi) (h2 : hi ≤ s.length) (hd : Nat.ble (d + 1) N = true)
 (h : QL P N ops C rest Kq (upd e d (.string (strL ((s.take hi).drop lo))))) : QL P N ops C (⟨some d, .slice ty x xl xh none, t, p, af, none⟩ :: rest) Kq e := by
 refine QL_val rfl rfl hd (fun w _ => ?_) h
 have hr := run_sliceS (P := P) (kd := kd) hu w s hl hh h1 h2
 simp only [execOp, Instr.sliceAt, Sem.run_bind, run_underlying hu, Result.andThen_ok, hx, Option.map_none, hr, Sem.run_pure]
end
def decL (n : Int) : List UInt8 := Lib.decDigits n.toNat
def wordL (x : ChoiceD) : List UInt8 := if x.step = -1 then decL x.thread ++ [33] ++ decL x.cell else decL x.thread ++ [46] ++ decL x.step
def WrC (x : ChoiceD) : Prop := 0 ≤ x.thread ∧ x.thread < 4 ∧ ((x.step = -1 ∧ 0 ≤ x.cell ∧ x.cell < 32) ∨ (0 ≤ x.step ∧ x.step < 64 ∧ x.cell = 0))
instance (x : ChoiceD) : Decidable (WrC x) := by unfold WrC; infer_instance
theorem decDigits_len {n : Nat} (h : n < 100) : (Lib.decDigits n).length ≤ 2 ∧ 1 ≤ (Lib.decDigits n).length := by
 rw [Lib.decDigits]
 split
 ·simp
 ·rw [Lib.decDigits, dif_pos (by omega)]; simp
end Go.Fw
namespace Go.Proofs.YtgnbfmifjlnigaaGreatDoor
open Go.Fw Go.RowKit
theorem itoa_fn (n : Int) (h0 : 0 ≤ n) (h1 : n < 100) (w0 : World) :
 Does Tryz.prog 48 #[.int .i64 n] w0 fun v w' => v = .string (strL (decL n)) ∧ Below w0.heap.size w0 w' := by
 obtain ⟨k, rfl⟩ := Int.eq_ofNat_of_zero_le h0
 refine Calls.mono (Tryz.strconv_Itoa_small k (by omega) w0) ?_
 rintro e w' ⟨rfl, rfl⟩
 exact ⟨_, rfl, rfl, Below.refl _ _⟩
theorem writable_fn (x : ChoiceD) (w0 : World) :
 Does Tryz.prog 25 #[.agg #[.int .i64 x.thread, .int .i64 x.step, .int .i64 x.cell]] w0 fun v w' => v = .bool (decide (WrC x)) ∧ Below w0.heap.size w0 w' := by
 have S := St.refl w0
 refine dnR Tryz.func25 rfl Tryz.ntmps25 rfl ?_
 refine wO0 rfl ⟨⟩ (o_boxa S (by conv => lhs; whnf) rfl ?_)
 intro g1 w1 S1 X1 G1
 refine lO S1.k [.w 0] rfl ⟨⟨rfl,by rfl⟩,⟨⟩⟩ (o_build bld_53 (vs := []) (cs := [_, _, _]) rfl rfl rfl rfl ?_)
 refine o_eql3 eq_choice rfl rfl rfl (fun h5 => ?_) fun h5 => ?_
 ·refine lT rfl ⟨⟩ rfl ⟨congrArg Value.bool (Eq.symm ?_), S1.fin⟩
  unfold WrC
  exact decide_eq_true (by omega)
 refine lB S1.k [.o 0] rfl ⟨rfl,⟨⟩⟩ (fun h8 => ?_) fun h8 => ?_
 ·refine lT rfl ⟨⟩ rfl ⟨congrArg Value.bool (Eq.symm ?_), S1.fin⟩
  unfold WrC
  exact decide_eq_false (by omega)
 refine lB S1.k [.o 0] rfl ⟨rfl,⟨⟩⟩ (fun h12 => ?_) fun h12 => ?_
 ·refine lT rfl ⟨⟩ rfl ⟨congrArg Value.bool (Eq.symm ?_), S1.fin⟩
  unfold WrC
  exact decide_eq_false (by omega)
 refine lB S1.k [.o 0] rfl ⟨rfl,⟨⟩⟩ (fun h16 => ?_) fun h16 => ?_
 ·refine lB S1.k [.o 0] rfl ⟨rfl,⟨⟩⟩ (fun h19 => ?_) fun h19 => ?_
  ·refine lB S1.k [.o 0] rfl ⟨rfl,⟨⟩⟩ (fun h23 => ?_) fun h23 => ?_
   ·refine lT rfl ⟨⟩ rfl ⟨congrArg Value.bool (Eq.symm ?_), S1.fin⟩
    unfold WrC
    exact decide_eq_true (by omega)
   refine lT rfl ⟨⟩ rfl ⟨congrArg Value.bool (Eq.symm ?_), S1.fin⟩
   unfold WrC
   exact decide_eq_false (by omega)
  refine lT rfl ⟨⟩ rfl ⟨congrArg Value.bool (Eq.symm ?_), S1.fin⟩
  unfold WrC
  exact decide_eq_false (by omega)
 refine lB S1.k [.o 0] rfl ⟨rfl,⟨⟩⟩ (fun h27 => ?_) fun h27 => ?_
 ·refine lB S1.k [.o 0] rfl ⟨rfl,⟨⟩⟩ (fun h31 => ?_) fun h31 => ?_
  ·refine lB S1.k [.o 0] rfl ⟨rfl,⟨⟩⟩ (fun h36 => ?_) fun h36 => ?_
   ·refine lT rfl ⟨⟩ rfl ⟨congrArg Value.bool (Eq.symm ?_), S1.fin⟩
    unfold WrC
    exact decide_eq_true (by omega)
   refine lT rfl ⟨⟩ rfl ⟨congrArg Value.bool (Eq.symm ?_), S1.fin⟩
   unfold WrC
   exact decide_eq_false (by omega)
  refine lT rfl ⟨⟩ rfl ⟨congrArg Value.bool (Eq.symm ?_), S1.fin⟩
  unfold WrC
  exact decide_eq_false (by omega)
 refine lT rfl ⟨⟩ rfl ⟨congrArg Value.bool (Eq.symm ?_), S1.fin⟩
 unfold WrC
 exact decide_eq_false (by omega)
theorem word_fn (x : ChoiceD) (hx : WrC x) (w0 : World) :
 Does Tryz.prog 27 #[.agg #[.int .i64 x.thread, .int .i64 x.step, .int .i64 x.cell]] w0 fun v w' => v = .string (strL (wordL x)) ∧ Below w0.heap.size w0 w' := by
 have S := St.refl w0
 obtain ⟨_, _, _⟩ := hx
 have l1 := decDigits_len (n := x.thread.toNat) (by omega)
 refine dnR Tryz.func27 rfl Tryz.ntmps27 rfl ?_
 refine wO0 rfl ⟨⟩ (o_boxa S (by conv => lhs; whnf) rfl ?_)
 intro g1 w1 S1 X1 G1
 refine lB S1.k [.o 0] rfl ⟨rfl,⟨⟩⟩ (fun h5 => ?_) fun h5 => ?_
 ·have l2 := decDigits_len (n := x.cell.toNat) (by omega)
  have l1' : (decL x.thread).length ≤ 2 := l1.1
  have l2' : (decL x.cell).length ≤ 2 := l2.1
  refine lC0 rfl ⟨⟩ (W_draw fmx [0, 1, 2, 3, 4, 5, 6, 7, 8] [] [] (by kernel_rfl) rfl (Cl _ _ _ _) (Cl.start S1) ?_)
  refine qO S1.q [.o 0] rfl ⟨rfl,⟨⟩⟩ (q_callr has_48 rfl rfl (fun w1 S1 X1 => itoa_fn x.thread (by omega) (by omega) _) ?_)
  refine q_addS rfl rfl (by (simp; omega)) rfl ?_
  refine qO S1.q [.o 0] rfl ⟨rfl,⟨⟩⟩ (q_callr has_48 rfl rfl (fun w1 S1 X1 => itoa_fn x.cell (by omega) (by omega) _) ?_)
  refine q_addS rfl rfl (by (simp; omega)) rfl ?_
  refine qD rfl ⟨⟩ ?_
  rintro wR2 ⟨SR2, _⟩
  refine lT rfl ⟨⟩ rfl ⟨congrArg (fun l => Value.string (strL l)) (Eq.symm ?_), SR2.fin⟩
  unfold wordL
  exact if_pos h5
 have l2 := decDigits_len (n := x.step.toNat) (by omega)
 have l1' : (decL x.thread).length ≤ 2 := l1.1
 have l2' : (decL x.step).length ≤ 2 := l2.1
 refine lC0 rfl ⟨⟩ (W_draw fmx [0, 1, 2, 3, 4, 5, 6, 7, 8] [] [] (by kernel_rfl) rfl (Cl _ _ _ _) (Cl.start S1) ?_)
 refine qO S1.q [.o 0] rfl ⟨rfl,⟨⟩⟩ (q_callr has_48 rfl rfl (fun w1 S1 X1 => itoa_fn x.thread (by omega) (by omega) _) ?_)
 refine q_addS rfl rfl (by (simp; omega)) rfl ?_
 refine qO S1.q [.o 0] rfl ⟨rfl,⟨⟩⟩ (q_callr has_48 rfl rfl (fun w1 S1 X1 => itoa_fn x.step (by omega) (by omega) _) ?_)
 refine q_addS rfl rfl (by (simp; omega)) rfl ?_
 refine qD rfl ⟨⟩ ?_
 rintro wR3 ⟨SR3, _⟩
 refine lT rfl ⟨⟩ rfl ⟨congrArg (fun l => Value.string (strL l)) (Eq.symm ?_), SR3.fin⟩
 unfold wordL
 exact if_neg h5
end Go.Proofs.YtgnbfmifjlnigaaGreatDoor
namespace Go.Fw
open Go.RowKit
def joinL : List ChoiceD → List UInt8
 | [] => []
 | [x] => wordL x
 | x :: y :: l => wordL x ++ 32 :: joinL (y :: l)
theorem joinL_snoc : ∀ (l : List ChoiceD) (x : ChoiceD), joinL (l ++ [x]) = if l = [] then wordL x else joinL l ++ 32 :: wordL x
 | [], x => rfl
 | [y], x => by simp [joinL]
 | y :: z :: l, x => by
   have ih := joinL_snoc (z :: l) x
   simp only [List.cons_append, joinL] at ih ⊢
   rw [ih]; simp
theorem wordL_len {x : ChoiceD} (h : WrC x) : (wordL x).length ≤ 5 := by
 obtain ⟨_, _, _⟩ := h
 have l1 := decDigits_len (n := x.thread.toNat) (by omega)
 unfold wordL decL
 split
 ·have l2 := decDigits_len (n := x.cell.toNat) (by omega)
  simp; omega
 ·have l2 := decDigits_len (n := x.step.toNat) (by omega)
  simp; omega
theorem joinL_len : ∀ (l : List ChoiceD), (∀ x ∈ l, WrC x) → (joinL l).length ≤ 6 * l.length
 | [], _ => by simp [joinL]
 | [x], h => by have := wordL_len (h x (by simp)); simp [joinL]; omega
 | x :: y :: l, h => by
   have h1 := wordL_len (h x (by simp))
   have h2 := joinL_len (y :: l) (fun z hz => h z (by simp [hz]))
   simp only [joinL, List.length_append, List.length_cons] at h2 ⊢
   omega
theorem joinL_take_len {l : List ChoiceD} (h : ∀ x ∈ l, WrC x) (k : Nat) : (joinL (l.take k)).length ≤ 6 * l.length := by
 have := joinL_len (l.take k) (fun x hx => h x (List.mem_of_mem_take hx))
 rw [List.length_take] at this; omega
theorem strCells_L (l : List UInt8) : Lib.strCells (strL l) = Lib.byteCells l := by simp [Lib.strCells, Lib.byteCells, strL]
theorem byteCells_append (a b : List UInt8) : Lib.byteCells (a ++ b) = Lib.byteCells a ++ Lib.byteCells b := by simp [Lib.byteCells]
theorem ownsRow_base {w : World} {B B' e n : Nat} {v : Value} {xs : List Value} (h : w.ownsRow B e 1 v n xs) (hB : B' ≤ B) : w.ownsRow B' e 1 v n xs := by
 obtain ⟨h1, h2⟩ := h
 refine ⟨h1, ?_⟩
 rcases h2 with h2 | ⟨g, cap, cur, q1, q2, q3⟩
 ·exact .inl h2
 ·exact .inr ⟨g, cap, cur, q1, Nat.le_trans hB q2, q3⟩
def textC (run : List ChoiceD) : List UInt8 × Int := if 120 < run.length then ([], 2) else if ∀ x ∈ run, WrC x then (joinL run, 0) else ([], 1)
theorem indexByte_cases (l : List UInt8) (c : UInt8) : Lib.indexByte l c = -1 ∨ ∃ o : Nat, Lib.indexByte l c = o ∧ o < l.length := by
 have h := Lib.indexByte_ge l c
 by_cases h0 : 0 ≤ Lib.indexByte l c
 rotate_left
 ·exact .inl (by omega)
 ·obtain ⟨o, ho⟩ := Int.eq_ofNat_of_zero_le h0
  exact .inr ⟨o, ho, (List.getElem?_eq_some_iff.1 (Lib.indexByte_some ho).1).1⟩
def cutA (l : List UInt8) : List UInt8 := if 0 ≤ Lib.indexByte l 32 then l.take (Lib.indexByte l 32).toNat else l
def cutB (l : List UInt8) : List UInt8 := if 0 ≤ Lib.indexByte l 32 then l.drop ((Lib.indexByte l 32).toNat + 1) else []
end Go.Fw
namespace Go.Proofs.YtgnbfmifjlnigaaGreatDoor
open Go.Fw Go.RowKit
theorem sb_write {w0 w w' : World} {B g g9 t9 : Nat} {pv vb vb' : Value} {c9 : List Value} {n : Nat} {bs : List Value} (S : St [] w0 w [(some g9, t9, c9), (some g, 115, [pv, vb])]) (hown : w.ownsRow B 5 1 vb n bs) (hB : w0.heap.size ≤ B) (ht : t9 ≠ 5) (hb' : hasBlk w' (g, 115, [.pointer (some ⟨g, 0, none⟩), vb'])) (hBl : BelowB (g :: vb.ownBlock.toList) w w') :
 St [] w0 w' [(some g9, t9, c9), (some g, 115, [.pointer (some ⟨g, 0, none⟩), vb'])] := by
 have h9 := S.blk 0 rfl
 have hne : vb.ownBlock ≠ some g9 := Lib.ownBlock_ne hown (show w.heap[g9]? = some (.cells c9.toArray t9 (0, 0)) from h9) ht
 have hgg : g9 ≠ g := fun h => absurd (ent_get S.apart (i := 0) (j := 1) rfl rfl rfl (congrArg some h.symm)) (by decide)
 refine S.changed hBl (fun x hx => ?_) rfl (fun b hb x hx => ?_)
 ·rcases List.mem_cons.1 hx with rfl | hx
  ·exact S.new 1 rfl
  ·cases hv : vb.ownBlock with
   | none => rw [hv] at hx; simp at hx
   | some y =>
     rw [hv] at hx; simp at hx; subst hx
     exact .inl (Nat.le_trans hB (ownsRow_block hown hv).1)
 ·simp at hb
  rcases hb with rfl | rfl
  ·cases hx
   have hlt := h9.lt
   unfold hasBlk at h9 ⊢
   rw [hBl.block g9 hlt (fun hh => by
    rcases List.mem_cons.1 hh with h | h
    ·exact hgg h
    ·cases hv : vb.ownBlock with
     | none => rw [hv] at h; simp at h
     | some y => rw [hv] at h; simp at h; subst h; exact hne hv)]
   exact h9
  ·cases hx; exact hb'
theorem join_fn (run : List ChoiceD) (hw : ∀ x ∈ run, WrC x) (hl : run.length ≤ 1000) (M : List Nat) (w0 : World) (va : Value) (hA : RdCh M w0 va run) :
 Does Tryz.prog 26 #[va, .string ⟨#[32]⟩, .func (.func 27) #[] #[]] w0 fun v w' => v = .string (strL (joinL run)) ∧ Below w0.heap.size w0 w' := by
 obtain ⟨Aa, na, ca, rfl⟩ := hA.form
 obtain ⟨_, -, _⟩ := hA.len
 have S := St.refl w0
 refine dnR Tryz.func26 rfl Tryz.ntmps26 rfl ?_
 refine wO0 rfl ⟨⟩ (o_alloc S zv_115 rfl rfl ?_)
 intro g7 w7 S7 X7 G7
 refine lC0 rfl ⟨⟩ (wL (fun μk D ε w => D = [] ∧ ∃ k : Nat, ∃ pv : Value, ∃ vb : Value, (k + μk = (run.length)) ∧ (pv = .pointer none ∨ pv = .pointer (some ⟨g7, 0, none⟩)) ∧ (w.ownsRow w7.heap.size 5 1 vb (Lib.byteCells (joinL (run.take k))).length (Lib.byteCells (joinL (run.take k)))) ∧ (w7.heap.size ≤ w.heap.size) ∧ St [] w0 w [(some g7, 115, [pv, vb])] ∧ Sl ε [(1, .string ⟨#[32]⟩), (2, .func (.func 27) #[] #[]), (7, .pointer (some ⟨g7, 0, none⟩)), (10, .slice Aa na ca), (11, .int .i64 na), (12, .int .i64 k)]) (μ := (run.length)) ⟨rfl, 0, .pointer none, .slice none 0 0, by omega, .inl rfl, ⟨by simp [joinL, Lib.byteCells], .inl ⟨rfl, by simp [joinL, Lib.byteCells]⟩⟩, Nat.le_refl _, S7, rfl⟩ ?_)
 rintro μk D ε w ⟨rfl, k, pv, vb, _, hpv, hown, hw7, S, e⟩
 refine wK e ?_
 have KI := Keep.refl [] w
 refine wB0 rfl ⟨⟩ (fun h13 => ?_) fun h13 => ?_
 ·obtain ⟨x, b15, p15, _, hxx, hA15, _, hl15, hc15, hr15⟩ := RdS.get (hA) (k) (by omega)
  obtain ⟨rfl, _, _, _⟩ := id hr15
  have hlk := joinL_take_len hw k
  have hwx := hw x (some_mem hxx)
  have hwl := wordL_len hwx
  refine lO (S.k.a hc15) [.x b15 p15,.v 0] rfl ⟨⟨rfl,hl15⟩,⟨hA15,by omega⟩,⟨⟩⟩ (o_alloc S zv_53 rfl rfl ?_)
  intro g9 w9 S9 X9 G9
  have GKI9 := Nat.le_trans KI.size G9
  replace KI := KI.trans X9
  refine lO0 rfl ⟨⟩ (o_storeN (kk := 0) (vs := [_, _, _]) S9 sz_53 rfl rfl rfl rfl rfl rfl rfl ?_)
  intro w4_5 S4_5 X4_5
  dsimp only [setsAt, List.set] at S4_5
  replace KI := KI.fresh X4_5 (by first | exact GKI9)
  refine lB0 rfl ⟨⟩ (fun h18 => ?_) fun h18 => ?_
  ·refine lO0 rfl ⟨⟩ ?_
   have hownA := ownsRow_keep hown KI (by simp)
   refine o_call has_46 rfl rfl (writeString_fn w7.heap.size g7 (S7.lt 0 rfl) pv vb hpv _ _ (strL [32]) _ (Nat.le_trans hw7 KI.size) (S4_5.blk 1 rfl) hownA (by rw [strL_size, Lib.byteCells_length]; simp; omega)) ?_
   rintro v20 w20 ⟨⟨_, hb20, hown20⟩, B20⟩
   have S20 := sb_write S4_5 hownA S7.size (by decide) hb20 B20
   have hw20 : w7.heap.size ≤ w20.heap.size := Nat.le_trans (Nat.le_trans hw7 KI.size) B20.size
   have KI := Keep.refl [] w20
   refine lO S20.k [.w 0] rfl ⟨⟨rfl,by rfl⟩,⟨⟩⟩ (o_callvn S20 has_27 rfl rfl rfl (word_fn x hwx _) ?_)
   rintro v23 w23 rfl S23 X23
   replace KI := KI.trans X23
   obtain ⟨pv2, vb2, n2, bs2, S24a, hpv2, hown2, hB2, hbs2, hn2⟩ : ∃ (pv2 vb2 : Value) (n2 : Nat) (bs2 : List Value), St [] w0 w23 [_, (some g7, 115, [pv2, vb2])] ∧ (pv2 = .pointer none ∨ pv2 = .pointer (some ⟨g7, 0, none⟩)) ∧ w23.ownsRow w7.heap.size 5 1 vb2 n2 bs2 ∧ w7.heap.size ≤ w23.heap.size ∧ bs2 = Lib.byteCells (if k = 0 then [] else joinL (run.take k) ++ [32]) ∧ n2 ≤ 6 * run.length + 1 := by
    exact ⟨_, _, _, _, S23, .inr rfl, ownsRow_keep hown20 KI (by simp), Nat.le_trans hw20 KI.size, by rw [if_neg (by omega), byteCells_append, strCells_L], by rw [strL_size, Lib.byteCells_length]; simp; omega⟩
   refine o_call has_46 rfl rfl (writeString_fn w7.heap.size g7 (S7.lt 0 rfl) pv2 vb2 hpv2 _ _ (strL (wordL x)) _ hB2 (S24a.blk 1 rfl) hown2 (by rw [strL_size]; omega)) ?_
   rintro v24 w24 ⟨⟨vb24, hb24, hown24⟩, B24⟩
   have S24 := sb_write S24a hown2 S7.size (by decide) hb24 B24
   refine lP0 rfl ⟨by omega,⟨⟩⟩ ⟨μk - 1, by omega, rfl, (k + 1), (_), (_), (by omega), (.inr rfl), ?_, (Nat.le_trans hB2 B24.size), S24.tail, rfl⟩
   have hbb : bs2 ++ Lib.strCells (strL (wordL x)) = Lib.byteCells (joinL (run.take (k + 1))) := by
    rw [hbs2, strCells_L, ← byteCells_append, take_some hxx, joinL_snoc]
    by_cases hk0 : k = 0
    ·rw [if_pos hk0, if_pos (by rw [hk0]; simp)]; rfl
    ·rw [if_neg hk0, if_neg (fun h => by have := congrArg List.length h; rw [List.length_take, List.length_nil] at this; omega)]
     simp
   rw [← hbb]
   have hnn := hown24.1
   rw [Nat.mul_one] at hnn
   rw [hnn]; exact hown24
  refine lO S4_5.k [.w 0] rfl ⟨⟨rfl,by rfl⟩,⟨⟩⟩ (o_callvn S4_5 has_27 rfl rfl rfl (word_fn x hwx _) ?_)
  rintro v23 w23 rfl S23 X23
  replace KI := KI.trans X23
  obtain ⟨pv2, vb2, n2, bs2, S24a, hpv2, hown2, hB2, hbs2, hn2⟩ : ∃ (pv2 vb2 : Value) (n2 : Nat) (bs2 : List Value), St [] w0 w23 [_, (some g7, 115, [pv2, vb2])] ∧ (pv2 = .pointer none ∨ pv2 = .pointer (some ⟨g7, 0, none⟩)) ∧ w23.ownsRow w7.heap.size 5 1 vb2 n2 bs2 ∧ w7.heap.size ≤ w23.heap.size ∧ bs2 = Lib.byteCells (if k = 0 then [] else joinL (run.take k) ++ [32]) ∧ n2 ≤ 6 * run.length + 1 := by
   exact ⟨_, _, _, _, S23, hpv, ownsRow_keep hown KI (by simp), Nat.le_trans hw7 KI.size, by rw [if_pos (by omega), show k = 0 by omega]; rfl, by rw [Lib.byteCells_length]; omega⟩
  refine o_call has_46 rfl rfl (writeString_fn w7.heap.size g7 (S7.lt 0 rfl) pv2 vb2 hpv2 _ _ (strL (wordL x)) _ hB2 (S24a.blk 1 rfl) hown2 (by rw [strL_size]; omega)) ?_
  rintro v24 w24 ⟨⟨vb24, hb24, hown24⟩, B24⟩
  have S24 := sb_write S24a hown2 S7.size (by decide) hb24 B24
  refine lP0 rfl ⟨by omega,⟨⟩⟩ ⟨μk - 1, by omega, rfl, (k + 1), (_), (_), (by omega), (.inr rfl), ?_, (Nat.le_trans hB2 B24.size), S24.tail, rfl⟩
  have hbb : bs2 ++ Lib.strCells (strL (wordL x)) = Lib.byteCells (joinL (run.take (k + 1))) := by
   rw [hbs2, strCells_L, ← byteCells_append, take_some hxx, joinL_snoc]
   by_cases hk0 : k = 0
   ·rw [if_pos hk0, if_pos (by rw [hk0]; simp)]; rfl
   ·rw [if_neg hk0, if_neg (fun h => by have := congrArg List.length h; rw [List.length_take, List.length_nil] at this; omega)]
    simp
  rw [← hbb]
  have hnn := hown24.1
  rw [Nat.mul_one] at hnn
  rw [hnn]; exact hown24
 refine lO0 rfl ⟨⟩ ?_
 obtain rfl : k = run.length := by omega
 rw [List.take_length] at hown
 have hIB : Lib.IsBuilder 115 5 w0.heap.size g7 (Lib.byteCells (joinL run)) w := by
  have hbk : w.heap[g7]? = some (.cells #[pv, vb] 115 (0, 0)) := S.blk 0 rfl
  have hne : vb.ownBlock ≠ some g7 := Lib.ownBlock_ne hown hbk (by decide)
  rcases hpv with rfl | rfl
  ·exact .inl ⟨by simpa using S.new 0 rfl, vb, hbk, ownsRow_base hown S7.size, hne⟩
  ·exact .inr ⟨by simpa using S.new 0 rfl, vb, hbk, ownsRow_base hown S7.size, hne⟩
 refine o_call (R := fun v w' => v = .string (strL (joinL run)) ∧ Below w0.heap.size w w') has_47 rfl rfl (Calls.mono (Tryz.Builder_String_any w0.heap.size g7 (joinL run) w hIB S.size) (fun e w' h => ⟨_, h.1, rfl, h.2⟩)) ?_
 rintro v26 w26 ⟨rfl, hB26⟩
 exact lT rfl ⟨⟩ rfl ⟨rfl, S.fin.trans hB26⟩
theorem text_fn (run : List ChoiceD) (M : List Nat) (w0 : World) (va : Value) (hA : RdCh M w0 va run) :
 Does Tryz.prog 9 #[va] w0 fun v w' => v = .tuple #[.string (strL (textC run).1), .int .i64 (textC run).2] ∧ Below w0.heap.size w0 w' := by
 obtain ⟨Aa, na, ca, rfl⟩ := hA.form
 obtain ⟨_, -, _⟩ := hA.len
 have S := St.refl w0
 refine dnR Tryz.func9 rfl Tryz.ntmps9 rfl ?_
 refine wB0 rfl ⟨⟩ (fun h8 => ?_) fun h8 => ?_
 ·refine lR0 rfl ⟨⟩ (ret_2 rfl (by conv => lhs; whnf) (by conv => lhs; whnf) ?_)
  unfold textC
  rw [if_pos (show 120 < run.length by omega)]; exact ⟨rfl, S.fin⟩
 refine lC0 rfl ⟨⟩ (wL (fun μk D ε w => D = [] ∧ ∃ k : Nat, (k + μk = (run.length)) ∧ (AllTo (run) k (fun x => WrC x)) ∧ St [] w0 w [] ∧ Sl ε [(0, .slice Aa na ca), (9, .slice Aa na ca), (10, .int .i64 na), (11, .int .i64 k)]) (μ := (run.length)) ⟨rfl, 0, by omega, AllTo.zero, S, rfl⟩ ?_)
 rintro μk D ε w ⟨rfl, k, _, hw, S, e⟩
 refine wK e (wB0 rfl ⟨⟩ (fun h12 => ?_) fun h12 => ?_)
 ·obtain ⟨x, b13, p13, _, hxx, hA13, _, hl13, hc13, hr13⟩ := RdS.get (hA) (k) (by omega)
  obtain ⟨rfl, _, _, _⟩ := id hr13
  refine lO (S.k.a hc13) [.x b13 p13,.v 0] rfl ⟨⟨rfl,hl13⟩,⟨hA13,by omega⟩,⟨⟩⟩ (o_alloc S zv_53 rfl rfl ?_)
  intro g5 w5 S5 X5 G5
  first | refine o_storeN (kk := 0) (vs := [_, _, _]) S5 sz_53 rfl rfl rfl rfl rfl rfl rfl ?_
  intro w5_3 S5_3 X5_3
  dsimp only [setsAt, List.set] at S5_3
  refine lO S5_3.k [.w 0] rfl ⟨⟨rfl,by rfl⟩,⟨⟩⟩ (o_callb S5_3 has_25 rfl rfl (writable_fn x _) (fun h16 w16 S16 X16 => ?_) (fun h16 w16 S16 X16 => ?_))
  ·refine lP0 rfl ⟨by omega,⟨⟩⟩ ⟨μk - 1, by omega, rfl, (k + 1), (by omega), (hw.succ hxx (of_decide_eq_true h16)), S16.tail, rfl⟩
  refine lR0 rfl ⟨⟩ (ret_2 rfl (by conv => lhs; whnf) (by conv => lhs; whnf) ?_)
  unfold textC
  rw [if_neg (show ¬ 120 < run.length by omega), if_neg (fun h => of_decide_eq_false h16 (h x (some_mem hxx)))]; exact ⟨rfl, S16.fin⟩
 refine lO0 rfl ⟨⟩ (o_callr S has_26 rfl rfl (join_fn run (hw.all (by omega)) (by omega) M _ _ (hA.keep (S.keep0 M))) ?_)
 intro w20 S20 X20
 refine lR0 rfl ⟨⟩ (ret_2 rfl (by conv => lhs; whnf) (by conv => lhs; whnf) ?_)
 unfold textC
 rw [if_neg (show ¬ 120 < run.length by omega), if_pos (hw.all (by omega))]; exact ⟨rfl, S20.fin⟩
theorem has_75 : Has Tryz.prog 75 := has_of Tryz.func75 (by kernel_rfl) rfl
theorem has_49 : Has Tryz.prog 49 := has_of Tryz.func49 (by kernel_rfl) rfl
theorem index1_fn (l : List UInt8) (w0 : World) :
 Does Tryz.prog 75 #[.string (strL l), .string ⟨#[32]⟩] w0 fun v w' => v = .int .i64 (Lib.indexByte l 32) ∧ Below w0.heap.size w0 w' := by
 refine Calls.mono (Tryz.stringslite_Index_one (strL l) 32 w0) ?_
 rintro e w' ⟨rfl, rfl⟩
 exact ⟨_, rfl, by rw [strL_toList], Below.refl _ _⟩
theorem cut0_fn (l : List UInt8) (hl : l.length ≤ 100000) (w0 : World) :
 Does Tryz.prog 49 #[.string (strL l), .string ⟨#[32]⟩] w0 fun v w' => v = .tuple #[.string (strL (cutA l)), .string (strL (cutB l)), .bool (decide (0 ≤ Lib.indexByte l 32))] ∧ Below w0.heap.size w0 w' := by
 have S := St.refl w0
 have hcs := indexByte_cases l 32
 refine dnR Tryz.func49 rfl Tryz.ntmps49 rfl ?_
 refine wO0 rfl ⟨⟩ (o_callr S has_75 rfl rfl (index1_fn l _) ?_)
 intro w10 S10 X10
 refine lB0 rfl ⟨⟩ (fun h12 => ?_) fun h12 => ?_
 ·obtain ⟨o, ho, _⟩ := hcs.resolve_left (by omega)
  have e19 : (ByteArray.mk #[32]).size = 1 := rfl
  refine lC0 rfl ⟨⟩ (W_draw fmx [0, 1, 2, 3, 4, 5, 6, 7, 8, 9, 10, 11] [] [] (by kernel_rfl) rfl (Cl _ _ _ _) (Cl.start S10) ?_)
  refine qO0 rfl ⟨⟩ ?_
  refine q_sliceS (kd := .i64) (lo := 0) (hi := o) Tryz.underlying9 rfl (.inl ⟨rfl, rfl⟩) (.inr (by rw [← ho]; rfl)) (by omega) (by omega) rfl ?_
  refine qO0 rfl ⟨⟩ (q_lenS Tryz.underlying9 rfl rfl ?_)
  refine qO0 rfl ⟨by omega,⟨⟩⟩ ?_
  refine q_sliceS (kd := .i64) (lo := o + 1) (hi := l.length) Tryz.underlying9 rfl (.inr (by rw [show ((o + 1 : Nat) : Int) = Lib.indexByte l 32 + 1 by omega]; rfl)) (.inl ⟨rfl, rfl⟩) (by omega) (by omega) rfl ?_
  refine qD rfl ⟨⟩ ?_
  rintro wR3 ⟨SR3, _⟩
  refine lR0 rfl ⟨⟩ (ret_3 rfl (by conv => lhs; whnf) (by conv => lhs; whnf) (by conv => lhs; whnf) ?_)
  unfold cutA cutB
  rw [if_pos (show 0 ≤ Lib.indexByte l 32 by omega), if_pos (show 0 ≤ Lib.indexByte l 32 by omega), decide_eq_true (show 0 ≤ Lib.indexByte l 32 by omega), show (Lib.indexByte l 32).toNat = o by omega]
  refine ⟨?_, SR3.fin⟩
  simp
 refine lR0 rfl ⟨⟩ (ret_3 rfl (by conv => lhs; whnf) (by conv => lhs; whnf) (by conv => lhs; whnf) ?_)
 unfold cutA cutB
 rw [if_neg (show ¬ 0 ≤ Lib.indexByte l 32 by omega), if_neg (show ¬ 0 ≤ Lib.indexByte l 32 by omega), decide_eq_false (show ¬ 0 ≤ Lib.indexByte l 32 by omega)]
 exact ⟨rfl, S10.fin⟩
theorem cut_fn (l : List UInt8) (hl : l.length ≤ 100000) (w0 : World) :
 Does Tryz.prog 28 #[.string (strL l), .string ⟨#[32]⟩] w0 fun v w' => v = .tuple #[.string (strL (cutA l)), .string (strL (cutB l)), .bool (decide (0 ≤ Lib.indexByte l 32))] ∧ Below w0.heap.size w0 w' := by
 have S := St.refl w0
 refine dnR Tryz.func28 rfl Tryz.ntmps28 rfl ?_
 refine wO0 rfl ⟨⟩ (o_callr S has_49 rfl rfl (cut0_fn l hl _) ?_)
 intro w9 S9 X9
 refine lR0 rfl ⟨⟩ (ret_3 rfl (by conv => lhs; whnf) (by conv => lhs; whnf) (by conv => lhs; whnf) ?_)
 exact ⟨rfl, S9.fin⟩
end Go.Proofs.YtgnbfmifjlnigaaGreatDoor
namespace Go.Fw
open Go.RowKit
theorem W_scope {P : Program} {N : Nat} {c : Code} {n t : List Deferred → Env → World → Prop} {b : Nat → List Deferred → Env → World → Prop} {D : List Deferred} {e : Env} {w : World} (h : W P none N c ⟨n, b, t⟩ D e w) : W P none N (.scope c) ⟨n, b, t⟩ D e w := by
 unfold W at *; intro a hs hd he
 have h1 := h a hs hd he
 rw [fc_none] at h1 ⊢
 refine wpIn_wide.2 (wp_scope_straight (wpIn_wide.1 (wpIn_mono h1 fun ex a w hq => ?_)))
 cases ex <;> exact hq
section
variable {P : Program} {r : Option Nat} {N : Nat} {D : List Deferred} {e : Env} {w w0 : World} {ops : Array Oper} {rest : List Oper} {K : List Deferred → Env → World → Prop} {L : List Ent} {M : List Nat}
variable {d : Nat} {t : TypeId} {p : String} {af : Array Edge} {x y : Operand} {xt yt : TypeId} {kd : IntKind}
theorem o_indexL {ty : TypeId} {l : List UInt8} {k : Nat} {b : UInt8} (hT : P.underlying ty = some .string) (hx : ev e x = .string (strL l)) (hy : ev e y = .int kd (k : Int)) (hb : l[k]? = some b) (hd : Nat.ble (d + 1) N = true)
 (h : WL P r N ops rest K D (upd e d (.int .u8 b.toNat)) w) : WL P r N ops (⟨some d, .index ty x y, t, p, af, none⟩ :: rest) K D e w := by
 obtain ⟨hlt, rfl⟩ := List.getElem?_eq_some_iff.1 hb
 refine o_indexS hT hx hy (by omega) (by rw [strL_size]; simpa using hlt) hd ?_
 simp only [strL_get, Int.toNat_natCast]
 exact h
theorem o_subU {a b : Int} (hx : ev e x = .int .u8 a) (hy : ev e y = .int .u8 b) (h0 : b ≤ a) (h1 : a ≤ 255) (h2 : 0 ≤ b) (hd : Nat.ble (d + 1) N = true) (h : WL P r N ops rest K D (upd e d (.int .u8 (a - b))) w) :
 WL P r N ops (⟨some d, .binOp .sub xt x y yt, t, p, af, none⟩ :: rest) K D e w := by
 have hw : IntKind.u8.wrap (a - b) = a - b := by simp [IntKind.wrap, IntKind.signed, IntKind.bits]; omega
 exact WL_val rfl rfl hd (by simp) (by simp [execOp, hx, hy, eqGuard, binOp, Op.intArith, hw]) h
end
def isDig (b : UInt8) : Prop := 48 ≤ b.toNat ∧ b.toNat ≤ 57
instance (b : UInt8) : Decidable (isDig b) := by unfold isDig; infer_instance
def valL (l : List UInt8) : Int := l.foldl (fun n b => 10 * n + ((b.toNat : Int) - 48)) 0
theorem valL_snoc (l : List UInt8) (b : UInt8) : valL (l ++ [b]) = 10 * valL l + ((b.toNat : Int) - 48) := by unfold valL; rw [List.foldl_append]; rfl
def numOk (l : List UInt8) : Prop := l.length = 1 ∨ (l.length = 2 ∧ l[0]? ≠ some 48)
instance (l : List UInt8) : Decidable (numOk l) := by unfold numOk; infer_instance
def numN (l : List UInt8) : Int := if numOk l then valL l else 0
theorem valL_range {l : List UInt8} (hd : ∀ b ∈ l, isDig b) : ∀ k, k ≤ 2 → 0 ≤ valL (l.take k) ∧ valL (l.take k) ≤ 99
 | 0, _ => by simp [valL]
 | 1, _ => by
   cases l with
   | nil => simp [valL]
   | cons a l => have := hd a (by simp); unfold isDig at this; simp [valL]; omega
 | 2, _ => by
   cases l with
   | nil => simp [valL]
   | cons a l =>
     have h1 := hd a (by simp)
     unfold isDig at h1
     cases l with
     | nil => simp [valL]; omega
     | cons b l => have h2 := hd b (by simp); unfold isDig at h2; simp [valL]; omega
theorem u8_eq {b : UInt8} {n : Nat} (hn : n < 256 := by decide) (h : (b.toNat : Int) = n) : b = UInt8.ofNat n := by
 apply UInt8.toNat_inj.1
 rw [UInt8.toNat_ofNat_of_lt' hn]
 omega
section
variable {l : List UInt8} {b0 : UInt8} {n : Int}
theorem num_fail (h : ¬ numOk l) : Value.tuple #[.int .i64 0, .bool false] = .tuple #[.int .i64 (numN l), .bool (decide (numOk l))] := by rw [numN, if_neg h, decide_eq_false h]
theorem num_good (h : numOk l) (hn : n = valL l) : Value.tuple #[.int .i64 n, .bool true] = .tuple #[.int .i64 (numN l), .bool (decide (numOk l))] := by rw [numN, if_pos h, decide_eq_true h, hn]
theorem num_no1 (h : ((strL l).size : Int) = 0) : ¬ numOk l := by rw [strL_size] at h; unfold numOk; omega
theorem num_no2 (h : (2 : Int) < ((strL l).size : Int)) : ¬ numOk l := by rw [strL_size] at h; unfold numOk; omega
theorem num_no3 (hb : l[0]? = some b0) (h : (b0.toNat : Int) = 48) (h17 : ((strL l).size : Int) = 2) : ¬ numOk l := by
 rw [strL_size] at h17
 have := u8_eq (n := 48) (by decide) h
 rintro (h1 | ⟨_, h1⟩)
 ·omega
 ·exact h1 (by rw [hb, this]; rfl)
theorem num_ok1 (h8 : ¬ ((strL l).size : Int) = 0) (h12 : ((strL l).size : Int) ≤ 2) (h17 : ¬ ((strL l).size : Int) = 2) : numOk l := by rw [strL_size] at h8 h12 h17; exact .inl (by omega)
theorem num_ok2 (h17 : ((strL l).size : Int) = 2) (hb : l[0]? = some b0) (h : ¬ (b0.toNat : Int) = 48) : numOk l := by
 rw [strL_size] at h17
 exact .inr ⟨by omega, fun h1 => h (by rw [hb] at h1; cases h1; rfl)⟩
end
def choiceX (l : List UInt8) (k : Nat) : ChoiceD := if l[k]? = some 33 then ⟨numN (l.take k), -1, numN (l.drop (k + 1))⟩ else ⟨numN (l.take k), numN (l.drop (k + 1)), 0⟩
def choiceOk (l : List UInt8) (k : Nat) : Prop := numOk (l.take k) ∧ numOk (l.drop (k + 1)) ∧ WrC (choiceX l k)
instance (l : List UInt8) (k : Nat) : Decidable (choiceOk l k) := by unfold choiceOk; infer_instance
theorem choice_dec {l : List UInt8} {k : Nat} (h1 : numOk (l.take k)) (h2 : numOk (l.drop (k + 1))) : decide (choiceOk l k) = decide (WrC (choiceX l k)) := decide_eq_decide.2 ⟨fun h => h.2.2, fun h => ⟨h1, h2, h⟩⟩
end Go.Fw
namespace Go.Proofs.YtgnbfmifjlnigaaGreatDoor
open Go.Fw Go.RowKit
theorem number_fn (l : List UInt8) (hdg : ∀ b ∈ l, isDig b) (hl : l.length ≤ 100000) (w0 : World) :
 Does Tryz.prog 50 #[.string (strL l)] w0 fun v w' => v = .tuple #[.int .i64 (numN l), .bool (decide (numOk l))] ∧ Below w0.heap.size w0 w' := by
 have S := St.refl w0
 have hsz := strL_size l
 refine dnR Tryz.func50 rfl Tryz.ntmps50 rfl ?_
 refine wO0 rfl ⟨⟩ (o_lenS Tryz.underlying9 rfl rfl ?_)
 refine lB0 rfl ⟨⟩ (fun h8 => ?_) fun h8 => ?_
 ·refine lR0 rfl ⟨⟩ (ret_2 rfl (by conv => lhs; whnf) (by conv => lhs; whnf) ?_)
  refine ⟨?_, S.fin⟩
  exact num_fail (num_no1 h8)
 refine lO0 rfl ⟨⟩ (o_lenS Tryz.underlying9 rfl rfl ?_)
 refine lB0 rfl ⟨⟩ (fun h12 => ?_) fun h12 => ?_
 ·refine lR0 rfl ⟨⟩ (ret_2 rfl (by conv => lhs; whnf) (by conv => lhs; whnf) ?_)
  refine ⟨?_, S.fin⟩
  exact num_fail (num_no2 h12)
 refine lO0 rfl ⟨⟩ (o_lenS Tryz.underlying9 rfl rfl ?_)
 refine lB0 rfl ⟨⟩ (fun h17 => ?_) fun h17 => ?_
 ·refine lO0 rfl ⟨⟩ ?_
  obtain ⟨b0, hb0⟩ : ∃ b, l[0]? = some b := ⟨l[0]'(by omega), List.getElem?_eq_getElem _⟩
  refine o_indexL (k := 0) Tryz.underlying9 rfl rfl hb0 rfl ?_
  refine lB0 rfl ⟨⟩ (fun h21 => ?_) fun h21 => ?_
  ·refine lR0 rfl ⟨⟩ (ret_2 rfl (by conv => lhs; whnf) (by conv => lhs; whnf) ?_)
   refine ⟨?_, S.fin⟩
   exact num_fail (num_no3 hb0 h21 h17)
  refine lO0 rfl ⟨⟩ (o_lenS Tryz.underlying9 rfl rfl ?_)
  refine lC0 rfl ⟨⟩ (wL (fun μk D ε w => D = [] ∧ ∃ k : Nat, ∃ n : Int, (k + μk = (l.length)) ∧ (n = valL (l.take k)) ∧ St [] w0 w [] ∧ Sl ε [(0, .string (strL l)), (4, .int .i64 n), (25, .int .i64 (strL l).size), (26, .int .i64 k)]) (μ := (l.length)) ⟨rfl, 0, 0, by omega, by simp [valL], S, rfl⟩ ?_)
  rintro μk D ε w ⟨rfl, k, n, hk, hn, S, e⟩
  refine wK e (wB0 rfl ⟨⟩ (fun h27 => ?_) fun h27 => ?_)
  ·obtain ⟨b, hb⟩ : ∃ b, l[k]? = some b := ⟨l[k]'(by omega), List.getElem?_eq_getElem _⟩
   have hbd := hdg b (some_mem hb)
   unfold isDig at hbd
   have hvr := valL_range hdg k (by omega)
   refine lO0 rfl ⟨by omega,⟨⟩⟩ (o_indexL (k := k) Tryz.underlying9 rfl rfl hb rfl ?_)
   refine o_subU rfl rfl (by omega) (by omega) (by omega) rfl ?_
   refine o_convI Tryz.underlying5 Tryz.underlying3 rfl rfl ?_
   rw [wrap_id (by unfold i64; omega)]
   refine lP0 rfl ⟨by omega,by omega,⟨⟩⟩ ⟨μk - 1, by omega, rfl, (k + 1), (_), (by omega), (by rw [take_some hb, valL_snoc, ← hn]), S, rfl⟩
  refine lR0 rfl ⟨⟩ (ret_2 rfl (by conv => lhs; whnf) (by conv => lhs; whnf) ?_)
  refine ⟨?_, S.fin⟩
  rw [List.take_of_length_le (Int.ofNat_le.1 (hsz ▸ h27))] at hn
  exact num_good (num_ok2 h17 hb0 h21) hn
 refine lO0 rfl ⟨⟩ (o_lenS Tryz.underlying9 rfl rfl ?_)
 refine lC0 rfl ⟨⟩ (wL (fun μk D ε w => D = [] ∧ ∃ k : Nat, ∃ n : Int, (k + μk = (l.length)) ∧ (n = valL (l.take k)) ∧ St [] w0 w [] ∧ Sl ε [(0, .string (strL l)), (4, .int .i64 n), (25, .int .i64 (strL l).size), (26, .int .i64 k)]) (μ := (l.length)) ⟨rfl, 0, 0, by omega, by simp [valL], S, rfl⟩ ?_)
 rintro μk D ε w ⟨rfl, k, n, hk, hn, S, e⟩
 refine wK e (wB0 rfl ⟨⟩ (fun h27 => ?_) fun h27 => ?_)
 ·obtain ⟨b, hb⟩ : ∃ b, l[k]? = some b := ⟨l[k]'(by omega), List.getElem?_eq_getElem _⟩
  have hbd := hdg b (some_mem hb)
  unfold isDig at hbd
  have hvr := valL_range hdg k (by omega)
  refine lO0 rfl ⟨by omega,⟨⟩⟩ (o_indexL (k := k) Tryz.underlying9 rfl rfl hb rfl ?_)
  refine o_subU rfl rfl (by omega) (by omega) (by omega) rfl ?_
  refine o_convI Tryz.underlying5 Tryz.underlying3 rfl rfl ?_
  rw [wrap_id (by unfold i64; omega)]
  refine lP0 rfl ⟨by omega,by omega,⟨⟩⟩ ⟨μk - 1, by omega, rfl, (k + 1), (_), (by omega), (by rw [take_some hb, valL_snoc, ← hn]), S, rfl⟩
 refine lR0 rfl ⟨⟩ (ret_2 rfl (by conv => lhs; whnf) (by conv => lhs; whnf) ?_)
 refine ⟨?_, S.fin⟩
 rw [List.take_of_length_le (Int.ofNat_le.1 (hsz ▸ h27))] at hn
 exact num_good (num_ok1 h8 h12 h17) hn
theorem choice_fn (l : List UInt8) (k : Nat) (mk : UInt8) (hk : l[k]? = some mk) (h1 : ∀ b ∈ l.take k, isDig b) (h2 : ∀ b ∈ l.drop (k + 1), isDig b) (hl : l.length ≤ 100000) (w0 : World) :
 Does Tryz.prog 29 #[.string (strL l), .int .i64 k] w0 fun v w' => (∃ x : ChoiceD, v = .tuple #[.agg #[.int .i64 x.thread, .int .i64 x.step, .int .i64 x.cell], .bool (decide (choiceOk l k))] ∧ (choiceOk l k → x = choiceX l k)) ∧ Below w0.heap.size w0 w' := by
 have S := St.refl w0
 have hsz := strL_size l
 have hlt := some_lt hk
 have r1 := valL_range h1 2 (by omega)
 have r2 := valL_range h2 2 (by omega)
 refine dnR Tryz.func29 rfl Tryz.ntmps29 rfl ?_
 refine wO0 rfl ⟨⟩ (o_alloc S zv_53 rfl rfl ?_)
 intro g4 w4 S4 X4 G4
 refine lO0 rfl ⟨⟩ (o_sliceS (kd := .i64) (lo := 0) (hi := k) Tryz.underlying9 rfl (.inl ⟨rfl, rfl⟩) (.inr rfl) (by omega) (by omega) rfl ?_)
 rw [List.drop_zero]
 refine o_callr S4 has_50 rfl rfl (number_fn (l.take k) h1 (by rw [List.length_take]; omega) _) ?_
 intro w14 S14 X14
 refine lOn 2 S14.k [] rfl ⟨⟩ ?_
 cases hb16 : decide (numOk (l.take k))
 ·refine o_extract rfl rfl rfl ?_
  refine lO0 rfl ⟨⟩ (o_build bld_53 (vs := []) (cs := [_, _, _]) rfl rfl rfl rfl ?_)
  first | refine o_storeN (kk := 0) (vs := [_, _, _]) S14 sz_53 rfl rfl rfl rfl rfl rfl rfl ?_
  intro w3_1 S3_1 X3_1
  dsimp only [setsAt, List.set] at S3_1
  refine lR0 rfl ⟨⟩ ?_
  have hfin := S3_1.fin
  have hno : ¬ choiceOk l k := fun h => of_decide_eq_false hb16 h.1
  exact ret_cell_tmp (n := 3) rfl many_53 rfl (S3_1.cells 0 rfl) rfl rfl ⟨⟨⟨0, 0, 0⟩, (show Value.tuple #[.agg #[.int .i64 0, .int .i64 0, .int .i64 0], .bool false] = _ by rw [decide_eq_false hno]), fun h => absurd h hno⟩, hfin⟩
 refine o_extract rfl rfl rfl ?_
 refine lO0 rfl ⟨by omega,⟨⟩⟩ ?_
 refine o_sliceS (kd := .i64) (lo := k + 1) (hi := l.length) Tryz.underlying9 rfl (.inr (by rw [show ((k + 1 : Nat) : Int) = (k : Int) + 1 by omega]; rfl)) (.inl ⟨rfl, rfl⟩) (by omega) (by omega) rfl ?_
 rw [List.take_length]
 refine o_callr S14 has_50 rfl rfl (number_fn (l.drop (k + 1)) h2 (by rw [List.length_drop]; omega) _) ?_
 intro w25 S25 X25
 refine lOn 2 S25.k [] rfl ⟨⟩ ?_
 cases hb27 : decide (numOk (l.drop (k + 1)))
 ·refine o_extract rfl rfl rfl ?_
  refine lO0 rfl ⟨⟩ (o_build bld_53 (vs := []) (cs := [_, _, _]) rfl rfl rfl rfl ?_)
  first | refine o_storeN (kk := 0) (vs := [_, _, _]) S25 sz_53 rfl rfl rfl rfl rfl rfl rfl ?_
  intro w6_1 S6_1 X6_1
  dsimp only [setsAt, List.set] at S6_1
  refine lR0 rfl ⟨⟩ ?_
  have hfin := S6_1.fin
  have hno : ¬ choiceOk l k := fun h => of_decide_eq_false hb27 h.2.1
  exact ret_cell_tmp (n := 3) rfl many_53 rfl (S6_1.cells 0 rfl) rfl rfl ⟨⟨⟨0, 0, 0⟩, (show Value.tuple #[.agg #[.int .i64 0, .int .i64 0, .int .i64 0], .bool false] = _ by rw [decide_eq_false hno]), fun h => absurd h hno⟩, hfin⟩
 refine o_extract rfl rfl rfl ?_
 refine lO0 rfl ⟨⟩ (o_build bld_53 (vs := [(0, .int .i64 _), (1, .int .i64 _)]) (cs := [_, _, _]) rfl rfl rfl rfl ?_)
 refine o_alloc S25 zv_53 rfl rfl ?_
 intro g9 w9 S9 X9 G9
 refine o_storeN (kk := 0) (vs := [_, _, _]) S9 sz_53 rfl rfl rfl rfl rfl rfl rfl ?_
 intro w7_4 S7_4 X7_4
 dsimp only [setsAt, List.set] at S7_4
 refine lO0 rfl ⟨⟩ (o_indexL (k := k) Tryz.underlying9 rfl rfl hk rfl ?_)
 refine lB0 rfl ⟨⟩ (fun h37 => ?_) fun h37 => ?_
 ·refine lO0 rfl ⟨⟩ (o_build bld_53 (vs := [(0, .int .i64 _), (1, .int .i64 _), (2, .int .i64 _)]) (cs := [_, _, _]) rfl rfl rfl rfl ?_)
  refine o_storeN (kk := 0) (vs := [_, _, _]) S7_4 sz_53 rfl rfl rfl rfl rfl rfl rfl ?_
  intro w9_3 S9_3 X9_3
  dsimp only [setsAt, List.set] at S9_3
  refine lC0 rfl ⟨⟩ (W_draw fmx [0, 1, 2] [] [3, 4] (by kernel_rfl) rfl (Cl _ _ _ _) (Cl.start S9_3) ?_)
  refine qO S9_3.q [.w 0,.w 0] rfl ⟨⟨rfl,by rfl⟩,⟨rfl,by rfl⟩,⟨⟩⟩ (q_callr has_25 rfl rfl (fun w1 S1 X1 => writable_fn ⟨_, _, _⟩ _) ?_)
  refine qD rfl ⟨⟩ ?_
  rintro wR10 ⟨SR10, XR10⟩
  first | refine o_storeN (kk := 1) (vs := [_, _, _]) SR10 sz_53 rfl rfl rfl rfl rfl rfl rfl ?_
  intro w10_3 S10_3 X10_3
  dsimp only [setsAt, List.set] at S10_3
  refine lR0 rfl ⟨⟩ ?_
  have hfin := S10_3.fin
  have hx : choiceX l k = ⟨numN (l.take k), -1, numN (l.drop (k + 1))⟩ := if_pos (hk.trans (congrArg some (u8_eq (n := 33) (by decide) h37)))
  refine ret_cell_tmp (n := 3) rfl many_53 rfl (S10_3.cells 1 rfl) rfl rfl ⟨⟨choiceX l k, ?_, fun _ => rfl⟩, hfin⟩
  rw [choice_dec (of_decide_eq_true hb16) (of_decide_eq_true hb27), hx]
  rfl
 refine lC0 rfl ⟨⟩ (W_draw fmx [0, 1, 2] [] [3, 4] (by kernel_rfl) rfl (Cl _ _ _ _) (Cl.start S7_4) ?_)
 refine qO S7_4.q [.w 0,.w 0] rfl ⟨⟨rfl,by rfl⟩,⟨rfl,by rfl⟩,⟨⟩⟩ (q_callr has_25 rfl rfl (fun w1 S1 X1 => writable_fn ⟨_, _, _⟩ _) ?_)
 refine qD rfl ⟨⟩ ?_
 rintro wR10 ⟨SR10, XR10⟩
 first | refine o_storeN (kk := 1) (vs := [_, _, _]) SR10 sz_53 rfl rfl rfl rfl rfl rfl rfl ?_
 intro w10_3 S10_3 X10_3
 dsimp only [setsAt, List.set] at S10_3
 refine lR0 rfl ⟨⟩ ?_
 have hfin := S10_3.fin
 have hx : choiceX l k = ⟨numN (l.take k), numN (l.drop (k + 1)), 0⟩ := if_neg (fun h => h37 (by rw [hk] at h; cases h; rfl))
 refine ret_cell_tmp (n := 3) rfl many_53 rfl (S10_3.cells 1 rfl) rfl rfl ⟨⟨choiceX l k, ?_, fun _ => rfl⟩, hfin⟩
 rw [choice_dec (of_decide_eq_true hb16) (of_decide_eq_true hb27), hx]
 rfl
end Go.Proofs.YtgnbfmifjlnigaaGreatDoor
namespace Go.Fw
open Go.RowKit
theorem ofNat_dig {n : Nat} (h : n < 10) : (UInt8.ofNat (48 + n)).toNat = 48 + n := UInt8.toNat_ofNat_of_lt' (by have : UInt8.size = 256 := rfl; omega)
theorem dec_cases {n : Nat} (h : n < 100) : (n < 10 ∧ Lib.decDigits n = [UInt8.ofNat (48 + n)]) ∨ (10 ≤ n ∧ Lib.decDigits n = [UInt8.ofNat (48 + n / 10), UInt8.ofNat (48 + n % 10)]) := by
 by_cases h1 : n < 10
 ·exact .inl ⟨h1, Lib.decDigits_one h1⟩
 ·exact .inr ⟨by omega, Lib.decDigits_two h1 h⟩
theorem dec_dig {n : Nat} (h : n < 100) : ∀ b ∈ Lib.decDigits n, isDig b := fun b hb => by
 unfold isDig
 rcases dec_cases h with ⟨h1, e⟩ | ⟨h1, e⟩ <;> rw [e] at hb <;> simp only [List.mem_cons, List.not_mem_nil, or_false] at hb
 ·subst hb; rw [ofNat_dig h1]; omega
 ·rcases hb with rfl | rfl
  ·rw [ofNat_dig (by omega)]; omega
  ·rw [ofNat_dig (by omega)]; omega
theorem dec_ok {n : Nat} (h : n < 100) : numOk (Lib.decDigits n) := by
 rcases dec_cases h with ⟨h1, e⟩ | ⟨h1, e⟩ <;> rw [e]
 ·exact .inl rfl
 ·refine .inr ⟨rfl, fun hh => ?_⟩
  have := congrArg UInt8.toNat (Option.some.inj hh)
  rw [ofNat_dig (by omega)] at this
  have e48 : (48 : UInt8).toNat = 48 := rfl
  omega
theorem dec_val {n : Nat} (h : n < 100) : valL (Lib.decDigits n) = n := by
 rcases dec_cases h with ⟨h1, e⟩ | ⟨h1, e⟩ <;> rw [e] <;> simp only [valL, List.foldl]
 ·rw [ofNat_dig h1]; omega
 ·rw [ofNat_dig (by omega), ofNat_dig (by omega)]; omega
theorem num_dec {n : Nat} (h : n < 100) : numN (Lib.decDigits n) = n := by rw [numN, if_pos (dec_ok h), dec_val h]
theorem dig_ofNat {b : UInt8} (h : isDig b) : UInt8.ofNat (48 + (b.toNat - 48)) = b := by
 unfold isDig at h
 apply UInt8.toNat_inj.1
 rw [ofNat_dig (by omega)]; omega
theorem val_dec {l : List UInt8} (h : numOk l) (hd : ∀ b ∈ l, isDig b) : decL (numN l) = l ∧ 0 ≤ numN l ∧ numN l < 100 := by
 rw [numN, if_pos h]
 unfold decL
 rcases h with h | ⟨h, h0⟩
 ·match l, h with
  | [a], _ =>
    have ha := hd a (by simp)
    have ea := dig_ofNat ha
    unfold isDig at ha
    have ev : valL [a] = (a.toNat - 48 : Nat) := by simp only [valL, List.foldl]; omega
    rw [ev]
    refine ⟨?_, by omega, by omega⟩
    rw [Int.toNat_natCast, Lib.decDigits_one (by omega), ea]
 ·match l, h with
  | [a, b], _ =>
    have ha := hd a (by simp)
    have hb := hd b (by simp)
    have ea := dig_ofNat ha
    have eb := dig_ofNat hb
    unfold isDig at ha hb
    have ha0 : a.toNat ≠ 48 := fun e => h0 (by
     have : a = 48 := UInt8.toNat_inj.1 e
     simp [this])
    have ev : valL [a, b] = (10 * (a.toNat - 48) + (b.toNat - 48) : Nat) := by simp only [valL, List.foldl]; omega
    rw [ev]
    refine ⟨?_, by omega, by omega⟩
    rw [Int.toNat_natCast, Lib.decDigits_two (by omega) (by omega)]
    rw [show (10 * (a.toNat - 48) + (b.toNat - 48)) / 10 = a.toNat - 48 by omega, show (10 * (a.toNat - 48) + (b.toNat - 48)) % 10 = b.toNat - 48 by omega, ea, eb]
def MarkAt (l : List UInt8) (k : Nat) : Prop := (l[k]? = some 46 ∨ l[k]? = some 33) ∧ (∀ b ∈ l.take k, isDig b) ∧ ∀ b ∈ l.drop (k + 1), isDig b
theorem MarkAt.not_dig {l : List UInt8} {k : Nat} (h : MarkAt l k) {b : UInt8} (hb : l[k]? = some b) : ¬ isDig b := by
 rcases h.1 with h | h <;> rw [hb] at h <;> cases h <;> decide
theorem MarkAt.dig {l : List UInt8} {k : Nat} (h : MarkAt l k) {j : Nat} (hj : j ≠ k) {b : UInt8} (hb : l[j]? = some b) : isDig b := by
 by_cases hjk : j < k
 ·exact h.2.1 b (List.mem_of_getElem? (i := j) (by rw [List.getElem?_take, if_pos hjk]; exact hb))
 ·exact h.2.2 b (List.mem_of_getElem? (i := j - (k + 1)) (by rw [List.getElem?_drop, show k + 1 + (j - (k + 1)) = j by omega]; exact hb))
theorem MarkAt.uniq {l : List UInt8} {k m : Nat} (h : MarkAt l k) (h' : MarkAt l m) : k = m := by
 by_cases e : k = m
 ·exact e
 ·obtain ⟨b, hb⟩ : ∃ b, l[k]? = some b := by rcases h.1 with h | h <;> exact ⟨_, h⟩
  exact absurd (h'.dig e hb) (h.not_dig hb)
theorem MarkAt.noblank {l : List UInt8} {k : Nat} (h : MarkAt l k) : (32 : UInt8) ∉ l := fun hm => by
 obtain ⟨j, hj⟩ := List.mem_iff_getElem?.1 hm
 by_cases e : j = k
 ·subst e
  rcases h.1 with h | h <;> rw [hj] at h <;> cases h
 ·exact absurd (h.dig e hj) (by decide)
theorem behind {α : Type} (a b : List α) (m : α) : (a ++ m :: b).drop (a.length + 1) = b := by
 rw [List.drop_append, List.drop_of_length_le (by omega), List.nil_append, show a.length + 1 - a.length = 1 by omega]; rfl
theorem MarkAt.of_parts {a b : List UInt8} {m : UInt8} (hm : m = 46 ∨ m = 33) (ha : ∀ x ∈ a, isDig x) (hb : ∀ x ∈ b, isDig x) : MarkAt (a ++ m :: b) a.length := by
 refine ⟨?_, ?_, ?_⟩
 ·rw [List.getElem?_append_right (Nat.le_refl _), Nat.sub_self]
  rcases hm with rfl | rfl
  ·exact .inl rfl
  ·exact .inr rfl
 ·rw [List.take_left]; exact ha
 ·rw [behind]; exact hb
theorem split_at {α : Type} {l : List α} {k : Nat} {b : α} (h : l[k]? = some b) : l = l.take k ++ b :: l.drop (k + 1) := by
 obtain ⟨hlt, rfl⟩ := List.getElem?_eq_some_iff.1 h
 rw [← List.drop_eq_getElem_cons hlt, List.take_append_drop]
theorem word_parts {x : ChoiceD} (h : WrC x) : ∃ (m : UInt8) (n : Nat), (m = 46 ∨ m = 33) ∧ n < 100 ∧ wordL x = decL x.thread ++ m :: Lib.decDigits n ∧ x = (if m = 33 then ⟨x.thread, -1, n⟩ else ⟨x.thread, n, 0⟩) := by
 obtain ⟨q1, q2, q3⟩ := h
 obtain ⟨_, s, c⟩ := x
 simp only at q1 q2 q3 ⊢
 rcases q3 with ⟨rfl, q4, q5⟩ | ⟨q4, q5, rfl⟩
 ·refine ⟨33, c.toNat, .inr rfl, by omega, by simp [wordL, decL], ?_⟩
  rw [if_pos rfl, Int.toNat_of_nonneg q4]
 ·refine ⟨46, s.toNat, .inl rfl, by omega, ?_, ?_⟩
  ·unfold wordL; rw [if_neg (show ¬ s = -1 by omega)]; simp [decL]
  ·rw [if_neg (by decide), Int.toNat_of_nonneg q4]
theorem word_mark {x : ChoiceD} (h : WrC x) : MarkAt (wordL x) (decL x.thread).length := by
 obtain ⟨_, _, hm, hn, e, -⟩ := word_parts h
 rw [e]
 exact .of_parts hm (dec_dig (by have := h.1; have := h.2.1; omega)) (dec_dig hn)
theorem choice_word {l : List UInt8} {k : Nat} (hm : MarkAt l k) (h : choiceOk l k) : wordL (choiceX l k) = l := by
 obtain ⟨h1, h2, -⟩ := h
 obtain ⟨d1, _, _⟩ := val_dec h1 hm.2.1
 obtain ⟨d2, _, _⟩ := val_dec h2 hm.2.2
 unfold choiceX
 split
 ·rename_i h33
  unfold wordL
  rw [if_pos rfl]
  simp only [d1, d2]
  conv => rhs; rw [split_at h33]
  simp
 ·rename_i h33
  have h46 := hm.1.resolve_right h33
  unfold wordL
  simp only
  rw [if_neg (by omega)]
  simp only [d1, d2]
  conv => rhs; rw [split_at h46]
  simp
theorem word_choice {x : ChoiceD} (h : WrC x) {k : Nat} (hm : MarkAt (wordL x) k) : choiceOk (wordL x) k ∧ choiceX (wordL x) k = x := by
 have hk := hm.uniq (word_mark h)
 subst hk
 obtain ⟨m, n, hmm, hn, e, ex⟩ := word_parts h
 have ht : x.thread.toNat < 100 := by have := h.1; have := h.2.1; omega
 have e1 : (wordL x).take (decL x.thread).length = Lib.decDigits x.thread.toNat := by rw [e, List.take_left]; rfl
 have e2 : (wordL x).drop ((decL x.thread).length + 1) = Lib.decDigits n := by rw [e, behind]
 have e3 : (wordL x)[(decL x.thread).length]? = some m := by rw [e, List.getElem?_append_right (Nat.le_refl _), Nat.sub_self]; rfl
 have e4 : ((x.thread.toNat : Nat) : Int) = x.thread := Int.toNat_of_nonneg h.1
 have e5 : choiceX (wordL x) (decL x.thread).length = x := by
  unfold choiceX
  rw [e1, e2, e3, num_dec ht, num_dec hn, e4]
  conv => rhs; rw [ex]
  rcases hmm with rfl | rfl
  ·rw [if_neg (by decide), if_neg (by decide)]
  ·rw [if_pos rfl, if_pos rfl]
 exact ⟨⟨by rw [e1]; exact dec_ok ht, by rw [e2]; exact dec_ok hn, by rw [e5]; exact h⟩, e5⟩
theorem wordL_inj {x y : ChoiceD} (hx : WrC x) (hy : WrC y) (h : wordL x = wordL y) : x = y := by
 have h1 := word_choice hx (word_mark hx)
 have h2 := word_choice hy (h ▸ word_mark hx)
 rw [← h1.2, h, h2.2]
theorem wordL_ne {x : ChoiceD} (h : WrC x) : wordL x ≠ [] := fun e => by
 have := (word_mark h).1
 rw [e] at this; simp at this
theorem index_neg {l : List UInt8} (h : (32 : UInt8) ∉ l) : Lib.indexByte l 32 = -1 := by
 rcases indexByte_cases l 32 with e | ⟨o, e, -⟩
 ·exact e
 ·exact absurd (List.mem_of_getElem? (Lib.indexByte_some e).1) h
theorem index_at {a b : List UInt8} (h : (32 : UInt8) ∉ a) : Lib.indexByte (a ++ 32 :: b) 32 = a.length := by
 have hb : (a ++ 32 :: b)[a.length]? = some 32 := by rw [List.getElem?_append_right (Nat.le_refl _), Nat.sub_self]; rfl
 rcases indexByte_cases (a ++ 32 :: b) 32 with e | ⟨o, e, -⟩
 ·exact absurd hb (Lib.indexByte_none e _)
 ·obtain ⟨h1, h2⟩ := Lib.indexByte_some e
  have h3 : ¬ a.length < o := fun hlt => h2 _ hlt hb
  have h4 : ¬ o < a.length := fun hlt => by
   rw [List.getElem?_append_left hlt] at h1
   exact h (List.mem_of_getElem? h1)
  rw [e]; omega
theorem cut_more {l : List UInt8} (h : 0 ≤ Lib.indexByte l 32) : l = cutA l ++ 32 :: cutB l := by
 rcases indexByte_cases l 32 with e | ⟨o, e, -⟩
 ·omega
 ·unfold cutA cutB
  rw [if_pos h, if_pos h, e, Int.toNat_natCast]
  exact split_at (Lib.indexByte_some e).1
theorem cut_last {l : List UInt8} (h : ¬ 0 ≤ Lib.indexByte l 32) : cutA l = l := if_neg h
theorem cut_word {x : ChoiceD} (hx : WrC x) {l : List ChoiceD} {rest : List UInt8} (h : joinL (x :: l) = rest) : cutA rest = wordL x ∧ (l = [] → ¬ 0 ≤ Lib.indexByte rest 32) ∧ (l ≠ [] → 0 ≤ Lib.indexByte rest 32 ∧ cutB rest = joinL l) := by
 have hb := (word_mark hx).noblank
 subst h
 cases l with
 | nil =>
   have e : Lib.indexByte (wordL x) 32 = -1 := index_neg hb
   exact ⟨if_neg (by rw [joinL, e]; omega), fun _ => by rw [joinL, e]; omega, fun h => absurd rfl h⟩
 | cons y l =>
   have e : Lib.indexByte (wordL x ++ 32 :: joinL (y :: l)) 32 = (wordL x).length := index_at hb
   refine ⟨?_, fun h => (by cases h), fun _ => ⟨?_, ?_⟩⟩
   ·rw [joinL, cutA, if_pos (by rw [e]; omega), e, Int.toNat_natCast, List.take_left]
   ·rw [joinL, e]; omega
   ·rw [joinL, cutB, if_pos (by rw [e]; omega), e, Int.toNat_natCast, behind]
theorem join_behind : ∀ (run l : List ChoiceD) (rest : List UInt8), (∀ x ∈ run, WrC x) → (∀ x ∈ l, WrC x) → run ≠ [] → joinL l = joinL run ++ 32 :: rest → ∃ l', l' ≠ [] ∧ l = run ++ l' ∧ joinL l' = rest
 | [], _, _, _, _, h, _ => absurd rfl h
 | [x], l, rest, hr, hl, _, he => by
   have hx := hr x (by simp)
   cases l with
   | nil => simp [joinL] at he
   | cons y l =>
     have hy := hl y (by simp)
     obtain ⟨c1, c2, c3⟩ := cut_word hy he
     simp only [joinL] at c1 c2 c3
     have e : Lib.indexByte (wordL x ++ 32 :: rest) 32 = (wordL x).length := index_at (word_mark hx).noblank
     have hxy : x = y := wordL_inj hx hy (by rw [← c1, cutA, if_pos (by rw [e]; omega), e, Int.toNat_natCast, List.take_left])
     have hl0 : l ≠ [] := fun h0 => c2 h0 (by rw [e]; omega)
     refine ⟨l, hl0, by rw [hxy]; rfl, ?_⟩
     rw [← (c3 hl0).2, cutB, if_pos (by rw [e]; omega), e, Int.toNat_natCast, behind]
 | x :: z :: run, l, rest, hr, hl, _, he => by
   have hx := hr x (by simp)
   cases l with
   | nil => simp [joinL] at he
   | cons y l =>
     have hy := hl y (by simp)
     obtain ⟨c1, c2, c3⟩ := cut_word hy he
     simp only [joinL, List.append_assoc, List.cons_append] at c1 c2 c3
     have e : Lib.indexByte (wordL x ++ 32 :: (joinL (z :: run) ++ 32 :: rest)) 32 = (wordL x).length := index_at (word_mark hx).noblank
     have hxy : x = y := wordL_inj hx hy (by rw [← c1, cutA, if_pos (by rw [e]; omega), e, Int.toNat_natCast, List.take_left])
     have hl0 : l ≠ [] := fun h0 => c2 h0 (by rw [e]; omega)
     have hj : joinL l = joinL (z :: run) ++ 32 :: rest := by
      rw [← (c3 hl0).2, cutB, if_pos (by rw [e]; omega), e, Int.toNat_natCast, behind]
     obtain ⟨l', h1, h2, h3⟩ := join_behind (z :: run) l rest (fun w hw => hr w (by simp [List.mem_cons.1 hw])) (fun w hw => hl w (by simp [hw])) (by simp) hj
     exact ⟨l', h1, by rw [hxy, h2]; rfl, h3⟩
theorem joinL_ne {l : List ChoiceD} (hl : ∀ x ∈ l, WrC x) (h : l ≠ []) : joinL l ≠ [] := by
 match l, h with
 | [x], _ => exact wordL_ne (hl x (by simp))
 | x :: y :: l, _ => simp [joinL]
theorem joinL_inj : ∀ (a b : List ChoiceD), (∀ x ∈ a, WrC x) → (∀ x ∈ b, WrC x) → joinL a = joinL b → a = b
 | [], b, _, hb, h => by
   by_cases e : b = []
   ·exact e.symm
   ·exact absurd h.symm (joinL_ne hb e)
 | x :: a, b, ha, hb, h => by
   cases b with
   | nil => exact absurd h (joinL_ne ha (by simp))
   | cons y b =>
     have hx := ha x (by simp)
     have hy := hb y (by simp)
     obtain ⟨c1, c2, c3⟩ := cut_word hx h
     obtain ⟨k1, k2, k3⟩ := cut_word hy rfl
     have hxy : x = y := wordL_inj hx hy (by rw [← c1, ← k1])
     subst hxy
     by_cases ea : a = []
     ·have : b = [] := by
       by_cases eb : b = []
       ·exact eb
       ·exact absurd (k3 eb).1 (c2 ea)
      rw [ea, this]
     ·have eb : b ≠ [] := fun eb => k2 eb (c3 ea).1
      rw [joinL_inj a b (fun w hw => ha w (by simp [hw])) (fun w hw => hb w (by simp [hw])) (by rw [← (c3 ea).2, (k3 eb).2])]
structure Parsing (text : List UInt8) (run : List ChoiceD) (rest : List UInt8) : Prop where
 wr : ∀ x ∈ run, WrC x
 le : run.length ≤ 120
 e0 : run = [] → text = rest
 e1 : run ≠ [] → text = joinL run ++ 32 :: rest
def NoText (text : List UInt8) : Prop := ∀ l : List ChoiceD, (∀ x ∈ l, WrC x) → l.length ≤ 120 → joinL l ≠ text
section
variable {text rest : List UInt8} {run : List ChoiceD}
theorem Parsing.start : Parsing text [] text := ⟨by simp, by simp, fun _ => rfl, fun h => absurd rfl h⟩
theorem Parsing.rest_of (h : Parsing text run rest) (ht : text ≠ []) {l : List ChoiceD} (hl : ∀ x ∈ l, WrC x) (he : joinL l = text) : ∃ x l', l = run ++ x :: l' ∧ WrC x ∧ joinL (x :: l') = rest := by
 have key : ∃ l', l' ≠ [] ∧ l = run ++ l' ∧ joinL l' = rest := by
  by_cases h0 : run = []
  ·refine ⟨l, fun e => ht ?_, by rw [h0]; rfl, by rw [he, h.e0 h0]⟩
   rw [← he, e]; rfl
  ·exact join_behind run l rest h.wr hl h0 (he.trans (h.e1 h0))
 obtain ⟨l', h1, h2, h3⟩ := key
 obtain ⟨x, l'', rfl⟩ := List.exists_cons_of_ne_nil h1
 exact ⟨x, l'', h2, hl x (by rw [h2]; simp), h3⟩
theorem Parsing.fail (h : Parsing text run rest) (ht : text ≠ []) (hno : ∀ x, WrC x → cutA rest = wordL x → 120 ≤ run.length) : NoText text := fun l hl hlen he => by
 obtain ⟨x, _, e, hx, hj⟩ := h.rest_of ht hl he
 have h1 := hno x hx (cut_word hx hj).1
 rw [e] at hlen; simp at hlen; omega
theorem Parsing.next (h : Parsing text run rest) (hl : run.length < 120) (hm : 0 ≤ Lib.indexByte rest 32) {x : ChoiceD} (hx : WrC x) (he : wordL x = cutA rest) : Parsing text (run ++ [x]) (cutB rest) := by
 refine ⟨fun y hy => ?_, by simp; omega, fun e => by simp at e, fun _ => ?_⟩
 ·rcases List.mem_append.1 hy with hy | hy
  ·exact h.wr y hy
  ·rw [List.mem_singleton.1 hy]; exact hx
 ·have hc := cut_more hm
  rw [joinL_snoc, he]
  split
  ·rename_i h0; rw [h.e0 h0]; exact hc
  ·rename_i h0; rw [h.e1 h0, List.append_assoc, List.cons_append, ← hc]
theorem Parsing.last (h : Parsing text run rest) (hl : run.length < 120) (hm : ¬ 0 ≤ Lib.indexByte rest 32) {x : ChoiceD} (hx : WrC x) (he : wordL x = cutA rest) : (∀ y ∈ run ++ [x], WrC y) ∧ (run ++ [x]).length ≤ 120 ∧ joinL (run ++ [x]) = text := by
 refine ⟨fun y hy => ?_, by simp; omega, ?_⟩
 ·rcases List.mem_append.1 hy with hy | hy
  ·exact h.wr y hy
  ·rw [List.mem_singleton.1 hy]; exact hx
 ·rw [cut_last hm] at he
  rw [joinL_snoc, he]
  split
  ·rename_i h0; rw [h.e0 h0]
  ·rename_i h0; rw [h.e1 h0]
end
def Scan (l : List UInt8) (i : Nat) (mark : Int) : Prop := (mark = -1 ∧ ∀ b ∈ l.take i, isDig b) ∨ ∃ k : Nat, mark = k ∧ k < i ∧ (l[k]? = some 46 ∨ l[k]? = some 33) ∧ (∀ b ∈ l.take k, isDig b) ∧ ∀ b ∈ (l.take i).drop (k + 1), isDig b
theorem Scan.zero {l : List UInt8} : Scan l 0 (-1) := .inl ⟨rfl, by simp⟩
theorem Scan.dig {l : List UInt8} {i : Nat} {mark : Int} (h : Scan l i mark) {b : UInt8} (hb : l[i]? = some b) (hd : isDig b) : Scan l (i + 1) mark := by
 have hlt := some_lt hb
 rcases h with ⟨h1, h2⟩ | ⟨k, h1, h2, h3, h4, h5⟩
 ·refine .inl ⟨h1, fun y hy => ?_⟩
  rw [take_some hb] at hy
  rcases List.mem_append.1 hy with hy | hy
  ·exact h2 y hy
  ·rw [List.mem_singleton.1 hy]; exact hd
 ·refine .inr ⟨k, h1, by omega, h3, h4, fun y hy => ?_⟩
  rw [take_some hb, List.drop_append_of_le_length (by rw [List.length_take]; omega)] at hy
  rcases List.mem_append.1 hy with hy | hy
  ·exact h5 y hy
  ·rw [List.mem_singleton.1 hy]; exact hd
theorem Scan.mark {l : List UInt8} {i : Nat} {mark : Int} (h : Scan l i mark) (hm : mark < 0) (hb : l[i]? = some 46 ∨ l[i]? = some 33) : Scan l (i + 1) i := by
 have hlt : i < l.length := by rcases hb with hb | hb <;> exact some_lt hb
 rcases h with ⟨h1, h2⟩ | ⟨k, h1, -⟩
 ·refine .inr ⟨i, rfl, by omega, hb, h2, fun y hy => ?_⟩
  rw [List.drop_of_length_le (by rw [List.length_take]; omega)] at hy
  cases hy
 ·omega
theorem Scan.stop {l : List UInt8} {i : Nat} {mark : Int} (h : Scan l i mark) {b : UInt8} (hb : l[i]? = some b) (hd : ¬ isDig b) (hn : 0 ≤ mark ∨ (b ≠ 46 ∧ b ≠ 33)) {x : ChoiceD} (hx : WrC x) (he : l = wordL x) : False := by
 have hM := word_mark hx
 rw [← he] at hM
 have hi : i = (decL x.thread).length := by
  by_cases e : i = (decL x.thread).length
  ·exact e
  ·exact absurd (hM.dig e hb) hd
 rcases h with ⟨h1, h2⟩ | ⟨k, h1, h2, h3, -⟩
 ·rcases hn with hn | ⟨n1, n2⟩
  ·omega
  ·rw [← hi] at hM
   rcases hM.1 with h | h <;> rw [hb] at h <;> cases h
   ·exact n1 rfl
   ·exact n2 rfl
 ·have : ∃ c, l[k]? = some c ∧ ¬ isDig c := by
   rcases h3 with h | h
   ·exact ⟨_, h, by decide⟩
   ·exact ⟨_, h, by decide⟩
  obtain ⟨c, hc, hcd⟩ := this
  exact hcd (hM.dig (by omega) hc)
theorem Scan.none {l : List UInt8} {i : Nat} {mark : Int} (h : Scan l i mark) (hi : l.length ≤ i) (hm : mark < 0) {x : ChoiceD} (hx : WrC x) (he : l = wordL x) : False := by
 have hM := word_mark hx
 rw [← he] at hM
 rcases h with ⟨h1, h2⟩ | ⟨k, h1, -⟩
 ·rw [List.take_of_length_le hi] at h2
  obtain ⟨b, hb⟩ : ∃ b, l[(decL x.thread).length]? = some b := by rcases hM.1 with h | h <;> exact ⟨_, h⟩
  exact hM.not_dig hb (h2 b (List.mem_of_getElem? hb))
 ·omega
theorem Scan.done {l : List UInt8} {i : Nat} {mark : Int} (h : Scan l i mark) (hi : l.length ≤ i) (hm : ¬ mark < 0) : ∃ k : Nat, mark = k ∧ MarkAt l k := by
 rcases h with ⟨h1, h2⟩ | ⟨k, h1, h2, h3, h4, h5⟩
 ·omega
 ·rw [List.take_of_length_le hi] at h5
  exact ⟨k, h1, h3, h4, h5⟩
end Go.Fw
namespace Go.Fw
open Go.RowKit
theorem cutB_len (l : List UInt8) : (cutB l).length + (decide (0 ≤ Lib.indexByte l 32)).toNat ≤ l.length ∧ (cutA l).length ≤ l.length := by
 by_cases h : 0 ≤ Lib.indexByte l 32
 ·have hc := congrArg List.length (cut_more h)
  rw [List.length_append, List.length_cons] at hc
  rw [decide_eq_true h, Bool.toNat_true]; omega
 ·rw [decide_eq_false h, cut_last h]
  unfold cutB
  rw [if_neg h]; simp
theorem strL_nil {l : List UInt8} (h : strL l = ⟨#[]⟩) : l = [] := strL_inj (h.trans rfl)
def ParseRes (w : World) (text : List UInt8) (v : Value) : Prop :=
 (∃ vs run, v = .tuple #[vs, .int .i64 0] ∧ RdCh [] w vs run ∧ (∀ x ∈ run, WrC x) ∧ run.length ≤ 120 ∧ joinL run = text) ∨ (v = .tuple #[.slice none 0 0, .int .i64 130] ∧ NoText text)
end Go.Fw
namespace Go.Proofs.YtgnbfmifjlnigaaGreatDoor
open Go.Fw Go.RowKit
theorem parse_fn (text : List UInt8) (hl : text.length ≤ 100000) (w0 : World) :
 Does Tryz.prog 10 #[.string (strL text)] w0 fun v w' => ParseRes w' text v ∧ Below w0.heap.size w0 w' := by
 have S := (St.refl w0).nilEnt 53
 refine Does_enter Tryz.func10 rfl Tryz.ntmps10 rfl ?_
 refine W_seq ?_
 refine W_region ?_
 refine o_assign (v := .slice _ _ _) rfl rfl ?_
 refine o_assign (v := .int .i64 _) rfl rfl ?_
 refine WL_nil ?_
 refine W_scope ?_
 refine W_seq ?_
 refine W_seq ?_
 refine W_region ?_
 refine o_move (v := .string _) rfl rfl ?_
 refine o_eqlS rfl rfl rfl (fun h15 => ?_) fun h15 => ?_
 ·refine WL_nil ?_
  refine W_then rfl ?_
  refine W_seq ?_
  refine W_region ?_
  refine o_assign (v := .slice _ _ _) rfl rfl ?_
  refine o_assign (v := .int .i64 _) rfl rfl ?_
  refine WL_nil ?_
  refine W_ret ?_
  refine ret_2 rfl (by conv => lhs; whnf) (by conv => lhs; whnf) ?_
  obtain rfl := strL_nil h15
  exact ⟨.inl ⟨_, [], rfl, rdS_nil, by simp, by simp, rfl⟩, S.fin⟩
 refine WL_nil ?_
 refine W_else rfl ?_
 refine W_skip ?_
 refine W_seq ?_
 have hne : text ≠ [] := fun e => h15 (by rw [e]; rfl)
 refine W_region ?_
 refine o_assign (v := .slice _ _ _) rfl rfl ?_
 refine WL_nil ?_
 refine W_seq ?_
 refine W_region ?_
 refine o_assign (v := .bool _) rfl rfl ?_
 refine WL_nil ?_
 refine W_seq ?_
 refine W_region ?_
 refine o_move (v := .string _) rfl rfl ?_
 refine o_assign (v := .string _) rfl rfl ?_
 refine o_assign (v := .bool _) rfl rfl ?_
 refine WL_nil ?_
 refine W_seq ?_
 refine W_label ?_
 refine W_seq ?_
 refine W_block ?_
 refine W_loop (fun μ D ε w => D = [] ∧ ∃ run : List ChoiceD, ∃ G : Option Nat, ∃ cs' : List Value, ∃ v : Value, ∃ rest : List UInt8, ∃ more : Bool, (RowR (fun _ _ => RChoice) 3 [] w0 G cs' v run) ∧ (rest.length + more.toNat = μ) ∧ (rest.length ≤ 100000) ∧ (more = true → Parsing text run rest) ∧ (more = false → (∀ y ∈ run, WrC y) ∧ run.length ≤ 120 ∧ joinL run = text) ∧ St [] w0 w [(G, 53, cs')] ∧ ε 4 = v ∧ ε 5 = .bool true ∧ ε 6 = .string (strL rest) ∧ ε 7 = .bool more) (μ := text.length + 1) ⟨rfl, [], none, [], .slice none 0 0, text, true, RowR.nil, rfl, hl, fun _ => .start, (fun h => by cases h), S, rfl, rfl, rfl, rfl⟩ ?_
 rintro μ D ε w ⟨rfl, run, G, cs', v, rest, more, hrow, hmu, _, hPt, hPf, S, e4, e5, e6, e7⟩
 refine W_known 4 e4 (W_known 5 e5 (W_known 6 e6 (W_known 7 e7 ?_)))
 clear e4 e5 e6 e7
 obtain ⟨Av, cv, rfl⟩ := hrow.form
 refine W_seq ?_
 refine W_seq ?_
 refine W_region ?_
 cases hb17 : more
 ·refine o_move (v := .bool _) rfl rfl ?_
  refine WL_nil ?_
  refine W_else rfl ?_
  refine W_exit ?_
  refine bcons_here ?_
  refine W_seq ?_
  refine W_seq ?_
  refine W_region ?_
  refine o_move (v := .bool _) rfl rfl ?_
  refine o_not rfl rfl ?_
  refine WL_nil ?_
  refine W_else rfl ?_
  refine W_skip ?_
  refine W_seq ?_
  refine W_region ?_
  refine o_move (v := .slice _ _ _) rfl rfl ?_
  refine o_assign (v := .slice _ _ _) rfl rfl ?_
  refine o_assign (v := .int .i64 _) rfl rfl ?_
  refine WL_nil ?_
  refine W_ret ?_
  refine ret_2 rfl (by conv => lhs; whnf) (by conv => lhs; whnf) ?_
  obtain ⟨p1, p2, p3⟩ := hPf hb17
  exact ⟨.inl ⟨_, run, rfl, RowR.rd (M := []) law_choice hrow S (k := 0) rfl (fun g hg => by simp) (by omega), p1, p2, p3⟩, S.fin⟩
 refine o_move (v := .bool _) rfl rfl ?_
 refine WL_nil ?_
 refine W_then rfl ?_
 refine W_skip ?_
 refine W_block ?_
 refine W_seq ?_
 refine W_region ?_
 refine o_assign (v := .string _) rfl rfl ?_
 refine WL_nil ?_
 refine W_seq ?_
 refine W_region ?_
 refine o_move (v := .string _) rfl rfl ?_
 have hP := hPt hb17
 rw [hb17] at hmu
 have hcl := cutB_len rest
 refine o_callr S has_28 rfl rfl (cut_fn rest (by omega) _) ?_
 intro w20 S20 X20
 refine o_move (v := .tuple _) rfl rfl ?_
 refine o_extract rfl rfl rfl ?_
 refine o_extract rfl rfl rfl ?_
 refine o_extract rfl rfl rfl ?_
 refine o_assign (v := .string _) rfl rfl ?_
 refine o_assign (v := .string _) rfl rfl ?_
 refine o_assign (v := .bool _) rfl rfl ?_
 refine WL_nil ?_
 refine W_seq ?_
 refine W_region ?_
 refine o_assign (v := .int .i64 _) rfl rfl ?_
 refine WL_nil ?_
 refine W_seq ?_
 refine W_seq ?_
 refine W_region ?_
 refine o_move (v := .string _) rfl rfl ?_
 refine o_lenS Tryz.underlying9 rfl rfl ?_
 refine o_move (v := .int .i64 _) rfl rfl ?_
 refine WL_nil ?_
 refine W_block ?_
 refine W_loop (fun μi D ε w => D = [] ∧ ∃ i : Nat, ∃ mark : Int, (i + μi = ((cutA rest).length)) ∧ (Scan (cutA rest) i mark) ∧ St [] w0 w [(G, 53, cs')] ∧ ε 4 = .slice Av run.length cv ∧ ε 5 = .bool true ∧ ε 6 = .string (strL (cutB rest)) ∧ ε 7 = .bool (decide (0 ≤ Lib.indexByte rest 32)) ∧ ε 8 = .string (strL (cutA rest)) ∧ ε 9 = .int .i64 mark ∧ ε 25 = .int .i64 (strL (cutA rest)).size ∧ ε 26 = .int .i64 i) (μ := ((cutA rest).length)) ⟨rfl, 0, -1, by omega, Scan.zero, S20, rfl, rfl, rfl, rfl, rfl, rfl, rfl, rfl⟩ ?_
 rintro μi D ε w ⟨rfl, i, mark, _, hs, S, e4, e5, e6, e7, e8, e9, e25, e26⟩
 refine W_known 4 e4 (W_known 5 e5 (W_known 6 e6 (W_known 7 e7 (W_known 8 e8 (W_known 9 e9 (W_known 25 e25 (W_known 26 e26 ?_)))))))
 clear e4 e5 e6 e7 e8 e9 e25 e26
 have hsz := strL_size (cutA rest)
 refine W_seq ?_
 refine W_region ?_
 refine o_lss rfl rfl rfl (fun h27 => ?_) fun h27 => ?_
 ·refine WL_nil ?_
  refine W_seq ?_
  refine W_then rfl ?_
  refine W_skip ?_
  refine W_seq ?_
  refine W_block ?_
  refine W_seq ?_
  refine W_region ?_
  refine o_move (v := .int .i64 _) rfl rfl ?_
  refine o_assign (v := .int .i64 _) rfl rfl ?_
  refine WL_nil ?_
  refine W_seq ?_
  refine W_region ?_
  refine o_move (v := .string _) rfl rfl ?_
  refine o_move (v := .int .i64 _) rfl rfl ?_
  obtain ⟨b, hb⟩ : ∃ b, (cutA rest)[i]? = some b := ⟨(cutA rest)[i]'(by omega), List.getElem?_eq_getElem _⟩
  refine o_indexL (k := i) Tryz.underlying9 rfl rfl hb rfl ?_
  refine o_assign (v := .int .u8 _) rfl rfl ?_
  refine WL_nil ?_
  refine W_seq ?_
  refine W_region ?_
  refine o_move (v := .int .i64 _) rfl rfl ?_
  refine o_lss rfl rfl rfl (fun h33 => ?_) fun h33 => ?_
  ·refine o_move (v := .bool _) rfl rfl ?_
   refine WL_on rfl rfl rfl ?_
   refine o_move (v := .int .u8 _) rfl rfl ?_
   refine WL_on rfl rfl rfl ?_
   refine o_eql rfl rfl rfl (fun h36 => ?_) fun h36 => ?_
   ·refine WL_on rfl rfl rfl ?_
    refine o_move (v := .bool _) rfl rfl ?_
    refine WL_off rfl rfl rfl rfl ?_
    refine WL_off rfl rfl rfl rfl ?_
    refine WL_on rfl rfl rfl ?_
    refine o_pick rfl (v := .bool _) rfl rfl ?_
    refine o_pick rfl (v := .bool _) rfl rfl ?_
    refine WL_nil ?_
    refine W_then rfl ?_
    refine W_region ?_
    refine o_move (v := .int .i64 _) rfl rfl ?_
    refine o_assign (v := .int .i64 _) rfl rfl ?_
    refine WL_nil ?_
    refine W_region ?_
    refine o_add rfl rfl (by unfold i64; omega) rfl ?_
    refine o_move (v := .int .i64 _) rfl rfl ?_
    refine WL_nil ?_
    refine ⟨μi - 1, by omega, rfl, (i + 1), (_), (by omega), ?_, S, rfl, rfl, rfl, rfl, rfl, rfl, rfl, rfl⟩
    exact hs.mark h33 (.inl (hb.trans (congrArg some (u8_eq (n := 46) (by decide) h36))))
   refine WL_on rfl rfl rfl ?_
   refine o_move (v := .bool _) rfl rfl ?_
   refine WL_on rfl rfl rfl ?_
   refine o_move (v := .int .u8 _) rfl rfl ?_
   refine WL_on rfl rfl rfl ?_
   refine o_eql rfl rfl rfl (fun h39 => ?_) fun h39 => ?_
   ·refine WL_on rfl rfl rfl ?_
    refine o_pick rfl (v := .bool _) rfl rfl ?_
    refine o_pick rfl (v := .bool _) rfl rfl ?_
    refine WL_nil ?_
    refine W_then rfl ?_
    refine W_region ?_
    refine o_move (v := .int .i64 _) rfl rfl ?_
    refine o_assign (v := .int .i64 _) rfl rfl ?_
    refine WL_nil ?_
    refine W_region ?_
    refine o_add rfl rfl (by unfold i64; omega) rfl ?_
    refine o_move (v := .int .i64 _) rfl rfl ?_
    refine WL_nil ?_
    refine ⟨μi - 1, by omega, rfl, (i + 1), (_), (by omega), ?_, S, rfl, rfl, rfl, rfl, rfl, rfl, rfl, rfl⟩
    exact hs.mark h33 (.inr (hb.trans (congrArg some (u8_eq (n := 33) (by decide) h39))))
   refine WL_on rfl rfl rfl ?_
   refine o_pick rfl (v := .bool _) rfl rfl ?_
   refine o_pick rfl (v := .bool _) rfl rfl ?_
   refine WL_nil ?_
   refine W_else rfl ?_
   refine W_seq ?_
   refine W_region ?_
   refine o_move (v := .int .u8 _) rfl rfl ?_
   refine o_lss rfl rfl rfl (fun h44 => ?_) fun h44 => ?_
   ·refine o_move (v := .bool _) rfl rfl ?_
    refine WL_off rfl rfl rfl rfl ?_
    refine WL_off rfl rfl rfl rfl ?_
    refine o_pick rfl (v := .bool _) rfl rfl ?_
    refine WL_nil ?_
    refine W_then rfl ?_
    refine W_seq ?_
    refine W_region ?_
    refine o_assign (v := .bool _) rfl rfl ?_
    refine WL_nil ?_
    refine W_exit ?_
    refine bcons_far rfl ?_
    refine bcons_far rfl ?_
    refine bcons_far rfl ?_
    refine bcons_here ?_
    refine W_seq ?_
    refine W_seq ?_
    refine W_region ?_
    refine o_move (v := .bool _) rfl rfl ?_
    refine o_not rfl rfl ?_
    refine WL_nil ?_
    refine W_then rfl ?_
    refine W_seq ?_
    refine W_region ?_
    refine o_assign (v := .slice _ _ _) rfl rfl ?_
    refine o_assign (v := .int .i64 _) rfl rfl ?_
    refine WL_nil ?_
    refine W_ret ?_
    refine ret_2 rfl (by conv => lhs; whnf) (by conv => lhs; whnf) ?_
    have hnd : ¬ isDig b := by unfold isDig; omega
    refine ⟨.inr ⟨rfl, hP.fail hne (fun x hx he => (hs.stop hb hnd ?_ hx he).elim)⟩, S.fin⟩
    exact .inr ⟨fun e => h36 (by rw [e]; rfl), fun e => h39 (by rw [e]; rfl)⟩
   refine o_move (v := .bool _) rfl rfl ?_
   refine WL_on rfl rfl rfl ?_
   refine o_move (v := .int .u8 _) rfl rfl ?_
   refine WL_on rfl rfl rfl ?_
   refine o_gtr rfl rfl rfl (fun h47 => ?_) fun h47 => ?_
   ·refine o_pick rfl (v := .bool _) rfl rfl ?_
    refine WL_nil ?_
    refine W_then rfl ?_
    refine W_seq ?_
    refine W_region ?_
    refine o_assign (v := .bool _) rfl rfl ?_
    refine WL_nil ?_
    refine W_exit ?_
    refine bcons_far rfl ?_
    refine bcons_far rfl ?_
    refine bcons_far rfl ?_
    refine bcons_here ?_
    refine W_seq ?_
    refine W_seq ?_
    refine W_region ?_
    refine o_move (v := .bool _) rfl rfl ?_
    refine o_not rfl rfl ?_
    refine WL_nil ?_
    refine W_then rfl ?_
    refine W_seq ?_
    refine W_region ?_
    refine o_assign (v := .slice _ _ _) rfl rfl ?_
    refine o_assign (v := .int .i64 _) rfl rfl ?_
    refine WL_nil ?_
    refine W_ret ?_
    refine ret_2 rfl (by conv => lhs; whnf) (by conv => lhs; whnf) ?_
    have hnd : ¬ isDig b := by unfold isDig; omega
    refine ⟨.inr ⟨rfl, hP.fail hne (fun x hx he => (hs.stop hb hnd ?_ hx he).elim)⟩, S.fin⟩
    exact .inr ⟨fun e => h36 (by rw [e]; rfl), fun e => h39 (by rw [e]; rfl)⟩
   refine o_pick rfl (v := .bool _) rfl rfl ?_
   refine WL_nil ?_
   refine W_else rfl ?_
   refine W_skip ?_
   refine W_region ?_
   refine o_add rfl rfl (by unfold i64; omega) rfl ?_
   refine o_move (v := .int .i64 _) rfl rfl ?_
   refine WL_nil ?_
   refine ⟨μi - 1, by omega, rfl, (i + 1), (_), (by omega), ?_, S, rfl, rfl, rfl, rfl, rfl, rfl, rfl, rfl⟩
   exact hs.dig hb (by unfold isDig; omega)
  refine o_move (v := .bool _) rfl rfl ?_
  refine WL_off rfl rfl rfl rfl ?_
  refine WL_off rfl rfl rfl rfl ?_
  refine WL_off rfl rfl rfl rfl ?_
  refine WL_off rfl rfl rfl rfl ?_
  refine WL_off rfl rfl rfl rfl ?_
  refine WL_off rfl rfl rfl rfl ?_
  refine o_pick rfl (v := .bool _) rfl rfl ?_
  refine WL_nil ?_
  refine W_else rfl ?_
  refine W_seq ?_
  refine W_region ?_
  refine o_move (v := .int .u8 _) rfl rfl ?_
  refine o_lss rfl rfl rfl (fun h44 => ?_) fun h44 => ?_
  ·refine o_move (v := .bool _) rfl rfl ?_
   refine WL_off rfl rfl rfl rfl ?_
   refine WL_off rfl rfl rfl rfl ?_
   refine o_pick rfl (v := .bool _) rfl rfl ?_
   refine WL_nil ?_
   refine W_then rfl ?_
   refine W_seq ?_
   refine W_region ?_
   refine o_assign (v := .bool _) rfl rfl ?_
   refine WL_nil ?_
   refine W_exit ?_
   refine bcons_far rfl ?_
   refine bcons_far rfl ?_
   refine bcons_far rfl ?_
   refine bcons_here ?_
   refine W_seq ?_
   refine W_seq ?_
   refine W_region ?_
   refine o_move (v := .bool _) rfl rfl ?_
   refine o_not rfl rfl ?_
   refine WL_nil ?_
   refine W_then rfl ?_
   refine W_seq ?_
   refine W_region ?_
   refine o_assign (v := .slice _ _ _) rfl rfl ?_
   refine o_assign (v := .int .i64 _) rfl rfl ?_
   refine WL_nil ?_
   refine W_ret ?_
   refine ret_2 rfl (by conv => lhs; whnf) (by conv => lhs; whnf) ?_
   have hnd : ¬ isDig b := by unfold isDig; omega
   refine ⟨.inr ⟨rfl, hP.fail hne (fun x hx he => (hs.stop hb hnd ?_ hx he).elim)⟩, S.fin⟩
   exact .inl (by omega)
  refine o_move (v := .bool _) rfl rfl ?_
  refine WL_on rfl rfl rfl ?_
  refine o_move (v := .int .u8 _) rfl rfl ?_
  refine WL_on rfl rfl rfl ?_
  refine o_gtr rfl rfl rfl (fun h47 => ?_) fun h47 => ?_
  ·refine o_pick rfl (v := .bool _) rfl rfl ?_
   refine WL_nil ?_
   refine W_then rfl ?_
   refine W_seq ?_
   refine W_region ?_
   refine o_assign (v := .bool _) rfl rfl ?_
   refine WL_nil ?_
   refine W_exit ?_
   refine bcons_far rfl ?_
   refine bcons_far rfl ?_
   refine bcons_far rfl ?_
   refine bcons_here ?_
   refine W_seq ?_
   refine W_seq ?_
   refine W_region ?_
   refine o_move (v := .bool _) rfl rfl ?_
   refine o_not rfl rfl ?_
   refine WL_nil ?_
   refine W_then rfl ?_
   refine W_seq ?_
   refine W_region ?_
   refine o_assign (v := .slice _ _ _) rfl rfl ?_
   refine o_assign (v := .int .i64 _) rfl rfl ?_
   refine WL_nil ?_
   refine W_ret ?_
   refine ret_2 rfl (by conv => lhs; whnf) (by conv => lhs; whnf) ?_
   have hnd : ¬ isDig b := by unfold isDig; omega
   refine ⟨.inr ⟨rfl, hP.fail hne (fun x hx he => (hs.stop hb hnd ?_ hx he).elim)⟩, S.fin⟩
   exact .inl (by omega)
  refine o_pick rfl (v := .bool _) rfl rfl ?_
  refine WL_nil ?_
  refine W_else rfl ?_
  refine W_skip ?_
  refine W_region ?_
  refine o_add rfl rfl (by unfold i64; omega) rfl ?_
  refine o_move (v := .int .i64 _) rfl rfl ?_
  refine WL_nil ?_
  refine ⟨μi - 1, by omega, rfl, (i + 1), (_), (by omega), ?_, S, rfl, rfl, rfl, rfl, rfl, rfl, rfl, rfl⟩
  exact hs.dig hb (by unfold isDig; omega)
 refine WL_nil ?_
 refine W_seq ?_
 refine W_else rfl ?_
 refine W_exit ?_
 refine bcons_here ?_
 refine W_seq ?_
 refine W_seq ?_
 refine W_region ?_
 refine o_move (v := .int .i64 _) rfl rfl ?_
 refine o_lss rfl rfl rfl (fun h51 => ?_) fun h51 => ?_
 ·refine o_move (v := .bool _) rfl rfl ?_
  refine WL_off rfl rfl rfl rfl ?_
  refine WL_off rfl rfl rfl rfl ?_
  refine WL_off rfl rfl rfl rfl ?_
  refine o_pick rfl (v := .bool _) rfl rfl ?_
  refine WL_nil ?_
  refine W_then rfl ?_
  refine W_seq ?_
  refine W_region ?_
  refine o_assign (v := .bool _) rfl rfl ?_
  refine WL_nil ?_
  refine W_exit ?_
  refine bcons_far rfl ?_
  refine bcons_here ?_
  refine W_seq ?_
  refine W_seq ?_
  refine W_region ?_
  refine o_move (v := .bool _) rfl rfl ?_
  refine o_not rfl rfl ?_
  refine WL_nil ?_
  refine W_then rfl ?_
  refine W_seq ?_
  refine W_region ?_
  refine o_assign (v := .slice _ _ _) rfl rfl ?_
  refine o_assign (v := .int .i64 _) rfl rfl ?_
  refine WL_nil ?_
  refine W_ret ?_
  refine ret_2 rfl (by conv => lhs; whnf) (by conv => lhs; whnf) ?_
  exact ⟨.inr ⟨rfl, hP.fail hne (fun x hx he => (hs.none (by omega) h51 hx he).elim)⟩, S.fin⟩
 refine o_move (v := .bool _) rfl rfl ?_
 refine WL_on rfl rfl rfl ?_
 refine o_move (v := .slice _ _ _) rfl rfl ?_
 refine WL_on rfl rfl rfl ?_
 refine o_len slz_22.slT rfl rfl ?_
 refine WL_on rfl rfl rfl ?_
 refine o_eql rfl rfl rfl (fun h55 => ?_) fun h55 => ?_
 ·refine o_pick rfl (v := .bool _) rfl rfl ?_
  refine WL_nil ?_
  refine W_then rfl ?_
  refine W_seq ?_
  refine W_region ?_
  refine o_assign (v := .bool _) rfl rfl ?_
  refine WL_nil ?_
  refine W_exit ?_
  refine bcons_far rfl ?_
  refine bcons_here ?_
  refine W_seq ?_
  refine W_seq ?_
  refine W_region ?_
  refine o_move (v := .bool _) rfl rfl ?_
  refine o_not rfl rfl ?_
  refine WL_nil ?_
  refine W_then rfl ?_
  refine W_seq ?_
  refine W_region ?_
  refine o_assign (v := .slice _ _ _) rfl rfl ?_
  refine o_assign (v := .int .i64 _) rfl rfl ?_
  refine WL_nil ?_
  refine W_ret ?_
  refine ret_2 rfl (by conv => lhs; whnf) (by conv => lhs; whnf) ?_
  have h55' : (run.length : Int) = 120 := h55
  exact ⟨.inr ⟨rfl, hP.fail hne (fun x hx he => by omega)⟩, S.fin⟩
 refine o_pick rfl (v := .bool _) rfl rfl ?_
 refine WL_nil ?_
 refine W_else rfl ?_
 refine W_skip ?_
 refine W_seq ?_
 refine W_region ?_
 refine o_move (v := .string _) rfl rfl ?_
 refine o_move (v := .int .i64 _) rfl rfl ?_
 obtain ⟨k, rfl, hM⟩ := hs.done (by omega) (by omega)
 obtain ⟨mk, hmk⟩ : ∃ b, (cutA rest)[k]? = some b := by rcases hM.1 with h | h <;> exact ⟨_, h⟩
 refine o_calln S has_29 rfl rfl (choice_fn (cutA rest) k mk hmk hM.2.1 hM.2.2 (by omega) _) ?_
 rintro v60 w60 ⟨x60, rfl, hx60⟩ S60 X60
 refine o_move (v := .tuple _) rfl rfl ?_
 refine o_extract rfl rfl rfl ?_
 refine o_extract rfl rfl rfl ?_
 refine o_alloc S60 zv_53 rfl rfl ?_
 intro g12 w12 S12 X12 G12
 refine o_storeN (kk := 0) (vs := [_, _, _]) S12 sz_53 rfl rfl rfl rfl rfl rfl rfl ?_
 intro w21_7 S21_7 X21_7
 dsimp only [setsAt, List.set] at S21_7
 refine o_assign (v := .bool _) rfl rfl ?_
 refine WL_nil ?_
 refine W_seq ?_
 refine W_seq ?_
 refine W_region ?_
 cases hb63 : decide (choiceOk (cutA rest) k)
 ·refine o_move (v := .bool _) rfl rfl ?_
  refine o_not rfl rfl ?_
  refine WL_nil ?_
  refine W_then rfl ?_
  refine W_seq ?_
  refine W_region ?_
  refine o_assign (v := .bool _) rfl rfl ?_
  refine WL_nil ?_
  refine W_exit ?_
  refine bcons_far rfl ?_
  refine bcons_here ?_
  refine W_seq ?_
  refine W_seq ?_
  refine W_region ?_
  refine o_move (v := .bool _) rfl rfl ?_
  refine o_not rfl rfl ?_
  refine WL_nil ?_
  refine W_then rfl ?_
  refine W_seq ?_
  refine W_region ?_
  refine o_assign (v := .slice _ _ _) rfl rfl ?_
  refine o_assign (v := .int .i64 _) rfl rfl ?_
  refine WL_nil ?_
  refine W_ret ?_
  refine ret_2 rfl (by conv => lhs; whnf) (by conv => lhs; whnf) ?_
  have hno : ¬ choiceOk (cutA rest) k := of_decide_eq_false hb63
  exact ⟨.inr ⟨rfl, hP.fail hne (fun x hx he => absurd (he ▸ (word_choice hx (he ▸ hM)).1) hno)⟩, S21_7.fin⟩
 refine o_move (v := .bool _) rfl rfl ?_
 refine o_not rfl rfl ?_
 refine WL_nil ?_
 refine W_else rfl ?_
 refine W_skip ?_
 refine W_region ?_
 refine o_move (v := .slice _ _ _) rfl rfl ?_
 refine o_loadN many_53 rfl (S21_7.cells 0 rfl) rfl rfl ?_
 refine o_buildSlice S21_7 slz_22 (vs := [.agg _]) (cs := [_, _, _]) (by rfl) rfl rfl rfl rfl rfl rfl ?_
 intro g67 w67 S67 X67 G67
 have hok := of_decide_eq_true hb63
 have hxw := hok.2.2
 have hword := choice_word hM hok
 have ex60 := hx60 hok
 refine o_append1 law_choice (k := 2) (M2 := []) (e1 := x60) S67 slz_22 (by decide) rfl hrow rfl rfl (S67.cells 0 rfl) (RChoice.of (by have := hxw.1; have := hxw.2.1; rw [ex60]; unfold i64; omega) (by rw [ex60]; rcases hxw.2.2 with h | h <;> unfold i64 <;> omega) (by rw [ex60]; rcases hxw.2.2 with h | h <;> unfold i64 <;> omega)) (by have := hP.le; omega) rfl ?_
 intro v68 G68 cs68 w68 S68 hrow68 X68 F68
 subst ex60
 refine o_assign (by conv => lhs; whnf) rfl ?_
 refine WL_nil ?_
 have hmu2 : (cutB rest).length + (decide (0 ≤ Lib.indexByte rest 32)).toNat < μ := by
  rw [← hmu, Bool.toNat_true]; omega
 have hpl := hP.le
 refine ⟨(cutB rest).length + (decide (0 ≤ Lib.indexByte rest 32)).toNat, by omega, rfl, (_), (_), (_), (_), (cutB rest), (decide (0 ≤ Lib.indexByte rest 32)), (hrow68), (rfl), (by omega), (fun h => hP.next (by omega) (of_decide_eq_true h) hxw hword), (fun h => hP.last (by omega) (of_decide_eq_false h) hxw hword), S68.tail.tail, rfl, rfl, rfl, rfl⟩
end Go.Proofs.YtgnbfmifjlnigaaGreatDoor
namespace Go.Fw
open Go.RowKit
def eOne13 : E := ⟨1, 1, 1, []⟩
def eNext13 : E := ⟨8, 2, 0, [⟨2, 2, 0, []⟩, ⟨1, 2, 1, []⟩]⟩
def counterP : ProgD :=
 ⟨[⟨⟨#[77, 46, 120]⟩, 2, 3, -1, false, 0⟩], [⟨⟨#[77]⟩, ⟨#[65]⟩, eOne13, eOne13, [0]⟩], [],
  [⟨⟨#[116]⟩, 3, [eOne13, eOne13, eOne13], [0, 0, 0], [⟨4, 0, 1, eOne13, [⟨0, eNext13⟩], false, 0, 0⟩, ⟨4, 1, 2, eOne13, [⟨0, eNext13⟩], false, 0, 0⟩], [], false⟩]⟩
theorem counter_ok : ProgOK counterP := progB_ok (by kernel_rfl)
def runA : List ChoiceD := [⟨0, 3, 0⟩, ⟨1, -1, 4⟩]
def textA : List UInt8 := [48, 46, 51, 32, 49, 33, 52]
def runD : List ChoiceD := [⟨0, 0, 0⟩, ⟨0, 1, 0⟩, ⟨0, 0, 0⟩]
theorem wr_runA : ∀ x ∈ runA, WrC x := by decide
theorem join_runA : joinL runA = textA := by
 simp only [runA, textA, joinL, wordL, decL]
 rw [if_neg (by decide), if_pos (by decide)]
 simp only [show (0 : Int).toNat = 0 from rfl, show (1 : Int).toNat = 1 from rfl, show (3 : Int).toNat = 3 from rfl, show (4 : Int).toNat = 4 from rfl]
 rw [Lib.decDigits_one (by omega), Lib.decDigits_one (by omega), Lib.decDigits_one (by omega), Lib.decDigits_one (by omega)]
 rfl
theorem text_runA : textC runA = (textA, 0) := by
 unfold textC
 rw [if_neg (by decide), if_pos wr_runA, join_runA]
theorem text_bad : textC [⟨4, 0, 0⟩] = ([], 1) := by
 unfold textC
 rw [if_neg (by decide), if_neg (by decide)]
theorem no_textB : NoText [48, 46, 48, 51] := fun l hl _ h => by
 cases l with
 | nil => simp [joinL] at h
 | cons x l =>
   have hx := hl x (by simp)
   have hc := (cut_word hx h).1
   have hi : Lib.indexByte [48, 46, 48, 51] 32 = -1 := index_neg (by decide)
   rw [cut_last (by rw [hi]; omega)] at hc
   have hm : MarkAt ([48, 46, 48, 51] : List UInt8) 1 := ⟨.inl rfl, by decide, by decide⟩
   have := (word_choice hx (hc ▸ hm)).1.2.1
   rw [← hc] at this
   exact absurd this (by decide)
theorem runD_len : decide ((runC counterP 0 runD).length = 3) = true := by kernel_rfl
theorem runD_2 : decide ((runC counterP 0 runD)[2]? = some ⟨[1], [2], [[]]⟩) = true := by kernel_rfl
end Go.Fw
namespace Go.Proofs.YtgnbfmifjlnigaaGreatDoor
open Go.Fw Go.RowKit
theorem parse_good (run : List ChoiceD) (hw : ∀ x ∈ run, WrC x) (hn : run.length ≤ 120) (text : List UInt8) (ht : joinL run = text) (w0 : World) :
 Does Tryz.prog 10 #[.string (strL text)] w0 fun v w' => (∃ vs, v = .tuple #[vs, .int .i64 0] ∧ RdCh [] w' vs run) ∧ Below w0.heap.size w0 w' := by
 refine Calls.mono (parse_fn text (by rw [← ht]; have := joinL_len run hw; omega) w0) ?_
 rintro e w' ⟨v, rfl, h, hb⟩
 rcases h with ⟨vs, l, rfl, h1, h2, h3, h4⟩ | ⟨rfl, h1⟩
 ·obtain rfl := joinL_inj l run h2 hw (h4.trans ht.symm)
  exact ⟨_, rfl, ⟨vs, rfl, h1⟩, hb⟩
 ·exact absurd ht (h1 run hw hn)
theorem parse_bad (text : List UInt8) (hl : text.length ≤ 100000) (ht : NoText text) (w0 : World) :
 Does Tryz.prog 10 #[.string (strL text)] w0 fun v w' => v = .tuple #[.slice none 0 0, .int .i64 130] ∧ Below w0.heap.size w0 w' := by
 refine Calls.mono (parse_fn text hl w0) ?_
 rintro e w' ⟨v, rfl, h, hb⟩
 rcases h with ⟨vs, l, rfl, h1, h2, h3, h4⟩ | ⟨rfl, h1⟩
 ·exact absurd h4 (ht l h2 h3)
 ·exact ⟨_, rfl, rfl, hb⟩
theorem counter_fn (w0 : World) :
 Does Tryz.prog 23 #[] w0 fun v w' => (∃ cs : List Value, v = .agg cs.toArray ∧ RdProg [] w' counterP cs) ∧ Below w0.heap.size w0 w' := by
 have S := St.refl w0
 refine dnR Tryz.func23 rfl Tryz.ntmps23 rfl ?_
 refine wO0 rfl ⟨⟩ (o_alloc S zv_36 rfl rfl ?_)
 intro g0 w0 S0 X0 G0
 refine lO0 rfl ⟨⟩ (o_build bld_73 (vs := [(0, .int .i64 _), (1, .int .i64 _), (2, .int .i64 _)]) (cs := [_, _, _, _]) rfl rfl rfl rfl ?_)
 refine o_alloc S0 zv_73 rfl rfl ?_
 intro g1 w1 S1 X1 G1
 first | refine o_storeN (kk := 0) (vs := [_, _, _, _]) S1 sz_73 rfl rfl rfl rfl rfl rfl rfl ?_
 intro w1_2 S1_2 X1_2
 dsimp only [setsAt, List.set] at S1_2
 refine lO0 rfl ⟨⟩ (o_build bld_73 (vs := [(0, .int .i64 _), (1, .int .i64 _)]) (cs := [_, _, _, _]) rfl rfl rfl rfl ?_)
 refine o_build bld_73 (vs := [(0, .int .i64 _), (1, .int .i64 _), (2, .int .i64 _)]) (cs := [_, _, _, _]) rfl rfl rfl rfl ?_
 refine o_buildSlice S1_2 slz_71 (vs := [.agg _, .agg _]) (cs := [_, _, _, _, _, _, _, _]) (by rfl) rfl rfl rfl rfl rfl rfl ?_
 intro g10 w10 S10 X10 G10
 refine o_build bld_73 (vs := [(0, .int .i64 _), (1, .int .i64 _), (3, .slice _ _ _)]) (cs := [_, _, _, _]) rfl rfl rfl rfl ?_
 refine o_alloc S10 zv_73 rfl rfl ?_
 intro g2 w2 S2 X2 G2
 first | refine o_storeN (kk := 0) (vs := [_, _, _, _]) S2 sz_73 rfl rfl rfl rfl rfl rfl rfl ?_
 intro w2_5 S2_5 X2_5
 dsimp only [setsAt, List.set] at S2_5
 refine lO S2_5.k [.w 2,.w 0] rfl ⟨⟨rfl,by rfl⟩,⟨rfl,by rfl⟩,⟨⟩⟩ (o_build bld_109 (vs := [(0, .int .i64 _), (1, .agg _)]) (cs := [_, _, _, _, _]) rfl rfl rfl rfl ?_)
 refine o_buildSlice S2_5 slz_110 (vs := [.agg _]) (cs := [_, _, _, _, _]) (by rfl) rfl rfl rfl rfl rfl rfl ?_
 intro g15 w15 S15 X15 G15
 refine o_build bld_112 (vs := [(0, .int .i64 _), (3, .agg _), (4, .slice _ _ _)]) (cs := [_, _, _, _, _, _, _, _, _, _, _]) rfl rfl rfl rfl ?_
 refine o_alloc S15 zv_112 rfl rfl ?_
 intro g3 w3 S3 X3 G3
 first | refine o_storeN (kk := 0) (vs := [_, _, _, _, _, _, _, _, _, _, _]) S3 sz_112 rfl rfl rfl rfl rfl rfl rfl ?_
 intro w3_6 S3_6 X3_6
 dsimp only [setsAt, List.set] at S3_6
 refine lO S3_6.k [.w 0] rfl ⟨⟨rfl,by rfl⟩,⟨⟩⟩ (o_alloc S3_6 zv_112 rfl rfl ?_)
 intro g4 w4 S4 X4 G4
 first | refine o_storeN (kk := 0) (vs := [_, _, _, _, _, _, _, _, _, _, _]) S4 sz_112 rfl rfl rfl rfl rfl rfl rfl ?_
 intro w4_2 S4_2 X4_2
 dsimp only [setsAt, List.set] at S4_2
 refine lO0 rfl ⟨⟩ ?_
 first | refine o_store (kk := 0) S4_2 sz_3 rfl (by conv => lhs; whnf) rfl rfl (by exact Nat.le_of_ble_eq_true rfl) ?_
 intro w5_1 S5_1 X5_1
 refine lO S5_1.k [.w 1] rfl ⟨⟨rfl,by rfl⟩,⟨⟩⟩ (o_alloc S5_1 zv_112 rfl rfl ?_)
 intro g5 w5 S5 X5 G5
 first | refine o_storeN (kk := 0) (vs := [_, _, _, _, _, _, _, _, _, _, _]) S5 sz_112 rfl rfl rfl rfl rfl rfl rfl ?_
 intro w6_2 S6_2 X6_2
 dsimp only [setsAt, List.set] at S6_2
 refine lO0 rfl ⟨⟩ ?_
 first | refine o_store (kk := 0) S6_2 sz_3 rfl (by conv => lhs; whnf) rfl rfl (by exact Nat.le_of_ble_eq_true rfl) ?_
 intro w7_1 S7_1 X7_1
 refine lO0 rfl ⟨⟩ ?_
 first | refine o_store (kk := 0) S7_1 sz_3 rfl (by conv => lhs; whnf) rfl rfl (by exact Nat.le_of_ble_eq_true rfl) ?_
 intro w8_1 S8_1 X8_1
 refine lO S8_1.k [.w 6,.w 6,.w 6] rfl ⟨⟨rfl,by rfl⟩,⟨rfl,by rfl⟩,⟨rfl,by rfl⟩,⟨⟩⟩ (o_buildSlice S8_1 slz_71 (vs := [.agg _, .agg _, .agg _]) (cs := [_, _, _, _, _, _, _, _, _, _, _, _]) (by rfl) rfl rfl rfl rfl rfl rfl ?_)
 intro g25 w25 S25 X25 G25
 refine o_buildSlice S25 slz_43 (vs := [.int .i64 _, .int .i64 _, .int .i64 _]) (cs := [_, _, _]) (by rfl) rfl rfl rfl rfl rfl rfl ?_
 intro g26 w26 S26 X26 G26
 refine lO S26.k [.w 3,.w 2] rfl ⟨⟨rfl,by rfl⟩,⟨rfl,by rfl⟩,⟨⟩⟩ (o_buildSlice S26 slz_80 (vs := [.agg _, .agg _]) (cs := [_, _, _, _, _, _, _, _, _, _, _, _, _, _, _, _, _, _, _, _, _, _]) (by rfl) rfl rfl rfl rfl rfl rfl ?_)
 intro g29 w29 S29 X29 G29
 refine o_build bld_83 (vs := [(0, .string _), (1, .int .i64 _), (2, .slice _ _ _), (3, .slice _ _ _), (4, .slice _ _ _)]) (cs := [_, _, _, _, _, _, _]) rfl rfl rfl rfl ?_
 refine o_alloc S29 zv_83 rfl rfl ?_
 intro g6 w6 S6 X6 G6
 first | refine o_storeN (kk := 0) (vs := [_, _, _, _, _, _, _]) S6 sz_83 rfl rfl rfl rfl rfl rfl rfl ?_
 intro w9_10 S9_10 X9_10
 dsimp only [setsAt, List.set] at S9_10
 refine lO0 rfl ⟨⟩ (o_build bld_90 (vs := [(0, .string _), (1, .int .i64 _), (2, .int .i64 _), (3, .int .i64 _)]) (cs := [_, _, _, _, _, _]) rfl rfl rfl rfl ?_)
 refine o_buildSlice S9_10 slz_31 (vs := [.agg _]) (cs := [_, _, _, _, _, _]) (by rfl) rfl rfl rfl rfl rfl rfl ?_
 intro g32 w32 S32 X32 G32
 refine lO S32.k [.w 11,.w 11] rfl ⟨⟨rfl,by rfl⟩,⟨rfl,by rfl⟩,⟨⟩⟩ (o_buildSlice S32 slz_43 (vs := [.int .i64 _]) (cs := [_]) (by rfl) rfl rfl rfl rfl rfl rfl ?_)
 intro g35 w35 S35 X35 G35
 refine o_build bld_75 (vs := [(0, .string _), (1, .string _), (2, .agg _), (3, .agg _), (4, .slice _ _ _)]) (cs := [_, _, _, _, _, _, _, _, _, _, _]) rfl rfl rfl rfl ?_
 refine o_buildSlice S35 slz_32 (vs := [.agg _]) (cs := [_, _, _, _, _, _, _, _, _, _, _]) (by rfl) rfl rfl rfl rfl rfl rfl ?_
 intro g37 w37 S37 X37 G37
 refine lO S37.k [.w 3] rfl ⟨⟨rfl,by rfl⟩,⟨⟩⟩ (o_buildSlice S37 slz_34 (vs := [.agg _]) (cs := [_, _, _, _, _, _, _]) (by rfl) rfl rfl rfl rfl rfl rfl ?_)
 intro g39 w39 S39 X39 G39
 refine o_build bld_36 (vs := [(0, .slice _ _ _), (1, .slice _ _ _), (3, .slice _ _ _)]) (cs := [_, _, _, _]) rfl rfl rfl rfl ?_
 first | refine o_storeN (kk := 15) (vs := [_, _, _, _]) S39 sz_36 rfl rfl rfl rfl rfl rfl rfl ?_
 intro w10_10 S10_10 X10_10
 dsimp only [setsAt, List.set] at S10_10
 refine lR0 rfl ⟨⟩ ?_
 have SF := S10_10
 have i0 : i64 0 := by unfold i64; omega
 have i1 : i64 1 := by unfold i64; omega
 have i2 : i64 2 := by unfold i64; omega
 have i3 : i64 3 := by unfold i64; omega
 have i4 : i64 4 := by unfold i64; omega
 have i8 : i64 8 := by unfold i64; omega
 have im : i64 (-1) := by unfold i64; omega
 have hone : RdE [] w10_10 eOne13 [.int .i64 1, .int .i64 1, .int .i64 1, .slice none 0 0] := rdE_leaf i1 i1 i1
 have hnext : RdE [] w10_10 eNext13 [.int .i64 8, .int .i64 2, .int .i64 0, .slice (some ⟨g10, 0, none⟩) 2 2] := rdE_two i8 i2 (by simp) (SF.cells 13 rfl) (rdE_leaf (op := 2) (wd := 2) (n := 0) i2 i2 i0) (rdE_leaf (op := 1) (wd := 2) (n := 1) i1 i2 i1)
 have hset : RdAs [] w10_10 (.slice (some ⟨g15, 0, none⟩) 1 1) [⟨0, eNext13⟩] := rdS_1 (by simp) (SF.cells 11 rfl) rfl ⟨_, rfl, i0, hnext⟩
 have hst : RdSt [] w10_10 (.slice (some ⟨g29, 0, none⟩) 2 2) [⟨4, 0, 1, eOne13, [⟨0, eNext13⟩], false, 0, 0⟩, ⟨4, 1, 2, eOne13, [⟨0, eNext13⟩], false, 0, 0⟩] :=
  rdS_2 (c := [_, _, _, _, _, _, _, _, _, _, _]) (c2 := [_, _, _, _, _, _, _, _, _, _, _]) (by simp) (SF.cells 5 rfl) rfl rfl ⟨_, _, _, _, _, rfl, i4, i0, i1, i0, i0, hone, hset⟩ ⟨_, _, _, _, _, rfl, i4, i1, i2, i0, i0, hone, hset⟩
 have has : RdEs [] w10_10 (.slice (some ⟨g25, 0, none⟩) 3 3) [eOne13, eOne13, eOne13] := rdS_3 (c := [_, _, _, _]) (c2 := [_, _, _, _]) (c3 := [_, _, _, _]) (by simp) (SF.cells 7 rfl) rfl rfl rfl hone hone hone
 have hmo : RdI [] w10_10 (.slice (some ⟨g26, 0, none⟩) 3 3) [0, 0, 0] := rdI_own SF (k := 6) rfl (by simp) rfl (by omega) (by simp [i0])
 have hfr : RdI [] w10_10 (.slice (some ⟨g35, 0, none⟩) 1 1) [0] := rdI_own SF (k := 2) rfl (by simp) rfl (by omega) (by simp [i0])
 refine ret_cell1 rfl many_36 rfl (SF.cells 15 rfl) rfl ⟨⟨_, rfl, _, _, _, _, rfl, ?_, ?_, rdS_nil, ?_⟩, SF.fin⟩
 ·exact rdS_1 (by simp) (SF.cells 3 rfl) rfl ⟨rfl, i2, i3, im, i0⟩
 ·exact rdS_1 (by simp) (SF.cells 1 rfl) rfl ⟨_, _, _, _, _, _, _, _, _, rfl, hone, hone, hfr⟩
 ·exact rdS_1 (by simp) (SF.cells 0 rfl) rfl ⟨_, _, _, _, rfl, i3, has, hmo, hst, rdS_nil⟩
theorem head_fn (w0 : World) (hK : Masks [] w0) :
 Does Tryz.prog 8 #[] w0 fun v w' => v = .bool true ∧ Below w0.heap.size w0 w' := by
 have S := St.refl w0
 have i0 : i64 0 := by unfold i64; omega
 have i1 : i64 1 := by unfold i64; omega
 have i2 : i64 2 := by unfold i64; omega
 have i3 : i64 3 := by unfold i64; omega
 have i4 : i64 4 := by unfold i64; omega
 have im : i64 (-1) := by unfold i64; omega
 refine dnR Tryz.func8 rfl Tryz.ntmps8 rfl ?_
 refine wO0 rfl ⟨⟩ (o_build bld_53 (vs := [(0, .int .i64 _), (1, .int .i64 _)]) (cs := [_, _, _]) rfl rfl rfl rfl ?_)
 refine o_build bld_53 (vs := [(0, .int .i64 _), (1, .int .i64 _), (2, .int .i64 _)]) (cs := [_, _, _]) rfl rfl rfl rfl ?_
 refine o_buildSlice S slz_22 (vs := [.agg _, .agg _]) (cs := [_, _, _, _, _, _]) (by rfl) rfl rfl rfl rfl rfl rfl ?_
 intro g16 w16 S16 X16 G16
 refine lO0 rfl ⟨⟩ ?_
 have hA : RdCh [] w16 (.slice (some ⟨g16, 0, none⟩) 2 2) runA := rdS_2 (c := [_, _, _]) (c2 := [_, _, _]) (by simp) (S16.cells 0 rfl) rfl rfl ⟨rfl, i0, i3, i0⟩ ⟨rfl, i1, im, i4⟩
 refine o_callr S16 has_9 rfl rfl (does_eq (text_fn runA [] _ _ hA) (by rw [text_runA])) ?_
 intro w19 S19 X19
 replace hA := hA.keep (X19.of_nil)
 refine lO0 rfl ⟨⟩ (o_calln S19 has_10 rfl rfl (parse_good runA wr_runA (by decide) textA join_runA _) ?_)
 rintro v23 w23 ⟨_, rfl, hB⟩ S23 X23
 replace hA := hA.keep (X23.of_nil)
 refine lOn 1 S23.k [] rfl ⟨⟩ (o_extract rfl rfl rfl ?_)
 refine lOn 1 S23.k [] rfl ⟨⟩ (o_assign (by conv => lhs; whnf) rfl ?_)
 refine lO0 rfl ⟨⟩ (o_callr S23 has_10 rfl rfl (parse_bad [48, 46, 48, 51] (by decide) no_textB _) ?_)
 intro w27 S27 X27
 replace hA := hA.keep (X27.of_nil)
 replace hB := hB.keep (X27.of_nil)
 refine lO0 rfl ⟨⟩ (o_build bld_53 (vs := [(0, .int .i64 _)]) (cs := [_, _, _]) rfl rfl rfl rfl ?_)
 refine o_buildSlice S27 slz_22 (vs := [.agg _]) (cs := [_, _, _]) (by rfl) rfl rfl rfl rfl rfl rfl ?_
 intro g32 w32 S32 X32 G32
 replace hA := hA.keep (X32.of_nil)
 replace hB := hB.keep (X32.of_nil)
 have hC : RdCh [] w32 (.slice (some ⟨g32, 0, none⟩) 1 1) [⟨4, 0, 0⟩] := rdS_1 (by simp) (S32.cells 0 rfl) rfl ⟨rfl, i4, i0, i0⟩
 refine o_callr S32 has_9 rfl rfl (does_eq (text_fn _ [] _ _ hC) (by rw [text_bad])) ?_
 intro w33 S33 X33
 replace hA := hA.keep (X33.of_nil)
 replace hB := hB.keep (X33.of_nil)
 refine lO0 rfl ⟨⟩ (o_calln S33 has_23 rfl rfl (counter_fn _) ?_)
 rintro v37 w37 ⟨_, rfl, hP⟩ S37 X37
 replace hA := hA.keep (X37.of_nil)
 replace hB := hB.keep (X37.of_nil)
 refine o_build bld_53 (vs := [(1, .int .i64 _)]) (cs := [_, _, _]) rfl rfl rfl rfl ?_
 refine o_build bld_53 (vs := [(1, .int .i64 _)]) (cs := [_, _, _]) rfl rfl rfl rfl ?_
 refine o_build bld_53 (vs := [(1, .int .i64 _)]) (cs := [_, _, _]) rfl rfl rfl rfl ?_
 refine o_buildSlice S37 slz_22 (vs := [.agg _, .agg _, .agg _]) (cs := [_, _, _, _, _, _, _, _, _]) (by rfl) rfl rfl rfl rfl rfl rfl ?_
 intro g41 w41 S41 X41 G41
 replace hA := hA.keep (X41.of_nil)
 replace hB := hB.keep (X41.of_nil)
 replace hP := hP.keep (X41.of_nil)
 have hD : RdCh [] w41 (.slice (some ⟨g41, 0, none⟩) 3 3) runD := rdS_3 (c := [_, _, _]) (c2 := [_, _, _]) (c3 := [_, _, _]) (by simp) (S41.cells 0 rfl) rfl rfl rfl ⟨rfl, i0, i0, i0⟩ ⟨rfl, i0, i1, i0⟩ ⟨rfl, i0, i0, i0⟩
 refine o_calln S41 has_13 rfl rfl (run_fn counterP 0 (.inl rfl) runD [] _ _ _ ⟨hP, counter_ok, hK.keep (S41.keep0 []), by simp⟩ hD (by decide)) ?_
 rintro v42 w42 ⟨_, rfl, hL⟩ S42 X42
 replace hA := hA.keep (X42.of_nil)
 replace hB := hB.keep (X42.of_nil)
 have KI := Keep.refl [] w42
 obtain ⟨_, _, _, rfl⟩ := hL.form
 have hnl := hL.len.1
 have hr3 := of_decide_eq_true runD_len
 have her : errC counterP 0 runD = 110 := by unfold errC; rw [if_neg (by rw [hr3]; decide)]
 refine lOn 12 S42.k [] rfl ⟨⟩ (o_eqlS rfl rfl rfl (fun h47 => ?_) fun h47 => ?_)
 ·refine lB0 rfl ⟨⟩ (fun h50 => ?_) (fun h50 => by exfalso; omega)
  refine lB0 rfl ⟨⟩ (fun h54 => ?_) (fun h54 => by exfalso; omega)
  refine lOn 2 S42.k [] rfl ⟨⟩ (WL_on rfl rfl rfl ?_)
  refine o_move (by conv => lhs; whnf) rfl ?_
  refine lO0 rfl ⟨⟩ (o_callr S42 has_11 rfl rfl (does_true (sameRun_fn runA runA [] _ _ _ hB hA) (decide_eq_true rfl)) ?_)
  intro w59 S59 X59
  replace KI := KI.trans X59
  refine lB0 rfl ⟨⟩ (fun h63 => ?_) (fun h63 => by exfalso; omega)
  refine lB0 rfl ⟨⟩ (fun h67 => ?_) (fun h67 => by exfalso; omega)
  refine lB0 rfl ⟨⟩ (fun h72 => ?_) (fun h72 => by exact absurd her h72)
  refine lB0 rfl ⟨⟩ (fun h76 => ?_) (fun h76 => by exfalso; omega)
  refine lB0 rfl ⟨⟩ (fun h81 => ?_) (fun h81 => by exfalso; omega)
  have hL2 := RdS.keepW hL KI (RConf.keep KI)
  obtain ⟨c85, b85, p85, c85, hxc85, hA85, _, _, hc85, hr85⟩ := RdS.get (hL2) (2) (by omega)
  obtain ⟨_, _, _, _, _, _, _, _, _, rfl, hMem85, _, _, _, _, _, _, _, _⟩ := RdConf.open_ hr85
  obtain rfl := Option.some.inj (hxc85.symm.trans (of_decide_eq_true runD_2))
  refine lO (S59.k.b hc85) [.x b85 p85,.f 0 0] rfl ⟨rfl,⟨hA85,by omega⟩,⟨⟩⟩ (o_buildSlice S59 slz_43 (vs := [.int .i64 _]) (cs := [_]) (by rfl) rfl rfl rfl rfl rfl rfl ?_)
  intro g88 w88 S88 X88 G88
  replace KI := KI.trans X88
  refine lO0 rfl ⟨⟩ (o_callr S88 has_24 rfl rfl (does_true (ints_fn [1] [1] [] _ _ _ (hMem85.keep X88) (rdI_own S88 (k := 0) rfl (by simp) rfl (by omega) (by simp [i1]))) (decide_eq_true rfl)) ?_)
  intro w89 S89 X89
  replace KI := KI.trans X89
  have hL3 := RdS.keepW hL KI (RConf.keep KI)
  obtain ⟨c93, b93, p93, c93, hxc93, hA93, _, _, hc93, hr93⟩ := RdS.get (hL3) (2) (by omega)
  obtain ⟨_, _, _, _, _, _, _, _, _, rfl, _, hAt93, _, _, _, _, _, _, _⟩ := RdConf.open_ hr93
  obtain rfl := Option.some.inj (hxc93.symm.trans (of_decide_eq_true runD_2))
  refine lO (S89.k.b hc93) [.x b93 p93,.f 0 1] rfl ⟨rfl,⟨hA93,by omega⟩,⟨⟩⟩ (o_buildSlice S89 slz_43 (vs := [.int .i64 _]) (cs := [_]) (by rfl) rfl rfl rfl rfl rfl rfl ?_)
  intro g96 w96 S96 X96 G96
  refine lO0 rfl ⟨⟩ (o_callr S96 has_24 rfl rfl (does_true (ints_fn [2] [2] [] _ _ _ (hAt93.keep X96) (rdI_own S96 (k := 0) rfl (by simp) rfl (by omega) (by simp [i2]))) (decide_eq_true rfl)) ?_)
  intro w97 S97 X97
  exact lT rfl ⟨⟩ rfl ⟨rfl, S97.fin⟩
 exact absurd rfl h47
end Go.Proofs.YtgnbfmifjlnigaaGreatDoor
namespace Go.Fw
open Go.RowKit
section
variable {p : ProgD} {m : Int}
theorem runTo_take : ∀ (run : List ChoiceD) (c : ConfD) (k : Nat), k ≤ (runTo p m c run).length → runTo p m c (run.take k) = (runTo p m c run).take k
 | [], c, k, h => by simp [runTo]
 | x :: l, c, 0, h => by simp [runTo]
 | x :: l, c, k + 1, h => by
   rw [List.take_succ_cons]
   by_cases hx : x ∈ choicesC p m c
   ·have e : runTo p m c (x :: l) = doC p m c x :: runTo p m (doC p m c x) l := by rw [runTo, if_pos hx]
    rw [e] at h ⊢
    rw [runTo, if_pos hx, List.take_succ_cons, runTo_take l _ k (by simpa using h)]
   ·have e : runTo p m c (x :: l) = [] := by rw [runTo, if_neg hx]
    rw [e] at h; simp at h
theorem runC_take {run : List ChoiceD} {k : Nat} (h : k < (runC p m run).length) : runC p m (run.take k) = (runC p m run).take (k + 1) := by
 rw [runC_len] at h
 unfold runC
 rw [List.take_succ_cons, runTo_take run _ k (by omega)]
theorem errC_iff {run : List ChoiceD} : errC p m run = 0 ↔ (runC p m run).length = run.length + 1 := by
 unfold errC
 split <;> simp_all
theorem runC_take_len {run : List ChoiceD} {k : Nat} (h : k < (runC p m run).length) : (runC p m (run.take k)).length = k + 1 := by
 rw [runC_take h, List.length_take]; omega
end
theorem mod_nat {a b : Int} (hb : 0 < b) : ∃ k : Nat, a % b = k ∧ (k : Int) < b := by
 obtain ⟨k, hk⟩ := Int.eq_ofNat_of_zero_le (Int.emod_nonneg a (show b ≠ 0 by omega))
 exact ⟨k, hk, hk ▸ Int.emod_lt_of_pos a hb⟩
end Go.Fw
namespace Go.Proofs.YtgnbfmifjlnigaaGreatDoor
open Go.Fw Go.RowKit
end Go.Proofs.YtgnbfmifjlnigaaGreatDoor
