/-
  Part 3 of 5 of a proof: ScheduleText of package relyguardlaw13 returns true for every input, and its arguments read as before.
  Conditions: those of the given row (the listed package variables as the program's text lays them).
-/
import Derived.Test.YtgnbfmifjlnigaaGreatDoorZScheduleText2
import Derived.Test.YtgnbfmifjlnigaaGreatDoorRows
import Derived.ProofKit
import Derived.LaidMore
import Derived.OpenShut
import Derived.Carry
import Derived.SizedLaws
import Derived.Stop.Joined
import Derived.Test.YtgnbfmifjlnigaaGreatDoorTie
import Derived.Test.YtgnbfmifjlnigaaGreatDoorCards
import Derived.SevenTiedAt
import Derived.Laws.CopyRow
import Derived.Laws.IdiomCopy
import Derived.Laws.StructEq
namespace Go.Fw
open Go.RowKit
theorem RdS.dropped {α : Type} {M : List Nat} {w : World} {size b o n c : Nat} {R : List Value → α → Prop} {l : List α} (h : RdS M w size R (.slice (some ⟨b, o, none⟩) n c) l) (lo : Nat) (hlo : lo ≤ n) :
    RdS M w size R (.slice (some (if c = lo then ⟨b, o, none⟩ else ⟨b, o + lo * size, none⟩)) (n - lo) (c - lo)) (l.drop lo) := by
  obtain ⟨h1, h2, h3, h4, h5⟩ := h.at
  refine ⟨_, _, _, rfl, by simp; omega, by omega, by omega, by omega, fun h0 => ?_⟩
  obtain ⟨b', o', hA, hb, hel⟩ := h5 (by omega)
  cases hA
  rw [if_neg (by omega)]
  refine ⟨b, o + lo * size, rfl, hb, fun i x hx => ?_⟩
  rw [List.getElem?_drop] at hx
  obtain ⟨cs, h6, h7, h8⟩ := hel _ x hx
  refine ⟨cs, h6, ?_, h8⟩
  rw [Nat.add_mul, ← Nat.add_assoc] at h7
  exact h7
end Go.Fw
namespace Go.Proofs.YtgnbfmifjlnigaaGreatDoor
open Go.Fw Go.RowKit
theorem valuesP_fn (s : StepD) (M : List Nat) (w0 : World) (ss : List Value) (vf : Value) (q : Int → Bool) (hS : RStep M w0 ss s) (hp : IsPred Tryz.prog M w0 vf q) (hK : Masks M w0) (hM : ∀ g ∈ M, g < w0.heap.size)
    (hg : supAll s.guard q = true) (hs : ∀ a ∈ s.set, supAll a.to q = true) :
    Does Tryz.prog 159 #[.agg ss.toArray, vf] w0 fun v w' => v = .bool true ∧ Below w0.heap.size w0 w' := by
  obtain ⟨Ag, ng, cg, As, ns, cs', rfl, ⟨i1, i2, i3, i4, i5⟩, hG, hSet, hns, bs⟩ := hS.open_
  obtain ⟨f, first, caps, rfl, hH, hf⟩ := id hp
  have S := St.refl w0
  have hM' : ∀ w' : World, w0.heap.size ≤ w'.heap.size → ∀ g ∈ M, g < w'.heap.size := fun w' h g hg => by have := hM g hg; omega
  refine Does_enter Tryz.func159 rfl Tryz.ntmps159 rfl ?_
  refine W_seq ?_
  refine W_region ?_
  refine o_boxa S (by conv => lhs; whnf) rfl ?_
  intro g2 w2 S2 X2 G2
  refine o_assign (v := .bool _) rfl rfl ?_
  refine WL_nil ?_
  refine W_seq ?_
  refine W_seq ?_
  refine W_region ?_
  refine o_fieldAddr fa_112_3 rfl rfl ?_
  refine o_loadN many_73 rfl (cs := [_, _, _, _]) (S2.cellsAt 0 3 4 rfl) rfl rfl ?_
  refine o_move (by conv => lhs; whnf) rfl ?_
  refine o_callr S2 has_98 rfl rfl (hg ▸ overP_fn _ M _ _ _ q (RdE.keep (S2.keep0 M) _ _ hG) (hp.keep (S2.keep0 M)) (hK.keep (S2.keep0 M)) (hM' _ S2.size)) ?_
  intro w10 S10 X10
  refine o_not rfl rfl ?_
  refine WL_nil ?_
  refine W_else rfl ?_
  refine W_skip ?_
  refine W_seq ?_
  refine W_seq ?_
  refine W_region ?_
  refine o_fieldAddr fa_112_4 rfl rfl ?_
  refine o_load one_110 rfl (by first | exact S10.cell 0 rfl rfl) rfl ?_
  refine o_len slz_110.slT rfl rfl ?_
  refine o_move (v := .int .i64 _) rfl rfl ?_
  refine WL_nil ?_
  refine W_block ?_
  refine W_loop (fun μk D ε w => D = [] ∧ ∃ k : Nat, (k + μk = (s.set.length)) ∧ St [] w0 w [(some g2, 112, [.int .i64 s.kind, .int .i64 s.frm, .int .i64 s.to, .int .i64 s.guard.op, .int .i64 s.guard.w, .int .i64 s.guard.n, .slice Ag ng cg, .slice As ns cs', .bool s.release, .int .i64 s.target, .int .i64 s.module_])] ∧ ε 1 = .func (.func f) first caps ∧ ε 13 = .slice As ns cs' ∧ ε 14 = .int .i64 ns ∧ ε 15 = .int .i64 k) (μ := (s.set.length)) ⟨rfl, 0, by omega, S10, rfl, rfl, rfl, rfl⟩ ?_
  rintro μk D ε w ⟨rfl, k, hk, S, e1, e13, e14, e15⟩
  refine W_known 1 e1 ?_
  refine W_known 13 e13 ?_
  refine W_known 14 e14 ?_
  refine W_known 15 e15 ?_
  clear e1 e13 e14 e15
  refine W_seq ?_
  refine W_region ?_
  refine o_lss rfl rfl rfl (fun h16 => ?_) (fun h16 => ?_)
  · refine WL_nil ?_
    refine W_seq ?_
    refine W_then rfl ?_
    refine W_skip ?_
    refine W_seq ?_
    refine W_block ?_
    refine W_seq ?_
    refine W_region ?_
    obtain ⟨a, b17, p17, c17, hxa, hA17, hM17, hl17, hc17, hr17⟩ := RdS.get (hSet) (k) (by omega)
    obtain ⟨Ae17, ne17, ce17, rfl, ia17, hE17⟩ := RAssign.open_ hr17
    refine o_indexAddr slz_110.slT rfl (by assumption) rfl (by omega) (by omega) rfl ?_
    refine o_loadN many_109 rfl (hc17.keep (S.keep0 _) hM17) (by rfl) rfl ?_
    refine o_alloc S zv_109 rfl rfl ?_
    intro g6 w6 S6 X6 G6
    refine o_storeN (kk := 0) (vs := [_, _, _, _, _]) S6 sz_109 rfl rfl rfl rfl rfl rfl rfl ?_
    intro w5_3 S5_3 X5_3
    dsimp only [setsAt, List.set] at S5_3
    refine WL_nil ?_
    refine W_seq ?_
    refine W_region ?_
    refine o_fieldAddr fa_109_1 rfl rfl ?_
    refine o_loadN many_73 rfl (cs := [_, _, _, _]) (S5_3.cellsAt 0 1 4 rfl) rfl rfl ?_
    refine o_move (by conv => lhs; whnf) rfl ?_
    refine o_callr S5_3 has_98 rfl rfl ((hs a (some_mem hxa)) ▸ overP_fn _ M _ _ _ q (RdE.keep (S5_3.keep0 M) _ _ hE17) (hp.keep (S5_3.keep0 M)) (hK.keep (S5_3.keep0 M)) (hM' _ S5_3.size)) ?_
    intro w22 S22 X22
    refine o_not rfl rfl ?_
    refine WL_nil ?_
    refine W_else rfl ?_
    refine W_skip ?_
    refine W_region ?_
    refine o_add rfl rfl (by unfold i64; omega) rfl ?_
    refine o_move (v := .int .i64 _) rfl rfl ?_
    refine WL_nil ?_
    refine ⟨μk - 1, by omega, rfl, (k + 1), (by omega), S22.tail, rfl, rfl, rfl, rfl⟩
  refine WL_nil ?_
  refine W_seq ?_
  refine W_else rfl ?_
  refine W_exit ?_
  refine bcons_here ?_
  refine W_seq ?_
  refine W_region ?_
  refine o_assign (v := .bool _) rfl rfl ?_
  refine WL_nil ?_
  refine W_ret ?_
  refine ret_1 rfl (by conv => lhs; whnf) ?_
  exact ⟨rfl, S.fin⟩
theorem targetsP_fn (l : List AssignD) (M : List Nat) (w0 : World) (v vf : Value) (q : Int → Bool) (hS : RdAs M w0 v l) (hp : IsPred Tryz.prog M w0 vf q) (hs : ∀ a ∈ l, q a.cell = true) :
    Does Tryz.prog 160 #[v, vf] w0 fun v w' => v = .bool true ∧ Below w0.heap.size w0 w' := by
  obtain ⟨As, ns, cs', rfl⟩ := hS.form
  obtain ⟨hns, hc, bs⟩ := hS.len
  obtain ⟨f, first, caps, rfl, hH, hf⟩ := id hp
  have S := St.refl w0
  refine Does_enter Tryz.func160 rfl Tryz.ntmps160 rfl ?_
  refine W_seq ?_
  refine W_region ?_
  refine o_assign (v := .bool _) rfl rfl ?_
  refine WL_nil ?_
  refine W_seq ?_
  refine W_seq ?_
  refine W_region ?_
  refine o_move (by conv => lhs; whnf) rfl ?_
  refine o_len slz_110.slT rfl rfl ?_
  refine o_move (v := .int .i64 _) rfl rfl ?_
  refine WL_nil ?_
  refine W_block ?_
  refine W_loop (fun μk D ε w => D = [] ∧ ∃ k : Nat, (k + μk = (l.length)) ∧ St [] w0 w [] ∧ ε 1 = .func (.func f) first caps ∧ ε 7 = .slice As ns cs' ∧ ε 8 = .int .i64 ns ∧ ε 9 = .int .i64 k) (μ := (l.length)) ⟨rfl, 0, by omega, S, rfl, rfl, rfl, rfl⟩ ?_
  rintro μk D ε w ⟨rfl, k, hk, S, e1, e7, e8, e9⟩
  refine W_known 1 e1 ?_
  refine W_known 7 e7 ?_
  refine W_known 8 e8 ?_
  refine W_known 9 e9 ?_
  clear e1 e7 e8 e9
  refine W_seq ?_
  refine W_region ?_
  refine o_lss rfl rfl rfl (fun h10 => ?_) (fun h10 => ?_)
  · refine WL_nil ?_
    refine W_seq ?_
    refine W_then rfl ?_
    refine W_skip ?_
    refine W_seq ?_
    refine W_block ?_
    refine W_seq ?_
    refine W_region ?_
    obtain ⟨a, b11, p11, c11, hxa, hA11, hM11, hl11, hc11, hr11⟩ := RdS.get (hS) (k) (by omega)
    obtain ⟨Ae11, ne11, ce11, rfl, ia11, hE11⟩ := RAssign.open_ hr11
    refine o_indexAddr slz_110.slT rfl (by assumption) rfl (by omega) (by omega) rfl ?_
    refine o_loadN many_109 rfl (hc11.keep (S.keep0 _) hM11) (by rfl) rfl ?_
    refine o_alloc S zv_109 rfl rfl ?_
    intro g6 w6 S6 X6 G6
    first | refine o_storeN (kk := 0) (vs := [_, _, _, _, _]) S6 sz_109 rfl rfl rfl rfl rfl rfl rfl ?_
    intro w3_3 S3_3 X3_3
    dsimp only [setsAt, List.set] at S3_3
    refine WL_nil ?_
    refine W_seq ?_
    refine W_region ?_
    refine o_move (by conv => lhs; whnf) rfl ?_
    refine o_fieldAddr fa_109_0 rfl rfl ?_
    refine o_load one_3 rfl (by exact S3_3.cell 0 rfl rfl) rfl ?_
    refine o_callpT S3_3 (hp.keep (S3_3.keep0 M)) rfl rfl (ia11) (hs a (some_mem hxa)) rfl (fun w16 S16 X16 => ?_)
    refine o_not rfl rfl ?_
    refine WL_nil ?_
    refine W_else rfl ?_
    refine W_skip ?_
    refine W_region ?_
    refine o_add rfl rfl (by unfold i64; omega) rfl ?_
    refine o_move (v := .int .i64 _) rfl rfl ?_
    refine WL_nil ?_
    refine ⟨μk - 1, by omega, rfl, (k + 1), (by omega), S16.tail, rfl, rfl, rfl, rfl⟩
  refine WL_nil ?_
  refine W_seq ?_
  refine W_else rfl ?_
  refine W_exit ?_
  refine bcons_here ?_
  refine W_seq ?_
  refine W_region ?_
  refine o_assign (v := .bool _) rfl rfl ?_
  refine WL_nil ?_
  refine W_ret ?_
  refine ret_1 rfl (by conv => lhs; whnf) ?_
  exact ⟨rfl, S.fin⟩
theorem oneP_fn (e : E) (M : List Nat) (w0 : World) (cs : List Value) (hR : RdE M w0 e cs) (he : e = ⟨1, 1, 1, []⟩) : Does Tryz.prog 167 #[.agg cs.toArray] w0 fun v w' => v = .bool true ∧ Below w0.heap.size w0 w' := by
  obtain ⟨A, n, c, rfl, hn, hbig, o1, o2, o3⟩ := hR.cells
  have e1 : e.op = 1 := by rw [he]
  have e2 : e.w = 1 := by rw [he]
  have e3 : e.n = 1 := by rw [he]
  have e4 : e.kids.length = 0 := by rw [he]; rfl
  have S := St.refl w0
  refine Does_enter Tryz.func167 rfl Tryz.ntmps167 rfl ?_
  refine W_seq ?_
  refine W_region ?_
  refine o_boxa S (by conv => lhs; whnf) rfl ?_
  intro g1 w1 S1 X1 G1
  refine o_assign (v := .bool _) rfl rfl ?_
  refine WL_nil ?_
  refine W_seq ?_
  refine W_region ?_
  refine o_fieldAddr fa_73_0 rfl rfl ?_
  refine o_load one_3 rfl (by first | exact S1.cell 0 rfl rfl) rfl ?_
  refine o_eql rfl rfl rfl (fun h5 => ?_) (fun h5 => ?_)
  · refine o_move (v := .bool _) rfl rfl ?_
    refine WL_on rfl rfl rfl ?_
    refine o_fieldAddr fa_73_1 rfl rfl ?_
    refine WL_on rfl rfl rfl ?_
    refine o_load one_3 rfl (by first | exact S1.cell 0 rfl rfl) rfl ?_
    refine WL_on rfl rfl rfl ?_
    refine o_eql rfl rfl rfl (fun h9 => ?_) (fun h9 => ?_)
    · refine o_pick rfl (v := .bool _) rfl rfl ?_
      refine o_move (v := .bool _) rfl rfl ?_
      refine WL_on rfl rfl rfl ?_
      refine o_fieldAddr fa_73_2 rfl rfl ?_
      refine WL_on rfl rfl rfl ?_
      refine o_load one_3 rfl (by first | exact S1.cell 0 rfl rfl) rfl ?_
      refine WL_on rfl rfl rfl ?_
      refine o_eql rfl rfl rfl (fun h14 => ?_) (fun h14 => ?_)
      · refine o_pick rfl (v := .bool _) rfl rfl ?_
        refine o_move (v := .bool _) rfl rfl ?_
        refine WL_on rfl rfl rfl ?_
        refine o_fieldAddr fa_73_3 rfl rfl ?_
        refine WL_on rfl rfl rfl ?_
        refine o_load one_71 rfl (by first | exact S1.cell 0 rfl rfl) rfl ?_
        refine WL_on rfl rfl rfl ?_
        refine o_len slz_71.slT rfl rfl ?_
        refine WL_on rfl rfl rfl ?_
        refine o_eql rfl rfl rfl (fun h20 => ?_) (fun h20 => ?_)
        · refine o_pick rfl (v := .bool _) rfl rfl ?_
          refine o_assign (v := .bool _) rfl rfl ?_
          refine WL_nil ?_
          refine W_ret ?_
          refine ret_1 rfl (by conv => lhs; whnf) ?_
          exact ⟨rfl, S1.fin⟩
        exfalso; omega
      exfalso; omega
    exfalso; omega
  exfalso; omega
theorem bareP_fn (s : StepD) (M : List Nat) (w0 : World) (ss : List Value) (hS : RStep M w0 ss s) (hg : s.guard = ⟨1, 1, 1, []⟩) (hs : s.set = []) :
    Does Tryz.prog 163 #[.agg ss.toArray] w0 fun v w' => v = .bool true ∧ Below w0.heap.size w0 w' := by
  obtain ⟨Ag, ng, cg, As, ns, cs', rfl, ⟨i1, i2, i3, i4, i5⟩, hG, hSet, hns, bs⟩ := hS.open_
  have S := St.refl w0
  rw [hs] at hns
  simp only [List.length_nil] at hns
  refine Does_enter Tryz.func163 rfl Tryz.ntmps163 rfl ?_
  refine W_seq ?_
  refine W_region ?_
  refine o_boxa S (by conv => lhs; whnf) rfl ?_
  intro g1 w1 S1 X1 G1
  refine o_assign (v := .bool _) rfl rfl ?_
  refine WL_nil ?_
  refine W_seq ?_
  refine W_region ?_
  refine o_fieldAddr fa_112_3 rfl rfl ?_
  refine o_loadN many_73 rfl (cs := [_, _, _, _]) (S1.cellsAt 0 3 4 rfl) rfl rfl ?_
  refine o_callr S1 has_167 rfl rfl (oneP_fn _ M _ _ (RdE.keep (S1.keep0 M) _ _ hG) hg) ?_
  intro w5 S5 X5
  refine o_move (v := .bool _) rfl rfl ?_
  refine WL_on rfl rfl rfl ?_
  refine o_fieldAddr fa_112_4 rfl rfl ?_
  refine WL_on rfl rfl rfl ?_
  refine o_load one_110 rfl (by first | exact S5.cell 0 rfl rfl) rfl ?_
  refine WL_on rfl rfl rfl ?_
  refine o_len slz_110.slT rfl rfl ?_
  refine WL_on rfl rfl rfl ?_
  refine o_eql rfl rfl rfl (fun h10 => ?_) (fun h10 => ?_)
  · refine o_pick rfl (v := .bool _) rfl rfl ?_
    refine o_assign (v := .bool _) rfl rfl ?_
    refine WL_nil ?_
    refine W_ret ?_
    refine ret_1 rfl (by conv => lhs; whnf) ?_
    exact ⟨rfl, S5.fin⟩
  exfalso; omega
theorem overT_of {p : ProgD} {s : StepD} {t : Int} {z : Bool} (h : ∀ (i : Nat) (hi : i < s.set.length), 0 < i ∨ s.kind ≠ 2 → overT p.cells (s.set[i]).to z t) {k : Nat} {a : AssignD} (ha : s.set[k + 1]? = some a) : overT p.cells a.to z t := by
  obtain ⟨h1, rfl⟩ := List.getElem?_eq_some_iff.1 ha
  exact h _ h1 (.inl (by omega))
structure AtStep (p : ProgD) (t : Nat) (x : ThreadD) (s : StepD) (M : List Nat) (w : World) (cs ss : List Value) : Prop where
  prog : RdProg M w p cs
  step : RStep M w ss s
  ok : ProgOK p
  sok : StepOK p t x.points s
  masks : Masks M w
  low : ∀ g ∈ M, g < w.heap.size
theorem fitsLocal_fn (p : ProgD) (t : Nat) (x : ThreadD) (s : StepD) (M : List Nat) (w0 : World) (cs ss : List Value) (h : AtStep p t x s M w0 cs ss) (hk : s.kind = 1) :
    Does Tryz.prog 141 #[.agg cs.toArray, .int .i64 t, .agg ss.toArray] w0 fun v w' => v = .bool true ∧ Below w0.heap.size w0 w' := by
  obtain ⟨hP, hS, hp, hso, hK, hM⟩ := h
  obtain ⟨Ac, nc, cc, Am, nm, cm, Al, nl, cl, At, nt, ct, rfl, hC, hMo, hLk, hTh, hnc, hnm, hnl, hnt, bc, bm, bl, bt⟩ := hP.open_
  obtain ⟨Ag, ng, cg, As, ns, cs', rfl, ⟨i1, i2, i3, i4, i5⟩, hG, hSet, hns, bs⟩ := hS.open_
  have S := St.refl w0
  have hM' : ∀ w' : World, w0.heap.size ≤ w'.heap.size → ∀ g ∈ M, g < w'.heap.size := fun w' h g hg => by have := hM g hg; omega
  have h4 : decide (s.kind = 4) = false := decide_eq_false (by omega)
  have hvg : supAll s.guard (ownQ p t) = true := sup_own hp hso.guard.1 (h4 ▸ hso.row.guard)
  have hvs : ∀ a ∈ s.set, supAll a.to (ownQ p t) = true := fun a ha => by
    obtain ⟨i, hi, rfl⟩ := List.getElem_of_mem ha
    exact sup_own hp (hso.set _ ha).2.1 (h4 ▸ hso.row.vals i hi (.inr (by omega)))
  have hcs : ∀ a ∈ s.set, ownQ p t a.cell = true := fun a ha => decide_eq_true ⟨(hso.set a ha).1, hso.row.k1 hk a ha⟩
  refine Does_enter Tryz.func141 rfl Tryz.ntmps141 rfl ?_
  refine W_seq ?_
  refine W_region ?_
  refine o_boxa S (by conv => lhs; whnf) rfl ?_
  intro g3 w3 S3 X3 G3
  refine o_boxa S3 (by conv => lhs; whnf) rfl ?_
  intro g5 w5 S5 X5 G5
  refine o_assign (v := .bool _) rfl rfl ?_
  refine WL_nil ?_
  refine W_seq ?_
  refine W_region ?_
  refine o_loadN many_132 rfl (S5.cells 1 rfl) rfl rfl ?_
  refine o_move (v := .int .i64 _) rfl rfl ?_
  refine o_calln S5 has_115 rfl rfl (ownP_fn p t M _ _ (hP.keep (S5.keep0 M)) (hM' _ S5.size)) ?_
  rintro v10 w10 hq S10 X10
  obtain ⟨f, first, caps, rfl, hH, hf⟩ := id hq
  refine o_assign (by conv => lhs; whnf) rfl ?_
  refine WL_nil ?_
  refine W_seq ?_
  refine W_region ?_
  refine o_loadN many_112 rfl (S10.cells 0 rfl) rfl rfl ?_
  refine o_move (by conv => lhs; whnf) rfl ?_
  refine o_callr S10 has_159 rfl rfl (valuesP_fn s M _ _ _ (ownQ p t) (RStep.keep (S10.keep0 M) _ _ hS) hq (hK.keep (S10.keep0 M)) (hM' _ S10.size) hvg hvs) ?_
  intro w13 S13 X13
  replace hq := hq.keep (X13.of_nil)
  refine o_move (v := .bool _) rfl rfl ?_
  refine WL_on rfl rfl rfl ?_
  refine o_fieldAddr fa_112_4 rfl rfl ?_
  refine WL_on rfl rfl rfl ?_
  refine o_load one_110 rfl (by exact S13.cell 0 rfl rfl) rfl ?_
  refine WL_on rfl rfl rfl ?_
  refine o_move (by conv => lhs; whnf) rfl ?_
  refine WL_on rfl rfl rfl ?_
  refine o_callr S13 has_160 rfl rfl (targetsP_fn s.set M _ _ _ (ownQ p t) (RdS.keepW hSet (S13.keep0 M) (RAssign.keep (S13.keep0 M))) hq hcs) ?_
  intro w18 S18 X18
  replace hq := hq.keep (X18.of_nil)
  refine o_pick rfl (v := .bool _) rfl rfl ?_
  refine o_assign (v := .bool _) rfl rfl ?_
  refine WL_nil ?_
  refine W_ret ?_
  refine ret_1 rfl (by conv => lhs; whnf) ?_
  exact ⟨rfl, S18.fin⟩
theorem fitsAtomic_fn (p : ProgD) (t : Nat) (x : ThreadD) (s : StepD) (M : List Nat) (w0 : World) (cs ss : List Value) (h : AtStep p t x s M w0 cs ss) (hk : s.kind = 4) :
    Does Tryz.prog 144 #[.agg cs.toArray, .int .i64 t, .agg ss.toArray] w0 fun v w' => v = .bool true ∧ Below w0.heap.size w0 w' := by
  obtain ⟨hP, hS, hp, hso, hK, hM⟩ := h
  obtain ⟨Ac, nc, cc, Am, nm, cm, Al, nl, cl, At, nt, ct, rfl, hC, hMo, hLk, hTh, hnc, hnm, hnl, hnt, bc, bm, bl, bt⟩ := hP.open_
  obtain ⟨Ag, ng, cg, As, ns, cs', rfl, ⟨i1, i2, i3, i4, i5⟩, hG, hSet, hns, bs⟩ := hS.open_
  have S := St.refl w0
  have hM' : ∀ w' : World, w0.heap.size ≤ w'.heap.size → ∀ g ∈ M, g < w'.heap.size := fun w' h g hg => by have := hM g hg; omega
  have h4 : decide (s.kind = 4) = true := decide_eq_true (by omega)
  have hvg : supAll s.guard (visQ p t) = true := sup_vis hp hso.guard.1 (h4 ▸ hso.row.guard)
  have hvs : ∀ a ∈ s.set, supAll a.to (visQ p t) = true := fun a ha => by
    obtain ⟨i, hi, rfl⟩ := List.getElem_of_mem ha
    exact sup_vis hp (hso.set _ ha).2.1 (h4 ▸ hso.row.vals i hi (.inr (by omega)))
  have hcs : ∀ a ∈ s.set, visQ p t a.cell = true := fun a ha => by
    unfold visQ shQ ownQ
    rw [Bool.or_eq_true, decide_eq_true_eq, decide_eq_true_eq]
    rcases hso.row.cells a ha with h | h
    · exact .inr ⟨(hso.set a ha).1, h⟩
    · exact .inl ⟨(hso.set a ha).1, h⟩
  refine Does_enter Tryz.func144 rfl Tryz.ntmps144 rfl ?_
  refine W_seq ?_
  refine W_region ?_
  refine o_boxa S (by conv => lhs; whnf) rfl ?_
  intro g3 w3 S3 X3 G3
  refine o_boxa S3 (by conv => lhs; whnf) rfl ?_
  intro g5 w5 S5 X5 G5
  refine o_assign (v := .bool _) rfl rfl ?_
  refine WL_nil ?_
  refine W_seq ?_
  refine W_region ?_
  refine o_loadN many_132 rfl (S5.cells 1 rfl) rfl rfl ?_
  refine o_move (v := .int .i64 _) rfl rfl ?_
  refine o_calln S5 has_94 rfl rfl (visibleP_fn p t M _ _ (hP.keep (S5.keep0 M)) (hM' _ S5.size)) ?_
  rintro v10 w10 hq S10 X10
  obtain ⟨f, first, caps, rfl, hH, hf⟩ := id hq
  refine o_assign (by conv => lhs; whnf) rfl ?_
  refine WL_nil ?_
  refine W_seq ?_
  refine W_region ?_
  refine o_loadN many_112 rfl (S10.cells 0 rfl) rfl rfl ?_
  refine o_move (by conv => lhs; whnf) rfl ?_
  refine o_callr S10 has_159 rfl rfl (valuesP_fn s M _ _ _ (visQ p t) (RStep.keep (S10.keep0 M) _ _ hS) hq (hK.keep (S10.keep0 M)) (hM' _ S10.size) hvg hvs) ?_
  intro w13 S13 X13
  replace hq := hq.keep (X13.of_nil)
  refine o_move (v := .bool _) rfl rfl ?_
  refine WL_on rfl rfl rfl ?_
  refine o_fieldAddr fa_112_4 rfl rfl ?_
  refine WL_on rfl rfl rfl ?_
  refine o_load one_110 rfl (by exact S13.cell 0 rfl rfl) rfl ?_
  refine WL_on rfl rfl rfl ?_
  refine o_move (by conv => lhs; whnf) rfl ?_
  refine WL_on rfl rfl rfl ?_
  refine o_callr S13 has_160 rfl rfl (targetsP_fn s.set M _ _ _ (visQ p t) (RdS.keepW hSet (S13.keep0 M) (RAssign.keep (S13.keep0 M))) hq hcs) ?_
  intro w18 S18 X18
  replace hq := hq.keep (X18.of_nil)
  refine o_pick rfl (v := .bool _) rfl rfl ?_
  refine o_assign (v := .bool _) rfl rfl ?_
  refine WL_nil ?_
  refine W_ret ?_
  refine ret_1 rfl (by conv => lhs; whnf) ?_
  exact ⟨rfl, S18.fin⟩
theorem fitsFence_fn (p : ProgD) (t : Nat) (x : ThreadD) (s : StepD) (M : List Nat) (w0 : World) (cs ss : List Value) (h : AtStep p t x s M w0 cs ss) (hk : 5 ≤ s.kind) :
    Does Tryz.prog 145 #[.agg cs.toArray, .int .i64 t, .agg ss.toArray] w0 fun v w' => v = .bool true ∧ Below w0.heap.size w0 w' := by
  obtain ⟨hP, hS, hp, hso, hK, hM⟩ := h
  obtain ⟨Ac, nc, cc, Am, nm, cm, Al, nl, cl, At, nt, ct, rfl, hC, hMo, hLk, hTh, hnc, hnm, hnl, hnt, bc, bm, bl, bt⟩ := hP.open_
  obtain ⟨Ag, ng, cg, As, ns, cs', rfl, ⟨i1, i2, i3, i4, i5⟩, hG, hSet, hns, bs⟩ := hS.open_
  have S := St.refl w0
  refine Does_enter Tryz.func145 rfl Tryz.ntmps145 rfl ?_
  refine W_seq ?_
  refine W_region ?_
  refine o_boxa S (by conv => lhs; whnf) rfl ?_
  intro g3 w3 S3 X3 G3
  refine o_boxa S3 (by conv => lhs; whnf) rfl ?_
  intro g5 w5 S5 X5 G5
  refine o_assign (v := .bool _) rfl rfl ?_
  refine WL_nil ?_
  refine W_seq ?_
  refine W_region ?_
  refine o_loadN many_112 rfl (S5.cells 0 rfl) rfl rfl ?_
  refine o_callr S5 has_163 rfl rfl (bareP_fn s M _ _ (RStep.keep (S5.keep0 M) _ _ hS) (hso.row.k5 hk).2 (hso.row.k5 hk).1) ?_
  intro w8 S8 X8
  refine o_assign (v := .bool _) rfl rfl ?_
  refine WL_nil ?_
  refine W_ret ?_
  refine ret_1 rfl (by conv => lhs; whnf) ?_
  exact ⟨rfl, S8.fin⟩
theorem fitsJoin_fn (p : ProgD) (t : Nat) (x : ThreadD) (s : StepD) (M : List Nat) (w0 : World) (cs ss : List Value) (h : AtStep p t x s M w0 cs ss) (hk : 6 ≤ s.kind) :
    Does Tryz.prog 147 #[.agg cs.toArray, .int .i64 t, .agg ss.toArray] w0 fun v w' => v = .bool true ∧ Below w0.heap.size w0 w' := by
  obtain ⟨hP, hS, hp, hso, hK, hM⟩ := h
  obtain ⟨Ac, nc, cc, Am, nm, cm, Al, nl, cl, At, nt, ct, rfl, hC, hMo, hLk, hTh, hnc, hnm, hnl, hnt, bc, bm, bl, bt⟩ := hP.open_
  obtain ⟨Ag, ng, cg, As, ns, cs', rfl, ⟨i1, i2, i3, i4, i5⟩, hG, hSet, hns, bs⟩ := hS.open_
  have S := St.refl w0
  have h6 := hso.row.k6 hk
  have h61 := h6.1
  have h62 := h6.2
  unfold isIn at h61
  refine Does_enter Tryz.func147 rfl Tryz.ntmps147 rfl ?_
  refine W_seq ?_
  refine W_region ?_
  refine o_boxa S (by conv => lhs; whnf) rfl ?_
  intro g3 w3 S3 X3 G3
  refine o_boxa S3 (by conv => lhs; whnf) rfl ?_
  intro g5 w5 S5 X5 G5
  refine o_assign (v := .bool _) rfl rfl ?_
  refine WL_nil ?_
  refine W_seq ?_
  refine W_region ?_
  refine o_loadN many_112 rfl (S5.cells 0 rfl) rfl rfl ?_
  refine o_callr S5 has_163 rfl rfl (bareP_fn s M _ _ (RStep.keep (S5.keep0 M) _ _ hS) (hso.row.k5 (by omega)).2 (hso.row.k5 (by omega)).1) ?_
  intro w8 S8 X8
  refine o_move (v := .bool _) rfl rfl ?_
  refine WL_on rfl rfl rfl ?_
  refine o_fieldAddr fa_112_6 rfl rfl ?_
  refine WL_on rfl rfl rfl ?_
  refine o_load one_3 rfl (by exact S8.cell 0 rfl rfl) rfl ?_
  refine WL_on rfl rfl rfl ?_
  refine o_move (v := .int .i64 _) rfl rfl ?_
  refine WL_on rfl rfl rfl ?_
  refine o_neq rfl rfl rfl (fun h13 => ?_) (fun h13 => ?_)
  · refine o_pick rfl (v := .bool _) rfl rfl ?_
    refine o_move (v := .bool _) rfl rfl ?_
    refine WL_on rfl rfl rfl ?_
    refine o_fieldAddr fa_112_6 rfl rfl ?_
    refine WL_on rfl rfl rfl ?_
    refine o_load one_3 rfl (by exact S8.cell 0 rfl rfl) rfl ?_
    refine WL_on rfl rfl rfl ?_
    refine o_fieldAddr fa_132_0 rfl rfl ?_
    refine WL_on rfl rfl rfl ?_
    refine o_fieldAddr fa_36_3 rfl rfl ?_
    refine WL_on rfl rfl rfl ?_
    refine o_load one_34 rfl (by exact S8.cell 1 rfl rfl) rfl ?_
    refine WL_on rfl rfl rfl ?_
    refine o_len slz_34.slT rfl rfl ?_
    refine WL_on rfl rfl rfl ?_
    refine o_callr S8 has_86 rfl rfl ((show decide (0 ≤ s.target ∧ s.target < (nt : Int)) = true from decide_eq_true (by omega)) ▸ below_fn _ _ _) ?_
    intro w22 S22 X22
    refine o_pick rfl (v := .bool _) rfl rfl ?_
    refine o_assign (v := .bool _) rfl rfl ?_
    refine WL_nil ?_
    refine W_ret ?_
    refine ret_1 rfl (by conv => lhs; whnf) ?_
    exact ⟨rfl, S22.fin⟩
  exfalso; omega
theorem fitsSpawn_fn (p : ProgD) (t : Nat) (x : ThreadD) (s : StepD) (M : List Nat) (w0 : World) (cs ss : List Value) (h : AtStep p t x s M w0 cs ss) (hk : s.kind = 6) :
    Does Tryz.prog 146 #[.agg cs.toArray, .int .i64 t, .agg ss.toArray] w0 fun v w' => v = .bool true ∧ Below w0.heap.size w0 w' := by
  have h0 := h
  obtain ⟨hP, hS, hp, hso, hK, hM⟩ := h
  obtain ⟨Ac, nc, cc, Am, nm, cm, Al, nl, cl, At, nt, ct, rfl, hC, hMo, hLk, hTh, hnc, hnm, hnl, hnt, bc, bm, bl, bt⟩ := hP.open_
  obtain ⟨Ag, ng, cg, As, ns, cs', rfl, ⟨i1, i2, i3, i4, i5⟩, hG, hSet, hns, bs⟩ := hS.open_
  have S := St.refl w0
  have hM' : ∀ w' : World, w0.heap.size ≤ w'.heap.size → ∀ g ∈ M, g < w'.heap.size := fun w' h g hg => by have := hM g hg; omega
  have h6 := hso.row.k6 (by omega)
  have h61 := h6.1
  unfold isIn at h61
  refine Does_enter Tryz.func146 rfl Tryz.ntmps146 rfl ?_
  refine W_seq ?_
  refine W_region ?_
  refine o_boxa S (by conv => lhs; whnf) rfl ?_
  intro g3 w3 S3 X3 G3
  refine o_boxa S3 (by conv => lhs; whnf) rfl ?_
  intro g5 w5 S5 X5 G5
  refine o_assign (v := .bool _) rfl rfl ?_
  refine WL_nil ?_
  refine W_seq ?_
  refine W_region ?_
  refine o_loadN many_132 rfl (S5.cells 1 rfl) rfl rfl ?_
  refine o_move (v := .int .i64 _) rfl rfl ?_
  refine o_loadN many_112 rfl (S5.cells 0 rfl) rfl rfl ?_
  refine o_callr S5 has_147 rfl rfl (fitsJoin_fn p t x s M _ _ _ ⟨hP.keep (S5.keep0 M), RStep.keep (S5.keep0 M) _ _ hS, hp, hso, hK.keep (S5.keep0 M), hM' _ S5.size⟩ (by omega)) ?_
  intro w10 S10 X10
  refine o_move (v := .bool _) rfl rfl ?_
  refine WL_on rfl rfl rfl ?_
  refine o_fieldAddr fa_132_0 rfl rfl ?_
  refine WL_on rfl rfl rfl ?_
  refine o_fieldAddr fa_36_3 rfl rfl ?_
  refine WL_on rfl rfl rfl ?_
  refine o_load one_34 rfl (by exact S10.cell 1 rfl rfl) rfl ?_
  refine WL_on rfl rfl rfl ?_
  refine o_fieldAddr fa_112_6 rfl rfl ?_
  refine WL_on rfl rfl rfl ?_
  refine o_load one_3 rfl (by exact S10.cell 0 rfl rfl) rfl ?_
  refine WL_on rfl rfl rfl ?_
  obtain ⟨u, b17, p17, c17, hxu, hA17, hM17, hl17, hc17, hr17⟩ := RdS.get (hTh) (s.target.toNat) (by omega)
  obtain ⟨Aa17, na17, ca17, Am17, nm17, cm17, As17, ns17, cs17, Al17, nl17, cl17, rfl, ip17, hEs17, hMs17, hSt17, hLo17, hna17, hnm17, hns17, hnl17, ba17, bm17, bs17, bl17⟩ := RThread.open_ hr17
  refine o_indexAddr slz_34.slT rfl (by assumption) rfl (by omega) (by omega) rfl ?_
  refine WL_on rfl rfl rfl ?_
  refine o_fieldAddr fa_83_6 rfl rfl ?_
  refine WL_on rfl rfl rfl ?_
  refine o_load one_4 rfl (v := .bool true) (by have h4 := S10.old (hc17 6 _ rfl); rw [hso.row.k7 hk u hxu] at h4; exact h4) rfl ?_
  refine o_pick rfl (v := .bool _) rfl rfl ?_
  refine o_assign (v := .bool _) rfl rfl ?_
  refine WL_nil ?_
  refine W_ret ?_
  refine ret_1 rfl (by conv => lhs; whnf) ?_
  exact ⟨rfl, S10.fin⟩
theorem fitsLoad_fn (p : ProgD) (t : Nat) (x : ThreadD) (s : StepD) (M : List Nat) (w0 : World) (cs ss : List Value) (h : AtStep p t x s M w0 cs ss) (hk : s.kind = 2) :
    Does Tryz.prog 142 #[.agg cs.toArray, .int .i64 t, .agg ss.toArray] w0 fun v w' => v = .bool true ∧ Below w0.heap.size w0 w' := by
  obtain ⟨hP, hS, hp, hso, hK, hM⟩ := h
  obtain ⟨Ac, nc, cc, Am, nm, cm, Al, nl, cl, At, nt, ct, rfl, hC, hMo, hLk, hTh, hnc, hnm, hnl, hnt, bc, bm, bl, bt⟩ := hP.open_
  obtain ⟨Ag, ng, cg, As, ns, cs', rfl, ⟨i1, i2, i3, i4, i5⟩, hG, hSet, hns, bs⟩ := hS.open_
  have S := St.refl w0
  have hM' : ∀ w' : World, w0.heap.size ≤ w'.heap.size → ∀ g ∈ M, g < w'.heap.size := fun w' h g hg => by have := hM g hg; omega
  have h4 : decide (s.kind = 4) = false := decide_eq_false (by omega)
  have hvg : supAll s.guard (ownQ p t) = true := sup_own hp hso.guard.1 (h4 ▸ hso.row.guard)
  obtain ⟨a0, l, hset, ht0, hg0, hop, hsn, hgn, hl⟩ := hso.row.k2 hk
  have hlen : s.set.length = l.length + 1 := by rw [hset]; rfl
  have hm0 : a0 ∈ s.set := by rw [hset]; simp
  have hc0 := (hso.set a0 hm0).1
  have hn0 := valid_cell (hso.set a0 hm0).2.1 hop
  have hxa0 : s.set[0]? = some a0 := by rw [hset]; rfl
  unfold isIn at hc0
  obtain ⟨y0, b0, p0, c0, hxy0, rfl, hM0, hl0, hcc0, hr0⟩ := RdS.get hSet 0 (by omega)
  obtain rfl := Option.some.inj (hxa0.symm.trans hxy0)
  obtain ⟨Ae0, ne0, ce0, rfl, ia0, hE0⟩ := RAssign.open_ hr0
  have hdl : s.set.drop 1 = l := by rw [hset]; rfl
  have hTl := RdS.dropped hSet 1 (by omega)
  rw [hdl] at hTl
  refine Does_enter Tryz.func142 rfl Tryz.ntmps142 rfl ?_
  refine W_seq ?_
  refine W_region ?_
  refine o_boxa S (by conv => lhs; whnf) rfl ?_
  intro g3 w3 S3 X3 G3
  refine o_boxa S3 (by conv => lhs; whnf) rfl ?_
  intro g5 w5 S5 X5 G5
  refine o_assign (v := .bool _) rfl rfl ?_
  refine WL_nil ?_
  refine W_seq ?_
  refine W_region ?_
  refine o_loadN many_132 rfl (S5.cells 1 rfl) rfl rfl ?_
  refine o_move (v := .int .i64 _) rfl rfl ?_
  refine o_calln S5 has_115 rfl rfl (ownP_fn p t M _ _ (hP.keep (S5.keep0 M)) (hM' _ S5.size)) ?_
  rintro v14 w14 hq S14 X14
  obtain ⟨f, first, caps, rfl, hH, hf⟩ := id hq
  have K14 := Keep.refl [] w14
  refine o_assign (by conv => lhs; whnf) rfl ?_
  refine WL_nil ?_
  refine W_seq ?_
  refine W_seq ?_
  refine W_region ?_
  refine o_fieldAddr fa_112_4 rfl rfl ?_
  refine o_load one_110 rfl (by exact S14.cell 0 rfl rfl) rfl ?_
  refine o_len slz_110.slT rfl rfl ?_
  refine o_eql rfl rfl rfl (fun h18 => ?_) (fun h18 => ?_)
  · exfalso; omega
  refine o_move (v := .bool _) rfl rfl ?_
  refine WL_on rfl rfl rfl ?_
  refine o_fieldAddr fa_112_3 rfl rfl ?_
  refine WL_on rfl rfl rfl ?_
  refine o_loadN many_73 rfl (cs := [_, _, _, _]) (S14.cellsAt 0 3 4 rfl) rfl rfl ?_
  refine WL_on rfl rfl rfl ?_
  refine o_move (by conv => lhs; whnf) rfl ?_
  refine WL_on rfl rfl rfl ?_
  refine o_callr S14 has_98 rfl rfl (hvg ▸ overP_fn _ M _ _ _ (ownQ p t) (RdE.keep (S14.keep0 M) _ _ hG) (hq.keep K14.of_nil) (hK.keep (S14.keep0 M)) (hM' _ S14.size)) ?_
  intro w23 S23 X23
  replace K14 := K14.trans X23
  refine WL_on rfl rfl rfl ?_
  refine o_not rfl rfl ?_
  refine o_pick rfl (v := .bool _) rfl rfl ?_
  refine WL_nil ?_
  refine W_else rfl ?_
  refine W_skip ?_
  refine W_seq ?_
  refine W_mixS follows_mixed (fun i => [0, 1, 2, 3, 4, 5, 6, 7, 8, 9, 11].contains i) [0, 1, 2, 3, 4, 5, 6, 7, 8, 9, 10, 11] 12 (by kernel_rfl) (by kernel_rfl) (clOf S23) _ rfl ?_
  have SR4 := S23.drew
  have XR4 : Keep [] w23 w23.drew := keep_drew _ _
  generalize w23.drew = wR4 at SR4 XR4 ⊢
  replace K14 := K14.trans XR4
  refine WM_q ⟨SR4, XR4⟩ rfl rfl rfl ?_
  refine q_fieldAddr fa_112_4 rfl rfl ?_
  refine QL_nil ?_
  refine WM_q ⟨SR4, XR4⟩ rfl rfl rfl ?_
  refine q_load one_110 rfl (fun w1 hw => by exact hw.1.cell 0 rfl rfl) rfl ?_
  refine QL_nil ?_
  refine WM_q ⟨SR4, XR4⟩ rfl rfl rfl ?_
  refine q_indexAddr slz_110.slT rfl (by rfl) rfl (by omega) (by omega) rfl ?_
  refine QL_nil ?_
  refine WM_q ⟨SR4, XR4⟩ rfl rfl rfl ?_
  refine q_fieldAddr fa_109_0 rfl rfl ?_
  refine QL_nil ?_
  refine WM_q ⟨SR4, XR4⟩ rfl rfl rfl ?_
  refine q_load one_3 rfl (fun w1 hw => by exact hw.1.old (hcc0 _ _ rfl)) rfl ?_
  refine QL_nil ?_
  refine WM_q ⟨SR4, XR4⟩ rfl rfl rfl ?_
  refine q_fieldAddr fa_112_4 rfl rfl ?_
  refine QL_nil ?_
  refine WM_q ⟨SR4, XR4⟩ rfl rfl rfl ?_
  refine q_load one_110 rfl (fun w1 hw => by exact hw.1.cell 0 rfl rfl) rfl ?_
  refine QL_nil ?_
  refine WM_q ⟨SR4, XR4⟩ rfl rfl rfl ?_
  refine q_indexAddr slz_110.slT rfl (by rfl) rfl (by omega) (by omega) rfl ?_
  refine QL_nil ?_
  refine WM_q ⟨SR4, XR4⟩ rfl rfl rfl ?_
  refine q_fieldAddr fa_109_1 rfl rfl ?_
  refine QL_nil ?_
  refine WM_q ⟨SR4, XR4⟩ rfl rfl rfl ?_
  refine q_loadN many_73 rfl (fun w1 hw => (Cells.sub hcc0 1 4).keep (hw.1.keep0 M) hM0) (by rfl) rfl ?_
  refine QL_nil ?_
  refine WM_o ⟨SR4, XR4⟩ rfl rfl rfl rfl ?_
  refine o_alloc SR4 zv_73 rfl rfl ?_
  intro g9 w9 S9 X9 G9
  have GK149 := Nat.le_trans K14.size G9
  have XCw9 := XR4.trans X9
  replace K14 := K14.trans X9
  refine WL_nil ⟨rfl, ?_⟩
  refine WM_q ⟨S9.tail, XCw9⟩ rfl rfl rfl ?_
  refine q_assign (v := .int .i64 _) rfl rfl ?_
  refine QL_nil ?_
  refine WM_nil ⟨S9.tail, XCw9⟩ ?_
  refine o_storeN (kk := 0) (vs := [_, _, _, _]) S9 sz_73 rfl rfl rfl rfl rfl rfl rfl ?_
  intro w4_12 S4_12 X4_12
  dsimp only [setsAt, List.set] at S4_12
  replace K14 := K14.fresh X4_12 (by first | exact GK149)
  refine WL_nil ⟨rfl, ?_⟩
  refine W_seq ?_
  refine W_seq ?_
  refine W_region ?_
  refine o_move (by conv => lhs; whnf) rfl ?_
  refine o_move (v := .int .i64 _) rfl rfl ?_
  refine o_callpT S4_12 (hq.keep K14.of_nil) rfl rfl (ia0) (decide_eq_true ⟨hc0, ht0⟩) rfl (fun w38 S38 X38 => ?_)
  replace K14 := K14.trans X38
  refine o_not rfl rfl ?_
  refine o_move (v := .bool _) rfl rfl ?_
  refine WL_on rfl rfl rfl ?_
  refine o_loadN many_132 rfl (S38.cells 2 rfl) rfl rfl ?_
  refine WL_on rfl rfl rfl ?_
  refine o_move (v := .int .i64 _) rfl rfl ?_
  refine WL_on rfl rfl rfl ?_
  refine o_callr S38 has_161 rfl rfl (hg0 ▸ ghostP_fn p M _ _ _ (hP.keep (S38.keep0 M)) hc0.1 hc0.2) ?_
  intro w43 S43 X43
  replace K14 := K14.trans X43
  refine o_pick rfl (v := .bool _) rfl rfl ?_
  refine o_move (v := .bool _) rfl rfl ?_
  refine WL_on rfl rfl rfl ?_
  refine o_fieldAddr fa_73_0 rfl rfl ?_
  refine WL_on rfl rfl rfl ?_
  refine o_load one_3 rfl (by exact S43.cell 0 rfl rfl) rfl ?_
  refine WL_on rfl rfl rfl ?_
  refine o_neq rfl rfl rfl (fun h48 => ?_) (fun h48 => ?_)
  · exfalso; omega
  refine o_pick rfl (v := .bool _) rfl rfl ?_
  refine o_move (v := .bool _) rfl rfl ?_
  refine WL_on rfl rfl rfl ?_
  refine o_loadN many_132 rfl (S43.cells 2 rfl) rfl rfl ?_
  refine WL_on rfl rfl rfl ?_
  refine o_fieldAddr fa_73_2 rfl rfl ?_
  refine WL_on rfl rfl rfl ?_
  refine o_load one_3 rfl (by exact S43.cell 0 rfl rfl) rfl ?_
  refine WL_on rfl rfl rfl ?_
  refine o_callr S43 has_90 rfl rfl ((show shQ p a0.to.n = true from decide_eq_true ⟨hn0, hsn⟩) ▸ sharedP_fn p M _ _ _ (hP.keep (S43.keep0 M))) ?_
  intro w54 S54 X54
  replace K14 := K14.trans X54
  refine WL_on rfl rfl rfl ?_
  refine o_not rfl rfl ?_
  refine o_pick rfl (v := .bool _) rfl rfl ?_
  refine o_move (v := .bool _) rfl rfl ?_
  refine WL_on rfl rfl rfl ?_
  refine o_loadN many_132 rfl (S54.cells 2 rfl) rfl rfl ?_
  refine WL_on rfl rfl rfl ?_
  refine o_fieldAddr fa_73_2 rfl rfl ?_
  refine WL_on rfl rfl rfl ?_
  refine o_load one_3 rfl (by exact S54.cell 0 rfl rfl) rfl ?_
  refine WL_on rfl rfl rfl ?_
  refine o_callr S54 has_161 rfl rfl (hgn ▸ ghostP_fn p M _ _ _ (hP.keep (S54.keep0 M)) hn0.1 hn0.2) ?_
  intro w61 S61 X61
  replace K14 := K14.trans X61
  refine o_pick rfl (v := .bool _) rfl rfl ?_
  refine WL_nil ?_
  refine W_else rfl ?_
  refine W_skip ?_
  refine W_seq ?_
  refine W_seq ?_
  refine W_region ?_
  refine o_fieldAddr fa_112_4 rfl rfl ?_
  refine o_load one_110 rfl (by exact S61.cell 1 rfl rfl) rfl ?_
  refine o_slice (kd := .i64) (lo := 1) (hi := ns) slz_110.slT rfl (.inr rfl) (.inl ⟨rfl, rfl⟩) (by omega) (by have := hSet.len; omega) (by have := hSet.len; omega) rfl ?_
  refine o_len slz_110.slT rfl rfl ?_
  refine o_move (v := .int .i64 _) rfl rfl ?_
  refine WL_nil ?_
  refine W_block ?_
  refine W_loop (fun μk D ε w => D = [] ∧ ∃ k : Nat, (k + μk = (l.length)) ∧ (Keep [] w14 w) ∧ St [] w0 w [(some g9, 73, [.int .i64 a0.to.op, .int .i64 a0.to.w, .int .i64 a0.to.n, .slice Ae0 ne0 ce0]), (some g5, 112, [.int .i64 s.kind, .int .i64 s.frm, .int .i64 s.to, .int .i64 s.guard.op, .int .i64 s.guard.w, .int .i64 s.guard.n, .slice Ag ng cg, .slice (some ⟨b0, p0, none⟩) ns cs', .bool s.release, .int .i64 s.target, .int .i64 s.module_]), (some g3, 132, [.slice Ac nc cc, .slice Am nm cm, .slice Al nl cl, .slice At nt ct])] ∧ ε 3 = .pointer (some ⟨g3, 0, none⟩) ∧ ε 7 = .func (.func f) first caps ∧ ε 65 = .slice (some (if cs' = 1 then ⟨b0, p0, none⟩ else ⟨b0, p0 + 1 * 5, none⟩)) (ns - 1) (cs' - 1) ∧ ε 66 = .int .i64 (ns - 1 : Nat) ∧ ε 67 = .int .i64 k) (μ := (l.length)) ⟨rfl, 0, by omega, K14, S61, rfl, rfl, rfl, rfl, rfl⟩ ?_
  rintro μk D ε w ⟨rfl, k, hk, K14, S, e3, e7, e65, e66, e67⟩
  refine W_known 3 e3 ?_
  refine W_known 7 e7 ?_
  refine W_known 65 e65 ?_
  refine W_known 66 e66 ?_
  refine W_known 67 e67 ?_
  clear e3 e7 e65 e66 e67
  refine W_seq ?_
  refine W_region ?_
  refine o_lss rfl rfl rfl (fun h68 => ?_) (fun h68 => ?_)
  · refine WL_nil ?_
    refine W_seq ?_
    refine W_then rfl ?_
    refine W_skip ?_
    refine W_seq ?_
    refine W_block ?_
    refine W_seq ?_
    refine W_region ?_
    obtain ⟨a, b69, p69, c69, hxa, hA69, hM69, hl69, hc69, hr69⟩ := RdS.get (hTl) (k) (by omega)
    obtain ⟨Ae69, ne69, ce69, rfl, ia69, hE69⟩ := RAssign.open_ hr69
    have ham := hl a (some_mem hxa)
    have hasm : a ∈ s.set := by rw [hset]; exact List.mem_cons_of_mem _ (some_mem hxa)
    have hac := (hso.set a hasm).1
    unfold isIn at hac
    have hav : supAll a.to (ownQ p t) = true := sup_own hp (hso.set a hasm).2.1 (h4 ▸ overT_of hso.row.vals (k := k) (a := a) (by rw [hset]; exact hxa))
    refine o_indexAddr slz_110.slT rfl (by assumption) rfl (by omega) (by omega) rfl ?_
    refine o_loadN many_109 rfl (hc69.keep (S.keep0 _) hM69) (by rfl) rfl ?_
    refine o_alloc S zv_109 rfl rfl ?_
    intro g11 w11 S11 X11 G11
    have GK1411 := Nat.le_trans K14.size G11
    replace K14 := K14.trans X11
    refine o_storeN (kk := 0) (vs := [_, _, _, _, _]) S11 sz_109 rfl rfl rfl rfl rfl rfl rfl ?_
    intro w9_3 S9_3 X9_3
    dsimp only [setsAt, List.set] at S9_3
    replace K14 := K14.fresh X9_3 (by exact GK1411)
    refine WL_nil ?_
    refine W_seq ?_
    refine W_region ?_
    refine o_move (by conv => lhs; whnf) rfl ?_
    refine o_fieldAddr fa_109_0 rfl rfl ?_
    refine o_load one_3 rfl (by exact S9_3.cell 0 rfl rfl) rfl ?_
    refine o_callpT S9_3 (hq.keep K14.of_nil) rfl rfl (ia69) (decide_eq_true ⟨hac, ham.1⟩) rfl (fun w74 S74 X74 => ?_)
    replace K14 := K14.trans X74
    refine o_not rfl rfl ?_
    refine o_move (v := .bool _) rfl rfl ?_
    refine WL_on rfl rfl rfl ?_
    refine o_loadN many_132 rfl (S74.cells 3 rfl) rfl rfl ?_
    refine WL_on rfl rfl rfl ?_
    refine o_fieldAddr fa_109_0 rfl rfl ?_
    refine WL_on rfl rfl rfl ?_
    refine o_load one_3 rfl (by exact S74.cell 0 rfl rfl) rfl ?_
    refine WL_on rfl rfl rfl ?_
    refine o_callr S74 has_161 rfl rfl (ham.2 ▸ ghostP_fn p M _ _ _ (hP.keep (S74.keep0 M)) hac.1 hac.2) ?_
    intro w80 S80 X80
    replace K14 := K14.trans X80
    refine WL_on rfl rfl rfl ?_
    refine o_not rfl rfl ?_
    refine o_pick rfl (v := .bool _) rfl rfl ?_
    refine o_move (v := .bool _) rfl rfl ?_
    refine WL_on rfl rfl rfl ?_
    refine o_fieldAddr fa_109_1 rfl rfl ?_
    refine WL_on rfl rfl rfl ?_
    refine o_loadN many_73 rfl (cs := [_, _, _, _]) (S80.cellsAt 0 1 4 rfl) rfl rfl ?_
    refine WL_on rfl rfl rfl ?_
    refine o_move (by conv => lhs; whnf) rfl ?_
    refine WL_on rfl rfl rfl ?_
    refine o_callr S80 has_98 rfl rfl (hav ▸ overP_fn _ M _ _ _ (ownQ p t) (RdE.keep (S80.keep0 M) _ _ hE69) (hq.keep K14.of_nil) (hK.keep (S80.keep0 M)) (hM' _ S80.size)) ?_
    intro w87 S87 X87
    replace K14 := K14.trans X87
    refine WL_on rfl rfl rfl ?_
    refine o_not rfl rfl ?_
    refine o_pick rfl (v := .bool _) rfl rfl ?_
    refine WL_nil ?_
    refine W_else rfl ?_
    refine W_skip ?_
    refine W_region ?_
    refine o_add rfl rfl (by unfold i64; omega) rfl ?_
    refine o_move (v := .int .i64 _) rfl rfl ?_
    refine WL_nil ?_
    refine ⟨μk - 1, by omega, rfl, (k + 1), (by omega), (K14), S87.tail, rfl, rfl, rfl, rfl, rfl⟩
  refine WL_nil ?_
  refine W_seq ?_
  refine W_else rfl ?_
  refine W_exit ?_
  refine bcons_here ?_
  refine W_seq ?_
  refine W_region ?_
  refine o_assign (v := .bool _) rfl rfl ?_
  refine WL_nil ?_
  refine W_ret ?_
  refine ret_1 rfl (by conv => lhs; whnf) ?_
  exact ⟨rfl, S.fin⟩
end Go.Proofs.YtgnbfmifjlnigaaGreatDoor
namespace Go.Proofs.YtgnbfmifjlnigaaGreatDoor
open Go.Fw Go.RowKit
theorem fitsStore1_fn (p : ProgD) (t c : Int) (g g' : Nat) (M : List Nat) (w0 : World) (cs : List Value) (vf : Value) (hP : RdProg M w0 p cs) (hg : Cells w0 g 0 cs) (hg' : w0.cell? ⟨g', 0, none⟩ = some vf) (hp : IsPred Tryz.prog M w0 vf (visQ p t)) (hc : i64 c) (h0 : 0 ≤ c ∧ c < p.cells.length) (h1 : ghAt p.cells c = true) (h2 : visQ p t c = true) :
    Does Tryz.prog 162 #[.int .i64 c, .pointer (some ⟨g, 0, none⟩), .pointer (some ⟨g', 0, none⟩)] w0 fun v w' => v = .bool true ∧ Below w0.heap.size w0 w' := by
  obtain ⟨Ac, nc, cc, Am, nm, cm, Al, nl, cl, At, nt, ct, rfl, hC, hMo, hLk, hTh, hnc, hnm, hnl, hnt, bc, bm, bl, bt⟩ := hP.open_
  have S := St.refl w0
  refine Does_enter Tryz.func162 rfl Tryz.ntmps162 rfl ?_
  refine W_seq ?_
  refine W_region ?_
  refine o_assign (v := .bool _) rfl rfl ?_
  refine WL_nil ?_
  refine W_seq ?_
  refine W_region ?_
  first | refine o_loadN many_132 rfl ((fun j v hj => S.old (hg j v hj))) (by rfl) rfl ?_
  refine o_move (v := .int .i64 _) rfl rfl ?_
  refine o_callr S has_161 rfl rfl (h1 ▸ ghostP_fn p M _ _ _ (hP.keep (S.keep0 M)) h0.1 h0.2) ?_
  intro w7 S7 X7
  refine o_move (v := .bool _) rfl rfl ?_
  refine WL_on rfl rfl rfl ?_
  refine o_load one_160 rfl (by first | exact S7.old hg') rfl ?_
  refine WL_on rfl rfl rfl ?_
  refine o_move (v := .int .i64 _) rfl rfl ?_
  refine WL_on rfl rfl rfl ?_
  refine o_callpT S7 (hp.keep (S7.keep0 M)) rfl rfl (hc) (h2) rfl (fun w11 S11 X11 => ?_)
  refine o_pick rfl (v := .bool _) rfl rfl ?_
  refine o_assign (v := .bool _) rfl rfl ?_
  refine WL_nil ?_
  refine W_ret ?_
  refine ret_1 rfl (by conv => lhs; whnf) ?_
  exact ⟨rfl, S11.fin⟩
theorem targetsD_fn (l : List AssignD) (M : List Nat) (w0 : World) (v : Value) (f : FuncId) (first caps : Array Value) (hS : RdAs M w0 v l) (hH : Has Tryz.prog f)
    (hf : ∀ w', Keep M w0 w' → ∀ a ∈ l, i64 a.cell → Does Tryz.prog f (first.toList ++ [Value.int .i64 a.cell] ++ caps.toList).toArray w' fun v w'' => v = .bool true ∧ Below w'.heap.size w' w'') :
    Does Tryz.prog 160 #[v, .func (.func f) first caps] w0 fun v w' => v = .bool true ∧ Below w0.heap.size w0 w' := by
  obtain ⟨As, ns, cs', rfl⟩ := hS.form
  obtain ⟨hns, hc, bs⟩ := hS.len
  have S := St.refl w0
  refine Does_enter Tryz.func160 rfl Tryz.ntmps160 rfl ?_
  refine W_seq ?_
  refine W_region ?_
  refine o_assign (v := .bool _) rfl rfl ?_
  refine WL_nil ?_
  refine W_seq ?_
  refine W_seq ?_
  refine W_region ?_
  refine o_move (by conv => lhs; whnf) rfl ?_
  refine o_len slz_110.slT rfl rfl ?_
  refine o_move (v := .int .i64 _) rfl rfl ?_
  refine WL_nil ?_
  refine W_block ?_
  refine W_loop (fun μk D ε w => D = [] ∧ ∃ k : Nat, (k + μk = (l.length)) ∧ St [] w0 w [] ∧ ε 1 = .func (.func f) first caps ∧ ε 7 = .slice As ns cs' ∧ ε 8 = .int .i64 ns ∧ ε 9 = .int .i64 k) (μ := (l.length)) ⟨rfl, 0, by omega, S, rfl, rfl, rfl, rfl⟩ ?_
  rintro μk D ε w ⟨rfl, k, hk, S, e1, e7, e8, e9⟩
  refine W_known 1 e1 ?_
  refine W_known 7 e7 ?_
  refine W_known 8 e8 ?_
  refine W_known 9 e9 ?_
  clear e1 e7 e8 e9
  refine W_seq ?_
  refine W_region ?_
  refine o_lss rfl rfl rfl (fun h10 => ?_) (fun h10 => ?_)
  · refine WL_nil ?_
    refine W_seq ?_
    refine W_then rfl ?_
    refine W_skip ?_
    refine W_seq ?_
    refine W_block ?_
    refine W_seq ?_
    refine W_region ?_
    obtain ⟨a, b11, p11, c11, hxa, hA11, hM11, hl11, hc11, hr11⟩ := RdS.get (hS) (k) (by omega)
    obtain ⟨Ae11, ne11, ce11, rfl, ia11, hE11⟩ := RAssign.open_ hr11
    refine o_indexAddr slz_110.slT rfl (by assumption) rfl (by omega) (by omega) rfl ?_
    refine o_loadN many_109 rfl (hc11.keep (S.keep0 _) hM11) (by rfl) rfl ?_
    refine o_alloc S zv_109 rfl rfl ?_
    intro g6 w6 S6 X6 G6
    first | refine o_storeN (kk := 0) (vs := [_, _, _, _, _]) S6 sz_109 rfl rfl rfl rfl rfl rfl rfl ?_
    intro w3_3 S3_3 X3_3
    dsimp only [setsAt, List.set] at S3_3
    refine WL_nil ?_
    refine W_seq ?_
    refine W_region ?_
    refine o_move (by conv => lhs; whnf) rfl ?_
    refine o_fieldAddr fa_109_0 rfl rfl ?_
    refine o_load one_3 rfl (by exact S3_3.cell 0 rfl rfl) rfl ?_
    refine o_callf (vs := first.toList ++ [Value.int .i64 a.cell] ++ caps.toList) hH rfl rfl rfl (hf _ (S3_3.keep0 M) a (some_mem hxa) ia11) ?_
    rintro v16 w16 ⟨rfl, B16⟩
    have S16 := S3_3.later B16
    refine o_not rfl rfl ?_
    refine WL_nil ?_
    refine W_else rfl ?_
    refine W_skip ?_
    refine W_region ?_
    refine o_add rfl rfl (by unfold i64; omega) rfl ?_
    refine o_move (v := .int .i64 _) rfl rfl ?_
    refine WL_nil ?_
    refine ⟨μk - 1, by omega, rfl, (k + 1), (by omega), S16.tail, rfl, rfl, rfl, rfl⟩
  refine WL_nil ?_
  refine W_seq ?_
  refine W_else rfl ?_
  refine W_exit ?_
  refine bcons_here ?_
  refine W_seq ?_
  refine W_region ?_
  refine o_assign (v := .bool _) rfl rfl ?_
  refine WL_nil ?_
  refine W_ret ?_
  refine ret_1 rfl (by conv => lhs; whnf) ?_
  exact ⟨rfl, S.fin⟩
theorem fitsStore_fn (p : ProgD) (t : Nat) (x : ThreadD) (s : StepD) (M : List Nat) (w0 : World) (cs ss : List Value) (h : AtStep p t x s M w0 cs ss) (hk : s.kind = 3) :
    Does Tryz.prog 143 #[.agg cs.toArray, .int .i64 t, .agg ss.toArray] w0 fun v w' => v = .bool true ∧ Below w0.heap.size w0 w' := by
  obtain ⟨hP, hS, hp, hso, hK, hM⟩ := h
  obtain ⟨Ac, nc, cc, Am, nm, cm, Al, nl, cl, At, nt, ct, rfl, hC, hMo, hLk, hTh, hnc, hnm, hnl, hnt, bc, bm, bl, bt⟩ := hP.open_
  obtain ⟨Ag, ng, cg, As, ns, cs', rfl, ⟨i1, i2, i3, i4, i5⟩, hG, hSet, hns, bs⟩ := hS.open_
  have S := St.refl w0
  have hM' : ∀ w' : World, w0.heap.size ≤ w'.heap.size → ∀ g ∈ M, g < w'.heap.size := fun w' h g hg => by have := hM g hg; omega
  have h4 : decide (s.kind = 4) = false := decide_eq_false (by omega)
  have hvg : supAll s.guard (ownQ p t) = true := sup_own hp hso.guard.1 (h4 ▸ hso.row.guard)
  have hvs : ∀ a ∈ s.set, supAll a.to (ownQ p t) = true := fun a ha => by
    obtain ⟨i, hi, rfl⟩ := List.getElem_of_mem ha
    exact sup_own hp (hso.set _ ha).2.1 (h4 ▸ hso.row.vals i hi (.inr (by omega)))
  obtain ⟨a0, l, hset, ht0, hg0, hl⟩ := hso.row.k3 hk
  have hlen : s.set.length = l.length + 1 := by rw [hset]; rfl
  have hm0 : a0 ∈ s.set := by rw [hset]; simp
  have hc0 := (hso.set a0 hm0).1
  have hxa0 : s.set[0]? = some a0 := by rw [hset]; rfl
  unfold isIn at hc0
  obtain ⟨y0, b0, p0, c0, hxy0, rfl, hM0, hl0, hcc0, hr0⟩ := RdS.get hSet 0 (by omega)
  obtain rfl := Option.some.inj (hxa0.symm.trans hxy0)
  obtain ⟨Ae0, ne0, ce0, rfl, ia0, hE0⟩ := RAssign.open_ hr0
  have hdl : s.set.drop 1 = l := by rw [hset]; rfl
  have hTl := RdS.dropped hSet 1 (by omega)
  rw [hdl] at hTl
  have hcl : ∀ a ∈ l, (0 ≤ a.cell ∧ a.cell < p.cells.length) ∧ ghAt p.cells a.cell = true ∧ visQ p t a.cell = true := fun a ha => by
    have hasm : a ∈ s.set := by rw [hset]; exact List.mem_cons_of_mem _ ha
    refine ⟨(hso.set a hasm).1, hl a ha, ?_⟩
    unfold visQ shQ ownQ
    rw [Bool.or_eq_true, decide_eq_true_eq, decide_eq_true_eq]
    rcases hso.row.cells a hasm with h | h
    · exact .inr ⟨(hso.set a hasm).1, h⟩
    · exact .inl ⟨(hso.set a hasm).1, h⟩
  refine Does_enter Tryz.func143 rfl Tryz.ntmps143 rfl ?_
  refine W_seq ?_
  refine W_region ?_
  refine o_boxa S (by conv => lhs; whnf) rfl ?_
  intro g3 w3 S3 X3 G3
  refine o_boxa S3 (by conv => lhs; whnf) rfl ?_
  intro g5 w5 S5 X5 G5
  refine o_assign (v := .bool _) rfl rfl ?_
  refine WL_nil ?_
  refine W_seq ?_
  refine W_seq ?_
  refine W_draw follows_mixed [0, 1, 2, 3, 4, 5, 6, 7] [8] [9, 10, 11] (by kernel_rfl) rfl (Cl _ _ _ _) (Cl.start S5) ?_
  refine q_fieldAddr fa_112_4 rfl rfl ?_
  refine q_load one_110 rfl (fun w1 hw => by exact hw.1.cell 0 rfl rfl) rfl ?_
  refine q_len slz_110.slT rfl rfl ?_
  refine q_eql rfl rfl rfl (fun h12 => ?_) (fun h12 => ?_)
  · exfalso; omega
  refine q_move (v := .bool _) rfl rfl ?_
  refine QL_on rfl rfl ?_
  refine q_loadN many_112 rfl (fun w1 hw => hw.1.cells 0 rfl) rfl rfl ?_
  refine QL_on rfl rfl ?_
  refine q_loadN many_132 rfl (fun w1 hw => hw.1.cells 1 rfl) rfl rfl ?_
  refine QL_on rfl rfl ?_
  refine q_move (v := .int .i64 _) rfl rfl ?_
  refine QL_nil ?_
  refine BK_of ?_
  refine BKL_call (fun v w => IsPred Tryz.prog M w v (ownQ p t)) rfl rfl has_115 rfl (fun v w w' h hk => h.keep hk.of_nil) (fun w1 S1 X1 => ownP_fn p t M _ _ (hP.keep (S1.keep0 M)) (hM' _ S1.size)) ?_
  refine BKL_nil ?_
  rintro wR1 ⟨SR1, XR1⟩
  rintro v17 hq
  dsimp only [upds]
  obtain ⟨f, first, caps, rfl, hH, hf⟩ := id hq
  refine WL_on rfl rfl rfl ?_
  refine o_callr SR1 has_159 rfl rfl (valuesP_fn s M _ _ _ (ownQ p t) (RStep.keep (SR1.keep0 M) _ _ hS) hq (hK.keep (SR1.keep0 M)) (hM' _ SR1.size) hvg hvs) ?_
  intro w18 S18 X18
  replace hq := hq.keep (X18.of_nil)
  refine WL_on rfl rfl rfl ?_
  refine o_not rfl rfl ?_
  refine o_pick rfl (v := .bool _) rfl rfl ?_
  refine WL_nil ?_
  refine W_else rfl ?_
  refine W_skip ?_
  refine W_seq ?_
  refine W_seq ?_
  refine W_region ?_
  refine o_fieldAddr fa_112_4 rfl rfl ?_
  refine o_load one_110 rfl (by exact S18.cell 0 rfl rfl) rfl ?_
  refine o_indexAddr slz_110.slT rfl (by rfl) rfl (by omega) (by omega) rfl ?_
  refine o_fieldAddr fa_109_0 rfl rfl ?_
  refine o_load one_3 rfl (by exact S18.old (hcc0 _ _ rfl)) rfl ?_
  refine o_assign (v := .int .i64 _) rfl rfl ?_
  refine WL_nil ?_
  refine W_seq ?_
  refine W_region ?_
  refine o_loadN many_132 rfl (S18.cells 1 rfl) rfl rfl ?_
  refine o_move (v := .int .i64 _) rfl rfl ?_
  refine o_callr S18 has_90 rfl rfl ((show shQ p a0.cell = true from decide_eq_true ⟨hc0, ht0⟩) ▸ sharedP_fn p M _ _ _ (hP.keep (S18.keep0 M))) ?_
  intro w28 S28 X28
  replace hq := hq.keep (X28.of_nil)
  refine o_not rfl rfl ?_
  refine o_move (v := .bool _) rfl rfl ?_
  refine WL_on rfl rfl rfl ?_
  refine o_loadN many_132 rfl (S28.cells 1 rfl) rfl rfl ?_
  refine WL_on rfl rfl rfl ?_
  refine o_move (v := .int .i64 _) rfl rfl ?_
  refine WL_on rfl rfl rfl ?_
  refine o_callr S28 has_161 rfl rfl (hg0 ▸ ghostP_fn p M _ _ _ (hP.keep (S28.keep0 M)) hc0.1 hc0.2) ?_
  intro w33 S33 X33
  replace hq := hq.keep (X33.of_nil)
  refine o_pick rfl (v := .bool _) rfl rfl ?_
  refine WL_nil ?_
  refine W_else rfl ?_
  refine W_skip ?_
  refine W_seq ?_
  refine W_region ?_
  refine o_loadN many_132 rfl (S33.cells 1 rfl) rfl rfl ?_
  refine o_move (v := .int .i64 _) rfl rfl ?_
  refine o_calln S33 has_94 rfl rfl (visibleP_fn p t M _ _ (hP.keep (S33.keep0 M)) (hM' _ S33.size)) ?_
  rintro v37 w37 hq2 S37 X37
  obtain ⟨f2, first2, caps2, rfl, hH2, hf2⟩ := id hq2
  have K37 := Keep.refl [] w37
  refine o_alloc S37 zv_160 rfl rfl ?_
  intro g8 w8 S8 X8 G8
  have GK378 := Nat.le_trans K37.size G8
  replace K37 := K37.trans X8
  refine o_store (kk := 0) S8 sz_160 rfl (by conv => lhs; whnf) rfl rfl (by exact Nat.le_of_ble_eq_true rfl) ?_
  intro w6_4 S6_4 X6_4
  replace K37 := K37.fresh X6_4 (by first | exact GK378)
  refine WL_nil ?_
  refine W_seq ?_
  refine W_region ?_
  refine o_fieldAddr fa_112_4 rfl rfl ?_
  refine o_load one_110 rfl (by exact S6_4.cell 1 rfl rfl) rfl ?_
  refine o_slice (kd := .i64) (lo := 1) (hi := ns) slz_110.slT rfl (.inr rfl) (.inl ⟨rfl, rfl⟩) (by omega) (by have := hSet.len; omega) (by have := hSet.len; omega) rfl ?_
  refine o_makeFunc rfl rfl ?_
  refine o_callr S6_4 has_160 rfl rfl (targetsD_fn l M _ _ _ _ _ (RdS.keepW hTl (S6_4.keep0 M) (RAssign.keep (S6_4.keep0 M))) has_162 (fun w' hk a ha hia => fitsStore1_fn p t a.cell g3 g8 M w' _ _ (hP.keep ((S6_4.keep0 M).trans hk)) ((S6_4.cells 2 rfl).keep hk (fresh_not hM (S6_4.new 2 rfl))) (hk.cell (a := ⟨g8, 0, none⟩) (fresh_not hM (S6_4.new 0 rfl)) (S6_4.cell 0 rfl rfl)) (hq2.keep (K37.of_nil.trans hk)) hia (hcl a ha).1 (hcl a ha).2.1 (hcl a ha).2.2)) ?_
  intro w42 S42 X42
  replace K37 := K37.trans X42
  refine o_assign (v := .bool _) rfl rfl ?_
  refine WL_nil ?_
  refine W_ret ?_
  refine ret_1 rfl (by conv => lhs; whnf) ?_
  exact ⟨rfl, S42.fin⟩
def fitsOf (k : Int) : Nat := if k = 1 then 141 else if k = 2 then 142 else if k = 3 then 143 else if k = 4 then 144 else if k = 5 then 145 else if k = 6 then 146 else 147
def kindsV : Array Value := #[.nilFunc, .func (.func 141) #[] #[], .func (.func 142) #[] #[], .func (.func 143) #[] #[], .func (.func 144) #[] #[], .func (.func 145) #[] #[], .func (.func 146) #[] #[], .func (.func 147) #[] #[]]
theorem fits_fn (p : ProgD) (t : Nat) (x : ThreadD) (s : StepD) (M : List Nat) (w0 : World) (cs ss : List Value) (h : AtStep p t x s M w0 cs ss) :
    Does Tryz.prog (fitsOf s.kind) #[.agg cs.toArray, .int .i64 t, .agg ss.toArray] w0 fun v w' => v = .bool true ∧ Below w0.heap.size w0 w' := by
  have hk := h.sok.kind
  rcases (show s.kind = 1 ∨ s.kind = 2 ∨ s.kind = 3 ∨ s.kind = 4 ∨ s.kind = 5 ∨ s.kind = 6 ∨ s.kind = 7 by omega) with e | e | e | e | e | e | e <;> rw [e]
  · exact fitsLocal_fn p t x s M w0 cs ss h e
  · exact fitsLoad_fn p t x s M w0 cs ss h e
  · exact fitsStore_fn p t x s M w0 cs ss h e
  · exact fitsAtomic_fn p t x s M w0 cs ss h e
  · exact fitsFence_fn p t x s M w0 cs ss h (by omega)
  · exact fitsSpawn_fn p t x s M w0 cs ss h e
  · exact fitsJoin_fn p t x s M w0 cs ss h (by omega)
theorem fitsOf_has {k : Int} : Has Tryz.prog (fitsOf k) := by
  unfold fitsOf
  repeat' split
  · exact has_141
  · exact has_142
  · exact has_143
  · exact has_144
  · exact has_145
  · exact has_146
  · exact has_147
theorem kindsV_at {k : Int} (h1 : 1 ≤ k) (h7 : k ≤ 7) : kindsV.extract (k.toNat * 1) (k.toNat * 1 + 1) = #[.func (.func (fitsOf k)) #[] #[]] := by
  rcases (show k = 1 ∨ k = 2 ∨ k = 3 ∨ k = 4 ∨ k = 5 ∨ k = 6 ∨ k = 7 by omega) with e | e | e | e | e | e | e <;> subst e <;> rfl
theorem kinds_fn (wz : World) : Does Tryz.prog 117 #[] wz fun v w' => v = .agg kindsV ∧ Below wz.heap.size wz w' := by
  have S := St.refl wz
  refine Does_enter Tryz.func117 rfl Tryz.ntmps117 rfl ?_
  refine W_seq ?_
  refine W_region ?_
  refine o_alloc S zv_182 rfl rfl ?_
  intro g0 w0 S0 X0 G0
  refine WL_nil ?_
  refine W_seq ?_
  refine W_region ?_
  refine o_build bld_181 (vs := [(0, .func _ _ _)]) (cs := [_]) rfl rfl rfl rfl ?_
  refine o_build bld_181 (vs := [(0, .func _ _ _)]) (cs := [_]) rfl rfl rfl rfl ?_
  refine o_build bld_181 (vs := [(0, .func _ _ _)]) (cs := [_]) rfl rfl rfl rfl ?_
  refine o_build bld_181 (vs := [(0, .func _ _ _)]) (cs := [_]) rfl rfl rfl rfl ?_
  refine o_build bld_181 (vs := [(0, .func _ _ _)]) (cs := [_]) rfl rfl rfl rfl ?_
  refine o_build bld_181 (vs := [(0, .func _ _ _)]) (cs := [_]) rfl rfl rfl rfl ?_
  refine o_build bld_181 (vs := [(0, .func _ _ _)]) (cs := [_]) rfl rfl rfl rfl ?_
  refine WL_val (v := .agg kindsV) (w' := w0) rfl rfl rfl (by simp) (by kernel_rfl) ?_
  first | refine o_storeN (kk := 0) (vs := [_, _, _, _, _, _, _, _]) S0 sz_182 rfl rfl rfl rfl rfl rfl rfl ?_
  intro w1_8 S1_8 X1_8
  dsimp only [setsAt, List.set] at S1_8
  refine WL_nil ?_
  refine W_ret ?_
  exact ret_cell1 (n := 8) rfl (many_of (by rw [Tryz.underlying182]; simp) (by kernel_rfl)) rfl (S1_8.cells 0 rfl) rfl ⟨rfl, S1_8.fin⟩
end Go.Proofs.YtgnbfmifjlnigaaGreatDoor
namespace Go.Fw
open Go.RowKit
section
variable {P : Program} {N : Nat} {ops : Array Oper} {C : World → Prop} {rest : List Oper} {K : Env → Prop} {e : Env} {d : Nat} {t : TypeId} {p : String} {af : Array Edge} {x y : Operand} {kd : IntKind} {a : Int}
theorem q_indexA {ty len el size : Nat} {cs cs' : Array Value} (hu : P.underlying ty = some (.array len el)) (hsz : ∀ w : World, (sizeOf el).run P w = .ok size w) (ha : ∀ w : World, (isAgg el).run P w = .ok true w) (hx : ev e x = .agg cs) (hy : ev e y = .int kd a) (h0 : 0 ≤ a) (h1 : a < len) (hv : cs.extract (a.toNat * size) (a.toNat * size + size) = cs') (hd : Nat.ble (d + 1) N = true)
    (h : QL P N ops C rest K (upd e d (.agg cs'))) : QL P N ops C (⟨some d, .index ty x y, t, p, af, none⟩ :: rest) K e :=
  QL_val rfl rfl hd (fun w _ => by simp [execOp, Instr.index, hx, hy, asIntOf, run_underlying hu, h0, h1, hsz, part, ha, hv]) h
end
theorem fresh_not2 {M : List Nat} {w : World} {g : Nat} (hM : ∀ g ∈ M, g < w.heap.size) (h : w.heap.size ≤ g) : g ∉ M := fun hh => by have := hM g hh; omega
end Go.Fw
namespace Go.Proofs.YtgnbfmifjlnigaaGreatDoor
open Go.Fw Go.RowKit
set_option maxRecDepth 100000 in
theorem kind_size : ∀ w : World, (sizeOf 181).run Tryz.prog w = .ok 1 w := fun _ => by kernel_rfl
set_option maxRecDepth 100000 in
theorem kind_agg : ∀ w : World, (isAgg 181).run Tryz.prog w = .ok true w := fun _ => by kernel_rfl
set_option maxHeartbeats 1000000 in
theorem stepP_fn (p : ProgD) (t : Nat) (x : ThreadD) (s : StepD) (M : List Nat) (w0 : World) (cs ss ts : List Value) (h : AtStep p t x s M w0 cs ss) (hT : RThread M w0 ts x) (hpt : 1 ≤ x.points) (hpt2 : x.points ≤ 48) :
    Does Tryz.prog 95 #[.agg cs.toArray, .int .i64 t, .agg ts.toArray, .agg ss.toArray] w0 fun v w' => v = .int .i64 0 ∧ Below w0.heap.size w0 w' := by
  obtain ⟨hP, hS, hp, hso, hK, hM⟩ := h
  obtain ⟨Ac, nc, cc, Am, nm, cm, Al, nl, cl, At, nt, ct, rfl, hC, hMo, hLk, hTh, hnc, hnm, hnl, hnt, bc, bm, bl, bt⟩ := hP.open_
  obtain ⟨Ag, ng, cg, As, ns, cs', rfl, ⟨i1, i2, i3, i4, i5⟩, hG, hSet, hns, bs⟩ := hS.open_
  obtain ⟨Aa1, na1, ca1, Am1, nm1, cm1, As1, ns1, cs1, Al1, nl1, cl1, rfl, ip1, hEs1, hMs1, hSt1, hLo1, hna1, hnm1, hns1, hnl1, ba1, bm1, bs1, bl1⟩ := hT.open_
  have S := St.refl w0
  have hM' : ∀ w' : World, w0.heap.size ≤ w'.heap.size → ∀ g ∈ M, g < w'.heap.size := fun w' h g hg => by have := hM g hg; omega
  have k0 := hso.kind
  have k1 := hso.frm
  have k2 := hso.to
  have k3 := hso.mod
  have k4 := hso.rel
  have k5 := hso.tgt
  have k6 := hso.guard
  unfold isIn at k3
  have hdis : s.set.Pairwise fun a b => Value.int .i64 a.cell ≠ .int .i64 b.cell := hso.once.imp fun h e => h (by injection e)
  refine Does_enter Tryz.func95 rfl Tryz.ntmps95 rfl ?_
  refine W_seq ?_
  refine W_region ?_
  refine o_boxa S (by conv => lhs; whnf) rfl ?_
  intro g4 w4 S4 X4 G4
  refine o_boxa S4 (by conv => lhs; whnf) rfl ?_
  intro g6 w6 S6 X6 G6
  refine o_boxa S6 (by conv => lhs; whnf) rfl ?_
  intro g7 w7 S7 X7 G7
  refine o_assign (v := .int .i64 _) rfl rfl ?_
  refine WL_nil ?_
  refine W_cut (fun D ε w => D = [] ∧ ∃ aim : Bool, (s.kind = 6 ∨ s.kind = 7 → aim = true) ∧ St [] w0 w [(some g7, 112, [.int .i64 s.kind, .int .i64 s.frm, .int .i64 s.to, .int .i64 s.guard.op, .int .i64 s.guard.w, .int .i64 s.guard.n, .slice Ag ng cg, .slice As ns cs', .bool s.release, .int .i64 s.target, .int .i64 s.module_]), (some g6, 83, [.string x.name, .int .i64 x.points, .slice Aa1 na1 ca1, .slice Am1 nm1 cm1, .slice As1 ns1 cs1, .slice Al1 nl1 cl1, .bool x.asleep]), (some g4, 132, [.slice Ac nc cc, .slice Am nm cm, .slice Al nl cl, .slice At nt ct])] ∧ ε 1 = .int .i64 t ∧ ε 4 = .pointer (some ⟨g4, 0, none⟩) ∧ ε 6 = .pointer (some ⟨g6, 0, none⟩) ∧ ε 7 = .pointer (some ⟨g7, 0, none⟩) ∧ ε 9 = .bool aim) ?_ ?_
  · refine W_region ?_
    refine o_fieldAddr fa_112_0 rfl rfl ?_
    refine o_load one_3 rfl (by exact S7.cell 0 rfl rfl) rfl ?_
    refine o_eql rfl rfl rfl (fun h17 => ?_) (fun h17 => ?_)
    · refine o_move (v := .bool _) rfl rfl ?_
      refine WL_off rfl rfl rfl rfl ?_
      refine WL_off rfl rfl rfl rfl ?_
      refine WL_off rfl rfl rfl rfl ?_
      refine o_pick rfl (v := .bool _) rfl rfl ?_
      refine o_assign (v := .bool _) rfl rfl ?_
      refine WL_nil ?_
      refine ⟨rfl, (_), ?_, S7, rfl, rfl, rfl, rfl, rfl⟩
      exact fun _ => rfl
    refine o_move (v := .bool _) rfl rfl ?_
    refine WL_on rfl rfl rfl ?_
    refine o_fieldAddr fa_112_0 rfl rfl ?_
    refine WL_on rfl rfl rfl ?_
    refine o_load one_3 rfl (by exact S7.cell 0 rfl rfl) rfl ?_
    refine WL_on rfl rfl rfl ?_
    refine o_eql rfl rfl rfl (fun h21 => ?_) (fun h21 => ?_)
    · refine o_pick rfl (v := .bool _) rfl rfl ?_
      refine o_assign (v := .bool _) rfl rfl ?_
      refine WL_nil ?_
      refine ⟨rfl, (_), ?_, S7, rfl, rfl, rfl, rfl, rfl⟩
      exact fun _ => rfl
    refine o_pick rfl (v := .bool _) rfl rfl ?_
    refine o_assign (v := .bool _) rfl rfl ?_
    refine WL_nil ?_
    refine ⟨rfl, (_), ?_, S7, rfl, rfl, rfl, rfl, rfl⟩
    exact fun h => absurd h (by omega)
  rintro D ε w ⟨rfl, aim, haim, S, e1, e4, e6, e7, e9⟩
  refine W_known 1 e1 ?_
  refine W_known 4 e4 ?_
  refine W_known 6 e6 ?_
  refine W_known 7 e7 ?_
  refine W_known 9 e9 ?_
  clear e1 e4 e6 e7 e9
  refine W_cut (fun D ε w => D = [] ∧ St [] w0 w [(some g7, 112, [.int .i64 s.kind, .int .i64 s.frm, .int .i64 s.to, .int .i64 s.guard.op, .int .i64 s.guard.w, .int .i64 s.guard.n, .slice Ag ng cg, .slice As ns cs', .bool s.release, .int .i64 s.target, .int .i64 s.module_]), (some g6, 83, [.string x.name, .int .i64 x.points, .slice Aa1 na1 ca1, .slice Am1 nm1 cm1, .slice As1 ns1 cs1, .slice Al1 nl1 cl1, .bool x.asleep]), (some g4, 132, [.slice Ac nc cc, .slice Am nm cm, .slice Al nl cl, .slice At nt ct])] ∧ ε 1 = .int .i64 t ∧ ε 4 = .pointer (some ⟨g4, 0, none⟩) ∧ ε 7 = .pointer (some ⟨g7, 0, none⟩)) ?_ ?_
  · refine W_block ?_
    refine W_seq ?_
    refine W_seq ?_
    refine W_region ?_
    refine o_fieldAddr fa_112_0 rfl rfl ?_
    refine o_load one_3 rfl (by exact S.cell 0 rfl rfl) rfl ?_
    refine o_lss rfl rfl rfl (fun h26 => ?_) (fun h26 => ?_)
    · exfalso; omega
    refine o_assign (v := .bool _) rfl rfl ?_
    refine WL_nil ?_
    refine W_else rfl ?_
    refine W_region ?_
    refine o_fieldAddr fa_112_0 rfl rfl ?_
    refine o_load one_3 rfl (by exact S.cell 0 rfl rfl) rfl ?_
    refine o_gtr rfl rfl rfl (fun h29 => ?_) (fun h29 => ?_)
    · exfalso; omega
    refine o_assign (v := .bool _) rfl rfl ?_
    refine WL_nil ?_
    refine W_else rfl ?_
    refine W_seq ?_
    refine W_seq ?_
    refine W_region ?_
    refine o_fieldAddr fa_112_1 rfl rfl ?_
    refine o_load one_3 rfl (by exact S.cell 0 rfl rfl) rfl ?_
    refine o_fieldAddr fa_83_1 rfl rfl ?_
    refine o_load one_3 rfl (by exact S.cell 1 rfl rfl) rfl ?_
    refine o_sub rfl rfl (by unfold i64; omega) rfl ?_
    refine o_callr S has_86 rfl rfl ((show decide (0 ≤ s.frm ∧ s.frm < x.points - 1) = true from decide_eq_true (by omega)) ▸ below_fn _ _ _) ?_
    intro w36 S36 X36
    refine o_not rfl rfl ?_
    refine o_assign (v := .bool _) rfl rfl ?_
    refine WL_nil ?_
    refine W_else rfl ?_
    refine W_seq ?_
    refine W_region ?_
    refine o_fieldAddr fa_112_2 rfl rfl ?_
    refine o_load one_3 rfl (by exact S36.cell 0 rfl rfl) rfl ?_
    refine o_fieldAddr fa_83_1 rfl rfl ?_
    refine o_load one_3 rfl (by exact S36.cell 1 rfl rfl) rfl ?_
    refine o_callr S36 has_86 rfl rfl ((show decide (0 ≤ s.to ∧ s.to < x.points) = true from decide_eq_true (by omega)) ▸ below_fn _ _ _) ?_
    intro w42 S42 X42
    refine o_not rfl rfl ?_
    refine o_assign (v := .bool _) rfl rfl ?_
    refine WL_nil ?_
    refine W_else rfl ?_
    refine W_region ?_
    refine o_fieldAddr fa_112_7 rfl rfl ?_
    refine o_load one_3 rfl (by exact S42.cell 0 rfl rfl) rfl ?_
    refine o_fieldAddr fa_132_0 rfl rfl ?_
    refine o_fieldAddr fa_36_1 rfl rfl ?_
    refine o_load one_32 rfl (by exact S42.cell 2 rfl rfl) rfl ?_
    refine o_len slz_32.slT rfl rfl ?_
    refine o_callr S42 has_86 rfl rfl ((show decide (0 ≤ s.module_ ∧ s.module_ < (nm : Int)) = true from decide_eq_true (by omega)) ▸ below_fn _ _ _) ?_
    intro w50 S50 X50
    refine o_not rfl rfl ?_
    refine o_assign (v := .bool _) rfl rfl ?_
    refine WL_nil ?_
    refine W_else rfl ?_
    refine W_seq ?_
    refine W_seq ?_
    refine W_region ?_
    refine o_fieldAddr fa_112_5 rfl rfl ?_
    rcases (Bool.eq_false_or_eq_true (s.release)).symm with hb54 | hb54
    · refine o_load one_4 rfl (by exact (S50.cell 0 rfl rfl).trans (congrArg (fun b => some (Value.bool b)) hb54)) rfl ?_
      refine o_move (v := .bool _) rfl rfl ?_
      refine WL_off rfl rfl rfl rfl ?_
      refine WL_off rfl rfl rfl rfl ?_
      refine WL_off rfl rfl rfl rfl ?_
      refine o_pick rfl (v := .bool _) rfl rfl ?_
      refine o_assign (v := .bool _) rfl rfl ?_
      refine WL_nil ?_
      refine W_else rfl ?_
      refine W_region ?_
      refine o_fieldAddr fa_112_6 rfl rfl ?_
      refine o_load one_3 rfl (by exact S50.cell 0 rfl rfl) rfl ?_
      refine o_neq rfl rfl rfl (fun h62 => ?_) (fun h62 => ?_)
      · refine o_move (v := .bool _) rfl rfl ?_
        refine WL_on rfl rfl rfl ?_
        have haimT := haim (k5 h62)
        subst haimT
        refine o_move (v := .bool true) rfl rfl ?_
        refine WL_on rfl rfl rfl ?_
        refine o_not rfl rfl ?_
        refine o_pick rfl (v := .bool _) rfl rfl ?_
        refine o_assign (v := .bool _) rfl rfl ?_
        refine WL_nil ?_
        refine W_else rfl ?_
        refine W_seq ?_
        refine W_seq ?_
        refine W_region ?_
        refine o_fieldAddr fa_112_3 rfl rfl ?_
        refine o_fieldAddr fa_73_1 rfl rfl ?_
        refine o_load one_3 rfl (by exact S50.cell 0 rfl rfl) rfl ?_
        refine o_neq rfl rfl rfl (fun h71 => ?_) (fun h71 => ?_)
        · exfalso; omega
        refine o_assign (v := .bool _) rfl rfl ?_
        refine WL_nil ?_
        refine W_else rfl ?_
        refine W_region ?_
        refine o_fieldAddr fa_112_3 rfl rfl ?_
        refine o_loadN many_73 rfl (cs := [_, _, _, _]) (S50.cellsAt 0 3 4 rfl) rfl rfl ?_
        refine o_fieldAddr fa_132_0 rfl rfl ?_
        refine o_fieldAddr fa_36_0 rfl rfl ?_
        refine o_load one_31 rfl (by exact S50.cell 2 rfl rfl) rfl ?_
        refine o_callr S50 has_97 rfl rfl (k6.1 ▸ valid_e_fn s.guard M _ _ _ p.cells false (RdE.keep (S50.keep0 M) _ _ hG) (hC.keep (S50.keep0 M)) (hK.keep (S50.keep0 M))) ?_
        intro w77 S77 X77
        refine o_not rfl rfl ?_
        refine o_assign (v := .bool _) rfl rfl ?_
        refine WL_nil ?_
        refine W_else rfl ?_
        refine W_skip ?_
        refine ⟨rfl, S77, rfl, rfl, rfl⟩
      refine o_move (v := .bool _) rfl rfl ?_
      refine WL_off rfl rfl rfl rfl ?_
      refine WL_off rfl rfl rfl rfl ?_
      refine o_pick rfl (v := .bool _) rfl rfl ?_
      refine o_assign (v := .bool _) rfl rfl ?_
      refine WL_nil ?_
      refine W_else rfl ?_
      refine W_seq ?_
      refine W_seq ?_
      refine W_region ?_
      refine o_fieldAddr fa_112_3 rfl rfl ?_
      refine o_fieldAddr fa_73_1 rfl rfl ?_
      refine o_load one_3 rfl (by exact S50.cell 0 rfl rfl) rfl ?_
      refine o_neq rfl rfl rfl (fun h71 => ?_) (fun h71 => ?_)
      · exfalso; omega
      refine o_assign (v := .bool _) rfl rfl ?_
      refine WL_nil ?_
      refine W_else rfl ?_
      refine W_region ?_
      refine o_fieldAddr fa_112_3 rfl rfl ?_
      refine o_loadN many_73 rfl (cs := [_, _, _, _]) (S50.cellsAt 0 3 4 rfl) rfl rfl ?_
      refine o_fieldAddr fa_132_0 rfl rfl ?_
      refine o_fieldAddr fa_36_0 rfl rfl ?_
      refine o_load one_31 rfl (by exact S50.cell 2 rfl rfl) rfl ?_
      refine o_callr S50 has_97 rfl rfl (k6.1 ▸ valid_e_fn s.guard M _ _ _ p.cells false (RdE.keep (S50.keep0 M) _ _ hG) (hC.keep (S50.keep0 M)) (hK.keep (S50.keep0 M))) ?_
      intro w77 S77 X77
      refine o_not rfl rfl ?_
      refine o_assign (v := .bool _) rfl rfl ?_
      refine WL_nil ?_
      refine W_else rfl ?_
      refine W_skip ?_
      refine ⟨rfl, S77, rfl, rfl, rfl⟩
    refine o_load one_4 rfl (by exact (S50.cell 0 rfl rfl).trans (congrArg (fun b => some (Value.bool b)) hb54)) rfl ?_
    refine o_move (v := .bool _) rfl rfl ?_
    refine WL_on rfl rfl rfl ?_
    refine o_fieldAddr fa_112_0 rfl rfl ?_
    refine WL_on rfl rfl rfl ?_
    refine o_load one_3 rfl (by exact S50.cell 0 rfl rfl) rfl ?_
    refine WL_on rfl rfl rfl ?_
    refine o_neq rfl rfl rfl (fun h58 => ?_) (fun h58 => ?_)
    · exact absurd (k4 hb54) h58
    refine o_pick rfl (v := .bool _) rfl rfl ?_
    refine o_assign (v := .bool _) rfl rfl ?_
    refine WL_nil ?_
    refine W_else rfl ?_
    refine W_region ?_
    refine o_fieldAddr fa_112_6 rfl rfl ?_
    refine o_load one_3 rfl (by exact S50.cell 0 rfl rfl) rfl ?_
    refine o_neq rfl rfl rfl (fun h62 => ?_) (fun h62 => ?_)
    · refine o_move (v := .bool _) rfl rfl ?_
      refine WL_on rfl rfl rfl ?_
      have haimT := haim (k5 h62)
      subst haimT
      refine o_move (v := .bool true) rfl rfl ?_
      refine WL_on rfl rfl rfl ?_
      refine o_not rfl rfl ?_
      refine o_pick rfl (v := .bool _) rfl rfl ?_
      refine o_assign (v := .bool _) rfl rfl ?_
      refine WL_nil ?_
      refine W_else rfl ?_
      refine W_seq ?_
      refine W_seq ?_
      refine W_region ?_
      refine o_fieldAddr fa_112_3 rfl rfl ?_
      refine o_fieldAddr fa_73_1 rfl rfl ?_
      refine o_load one_3 rfl (by exact S50.cell 0 rfl rfl) rfl ?_
      refine o_neq rfl rfl rfl (fun h71 => ?_) (fun h71 => ?_)
      · exfalso; omega
      refine o_assign (v := .bool _) rfl rfl ?_
      refine WL_nil ?_
      refine W_else rfl ?_
      refine W_region ?_
      refine o_fieldAddr fa_112_3 rfl rfl ?_
      refine o_loadN many_73 rfl (cs := [_, _, _, _]) (S50.cellsAt 0 3 4 rfl) rfl rfl ?_
      refine o_fieldAddr fa_132_0 rfl rfl ?_
      refine o_fieldAddr fa_36_0 rfl rfl ?_
      refine o_load one_31 rfl (by exact S50.cell 2 rfl rfl) rfl ?_
      refine o_callr S50 has_97 rfl rfl (k6.1 ▸ valid_e_fn s.guard M _ _ _ p.cells false (RdE.keep (S50.keep0 M) _ _ hG) (hC.keep (S50.keep0 M)) (hK.keep (S50.keep0 M))) ?_
      intro w77 S77 X77
      refine o_not rfl rfl ?_
      refine o_assign (v := .bool _) rfl rfl ?_
      refine WL_nil ?_
      refine W_else rfl ?_
      refine W_skip ?_
      refine ⟨rfl, S77, rfl, rfl, rfl⟩
    refine o_move (v := .bool _) rfl rfl ?_
    refine WL_off rfl rfl rfl rfl ?_
    refine WL_off rfl rfl rfl rfl ?_
    refine o_pick rfl (v := .bool _) rfl rfl ?_
    refine o_assign (v := .bool _) rfl rfl ?_
    refine WL_nil ?_
    refine W_else rfl ?_
    refine W_seq ?_
    refine W_seq ?_
    refine W_region ?_
    refine o_fieldAddr fa_112_3 rfl rfl ?_
    refine o_fieldAddr fa_73_1 rfl rfl ?_
    refine o_load one_3 rfl (by exact S50.cell 0 rfl rfl) rfl ?_
    refine o_neq rfl rfl rfl (fun h71 => ?_) (fun h71 => ?_)
    · exfalso; omega
    refine o_assign (v := .bool _) rfl rfl ?_
    refine WL_nil ?_
    refine W_else rfl ?_
    refine W_region ?_
    refine o_fieldAddr fa_112_3 rfl rfl ?_
    refine o_loadN many_73 rfl (cs := [_, _, _, _]) (S50.cellsAt 0 3 4 rfl) rfl rfl ?_
    refine o_fieldAddr fa_132_0 rfl rfl ?_
    refine o_fieldAddr fa_36_0 rfl rfl ?_
    refine o_load one_31 rfl (by exact S50.cell 2 rfl rfl) rfl ?_
    refine o_callr S50 has_97 rfl rfl (k6.1 ▸ valid_e_fn s.guard M _ _ _ p.cells false (RdE.keep (S50.keep0 M) _ _ hG) (hC.keep (S50.keep0 M)) (hK.keep (S50.keep0 M))) ?_
    intro w77 S77 X77
    refine o_not rfl rfl ?_
    refine o_assign (v := .bool _) rfl rfl ?_
    refine WL_nil ?_
    refine W_else rfl ?_
    refine W_skip ?_
    refine ⟨rfl, S77, rfl, rfl, rfl⟩
  rintro D ε w ⟨rfl, S, e1, e4, e7⟩
  refine W_known 1 e1 ?_
  refine W_known 4 e4 ?_
  refine W_known 7 e7 ?_
  clear e1 e4 e7
  refine W_seq ?_
  refine W_region ?_
  refine o_makeMap (k := 3) S rfl ?_
  intro g79 w79 S79 X79 G79 Mp79
  refine o_assign (by conv => lhs; whnf) rfl ?_
  refine WL_nil ?_
  refine W_seq ?_
  refine W_seq ?_
  have hg79 : w0.heap.size ≤ g79 := by have := S.size; omega
  refine W_region ?_
  refine o_fieldAddr fa_112_4 rfl rfl ?_
  refine o_load one_110 rfl (by exact S79.cell 0 rfl rfl) rfl ?_
  refine o_len slz_110.slT rfl rfl ?_
  refine o_move (v := .int .i64 _) rfl rfl ?_
  refine WL_nil ?_
  refine W_block ?_
  refine W_loop (fun μk D ε w => D = [] ∧ ∃ k : Nat, (k + μk = (s.set.length)) ∧ (MapAt Tryz.prog 3 w g79 (setOf ((s.set.take k).map fun c => .int .i64 c.cell))) ∧ St [] w0 w [(some g7, 112, [.int .i64 s.kind, .int .i64 s.frm, .int .i64 s.to, .int .i64 s.guard.op, .int .i64 s.guard.w, .int .i64 s.guard.n, .slice Ag ng cg, .slice As ns cs', .bool s.release, .int .i64 s.target, .int .i64 s.module_]), (some g6, 83, [.string x.name, .int .i64 x.points, .slice Aa1 na1 ca1, .slice Am1 nm1 cm1, .slice As1 ns1 cs1, .slice Al1 nl1 cl1, .bool x.asleep]), (some g4, 132, [.slice Ac nc cc, .slice Am nm cm, .slice Al nl cl, .slice At nt ct])] ∧ ε 1 = .int .i64 t ∧ ε 4 = .pointer (some ⟨g4, 0, none⟩) ∧ ε 7 = .pointer (some ⟨g7, 0, none⟩) ∧ ε 10 = .map (some g79) ∧ ε 81 = .slice As ns cs' ∧ ε 82 = .int .i64 ns ∧ ε 83 = .int .i64 k) (μ := (s.set.length)) ⟨rfl, 0, by omega, (by simpa [setOf] using Mp79), S79, rfl, rfl, rfl, rfl, rfl, rfl, rfl⟩ ?_
  rintro μk D ε w ⟨rfl, k, hk, Mp79, S, e1, e4, e7, e10, e81, e82, e83⟩
  refine W_known 1 e1 ?_
  refine W_known 4 e4 ?_
  refine W_known 7 e7 ?_
  refine W_known 10 e10 ?_
  refine W_known 81 e81 ?_
  refine W_known 82 e82 ?_
  refine W_known 83 e83 ?_
  clear e1 e4 e7 e10 e81 e82 e83
  refine W_seq ?_
  refine W_region ?_
  refine o_lss rfl rfl rfl (fun h84 => ?_) (fun h84 => ?_)
  · refine WL_nil ?_
    refine W_seq ?_
    refine W_then rfl ?_
    refine W_skip ?_
    refine W_seq ?_
    refine W_block ?_
    refine W_seq ?_
    refine W_region ?_
    obtain ⟨a, b85, p85, c85, hxa, hA85, hM85, hl85, hc85, hr85⟩ := RdS.get (hSet) (k) (by omega)
    obtain ⟨Ae85, ne85, ce85, rfl, ia85, hE85⟩ := RAssign.open_ hr85
    have q1 := hso.set a (some_mem hxa)
    have q2 := q1.1
    unfold isIn at q2
    have q3 := q1.2.2
    refine o_indexAddr slz_110.slT rfl (by assumption) rfl (by omega) (by omega) rfl ?_
    refine o_loadN many_109 rfl (hc85.keep (S.keep0 _) hM85) (by rfl) rfl ?_
    refine o_alloc S zv_109 rfl rfl ?_
    intro g12 w12 S12 X12 G12
    replace Mp79 := Mp79.keep X12 (List.not_mem_nil)
    refine o_storeN (kk := 0) (vs := [_, _, _, _, _]) S12 sz_109 rfl rfl rfl rfl rfl rfl rfl ?_
    intro w18_3 S18_3 X18_3
    dsimp only [setsAt, List.set] at S18_3
    replace Mp79 := Mp79.keep X18_3 (fun hh => by rw [List.mem_singleton] at hh; exact Mp79.ne (S12.blk 0 rfl) hh)
    refine WL_nil ?_
    refine W_seq ?_
    refine W_seq ?_
    refine W_region ?_
    refine o_move (by conv => lhs; whnf) rfl ?_
    refine o_fieldAddr fa_109_0 rfl rfl ?_
    refine o_load one_3 rfl (by exact S18_3.cell 0 rfl rfl) rfl ?_
    have hk91 := keyInt ia85
    have hnew := not_before hdis hxa
    refine o_lookup2 (Go.Maps.int_keyed Tryz.underlying3) Tryz.underlying162 zv_163 Mp79 rfl rfl hk91 rfl (fun v hv => absurd rfl (setOf_new hnew _ hv)) (fun _ => ?_)
    refine o_move (by conv => lhs; whnf) rfl ?_
    refine o_extract rfl rfl rfl ?_
    refine o_extract rfl rfl rfl ?_
    refine o_alloc S18_3 zv_163 rfl rfl ?_
    intro g13 w13 S13 X13 G13
    replace Mp79 := Mp79.keep X13 (List.not_mem_nil)
    refine o_storeN (kk := 0) (vs := []) S13 sz_163 rfl rfl rfl rfl rfl rfl rfl ?_
    intro w19_8 S19_8 X19_8
    dsimp only [setsAt, List.set] at S19_8
    replace Mp79 := Mp79.keep X19_8 (fun hh => by rw [List.mem_singleton] at hh; exact Mp79.ne (S13.blk 0 rfl) hh)
    refine o_assign (v := .bool _) rfl rfl ?_
    refine WL_nil ?_
    refine W_seq ?_
    refine W_region ?_
    refine o_move (v := .bool _) rfl rfl ?_
    refine o_move (v := .bool _) rfl rfl ?_
    refine WL_on rfl rfl rfl ?_
    refine o_fieldAddr fa_109_0 rfl rfl ?_
    refine WL_on rfl rfl rfl ?_
    refine o_load one_3 rfl (by exact S19_8.cell 1 rfl rfl) rfl ?_
    refine WL_on rfl rfl rfl ?_
    refine o_fieldAddr fa_132_0 rfl rfl ?_
    refine WL_on rfl rfl rfl ?_
    refine o_fieldAddr fa_36_0 rfl rfl ?_
    refine WL_on rfl rfl rfl ?_
    refine o_load one_31 rfl (by exact S19_8.cell 4 rfl rfl) rfl ?_
    refine WL_on rfl rfl rfl ?_
    refine o_len slz_31.slT rfl rfl ?_
    refine WL_on rfl rfl rfl ?_
    refine o_callr S19_8 has_86 rfl rfl ((show decide (0 ≤ a.cell ∧ a.cell < (nc : Int)) = true from decide_eq_true (by omega)) ▸ below_fn _ _ _) ?_
    intro w102 S102 X102
    replace Mp79 := Mp79.keep X102 (List.not_mem_nil)
    refine WL_on rfl rfl rfl ?_
    refine o_not rfl rfl ?_
    refine o_pick rfl (v := .bool _) rfl rfl ?_
    refine WL_nil ?_
    refine W_else rfl ?_
    refine W_skip ?_
    refine W_seq ?_
    refine W_region ?_
    refine o_move (by conv => lhs; whnf) rfl ?_
    refine o_fieldAddr fa_109_0 rfl rfl ?_
    refine o_load one_3 rfl (by exact S102.cell 1 rfl rfl) rfl ?_
    refine o_build bld_163 (vs := []) (cs := []) rfl rfl rfl rfl ?_
    refine o_mapPut (key := .int .i64 a.cell) (v := .agg #[]) S102 (Go.Maps.int_keyed Tryz.underlying3) Tryz.underlying162 Mp79 rfl rfl rfl hk91 (setOf_new hnew) (.inl hg79) ?_
    intro wm Sm Xm Mm
    clear Mp79
    have Mp79 := Mm
    refine WL_nil ?_
    refine W_seq ?_
    refine W_draw follows_mixed [0, 1, 2, 3, 4, 5, 6, 7, 8, 9, 10, 11, 12, 13, 14, 15, 16, 17, 18, 19, 20] [] [] (by kernel_rfl) rfl (Cl _ _ _ _) (Cl.start Sm) ?_
    refine q_fieldAddr fa_109_1 rfl rfl ?_
    refine q_fieldAddr fa_73_1 rfl rfl ?_
    refine q_load one_3 rfl (fun w1 hw => by exact hw.1.cell 1 rfl rfl) rfl ?_
    refine q_fieldAddr fa_132_0 rfl rfl ?_
    refine q_fieldAddr fa_36_0 rfl rfl ?_
    refine q_load one_31 rfl (fun w1 hw => by exact hw.1.cell 4 rfl rfl) rfl ?_
    refine q_fieldAddr fa_109_0 rfl rfl ?_
    refine q_load one_3 rfl (fun w1 hw => by exact hw.1.cell 1 rfl rfl) rfl ?_
    obtain ⟨c, b117, p117, c117, hxc, hA117, hM117, hl117, hc117, hr117⟩ := RdS.get (hC) (a.cell.toNat) (by omega)
    obtain ⟨rfl, i1117, i2117, i3117, i4117⟩ := RCell.open_ hr117
    rw [w_some q2.1 hxc] at q3
    refine q_indexAddr slz_31.slT rfl (by assumption) rfl (by omega) (by omega) rfl ?_
    refine q_fieldAddr fa_90_1 rfl rfl ?_
    refine q_load one_3 rfl (fun w1 hw => by exact hw.1.old (hc117 _ _ rfl)) rfl ?_
    refine q_neq rfl rfl rfl (fun h120 => ?_) (fun h120 => ?_)
    · exfalso; omega
    refine q_move (v := .bool _) rfl rfl ?_
    refine QL_on rfl rfl ?_
    refine q_fieldAddr fa_109_1 rfl rfl ?_
    refine QL_on rfl rfl ?_
    refine q_loadN many_73 rfl (cs := [_, _, _, _]) (fun w1 hw => hw.1.cellsAt 1 1 4 rfl) rfl rfl ?_
    refine QL_on rfl rfl ?_
    refine q_fieldAddr fa_132_0 rfl rfl ?_
    refine QL_on rfl rfl ?_
    refine q_fieldAddr fa_36_0 rfl rfl ?_
    refine QL_on rfl rfl ?_
    refine q_load one_31 rfl (fun w1 hw => by exact hw.1.cell 4 rfl rfl) rfl ?_
    refine QL_on rfl rfl ?_
    refine q_callr has_97 rfl rfl (fun w1 S1 X1 => q1.2.1 ▸ valid_e_fn a.to M _ _ _ p.cells false (RdE.keep (S1.keep0 M) _ _ hE85) (hC.keep (S1.keep0 M)) (hK.keep (S1.keep0 M))) ?_
    refine QL_on rfl rfl ?_
    refine q_not rfl rfl ?_
    refine q_pick rfl (v := .bool _) rfl rfl ?_
    refine QL_nil ?_
    refine BK_of ?_
    refine BKL_nil ?_
    rintro wR23 ⟨SR23, XR23⟩
    replace Mp79 := Mp79.keep XR23 (List.not_mem_nil)
    refine WL_nil ?_
    refine W_else rfl ?_
    refine W_skip ?_
    refine W_region ?_
    refine o_add rfl rfl (by unfold i64; omega) rfl ?_
    refine o_move (v := .int .i64 _) rfl rfl ?_
    refine WL_nil ?_
    refine ⟨μk - 1, by omega, rfl, (k + 1), (by omega), ((by rw [take_some hxa, List.map_append, List.map_singleton, setOf_snoc]; exact Mp79)), SR23.tail.tail, rfl, rfl, rfl, rfl, rfl, rfl, rfl⟩
  refine WL_nil ?_
  refine W_seq ?_
  refine W_else rfl ?_
  refine W_exit ?_
  refine bcons_here ?_
  refine W_seq ?_
  refine W_seq ?_
  refine W_draw follows_mixed [0, 1, 2, 3, 4, 5, 6, 7] [] [8, 9] (by kernel_rfl) rfl (Cl _ _ _ _) (Cl.start S) ?_
  refine q_callr has_117 rfl rfl (fun w1 S1 X1 => kinds_fn _) ?_
  refine q_fieldAddr fa_112_0 rfl rfl ?_
  refine q_load one_3 rfl (fun w1 hw => by exact hw.1.cell 0 rfl rfl) rfl ?_
  refine q_indexA Tryz.underlying182 kind_size kind_agg rfl rfl (by omega) (by omega) (kindsV_at (by omega) (by omega)) rfl ?_
  refine q_field fld_181_0 rfl rfl rfl ?_
  refine q_loadN many_132 rfl (fun w1 hw => hw.1.cells 2 rfl) rfl rfl ?_
  refine q_move (v := .int .i64 _) rfl rfl ?_
  refine q_loadN many_112 rfl (fun w1 hw => hw.1.cells 0 rfl) rfl rfl ?_
  refine QL_nil ?_
  refine BK_of ?_
  refine BKL_nil ?_
  rintro wR26 ⟨SR26, XR26⟩
  replace Mp79 := Mp79.keep XR26 (List.not_mem_nil)
  refine o_callv fitsOf_has rfl rfl rfl (fits_fn p t x s M _ _ _ ⟨hP.keep (SR26.keep0 M), RStep.keep (SR26.keep0 M) _ _ hS, hp, hso, hK.keep (SR26.keep0 M), hM' _ SR26.size⟩) ?_
  rintro v139 w139 ⟨rfl, B139⟩
  have S139 := SR26.later B139
  refine o_not rfl rfl ?_
  refine WL_nil ?_
  refine W_else rfl ?_
  refine W_skip ?_
  refine W_seq ?_
  refine W_region ?_
  refine o_assign (v := .int .i64 _) rfl rfl ?_
  refine WL_nil ?_
  refine W_ret ?_
  refine ret_1 rfl (by conv => lhs; whnf) ?_
  exact ⟨rfl, S139.fin⟩
theorem thread1_fn (c : Int) (g : Nat) (w0 : World) (Ac Am Al At : Option Addr) (nc cc nm cm nl cl nt ct : Nat) (hg : Cells w0 g 0 [.slice Ac nc cc, .slice Am nm cm, .slice Al nl cl, .slice At nt ct]) :
    Does Tryz.prog 93 #[.int .i64 c, .pointer (some ⟨g, 0, none⟩)] w0 fun v w' => v = .bool (decide (0 ≤ c ∧ c < (nm : Int))) ∧ Below w0.heap.size w0 w' := by
  have S := St.refl w0
  refine Does_enter Tryz.func93 rfl Tryz.ntmps93 rfl ?_
  refine W_seq ?_
  refine W_region ?_
  refine o_assign (v := .bool _) rfl rfl ?_
  refine WL_nil ?_
  refine W_seq ?_
  refine W_region ?_
  refine o_move (v := .int .i64 _) rfl rfl ?_
  refine o_fieldAddr fa_132_0 rfl rfl ?_
  refine o_fieldAddr fa_36_1 rfl rfl ?_
  refine o_load one_32 rfl (by first | exact S.old (hg 1 _ rfl)) rfl ?_
  refine o_len slz_32.slT rfl rfl ?_
  refine o_callb S has_86 rfl rfl (below_fn _ _ _) (fun h9 w9 S9 X9 => ?_) (fun h9 w9 S9 X9 => ?_)
  · refine o_assign (v := .bool _) rfl rfl ?_
    refine WL_nil ?_
    refine W_ret ?_
    refine ret_1 rfl (by conv => lhs; whnf) ?_
    exact ⟨by rw [h9], S9.fin⟩
  refine o_assign (v := .bool _) rfl rfl ?_
  refine WL_nil ?_
  refine W_ret ?_
  refine ret_1 rfl (by conv => lhs; whnf) ?_
  exact ⟨by rw [h9], S9.fin⟩
theorem thread2_fn (c pts hd : Int) (g g' : Nat) (w0 : World) (hg : w0.cell? ⟨g, 1, none⟩ = some (.int .i64 pts)) (hg' : w0.cell? ⟨g', 0, none⟩ = some (.int .i64 hd)) :
    Does Tryz.prog 96 #[.int .i64 c, .pointer (some ⟨g, 0, none⟩), .pointer (some ⟨g', 0, none⟩)] w0 fun v w' => v = .bool (decide ((0 ≤ c ∧ c < pts) ∧ c ≠ hd)) ∧ Below w0.heap.size w0 w' := by
  have S := St.refl w0
  refine Does_enter Tryz.func96 rfl Tryz.ntmps96 rfl ?_
  refine W_seq ?_
  refine W_region ?_
  refine o_assign (v := .bool _) rfl rfl ?_
  refine WL_nil ?_
  refine W_seq ?_
  refine W_region ?_
  refine o_move (v := .int .i64 _) rfl rfl ?_
  refine o_fieldAddr fa_83_1 rfl rfl ?_
  refine o_load one_3 rfl (by exact S.old hg) rfl ?_
  refine o_callb S has_86 rfl rfl (below_fn _ _ _) (fun h8 w8 S8 X8 => ?_) (fun h8 w8 S8 X8 => ?_)
  · refine o_move (v := .bool _) rfl rfl ?_
    refine WL_on rfl rfl rfl ?_
    refine o_move (v := .int .i64 _) rfl rfl ?_
    refine WL_on rfl rfl rfl ?_
    refine o_fieldAddr fa_126_0 rfl rfl ?_
    refine WL_on rfl rfl rfl ?_
    refine o_load one_3 rfl (by exact S8.old hg') rfl ?_
    refine WL_on rfl rfl rfl ?_
    refine o_neq rfl rfl rfl (fun h13 => ?_) (fun h13 => ?_)
    · refine o_pick rfl (v := .bool _) rfl rfl ?_
      refine o_assign (v := .bool _) rfl rfl ?_
      refine WL_nil ?_
      refine W_ret ?_
      refine ret_1 rfl (by conv => lhs; whnf) ?_
      refine ⟨congrArg Value.bool ?_, S8.fin⟩
      exact (decide_eq_true ⟨of_decide_eq_true h8, by omega⟩).symm
    refine o_pick rfl (v := .bool _) rfl rfl ?_
    refine o_assign (v := .bool _) rfl rfl ?_
    refine WL_nil ?_
    refine W_ret ?_
    refine ret_1 rfl (by conv => lhs; whnf) ?_
    refine ⟨congrArg Value.bool ?_, S8.fin⟩
    exact (decide_eq_false fun h => by omega).symm
  refine o_move (v := .bool _) rfl rfl ?_
  refine WL_off rfl rfl rfl rfl ?_
  refine WL_off rfl rfl rfl rfl ?_
  refine WL_off rfl rfl rfl rfl ?_
  refine WL_off rfl rfl rfl rfl ?_
  refine o_pick rfl (v := .bool _) rfl rfl ?_
  refine o_assign (v := .bool _) rfl rfl ?_
  refine WL_nil ?_
  refine W_ret ?_
  refine ret_1 rfl (by conv => lhs; whnf) ?_
  refine ⟨congrArg Value.bool ?_, S8.fin⟩
  exact (decide_eq_false fun h => of_decide_eq_false h8 h.1).symm
end Go.Proofs.YtgnbfmifjlnigaaGreatDoor
namespace Go.Proofs.YtgnbfmifjlnigaaGreatDoor
open Go.Fw Go.RowKit
theorem withinT_fn (M : List Nat) (w0 : World) (v vf : Value) (l : List Int) (q : Int → Bool) (hR : RdI M w0 v l) (hp : IsPred Tryz.prog M w0 vf q) (hM : ∀ g ∈ M, g < w0.heap.size) (hq : ∀ c ∈ l, q c = true) :
    Does Tryz.prog 92 #[v, vf] w0 fun v w' => v = .bool true ∧ Below w0.heap.size w0 w' :=
  (within_fn M w0 v vf l q hR hp hM).mono fun v w' h => ⟨by rw [h.1, List.all_eq_true.2 hq], h.2⟩
def modQ (nm : Nat) (c : Int) : Bool := decide (0 ≤ c ∧ c < (nm : Int))
def bodyQ (pts hd c : Int) : Bool := decide ((0 ≤ c ∧ c < pts) ∧ c ≠ hd)
theorem thread1_pred {g : Nat} {M : List Nat} {w0 : World} {Ac Am Al At : Option Addr} {nc cc nm cm nl cl nt ct : Nat} (hg : Cells w0 g 0 [.slice Ac nc cc, .slice Am nm cm, .slice Al nl cl, .slice At nt ct]) (hM : g ∉ M) :
    IsPred Tryz.prog M w0 (.func (.func 93) #[] #[.pointer (some ⟨g, 0, none⟩)]) (modQ nm) :=
  ⟨_, _, _, rfl, has_93, fun w' hk c _ => thread1_fn c g w' Ac Am Al At nc cc nm cm nl cl nt ct (hg.keep hk hM)⟩
theorem thread2_pred {g g' : Nat} {M : List Nat} {w0 : World} {pts hd : Int} (hg : w0.cell? ⟨g, 1, none⟩ = some (.int .i64 pts)) (hg' : w0.cell? ⟨g', 0, none⟩ = some (.int .i64 hd)) (hM : g ∉ M) (hM' : g' ∉ M) :
    IsPred Tryz.prog M w0 (.func (.func 96) #[] #[.pointer (some ⟨g, 0, none⟩), .pointer (some ⟨g', 0, none⟩)]) (bodyQ pts hd) :=
  ⟨_, _, _, rfl, has_96, fun w' hk c _ => thread2_fn c pts hd g g' w' (hk.cell (a := ⟨g, 1, none⟩) hM hg) (hk.cell (a := ⟨g', 0, none⟩) hM' hg')⟩
set_option maxHeartbeats 1000000 in
theorem threadP_fn (p : ProgD) (t : Nat) (x : ThreadD) (b : Nat) (l : List Value) (M : List Nat) (w0 : World) (cs ts : List Value) (hP : RdProg M w0 p cs) (hT : RThread M w0 ts x) (hp : ProgOK p) (hK : Masks M w0) (hM : ∀ g ∈ M, g < w0.heap.size) (hb : b ∈ M)
    (hx : p.threads[t]? = some x) (hm : MapAt Tryz.prog 9 w0 b (setOf l)) (hnew : Value.string x.name ∉ l) :
    Does Tryz.prog 61 #[.agg cs.toArray, .int .i64 t, .agg ts.toArray, .map (some b)] w0 fun v w' => v = .tuple #[.int .i64 0, .int .i64 (-1)] ∧ BelowB [b] w0 w' ∧ MapAt Tryz.prog 9 w' b (setOf (l ++ [.string x.name])) := by
  obtain ⟨Ac, nc, cc, Am, nm, cm, Al, nl, cl, At, nt, ct, rfl, hC, hMo, hLk, hTh, hnc, hnm, hnl, hnt, bc, bm, bl, bt⟩ := hP.open_
  obtain ⟨Aa1, na1, ca1, Am1, nm1, cm1, As1, ns1, cs1, Al1, nl1, cl1, rfl, ip1, hEs1, hMs1, hSt1, hLo1, hna1, hnm1, hns1, hnl1, ba1, bm1, bs1, bl1⟩ := hT.open_
  have S := St.reflM [b] w0
  have hsub : ∀ g ∈ [b], g ∈ M := fun g hg => by rw [List.mem_singleton] at hg; subst hg; exact hb
  have hM' : ∀ w' : World, w0.heap.size ≤ w'.heap.size → ∀ g ∈ M, g < w'.heap.size := fun w' h g hg => by have := hM g hg; omega
  have hto := hp.thread hx
  have k1 := hto.points
  have k2 := hto.asserts
  have k3 := hto.nmod
  have hsz : x.name.size ≤ 140737488355328 := by have := hto.name.2.1; omega
  refine Does_enter Tryz.func61 rfl Tryz.ntmps61 rfl ?_
  refine W_seq ?_
  refine W_region ?_
  refine o_boxa S (by conv => lhs; whnf) rfl ?_
  intro g4 w4 S4 X4 G4
  replace hm := hm.keep X4 (List.not_mem_nil)
  refine o_boxa S4 (by conv => lhs; whnf) rfl ?_
  intro g6 w6 S6 X6 G6
  replace hm := hm.keep X6 (List.not_mem_nil)
  refine o_assign (v := .int .i64 _) rfl rfl ?_
  refine o_assign (v := .int .i64 _) rfl rfl ?_
  refine WL_nil ?_
  refine W_seq ?_
  refine W_block ?_
  refine W_seq ?_
  refine W_region ?_
  refine o_fieldAddr fa_83_0 rfl rfl ?_
  refine o_load one_9 rfl (by exact S6.cell 0 rfl rfl) rfl ?_
  refine o_callr S6 has_85 rfl rfl (labelP_fn _ _ hto.name) ?_
  intro w22 S22 X22
  replace hm := hm.keep X22 (List.not_mem_nil)
  refine o_not rfl rfl ?_
  refine o_assign (v := .bool _) rfl rfl ?_
  refine WL_nil ?_
  refine W_else rfl ?_
  refine W_seq ?_
  refine W_region ?_
  refine o_move (by conv => lhs; whnf) rfl ?_
  refine o_fieldAddr fa_83_0 rfl rfl ?_
  refine o_load one_9 rfl (by exact S22.cell 0 rfl rfl) rfl ?_
  have hG6 : w0.heap.size ≤ g6 := by have := S4.size; omega
  refine o_call has_87 rfl rfl (taken_fn b _ x.name _ hm hsz hnew) ?_
  rintro v28 w28 ⟨rfl, B28, M28⟩
  have S28 := S22.turned hm (.inr (by simp)) B28
  clear hm
  have hm := M28
  refine o_assign (v := .bool _) rfl rfl ?_
  refine WL_nil ?_
  refine W_else rfl ?_
  refine W_seq ?_
  refine W_seq ?_
  refine W_region ?_
  refine o_fieldAddr fa_83_1 rfl rfl ?_
  refine o_load one_3 rfl (by exact S28.cell 0 rfl rfl) rfl ?_
  refine o_lss rfl rfl rfl (fun h32 => ?_) (fun h32 => ?_)
  · exfalso; omega
  refine o_assign (v := .bool _) rfl rfl ?_
  refine WL_nil ?_
  refine W_else rfl ?_
  refine W_seq ?_
  refine W_region ?_
  refine o_fieldAddr fa_83_2 rfl rfl ?_
  refine o_load one_71 rfl (by exact S28.cell 0 rfl rfl) rfl ?_
  refine o_len slz_71.slT rfl rfl ?_
  refine o_fieldAddr fa_83_1 rfl rfl ?_
  refine o_load one_3 rfl (by exact S28.cell 0 rfl rfl) rfl ?_
  refine o_neq rfl rfl rfl (fun h38 => ?_) (fun h38 => ?_)
  · exfalso; omega
  refine o_assign (v := .bool _) rfl rfl ?_
  refine WL_nil ?_
  refine W_else rfl ?_
  refine W_region ?_
  refine o_fieldAddr fa_83_3 rfl rfl ?_
  refine o_load one_43 rfl (by exact S28.cell 0 rfl rfl) rfl ?_
  refine o_len slz_43.slT rfl rfl ?_
  refine o_fieldAddr fa_83_1 rfl rfl ?_
  refine o_load one_3 rfl (by exact S28.cell 0 rfl rfl) rfl ?_
  refine o_neq rfl rfl rfl (fun h44 => ?_) (fun h44 => ?_)
  · exfalso; omega
  refine o_assign (v := .bool _) rfl rfl ?_
  refine WL_nil ?_
  refine W_else rfl ?_
  refine W_seq ?_
  refine W_region ?_
  refine o_fieldAddr fa_83_3 rfl rfl ?_
  refine o_load one_43 rfl (by exact S28.cell 0 rfl rfl) rfl ?_
  refine o_makeFunc rfl rfl ?_
  refine o_callr S28 has_92 rfl rfl (withinT_fn M _ _ _ x.modules (modQ nm) (hMs1.keep (S28.keepM.mono hsub)) (thread1_pred (S28.cells 1 rfl) (fresh_not2 hM G4)) (hM' _ S28.size) (fun c hc => decide_eq_true (by have := hto.modules c hc; unfold isIn at this; omega))) ?_
  intro w49 S49 X49
  replace hm := hm.keep X49 (List.not_mem_nil)
  refine o_not rfl rfl ?_
  refine o_assign (v := .bool _) rfl rfl ?_
  refine WL_nil ?_
  refine W_else rfl ?_
  refine W_skip ?_
  refine W_seq ?_
  refine W_region ?_
  refine o_loadN many_132 rfl (S49.cells 1 rfl) rfl rfl ?_
  refine o_move (v := .int .i64 _) rfl rfl ?_
  refine o_calln S49 has_94 rfl rfl (visibleP_fn p t M _ _ (hP.keep (S49.keepM.mono hsub)) (hM' _ S49.size)) ?_
  rintro v53 w53 hq S53 X53
  replace hm := hm.keep X53 (List.not_mem_nil)
  obtain ⟨f, first, caps, rfl, hH, hf⟩ := id hq
  have K53 := Keep.refl [] w53
  refine o_assign (by conv => lhs; whnf) rfl ?_
  refine WL_nil ?_
  refine W_seq ?_
  refine W_seq ?_
  refine W_region ?_
  refine o_fieldAddr fa_83_2 rfl rfl ?_
  refine o_load one_71 rfl (by exact S53.cell 0 rfl rfl) rfl ?_
  refine o_len slz_71.slT rfl rfl ?_
  refine o_move (v := .int .i64 _) rfl rfl ?_
  refine WL_nil ?_
  refine W_block ?_
  refine W_loop (fun μk D ε w => D = [] ∧ ∃ k : Nat, (k + μk = (x.asserts.length)) ∧ (MapAt Tryz.prog 9 w b (setOf (l ++ [.string x.name]))) ∧ (Keep [] w53 w) ∧ St [b] w0 w [(some g6, 83, [.string x.name, .int .i64 x.points, .slice Aa1 na1 ca1, .slice Am1 nm1 cm1, .slice As1 ns1 cs1, .slice Al1 nl1 cl1, .bool x.asleep]), (some g4, 132, [.slice Ac nc cc, .slice Am nm cm, .slice Al nl cl, .slice At nt ct])] ∧ ε 1 = .int .i64 t ∧ ε 4 = .pointer (some ⟨g4, 0, none⟩) ∧ ε 6 = .pointer (some ⟨g6, 0, none⟩) ∧ ε 10 = .func (.func f) first caps ∧ ε 55 = .slice Aa1 na1 ca1 ∧ ε 56 = .int .i64 na1 ∧ ε 57 = .int .i64 k) (μ := (x.asserts.length)) ⟨rfl, 0, by omega, hm, K53, S53, rfl, rfl, rfl, rfl, rfl, rfl, rfl⟩ ?_
  rintro μk D ε w ⟨rfl, k, hk, hm, K53, S, e1, e4, e6, e10, e55, e56, e57⟩
  refine W_known 1 e1 ?_
  refine W_known 4 e4 ?_
  refine W_known 6 e6 ?_
  refine W_known 10 e10 ?_
  refine W_known 55 e55 ?_
  refine W_known 56 e56 ?_
  refine W_known 57 e57 ?_
  clear e1 e4 e6 e10 e55 e56 e57
  refine W_seq ?_
  refine W_region ?_
  refine o_lss rfl rfl rfl (fun h58 => ?_) (fun h58 => ?_)
  · refine WL_nil ?_
    refine W_seq ?_
    refine W_then rfl ?_
    refine W_skip ?_
    refine W_seq ?_
    refine W_block ?_
    refine W_seq ?_
    refine W_region ?_
    obtain ⟨e, b59, p59, c59, hxe, hA59, hM59, hl59, hc59, hr59⟩ := RdS.get (hEs1) (k) (by omega)
    obtain ⟨Ae59, ne59, ce59, rfl, hn59, bn59, i159, i259, i359⟩ := RdE.cells hr59
    have q1 := hto.truth e (some_mem hxe)
    refine o_indexAddr slz_71.slT rfl (by assumption) rfl (by omega) (by omega) rfl ?_
    refine o_loadN many_73 rfl (hc59.keep (S.keepM.mono hsub) hM59) (by rfl) rfl ?_
    refine o_alloc S zv_73 rfl rfl ?_
    intro g12 w12 S12 X12 G12
    have GK5312 := Nat.le_trans K53.size G12
    replace K53 := K53.trans X12
    replace hm := hm.keep X12 (List.not_mem_nil)
    refine o_storeN (kk := 0) (vs := [_, _, _, _]) S12 sz_73 rfl rfl rfl rfl rfl rfl rfl ?_
    intro w14_3 S14_3 X14_3
    dsimp only [setsAt, List.set] at S14_3
    replace K53 := K53.fresh X14_3 (by first | exact GK5312)
    replace hm := hm.keep X14_3 (fun hh => by rw [List.mem_singleton] at hh; exact hm.ne (S12.blk 0 rfl) hh)
    refine WL_nil ?_
    refine W_seq ?_
    refine W_region ?_
    refine o_loadN many_132 rfl (S14_3.cells 2 rfl) rfl rfl ?_
    refine o_loadN many_73 rfl (S14_3.cells 0 rfl) rfl rfl ?_
    refine o_move (by conv => lhs; whnf) rfl ?_
    refine o_callr S14_3 has_89 rfl rfl (bitP_fn p e M _ _ _ false _ (visQ p t) (hP.keep (S14_3.keepM.mono hsub)) (RdE.keep (S14_3.keepM.mono hsub) _ _ hr59) (hq.keep K53.of_nil) (hK.keep (S14_3.keepM.mono hsub)) (hM' _ S14_3.size) q1.2.1 q1.1 (sup_vis hp q1.1 q1.2.2)) ?_
    intro w64 S64 X64
    replace K53 := K53.trans X64
    replace hm := hm.keep X64 (List.not_mem_nil)
    refine o_not rfl rfl ?_
    refine WL_nil ?_
    refine W_else rfl ?_
    refine W_skip ?_
    refine W_region ?_
    refine o_add rfl rfl (by unfold i64; omega) rfl ?_
    refine o_move (v := .int .i64 _) rfl rfl ?_
    refine WL_nil ?_
    refine ⟨μk - 1, by omega, rfl, (k + 1), (by omega), (hm), (K53), S64.tail, rfl, rfl, rfl, rfl, rfl, rfl, rfl⟩
  refine WL_nil ?_
  refine W_seq ?_
  refine W_else rfl ?_
  refine W_exit ?_
  refine bcons_here ?_
  refine W_seq ?_
  refine W_seq ?_
  refine W_region ?_
  refine o_fieldAddr fa_83_4 rfl rfl ?_
  refine o_load one_80 rfl (by exact S.cell 0 rfl rfl) rfl ?_
  refine o_len slz_80.slT rfl rfl ?_
  refine o_move (v := .int .i64 _) rfl rfl ?_
  refine WL_nil ?_
  refine W_block ?_
  refine W_loop (fun μk D ε w => D = [] ∧ ∃ k : Nat, (k + μk = (x.steps.length)) ∧ (MapAt Tryz.prog 9 w b (setOf (l ++ [.string x.name]))) ∧ (Keep [] w53 w) ∧ St [b] w0 w [(some g6, 83, [.string x.name, .int .i64 x.points, .slice Aa1 na1 ca1, .slice Am1 nm1 cm1, .slice As1 ns1 cs1, .slice Al1 nl1 cl1, .bool x.asleep]), (some g4, 132, [.slice Ac nc cc, .slice Am nm cm, .slice Al nl cl, .slice At nt ct])] ∧ ε 1 = .int .i64 t ∧ ε 4 = .pointer (some ⟨g4, 0, none⟩) ∧ ε 6 = .pointer (some ⟨g6, 0, none⟩) ∧ ε 10 = .func (.func f) first caps ∧ ε 68 = .slice As1 ns1 cs1 ∧ ε 69 = .int .i64 ns1 ∧ ε 70 = .int .i64 k) (μ := (x.steps.length)) ⟨rfl, 0, by omega, hm, K53, S, rfl, rfl, rfl, rfl, rfl, rfl, rfl⟩ ?_
  rintro μk D ε w ⟨rfl, k, hk, hm, K53, S, e1, e4, e6, e10, e68, e69, e70⟩
  refine W_known 1 e1 ?_
  refine W_known 4 e4 ?_
  refine W_known 6 e6 ?_
  refine W_known 10 e10 ?_
  refine W_known 68 e68 ?_
  refine W_known 69 e69 ?_
  refine W_known 70 e70 ?_
  clear e1 e4 e6 e10 e68 e69 e70
  refine W_seq ?_
  refine W_region ?_
  refine o_lss rfl rfl rfl (fun h71 => ?_) (fun h71 => ?_)
  · refine WL_nil ?_
    refine W_seq ?_
    refine W_then rfl ?_
    refine W_skip ?_
    refine W_seq ?_
    refine W_block ?_
    refine W_seq ?_
    refine W_region ?_
    refine o_move (v := .int .i64 _) rfl rfl ?_
    obtain ⟨s, b73, p73, c73, hxs, hA73, hM73, hl73, hc73, hr73⟩ := RdS.get (hSt1) (k) (by omega)
    obtain ⟨Ag73, ng73, cg73, As73, ns73, cs73, rfl, ⟨i173, i273, i373, i473, i573⟩, hG73, hSet73, hns73, bs73⟩ := RStep.open_ hr73
    refine o_indexAddr slz_80.slT rfl (by assumption) rfl (by omega) (by omega) rfl ?_
    refine o_loadN many_112 rfl (hc73.keep (S.keepM.mono hsub) hM73) (by rfl) rfl ?_
    refine o_alloc S zv_112 rfl rfl ?_
    intro g14 w14 S14 X14 G14
    have GK5314 := Nat.le_trans K53.size G14
    replace K53 := K53.trans X14
    replace hm := hm.keep X14 (List.not_mem_nil)
    refine o_assign (v := .int .i64 _) rfl rfl ?_
    refine o_storeN (kk := 0) (vs := [_, _, _, _, _, _, _, _, _, _, _]) S14 sz_112 rfl rfl rfl rfl rfl rfl rfl ?_
    intro w20_5 S20_5 X20_5
    dsimp only [setsAt, List.set] at S20_5
    replace K53 := K53.fresh X20_5 (by first | exact GK5314)
    replace hm := hm.keep X20_5 (fun hh => by rw [List.mem_singleton] at hh; exact hm.ne (S14.blk 0 rfl) hh)
    refine WL_nil ?_
    refine W_seq ?_
    refine W_region ?_
    refine o_loadN many_132 rfl (S20_5.cells 2 rfl) rfl rfl ?_
    refine o_move (v := .int .i64 _) rfl rfl ?_
    refine o_loadN many_83 rfl (S20_5.cells 1 rfl) rfl rfl ?_
    refine o_loadN many_112 rfl (S20_5.cells 0 rfl) rfl rfl ?_
    refine o_callr S20_5 has_95 rfl rfl (stepP_fn p t x s M _ _ _ _ ⟨hP.keep (S20_5.keepM.mono hsub), RStep.keep (S20_5.keepM.mono hsub) _ _ hr73, hp, hto.steps s (some_mem hxs), hK.keep (S20_5.keepM.mono hsub), hM' _ S20_5.size⟩ (RThread.keep (S20_5.keepM.mono hsub) _ _ hT) k1.1 k1.2) ?_
    intro w79 S79 X79
    replace K53 := K53.trans X79
    replace hm := hm.keep X79 (List.not_mem_nil)
    refine o_assign (v := .int .i64 _) rfl rfl ?_
    refine WL_nil ?_
    refine W_seq ?_
    refine W_region ?_
    refine o_move (v := .int .i64 _) rfl rfl ?_
    refine o_neq rfl rfl rfl (fun h81 => ?_) (fun h81 => ?_)
    · exfalso; omega
    refine WL_nil ?_
    refine W_else rfl ?_
    refine W_skip ?_
    refine W_region ?_
    refine o_add rfl rfl (by unfold i64; omega) rfl ?_
    refine o_move (v := .int .i64 _) rfl rfl ?_
    refine WL_nil ?_
    refine ⟨μk - 1, by omega, rfl, (k + 1), (by omega), (hm), (K53), S79.tail, rfl, rfl, rfl, rfl, rfl, rfl, rfl⟩
  refine WL_nil ?_
  refine W_seq ?_
  refine W_else rfl ?_
  refine W_exit ?_
  refine bcons_here ?_
  refine W_seq ?_
  refine W_seq ?_
  refine W_region ?_
  refine o_fieldAddr fa_83_5 rfl rfl ?_
  refine o_load one_81 rfl (by exact S.cell 0 rfl rfl) rfl ?_
  refine o_len slz_81.slT rfl rfl ?_
  refine o_move (v := .int .i64 _) rfl rfl ?_
  refine WL_nil ?_
  refine W_block ?_
  refine W_loop (fun μk D ε w => D = [] ∧ ∃ k : Nat, (k + μk = (x.loops.length)) ∧ (MapAt Tryz.prog 9 w b (setOf (l ++ [.string x.name]))) ∧ (Keep [] w53 w) ∧ St [b] w0 w [(some g6, 83, [.string x.name, .int .i64 x.points, .slice Aa1 na1 ca1, .slice Am1 nm1 cm1, .slice As1 ns1 cs1, .slice Al1 nl1 cl1, .bool x.asleep]), (some g4, 132, [.slice Ac nc cc, .slice Am nm cm, .slice Al nl cl, .slice At nt ct])] ∧ ε 4 = .pointer (some ⟨g4, 0, none⟩) ∧ ε 6 = .pointer (some ⟨g6, 0, none⟩) ∧ ε 10 = .func (.func f) first caps ∧ ε 86 = .slice Al1 nl1 cl1 ∧ ε 87 = .int .i64 nl1 ∧ ε 88 = .int .i64 k) (μ := (x.loops.length)) ⟨rfl, 0, by omega, hm, K53, S, rfl, rfl, rfl, rfl, rfl, rfl⟩ ?_
  rintro μk D ε w ⟨rfl, k, hk, hm, K53, S, e4, e6, e10, e86, e87, e88⟩
  refine W_known 4 e4 ?_
  refine W_known 6 e6 ?_
  refine W_known 10 e10 ?_
  refine W_known 86 e86 ?_
  refine W_known 87 e87 ?_
  refine W_known 88 e88 ?_
  clear e4 e6 e10 e86 e87 e88
  refine W_seq ?_
  refine W_region ?_
  refine o_lss rfl rfl rfl (fun h89 => ?_) (fun h89 => ?_)
  · refine WL_nil ?_
    refine W_seq ?_
    refine W_then rfl ?_
    refine W_skip ?_
    refine W_seq ?_
    refine W_block ?_
    refine W_seq ?_
    refine W_region ?_
    obtain ⟨lp, b90, p90, c90, hxlp, hA90, hM90, hl90, hc90, hr90⟩ := RdS.get (hLo1) (k) (by omega)
    obtain ⟨Ab90, nb90, cb90, Ag90, ng90, cg90, rfl, i190, hB90, hE90, hnb90, bb90⟩ := RLoop.open_ hr90
    have q1 := hto.loops lp (some_mem hxlp)
    have q2 := q1.head
    refine o_indexAddr slz_81.slT rfl (by assumption) rfl (by omega) (by omega) rfl ?_
    refine o_loadN many_126 rfl (hc90.keep (S.keepM.mono hsub) hM90) (by rfl) rfl ?_
    refine o_alloc S zv_126 rfl rfl ?_
    intro g17 w17 S17 X17 G17
    have GK5317 := Nat.le_trans K53.size G17
    replace K53 := K53.trans X17
    replace hm := hm.keep X17 (List.not_mem_nil)
    refine o_storeN (kk := 0) (vs := [_, _, _, _, _, _]) S17 sz_126 rfl rfl rfl rfl rfl rfl rfl ?_
    intro w27_3 S27_3 X27_3
    dsimp only [setsAt, List.set] at S27_3
    replace K53 := K53.fresh X27_3 (by first | exact GK5317)
    replace hm := hm.keep X27_3 (fun hh => by rw [List.mem_singleton] at hh; exact hm.ne (S17.blk 0 rfl) hh)
    refine WL_nil ?_
    refine W_seq ?_
    refine W_region ?_
    refine o_makeFunc rfl rfl ?_
    refine o_assign (by conv => lhs; whnf) rfl ?_
    refine WL_nil ?_
    refine W_block ?_
    refine W_seq ?_
    refine W_seq ?_
    refine W_region ?_
    refine o_fieldAddr fa_126_0 rfl rfl ?_
    refine o_load one_3 rfl (by exact S27_3.cell 0 rfl rfl) rfl ?_
    refine o_fieldAddr fa_83_1 rfl rfl ?_
    refine o_load one_3 rfl (by exact S27_3.cell 1 rfl rfl) rfl ?_
    refine o_callr S27_3 has_86 rfl rfl ((show decide (0 ≤ lp.head ∧ lp.head < x.points) = true from decide_eq_true (by omega)) ▸ below_fn _ _ _) ?_
    intro w98 S98 X98
    replace K53 := K53.trans X98
    replace hm := hm.keep X98 (List.not_mem_nil)
    refine o_not rfl rfl ?_
    refine o_assign (v := .bool _) rfl rfl ?_
    refine WL_nil ?_
    refine W_else rfl ?_
    refine W_seq ?_
    refine W_region ?_
    refine o_fieldAddr fa_126_1 rfl rfl ?_
    refine o_load one_43 rfl (by exact S98.cell 0 rfl rfl) rfl ?_
    refine o_callr S98 has_91 rfl rfl (increasing_fn M _ _ _ (hB90.keep (S98.keepM.mono hsub)) q1.up) ?_
    intro w102 S102 X102
    replace K53 := K53.trans X102
    replace hm := hm.keep X102 (List.not_mem_nil)
    refine o_not rfl rfl ?_
    refine o_assign (v := .bool _) rfl rfl ?_
    refine WL_nil ?_
    refine W_else rfl ?_
    refine W_region ?_
    refine o_fieldAddr fa_126_1 rfl rfl ?_
    refine o_load one_43 rfl (by exact S102.cell 0 rfl rfl) rfl ?_
    refine o_move (by conv => lhs; whnf) rfl ?_
    have hG17 : w0.heap.size ≤ g17 := by have := S.size; omega
    refine o_callr S102 has_92 rfl rfl (withinT_fn M _ _ _ lp.body (bodyQ x.points lp.head) (hB90.keep (S102.keepM.mono hsub)) (thread2_pred (S102.cell 1 rfl rfl) (S102.cell 0 rfl rfl) (fresh_not2 hM hG6) (fresh_not2 hM hG17)) (hM' _ S102.size) (fun c hc => decide_eq_true (by have := q1.body c hc; omega))) ?_
    intro w107 S107 X107
    replace K53 := K53.trans X107
    replace hm := hm.keep X107 (List.not_mem_nil)
    refine o_not rfl rfl ?_
    refine o_assign (v := .bool _) rfl rfl ?_
    refine WL_nil ?_
    refine W_else rfl ?_
    refine W_seq ?_
    refine W_seq ?_
    refine W_region ?_
    refine o_fieldAddr fa_126_2 rfl rfl ?_
    refine o_loadN many_73 rfl (cs := [_, _, _, _]) (S107.cellsAt 0 2 4 rfl) rfl rfl ?_
    refine o_fieldAddr fa_132_0 rfl rfl ?_
    refine o_fieldAddr fa_36_0 rfl rfl ?_
    refine o_load one_31 rfl (by exact S107.cell 2 rfl rfl) rfl ?_
    refine o_callr S107 has_97 rfl rfl (q1.variant.1 ▸ valid_e_fn lp.variant M _ _ _ p.cells false (RdE.keep (S107.keepM.mono hsub) _ _ hE90) (hC.keep (S107.keepM.mono hsub)) (hK.keep (S107.keepM.mono hsub))) ?_
    intro w115 S115 X115
    replace K53 := K53.trans X115
    replace hm := hm.keep X115 (List.not_mem_nil)
    refine o_not rfl rfl ?_
    refine o_assign (v := .bool _) rfl rfl ?_
    refine WL_nil ?_
    refine W_else rfl ?_
    refine W_region ?_
    refine o_fieldAddr fa_126_2 rfl rfl ?_
    refine o_loadN many_73 rfl (cs := [_, _, _, _]) (S115.cellsAt 0 2 4 rfl) rfl rfl ?_
    refine o_move (by conv => lhs; whnf) rfl ?_
    refine o_callr S115 has_98 rfl rfl ((sup_vis hp q1.variant.1 q1.variant.2) ▸ overP_fn lp.variant M _ _ _ (visQ p t) (RdE.keep (S115.keepM.mono hsub) _ _ hE90) (hq.keep K53.of_nil) (hK.keep (S115.keepM.mono hsub)) (hM' _ S115.size)) ?_
    intro w120 S120 X120
    replace K53 := K53.trans X120
    replace hm := hm.keep X120 (List.not_mem_nil)
    refine o_not rfl rfl ?_
    refine o_assign (v := .bool _) rfl rfl ?_
    refine WL_nil ?_
    refine W_else rfl ?_
    refine W_skip ?_
    refine W_region ?_
    refine o_add rfl rfl (by unfold i64; omega) rfl ?_
    refine o_move (v := .int .i64 _) rfl rfl ?_
    refine WL_nil ?_
    refine ⟨μk - 1, by omega, rfl, (k + 1), (by omega), (hm), (K53), S120.tail, rfl, rfl, rfl, rfl, rfl, rfl⟩
  refine WL_nil ?_
  refine W_seq ?_
  refine W_else rfl ?_
  refine W_exit ?_
  refine bcons_here ?_
  refine W_seq ?_
  refine W_region ?_
  refine o_assign (v := .int .i64 _) rfl rfl ?_
  refine o_assign (v := .int .i64 _) rfl rfl ?_
  refine WL_nil ?_
  refine W_ret ?_
  refine ret_2 rfl (by conv => lhs; whnf) (by conv => lhs; whnf) ?_
  exact ⟨rfl, S.below, hm⟩
def checkOf (k : Nat) : Nat := if k = 0 then 58 else if k = 1 then 59 else 60
def checksV (cs : Array Value) : Array Value := #[.func (.func 58) #[.agg cs] #[], .func (.func 59) #[.agg cs] #[], .func (.func 60) #[.agg cs] #[]]
theorem checksV_at {cs : Array Value} {k : Nat} (h : k < 3) : (checksV cs)[(k : Int).toNat]? = some (.func (.func (checkOf k)) #[.agg cs] #[]) := by
  rcases (show k = 0 ∨ k = 1 ∨ k = 2 by omega) with e | e | e <;> subst e <;> rfl
theorem checkOf_has {k : Nat} : Has Tryz.prog (checkOf k) := by
  unfold checkOf
  repeat' split
  · exact has_58
  · exact has_59
  · exact has_60
theorem check_fn (k : Nat) (hk : k < 3) (p : ProgD) (M : List Nat) (w0 : World) (cs : List Value) (hP : RdProg M w0 p cs) (hp : ProgOK p) (hK : Masks M w0) (hM : ∀ g ∈ M, g < w0.heap.size) :
    Does Tryz.prog (checkOf k) #[.agg cs.toArray] w0 fun v w' => v = .int .i64 0 ∧ Below w0.heap.size w0 w' := by
  rcases (show k = 0 ∨ k = 1 ∨ k = 2 by omega) with e | e | e <;> subst e
  · exact cellsP_fn p M w0 cs hP hp
  · exact modulesP_fn p M w0 cs hP hp hK hM
  · exact locksP_fn p M w0 cs hP hp hK hM
theorem validP_fn (p : ProgD) (M : List Nat) (w0 : World) (cs : List Value) (hP : RdProg M w0 p cs) (hp : ProgOK p) (hK : Masks M w0) (hM : ∀ g ∈ M, g < w0.heap.size) :
    Does Tryz.prog 33 #[.agg cs.toArray] w0 fun v w' => v = .tuple #[.int .i64 0, .int .i64 (-1), .int .i64 (-1)] ∧ Below w0.heap.size w0 w' := by
  obtain ⟨Ac, nc, cc, Am, nm, cm, Al, nl, cl, At, nt, ct, rfl, hC, hMo, hLk, hTh, hnc, hnm, hnl, hnt, bc, bm, bl, bt⟩ := hP.open_
  have S := St.refl w0
  have hM' : ∀ w' : World, w0.heap.size ≤ w'.heap.size → ∀ g ∈ M, g < w'.heap.size := fun w' h g hg => by have := hM g hg; omega
  have hdis : p.threads.Pairwise fun a b => Value.string a.name ≠ .string b.name := hp.threadNames.imp fun h e => h (by injection e)
  refine Does_enter Tryz.func33 rfl Tryz.ntmps33 rfl ?_
  refine W_seq ?_
  refine W_region ?_
  refine o_boxa S (by conv => lhs; whnf) rfl ?_
  intro g1 w1 S1 X1 G1
  refine o_assign (v := .int .i64 _) rfl rfl ?_
  refine o_assign (v := .int .i64 _) rfl rfl ?_
  refine o_assign (v := .int .i64 _) rfl rfl ?_
  refine WL_nil ?_
  refine W_seq ?_
  refine W_region ?_
  first | refine o_loadN many_36 rfl (S1.cells 0 rfl) rfl rfl ?_
  refine o_build bld_132 (vs := [(0, .agg _)]) (cs := [_, _, _, _]) rfl rfl rfl rfl ?_
  refine o_alloc S1 zv_132 rfl rfl ?_
  intro g5 w5 S5 X5 G5
  refine o_storeN (kk := 0) (vs := [_, _, _, _]) S5 sz_132 rfl rfl rfl rfl rfl rfl rfl ?_
  intro w1_3 S1_3 X1_3
  dsimp only [setsAt, List.set] at S1_3
  refine WL_nil ?_
  refine W_seq ?_
  refine W_seq ?_
  refine W_region ?_
  refine o_loadN many_132 rfl (S1_3.cells 0 rfl) rfl rfl ?_
  refine o_callr S1_3 has_57 rfl rfl (limitsP_fn p M _ _ (hP.keep (S1_3.keep0 M)) hp) ?_
  intro w20 S20 X20
  refine o_move (by conv => lhs; whnf) rfl ?_
  refine o_extract rfl rfl rfl ?_
  refine o_extract rfl rfl rfl ?_
  refine o_assign (v := .int .i64 _) rfl rfl ?_
  refine o_assign (v := .int .i64 _) rfl rfl ?_
  refine WL_nil ?_
  refine W_seq ?_
  refine W_region ?_
  refine o_move (v := .int .i64 _) rfl rfl ?_
  refine o_neq rfl rfl rfl (fun h24 => ?_) (fun h24 => ?_)
  · exfalso; omega
  refine WL_nil ?_
  refine W_else rfl ?_
  refine W_skip ?_
  refine W_seq ?_
  refine W_seq ?_
  refine W_region ?_
  refine o_loadN many_132 rfl (S20.cells 0 rfl) rfl rfl ?_
  refine o_makeFuncB rfl rfl rfl ?_
  refine o_loadN many_132 rfl (S20.cells 0 rfl) rfl rfl ?_
  refine o_makeFuncB rfl rfl rfl ?_
  refine o_loadN many_132 rfl (S20.cells 0 rfl) rfl rfl ?_
  refine o_makeFuncB rfl rfl rfl ?_
  refine WL_val (v := .agg (checksV #[.slice Ac nc cc, .slice Am nm cm, .slice Al nl cl, .slice At nt ct])) (w' := w20) rfl rfl rfl (by simp) (by kernel_rfl) ?_
  refine o_move (v := .int .i64 _) rfl rfl ?_
  refine WL_nil ?_
  refine W_block ?_
  refine W_loop (fun μk D ε w => D = [] ∧ ∃ k : Nat, (k + μk = (3)) ∧ St [] w0 w [(some g5, 132, [.slice Ac nc cc, .slice Am nm cm, .slice Al nl cl, .slice At nt ct]), (some g1, 36, [.slice Ac nc cc, .slice Am nm cm, .slice Al nl cl, .slice At nt ct])] ∧ ε 1 = .pointer (some ⟨g1, 0, none⟩) ∧ ε 5 = .pointer (some ⟨g5, 0, none⟩) ∧ ε 33 = .agg (checksV #[.slice Ac nc cc, .slice Am nm cm, .slice Al nl cl, .slice At nt ct]) ∧ ε 34 = .int .i64 k) (μ := (3)) ⟨rfl, 0, by omega, S20, rfl, rfl, rfl, rfl⟩ ?_
  rintro μk D ε w ⟨rfl, k, hk, S, e1, e5, e33, e34⟩
  refine W_known 1 e1 ?_
  refine W_known 5 e5 ?_
  refine W_known 33 e33 ?_
  refine W_known 34 e34 ?_
  clear e1 e5 e33 e34
  refine W_seq ?_
  refine W_region ?_
  refine o_lss rfl rfl rfl (fun h35 => ?_) (fun h35 => ?_)
  · refine WL_nil ?_
    refine W_seq ?_
    refine W_then rfl ?_
    refine W_skip ?_
    refine W_seq ?_
    refine W_block ?_
    refine W_seq ?_
    refine W_region ?_
    refine o_index art_135 rfl rfl (by omega) (by omega) (checksV_at (by omega)) rfl ?_
    refine o_assign (by conv => lhs; whnf) rfl ?_
    refine WL_nil ?_
    refine W_seq ?_
    refine W_region ?_
    refine o_move (by conv => lhs; whnf) rfl ?_
    refine o_callf (vs := [.agg #[.slice Ac nc cc, .slice Am nm cm, .slice Al nl cl, .slice At nt ct]]) checkOf_has rfl rfl rfl (check_fn k (by omega) p M _ _ (hP.keep (S.keep0 M)) hp (hK.keep (S.keep0 M)) (hM' _ S.size)) ?_
    rintro v38 w38 ⟨rfl, B38⟩
    have S38 := S.later B38
    refine o_assign (v := .int .i64 _) rfl rfl ?_
    refine WL_nil ?_
    refine W_seq ?_
    refine W_region ?_
    refine o_move (v := .int .i64 _) rfl rfl ?_
    refine o_neq rfl rfl rfl (fun h40 => ?_) (fun h40 => ?_)
    · exfalso; omega
    refine WL_nil ?_
    refine W_else rfl ?_
    refine W_skip ?_
    refine W_region ?_
    refine o_add rfl rfl (by unfold i64; omega) rfl ?_
    refine o_move (v := .int .i64 _) rfl rfl ?_
    refine WL_nil ?_
    refine ⟨μk - 1, by omega, rfl, (k + 1), (by omega), S38, rfl, rfl, rfl, rfl⟩
  refine WL_nil ?_
  refine W_seq ?_
  refine W_else rfl ?_
  refine W_exit ?_
  refine bcons_here ?_
  refine W_seq ?_
  refine W_region ?_
  refine o_makeMap (k := 9) S rfl ?_
  intro g43 w43 S43 X43 G43 Mp43
  refine o_assign (by conv => lhs; whnf) rfl ?_
  refine WL_nil ?_
  refine W_seq ?_
  refine W_seq ?_
  have hg43 : w0.heap.size ≤ g43 := by have := S.size; omega
  refine W_region ?_
  refine o_fieldAddr fa_36_3 rfl rfl ?_
  refine o_load one_34 rfl (by exact S43.cell 1 rfl rfl) rfl ?_
  refine o_len slz_34.slT rfl rfl ?_
  refine o_move (v := .int .i64 _) rfl rfl ?_
  refine WL_nil ?_
  refine W_block ?_
  refine W_loop (fun μk D ε w => D = [] ∧ ∃ k : Nat, (k + μk = (p.threads.length)) ∧ (MapAt Tryz.prog 9 w g43 (setOf ((p.threads.take k).map fun c => .string c.name))) ∧ St [] w0 w [(some g5, 132, [.slice Ac nc cc, .slice Am nm cm, .slice Al nl cl, .slice At nt ct]), (some g1, 36, [.slice Ac nc cc, .slice Am nm cm, .slice Al nl cl, .slice At nt ct])] ∧ ε 5 = .pointer (some ⟨g5, 0, none⟩) ∧ ε 11 = .map (some g43) ∧ ε 45 = .slice At nt ct ∧ ε 46 = .int .i64 nt ∧ ε 47 = .int .i64 k) (μ := (p.threads.length)) ⟨rfl, 0, by omega, (by simpa [setOf] using Mp43), S43, rfl, rfl, rfl, rfl, rfl⟩ ?_
  rintro μk D ε w ⟨rfl, k, hk, Mp43, S, e5, e11, e45, e46, e47⟩
  refine W_known 5 e5 ?_
  refine W_known 11 e11 ?_
  refine W_known 45 e45 ?_
  refine W_known 46 e46 ?_
  refine W_known 47 e47 ?_
  clear e5 e11 e45 e46 e47
  refine W_seq ?_
  refine W_region ?_
  refine o_lss rfl rfl rfl (fun h48 => ?_) (fun h48 => ?_)
  · refine WL_nil ?_
    refine W_seq ?_
    refine W_then rfl ?_
    refine W_skip ?_
    refine W_seq ?_
    refine W_block ?_
    refine W_seq ?_
    refine W_region ?_
    refine o_move (v := .int .i64 _) rfl rfl ?_
    obtain ⟨x, b50, p50, c50, hxx, hA50, hM50, hl50, hc50, hr50⟩ := RdS.get (hTh) (k) (by omega)
    obtain ⟨Aa50, na50, ca50, Am50, nm50, cm50, As50, ns50, cs50, Al50, nl50, cl50, rfl, ip50, hEs50, hMs50, hSt50, hLo50, hna50, hnm50, hns50, hnl50, ba50, bm50, bs50, bl50⟩ := RThread.open_ hr50
    refine o_indexAddr slz_34.slT rfl (by assumption) rfl (by omega) (by omega) rfl ?_
    refine o_loadN many_83 rfl (hc50.keep (S.keep0 _) hM50) (by rfl) rfl ?_
    refine o_alloc S zv_83 rfl rfl ?_
    intro g13 w13 S13 X13 G13
    replace Mp43 := Mp43.keep X13 (List.not_mem_nil)
    refine o_assign (v := .int .i64 _) rfl rfl ?_
    refine o_storeN (kk := 0) (vs := [_, _, _, _, _, _, _]) S13 sz_83 rfl rfl rfl rfl rfl rfl rfl ?_
    intro w15_5 S15_5 X15_5
    dsimp only [setsAt, List.set] at S15_5
    replace Mp43 := Mp43.keep X15_5 (fun hh => by rw [List.mem_singleton] at hh; exact Mp43.ne (S13.blk 0 rfl) hh)
    refine WL_nil ?_
    refine W_seq ?_
    refine W_region ?_
    refine o_loadN many_132 rfl (S15_5.cells 1 rfl) rfl rfl ?_
    refine o_move (v := .int .i64 _) rfl rfl ?_
    refine o_loadN many_83 rfl (S15_5.cells 0 rfl) rfl rfl ?_
    refine o_move (by conv => lhs; whnf) rfl ?_
    have hnew := not_before hdis hxx
    have hmore : ∀ g ∈ g43 :: M, g ∈ M ∨ w0.heap.size ≤ g := fun g hg => by exact (List.mem_cons.1 hg).elim (fun h => .inr (by omega)) .inl
    have hlt : ∀ g ∈ g43 :: M, g < w15_5.heap.size := fun g hg => by exact (List.mem_cons.1 hg).elim (fun h => h ▸ Mp43.lt) (hM' _ S15_5.size g)
    refine o_call has_61 rfl rfl (threadP_fn p k x g43 _ (g43 :: M) _ _ _ ((hP.more hmore).keep (S15_5.keep0 _)) (RThread.keep (S15_5.keep0 _) _ _ (RThread.more hmore _ _ hr50)) hp ((hK.more hmore).keep (S15_5.keep0 _)) hlt (by simp) hxx Mp43 hnew) ?_
    rintro v57 w57 ⟨rfl, B57, M57⟩
    have S57 := S15_5.turned Mp43 (.inl hg43) B57
    refine o_move (by conv => lhs; whnf) rfl ?_
    refine o_extract rfl rfl rfl ?_
    refine o_extract rfl rfl rfl ?_
    refine o_assign (v := .int .i64 _) rfl rfl ?_
    refine o_assign (v := .int .i64 _) rfl rfl ?_
    refine WL_nil ?_
    refine W_seq ?_
    refine W_region ?_
    refine o_move (v := .int .i64 _) rfl rfl ?_
    refine o_neq rfl rfl rfl (fun h61 => ?_) (fun h61 => ?_)
    · exfalso; omega
    refine WL_nil ?_
    refine W_else rfl ?_
    refine W_skip ?_
    refine W_region ?_
    refine o_add rfl rfl (by unfold i64; omega) rfl ?_
    refine o_move (v := .int .i64 _) rfl rfl ?_
    refine WL_nil ?_
    refine ⟨μk - 1, by omega, rfl, (k + 1), (by omega), ((by rw [take_some hxx, List.map_append]; exact M57)), S57.tail, rfl, rfl, rfl, rfl, rfl⟩
  refine WL_nil ?_
  refine W_seq ?_
  refine W_else rfl ?_
  refine W_exit ?_
  refine bcons_here ?_
  refine W_seq ?_
  refine W_region ?_
  refine o_assign (v := .int .i64 _) rfl rfl ?_
  refine o_assign (v := .int .i64 _) rfl rfl ?_
  refine o_assign (v := .int .i64 _) rfl rfl ?_
  refine WL_nil ?_
  refine W_ret ?_
  refine ret_3 rfl (by conv => lhs; whnf) (by conv => lhs; whnf) (by conv => lhs; whnf) ?_
  exact ⟨rfl, S.fin⟩
end Go.Proofs.YtgnbfmifjlnigaaGreatDoor
namespace Go.Fw
open Go.RowKit
def startC (p : ProgD) : ConfD := ⟨p.cells.map CellD.init, p.threads.map (fun t => if t.asleep then -1 else 0), p.threads.map (fun _ => [])⟩
def writeE (mem : List Int) (e : EntryD) : List Int := (e.cells.zip e.values).foldl (fun m x => m.set x.1.toNat x.2) mem
def viewC (c : ConfD) (t : Nat) : List Int := (c.buf.getD t []).foldl writeE c.mem
def setC (s : List AssignD) (v mem : List Int) : List Int := s.foldl (fun m a => m.set a.cell.toNat (a.to.evl v v)) mem
def entOf (p : ProgD) (s : List AssignD) (v : List Int) : EntryD := ⟨(s.filter fun a => thrAt p.cells a.cell = -1).map AssignD.cell, (s.filter fun a => thrAt p.cells a.cell = -1).map fun a => a.to.evl v v⟩
def enabledC (p : ProgD) (model : Int) (c : ConfD) (t : Nat) (s : StepD) : Bool :=
  decide (c.at_.getD t 0 = s.frm) && (decide (s.guard.evl (viewC c t) (viewC c t) = 1) &&
    (if s.kind = 3 then decide (model = 0 ∨ ((c.buf.getD t []).length < 3 ∧ (s.release = true → c.buf.getD t [] = [])))
     else if s.kind = 6 then decide (c.buf.getD t [] = [] ∧ c.at_.getD s.target.toNat 0 = -1)
     else if s.kind = 7 then decide (c.buf.getD t [] = [] ∧ c.at_.getD s.target.toNat 0 = (p.threads.getD s.target.toNat ⟨ByteArray.empty, 0, [], [], [], [], false⟩).points - 1 ∧ c.buf.getD s.target.toNat [] = [])
     else if s.kind = 1 ∨ s.kind = 2 then true else decide (c.buf.getD t [] = [])))
def meetE (a b : EntryD) : Bool := a.cells.any fun x => b.cells.contains x
def readyC (model : Int) (l : List EntryD) (i : Nat) : Bool := decide (i = 0) || (decide (model = 2) && (List.range i).all fun k => match l[k]?, l[i]? with | some a, some b => !meetE a b | _, _ => true)
def stepsC (p : ProgD) (t : Nat) : List StepD := (p.threads.getD t ⟨ByteArray.empty, 0, [], [], [], [], false⟩).steps
def choicesT (p : ProgD) (model : Int) (c : ConfD) (t : Nat) : List ChoiceD :=
  ((List.range (stepsC p t).length).filter fun i => match (stepsC p t)[i]? with | some s => enabledC p model c t s | none => false).map (fun (i : Nat) => (⟨t, i, 0⟩ : ChoiceD)) ++
  ((List.range (c.buf.getD t []).length).filter (readyC model (c.buf.getD t []))).map (fun (i : Nat) => (⟨t, -1, ((c.buf.getD t []).getD i ⟨[], []⟩).cells.getD 0 0⟩ : ChoiceD))
def choicesC (p : ProgD) (model : Int) (c : ConfD) : List ChoiceD := (List.range p.threads.length).flatMap (choicesT p model c)
def atC (c : ConfD) (t : Nat) (s : StepD) : List Int := if s.kind = 6 then (c.at_.set t s.to).set s.target.toNat 0 else c.at_.set t s.to
def execC (p : ProgD) (model : Int) (c : ConfD) (t : Nat) (s : StepD) : ConfD :=
  if s.kind = 3 ∧ model ≠ 0 then ⟨setC (s.set.filter fun a => thrAt p.cells a.cell ≠ -1) (viewC c t) c.mem, atC c t s, c.buf.set t (c.buf.getD t [] ++ [entOf p s.set (viewC c t)])⟩
  else ⟨setC s.set (viewC c t) c.mem, atC c t s, c.buf⟩
def commitC (c : ConfD) (t i : Nat) : ConfD := ⟨writeE c.mem ((c.buf.getD t []).getD i ⟨[], []⟩), c.at_, c.buf.set t ((c.buf.getD t []).eraseIdx i)⟩
def doC (p : ProgD) (model : Int) (c : ConfD) (x : ChoiceD) : ConfD :=
  if x.step = -1 then commitC c x.thread.toNat (((c.buf.getD x.thread.toNat []).findIdx? fun e => e.cells.getD 0 0 = x.cell).getD 0)
  else match (stepsC p x.thread.toNat)[x.step.toNat]? with | some s => execC p model c x.thread.toNat s | none => c
section
variable {α : Type} [DecidableEq α]
variable (succ : α → List α) (a : α)
end
end Go.Fw
namespace Go.Fw
open Go.RowKit
section
variable {α : Type} [DecidableEq α] (succ : α → List α) (a : α)
inductive Reach (succ : α → List α) (a : α) : α → Prop
  | start : Reach succ a a
  | next {c d : α} (h : Reach succ a c) (hd : d ∈ succ c) : Reach succ a d
end
end Go.Fw
namespace Go.Fw
open Go.RowKit
theorem mem_choices {p : ProgD} {m : Int} {c : ConfD} {x : ChoiceD} : x ∈ choicesC p m c ↔ ∃ t, t < p.threads.length ∧
    ((∃ (i : Nat) (s : StepD), (stepsC p t)[i]? = some s ∧ enabledC p m c t s = true ∧ x = ⟨t, i, 0⟩) ∨
     (∃ i : Nat, i < (c.buf.getD t []).length ∧ readyC m (c.buf.getD t []) i = true ∧ x = ⟨t, -1, ((c.buf.getD t []).getD i ⟨[], []⟩).cells.getD 0 0⟩)) := by
  unfold choicesC
  rw [List.mem_flatMap]
  constructor
  · rintro ⟨t, ht, h⟩
    refine ⟨t, List.mem_range.1 ht, ?_⟩
    unfold choicesT at h
    rcases List.mem_append.1 h with h | h
    · obtain ⟨i, hi, rfl⟩ := List.mem_map.1 h
      obtain ⟨hi, he⟩ := List.mem_filter.1 hi
      split at he
      · rename_i s hs
        exact .inl ⟨i, s, hs, he, rfl⟩
      · cases he
    · obtain ⟨i, hi, rfl⟩ := List.mem_map.1 h
      obtain ⟨hi, he⟩ := List.mem_filter.1 hi
      exact .inr ⟨i, List.mem_range.1 hi, he, rfl⟩
  · rintro ⟨t, ht, h⟩
    refine ⟨t, List.mem_range.2 ht, ?_⟩
    unfold choicesT
    rw [List.mem_append]
    rcases h with ⟨i, s, hs, he, rfl⟩ | ⟨i, hi, he, rfl⟩
    · refine .inl (List.mem_map.2 ⟨i, List.mem_filter.2 ⟨List.mem_range.2 (List.getElem?_eq_some_iff.1 hs).1, ?_⟩, rfl⟩)
      simp only [hs]; exact he
    · exact .inr (List.mem_map.2 ⟨i, List.mem_filter.2 ⟨List.mem_range.2 hi, he⟩, rfl⟩)
theorem Reach.to {α : Type} {succ succ' : α → List α} {a x : α} (hx : Reach succ a x) (h : ∀ c d, Reach succ a c → Reach succ' a c → d ∈ succ c → Reach succ' a d) : Reach succ' a x := by
  induction hx with
  | start => exact .start
  | next hc hd ih => exact h _ _ hc ih hd
end Go.Fw
namespace Go.Fw
open Go.RowKit
theorem do_step {p : ProgD} {m : Int} {c : ConfD} {t i : Nat} {s : StepD} (hs : (stepsC p t)[i]? = some s) : doC p m c ⟨t, i, 0⟩ = execC p m c t s := by
  unfold doC
  rw [if_neg (by simp)]
  simp only [Int.toNat_natCast, hs]
theorem steps_ok {p : ProgD} (hp : ProgOK p) {t i : Nat} {s : StepD} (ht : t < p.threads.length) (hs : (stepsC p t)[i]? = some s) : StepOK p t (p.threads[t]).points s := by
  have := (hp.threads t ht).steps s
  unfold stepsC at hs
  rw [List.getD_eq_getElem?_getD, List.getElem?_eq_getElem ht] at hs
  exact this (List.mem_of_getElem? hs)
end Go.Fw
namespace Go.Fw
open Go.RowKit
def entNums (e : EntryD) : List Int := (e.cells.length : Int) :: (e.cells.zip e.values).flatMap fun x => [x.1, x.2]
def bufNums (b : List EntryD) : List Int := (b.length : Int) :: b.flatMap entNums
def EntryD.even (e : EntryD) : Prop := e.values.length = e.cells.length
structure ConfD.Shape (c : ConfD) (n t : Nat) : Prop where
  mem : c.mem.length = n
  at_ : c.at_.length = t
  buf : c.buf.length = t
  even : ∀ b ∈ c.buf, ∀ e ∈ b, e.even
end Go.Fw
namespace Go.Fw
open Go.RowKit
theorem val_range {e : E} {lim : Int} (h : e.good lim = true) (old now : List Int) : 0 ≤ e.val old now ∧ e.val old now < pow2 e.w.toNat := by
  obtain ⟨hsh, _⟩ := good_shape h
  have hw : e.w ≤ 8 := hsh.2.1
  have hb : ∀ a, 0 ≤ band a (pow2 e.w.toNat - 1) ∧ band a (pow2 e.w.toNat - 1) < pow2 e.w.toNat := fun a => by
    rw [band_mask _ _ (by omega)]
    have := pow2_pos e.w.toNat
    exact ⟨Int.emod_nonneg _ (by omega), Int.emod_lt_of_pos _ this⟩
  rw [E.val_def]
  by_cases o1 : e.op = 1
  · rw [if_pos o1]; have := (Shape_1 o1).1 hsh; omega
  · rw [if_neg o1]
    split
    · exact hb _
    · split
      · exact hb _
      · exact hb _
theorem evl_range {cells : List CellD} {pair : Bool} {e : E} (h : e.valid cells pair = true) (old now : List Int) : 0 ≤ e.evl old now ∧ e.evl old now < pow2 e.w.toNat := by
  obtain ⟨h1, h2, _⟩ := valid_parts h
  unfold E.evl
  rw [if_pos h1]
  exact val_range h2 old now
structure MemOK (p : ProgD) (m : List Int) : Prop where
  len : m.length = p.cells.length
  vals : ∀ (i : Nat) (v : Int), m[i]? = some v → 0 ≤ v ∧ v < pow2 (wAt p.cells i).toNat
theorem MemOK.set {p : ProgD} {m : List Int} (h : MemOK p m) {k : Nat} {v : Int} (hv : 0 ≤ v ∧ v < pow2 (wAt p.cells k).toNat) : MemOK p (m.set k v) := by
  refine ⟨by rw [List.length_set]; exact h.len, fun i x hi => ?_⟩
  rw [List.getElem?_set] at hi
  split at hi
  · rename_i hk
    subst hk
    split at hi
    · cases hi; exact hv
    · cases hi
  · exact h.vals i x hi
structure EntOK (p : ProgD) (e : EntryD) : Prop where
  some_ : e.cells ≠ []
  even : e.even
  cells : ∀ (i : Nat) (n : Int), e.cells[i]? = some n → isIn n p.cells.length ∧ thrAt p.cells n = -1 ∧ ghAt p.cells n = decide (0 < i)
  vals : ∀ x ∈ e.cells.zip e.values, 0 ≤ x.2 ∧ x.2 < pow2 (wAt p.cells x.1).toNat
  once : e.cells.Nodup
theorem MemOK.write {p : ProgD} {m : List Int} (h : MemOK p m) {e : EntryD} (he : EntOK p e) : MemOK p (writeE m e) := by
  unfold writeE
  have key : ∀ (l : List (Int × Int)) (m : List Int), MemOK p m → (∀ x ∈ l, 0 ≤ x.1 ∧ 0 ≤ x.2 ∧ x.2 < pow2 (wAt p.cells x.1).toNat) → MemOK p (l.foldl (fun m x => m.set x.1.toNat x.2) m) := by
    intro l
    induction l with
    | nil => intro m h _; exact h
    | cons x l ih =>
      intro m h hl
      rw [List.foldl_cons]
      obtain ⟨h0, h1⟩ := hl x (by simp)
      exact ih _ (h.set (by rw [Int.toNat_of_nonneg h0]; exact h1)) fun y hy => hl y (by simp [hy])
  refine key _ m h fun x hx => ?_
  have hx1 := List.of_mem_zip (a := x.1) (b := x.2) hx
  obtain ⟨i, hi, hie⟩ := List.getElem_of_mem hx1.1
  have := he.cells i x.1 (by rw [List.getElem?_eq_getElem hi, hie])
  exact ⟨this.1.1, he.vals x hx⟩
end Go.Fw
namespace Go.Fw
open Go.RowKit
theorem ent_ok {p : ProgD} {t : Nat} {n : Int} {s : StepD} (hs : StepOK p t n s) (hk : s.kind = 3) (v : List Int) : EntOK p (entOf p s.set v) := by
  obtain ⟨a, l, hset, ha1, ha2, hl⟩ := hs.row.k3 hk
  have hf : (s.set.filter fun a => thrAt p.cells a.cell = -1) = a :: l.filter fun a => thrAt p.cells a.cell = -1 := by
    rw [hset, List.filter_cons_of_pos (by simp [ha1])]
  have hmem : ∀ b ∈ s.set.filter fun a => thrAt p.cells a.cell = -1, b ∈ s.set ∧ thrAt p.cells b.cell = -1 := fun b hb => by
    obtain ⟨h1, h2⟩ := List.mem_filter.1 hb
    exact ⟨h1, by simpa using h2⟩
  refine ⟨?_, ?_, fun i x hi => ?_, fun x hx => ?_, ?_⟩
  · unfold entOf; rw [hf]; simp
  · unfold entOf EntryD.even; simp
  · unfold entOf at hi
    simp only [List.getElem?_map, Option.map_eq_some_iff] at hi
    obtain ⟨b, hb, rfl⟩ := hi
    obtain ⟨h1, h2⟩ := hmem b (List.mem_of_getElem? hb)
    refine ⟨(hs.set b h1).1, h2, ?_⟩
    rw [hf] at hb
    cases i with
    | zero => simp at hb; subst hb; simpa using ha2
    | succ i =>
      rw [List.getElem?_cons_succ] at hb
      have := hl b (List.mem_filter.1 (List.mem_of_getElem? hb)).1
      rw [this]; simp
  · unfold entOf at hx
    simp only [List.zip_map'] at hx
    obtain ⟨b, hb, rfl⟩ := List.mem_map.1 hx
    obtain ⟨h1, h2⟩ := hmem b hb
    obtain ⟨_, h3, h4⟩ := hs.set b h1
    have := evl_range h3 v v
    rw [h4] at this
    exact this
  · unfold entOf List.Nodup
    simp only
    rw [List.pairwise_map]
    exact hs.once.filter _
theorem MemOK.sets {p : ProgD} {v : List Int} : ∀ (l : List AssignD) (m : List Int), MemOK p m → (∀ a ∈ l, isIn a.cell p.cells.length ∧ a.to.valid p.cells false = true ∧ a.to.w = wAt p.cells a.cell) → MemOK p (setC l v m)
  | [], _, h, _ => h
  | a :: l, m, h, hl => by
    obtain ⟨h1, h2, h3⟩ := hl a (by simp)
    have hr := evl_range h2 v v
    rw [h3] at hr
    exact MemOK.sets l _ (h.set (by rw [Int.toNat_of_nonneg h1.1]; exact hr)) fun b hb => hl b (by simp [hb])
structure FitC (p : ProgD) (c : ConfD) : Prop where
  mem : MemOK p c.mem
  nat : c.at_.length = p.threads.length
  atr : ∀ (t : Nat) (x : Int), c.at_[t]? = some x → ∀ th, p.threads[t]? = some th → -1 ≤ x ∧ x < th.points ∧ (x = -1 → th.asleep = true)
  nbuf : c.buf.length = p.threads.length
  bufs : ∀ (t : Nat) (b : List EntryD), c.buf[t]? = some b → b.length ≤ 3 ∧ (∀ e ∈ b, EntOK p e) ∧ (c.at_[t]? = some (-1) → b = [])
theorem fit_start {p : ProgD} (hp : ProgOK p) : FitC p (startC p) := by
  refine ⟨⟨by simp [startC], fun i v hi => ?_⟩, by simp [startC], fun t x hx th hth => ?_, by simp [startC], fun t b hb => ?_⟩
  · simp only [startC, List.getElem?_map, Option.map_eq_some_iff] at hi
    obtain ⟨c, hc, rfl⟩ := hi
    have h := (hp.cells c (List.mem_of_getElem? hc)).init
    have hw : wAt p.cells i = c.w := by unfold wAt; simp [hc]
    rw [hw]; exact h
  · simp only [startC, List.getElem?_map, hth, Option.map_some, Option.some.injEq] at hx
    have hlt := (List.getElem?_eq_some_iff.1 hth).1
    have he := (List.getElem?_eq_some_iff.1 hth).2
    have h := (hp.threads t hlt).points
    rw [he] at h
    subst hx
    cases ha : th.asleep with
    | true => simp; omega
    | false => simp; omega
  · simp only [startC, List.getElem?_map, Option.map_eq_some_iff] at hb
    obtain ⟨_, _, rfl⟩ := hb
    simp
end Go.Fw
namespace Go.Fw
open Go.RowKit
theorem atC_get {c : ConfD} {t : Nat} {s : StepD} {u : Nat} {x : Int} (h : (atC c t s)[u]? = some x) : (u ≠ t ∧ c.at_[u]? = some x) ∨ (u = t ∧ x = s.to) ∨ (s.kind = 6 ∧ u = s.target.toNat ∧ x = 0) := by
  have key : ∀ x, (c.at_.set t s.to)[u]? = some x → (u ≠ t ∧ c.at_[u]? = some x) ∨ (u = t ∧ x = s.to) := fun x h => by
    rw [List.getElem?_set] at h
    split at h
    · rename_i hh
      split at h
      · cases h; exact .inr ⟨hh.symm, rfl⟩
      · cases h
    · rename_i hh
      exact .inl ⟨fun e => hh e.symm, h⟩
  unfold atC at h
  split at h
  · rename_i hk
    rw [List.getElem?_set] at h
    split at h
    · rename_i hh
      split at h
      · cases h; exact .inr (.inr ⟨hk, hh.symm, rfl⟩)
      · cases h
    · rcases key x h with h | h
      · exact .inl h
      · exact .inr (.inl h)
  · rcases key x h with h | h
    · exact .inl h
    · exact .inr (.inl h)
theorem atC_len (c : ConfD) (t : Nat) (s : StepD) : (atC c t s).length = c.at_.length := by
  unfold atC; split <;> simp
theorem thread_points {p : ProgD} (hp : ProgOK p) {t : Nat} {th : ThreadD} (h : p.threads[t]? = some th) : 1 ≤ th.points := by
  obtain ⟨hlt, rfl⟩ := List.getElem?_eq_some_iff.1 h
  exact (hp.threads t hlt).points.1
theorem fit_at {p : ProgD} (hp : ProgOK p) {c : ConfD} (hf : FitC p c) {t : Nat} {s : StepD} (ht : t < p.threads.length) (hs : StepOK p t (p.threads[t]).points s) :
    ∀ (u : Nat) (x : Int), (atC c t s)[u]? = some x → ∀ th, p.threads[u]? = some th → -1 ≤ x ∧ x < th.points ∧ (x = -1 → th.asleep = true) := by
  intro u x hx th hth
  rcases atC_get hx with ⟨_, h⟩ | ⟨rfl, rfl⟩ | ⟨_, _, rfl⟩
  · exact hf.atr u x h th hth
  · obtain ⟨_, rfl⟩ := List.getElem?_eq_some_iff.1 hth
    have := hs.to
    omega
  · have := thread_points hp hth
    omega
theorem fit_exec {p : ProgD} (hp : ProgOK p) {m : Int} {c : ConfD} (hf : FitC p c) {t i : Nat} {s : StepD} (ht : t < p.threads.length) (hs : (stepsC p t)[i]? = some s) (he : enabledC p m c t s = true) : FitC p (execC p m c t s) := by
  have hok := steps_ok hp ht hs
  have hsleep : ∀ u b, c.buf[u]? = some b → (atC c t s)[u]? = some (-1) → b = [] := fun u b hb hu => by
    rcases atC_get hu with ⟨_, h⟩ | ⟨rfl, h⟩ | ⟨_, _, h⟩
    · exact (hf.bufs u b hb).2.2 h
    · have := hok.to; omega
    · omega
  unfold execC
  split
  · rename_i hk
    have hlen : (c.buf.getD t []).length < 3 := by
      unfold enabledC at he
      simp only [Bool.and_eq_true, if_pos hk.1, decide_eq_true_eq] at he
      rcases he.2.2 with h | h
      · exact absurd h hk.2
      · exact h.1
    have hlt : t < c.buf.length := by rw [hf.nbuf]; exact ht
    have hb := hf.bufs t (c.buf.getD t []) (by rw [List.getD_eq_getElem?_getD, List.getElem?_eq_getElem hlt]; rfl)
    refine ⟨MemOK.sets _ _ hf.mem (fun a ha => hok.set a (List.mem_filter.1 ha).1), by simp only [atC_len]; exact hf.nat, fit_at hp hf ht hok, by simp only [List.length_set]; exact hf.nbuf, fun u b hu => ?_⟩
    simp only [List.getElem?_set] at hu
    split at hu
    · rename_i htu
      subst htu
      cases hu
      refine ⟨by rw [List.length_append, List.length_singleton]; omega, fun e he' => ?_, fun hu => ?_⟩
      · rcases List.mem_append.1 he' with h | h
        · exact hb.2.1 e h
        · rw [List.mem_singleton.1 h]; exact ent_ok hok hk.1 _
      · exfalso
        rcases atC_get hu with ⟨h, _⟩ | ⟨_, h⟩ | ⟨_, _, h⟩
        · exact h rfl
        · have := hok.to; omega
        · omega
    · exact ⟨(hf.bufs u b hu).1, (hf.bufs u b hu).2.1, hsleep u b hu⟩
  · exact ⟨MemOK.sets _ _ hf.mem (fun a ha => hok.set a ha), by simp only [atC_len]; exact hf.nat, fit_at hp hf ht hok, hf.nbuf, fun u b hu => ⟨(hf.bufs u b hu).1, (hf.bufs u b hu).2.1, hsleep u b hu⟩⟩
theorem fit_commit {p : ProgD} {c : ConfD} (hf : FitC p c) (t i : Nat) : FitC p (commitC c t i) := by
  unfold commitC
  refine ⟨?_, hf.nat, hf.atr, by simp only [List.length_set]; exact hf.nbuf, fun u b hu => ?_⟩
  · by_cases hlt : t < c.buf.length
    · have hb := hf.bufs t (c.buf.getD t []) (by rw [List.getD_eq_getElem?_getD, List.getElem?_eq_getElem hlt]; rfl)
      by_cases hi : i < (c.buf.getD t []).length
      · rw [List.getD_eq_getElem?_getD (i := i), List.getElem?_eq_getElem hi]
        exact hf.mem.write (hb.2.1 _ (List.getElem_mem hi))
      · rw [List.getD_eq_getElem?_getD (i := i), List.getElem?_eq_none (by omega)]
        exact hf.mem
    · have h0 : c.buf.getD t [] = [] := by rw [List.getD_eq_getElem?_getD, List.getElem?_eq_none (by omega)]; rfl
      rw [h0]
      exact hf.mem
  · simp only [List.getElem?_set] at hu
    split at hu
    · rename_i htu
      subst htu
      split at hu
      · rename_i hlt
        cases hu
        have hb := hf.bufs t (c.buf.getD t []) (by rw [List.getD_eq_getElem?_getD, List.getElem?_eq_getElem hlt]; rfl)
        refine ⟨Nat.le_trans (List.length_eraseIdx_le _ _) hb.1, fun e he => hb.2.1 e (List.mem_of_mem_eraseIdx he), fun h => ?_⟩
        rw [hb.2.2 h]; rfl
      · cases hu
    · exact hf.bufs u b hu
theorem fit_do {p : ProgD} (hp : ProgOK p) {m : Int} {c : ConfD} (hf : FitC p c) {x : ChoiceD} (hx : x ∈ choicesC p m c) : FitC p (doC p m c x) := by
  obtain ⟨t, ht, h | h⟩ := mem_choices.1 hx
  · obtain ⟨i, s, hs, he, rfl⟩ := h
    rw [do_step hs]; exact fit_exec hp hf ht hs he
  · obtain ⟨i, hi, he, rfl⟩ := h
    unfold doC
    rw [if_pos rfl]
    exact fit_commit hf _ _
theorem FitC.shape {p : ProgD} {c : ConfD} (hf : FitC p c) : c.Shape p.cells.length p.threads.length :=
  ⟨hf.mem.len, hf.nat, hf.nbuf, fun b hb e he => by
    obtain ⟨t, ht, rfl⟩ := List.getElem_of_mem hb
    exact ((hf.bufs t _ (List.getElem?_eq_getElem ht)).2.1 e he).even⟩
end Go.Fw
namespace Go.Fw
open Go.RowKit
theorem nodup_len : ∀ (n : Nat) (l : List Int), l.Nodup → (∀ x ∈ l, 0 ≤ x ∧ x < n) → l.length ≤ n
  | 0, l, _, h => by
    cases l with
    | nil => simp
    | cons x l => have := h x (by simp); omega
  | n + 1, l, hd, h => by
    by_cases hn : (n : Int) ∈ l
    · have h1 := nodup_len n (l.erase (n : Int)) (hd.erase _) (fun x hx => by
        obtain ⟨h2, h3⟩ := (hd.mem_erase_iff).1 hx
        have := h x h3
        omega)
      rw [List.length_erase_of_mem hn] at h1
      omega
    · have h1 := nodup_len n l hd (fun x hx => by
        have := h x hx
        have : x ≠ (n : Int) := fun e => hn (e ▸ hx)
        omega)
      omega
theorem EntOK.len {p : ProgD} {e : EntryD} (h : EntOK p e) : e.cells.length ≤ p.cells.length :=
  nodup_len _ _ h.once fun x hx => by
    obtain ⟨i, hi, rfl⟩ := List.getElem_of_mem hx
    exact (h.cells i _ (List.getElem?_eq_getElem hi)).1
theorem wAt_le {p : ProgD} (hp : ProgOK p) (x : Int) : wAt p.cells x ≤ 8 := by
  unfold wAt
  split
  · cases h : p.cells[x.toNat]? with
    | none => simp
    | some c => simpa using (hp.cells c (List.mem_of_getElem? h)).w.2
  · omega
theorem pow2_w {p : ProgD} (hp : ProgOK p) (x : Int) : pow2 (wAt p.cells x).toNat ≤ 256 := by
  have h := wAt_le hp x
  have h2 : (2 : Nat) ^ (wAt p.cells x).toNat ≤ 2 ^ 8 := Nat.pow_le_pow_right (by omega) (by omega)
  rw [pow2_eq]
  omega
theorem nums_small {p : ProgD} (hp : ProgOK p) {c : ConfD} (hf : FitC p c) : (∀ x ∈ c.mem, 0 ≤ x ∧ x ≤ 255) ∧ (∀ x ∈ c.at_, -1 ≤ x ∧ x ≤ 47) ∧ ∀ x ∈ c.buf.flatMap bufNums, 0 ≤ x ∧ x ≤ 255 := by
  refine ⟨fun x hx => ?_, fun x hx => ?_, fun x hx => ?_⟩
  · obtain ⟨i, hi, rfl⟩ := List.getElem_of_mem hx
    have := hf.mem.vals i _ (List.getElem?_eq_getElem hi)
    have := pow2_w hp i
    omega
  · obtain ⟨t, ht, rfl⟩ := List.getElem_of_mem hx
    have hlt : t < p.threads.length := by rw [← hf.nat]; exact ht
    have h1 := hf.atr t _ (List.getElem?_eq_getElem ht) _ (List.getElem?_eq_getElem hlt)
    have h2 := (hp.threads t hlt).points
    omega
  · obtain ⟨b, hb, hx⟩ := List.mem_flatMap.1 hx
    obtain ⟨t, ht, rfl⟩ := List.getElem_of_mem hb
    obtain ⟨h1, h2, _⟩ := hf.bufs t _ (List.getElem?_eq_getElem ht)
    unfold bufNums at hx
    rcases List.mem_cons.1 hx with rfl | hx
    · omega
    · obtain ⟨e, he, hx⟩ := List.mem_flatMap.1 hx
      have hE := h2 e he
      unfold entNums at hx
      rcases List.mem_cons.1 hx with rfl | hx
      · have := hE.len
        have := hp.ncells
        omega
      · obtain ⟨y, hy, hx⟩ := List.mem_flatMap.1 hx
        have h3 := hE.vals y hy
        have h4 := pow2_w hp y.1
        obtain ⟨i, hi, hie⟩ := List.getElem_of_mem (List.of_mem_zip (a := y.1) (b := y.2) hy).1
        have h5 := (hE.cells i y.1 (by rw [List.getElem?_eq_getElem hi, hie])).1
        have h6 := hp.ncells
        obtain ⟨h7, h8⟩ := h5
        simp only [List.mem_cons, List.not_mem_nil, or_false] at hx
        rcases hx with rfl | rfl <;> omega
end Go.Fw
namespace Go.Fw
open Go.RowKit
section
variable {M : List Nat} {w : World}
theorem RdConf.open_ {c : ConfD} {cs : List Value} (h : RdConf M w c cs) : ∃ Am nm cm Aa na ca Ab nb cb, cs = [.slice Am nm cm, .slice Aa na ca, .slice Ab nb cb] ∧
    RdI M w (.slice Am nm cm) c.mem ∧ RdI M w (.slice Aa na ca) c.at_ ∧ RdBs M w (.slice Ab nb cb) c.buf ∧
    nm = c.mem.length ∧ na = c.at_.length ∧ nb = c.buf.length ∧ nm ≤ 140737488355328 ∧ na ≤ 140737488355328 ∧ nb ≤ 140737488355328 := by
  obtain ⟨vm, va, vb, rfl, h1, h2, h3⟩ := h
  obtain ⟨Am, nm, cm, rfl⟩ := h1.form
  obtain ⟨Aa, na, ca, rfl⟩ := h2.form
  obtain ⟨Ab, nb, cb, rfl⟩ := h3.form
  exact ⟨_, _, _, _, _, _, _, _, _, rfl, h1, h2, h3, h1.len.1, h2.len.1, h3.len.1, h1.len.2.2, h2.len.2.2, h3.len.2.2⟩
theorem RBuf.open_ {b : List EntryD} {cs : List Value} (h : RBuf M w cs b) : ∃ A n c, cs = [.slice A n c] ∧ RdBu M w (.slice A n c) b ∧ n = b.length ∧ n ≤ 140737488355328 := by
  obtain ⟨v, rfl, h1⟩ := h
  obtain ⟨A, n, c, rfl⟩ := h1.form
  exact ⟨_, _, _, rfl, h1, h1.len.1, h1.len.2.2⟩
theorem REntry.open_ {e : EntryD} {cs : List Value} (h : REntry M w cs e) : ∃ Ac nc cc Av nv cv, cs = [.slice Ac nc cc, .slice Av nv cv] ∧ RdI M w (.slice Ac nc cc) e.cells ∧ RdI M w (.slice Av nv cv) e.values ∧ nc = e.cells.length ∧ nv = e.values.length ∧ nc ≤ 140737488355328 ∧ nv ≤ 140737488355328 := by
  obtain ⟨vc, vv, rfl, h1, h2⟩ := h
  obtain ⟨Ac, nc, cc, rfl⟩ := h1.form
  obtain ⟨Av, nv, cv, rfl⟩ := h2.form
  exact ⟨_, _, _, _, _, _, rfl, h1, h2, h1.len.1, h2.len.1, h1.len.2.2, h2.len.2.2⟩
end
theorem w_at {cells : List CellD} {k : Nat} {c : CellD} (h : cells[k]? = some c) : wAt cells (k : Int) = c.w := w_some (by omega) (by simpa using h)
end Go.Fw
namespace Go.Proofs.YtgnbfmifjlnigaaGreatDoor
open Go.Fw Go.RowKit
structure InP (p : ProgD) (M : List Nat) (w : World) (cs : List Value) : Prop where
  rd : RdProg M w p cs
  ok : ProgOK p
  msk : Masks M w
  lt : ∀ g ∈ M, g < w.heap.size
theorem InP.keep {p : ProgD} {M : List Nat} {w w' : World} {cs : List Value} (h : InP p M w cs) (hk : Keep M w w') : InP p M w' cs :=
  ⟨h.rd.keep hk, h.ok, h.msk.keep hk, fun g hg => Nat.lt_of_lt_of_le (h.lt g hg) hk.size⟩
theorem own_new {w0 w : World} {L : List Ent} {g t k : Nat} {cs : List Value} {M : List Nat} (S : St [] w0 w L) (hk : L[k]? = some (some g, t, cs)) : ∀ x ∈ g :: M, x ∈ M ∨ w0.heap.size ≤ x := fun x hx => by
  rcases List.mem_cons.1 hx with rfl | h
  · rcases S.new k hk with h | h
    · exact .inr h
    · cases h
  · exact .inl h
theorem InP.add {p : ProgD} {M : List Nat} {w0 w : World} {cs : List Value} (h : InP p M w0 cs) {L : List Ent} {g t k : Nat} {cs' : List Value} (S : St [] w0 w L) (hk : L[k]? = some (some g, t, cs')) : InP p (g :: M) w cs :=
  ⟨(h.rd.more (own_new S hk)).keep (S.keep0 _), h.ok, (h.msk.more (own_new S hk)).keep (S.keep0 _), fun x hx => by
    rcases List.mem_cons.1 hx with rfl | hx
    · exact S.lt k hk
    · exact Nat.lt_of_lt_of_le (h.lt x hx) S.size⟩
theorem RdConf.add {c : ConfD} {M : List Nat} {w0 w : World} {cs : List Value} (h : RdConf M w0 c cs) {L : List Ent} {g t k : Nat} {cs' : List Value} (S : St [] w0 w L) (hk : L[k]? = some (some g, t, cs')) : RdConf (g :: M) w c cs :=
  (h.more (own_new S hk)).keep (S.keep0 _)
end Go.Proofs.YtgnbfmifjlnigaaGreatDoor
set_option maxRecDepth 100000
namespace Go.Proofs.YtgnbfmifjlnigaaGreatDoor
open Go.Fw Go.RowKit Go.ChangeShapes Go.WideShapes
section
variable {H : Type} {enc : TypeId × Value → H} {P : Program} {W : World} {base : Nat} {sp : Nat → Bool} {held : Bool}
def Light (P : Program) (t : TypeId) (d : DataW H) : Prop := ∀ m ∈ d.weights P t, m ≤ reachBytes
theorem i64_wf {n : Int} (h : (Lit.int .i64 n).wf = true) : i64 n := by
  simp [Lit.wf, IntKind.min, IntKind.max, IntKind.signed, IntKind.bits] at h; exact h
theorem addr_none {a : Addr} {v : Value} (h : W.cell? a = some v) : a = ⟨a.block, a.off, none⟩ := by
  obtain ⟨b, o, s⟩ := a
  cases s with
  | none => rfl
  | some x => unfold World.cell? at h; split at h <;> simp at h
theorem weights_elem {e : TypeId} {l : List (DataW H)} {i : Nat} {d : DataW H} (hi : l[i]? = some d) : ∀ m ∈ d.weights P e, m ∈ DataW.weightsAll P e l := by
  induction l generalizing i with
  | nil => simp at hi
  | cons x xs ih =>
    intro m hm
    rw [DataW.weightsAll]
    cases i with
    | zero => simp at hi; subst hi; exact List.mem_append_left _ hm
    | succ i => exact List.mem_append_right _ (ih (by simpa using hi) m hm)
theorem open_rows {α : Type} {size t e : Nat} {fuel : Nat} {R : List Value → α → Prop} {v : Value} {x : DataW H × List MemPlace} (ht : P.underlying t = some (.slice e)) (hc : P.cellsOf e = size) (hs : 0 < size) (hby : 1 ≤ P.bytesOf e)
    (hel : ∀ (n : Nat) (cs : List Value) (y : DataW H × List MemPlace), n < fuel → cs.length = size → DataW.trod enc P W base sp held n e cs = some y → Light P e y.1 → ∃ a, R cs a)
    (h : DataW.trod enc P W base sp held fuel t [v] = some x) (hw : Light P t x.1) : ∃ l, RdS [] W size R v l := by
  rcases DataW.trod_slice ht h with ⟨h1, h2⟩ | ⟨a, len, cap, elems, rest, n, hf, h1, h2, hb, hl, hm, hlen, hget, -, -⟩
  · cases h1
    exact ⟨[], none, 0, 0, rfl, rfl, Nat.le_refl _, by unfold maxLen; omega, by omega, fun h => absurd h (by omega)⟩
  · cases h1
    have hwx : Light P t (.slice (elems.map (·.1)) (rest.map (·.1))) := by rw [h2] at hw; exact hw
    have hlen2 : len ≤ 140737488355328 := by
      have := hwx ((elems.length + rest.length) * P.bytesOf e) (by rw [DataW.weights, ht]; simp)
      have h3 : len * 1 ≤ (elems.length + rest.length) * P.bytesOf e := Nat.mul_le_mul (by omega) hby
      unfold reachBytes at this; omega
    have each : ∀ i, i < len → ∃ cs q, cs.length = size ∧ R cs q ∧ ∀ j, j < size → W.cell? ((a.add (i * size)).add j) = cs[j]? := by
      intro i hi
      have hg := hget i hi
      have hie : i < elems.length := by omega
      rw [List.getElem?_eq_getElem hie, Option.bind_eq_some_iff] at hg
      obtain ⟨cs, hcs, htr⟩ := hg
      rw [hc] at hcs
      obtain ⟨-, hcl, hcell⟩ := World.cells?_some hcs
      obtain ⟨q, hq⟩ := hel n cs _ (by omega) hcl htr (fun m hm' => by
        refine hwx m ?_
        rw [DataW.weights, ht]
        refine List.mem_cons_of_mem _ (List.mem_append_left _ (weights_elem (i := i) ?_ m hm'))
        rw [List.getElem?_map, List.getElem?_eq_getElem hie]; rfl)
      exact ⟨cs, q, hcl, hq, hcell⟩
    by_cases h0 : len = 0
    · subst h0
      exact ⟨[], some a, 0, cap, rfl, rfl, hl, hm, by omega, fun h => absurd h (by omega)⟩
    · have ha : a = ⟨a.block, a.off, none⟩ := by
        obtain ⟨cs, q, hcl, _, hcell⟩ := each 0 (by omega)
        have := hcell 0 (by omega)
        rw [List.getElem?_eq_getElem (by omega)] at this
        simp only [Nat.zero_mul, Addr.add_zero'] at this
        exact addr_none this
      let f : Fin len → α := fun i => Classical.choose (Classical.choose_spec (each i.1 i.2))
      have hf' : ∀ i : Fin len, ∃ cs : List Value, cs.length = size ∧ R cs (f i) ∧ ∀ j, j < size → W.cell? ((a.add (i.1 * size)).add j) = cs[j]? := fun i =>
        ⟨Classical.choose (each i.1 i.2), Classical.choose_spec (Classical.choose_spec (each i.1 i.2))⟩
      refine ⟨List.ofFn f, some a, len, cap, rfl, by simp, hl, hm, hlen2, fun _ => ⟨a.block, a.off, by rw [← ha], by simp, fun i x hx => ?_⟩⟩
      have hi : i < len := by have := (List.getElem?_eq_some_iff.1 hx).1; simpa using this
      have hx' : x = f ⟨i, hi⟩ := by
        rw [List.getElem?_eq_getElem (by simpa using hi)] at hx
        simp at hx; exact hx.symm
      obtain ⟨cs, hcl, hR, hcell⟩ := hf' ⟨i, hi⟩
      refine ⟨cs, hcl, fun j u hj => ?_, by rw [hx']; exact hR⟩
      have hjs : j < size := by have := (List.getElem?_eq_some_iff.1 hj).1; omega
      have := hcell j hjs
      rw [hj] at this
      rw [ha] at this
      rw [Addr.add_lit, Addr.add_lit] at this
      exact this
theorem weights_field {t : TypeId} {fs : Array Field} {xs : List (DataW H × List MemPlace)} {i : Nat} {f : Field} {y : DataW H × List MemPlace} (ht : P.underlying t = some (.struct fs)) (hw : Light P t (.agg (xs.map (·.1)))) (hf : fs[i]? = some f) (hy : xs[i]? = some y) : Light P f.type y.1 := fun m hm => by
  refine hw m ?_
  rw [DataW.weights, ht]
  refine DataW.weights_mem_each (j := i) (t := f.type) (d := y.1) ?_ ?_ m hm
  · rw [List.getElem?_map]; simp [hf]
  · rw [List.getElem?_map, hy]; rfl
theorem len3 {l : List Value} (h : l.length = 3) : ∃ a0 a1 a2, l = [a0, a1, a2] := by
  match l, h with
  | [a0, a1, a2], _ => exact ⟨a0, a1, a2, rfl⟩
theorem field_at {t : TypeId} {fs : Array Field} {cs : List Value} {xs : List (DataW H × List MemPlace)} {n : Nat} (i ty off : Nat) (hlen : xs.length = fs.size) (hget : ∀ (i : Nat) (f : Field), fs[i]? = some f → DataW.trod enc P W base sp held n f.type ((cs.drop f.offset).take (P.cellsOf f.type)) = xs[i]?) (ht : P.underlying t = some (.struct fs)) (hw : Light P t (.agg (xs.map (·.1)))) (hf : (fs[i]?).map (fun f => (f.type, f.offset)) = some (ty, off)) :
    ∃ y, DataW.trod enc P W base sp held n ty ((cs.drop off).take (P.cellsOf ty)) = some y ∧ Light P ty y.1 := by
  cases hfi : fs[i]? with
  | none => rw [hfi] at hf; cases hf
  | some f =>
    rw [hfi] at hf
    simp only [Option.map_some, Option.some.injEq, Prod.mk.injEq] at hf
    obtain ⟨rfl, rfl⟩ := hf
    have hi : i < xs.length := by rw [hlen]; exact (Array.getElem?_eq_some_iff.1 hfi).1
    exact ⟨xs[i], by rw [hget i f hfi, List.getElem?_eq_getElem hi], weights_field ht hw hfi (List.getElem?_eq_getElem hi)⟩
end
section
variable {H : Type} {enc : TypeId × Value → H} {W : World} {base : Nat} {sp : Nat → Bool} {held : Bool}
theorem cztint : Tryz.prog.cellsOf 3 = 1 := by kernel_rfl
theorem c3 : Tryz.prog.cellsOf 3 = 1 := by kernel_rfl
theorem cztrelyguardapiChoice : Tryz.prog.cellsOf 53 = 3 := by kernel_rfl
theorem open_choice {fuel : Nat} {cs : List Value} {x : DataW H × List MemPlace} (h : DataW.trod enc Tryz.prog W base sp held fuel 53 cs = some x) (hw : Light Tryz.prog 53 x.1) : ∃ c, RChoice cs c := by
  obtain ⟨xs, n, hf, hx, hl, hlen, hget⟩ := DataW.trod_struct Tryz.underlying53 h
  rw [hx] at hw
  rw [cztrelyguardapiChoice] at hl
  obtain ⟨y0, t0, -⟩ := field_at 0 3 0 hlen hget Tryz.underlying53 hw rfl
  obtain ⟨y1, t1, -⟩ := field_at 1 3 1 hlen hget Tryz.underlying53 hw rfl
  obtain ⟨y2, t2, -⟩ := field_at 2 3 2 hlen hget Tryz.underlying53 hw rfl
  simp only [cztint] at t0 t1 t2
  obtain ⟨a0, a1, a2, rfl⟩ := len3 hl
  simp only [List.drop_succ_cons, List.drop_zero, List.take_succ_cons, List.take_zero] at t0 t1 t2
  obtain ⟨m0, e0, -, f0⟩ := DataW.trod_int Tryz.underlying3 t0
  obtain ⟨m1, e1, -, f1⟩ := DataW.trod_int Tryz.underlying3 t1
  obtain ⟨m2, e2, -, f2⟩ := DataW.trod_int Tryz.underlying3 t2
  cases e0; cases e1; cases e2
  exact ⟨⟨m0, m1, m2⟩, rfl, i64_wf f0, i64_wf f1, i64_wf f2⟩
theorem bChoice : 1 ≤ Tryz.prog.bytesOf 53 := of_decide_eq_true (by kernel_rfl)
theorem open_choices {fuel : Nat} {v : Value} {x : DataW H × List MemPlace} (h : DataW.trod enc Tryz.prog W base sp held fuel 22 [v] = some x) (hw : Light Tryz.prog 22 x.1) : ∃ l, RdCh [] W v l :=
  open_rows Tryz.underlying22 cztrelyguardapiChoice (by omega) bChoice (fun n cs y _ _ hy hl => open_choice hy hl) h hw
theorem laid_at {W : World} : ∀ {l : List (String × DataW Unit)} {ps : List MemPlace}, DataW.LaidVars Tryz.prog W l ps → ∀ {i : Nat} {x : String × DataW Unit}, l[i]? = some x →
    ∃ g t cs fuel p, Tryz.prog.globalNamed x.1 = some g ∧ (Tryz.prog.globals[g]?).map (·.type) = some t ∧ W.var? Tryz.prog x.1 = some cs ∧ DataW.trod (fun _ => ()) Tryz.prog W 0 (fun _ => true) false fuel t cs.toList = some (x.2, p)
  | [], _, _, _, _, hi => by simp at hi
  | y :: l, ps, h, 0, x, hi => by
    obtain ⟨g0, t0, cs0, f0, p0, q0, hg0, ht0, hv0, hd0, -⟩ := h
    cases hi
    exact ⟨g0, t0, cs0, f0, p0, hg0, ht0, hv0, hd0⟩
  | y :: l, ps, h, i + 1, x, hi => by
    obtain ⟨g0, t0, cs0, f0, p0, q0, hg0, ht0, hv0, hd0, hr, -⟩ := h
    exact laid_at hr (by simpa using hi)
theorem gMasks : Tryz.prog.globalNamed ((Rows.scheduleTextRow.laid[3]?.map (·.1)).getD "") = some 1 := by kernel_rfl
theorem tMasks : (Tryz.prog.globals[1]?).map (·.type) = some 189 := by kernel_rfl
theorem cMasks : Tryz.prog.cellsOf 189 = 9 := by kernel_rfl
theorem masks_of_laid {W : World} (h : laidMetH Tryz.prog Rows.scheduleTextRow.laid W) : Masks [] W := by
  rw [MakeChecks.laidMetH_plain _ _ _ (by kernel_rfl)] at h
  obtain ⟨ps, hall, -⟩ := h
  obtain ⟨g0, t0, cs0, f0, p0, hg0, ht0, hv0, hd0⟩ := laid_at hall (i := 3) rfl
  obtain rfl := Option.some.inj (gMasks.symm.trans hg0)
  obtain rfl := Option.some.inj (tMasks.symm.trans ht0)
  obtain ⟨xs, m1, rfl, hx1, hlen, hn9, hel⟩ := DataW.trod_array Tryz.underlying189 hd0
  rw [cMasks] at hlen
  simp only [c3, Nat.mul_one] at hel
  refine ⟨by simp, fun i hi => ?_⟩
  have hcell := World.var?_cell hg0 hv0 i
  have hi9 : i < xs.length := by omega
  have he := hel i (by omega)
  rw [List.getElem?_eq_getElem hi9] at he
  obtain ⟨k, e1, e2, -⟩ := DataW.trod_int Tryz.underlying3 he
  have hil : i < cs0.toList.length := by omega
  have e1' : cs0.toList[i]? = some (.int .i64 k) := by
    have h1 : ((cs0.toList.drop i).take 1)[0]? = some (Value.int .i64 k) := by rw [e1]; rfl
    rw [List.getElem?_take, if_pos (by omega), List.getElem?_drop] at h1
    simpa using h1
  rw [hcell]
  have e3 : cs0[i]? = some (.int .i64 k) := by simpa using e1'
  rw [e3]
  have hx1 : (DataW.agg _ = DataW.agg _ ∧ _) := Prod.mk.inj hx1
  have hx1 := DataW.agg.inj hx1.1
  have e4 : (xs.map (·.1))[i]? = some (.lit (.int .i64 k)) := by rw [List.getElem?_map, List.getElem?_eq_getElem hi9, e2]; rfl
  rw [← hx1] at e4
  rcases (show i = 0 ∨ i = 1 ∨ i = 2 ∨ i = 3 ∨ i = 4 ∨ i = 5 ∨ i = 6 ∨ i = 7 ∨ i = 8 by omega) with rfl | rfl | rfl | rfl | rfl | rfl | rfl | rfl | rfl <;> (cases e4; rfl)
end
end Go.Proofs.YtgnbfmifjlnigaaGreatDoor
namespace Go.Proofs.YtgnbfmifjlnigaaGreatDoor
open Go.Fw Go.RowKit Go.ChangeShapes Go.WideShapes
theorem own : ownKnob Tryz.prog.godebug = none := by kernel_rfl
theorem laidOut : laidOutB Tryz.prog = true := by kernel_rfl
abbrev tableLaid : List (String × DataW Unit) := Rows.scheduleTextRow.laid
theorem door_met (os : Os) (args : Array Value) : laidMetH Tryz.prog tableLaid ((World.doorLaid Tryz.prog 400 os).forCall (fun _ _ => 0) ⟨#[], args, []⟩).memory :=
  laidMetH_of_parts3 (fuel := 8) (laidMet_of_run' 8 (by kernel_rfl) (by kernel_rfl)) (by kernel_rfl) (by kernel_rfl)
theorem args_kept {H : Type} {enc : TypeId × Value → H} {W W' : World} (hb : Below W.heap.size W W') : ∀ (ts : List TypeId), (∀ t ∈ ts, Tryz.prog.readableRec t = true ∧ t < Tryz.prog.types.size) → ∀ (vs : List Value) (ds : List (DataW H)) (p : List MemPlace),
    (∀ x ∈ p, x.block < W.heap.size) → DataW.TrodAll enc Tryz.prog W 0 (fun _ => true) true ts vs ds p → DataW.TrodAll enc Tryz.prog W' 0 (fun b => decide (b < W.heap.size)) true ts vs ds p := by
  intro ts
  induction ts with
  | nil =>
    intro _ vs ds p _ h
    cases vs <;> cases ds <;> first | exact h | exact h.elim
  | cons t ts ih =>
    intro ht vs ds p hp h
    cases vs with
    | nil => exact h.elim
    | cons v vs =>
      cases ds with
      | nil => exact h.elim
      | cons d ds =>
        obtain ⟨q, r, h1, h2, rfl⟩ := h
        obtain ⟨r1, r2⟩ := ht t (by simp)
        exact ⟨q, r, Below.trod laidOut r1 r2 h1 hb (fun x hx => hp x (List.mem_append_left _ hx)), ih (fun t ht' => ht t (by simp [ht'])) vs ds r (fun x hx => hp x (List.mem_append_right _ hx)) h2, rfl⟩
theorem post_true {H : Type} {enc : TypeId × Value → H} {fn : Func} {s : ChangeSpec} {W W' : World} {args : Array Value} {ds : List (DataW H)} {before : List MemPlace} (hs : s.vars = []) (hr : fn.resultTypes = #[4])
    (hts : ∀ t ∈ fn.params.toList, Tryz.prog.readableRec t = true ∧ t < Tryz.prog.types.size) (hW : DataW.Whole enc Tryz.prog fn.params.toList s.vars false W args.toList ds [] before)
    (e1 : (s.fn H (ds ++ [])).results = [.lit (.bool true)]) (e2 : (s.fn H (ds ++ [])).args = ds) (e3 : (s.fn H (ds ++ [])).vars = []) (hb : Below W.heap.size W W') :
    s.post enc Tryz.prog fn false true false false W args (.bool true) W' := by
  have hlt := hW.lt
  obtain ⟨p, q, hA, hV, hpq, hfz, hnd⟩ := id hW
  rw [hs] at hV
  obtain ⟨-, rfl⟩ := trodVars_none hV
  rw [List.append_nil] at hpq
  subst hpq
  refine ⟨ds, [], before, [], before, [], hW, ?_, ?_, ?_, hb.frame _, fun h => by cases h⟩
  · rw [e1, hr]; exact trodAll_mk1 (shut_bool Tryz.underlying4 true)
  · rw [e2]; exact args_kept hb _ hts _ _ _ hlt hA
  · rw [e3, hs]; rfl
theorem light_of {H : Type} {ts : List TypeId} {ds : List (DataW H)} (h : (DataW.weightsEach Tryz.prog ts ds).all (· ≤ reachBytes) = true) {j : Nat} {t : TypeId} {d : DataW H} (ht : ts[j]? = some t) (hd : ds[j]? = some d) : Light Tryz.prog t d := fun m hm => by
  have := List.all_eq_true.1 h m (DataW.weights_mem_each ht hd m hm)
  simpa using this
theorem calls_of_does {f : FuncId} {args : Array Value} {W : World} {R : Value → World → Prop} {Q : Ending → World → Prop} (h : Does Tryz.prog f args W R) (hQ : ∀ v W', R v W' → Q (.returned v) W') : Calls Tryz.prog f args W Q :=
  Calls.mono h fun _ _ ⟨v, he, hv⟩ => he ▸ hQ v _ hv
end Go.Proofs.YtgnbfmifjlnigaaGreatDoor
namespace Go.Fw
open Go.RowKit
section
variable {P : Program} {r : Option Nat} {N : Nat} {l : List Oper} {D : List Deferred} {C : World → Prop} {K : Env → World → Prop}
def FL (P : Program) (N : Nat) (l : List Oper) (C : World → Prop) (K : Env → World → Prop) (lo : Nat) : List Nat → Env → List Nat → (World → Prop) → Prop
  | [], e, _, Φ => ∀ w, C w → Φ w → K e w
  | i :: rest, e, gs, Φ => ∃ o d, l[i]? = some o ∧ o.dst = some d ∧ d < N ∧
      ((∃ v, PV P l C o e v ∧ FL P N l C K lo rest (upd e d v) gs Φ) ∨
       (∃ (mk : Nat → Value) (t : TypeId) (cs : List Value), wantedE l.toArray e o = true ∧
          (∀ w, C w → ∃ w', (execOp (ev e) o).run P w = .ok (.value (mk w.heap.size)) w' ∧ C w' ∧ Keep [] w w' ∧ w'.heap.size = w.heap.size + 1 ∧ hasBlk w' (w.heap.size, t, cs)) ∧
          ∀ g, lo ≤ g → g ∉ gs → FL P N l C K lo rest (upd e d (mk g)) (g :: gs) (fun w => Φ w ∧ hasBlk w (g, t, cs))))
theorem FL.mono {lo lo' : Nat} : ∀ (R : List Nat) (e : Env) (gs gs' : List Nat) (Φ Φ' : World → Prop), (∀ g, lo' ≤ g → g ∉ gs' → lo ≤ g ∧ g ∉ gs) → (∀ w, Φ' w → Φ w) → FL P N l C K lo R e gs Φ → FL P N l C K lo' R e gs' Φ'
  | [], e, gs, gs', Φ, Φ', _, hΦ, h => fun w hC hw => h w hC (hΦ w hw)
  | i :: R, e, gs, gs', Φ, Φ', hg, hΦ, h => by
    obtain ⟨o, d, h1, h2, h3, h4⟩ := h
    refine ⟨o, d, h1, h2, h3, ?_⟩
    rcases h4 with ⟨v, h5, h6⟩ | ⟨mk, t, cs, h5, h6, h7⟩
    · exact .inl ⟨v, h5, FL.mono R _ gs gs' Φ Φ' hg hΦ h6⟩
    · refine .inr ⟨mk, t, cs, h5, h6, fun g h8 h9 => ?_⟩
      refine FL.mono R _ (g :: gs) (g :: gs') _ _ (fun x hx hn => ?_) (fun w hw => ⟨hΦ w hw.1, hw.2⟩) (h7 g (hg g h8 h9).1 (hg g h8 h9).2)
      simp only [List.mem_cons, not_or] at hn ⊢
      exact ⟨(hg x hx hn.2).1, hn.1, (hg x hx hn.2).2⟩
def szOf : Result Next → Nat
  | .ok _ w => w.heap.size
  | _ => 0
def szE (P : Program) (l : List Oper) (o : Oper) (e : Env) (w : World) : Nat := bif wantedE l.toArray e o then szOf ((execOp (ev e) o).run P w) else 0
theorem szE_congr {o : Oper} {e e' : Env} {w : World} (hs : Op.isSelect o.op = false) (h : ∀ s ∈ Oper.looksAt l.toArray o, e s = e' s) : szE P l o e w = szE P l o e' w := by
  unfold szE; rw [wantedE_congr h, exec_congr hs h]
theorem fresh_nat (a b : Nat) (gs : List Nat) : ∃ g, a ≤ g ∧ b ≤ g ∧ g ∉ gs := by
  have : ∀ gs : List Nat, ∃ m, ∀ g ∈ gs, g < m := by
    intro gs
    induction gs with
    | nil => exact ⟨0, by simp⟩
    | cons x gs ih =>
      obtain ⟨m, hm⟩ := ih
      refine ⟨max m (x + 1), fun g hg => ?_⟩
      rcases List.mem_cons.1 hg with rfl | h
      · omega
      · have := hm g h; omega
  obtain ⟨m, hm⟩ := this gs
  exact ⟨max m (max a b), by omega, by omega, fun h => by have := hm _ h; omega⟩
def FirstOk (P : Program) (N : Nat) (l : List Oper) (C : World → Prop) (K : Env → World → Prop) (lo : Nat) (R : List Nat) (o : Oper) (d : Nat) (e : Env) (gs : List Nat) (Φ : World → Prop) (w : World) : Prop :=
  (wantedE l.toArray e o = true ∧ ∃ v w', (execOp (ev e) o).run P w = .ok (.value v) w' ∧ C w' ∧ Keep [] w w' ∧ FL P N l C K w'.heap.size R (upd e d v) gs (fun w1 => Φ w1 ∧ Keep [] w' w1)) ∨
  (wantedE l.toArray e o = false ∧ FL P N l C K lo R (upd e d undef) gs Φ)
theorem FL.first (hpl : plainOps l = true) {i : Nat} {post : List Nat} {lo : Nat} {w : World} (hC : C w) (hlo : lo ≤ w.heap.size) : ∀ (pre : List Nat) (e : Env) (gs : List Nat) (Φ : World → Prop), (∀ j ∈ pre, indep l (fun _ => true) j i = true) →
    (∀ o, l[i]? = some o → ∀ g ∈ gs, szE P l o e w ≤ g) → FL P N l C K lo (pre ++ i :: post) e gs Φ →
    ∃ o d, l[i]? = some o ∧ o.dst = some d ∧ d < N ∧ FirstOk P N l C K lo (pre ++ post) o d e gs Φ w := by
  intro pre
  induction pre with
  | nil =>
    intro e gs Φ _ hsz h
    obtain ⟨o, d, ho, hd, hN, h⟩ := h
    refine ⟨o, d, ho, hd, hN, ?_⟩
    rcases h with ⟨v, ⟨h1, h2⟩ | ⟨h1, rfl⟩, h3⟩ | ⟨mk, t, cs, h1, h2, h3⟩
    · exact .inl ⟨h1, v, w, h2 w hC, hC, Keep.refl _ _, FL.mono _ _ gs gs Φ _ (fun g hg hn => ⟨by omega, hn⟩) (fun _ hw => hw.1) h3⟩
    · exact .inr ⟨h1, h3⟩
    · obtain ⟨w', h4, h5, h6, h7, h8⟩ := h2 w hC
      refine .inl ⟨h1, _, w', h4, h5, h6, ?_⟩
      have hs := hsz o ho
      unfold szE at hs
      rw [h1, h4] at hs
      refine FL.mono _ _ (w.heap.size :: gs) gs _ _ (fun g hg hn => ?_) (fun w1 hw => ⟨hw.1, keep_hasBlk hw.2 h8⟩) (h3 w.heap.size hlo (fun hm => by have : w'.heap.size ≤ w.heap.size := hs _ hm; omega))
      simp only [List.mem_cons, not_or]
      exact ⟨by omega, by omega, hn⟩
  | cons q pre ih =>
    intro e gs Φ hind hsz h
    obtain ⟨p, c, hp, hc, hcN, h⟩ := h
    have hq := hind q (by simp)
    have hind' : ∀ j ∈ pre, indep l (fun _ => true) j i = true := fun j hj => hind j (by simp [hj])
    have hnone : ∀ {o : Oper} {d : Nat} (u : Value), l[i]? = some o → o.dst = some d → (∀ s ∈ Oper.looksAt l.toArray o, upd e c u s = e s) ∧ c ≠ d ∧ d ∉ Oper.looksAt l.toArray p := fun {o d} u ho hd => by
      obtain ⟨_, hcd, hdp, hco⟩ := indep_spec hq hp ho hc hd
      exact ⟨fun s hs => upd_agree hco hs, hcd, hdp⟩
    rcases h with ⟨u, hu, h⟩ | ⟨mk, t, cs, h1, h2, h3⟩
    · obtain ⟨o, d, ho, hd, hN, hF⟩ := ih (upd e c u) gs Φ hind' (fun o ho g hg => by
        cases hd : o.dst with
        | none =>
          exfalso
          unfold indep at hq
          simp [hp, ho, hc, hd] at hq
        | some d => rw [szE_congr (plain_at hpl ho).1 (hnone u ho hd).1]; exact hsz o ho g hg) h
      obtain ⟨ha, hcd, hdp⟩ := hnone u ho hd
      refine ⟨o, d, ho, hd, hN, ?_⟩
      unfold FirstOk at hF ⊢
      rw [wantedE_congr ha, exec_congr (plain_at hpl ho).1 ha] at hF
      rcases hF with ⟨hw, v, w', h4, h5, h6, h7⟩ | ⟨hw, h7⟩
      · refine .inl ⟨hw, v, w', h4, h5, h6, p, c, hp, hc, hcN, .inl ⟨u, hu.congr (plain_at hpl hp).1 (fun s hs => (upd_agree hdp hs).symm), ?_⟩⟩
        rw [← upd_comm _ _ _ hcd]; exact h7
      · refine .inr ⟨hw, p, c, hp, hc, hcN, .inl ⟨u, hu.congr (plain_at hpl hp).1 (fun s hs => (upd_agree hdp hs).symm), ?_⟩⟩
        rw [← upd_comm _ _ _ hcd]; exact h7
    · have key : ∀ g, lo ≤ g → g ∉ gs → (∀ o, l[i]? = some o → szE P l o e w ≤ g) → ∃ o d, l[i]? = some o ∧ o.dst = some d ∧ d < N ∧ FirstOk P N l C K lo (pre ++ post) o d (upd e c (mk g)) (g :: gs) (fun w => Φ w ∧ hasBlk w (g, t, cs)) w := fun g hg hn hs => by
        refine ih (upd e c (mk g)) (g :: gs) _ hind' (fun o ho x hx => ?_) (h3 g hg hn)
        cases hd : o.dst with
        | none =>
          exfalso
          unfold indep at hq
          simp [hp, ho, hc, hd] at hq
        | some d =>
          rw [szE_congr (plain_at hpl ho).1 (hnone (mk g) ho hd).1]
          rcases List.mem_cons.1 hx with rfl | hx
          · exact hs o ho
          · exact hsz o ho x hx
      have h4 : ∃ o d, l[i]? = some o ∧ o.dst = some d ∧ d < N := by
        cases ho : l[i]? with
        | none => unfold indep at hq; simp [ho] at hq
        | some o =>
          obtain ⟨g0, hg0, hb0, hn0⟩ := fresh_nat lo (szE P l o e w) gs
          obtain ⟨o', d, ho', hd, hN, _⟩ := key g0 hg0 hn0 (fun o' ho' => by rw [ho] at ho'; cases ho'; exact hb0)
          rw [ho] at ho'; cases ho'
          exact ⟨o, d, rfl, hd, hN⟩
      obtain ⟨o, d, ho, hd, hN⟩ := h4
      have key2 : ∀ g, lo ≤ g → g ∉ gs → szE P l o e w ≤ g → FirstOk P N l C K lo (pre ++ post) o d (upd e c (mk g)) (g :: gs) (fun w => Φ w ∧ hasBlk w (g, t, cs)) w := fun g hg hn hs => by
        obtain ⟨o', d', ho', hd', _, hF⟩ := key g hg hn (fun o' ho' => by rw [ho] at ho'; cases ho'; exact hs)
        obtain rfl : o' = o := Option.some.inj (ho'.symm.trans ho)
        obtain rfl : d' = d := Option.some.inj (hd'.symm.trans hd)
        exact hF
      refine ⟨o, d, ho, hd, hN, ?_⟩
      obtain ⟨g0, hg0, hb0, hn0⟩ := fresh_nat lo (szE P l o e w) gs
      have hcd := (hnone .nilFunc ho hd).2.1
      have hdp := (hnone .nilFunc ho hd).2.2
      have ha : ∀ u, ∀ s ∈ Oper.looksAt l.toArray o, upd e c u s = e s := fun u => (hnone u ho hd).1
      have hpa : ∀ v, ∀ s ∈ Oper.looksAt l.toArray p, upd e d v s = e s := fun v s hs => upd_agree hdp hs
      have hF0 := key2 g0 hg0 hn0 hb0
      unfold FirstOk at hF0 ⊢
      rw [wantedE_congr (ha _), exec_congr (plain_at hpl ho).1 (ha _)] at hF0
      rcases hF0 with ⟨hw, v, w', h4, h5, h6, -⟩ | ⟨hw, -⟩
      · have hsz' : szE P l o e w = w'.heap.size := by unfold szE; rw [hw, h4]; rfl
        refine .inl ⟨hw, v, w', h4, h5, h6, p, c, hp, hc, hcN, .inr ⟨mk, t, cs, by rw [wantedE_congr (hpa v)]; exact h1, by rw [exec_congr (plain_at hpl hp).1 (hpa v)]; exact h2, fun g hg hn => ?_⟩⟩
        have hF := key2 g (by have := h6.size; omega) hn (by omega)
        unfold FirstOk at hF
        rw [wantedE_congr (ha _), exec_congr (plain_at hpl ho).1 (ha _)] at hF
        rcases hF with ⟨_, v', w'', h4', _, _, h7⟩ | ⟨hw', _⟩
        · rw [h4] at h4'; cases h4'
          rw [← upd_comm _ _ _ hcd]
          exact FL.mono _ _ (g :: gs) (g :: gs) _ _ (fun x hx hn => ⟨hx, hn⟩) (fun w1 hw1 => ⟨⟨hw1.1.1, hw1.2⟩, hw1.1.2⟩) h7
        · rw [hw] at hw'; cases hw'
      · refine .inr ⟨hw, p, c, hp, hc, hcN, .inr ⟨mk, t, cs, by rw [wantedE_congr (hpa _)]; exact h1, by rw [exec_congr (plain_at hpl hp).1 (hpa _)]; exact h2, fun g hg hn => ?_⟩⟩
        have hsz' : szE P l o e w = 0 := by unfold szE; rw [hw]; rfl
        have hF := key2 g hg hn (by omega)
        unfold FirstOk at hF
        rw [wantedE_congr (ha _), exec_congr (plain_at hpl ho).1 (ha _)] at hF
        rcases hF with ⟨hw', _⟩ | ⟨_, h7⟩
        · rw [hw] at hw'; cases hw'
        · rw [← upd_comm _ _ _ hcd]
          exact h7
theorem W_flow {id : Nat} {n t : List Deferred → Env → World → Prop} {b : Nat → List Deferred → Env → World → Prop} {e : Env} {w : World} (hm : P.follows .mixedOrders = true) (ix : List Nat)
    (m : Nat) (hok : mixOkS l (fun _ => true) m = true) (hix : (List.range m == ix) = true) (C : World → Prop) (hC : C w.drew) (ol : Oper) (hol : l[m]? = some ol)
    (h : FL P N l C (fun e w => WL P r N l.toArray [ol] (fun D' e' w' => D' = D ∧ n D e' w') D e w) w.heap.size ix e [] (fun _ => True)) : W P r N (.region id l.toArray true) ⟨n, b, t⟩ D e w := by
  obtain rfl : List.range m = ix := eq_of_beq hix
  generalize hKd : (fun (e : Env) (w : World) => WL P r N l.toArray [ol] (fun D' e' w' => D' = D ∧ n D e' w') D e w) = K' at h
  unfold mixOkS at hok
  simp only [Bool.and_eq_true, decide_eq_true_eq] at hok
  obtain ⟨⟨⟨⟨hpl, hac⟩, hin⟩, hlast⟩, hm1⟩ := hok
  have hlw : ∀ j, j < m → j ∈ waits l m := fun j hj => by
    have := List.all_eq_true.1 hlast j (List.mem_range.2 hj)
    simpa using this
  refine W_any hm hac (fun f e w => (∀ i, f i = true → ∀ j ∈ predsAt l i, f j = true) ∧ ((f m = false ∧ C w ∧ ∃ lo Φ, lo ≤ w.heap.size ∧ (∀ w w', Φ w → Keep [] w w' → Φ w') ∧ Φ w ∧ FL P N l C K' lo (remTo m f) e [] Φ) ∨ (f m = true ∧ n D e w))) ⟨by simp, .inl ⟨rfl, hC, w.heap.size, fun _ => True, Nat.le_refl _, fun _ _ _ _ => trivial, trivial, ?_⟩⟩ ?_ ?_
  · have : remTo m (fun _ => false) = List.range m := by unfold remTo; simp
    rw [this]; exact h
  · rintro f e w i o ⟨hcl, hM⟩ ho hfi hpr
    have hil0 : i < l.length := (List.getElem?_eq_some_iff.1 ho).1
    have hcl' : ∀ k, (f k || k == i) = true → ∀ j ∈ predsAt l k, (f j || j == i) = true := by
      intro k hk j hj
      simp only [Bool.or_eq_true, beq_iff_eq] at hk ⊢
      rcases hk with hk | rfl
      · exact .inl (hcl k hk j hj)
      · exact .inl (hpr j hj)
    rcases hM with ⟨hfm, hCw, lo, Φ, hlo, hst, hΦ, hM⟩ | ⟨hfm, -⟩
    rotate_left
    · have := closure_f hcl l.length (predsAt l m) (hcl m hfm) i (hlw i (by
        rcases Nat.lt_or_ge i m with h | h
        · exact h
        · have : i = m := by omega
          subst this; rw [hfi] at hfm; cases hfm))
      rw [hfi] at this; cases this
    by_cases him : i = m
    · subst him
      obtain rfl : ol = o := Option.some.inj (hol.symm.trans ho)
      have hall : ∀ j, j < i → f j = true := fun j hj => closure_f hcl _ _ hpr j (hlw j hj)
      have hrem : remTo i f = [] := by
        unfold remTo; rw [List.filter_eq_nil_iff]; intro j hj; simp [hall j (List.mem_range.1 hj)]
      rw [hrem] at hM
      have h4 := hM w hCw hΦ
      rw [← hKd] at h4
      clear hM h hKd
      unfold WL at *
      refine fun a Q hs hD he hK => h4 a Q hs hD he (fun a' w' hs' hh => hK a' w' hs' ?_)
      exact ⟨hh.1, hcl', .inr ⟨by simp, hh.2⟩⟩
    have hil : i < m := by omega
    have hfm' : (f m || m == i) = false := by simp [hfm]; omega
    obtain ⟨pre, post, h1, h2, h3⟩ := rem_splitTo (m := m) f hil hfi
    rw [h1] at hM
    have hwt : ∀ j ∈ waits l i, f j = true := closure_f hcl _ _ hpr
    obtain ⟨o', d, ho', hd, hN, h4⟩ := FL.first hpl hCw hlo pre e [] Φ (fun j hj => by
      have := List.all_eq_true.1 (List.all_eq_true.1 hin i (List.mem_range.2 hil)) j (List.mem_range.2 (h3 j hj).1)
      simp only [Bool.or_eq_true, List.contains_eq_mem, decide_eq_true_eq] at this
      rcases this with h | h
      · have := hwt j h; rw [(h3 j hj).2] at this; cases this
      · exact h) (by simp) hM
    obtain rfl : o' = o := Option.some.inj (ho'.symm.trans ho)
    rcases h4 with ⟨hw, v, w', hv, hC', hk', h4⟩ | ⟨hw, h4⟩
    · unfold WL; intro a Q hs hD he hK
      simp only [wpListIn]
      have hw' : Region.wanted o' (yielded l.toArray a.tmps) = true := by rw [wanted_env, he]; exact hw
      simp only [hw', if_true]
      refine ⟨about_trivial _ _ _, ?_⟩
      rw [Oper.semAt_eq _ _ _ (plain_at hpl ho).2, eval_eq, he, hv, Oper.uponIn_value]
      refine hK _ _ (by simp [Act.put, hd, hs]) ⟨by simp [Act.put, hd, hD], ?_⟩
      rw [hd, envOf_put v (by rw [hs]; exact hN), he]
      exact ⟨hcl', .inl ⟨hfm', hC', w'.heap.size, (fun w1 => Φ w1 ∧ Keep [] w' w1), Nat.le_refl _, fun w1 w2 h5 h6 => ⟨hst _ _ h5.1 h6, h5.2.trans h6⟩, ⟨hst _ _ hΦ hk', Keep.refl _ _⟩, by rw [h2]; exact h4⟩⟩
    · unfold WL; intro a Q hs hD he hK
      simp only [wpListIn]
      have hw' : Region.wanted o' (yielded l.toArray a.tmps) = false := by rw [wanted_env, he]; exact hw
      simp only [hw']
      refine ⟨about_trivial _ _ _, ?_⟩
      refine hK _ _ (by simp [Act.put, hd, hs]) ⟨by simp [Act.put, hd, hD], ?_⟩
      rw [hd, envOf_put undef (by rw [hs]; exact hN), he]
      exact ⟨hcl', .inl ⟨hfm', hCw, lo, Φ, hlo, hst, hΦ, by rw [h2]; exact h4⟩⟩
  · rintro f e w ⟨hcl, hM⟩ hall
    rcases hM with ⟨hfm, -⟩ | ⟨-, hM⟩
    · have := hall m (by omega); rw [hfm] at this; cases this
    · exact hM
variable {lo : Nat} {gs : List Nat} {Φ : World → Prop} {e : Env} {w w0 : World} {L : List Ent} {M : List Nat}
theorem FL_nil (h : ∀ w, C w → Φ w → K e w) : FL P N l C K lo [] e gs Φ := h
theorem FL_q {i : Nat} {rest : List Nat} {o : Oper} (ho : l[i]? = some o) (hv : valOp o.op = true) (h : QL P N l.toArray C [o] (fun e' => FL P N l C K lo rest e' gs Φ) e) : FL P N l C K lo (i :: rest) e gs Φ := by
  unfold QL at h
  obtain ⟨pa, hl, hq, hk⟩ := h
  obtain ⟨d, v, h1, h2, h3, h4⟩ := hq 0 o rfl
  obtain rfl : pa = [(d, v)] := by
    match pa, hl, h1 with
    | [x], _, h1 => simpa using h1
  refine ⟨o, d, ho, h2, h3, .inl ⟨v, ?_, hk⟩⟩
  rcases h4 with ⟨h5, h6⟩ | h5
  · refine .inl ⟨h5, fun w hw => ?_⟩
    rcases h6 w hw with h7 | ⟨f, args, h7, _⟩
    · exact h7
    · obtain ⟨v', hv'⟩ := valOp_value hv h7; cases hv'
  · exact .inr h5
theorem FL_len {i d : Nat} {rest : List Nat} {x : Operand} {ty size n c : Nat} {t : TypeId} {p : String} {af : Array Edge} {A : Option Addr} (ho : l[i]? = some ⟨some d, .call { callee := .builtin .len, args := #[x], argTypes := #[ty] }, t, p, af, none⟩) (hT : SlT P ty size) (hx : ev e x = .slice A n c) (hd : Nat.ble (d + 1) N = true)
    (h : FL P N l C K lo rest (upd e d (.int .i64 n)) gs Φ) : FL P N l C K lo (i :: rest) e gs Φ := by
  obtain ⟨el, hu, _⟩ := hT
  exact ⟨_, d, ho, rfl, Nat.le_of_ble_eq_true hd, .inl ⟨_, .inl ⟨rfl, fun w _ => by simp [execOp, resolve, invoke, builtin, Builtin.len_, hx, run_underlying hu, goInt]⟩, h⟩⟩
theorem FL_new {i d t : Nat} {rest : List Nat} {o : Oper} {mk : Nat → Value} {cs : List Value} (ho : l[i]? = some o) (hd : o.dst = some d) (hN : Nat.ble (d + 1) N = true) (hw : wantedE l.toArray e o = true)
    (hrun : ∀ w1, Cl M w0 w L w1 → (execOp (ev e) o).run P w1 = .ok (.value (mk w1.heap.size)) (w1.alloc (.cells cs.toArray t (0, 0))))
    (h : ∀ g, lo ≤ g → g ∉ gs → FL P N l (Cl M w0 w L) K lo rest (upd e d (mk g)) (g :: gs) (fun w => Φ w ∧ hasBlk w (g, t, cs))) : FL P N l (Cl M w0 w L) K lo (i :: rest) e gs Φ :=
  ⟨o, d, ho, hd, Nat.le_of_ble_eq_true hN, .inr ⟨mk, t, cs, hw, fun w1 hC => ⟨_, hrun w1 hC, Cl.alloc _ _ hC, keep_alloc _ _ _, by simp, by unfold hasBlk; show (w1.heap.push _)[w1.heap.size]? = _; simp⟩, h⟩⟩
theorem FL_alloc {i d el : Nat} {t : TypeId} {p : String} {af : Array Edge} {gd : Option (Nat × Bool)} {z : Value} {cs : List Value} {rest : List Nat}
    (ho : l[i]? = some ⟨some d, .alloc el, t, p, af, gd⟩) (hN : Nat.ble (d + 1) N = true) (hw : wantedE l.toArray e ⟨some d, .alloc el, t, p, af, gd⟩ = true) (hz : ∀ w, (zeroValue el).run P w = .ok z w) (hcs : z.cells.toList = cs)
    (h : ∀ g, lo ≤ g → g ∉ gs → FL P N l (Cl M w0 w L) K lo rest (upd e d (.pointer (some ⟨g, 0, none⟩))) (g :: gs) (fun w => Φ w ∧ hasBlk w (g, el, cs))) : FL P N l (Cl M w0 w L) K lo (i :: rest) e gs Φ := by
  refine FL_new (mk := fun g => .pointer (some ⟨g, 0, none⟩)) ho rfl hN hw (fun w1 _ => ?_) h
  subst hcs
  simp [execOp, Instr.alloc, newVar, newRow, hz]
theorem FL_make {i d : Nat} {t : TypeId} {p : String} {af : Array Edge} {gd : Option (Nat × Bool)} {x y : Operand} {rest : List Nat}
    {ty el bytes n c : Nat} {z : Value} {kl kc : IntKind} (ho : l[i]? = some ⟨some d, .makeSlice ty x y, t, p, af, gd⟩) (hN : Nat.ble (d + 1) N = true) (hw : wantedE l.toArray e ⟨some d, .makeSlice ty x y, t, p, af, gd⟩ = true)
    (hS : SlZ P ty el 1 z bytes) (hx : ev e x = .int kl (n : Int)) (hy : ev e y = .int kc (c : Int)) (hnc : n ≤ c) (hb : bytes * c ≤ 140737488355328) (hc : c ≤ 140737488355328)
    (hz1 : z.cells = #[z])
    (h : ∀ g, lo ≤ g → g ∉ gs → FL P N l (Cl M w0 w L) K lo rest (upd e d (.slice (some ⟨g, 0, none⟩) n c)) (g :: gs) (fun w => Φ w ∧ hasBlk w (g, el, List.replicate c z))) : FL P N l (Cl M w0 w L) K lo (i :: rest) e gs Φ := by
  obtain ⟨ii, hi, hz, hsz, hby⟩ := hS.parts
  have hbb : (ii.bytes : Int) * (c : Int) ≤ 281474976710656 := by
    have : ((bytes * c : Nat) : Int) ≤ 281474976710656 := by omega
    rw [hby]; rwa [Int.natCast_mul] at this
  refine FL_new (mk := fun g => .slice (some ⟨g, 0, none⟩) n c) (t := el) (cs := List.replicate c z) ho rfl hN hw (fun w1 _ => ?_) h
  have hr := run_make (P := P) w1 ty el ii z hS.und hi hz kl kc n c (by omega) (by omega) hbb (by omega)
  have hm : madeCells z.cells (c * ii.size) = (List.replicate c z).toArray := by
    rw [hz1, hsz, Nat.mul_one]
    apply Array.ext
    · simp [madeCells]
    · intro j h1 h2
      simp [madeCells, Nat.mod_one]
  simp only [Int.toNat_natCast, hm] at hr
  simp only [execOp, hx, hy, Sem.run_bind, hr, Result.andThen_ok, Sem.run_pure]
end
end Go.Fw
namespace Go.Fw
open Go.RowKit
section
variable {α : Type}
def fillTo (l : List α) (z : α) (k : Nat) : List α := l.take k ++ List.replicate (l.length - k) z
theorem fillTo_zero (l : List α) (z : α) : fillTo l z 0 = List.replicate l.length z := by simp [fillTo]
theorem fillTo_all (l : List α) (z : α) {k : Nat} (h : l.length ≤ k) : fillTo l z k = l := by
  unfold fillTo; rw [List.take_of_length_le h, Nat.sub_eq_zero_of_le h]; simp
@[simp] theorem fillTo_length (l : List α) (z : α) (k : Nat) : (fillTo l z k).length = l.length := by
  unfold fillTo; simp; omega
theorem fillTo_set {l : List α} {z v : α} {k i : Nat} (h : l[k]? = some v) (hi : i = k) : (fillTo l z k).set i v = fillTo l z (k + 1) := by
  subst hi
  obtain ⟨hlt, rfl⟩ := List.getElem?_eq_some_iff.1 h
  unfold fillTo
  rw [List.set_append_right _ _ (by simp; omega)]
  have h1 : l.length - i = (l.length - (i + 1)) + 1 := by omega
  rw [h1, List.replicate_succ]
  simp only [List.length_take, Nat.min_eq_left (Nat.le_of_lt hlt), Nat.sub_self, List.set_cons_zero]
  rw [take_some h, List.append_assoc]
  rfl
theorem fillTo_same {l : List α} {z : α} {k : Nat} (h : l[k]? = some z) : fillTo l z k = fillTo l z (k + 1) := by
  obtain ⟨hlt, _⟩ := List.getElem?_eq_some_iff.1 h
  unfold fillTo
  have h1 : l.length - k = (l.length - (k + 1)) + 1 := by omega
  rw [h1, List.replicate_succ, take_some h]
  simp
end
theorem St.setEnt {M : List Nat} {w0 w : World} {L : List Ent} (S : St M w0 w L) (j : Nat) {G : Option Nat} {t : TypeId} {cs cs' : List Value} (hj : L[j]? = some (G, t, cs)) (h : cs = cs') : St M w0 w (L.set j (G, t, cs')) := by
  subst h
  have : L.set j (G, t, cs) = L := by
    obtain ⟨hlt, he⟩ := List.getElem?_eq_some_iff.1 hj
    rw [← he]; simp
  rw [this]; exact S
theorem St.rdInts {M M' : List Nat} {w0 w : World} {L : List Ent} (S : St M' w0 w L) (j : Nat) {g t n : Nat} {l : List Int} (hj : L[j]? = some (some g, t, l.map (Value.int .i64))) (hg : g ∉ M) (hn : n = l.length) (hbig : n ≤ 140737488355328) (hl : ∀ x ∈ l, i64 x) : RdI M w (.slice (some ⟨g, 0, none⟩) n n) l :=
  S.rd1 hj hg hn hbig fun i x hi => ⟨.int .i64 x, by simp [hi], rfl, hl x (List.mem_of_getElem? hi)⟩
theorem rdS_nil {α : Type} {M : List Nat} {w : World} {size : Nat} {R : List Value → α → Prop} : RdS M w size R (.slice none 0 0) [] := ⟨none, 0, 0, rfl, rfl, Nat.le_refl _, by unfold maxLen; omega, by omega, fun h => absurd h (by omega)⟩
theorem St.rdBufs {M M' : List Nat} {w0 w : World} {L : List Ent} (S : St M' w0 w L) (j : Nat) {g t n : Nat} {l : List (List EntryD)} (hj : L[j]? = some (some g, t, List.replicate n (.slice none 0 0))) (hg : g ∉ M) (hn : n = l.length) (hbig : n ≤ 140737488355328) (hl : ∀ b ∈ l, b = []) : RdBs M w (.slice (some ⟨g, 0, none⟩) n n) l :=
  S.rd1 hj hg hn hbig fun i x hi => by
    obtain rfl := hl x (List.mem_of_getElem? hi)
    have := (List.getElem?_eq_some_iff.1 hi).1
    exact ⟨.slice none 0 0, by rw [List.getElem?_replicate, if_pos (by omega)], _, rfl, rdS_nil⟩
@[simp] theorem startC_mem_len (p : ProgD) : (startC p).mem.length = p.cells.length := by simp [startC]
@[simp] theorem startC_at_len (p : ProgD) : (startC p).at_.length = p.threads.length := by simp [startC]
theorem mem_i64 {p : ProgD} (hp : ProgOK p) {m : List Int} (h : MemOK p m) : ∀ x ∈ m, i64 x := fun x hx => by
  obtain ⟨i, hi, rfl⟩ := List.getElem_of_mem hx
  have := h.vals i _ (List.getElem?_eq_getElem hi)
  have := pow2_w hp i
  unfold i64; omega
theorem at_i64 {p : ProgD} (hp : ProgOK p) {c : ConfD} (h : FitC p c) : ∀ x ∈ c.at_, i64 x := fun x hx => by
  have := (nums_small hp h).2.1 x hx
  unfold i64; omega
end Go.Fw
namespace Go.Proofs.YtgnbfmifjlnigaaGreatDoor
open Go.Fw Go.RowKit
theorem machValid_fn (p : ProgD) (M : List Nat) (w0 : World) (cs : List Value) (hI : InP p M w0 cs) :
    Does Tryz.prog 35 #[.agg cs.toArray] w0 fun v w' => v = .bool true ∧ Below w0.heap.size w0 w' := by
  obtain ⟨Ac, nc, cc, Am, nm, cm, Al, nl, cl, At, nt, ct, rfl, hC, hMo, hLk, hTh, hnc, hnm, hnl, hnt, bc, bm, bl, bt⟩ := hI.rd.open_
  have S := St.refl w0
  refine Does_enter Tryz.func35 rfl Tryz.ntmps35 rfl ?_
  refine W_seq ?_
  refine W_region ?_
  refine o_boxa S (by conv => lhs; whnf) rfl ?_
  intro g1 w1 S1 X1 G1
  refine o_assign (v := .bool _) rfl rfl ?_
  refine WL_nil ?_
  refine W_seq ?_
  refine W_region ?_
  first | refine o_loadN many_36 rfl (S1.cells 0 rfl) rfl rfl ?_
  refine o_callr S1 has_33 rfl rfl (validP_fn p M _ _ (hI.keep (S1.keep0 M)).rd hI.ok (hI.keep (S1.keep0 M)).msk (hI.keep (S1.keep0 M)).lt) ?_
  intro w8 S8 X8
  refine o_move (by conv => lhs; whnf) rfl ?_
  refine o_extract rfl rfl rfl ?_
  refine o_extract rfl rfl rfl ?_
  refine o_extract rfl rfl rfl ?_
  refine o_assign (v := .int .i64 _) rfl rfl ?_
  refine o_assign (v := .int .i64 _) rfl rfl ?_
  refine o_assign (v := .int .i64 _) rfl rfl ?_
  refine WL_nil ?_
  refine W_seq ?_
  refine W_region ?_
  refine o_move (v := .int .i64 _) rfl rfl ?_
  refine o_eql rfl rfl rfl (fun h13 => ?_) (fun h13 => ?_)
  · refine o_assign (v := .bool _) rfl rfl ?_
    refine WL_nil ?_
    refine W_ret ?_
    refine ret_1 rfl (by conv => lhs; whnf) ?_
    exact ⟨rfl, S8.fin⟩
  exfalso; omega
theorem machFits_fn (p : ProgD) (c : ConfD) (M : List Nat) (w0 : World) (cs xs : List Value) (hI : InP p M w0 cs) (hX : RdConf M w0 c xs) (hf : FitC p c) (he : ∀ b ∈ c.buf, b = []) :
    Does Tryz.prog 36 #[.agg cs.toArray, .agg xs.toArray] w0 fun v w' => v = .bool true ∧ Below w0.heap.size w0 w' := by
  obtain ⟨Ac, nc, cc, Am, nm, cm, Al, nl, cl, At, nt, ct, rfl, hC, hMo, hLk, hTh, hnc, hnm, hnl, hnt, bc, bm, bl, bt⟩ := hI.rd.open_
  obtain ⟨Xm, xm, ym, Xa, xa, ya, Xb, xb, yb, rfl, hMem, hAt, hBuf, hxm, hxa, hxb, b1, b2, b3⟩ := hX.open_
  have S := St.refl w0
  have f1 := hf.mem.len
  have f2 := hf.nat
  have f3 := hf.nbuf
  refine Does_enter Tryz.func36 rfl Tryz.ntmps36 rfl ?_
  refine W_seq ?_
  refine W_region ?_
  refine o_boxa S (by conv => lhs; whnf) rfl ?_
  intro g2 w2 S2 X2 G2
  refine o_boxa S2 (by conv => lhs; whnf) rfl ?_
  intro g3 w3 S3 X3 G3
  refine o_assign (v := .bool _) rfl rfl ?_
  refine WL_nil ?_
  refine W_seq ?_
  refine W_seq ?_
  refine W_region ?_
  refine o_fieldAddr fa_46_0 rfl rfl ?_
  refine o_load one_43 rfl (by exact S3.cell 0 rfl rfl) rfl ?_
  refine o_len slz_43.slT rfl rfl ?_
  refine o_fieldAddr fa_36_0 rfl rfl ?_
  refine o_load one_31 rfl (by exact S3.cell 1 rfl rfl) rfl ?_
  refine o_len slz_31.slT rfl rfl ?_
  refine o_neq rfl rfl rfl (fun h16 => ?_) (fun h16 => ?_)
  · exfalso; omega
  refine o_move (v := .bool _) rfl rfl ?_
  refine WL_on rfl rfl rfl ?_
  refine o_fieldAddr fa_46_1 rfl rfl ?_
  refine WL_on rfl rfl rfl ?_
  refine o_load one_43 rfl (by exact S3.cell 0 rfl rfl) rfl ?_
  refine WL_on rfl rfl rfl ?_
  refine o_len slz_43.slT rfl rfl ?_
  refine WL_on rfl rfl rfl ?_
  refine o_fieldAddr fa_36_3 rfl rfl ?_
  refine WL_on rfl rfl rfl ?_
  refine o_load one_34 rfl (by exact S3.cell 1 rfl rfl) rfl ?_
  refine WL_on rfl rfl rfl ?_
  refine o_len slz_34.slT rfl rfl ?_
  refine WL_on rfl rfl rfl ?_
  refine o_neq rfl rfl rfl (fun h24 => ?_) (fun h24 => ?_)
  · exfalso; omega
  refine o_pick rfl (v := .bool _) rfl rfl ?_
  refine o_move (v := .bool _) rfl rfl ?_
  refine WL_on rfl rfl rfl ?_
  refine o_fieldAddr fa_46_2 rfl rfl ?_
  refine WL_on rfl rfl rfl ?_
  refine o_load one_44 rfl (by exact S3.cell 0 rfl rfl) rfl ?_
  refine WL_on rfl rfl rfl ?_
  refine o_len slz_44.slT rfl rfl ?_
  refine WL_on rfl rfl rfl ?_
  refine o_fieldAddr fa_36_3 rfl rfl ?_
  refine WL_on rfl rfl rfl ?_
  refine o_load one_34 rfl (by exact S3.cell 1 rfl rfl) rfl ?_
  refine WL_on rfl rfl rfl ?_
  refine o_len slz_34.slT rfl rfl ?_
  refine WL_on rfl rfl rfl ?_
  refine o_neq rfl rfl rfl (fun h33 => ?_) (fun h33 => ?_)
  · exfalso; omega
  refine o_pick rfl (v := .bool _) rfl rfl ?_
  refine WL_nil ?_
  refine W_else rfl ?_
  refine W_skip ?_
  refine W_seq ?_
  refine W_seq ?_
  refine W_region ?_
  refine o_fieldAddr fa_46_0 rfl rfl ?_
  refine o_load one_43 rfl (by exact S3.cell 0 rfl rfl) rfl ?_
  refine o_len slz_43.slT rfl rfl ?_
  refine o_move (v := .int .i64 _) rfl rfl ?_
  refine WL_nil ?_
  refine W_block ?_
  refine W_loop (fun μk D ε w => D = [] ∧ ∃ k : Nat, (k + μk = (c.mem.length)) ∧ St [] w0 w [(some g3, 46, [.slice Xm xm ym, .slice Xa xa ya, .slice Xb xb yb]), (some g2, 36, [.slice Ac nc cc, .slice Am nm cm, .slice Al nl cl, .slice At nt ct])] ∧ ε 2 = .pointer (some ⟨g2, 0, none⟩) ∧ ε 3 = .pointer (some ⟨g3, 0, none⟩) ∧ ε 36 = .slice Xm xm ym ∧ ε 37 = .int .i64 xm ∧ ε 38 = .int .i64 k) (μ := (c.mem.length)) ⟨rfl, 0, by omega, S3, rfl, rfl, rfl, rfl, rfl⟩ ?_
  rintro μk D ε w ⟨rfl, k, hk, S, e2, e3, e36, e37, e38⟩
  refine W_known 2 e2 ?_
  refine W_known 3 e3 ?_
  refine W_known 36 e36 ?_
  refine W_known 37 e37 ?_
  refine W_known 38 e38 ?_
  clear e2 e3 e36 e37 e38
  refine W_seq ?_
  refine W_region ?_
  refine o_lss rfl rfl rfl (fun h39 => ?_) (fun h39 => ?_)
  · refine WL_nil ?_
    refine W_seq ?_
    refine W_then rfl ?_
    refine W_skip ?_
    refine W_seq ?_
    refine W_block ?_
    refine W_seq ?_
    refine W_region ?_
    refine o_move (v := .int .i64 _) rfl rfl ?_
    obtain ⟨v, b41, p41, c41, hxv, hA41, hM41, hl41, hc41, hr41⟩ := RdS.get (hMem) (k) (by omega)
    obtain ⟨rfl, i141⟩ := id hr41
    have q1 := hf.mem.vals k v hxv
    refine o_indexAddr slz_43.slT rfl (by assumption) rfl (by omega) (by omega) rfl ?_
    refine o_load one_3 rfl (by exact S.old (hc41 0 _ rfl)) rfl ?_
    refine o_assign (v := .int .i64 _) rfl rfl ?_
    refine o_assign (v := .int .i64 _) rfl rfl ?_
    refine WL_nil ?_
    refine W_seq ?_
    refine W_region ?_
    refine o_move (v := .int .i64 _) rfl rfl ?_
    refine o_lss rfl rfl rfl (fun h44 => ?_) (fun h44 => ?_)
    · exfalso; omega
    refine o_move (v := .bool _) rfl rfl ?_
    refine WL_on rfl rfl rfl ?_
    refine o_move (v := .int .i64 _) rfl rfl ?_
    refine WL_on rfl rfl rfl ?_
    refine o_fieldAddr fa_36_0 rfl rfl ?_
    refine WL_on rfl rfl rfl ?_
    refine o_load one_31 rfl (by exact S.cell 1 rfl rfl) rfl ?_
    refine WL_on rfl rfl rfl ?_
    refine o_move (v := .int .i64 _) rfl rfl ?_
    refine WL_on rfl rfl rfl ?_
    obtain ⟨x, b50, p50, c50, hxx, hA50, hM50, hl50, hc50, hr50⟩ := RdS.get (hC) (k) (by omega)
    obtain ⟨rfl, i150, i250, i350, i450⟩ := RCell.open_ hr50
    have q2 := (hI.ok.cells x (some_mem hxx)).w
    rw [w_at hxx, pow2_eq] at q1
    refine o_indexAddr slz_31.slT rfl (by assumption) rfl (by omega) (by omega) rfl ?_
    refine WL_on rfl rfl rfl ?_
    refine o_fieldAddr fa_90_1 rfl rfl ?_
    refine WL_on rfl rfl rfl ?_
    refine o_load one_3 rfl (by exact S.old (hc50 _ _ rfl)) rfl ?_
    refine WL_on rfl rfl rfl ?_
    rw [show x.w = ((x.w.toNat : Nat) : Int) by omega]
    refine o_shl1 (n := x.w.toNat) rfl (by rfl) (by omega) rfl ?_
    refine WL_on rfl rfl rfl ?_
    refine o_geq rfl rfl rfl (fun h54 => ?_) (fun h54 => ?_)
    · exfalso; omega
    refine o_pick rfl (v := .bool _) rfl rfl ?_
    refine WL_nil ?_
    refine W_else rfl ?_
    refine W_skip ?_
    refine W_region ?_
    refine o_add rfl rfl (by unfold i64; omega) rfl ?_
    refine o_move (v := .int .i64 _) rfl rfl ?_
    refine WL_nil ?_
    refine ⟨μk - 1, by omega, rfl, (k + 1), (by omega), S, rfl, rfl, rfl, rfl, rfl⟩
  refine WL_nil ?_
  refine W_seq ?_
  refine W_else rfl ?_
  refine W_exit ?_
  refine bcons_here ?_
  refine W_seq ?_
  refine W_seq ?_
  refine W_region ?_
  refine o_fieldAddr fa_46_1 rfl rfl ?_
  refine o_load one_43 rfl (by exact S.cell 0 rfl rfl) rfl ?_
  refine o_len slz_43.slT rfl rfl ?_
  refine o_move (v := .int .i64 _) rfl rfl ?_
  refine WL_nil ?_
  refine W_block ?_
  refine W_loop (fun μk D ε w => D = [] ∧ ∃ k : Nat, (k + μk = (c.at_.length)) ∧ St [] w0 w [(some g3, 46, [.slice Xm xm ym, .slice Xa xa ya, .slice Xb xb yb]), (some g2, 36, [.slice Ac nc cc, .slice Am nm cm, .slice Al nl cl, .slice At nt ct])] ∧ ε 2 = .pointer (some ⟨g2, 0, none⟩) ∧ ε 3 = .pointer (some ⟨g3, 0, none⟩) ∧ ε 58 = .slice Xa xa ya ∧ ε 59 = .int .i64 xa ∧ ε 60 = .int .i64 k) (μ := (c.at_.length)) ⟨rfl, 0, by omega, S, rfl, rfl, rfl, rfl, rfl⟩ ?_
  rintro μk D ε w ⟨rfl, k, hk, S, e2, e3, e58, e59, e60⟩
  refine W_known 2 e2 ?_
  refine W_known 3 e3 ?_
  refine W_known 58 e58 ?_
  refine W_known 59 e59 ?_
  refine W_known 60 e60 ?_
  clear e2 e3 e58 e59 e60
  refine W_seq ?_
  refine W_region ?_
  refine o_lss rfl rfl rfl (fun h61 => ?_) (fun h61 => ?_)
  · refine WL_nil ?_
    refine W_seq ?_
    refine W_then rfl ?_
    refine W_skip ?_
    refine W_seq ?_
    refine W_block ?_
    refine W_seq ?_
    refine W_region ?_
    refine o_move (v := .int .i64 _) rfl rfl ?_
    obtain ⟨v, b63, p63, c63, hxv, hA63, hM63, hl63, hc63, hr63⟩ := RdS.get (hAt) (k) (by omega)
    obtain ⟨rfl, i163⟩ := id hr63
    refine o_indexAddr slz_43.slT rfl (by assumption) rfl (by omega) (by omega) rfl ?_
    refine o_load one_3 rfl (by exact S.old (hc63 0 _ rfl)) rfl ?_
    refine o_assign (v := .int .i64 _) rfl rfl ?_
    refine o_assign (v := .int .i64 _) rfl rfl ?_
    refine WL_nil ?_
    refine W_seq ?_
    refine W_region ?_
    refine o_fieldAddr fa_36_3 rfl rfl ?_
    refine o_load one_34 rfl (by exact S.cell 1 rfl rfl) rfl ?_
    refine o_move (v := .int .i64 _) rfl rfl ?_
    obtain ⟨th, b68, p68, c68, hxth, hA68, hM68, hl68, hc68, hr68⟩ := RdS.get (hTh) (k) (by omega)
    obtain ⟨Aa68, na68, ca68, Am68, nm68, cm68, As68, ns68, cs68, Al68, nl68, cl68, rfl, ip68, hEs68, hMs68, hSt68, hLo68, hna68, hnm68, hns68, hnl68, ba68, bm68, bs68, bl68⟩ := RThread.open_ hr68
    have q1 := hf.atr k v hxv th hxth
    refine o_indexAddr slz_34.slT rfl (by assumption) rfl (by omega) (by omega) rfl ?_
    refine o_loadN many_83 rfl (hc68.keep (S.keep0 _) hM68) (by rfl) rfl ?_
    refine o_alloc S zv_83 rfl rfl ?_
    intro g9 w9 S9 X9 G9
    refine o_storeN (kk := 0) (vs := [_, _, _, _, _, _, _]) S9 sz_83 rfl rfl rfl rfl rfl rfl rfl ?_
    intro w12_6 S12_6 X12_6
    dsimp only [setsAt, List.set] at S12_6
    refine WL_nil ?_
    refine W_seq ?_
    refine W_region ?_
    refine o_move (v := .int .i64 _) rfl rfl ?_
    refine o_lss rfl rfl rfl (fun h71 => ?_) (fun h71 => ?_)
    · exfalso; omega
    refine o_move (v := .bool _) rfl rfl ?_
    refine WL_on rfl rfl rfl ?_
    refine o_move (v := .int .i64 _) rfl rfl ?_
    refine WL_on rfl rfl rfl ?_
    refine o_fieldAddr fa_83_1 rfl rfl ?_
    refine WL_on rfl rfl rfl ?_
    refine o_load one_3 rfl (by exact S12_6.cell 0 rfl rfl) rfl ?_
    refine WL_on rfl rfl rfl ?_
    refine o_geq rfl rfl rfl (fun h76 => ?_) (fun h76 => ?_)
    · exfalso; omega
    refine o_pick rfl (v := .bool _) rfl rfl ?_
    refine o_move (v := .bool _) rfl rfl ?_
    refine WL_on rfl rfl rfl ?_
    refine o_move (v := .int .i64 _) rfl rfl ?_
    refine WL_on rfl rfl rfl ?_
    refine o_eql rfl rfl rfl (fun h80 => ?_) (fun h80 => ?_)
    · refine WL_on rfl rfl rfl ?_
      refine o_move (v := .bool _) rfl rfl ?_
      refine WL_on rfl rfl rfl ?_
      refine o_fieldAddr fa_83_6 rfl rfl ?_
      refine WL_on rfl rfl rfl ?_
      cases hb83 : th.asleep
      · refine o_load one_4 rfl (by exact (S12_6.cell 0 rfl rfl).trans (congrArg (fun b => some (Value.bool b)) hb83)) rfl ?_
        refine WL_on rfl rfl rfl ?_
        rw [q1.2.2 (by omega)] at hb83
        refine o_not rfl rfl ?_
        refine WL_on rfl rfl rfl ?_
        refine o_pick rfl (v := .bool _) rfl rfl ?_
        refine o_pick rfl (v := .bool _) rfl rfl ?_
        refine o_move (v := .bool _) rfl rfl ?_
        refine WL_off rfl rfl rfl rfl ?_
        refine WL_off rfl rfl rfl rfl ?_
        refine WL_off rfl rfl rfl rfl ?_
        refine WL_off rfl rfl rfl rfl ?_
        refine WL_off rfl rfl rfl rfl ?_
        refine WL_off rfl rfl rfl rfl ?_
        refine WL_off rfl rfl rfl rfl ?_
        refine o_pick rfl (v := .bool _) rfl rfl ?_
        refine WL_nil ?_
        refine W_then rfl ?_
        refine W_seq ?_
        refine W_region ?_
        refine o_assign (v := .bool _) rfl rfl ?_
        refine WL_nil ?_
        refine W_ret ?_
        refine ret_1 rfl (by conv => lhs; whnf) ?_
        cases hb83
      refine o_load one_4 rfl (by exact (S12_6.cell 0 rfl rfl).trans (congrArg (fun b => some (Value.bool b)) hb83)) rfl ?_
      refine WL_on rfl rfl rfl ?_
      rw [q1.2.2 (by omega)] at hb83
      refine o_not rfl rfl ?_
      refine WL_on rfl rfl rfl ?_
      refine o_pick rfl (v := .bool _) rfl rfl ?_
      refine o_pick rfl (v := .bool _) rfl rfl ?_
      refine o_move (v := .bool _) rfl rfl ?_
      refine WL_on rfl rfl rfl ?_
      refine o_fieldAddr fa_46_2 rfl rfl ?_
      refine WL_on rfl rfl rfl ?_
      refine o_load one_44 rfl (by exact S12_6.cell 1 rfl rfl) rfl ?_
      refine WL_on rfl rfl rfl ?_
      refine o_move (v := .int .i64 _) rfl rfl ?_
      refine WL_on rfl rfl rfl ?_
      obtain ⟨b, b91, p91, c91, hxb, hA91, hM91, hl91, hc91, hr91⟩ := RdS.get (hBuf) (k) (by omega)
      obtain ⟨Ab91, nb91, cb91, rfl, hBu91, hnb91, bb91⟩ := RBuf.open_ hr91
      have q2 := he b (some_mem hxb)
      subst q2
      simp only [List.length_nil] at hnb91
      refine o_indexAddr slz_44.slT rfl (by assumption) rfl (by omega) (by omega) rfl ?_
      refine WL_on rfl rfl rfl ?_
      refine o_load one_91 rfl (by exact S12_6.old (hc91 0 _ rfl)) rfl ?_
      refine WL_on rfl rfl rfl ?_
      refine o_len slz_91.slT rfl rfl ?_
      refine WL_on rfl rfl rfl ?_
      refine o_gtr rfl rfl rfl (fun h94 => ?_) (fun h94 => ?_)
      · exfalso; omega
      refine o_pick rfl (v := .bool _) rfl rfl ?_
      refine WL_nil ?_
      refine W_else rfl ?_
      refine W_skip ?_
      refine W_region ?_
      refine o_add rfl rfl (by unfold i64; omega) rfl ?_
      refine o_move (v := .int .i64 _) rfl rfl ?_
      refine WL_nil ?_
      refine ⟨μk - 1, by omega, rfl, (k + 1), (by omega), S12_6.tail, rfl, rfl, rfl, rfl, rfl⟩
    refine WL_on rfl rfl rfl ?_
    refine o_move (v := .bool _) rfl rfl ?_
    refine WL_off rfl rfl rfl rfl ?_
    refine WL_off rfl rfl rfl rfl ?_
    refine WL_off rfl rfl rfl rfl ?_
    refine WL_on rfl rfl rfl ?_
    refine o_pick rfl (v := .bool _) rfl rfl ?_
    refine o_pick rfl (v := .bool _) rfl rfl ?_
    refine o_move (v := .bool _) rfl rfl ?_
    refine WL_on rfl rfl rfl ?_
    refine o_fieldAddr fa_46_2 rfl rfl ?_
    refine WL_on rfl rfl rfl ?_
    refine o_load one_44 rfl (by exact S12_6.cell 1 rfl rfl) rfl ?_
    refine WL_on rfl rfl rfl ?_
    refine o_move (v := .int .i64 _) rfl rfl ?_
    refine WL_on rfl rfl rfl ?_
    obtain ⟨b, b91, p91, c91, hxb, hA91, hM91, hl91, hc91, hr91⟩ := RdS.get (hBuf) (k) (by omega)
    obtain ⟨Ab91, nb91, cb91, rfl, hBu91, hnb91, bb91⟩ := RBuf.open_ hr91
    have q2 := he b (some_mem hxb)
    subst q2
    simp only [List.length_nil] at hnb91
    refine o_indexAddr slz_44.slT rfl (by assumption) rfl (by omega) (by omega) rfl ?_
    refine WL_on rfl rfl rfl ?_
    refine o_load one_91 rfl (by exact S12_6.old (hc91 0 _ rfl)) rfl ?_
    refine WL_on rfl rfl rfl ?_
    refine o_len slz_91.slT rfl rfl ?_
    refine WL_on rfl rfl rfl ?_
    refine o_gtr rfl rfl rfl (fun h94 => ?_) (fun h94 => ?_)
    · exfalso; omega
    refine o_pick rfl (v := .bool _) rfl rfl ?_
    refine WL_nil ?_
    refine W_else rfl ?_
    refine W_skip ?_
    refine W_region ?_
    refine o_add rfl rfl (by unfold i64; omega) rfl ?_
    refine o_move (v := .int .i64 _) rfl rfl ?_
    refine WL_nil ?_
    refine ⟨μk - 1, by omega, rfl, (k + 1), (by omega), S12_6.tail, rfl, rfl, rfl, rfl, rfl⟩
  refine WL_nil ?_
  refine W_seq ?_
  refine W_else rfl ?_
  refine W_exit ?_
  refine bcons_here ?_
  refine W_seq ?_
  refine W_region ?_
  refine o_assign (v := .bool _) rfl rfl ?_
  refine WL_nil ?_
  refine W_ret ?_
  refine ret_1 rfl (by conv => lhs; whnf) ?_
  exact ⟨rfl, S.fin⟩
theorem machStart_fn (p : ProgD) (M : List Nat) (w0 : World) (cs : List Value) (hI : InP p M w0 cs) :
    Does Tryz.prog 15 #[.agg cs.toArray] w0 fun v w' => (∃ xs, v = .agg xs.toArray ∧ RdConf M w' (startC p) xs) ∧ Below w0.heap.size w0 w' := by
  obtain ⟨Ac, nc, cc, Am, nm, cm, Al, nl, cl, At, nt, ct, rfl, hC, hMo, hLk, hTh, hnc, hnm, hnl, hnt, bc, bm, bl, bt⟩ := hI.rd.open_
  have S := St.refl w0
  have hp := hI.ok
  have n1 := hp.ncells
  have n2 := hp.nthreads
  refine Does_enter Tryz.func15 rfl Tryz.ntmps15 rfl ?_
  refine W_seq ?_
  refine W_region ?_
  refine o_boxa S (by conv => lhs; whnf) rfl ?_
  intro g1 w1 S1 X1 G1
  refine o_alloc S1 zv_46 rfl rfl ?_
  intro g2 w2 S2 X2 G2
  refine WL_nil ?_
  refine W_seq ?_
  refine W_seq ?_
  refine W_region ?_
  refine o_loadN many_36 rfl (S2.cells 1 rfl) rfl rfl ?_
  refine o_callr S2 has_35 rfl rfl (machValid_fn p M _ _ (hI.keep (S2.keep0 M))) ?_
  intro w7 S7 X7
  refine o_not rfl rfl ?_
  refine WL_nil ?_
  refine W_else rfl ?_
  refine W_skip ?_
  refine W_seq ?_
  refine W_flow follows_mixed [0, 1, 2, 3, 4, 5, 6, 7, 8, 9, 10, 11, 12, 13] 14 (by kernel_rfl) (by kernel_rfl) (Cl _ _ _ _) (Cl.start S7) _ rfl ?_
  refine FL_q rfl rfl ?_
  refine q_fieldAddr fa_36_0 rfl rfl ?_
  refine QL_nil ?_
  refine FL_q rfl rfl ?_
  refine q_load one_31 rfl (fun w1 hw => by exact hw.1.cell 1 rfl rfl) rfl ?_
  refine QL_nil ?_
  refine FL_len rfl slz_31.slT rfl rfl ?_
  refine FL_make (n := nc) (c := nc) rfl rfl rfl slz_43 rfl rfl (by omega) (by omega) (by omega) rfl ?_
  intro g13 G13 ng13
  refine FL_q rfl rfl ?_
  refine q_fieldAddr fa_36_3 rfl rfl ?_
  refine QL_nil ?_
  refine FL_q rfl rfl ?_
  refine q_load one_34 rfl (fun w1 hw => by exact hw.1.cell 1 rfl rfl) rfl ?_
  refine QL_nil ?_
  refine FL_len rfl slz_34.slT rfl rfl ?_
  refine FL_make (n := nt) (c := nt) rfl rfl rfl slz_43 rfl rfl (by omega) (by omega) (by omega) rfl ?_
  intro g17 G17 ng17
  refine FL_q rfl rfl ?_
  refine q_fieldAddr fa_36_3 rfl rfl ?_
  refine QL_nil ?_
  refine FL_q rfl rfl ?_
  refine q_load one_34 rfl (fun w1 hw => by exact hw.1.cell 1 rfl rfl) rfl ?_
  refine QL_nil ?_
  refine FL_len rfl slz_34.slT rfl rfl ?_
  refine FL_make (n := nt) (c := nt) rfl rfl rfl slz_44 rfl rfl (by omega) (by omega) (by omega) rfl ?_
  intro g21 G21 ng21
  refine FL_q rfl rfl ?_
  refine q_build bld_46 (vs := [(0, .slice _ _ _), (1, .slice _ _ _), (2, .slice _ _ _)]) (cs := [_, _, _]) rfl rfl rfl rfl ?_
  refine QL_nil ?_
  refine FL_alloc rfl rfl rfl zv_46 rfl ?_
  intro g3 G3 ng3
  refine FL_nil ?_
  rintro wR3 ⟨SR3, XR3⟩ ⟨⟨⟨⟨-, hg13⟩, hg17⟩, hg21⟩, hg3⟩
  clear ng13
  replace SR3 := SR3.push_new S7 hg13 G13
  replace SR3 := SR3.push_more (L1 := [_]) S7 hg17 G17 (by simpa [eq_comm] using ng17)
  replace SR3 := SR3.push_more (L1 := [_, _]) S7 hg21 G21 (by simpa [eq_comm] using ng21)
  replace SR3 := SR3.push_more (L1 := [_, _, _]) S7 hg3 G3 (by simpa [eq_comm] using ng3)
  refine o_storeN (kk := 0) (vs := [_, _, _]) SR3 sz_46 rfl rfl rfl rfl rfl rfl rfl ?_
  intro w3_14 S3_14 X3_14
  dsimp only [setsAt, List.set] at S3_14
  refine WL_nil ⟨rfl, ?_⟩
  refine W_seq ?_
  refine W_seq ?_
  refine W_region ?_
  refine o_fieldAddr fa_36_0 rfl rfl ?_
  refine o_load one_31 rfl (by exact S3_14.cell 5 rfl rfl) rfl ?_
  refine o_len slz_31.slT rfl rfl ?_
  refine o_move (v := .int .i64 _) rfl rfl ?_
  refine WL_nil ?_
  refine W_block ?_
  refine W_loop (fun μk D ε w => D = [] ∧ ∃ k : Nat, (k + μk = (p.cells.length)) ∧ St [] w0 w [(some g3, 46, [.slice (some ⟨g13, 0, none⟩) nc nc, .slice (some ⟨g17, 0, none⟩) nt nt, .slice (some ⟨g21, 0, none⟩) nt nt]), (some g21, 91, (List.replicate nt (.slice none 0 0))), (some g17, 3, (List.replicate nt (.int .i64 0))), (some g13, 3, fillTo ((startC p).mem.map (Value.int .i64)) (.int .i64 0) k), (some g2, 46, [.slice none 0 0, .slice none 0 0, .slice none 0 0]), (some g1, 36, [.slice Ac nc cc, .slice Am nm cm, .slice Al nl cl, .slice At nt ct])] ∧ ε 1 = .pointer (some ⟨g1, 0, none⟩) ∧ ε 2 = .pointer (some ⟨g2, 0, none⟩) ∧ ε 3 = .pointer (some ⟨g3, 0, none⟩) ∧ ε 25 = .int .i64 nc ∧ ε 26 = .int .i64 k) (μ := (p.cells.length)) ⟨rfl, 0, by omega, (S3_14.setEnt 3 rfl (by rw [fillTo_zero]; simp [startC, hnc])), rfl, rfl, rfl, rfl, rfl⟩ ?_
  rintro μk D ε w ⟨rfl, k, hk, S, e1, e2, e3, e25, e26⟩
  refine W_known 1 e1 ?_
  refine W_known 2 e2 ?_
  refine W_known 3 e3 ?_
  refine W_known 25 e25 ?_
  refine W_known 26 e26 ?_
  clear e1 e2 e3 e25 e26
  refine W_seq ?_
  refine W_region ?_
  refine o_lss rfl rfl rfl (fun h27 => ?_) (fun h27 => ?_)
  · refine WL_nil ?_
    refine W_seq ?_
    refine W_then rfl ?_
    refine W_skip ?_
    refine W_seq ?_
    refine W_block ?_
    refine W_seq ?_
    refine W_region ?_
    refine o_move (v := .int .i64 _) rfl rfl ?_
    refine o_assign (v := .int .i64 _) rfl rfl ?_
    refine WL_nil ?_
    refine W_draw follows_mixed [0, 1, 2, 3, 4, 5, 6, 7, 8, 9] [] [10] (by kernel_rfl) rfl (Cl _ _ _ _) (Cl.start S) ?_
    refine q_fieldAddr fa_46_0 rfl rfl ?_
    refine q_load one_43 rfl (fun w1 hw => by exact hw.1.cell 0 rfl rfl) rfl ?_
    refine q_move (v := .int .i64 _) rfl rfl ?_
    refine q_fieldAddr fa_36_0 rfl rfl ?_
    refine q_load one_31 rfl (fun w1 hw => by exact hw.1.cell 5 rfl rfl) rfl ?_
    refine q_move (v := .int .i64 _) rfl rfl ?_
    obtain ⟨x, b35, p35, c35, hxx, hA35, hM35, hl35, hc35, hr35⟩ := RdS.get (hC) (k) (by omega)
    obtain ⟨rfl, i135, i235, i335, i435⟩ := RCell.open_ hr35
    refine q_indexAddr slz_31.slT rfl (by assumption) rfl (by omega) (by omega) rfl ?_
    refine q_fieldAddr fa_90_2 rfl rfl ?_
    refine q_load one_3 rfl (fun w1 hw => by exact hw.1.old (hc35 _ _ rfl)) rfl ?_
    refine q_indexAddr slz_43.slT rfl (by rfl) rfl (by omega) (by omega) rfl ?_
    refine QL_nil ?_
    refine BK_of ?_
    refine BKL_nil ?_
    rintro wR7 ⟨SR7, XR7⟩
    first | refine o_store (kk := 3) SR7 sz_3 rfl (by conv => lhs; whnf) rfl rfl (by (simp; omega)) ?_
    intro w7_10 S7_10 X7_10
    refine WL_nil ?_
    refine W_region ?_
    refine o_add rfl rfl (by unfold i64; omega) rfl ?_
    refine o_move (v := .int .i64 _) rfl rfl ?_
    refine WL_nil ?_
    refine ⟨μk - 1, by omega, rfl, (k + 1), (by omega), (S7_10.setEnt 3 rfl (fillTo_set (by simp [startC, hxx]) (by simp))), rfl, rfl, rfl, rfl, rfl⟩
  refine WL_nil ?_
  refine W_seq ?_
  refine W_else rfl ?_
  refine W_exit ?_
  refine bcons_here ?_
  refine W_seq ?_
  refine W_seq ?_
  refine W_region ?_
  refine o_fieldAddr fa_36_3 rfl rfl ?_
  refine o_load one_34 rfl (by exact S.cell 5 rfl rfl) rfl ?_
  refine o_len slz_34.slT rfl rfl ?_
  refine o_move (v := .int .i64 _) rfl rfl ?_
  refine WL_nil ?_
  refine W_block ?_
  refine W_loop (fun μj D ε w => D = [] ∧ ∃ j : Nat, (j + μj = (p.threads.length)) ∧ St [] w0 w [(some g3, 46, [.slice (some ⟨g13, 0, none⟩) nc nc, .slice (some ⟨g17, 0, none⟩) nt nt, .slice (some ⟨g21, 0, none⟩) nt nt]), (some g21, 91, (List.replicate nt (.slice none 0 0))), (some g17, 3, fillTo ((startC p).at_.map (Value.int .i64)) (.int .i64 0) j), (some g13, 3, (startC p).mem.map (Value.int .i64)), (some g2, 46, [.slice none 0 0, .slice none 0 0, .slice none 0 0]), (some g1, 36, [.slice Ac nc cc, .slice Am nm cm, .slice Al nl cl, .slice At nt ct])] ∧ ε 1 = .pointer (some ⟨g1, 0, none⟩) ∧ ε 2 = .pointer (some ⟨g2, 0, none⟩) ∧ ε 3 = .pointer (some ⟨g3, 0, none⟩) ∧ ε 42 = .int .i64 nt ∧ ε 43 = .int .i64 j) (μ := (p.threads.length)) ⟨rfl, 0, by omega, ((S.setEnt 3 rfl (fillTo_all _ _ (by simp [startC]; omega))).setEnt 2 rfl (by rw [fillTo_zero]; simp [startC, hnt])), rfl, rfl, rfl, rfl, rfl⟩ ?_
  rintro μj D ε w ⟨rfl, j, hj, S, e1, e2, e3, e42, e43⟩
  refine W_known 1 e1 ?_
  refine W_known 2 e2 ?_
  refine W_known 3 e3 ?_
  refine W_known 42 e42 ?_
  refine W_known 43 e43 ?_
  clear e1 e2 e3 e42 e43
  refine W_seq ?_
  refine W_region ?_
  refine o_lss rfl rfl rfl (fun h44 => ?_) (fun h44 => ?_)
  · refine WL_nil ?_
    refine W_seq ?_
    refine W_then rfl ?_
    refine W_skip ?_
    refine W_seq ?_
    refine W_block ?_
    refine W_seq ?_
    refine W_region ?_
    refine o_move (v := .int .i64 _) rfl rfl ?_
    refine o_assign (v := .int .i64 _) rfl rfl ?_
    refine WL_nil ?_
    refine W_seq ?_
    refine W_region ?_
    refine o_fieldAddr fa_36_3 rfl rfl ?_
    refine o_load one_34 rfl (by exact S.cell 5 rfl rfl) rfl ?_
    refine o_move (v := .int .i64 _) rfl rfl ?_
    obtain ⟨th, b49, p49, c49, hxth, hA49, hM49, hl49, hc49, hr49⟩ := RdS.get (hTh) (j) (by omega)
    obtain ⟨Aa49, na49, ca49, Am49, nm49, cm49, As49, ns49, cs49, Al49, nl49, cl49, rfl, ip49, hEs49, hMs49, hSt49, hLo49, hna49, hnm49, hns49, hnl49, ba49, bm49, bs49, bl49⟩ := RThread.open_ hr49
    refine o_indexAddr slz_34.slT rfl (by assumption) rfl (by omega) (by omega) rfl ?_
    refine o_fieldAddr fa_83_6 rfl rfl ?_
    cases hb51 : th.asleep
    · refine o_load one_4 rfl (by exact (S.old (hc49 _ _ rfl)).trans (congrArg (fun b => some (Value.bool b)) hb51)) rfl ?_
      refine WL_nil ?_
      refine W_else rfl ?_
      refine W_skip ?_
      refine W_region ?_
      refine o_add rfl rfl (by unfold i64; omega) rfl ?_
      refine o_move (v := .int .i64 _) rfl rfl ?_
      refine WL_nil ?_
      refine ⟨μj - 1, by omega, rfl, (j + 1), (by omega), (S.setEnt 2 rfl (by exact fillTo_same (by simp [startC, hxth, hb51]))), rfl, rfl, rfl, rfl, rfl⟩
    refine o_load one_4 rfl (by exact (S.old (hc49 _ _ rfl)).trans (congrArg (fun b => some (Value.bool b)) hb51)) rfl ?_
    refine WL_nil ?_
    refine W_then rfl ?_
    refine W_region ?_
    refine o_fieldAddr fa_46_1 rfl rfl ?_
    refine o_load one_43 rfl (by exact S.cell 0 rfl rfl) rfl ?_
    refine o_move (v := .int .i64 _) rfl rfl ?_
    refine o_indexAddr slz_43.slT rfl (by rfl) rfl (by omega) (by omega) rfl ?_
    first | refine o_store (kk := 2) S sz_3 rfl (by conv => lhs; whnf) rfl rfl (by (simp; omega)) ?_
    intro w13_4 S13_4 X13_4
    refine WL_nil ?_
    refine W_region ?_
    refine o_add rfl rfl (by unfold i64; omega) rfl ?_
    refine o_move (v := .int .i64 _) rfl rfl ?_
    refine WL_nil ?_
    refine ⟨μj - 1, by omega, rfl, (j + 1), (by omega), (S13_4.setEnt 2 rfl (by exact fillTo_set (by simp [startC, hxth, hb51]) (by simp))), rfl, rfl, rfl, rfl, rfl⟩
  refine WL_nil ?_
  refine W_seq ?_
  refine W_else rfl ?_
  refine W_exit ?_
  refine bcons_here ?_
  refine W_seq ?_
  refine W_region ?_
  refine o_loadN many_46 rfl (S.cells 0 rfl) rfl rfl ?_
  first | refine o_storeN (kk := 4) (vs := [_, _, _]) S sz_46 rfl rfl rfl rfl rfl rfl rfl ?_
  intro w15_1 S15_1 X15_1
  dsimp only [setsAt, List.set] at S15_1
  refine WL_nil ?_
  refine W_ret ?_
  have SF := S15_1.setEnt 2 rfl (fillTo_all _ _ (by simp [startC]; omega))
  have hf := fit_start hp
  exact ret_cell1 (n := 3) rfl many_46 rfl (SF.cells 4 rfl) rfl ⟨⟨_, rfl, _, _, _, rfl, SF.rdInts 3 rfl (fresh_not hI.lt (SF.new 3 rfl)) (by simp [startC, hnc]) bc (mem_i64 hp hf.mem), SF.rdInts 2 rfl (fresh_not hI.lt (SF.new 2 rfl)) (by simp [startC, hnt]) bt (at_i64 hp hf), SF.rdBufs 1 rfl (fresh_not hI.lt (SF.new 1 rfl)) (by simp [startC, hnt]) bt (by simp [startC])⟩, SF.fin⟩
end Go.Proofs.YtgnbfmifjlnigaaGreatDoor
namespace Go.Fw
open Go.RowKit
theorem flatN {size : Nat} : ∀ (css : List (List Value)) (i : Nat) (c : List Value), (∀ x ∈ css, x.length = size) → css[i]? = some c → ∀ (j : Nat) (u : Value), c[j]? = some u → css.flatten[i * size + j]? = some u := by
  intro css
  induction css with
  | nil => intro i c _ h; simp at h
  | cons x xs ih =>
    intro i c h4 hi j u hj
    have hx := h4 x (by simp)
    cases i with
    | zero =>
      simp at hi; subst hi
      have hjl : j < x.length := (List.getElem?_eq_some_iff.1 hj).1
      rw [List.flatten_cons, Nat.zero_mul, Nat.zero_add, List.getElem?_append_left hjl]; exact hj
    | succ i =>
      have := ih i c (fun y hy => h4 y (by simp [hy])) (by simpa using hi) j u hj
      have e : (i + 1) * size + j = x.length + (i * size + j) := by rw [hx, Nat.add_mul]; omega
      rw [List.flatten_cons, e, List.getElem?_append_right (by omega)]
      rw [show x.length + (i * size + j) - x.length = i * size + j by omega]; exact this
theorem flatN_len {size : Nat} (css : List (List Value)) (h4 : ∀ x ∈ css, x.length = size) : css.flatten.length = css.length * size := by
  induction css with
  | nil => simp
  | cons x xs ih => rw [List.flatten_cons, List.length_append, ih (fun y hy => h4 y (by simp [hy])), h4 x (by simp), List.length_cons, Nat.add_mul]; omega
structure RdLaw {α : Type} (R : List Nat → World → List Value → α → Prop) (size : Nat) : Prop where
  len : ∀ {M w cs x}, R M w cs x → cs.length = size
  one : ∀ {M w cs x}, R M w cs x → ∀ u ∈ cs, u.oneCell' = true
  keep : ∀ {M w w' cs x}, Keep M w w' → R M w cs x → R M w' cs x
  more : ∀ {M M' w cs x}, (∀ g ∈ M', g ∈ M ∨ w.heap.size ≤ g) → R M w cs x → R M' w cs x
section
variable {α : Type} {R : List Nat → World → List Value → α → Prop} {size : Nat}
def RowR (R : List Nat → World → List Value → α → Prop) (size : Nat) (M : List Nat) (w : World) (G : Option Nat) (cs : List Value) (v : Value) (l : List α) : Prop :=
  ∃ css : List (List Value), css.length = l.length ∧ (∀ x ∈ css, x.length = size) ∧ RowV G size l.length cs v css.flatten ∧ ∀ (i : Nat) (x : α), l[i]? = some x → ∃ c, css[i]? = some c ∧ R (G.toList ++ M) w c x
theorem RowR.keep (hL : RdLaw R size) {M : List Nat} {w w' : World} {G : Option Nat} {cs : List Value} {v : Value} {l : List α} (h : RowR R size M w G cs v l) (hk : Keep (G.toList ++ M) w w') : RowR R size M w' G cs v l := by
  obtain ⟨css, h1, h2, h3, h4⟩ := h
  refine ⟨css, h1, h2, h3, fun i x hi => ?_⟩
  obtain ⟨c, h5, h6⟩ := h4 i x hi
  exact ⟨c, h5, hL.keep hk h6⟩
theorem RowR.nil {M : List Nat} {w : World} : RowR R size M w none [] (.slice none 0 0) [] := ⟨[], rfl, by simp, RowV.nil size, fun i x hi => by simp at hi⟩
theorem RowR.new {M : List Nat} {w : World} {g : Nat} : RowR R size M w (some g) [] (.slice (some ⟨g, 0, none⟩) 0 0) [] :=
  ⟨[], rfl, by simp, ⟨by simp, .inr ⟨g, 0, rfl, rfl, Nat.le_refl _, by unfold maxLen; omega, by simp, by simp⟩⟩, fun i x hi => by simp at hi⟩
theorem RowR.form {M : List Nat} {w : World} {G : Option Nat} {cs : List Value} {v : Value} {l : List α} (h : RowR R size M w G cs v l) : ∃ A c, v = .slice A l.length c := by
  obtain ⟨css, h1, h2, ⟨h3, hr⟩, h4⟩ := h
  rcases hr with ⟨_, rfl, h0⟩ | ⟨g, cap, _, rfl, _⟩
  · exact ⟨_, _, by rw [h0]⟩
  · exact ⟨_, _, rfl⟩
theorem RowR.rd (hL : RdLaw R size) {M M' : List Nat} {w0 w : World} {L : List Ent} {k el : Nat} {G : Option Nat} {cs : List Value} {v : Value} {l : List α} (h : RowR R size M w G cs v l) (S : St M' w0 w L) (hk : L[k]? = some (G, el, cs)) (hM : ∀ g, G = some g → g ∉ M) (hl : l.length ≤ 1000000) : RdS M w size (R M w) v l := by
  obtain ⟨css, h1, h2, ⟨h3, hr⟩, h4⟩ := h
  rcases hr with ⟨rfl, rfl, h0⟩ | ⟨g, cap, rfl, rfl, q1, q2, q3, q4⟩
  · exact ⟨none, 0, 0, rfl, by omega, by omega, by unfold maxLen; omega, by omega, fun h => absurd h (by omega)⟩
  · refine ⟨_, _, _, rfl, rfl, q1, q2, by omega, fun _ => ⟨g, 0, rfl, hM g rfl, fun i x hi => ?_⟩⟩
    obtain ⟨c, h5, h6⟩ := h4 i x hi
    refine ⟨c, h2 c (List.mem_of_getElem? h5), fun j u hj => ?_, hL.more (fun x hx => .inl (by simp [hx])) h6⟩
    have hf := flatN css i c h2 h5 j u hj
    have hlt : i * size + j < l.length * size := by
      have := (List.getElem?_eq_some_iff.1 hf).1
      rw [flatN_len css h2, h1] at this; exact this
    rw [← q4, List.getElem?_take, if_pos hlt] at hf
    have := S.cell k hk hf
    simpa using this
theorem RowR.get {M M' : List Nat} {w0 w : World} {L : List Ent} {k el : Nat} {G : Option Nat} {cs : List Value} {v : Value} {l : List α} (h : RowR R size M w G cs v l) (S : St M' w0 w L) (hk : L[k]? = some (G, el, cs)) {i : Nat} {x : α} (hi : l[i]? = some x) :
    ∃ g cap c, G = some g ∧ v = .slice (some ⟨g, 0, none⟩) l.length cap ∧ c.length = size ∧ Cells w g (0 + i * size) c ∧ R (G.toList ++ M) w c x := by
  obtain ⟨css, h1, h2, ⟨h3, hr⟩, h4⟩ := h
  have hil := (List.getElem?_eq_some_iff.1 hi).1
  rcases hr with ⟨rfl, rfl, h0⟩ | ⟨g, cap, rfl, rfl, q1, q2, q3, q4⟩
  · omega
  · obtain ⟨c, h5, h6⟩ := h4 i x hi
    refine ⟨g, cap, c, rfl, rfl, h2 c (List.mem_of_getElem? h5), fun j u hj => ?_, h6⟩
    have hf := flatN css i c h2 h5 j u hj
    have hlt : i * size + j < l.length * size := by
      have := (List.getElem?_eq_some_iff.1 hf).1
      rw [flatN_len css h2, h1] at this; exact this
    rw [← q4, List.getElem?_take, if_pos hlt] at hf
    have := S.cell k hk hf
    simpa using this
variable {P : Program} {r : Option Nat} {N : Nat} {D : List Deferred} {e : Env} {w w0 : World} {ops : Array Oper} {rest : List Oper} {K : List Deferred → Env → World → Prop} {L : List Ent} {M : List Nat}
variable {d : Nat} {t : TypeId} {p : String} {af : Array Edge} {x y : Operand}
theorem o_appendR (hL : RdLaw R size) {M2 : List Nat} {ty el bytes k c b o m : Nat} {z v : Value} {G : Option Nat} {cs : List Value} {cs2 : List (List Value)} {l l2 : List α} (S : St M w0 w L) (hS : SlZ P ty el size z bytes) (hby : bytes ≤ 1000) (hk : L[k]? = some (G, el, cs)) (hR : RowR R size M2 w G cs v l)
    (hx : ev e x = v) (hy : ev e y = .slice (some ⟨b, o, none⟩) m c) (hm : m = l2.length) (hl2 : cs2.length = l2.length) (hnews : Cells w b o cs2.flatten) (he : ∀ (i : Nat) (x : α), l2[i]? = some x → ∃ c, cs2[i]? = some c ∧ R (G.toList ++ M2) w c x) (hll : l.length + l2.length ≤ 1000000) (hd : Nat.ble (d + 1) N = true)
    (h : ∀ v' G' cs' w1, St M w0 w1 (L.set k (G', el, cs')) → RowR R size M2 w1 G' cs' v' (l ++ l2) → Keep G.toList w w1 → (∀ g ∈ G'.toList, g ∈ G.toList ∨ w.heap.size ≤ g) → WL P r N ops rest K D (upd e d v') w1) :
    WL P r N ops (⟨some d, .call { callee := .builtin .append, args := #[x, y], argTypes := #[ty, ty] }, t, p, af, none⟩ :: rest) K D e w := by
  subst hm
  obtain ⟨css, c1, c2, c3, c4⟩ := hR
  have hat : ∀ x ∈ cs2, ∃ a, R (G.toList ++ M2) w x a := fun x hx => by
    obtain ⟨i, hi, rfl⟩ := List.getElem_of_mem hx
    obtain ⟨c, h5, h6⟩ := he i l2[i] (List.getElem?_eq_getElem (by omega))
    rw [List.getElem?_eq_getElem hi] at h5; cases h5
    exact ⟨_, h6⟩
  have hlen : ∀ x ∈ cs2, x.length = size := fun x hx => let ⟨_, ha⟩ := hat x hx; hL.len ha
  have hone : ∀ u ∈ cs2.flatten, u.oneCell' = true := fun u hu => by
    obtain ⟨x, hx, hu⟩ := List.mem_flatten.1 hu
    obtain ⟨_, ha⟩ := hat x hx
    exact hL.one ha u hu
  obtain ⟨i, hi, hz, hsz, hbb⟩ := hS.parts
  obtain ⟨hown, hG⟩ := c3.own S hk
  have hb2 : (l.length + l2.length) * bytes ≤ 140737488355328 := by
    have : (l.length + l2.length) * bytes ≤ 1000000 * 1000 := Nat.mul_le_mul (by omega) hby
    omega
  obtain ⟨v', w1, hrun, hown', hgrow, _, hblk⟩ := run_append_own_at (P := P) w 0 ty t el i z size bytes hS.und hi hz hsz hbb hS.zs hS.pos v l.length css.flatten hown ⟨b, o, none⟩ l2.length c cs2.flatten (by rw [flatN_len cs2 hlen, hl2])
    (fun j u hj => by rw [Addr.add_lit]; exact hnews j u hj) hone (by unfold maxLen; omega) hb2 (Nat.zero_le _)
  obtain ⟨G', cs', hR', hG', hnew⟩ := row_of_own hown'
  have hsame : ∀ q, q < w.heap.size → G ≠ some q → w1.heap[q]? = w.heap[q]? := fun q hq hne => hgrow.block q hq (fun hh => hne (by rw [← hG, ← hh]))
  have hbelow : BelowB M w0 w1 := ⟨hgrow.os.trans S.below.os, hgrow.tape.trans S.below.tape, hgrow.output.trans S.below.output, Nat.le_trans S.size hgrow.size, fun q hq hm =>
    (hsame q (Nat.lt_of_lt_of_le hq S.size) (fun hh => by
      subst hh
      rcases S.new k hk with h' | h'
      · omega
      · exact hm h')).trans (S.below.block q hq hm)⟩
  have hkeep : Keep G.toList w w1 := ⟨hgrow.size, fun q hq hm => hsame q hq (fun hh => hm (by rw [hh]; simp))⟩
  have hfresh : ∀ g ∈ G'.toList, g ∈ G.toList ∨ w.heap.size ≤ g := by
    intro g hg
    have hg' : G' = some g := by cases G' with
      | none => simp at hg
      | some q => simp at hg; rw [hg]
    rcases hblk with hb | hb
    · left; have hGg : G = some g := by rw [← hG, ← hb, hG']; exact hg'
      rw [hGg]; simp
    · rw [hG', hg'] at hb; cases hb; exact .inr (Nat.le_refl _)
  refine WL_val (v := v') (w' := w1) rfl rfl hd (by simp) ?_ (h v' G' cs' w1 (S.replace k hk hbelow hsame (fun g hg => ?_)) ?_ hkeep hfresh)
  · simp [execOp, resolve, invoke, builtin, hx, hy, hrun]
  · obtain ⟨_, h3⟩ := hnew g hg
    rcases hblk with hb | hb
    · have hGg : G = some g := by rw [← hG, ← hb, hG']; exact hg
      subst hGg
      exact ⟨S.new k hk, h3, .inl rfl⟩
    · have hg2 : G' = some g := hg
      rw [hG', hg2] at hb; cases hb
      exact ⟨.inl S.size, h3, .inr (Nat.le_refl _)⟩
  · have hmv : ∀ (e2 : α) (c : List Value), R (G.toList ++ M2) w c e2 → R (G'.toList ++ M2) w1 c e2 := by
      intro e2 c hr
      have h5 : R (G.toList ++ (G'.toList ++ M2)) w c e2 := hL.more (fun g hg => by
        rcases List.mem_append.1 hg with hg | hg
        · exact .inl (List.mem_append_left _ hg)
        · rcases List.mem_append.1 hg with hg | hg
          · rcases hfresh g hg with h | h
            · exact .inl (List.mem_append_left _ h)
            · exact .inr h
          · exact .inl (List.mem_append_right _ hg)) hr
      exact hL.more (fun g hg => .inl (List.mem_append_right _ hg)) (hL.keep (hkeep.mono (fun g hg => List.mem_append_left _ hg)) h5)
    refine ⟨css ++ cs2, by simp [c1, hl2], fun x hx => ?_, ?_, fun i x hi => ?_⟩
    · rcases List.mem_append.1 hx with hx | hx
      · exact c2 x hx
      · exact hlen x hx
    · have e1 : (l ++ l2).length = l.length + l2.length := by simp
      rw [e1, List.flatten_append]; exact hR'
    · by_cases hil : i < l.length
      · rw [List.getElem?_append_left hil] at hi
        obtain ⟨c, h5, h6⟩ := c4 i x hi
        exact ⟨c, by rw [List.getElem?_append_left (by omega)]; exact h5, hmv _ _ h6⟩
      · rw [List.getElem?_append_right (by omega)] at hi
        obtain ⟨c, h5, h6⟩ := he _ x hi
        exact ⟨c, by rw [List.getElem?_append_right (by omega), c1]; exact h5, hmv _ _ h6⟩
theorem o_append1 (hL : RdLaw R size) {M2 : List Nat} {ty el bytes k c b o : Nat} {z v : Value} {G : Option Nat} {cs news : List Value} {l : List α} {e1 : α} (S : St M w0 w L) (hS : SlZ P ty el size z bytes) (hby : bytes ≤ 1000) (hk : L[k]? = some (G, el, cs)) (hR : RowR R size M2 w G cs v l)
    (hx : ev e x = v) (hy : ev e y = .slice (some ⟨b, o, none⟩) 1 c) (hnews : Cells w b o news) (he : R (G.toList ++ M2) w news e1) (hll : l.length + 1 ≤ 1000000) (hd : Nat.ble (d + 1) N = true)
    (h : ∀ v' G' cs' w1, St M w0 w1 (L.set k (G', el, cs')) → RowR R size M2 w1 G' cs' v' (l ++ [e1]) → Keep G.toList w w1 → (∀ g ∈ G'.toList, g ∈ G.toList ∨ w.heap.size ≤ g) → WL P r N ops rest K D (upd e d v') w1) :
    WL P r N ops (⟨some d, .call { callee := .builtin .append, args := #[x, y], argTypes := #[ty, ty] }, t, p, af, none⟩ :: rest) K D e w :=
  o_appendR hL (cs2 := [news]) (l2 := [e1]) S hS hby hk hR hx hy rfl rfl (by simpa using hnews) (fun i x hi => by
    cases i with
    | zero => simp at hi; subst hi; exact ⟨news, rfl, he⟩
    | succ i => simp at hi) (by simpa using hll) hd h
end
theorem RdS.all {α : Type} {M : List Nat} {w : World} {size : Nat} {R : List Value → α → Prop} {A : Option Addr} {n c b o : Nat} {l : List α} (h : RdS M w size R (.slice A n c) l) (hA : A = some ⟨b, o, none⟩) (h0 : 0 < l.length) :
    ∃ css : List (List Value), css.length = l.length ∧ Cells w b o css.flatten ∧ ∀ (i : Nat) (x : α), l[i]? = some x → ∃ c, css[i]? = some c ∧ R c x := by
  obtain ⟨h1, _, _, _, h5⟩ := h.at
  obtain ⟨b', o', hA', hb, hel⟩ := h5 (by omega)
  rw [hA] at hA'; cases hA'
  have key : ∀ (l2 : List α) (q : Nat), (∀ i x, l2[i]? = some x → ∃ cs, cs.length = size ∧ Cells w b (q + i * size) cs ∧ R cs x) → ∃ css : List (List Value), css.length = l2.length ∧ Cells w b q css.flatten ∧ ∀ (i : Nat) (x : α), l2[i]? = some x → ∃ c, css[i]? = some c ∧ R c x := by
    intro l2
    induction l2 with
    | nil => intro q _; exact ⟨[], rfl, fun j v hj => by simp at hj, fun i x hi => by simp at hi⟩
    | cons a l2 ih =>
      intro q hq
      obtain ⟨cs, k1, k2, k3⟩ := hq 0 a rfl
      obtain ⟨css, m1, m2, m3⟩ := ih (q + size) (fun i x hi => by
        obtain ⟨cs, n1, n2, n3⟩ := hq (i + 1) x (by simpa using hi)
        exact ⟨cs, n1, by rw [show q + size + i * size = q + (i + 1) * size by rw [Nat.add_mul]; omega]; exact n2, n3⟩)
      refine ⟨cs :: css, by simp [m1], fun j v hj => ?_, fun i x hi => ?_⟩
      · rw [List.flatten_cons] at hj
        by_cases hjl : j < cs.length
        · rw [List.getElem?_append_left hjl] at hj
          have := k2 j v hj
          simpa using this
        · rw [List.getElem?_append_right (by omega)] at hj
          have := m2 (j - cs.length) v hj
          rw [show q + size + (j - cs.length) = q + j by omega] at this
          exact this
      · cases i with
        | zero => simp at hi; subst hi; exact ⟨cs, rfl, k3⟩
        | succ i =>
          obtain ⟨c, h1, h2⟩ := m3 i x (by simpa using hi)
          exact ⟨c, by simpa using h1, h2⟩
  exact key l o hel
end Go.Fw
namespace Go.Fw
open Go.RowKit
theorem RChoice.of {t s c : Int} (h1 : i64 t) (h2 : i64 s) (h3 : i64 c) : RChoice [.int .i64 t, .int .i64 s, .int .i64 c] ⟨t, s, c⟩ := ⟨rfl, h1, h2, h3⟩
theorem law_choice : RdLaw (fun (_ : List Nat) (_ : World) => RChoice) 3 where
  len h := by rw [h.1]; rfl
  one h u hu := by rw [h.1] at hu; simp at hu; rcases hu with rfl | rfl | rfl <;> rfl
  keep _ h := h
  more _ h := h
theorem law_int : RdLaw (fun (_ : List Nat) (_ : World) => RInt) 1 where
  len h := by rw [h.1]; rfl
  one h u hu := by rw [h.1] at hu; simp at hu; subst hu; rfl
  keep _ h := h
  more _ h := h
theorem law_entry : RdLaw REntry 2 where
  len h := by obtain ⟨_, _, rfl, _⟩ := h; rfl
  one h u hu := by
    obtain ⟨_, _, _, _, _, _, rfl, _⟩ := h.open_
    simp at hu; rcases hu with rfl | rfl <;> rfl
  keep hk h := REntry.keep hk _ _ h
  more hm h := REntry.more hm _ _ h
def RConf (M : List Nat) (w : World) (cs : List Value) (c : ConfD) : Prop := RdConf M w c cs
theorem law_conf : RdLaw RConf 3 where
  len h := by obtain ⟨_, _, _, rfl, _⟩ := h; rfl
  one h u hu := by
    obtain ⟨_, _, _, _, _, _, _, _, _, rfl, _⟩ := RdConf.open_ h
    simp at hu; rcases hu with rfl | rfl | rfl <;> rfl
  keep hk h := RdConf.keep hk h
  more hm h := RdConf.more hm h
theorem getD_some {α : Type} {l : List α} {i : Nat} {x d : α} (h : l[i]? = some x) : l.getD i d = x := by rw [List.getD_eq_getElem?_getD, h]; rfl
def noBuf (c : ConfD) : Prop := ∀ b ∈ c.buf, b = []
theorem noBuf.getD {c : ConfD} (h : noBuf c) (t : Nat) : c.buf.getD t [] = [] := by
  rw [List.getD_eq_getElem?_getD]
  cases hx : c.buf[t]? with
  | none => rfl
  | some b => exact h b (List.mem_of_getElem? hx)
theorem noBuf.view {c : ConfD} (h : noBuf c) (t : Nat) : viewC c t = c.mem := by unfold viewC; rw [h.getD]; rfl
theorem enabledC0 {p : ProgD} {c : ConfD} (h : noBuf c) (t : Nat) (s : StepD) : enabledC p 0 c t s = (decide (c.at_.getD t 0 = s.frm) && (decide (s.guard.evl c.mem c.mem = 1) &&
    (if s.kind = 6 then decide (c.at_.getD s.target.toNat 0 = -1) else if s.kind = 7 then decide (c.at_.getD s.target.toNat 0 = (p.threads.getD s.target.toNat ⟨ByteArray.empty, 0, [], [], [], [], false⟩).points - 1) else true))) := by
  unfold enabledC
  rw [h.view, h.getD, h.getD]
  congr 2
  split
  · rename_i h3; rw [if_neg (by omega), if_neg (by omega)]; simp
  · split
    · simp
    · split
      · simp
      · split
        · rfl
        · simp
@[simp] theorem setC_len (l : List AssignD) (v m : List Int) : (setC l v m).length = m.length := by
  unfold setC
  induction l generalizing m with
  | nil => rfl
  | cons a l ih => rw [List.foldl_cons, ih, List.length_set]
theorem setC_snoc (l : List AssignD) (a : AssignD) (v m : List Int) : setC (l ++ [a]) v m = (setC l v m).set a.cell.toNat (a.to.evl v v) := by unfold setC; rw [List.foldl_append]; rfl
theorem setC_next {l : List AssignD} {a : AssignD} {v m : List Int} {k i : Nat} (hx : l[k]? = some a) (hi : i = a.cell.toNat) : ((setC (l.take k) v m).map (Value.int .i64)).set i (.int .i64 (a.to.evl v v)) = (setC (l.take (k + 1)) v m).map (Value.int .i64) := by
  subst hi
  rw [take_some hx, setC_snoc, List.map_set]
theorem doC0 {p : ProgD} {c : ConfD} {t i : Nat} {th : ThreadD} {s : StepD} (h : noBuf c) (ht : p.threads[t]? = some th) (hs : th.steps[i]? = some s) : doC p 0 c ⟨t, i, 0⟩ = ⟨setC s.set c.mem c.mem, atC c t s, c.buf⟩ := by
  unfold doC
  have e1 : stepsC p t = th.steps := by unfold stepsC; rw [getD_some ht]
  rw [if_neg (by show ¬ ((i : Int) = -1); omega)]
  simp only [Int.toNat_natCast, e1, hs, execC, h.view]
  simp
def chStep (p : ProgD) (m : Int) (c : ConfD) (t i : Nat) : Bool := match (stepsC p t)[i]? with | some s => enabledC p m c t s | none => false
def stepsTo (p : ProgD) (m : Int) (c : ConfD) (t j : Nat) : List ChoiceD := ((List.range j).filter (chStep p m c t)).map fun (i : Nat) => (⟨t, i, 0⟩ : ChoiceD)
def commsTo (m : Int) (c : ConfD) (t j : Nat) : List ChoiceD := ((List.range j).filter (readyC m (c.buf.getD t []))).map fun (i : Nat) => (⟨t, -1, ((c.buf.getD t []).getD i ⟨[], []⟩).cells.getD 0 0⟩ : ChoiceD)
def choicesTo (p : ProgD) (m : Int) (c : ConfD) (k : Nat) : List ChoiceD := (List.range k).flatMap (choicesT p m c)
theorem choicesT_eq (p : ProgD) (m : Int) (c : ConfD) (t : Nat) : choicesT p m c t = stepsTo p m c t (stepsC p t).length ++ commsTo m c t (c.buf.getD t []).length := rfl
theorem choicesTo_succ (p : ProgD) (m : Int) (c : ConfD) (k : Nat) : choicesTo p m c (k + 1) = choicesTo p m c k ++ choicesT p m c k := by
  unfold choicesTo; rw [List.range_succ, List.flatMap_append]; simp
theorem stepsTo_succ {p : ProgD} {m : Int} {c : ConfD} {t j : Nat} {s : StepD} (h : (stepsC p t)[j]? = some s) : stepsTo p m c t (j + 1) = stepsTo p m c t j ++ (if enabledC p m c t s then [⟨t, j, 0⟩] else []) := by
  unfold stepsTo
  rw [List.range_succ, List.filter_append, List.map_append]
  have : chStep p m c t j = enabledC p m c t s := by unfold chStep; rw [h]
  congr 1
  cases he : enabledC p m c t s <;> simp [this, he]
theorem stepsTo_yes {p : ProgD} {m : Int} {c : ConfD} {t j : Nat} {th : ThreadD} {s : StepD} (h : p.threads[t]? = some th) (hs : th.steps[j]? = some s) (he : enabledC p m c t s = true) : stepsTo p m c t (j + 1) = stepsTo p m c t j ++ [⟨t, j, 0⟩] := by
  rw [stepsTo_succ (by rw [show stepsC p t = th.steps by unfold stepsC; rw [getD_some h]]; exact hs), he, if_pos rfl]
theorem stepsTo_no {p : ProgD} {m : Int} {c : ConfD} {t j : Nat} {th : ThreadD} {s : StepD} (h : p.threads[t]? = some th) (hs : th.steps[j]? = some s) (he : enabledC p m c t s = false) : stepsTo p m c t (j + 1) = stepsTo p m c t j := by
  rw [stepsTo_succ (by rw [show stepsC p t = th.steps by unfold stepsC; rw [getD_some h]]; exact hs), he]; simp
theorem stepsTo_len (p : ProgD) (m : Int) (c : ConfD) (t j : Nat) : (stepsTo p m c t j).length ≤ j := by
  unfold stepsTo
  have := List.length_filter_le (chStep p m c t) (List.range j)
  simpa using this
theorem commsTo_len (m : Int) (c : ConfD) (t j : Nat) : (commsTo m c t j).length ≤ j := by
  unfold commsTo
  have := List.length_filter_le (readyC m (c.buf.getD t [])) (List.range j)
  simpa using this
theorem stepsC_some {p : ProgD} {t : Nat} {th : ThreadD} (h : p.threads[t]? = some th) : stepsC p t = th.steps := by unfold stepsC; rw [getD_some h]
theorem choicesTo_len {p : ProgD} (hp : ProgOK p) {c : ConfD} (hf : FitC p c) (m : Int) : ∀ k, k ≤ p.threads.length → (choicesTo p m c k).length ≤ k * 67
  | 0, _ => by simp [choicesTo]
  | k + 1, hk => by
    have ih := choicesTo_len hp hf m k (by omega)
    rw [choicesTo_succ, choicesT_eq]
    have h1 := stepsTo_len p m c k (stepsC p k).length
    have h2 := commsTo_len m c k (c.buf.getD k []).length
    have hth : p.threads[k]? = some p.threads[k] := List.getElem?_eq_getElem hk
    rw [stepsC_some hth] at h1 ⊢
    have h3 := (hp.threads k hk).nsteps
    have hkb : k < c.buf.length := by rw [hf.nbuf]; exact hk
    have hb : c.buf[k]? = some c.buf[k] := List.getElem?_eq_getElem hkb
    rw [getD_some hb] at h2 ⊢
    have h4 := (hf.bufs k _ hb).1
    simp only [List.length_append]
    omega
theorem choicesTo_all (p : ProgD) (m : Int) (c : ConfD) : choicesTo p m c p.threads.length = choicesC p m c := rfl
end Go.Fw
namespace Go.Proofs.YtgnbfmifjlnigaaGreatDoor
open Go.Fw Go.RowKit
theorem machEnabled_fn (p : ProgD) (c : ConfD) (t i : Nat) (th : ThreadD) (s : StepD) (M : List Nat) (w0 : World) (cs xs : List Value) (hI : InP p M w0 cs) (hX : RdConf M w0 c xs) (hf : FitC p c) (he : noBuf c) (hxth : p.threads[t]? = some th) (hxs : th.steps[i]? = some s) :
    Does Tryz.prog 63 #[.agg cs.toArray, .agg xs.toArray, .int .i64 t, .int .i64 i] w0 fun v w' => v = .bool (enabledC p 0 c t s) ∧ Below w0.heap.size w0 w' := by
  obtain ⟨Ac, nc, cc, Am, nm, cm, Al, nl, cl, At, nt, ct, rfl, hC, hMo, hLk, hTh, hnc, hnm, hnl, hnt, bc, bm, bl, bt⟩ := hI.rd.open_
  obtain ⟨Xm, xm, ym, Xa, xa, ya, Xb, xb, yb, rfl, hMem, hAt, hBuf, hxm, hxa, hxb, b1, b2, b3⟩ := hX.open_
  have S := St.refl w0
  have f2 := hf.nat
  have hp := hI.ok
  have ht := some_lt hxth
  have hi := some_lt hxs
  have hto := hp.thread hxth
  have hso := hto.steps s (some_mem hxs)
  have hk6 : 6 ≤ s.kind → 0 ≤ s.target ∧ s.target < p.threads.length := fun h => (hso.row.k6 h).1
  refine Does_enter Tryz.func63 rfl Tryz.ntmps63 rfl ?_
  refine W_seq ?_
  refine W_region ?_
  refine o_boxa S (by conv => lhs; whnf) rfl ?_
  intro g4 w4 S4 X4 G4
  refine o_boxa S4 (by conv => lhs; whnf) rfl ?_
  intro g5 w5 S5 X5 G5
  refine o_assign (v := .bool _) rfl rfl ?_
  refine WL_nil ?_
  refine W_seq ?_
  refine W_region ?_
  refine o_fieldAddr fa_36_3 rfl rfl ?_
  refine o_load one_34 rfl (by exact S5.cell 1 rfl rfl) rfl ?_
  refine o_move (v := .int .i64 _) rfl rfl ?_
  obtain ⟨x13, b13, p13, c13, hx13, hA13, hM13, hl13, hc13, hr13⟩ := RdS.get (hTh) (t) (by omega)
  obtain rfl := Option.some.inj (hxth.symm.trans hx13)
  obtain ⟨Aa13, na13, ca13, Am13, nm13, cm13, As13, ns13, cs13, Al13, nl13, cl13, rfl, ip13, hEs13, hMs13, hSt13, hLo13, hna13, hnm13, hns13, hnl13, ba13, bm13, bs13, bl13⟩ := RThread.open_ hr13
  refine o_indexAddr slz_34.slT rfl (by assumption) rfl (by omega) (by omega) rfl ?_
  refine o_fieldAddr fa_83_4 rfl rfl ?_
  refine o_load one_80 rfl (by exact S5.old (hc13 _ _ rfl)) rfl ?_
  refine o_move (v := .int .i64 _) rfl rfl ?_
  obtain ⟨x17, b17, p17, c17, hx17, hA17, hM17, hl17, hc17, hr17⟩ := RdS.get (hSt13) (i) (by omega)
  obtain rfl := Option.some.inj (hxs.symm.trans hx17)
  obtain ⟨Ag17, ng17, cg17, As17, ns17, cs17, rfl, ⟨i117, i217, i317, i417, i517⟩, hG17, hSet17, hns17, bs17⟩ := RStep.open_ hr17
  refine o_indexAddr slz_80.slT rfl (by assumption) rfl (by omega) (by omega) rfl ?_
  refine o_loadN many_112 rfl (hc17.keep (S5.keep0 _) hM17) (by rfl) rfl ?_
  refine o_alloc S5 zv_112 rfl rfl ?_
  intro g9 w9 S9 X9 G9
  refine o_storeN (kk := 0) (vs := [_, _, _, _, _, _, _, _, _, _, _]) S9 sz_112 rfl rfl rfl rfl rfl rfl rfl ?_
  intro w1_10 S1_10 X1_10
  dsimp only [setsAt, List.set] at S1_10
  refine WL_nil ?_
  refine W_seq ?_
  refine W_seq ?_
  refine W_draw follows_mixed [0, 1, 2, 3, 4, 5, 6, 7, 8, 9, 10, 11, 12, 13, 14, 15, 16, 17] [] [] (by kernel_rfl) rfl (Cl _ _ _ _) (Cl.start S1_10) ?_
  refine q_fieldAddr fa_46_1 rfl rfl ?_
  refine q_load one_43 rfl (fun w1 hw => by exact hw.1.cell 1 rfl rfl) rfl ?_
  refine q_move (v := .int .i64 _) rfl rfl ?_
  obtain ⟨a, b22, p22, c22, hxa, hA22, hM22, hl22, hc22, hr22⟩ := RdS.get (hAt) (t) (by omega)
  obtain ⟨rfl, i122⟩ := id hr22
  refine q_indexAddr slz_43.slT rfl (by assumption) rfl (by omega) (by omega) rfl ?_
  refine q_load one_3 rfl (fun w1 hw => by exact hw.1.old (hc22 0 _ rfl)) rfl ?_
  refine q_fieldAddr fa_112_1 rfl rfl ?_
  refine q_load one_3 rfl (fun w1 hw => by exact hw.1.cell 0 rfl rfl) rfl ?_
  refine q_neq rfl rfl rfl (fun h26 => ?_) (fun h26 => ?_)
  · refine q_move (v := .bool _) rfl rfl ?_
    refine QL_off rfl rfl rfl ?_
    refine QL_off rfl rfl rfl ?_
    refine QL_off rfl rfl rfl ?_
    refine QL_off rfl rfl rfl ?_
    refine QL_off rfl rfl rfl ?_
    refine QL_off rfl rfl rfl ?_
    refine QL_off rfl rfl rfl ?_
    refine QL_off rfl rfl rfl ?_
    refine q_pick rfl (v := .bool _) rfl rfl ?_
    refine QL_nil ?_
    refine BK_of ?_
    refine BKL_nil ?_
    rintro wR2 ⟨SR2, XR2⟩
    refine WL_nil ?_
    refine W_then rfl ?_
    refine W_seq ?_
    refine W_region ?_
    refine o_assign (v := .bool _) rfl rfl ?_
    refine WL_nil ?_
    refine W_ret ?_
    refine ret_1 rfl (by conv => lhs; whnf) ?_
    refine ⟨congrArg Value.bool ?_, SR2.fin⟩
    rw [enabledC0 he, getD_some hxa]
    simp [h26]; done
  refine q_move (v := .bool _) rfl rfl ?_
  refine QL_on rfl rfl ?_
  refine q_fieldAddr fa_112_3 rfl rfl ?_
  refine QL_on rfl rfl ?_
  refine q_loadN many_73 rfl (cs := [_, _, _, _]) (fun w1 hw => hw.1.cellsAt 0 3 4 rfl) rfl rfl ?_
  refine QL_on rfl rfl ?_
  refine q_fieldAddr fa_46_0 rfl rfl ?_
  refine QL_on rfl rfl ?_
  refine q_load one_43 rfl (fun w1 hw => by exact hw.1.cell 1 rfl rfl) rfl ?_
  refine QL_on rfl rfl ?_
  refine q_fieldAddr fa_46_0 rfl rfl ?_
  refine QL_on rfl rfl ?_
  refine q_load one_43 rfl (fun w1 hw => by exact hw.1.cell 1 rfl rfl) rfl ?_
  refine QL_on rfl rfl ?_
  refine q_callr has_64 rfl rfl (fun w1 S1 X1 => eval_fn s.guard M _ _ _ _ c.mem c.mem (RdE.keep (S1.keep0 M) _ _ hG17) (hI.keep (S1.keep0 M)).msk (hMem.keep (S1.keep0 M)) (hMem.keep (S1.keep0 M))) ?_
  refine QL_on rfl rfl ?_
  refine q_neq rfl rfl rfl (fun h35 => ?_) (fun h35 => ?_)
  · refine q_pick rfl (v := .bool _) rfl rfl ?_
    refine QL_nil ?_
    refine BK_of ?_
    refine BKL_nil ?_
    rintro wR2 ⟨SR2, XR2⟩
    refine WL_nil ?_
    refine W_then rfl ?_
    refine W_seq ?_
    refine W_region ?_
    refine o_assign (v := .bool _) rfl rfl ?_
    refine WL_nil ?_
    refine W_ret ?_
    refine ret_1 rfl (by conv => lhs; whnf) ?_
    refine ⟨congrArg Value.bool ?_, SR2.fin⟩
    rw [enabledC0 he, getD_some hxa]
    simp [h26, h35]; done
  refine q_pick rfl (v := .bool _) rfl rfl ?_
  refine QL_nil ?_
  refine BK_of ?_
  refine BKL_nil ?_
  rintro wR2 ⟨SR2, XR2⟩
  refine WL_nil ?_
  refine W_else rfl ?_
  refine W_skip ?_
  refine W_seq ?_
  refine W_seq ?_
  refine W_region ?_
  refine o_fieldAddr fa_112_0 rfl rfl ?_
  refine o_load one_3 rfl (by exact SR2.cell 0 rfl rfl) rfl ?_
  refine WL_nil ?_
  refine W_block ?_
  refine W_seq ?_
  refine W_region ?_
  refine o_eql rfl rfl rfl (fun h40 => ?_) (fun h40 => ?_)
  · refine o_assign (v := .bool _) rfl rfl ?_
    refine WL_nil ?_
    refine W_then rfl ?_
    refine W_seq ?_
    refine W_region ?_
    refine o_fieldAddr fa_46_1 rfl rfl ?_
    refine o_load one_43 rfl (by exact SR2.cell 1 rfl rfl) rfl ?_
    refine o_fieldAddr fa_112_6 rfl rfl ?_
    refine o_load one_3 rfl (by exact SR2.cell 0 rfl rfl) rfl ?_
    have q6 := hk6 (by omega)
    obtain ⟨b, b45, p45, c45, hxb, hA45, hM45, hl45, hc45, hr45⟩ := RdS.get (hAt) (s.target.toNat) (by omega)
    obtain ⟨rfl, i145⟩ := id hr45
    refine o_indexAddr slz_43.slT rfl (by assumption) rfl (by omega) (by omega) rfl ?_
    refine o_load one_3 rfl (by exact SR2.old (hc45 0 _ rfl)) rfl ?_
    refine o_eql rfl rfl rfl (fun h47 => ?_) (fun h47 => ?_)
    · refine o_assign (v := .bool _) rfl rfl ?_
      refine WL_nil ?_
      refine W_ret ?_
      refine ret_1 rfl (by conv => lhs; whnf) ?_
      refine ⟨congrArg Value.bool ?_, SR2.fin⟩
      rw [enabledC0 he, getD_some hxa]
      simp [h26, h35, h40, hxb, h47]; done
    refine o_assign (v := .bool _) rfl rfl ?_
    refine WL_nil ?_
    refine W_ret ?_
    refine ret_1 rfl (by conv => lhs; whnf) ?_
    refine ⟨congrArg Value.bool ?_, SR2.fin⟩
    rw [enabledC0 he, getD_some hxa]
    simp [h26, h35, h40, hxb, h47]; done
  refine o_assign (v := .bool _) rfl rfl ?_
  refine WL_nil ?_
  refine W_else rfl ?_
  refine W_seq ?_
  refine W_region ?_
  refine o_eql rfl rfl rfl (fun h49 => ?_) (fun h49 => ?_)
  · refine o_assign (v := .bool _) rfl rfl ?_
    refine WL_nil ?_
    refine W_then rfl ?_
    refine W_seq ?_
    refine W_draw follows_mixed [0, 1, 2, 3, 4, 5, 6, 7, 8, 9, 10, 11, 12, 13, 14, 15] [] [] (by kernel_rfl) rfl (Cl _ _ _ _) (Cl.start SR2) ?_
    refine q_fieldAddr fa_46_1 rfl rfl ?_
    refine q_load one_43 rfl (fun w1 hw => by exact hw.1.cell 1 rfl rfl) rfl ?_
    refine q_fieldAddr fa_112_6 rfl rfl ?_
    refine q_load one_3 rfl (fun w1 hw => by exact hw.1.cell 0 rfl rfl) rfl ?_
    have q6 := hk6 (by omega)
    obtain ⟨b, b54, p54, c54, hxb, hA54, hM54, hl54, hc54, hr54⟩ := RdS.get (hAt) (s.target.toNat) (by omega)
    obtain ⟨rfl, i154⟩ := id hr54
    refine q_indexAddr slz_43.slT rfl (by assumption) rfl (by omega) (by omega) rfl ?_
    refine q_load one_3 rfl (fun w1 hw => by exact hw.1.old (hc54 0 _ rfl)) rfl ?_
    refine q_fieldAddr fa_36_3 rfl rfl ?_
    refine q_load one_34 rfl (fun w1 hw => by exact hw.1.cell 2 rfl rfl) rfl ?_
    refine q_fieldAddr fa_112_6 rfl rfl ?_
    refine q_load one_3 rfl (fun w1 hw => by exact hw.1.cell 0 rfl rfl) rfl ?_
    obtain ⟨u, b60, p60, c60, hxu, hA60, hM60, hl60, hc60, hr60⟩ := RdS.get (hTh) (s.target.toNat) (by omega)
    obtain ⟨Aa60, na60, ca60, Am60, nm60, cm60, As60, ns60, cs60, Al60, nl60, cl60, rfl, ip60, hEs60, hMs60, hSt60, hLo60, hna60, hnm60, hns60, hnl60, ba60, bm60, bs60, bl60⟩ := RThread.open_ hr60
    have q7 := (hp.thread hxu).points
    refine q_indexAddr slz_34.slT rfl (by assumption) rfl (by omega) (by omega) rfl ?_
    refine q_fieldAddr fa_83_1 rfl rfl ?_
    refine q_load one_3 rfl (fun w1 hw => by exact hw.1.old (hc60 _ _ rfl)) rfl ?_
    refine q_sub rfl rfl (by unfold i64; omega) rfl ?_
    refine q_eql rfl rfl rfl (fun h64 => ?_) (fun h64 => ?_)
    · refine q_assign (v := .bool _) rfl rfl ?_
      refine QL_nil ?_
      refine BK_of ?_
      refine BKL_nil ?_
      rintro wR8 ⟨SR8, XR8⟩
      refine WL_nil ?_
      refine W_ret ?_
      refine ret_1 rfl (by conv => lhs; whnf) ?_
      refine ⟨congrArg Value.bool ?_, SR8.fin⟩
      rw [enabledC0 he, getD_some hxa]
      simp [h26, h35, h49, hxb, hxu, h64]; done
    refine q_assign (v := .bool _) rfl rfl ?_
    refine QL_nil ?_
    refine BK_of ?_
    refine BKL_nil ?_
    rintro wR8 ⟨SR8, XR8⟩
    refine WL_nil ?_
    refine W_ret ?_
    refine ret_1 rfl (by conv => lhs; whnf) ?_
    refine ⟨congrArg Value.bool ?_, SR8.fin⟩
    rw [enabledC0 he, getD_some hxa]
    simp [h26, h35, h49, hxb, hxu, h64]; done
  refine o_assign (v := .bool _) rfl rfl ?_
  refine WL_nil ?_
  refine W_else rfl ?_
  refine W_skip ?_
  refine W_seq ?_
  refine W_region ?_
  refine o_assign (v := .bool _) rfl rfl ?_
  refine WL_nil ?_
  refine W_ret ?_
  refine ret_1 rfl (by conv => lhs; whnf) ?_
  refine ⟨congrArg Value.bool ?_, SR2.fin⟩
  rw [enabledC0 he, getD_some hxa]
  simp [h26, h35, h40, h49]; done
theorem machChoices_fn (p : ProgD) (c : ConfD) (M : List Nat) (w0 : World) (cs xs : List Value) (hI : InP p M w0 cs) (hX : RdConf M w0 c xs) (hf : FitC p c) (he : noBuf c) :
    Does Tryz.prog 37 #[.agg cs.toArray, .agg xs.toArray] w0 fun v w' => RdCh M w' v (choicesC p 0 c) ∧ Below w0.heap.size w0 w' := by
  obtain ⟨Ac, nc, cc, Am, nm, cm, Al, nl, cl, At, nt, ct, rfl, hC, hMo, hLk, hTh, hnc, hnm, hnl, hnt, bc, bm, bl, bt⟩ := hI.rd.open_
  obtain ⟨Xm, xm, ym, Xa, xa, ya, Xb, xb, yb, rfl, hMem, hAt, hBuf, hxm, hxa, hxb, b1, b2, b3⟩ := hX.open_
  have S := (St.refl w0).nilEnt 53
  have hp := hI.ok
  have n2 := hp.nthreads
  refine Does_enter Tryz.func37 rfl Tryz.ntmps37 rfl ?_
  refine W_seq ?_
  refine W_region ?_
  refine o_boxa S (by conv => lhs; whnf) rfl ?_
  intro g2 w2 S2 X2 G2
  refine o_boxa S2 (by conv => lhs; whnf) rfl ?_
  intro g3 w3 S3 X3 G3
  refine o_assign (by conv => lhs; whnf) rfl ?_
  refine WL_nil ?_
  refine W_seq ?_
  refine W_region ?_
  refine o_assign (by conv => lhs; whnf) rfl ?_
  refine WL_nil ?_
  refine W_seq ?_
  refine W_seq ?_
  refine W_region ?_
  refine o_fieldAddr fa_36_3 rfl rfl ?_
  refine o_load one_34 rfl (by exact S3.cell 1 rfl rfl) rfl ?_
  refine o_len slz_34.slT rfl rfl ?_
  refine o_move (v := .int .i64 _) rfl rfl ?_
  refine WL_nil ?_
  refine W_block ?_
  refine W_loop (fun μk D ε w => D = [] ∧ ∃ k : Nat, ∃ G : Option Nat, ∃ cs' : List Value, ∃ v : Value, (k + μk = (p.threads.length)) ∧ (RowR (fun _ _ => RChoice) 3 [] w0 G cs' v (choicesTo p 0 c k)) ∧ St [] w0 w [(some g3, 46, [.slice Xm xm ym, .slice Xa xa ya, .slice Xb xb yb]), (some g2, 36, [.slice Ac nc cc, .slice Am nm cm, .slice Al nl cl, .slice At nt ct]), (G, 53, cs')] ∧ ε 2 = .pointer (some ⟨g2, 0, none⟩) ∧ ε 3 = .pointer (some ⟨g3, 0, none⟩) ∧ ε 5 = v ∧ ε 10 = .int .i64 nt ∧ ε 11 = .int .i64 k) (μ := (p.threads.length)) ⟨rfl, 0, none, [], .slice none 0 0, by omega, RowR.nil, S3, rfl, rfl, rfl, rfl, rfl⟩ ?_
  rintro μk D ε w ⟨rfl, k, G, cs', v, hk, hrow, S, e2, e3, e5, e10, e11⟩
  refine W_known 2 e2 ?_
  refine W_known 3 e3 ?_
  refine W_known 5 e5 ?_
  refine W_known 10 e10 ?_
  refine W_known 11 e11 ?_
  clear e2 e3 e5 e10 e11
  refine W_seq ?_
  refine W_region ?_
  refine o_lss rfl rfl rfl (fun h12 => ?_) (fun h12 => ?_)
  · refine WL_nil ?_
    refine W_seq ?_
    refine W_then rfl ?_
    refine W_skip ?_
    refine W_seq ?_
    refine W_block ?_
    refine W_seq ?_
    refine W_region ?_
    refine o_move (v := .int .i64 _) rfl rfl ?_
    refine o_assign (v := .int .i64 _) rfl rfl ?_
    refine WL_nil ?_
    refine W_seq ?_
    refine W_region ?_
    refine o_fieldAddr fa_36_3 rfl rfl ?_
    refine o_load one_34 rfl (by exact S.cell 1 rfl rfl) rfl ?_
    refine o_move (v := .int .i64 _) rfl rfl ?_
    obtain ⟨th, b17, p17, c17, hxth, hA17, hM17, hl17, hc17, hr17⟩ := RdS.get (hTh) (k) (by omega)
    obtain ⟨Aa17, na17, ca17, Am17, nm17, cm17, As17, ns17, cs17, Al17, nl17, cl17, rfl, ip17, hEs17, hMs17, hSt17, hLo17, hna17, hnm17, hns17, hnl17, ba17, bm17, bs17, bl17⟩ := RThread.open_ hr17
    have hns := (hp.thread hxth).nsteps
    refine o_indexAddr slz_34.slT rfl (by assumption) rfl (by omega) (by omega) rfl ?_
    refine o_fieldAddr fa_83_4 rfl rfl ?_
    refine o_load one_80 rfl (by exact S.old (hc17 _ _ rfl)) rfl ?_
    refine o_len slz_80.slT rfl rfl ?_
    refine o_move (v := .int .i64 _) rfl rfl ?_
    refine WL_nil ?_
    refine W_block ?_
    refine W_loop (fun μj D ε w => D = [] ∧ ∃ j : Nat, ∃ G2 : Option Nat, ∃ cs2 : List Value, ∃ v2 : Value, (j + μj = (th.steps.length)) ∧ (RowR (fun _ _ => RChoice) 3 [] w0 G2 cs2 v2 (choicesTo p 0 c k ++ stepsTo p 0 c k j)) ∧ St [] w0 w [(some g3, 46, [.slice Xm xm ym, .slice Xa xa ya, .slice Xb xb yb]), (some g2, 36, [.slice Ac nc cc, .slice Am nm cm, .slice Al nl cl, .slice At nt ct]), (G2, 53, cs2)] ∧ ε 2 = .pointer (some ⟨g2, 0, none⟩) ∧ ε 3 = .pointer (some ⟨g3, 0, none⟩) ∧ ε 5 = v2 ∧ ε 6 = .int .i64 k ∧ ε 10 = .int .i64 nt ∧ ε 11 = .int .i64 k ∧ ε 20 = .int .i64 ns17 ∧ ε 21 = .int .i64 j) (μ := (th.steps.length)) ⟨rfl, 0, G, cs', v, by omega, by simpa [stepsTo] using hrow, S, rfl, rfl, rfl, rfl, rfl, rfl, rfl, rfl⟩ ?_
    rintro μj D ε w ⟨rfl, j, G2, cs2, v2, hj, hrow2, S, e2, e3, e5, e6, e10, e11, e20, e21⟩
    refine W_known 2 e2 ?_
    refine W_known 3 e3 ?_
    refine W_known 5 e5 ?_
    refine W_known 6 e6 ?_
    refine W_known 10 e10 ?_
    refine W_known 11 e11 ?_
    refine W_known 20 e20 ?_
    refine W_known 21 e21 ?_
    clear e2 e3 e5 e6 e10 e11 e20 e21
    refine W_seq ?_
    refine W_region ?_
    refine o_lss rfl rfl rfl (fun h22 => ?_) (fun h22 => ?_)
    · refine WL_nil ?_
      refine W_seq ?_
      refine W_then rfl ?_
      refine W_skip ?_
      refine W_seq ?_
      refine W_block ?_
      refine W_seq ?_
      refine W_region ?_
      refine o_move (v := .int .i64 _) rfl rfl ?_
      refine o_assign (v := .int .i64 _) rfl rfl ?_
      refine WL_nil ?_
      refine W_seq ?_
      refine W_region ?_
      refine o_loadN many_36 rfl (S.cells 1 rfl) rfl rfl ?_
      refine o_loadN many_46 rfl (S.cells 0 rfl) rfl rfl ?_
      refine o_move (v := .int .i64 _) rfl rfl ?_
      refine o_move (v := .int .i64 _) rfl rfl ?_
      obtain ⟨s, hxs⟩ : ∃ s, th.steps[j]? = some s := ⟨th.steps[j]'(by omega), List.getElem?_eq_getElem _⟩
      refine o_callb S has_63 rfl rfl (machEnabled_fn p c k j th s M _ _ _ (hI.keep (S.keep0 M)) (hX.keep (S.keep0 M)) hf he hxth hxs) (fun h28 w28 S28 X28 => ?_) (fun h28 w28 S28 X28 => ?_)
      · refine WL_nil ?_
        refine W_then rfl ?_
        refine W_region ?_
        refine o_move (by conv => lhs; whnf) rfl ?_
        refine o_move (v := .int .i64 _) rfl rfl ?_
        refine o_move (v := .int .i64 _) rfl rfl ?_
        refine o_build bld_53 (vs := [(0, .int .i64 _), (1, .int .i64 _)]) (cs := [_, _, _]) rfl rfl rfl rfl ?_
        refine o_buildSlice S28 slz_22 (vs := [.agg _]) (cs := [_, _, _]) (by rfl) rfl rfl rfl rfl rfl rfl ?_
        intro g33 w33 S33 X33 G33
        have l1 := choicesTo_len hp hf 0 k (by omega)
        have l2 := stepsTo_len p 0 c k j
        refine o_append1 law_choice (k := 3) (M2 := []) (e1 := ⟨k, j, 0⟩) S33 slz_22 (by decide) rfl hrow2 rfl rfl (S33.cells 0 rfl) (RChoice.of (by unfold i64; omega) (by unfold i64; omega) (by unfold i64; omega)) (by rw [List.length_append]; omega) rfl ?_
        intro v34 G34 cs34 w34 S34 hrow34 X34 F34
        refine o_assign (by conv => lhs; whnf) rfl ?_
        refine WL_nil ?_
        refine W_region ?_
        refine o_add rfl rfl (by unfold i64; omega) rfl ?_
        refine o_move (v := .int .i64 _) rfl rfl ?_
        refine WL_nil ?_
        refine ⟨μj - 1, by omega, rfl, (j + 1), (_), (_), (_), (by omega), ?_, S34.tail, rfl, rfl, rfl, rfl, rfl, rfl, rfl, rfl⟩
        rw [stepsTo_yes hxth hxs h28, ← List.append_assoc]; exact hrow34
      refine WL_nil ?_
      refine W_else rfl ?_
      refine W_skip ?_
      refine W_region ?_
      refine o_add rfl rfl (by unfold i64; omega) rfl ?_
      refine o_move (v := .int .i64 _) rfl rfl ?_
      refine WL_nil ?_
      refine ⟨μj - 1, by omega, rfl, (j + 1), (_), (_), (_), (by omega), ?_, S28, rfl, rfl, rfl, rfl, rfl, rfl, rfl, rfl⟩
      rw [stepsTo_no hxth hxs h28]; exact hrow2
    refine WL_nil ?_
    refine W_seq ?_
    refine W_else rfl ?_
    refine W_exit ?_
    refine bcons_here ?_
    refine W_region ?_
    refine o_add rfl rfl (by unfold i64; omega) rfl ?_
    refine o_move (v := .int .i64 _) rfl rfl ?_
    refine WL_nil ?_
    refine ⟨μk - 1, by omega, rfl, (k + 1), (_), (_), (_), (by omega), ?_, S, rfl, rfl, rfl, rfl, rfl⟩
    rw [choicesTo_succ, choicesT_eq, stepsC_some hxth, he.getD]
    rw [show th.steps.length = j by omega]
    rw [show stepsTo p 0 c k j ++ commsTo 0 c k ([] : List EntryD).length = stepsTo p 0 c k j by simp [commsTo]]
    exact hrow2
  refine WL_nil ?_
  refine W_seq ?_
  refine W_else rfl ?_
  refine W_exit ?_
  refine bcons_here ?_
  refine W_seq ?_
  refine W_region ?_
  refine o_move (by conv => lhs; whnf) rfl ?_
  refine o_assign (by conv => lhs; whnf) rfl ?_
  refine WL_nil ?_
  refine W_ret ?_
  refine ret_1 rfl (by conv => lhs; whnf) ?_
  obtain rfl : k = p.threads.length := by omega
  have l1 := choicesTo_len hp hf 0 _ (Nat.le_refl _)
  rw [choicesTo_all] at l1
  exact ⟨RowR.rd (M := M) law_choice hrow S (k := 2) rfl (fun g hg => by subst hg; exact fresh_not hI.lt (S.new 2 rfl)) (by omega), S.fin⟩
end Go.Proofs.YtgnbfmifjlnigaaGreatDoor
namespace Go.Fw
open Go.RowKit
section
variable {P : Program} {r : Option Nat} {N : Nat} {D : List Deferred} {e : Env} {w w0 : World} {ops : Array Oper} {rest : List Oper} {K : List Deferred → Env → World → Prop} {L : List Ent} {M : List Nat}
variable {d : Nat} {t : TypeId} {p : String} {af : Array Edge} {x y : Operand}
theorem RdI.oneCells {M' : List Nat} {A : Option Addr} {m c : Nat} {l : List Int} (h : RdI M' w (.slice A m c) l) (hm : 0 < m) : ∃ b o, A = some ⟨b, o, none⟩ ∧ Cells w b o (l.map (Value.int .i64)) := by
  obtain ⟨h1, _, _, _, h5⟩ := h.at
  obtain ⟨b, o, h6, h7, h8⟩ := h5 hm
  refine ⟨b, o, h6, fun j v hj => ?_⟩
  rw [List.getElem?_map, Option.map_eq_some_iff] at hj
  obtain ⟨a, ha, rfl⟩ := hj
  obtain ⟨cs, h9, h10, h11⟩ := h8 j a ha
  rw [h11.1] at h10
  have := h10 0 _ rfl
  simpa using this
theorem o_copyI {ty el bytes k n c g tb : Nat} {z : Value} {A : Option Addr} {cs : List Value} {l : List Int} {M' : List Nat} (S : St M w0 w L) (hS : SlZ P ty el 1 z bytes) (hk : L[k]? = some (some g, tb, cs)) (hx : ev e x = .slice (some ⟨g, 0, none⟩) n n) (hy : ev e y = .slice A n c) (hcs : cs.length = n)
    (hR : RdI M' w (.slice A n c) l) (hd : Nat.ble (d + 1) N = true)
    (h : ∀ w1, St M w0 w1 (L.set k (some g, tb, l.map (Value.int .i64))) → Keep [g] w w1 → WL P r N ops rest K D (upd e d (.int .i64 n)) w1) :
    WL P r N ops (⟨some d, .call { callee := .builtin .copy, args := #[x, y], argTypes := #[ty, ty] }, t, p, af, none⟩ :: rest) K D e w := by
  obtain ⟨i, hi, hz, hsz, hby⟩ := hS.parts
  have hs1 : (P.info? el).map (·.size) = some 1 := by rw [hi]; simp [hsz]
  have hn : n = l.length := hR.len.1
  by_cases h0 : n = 0
  · have e1 : l.map (Value.int .i64) = cs := by
      have a1 : l = [] := List.eq_nil_of_length_eq_zero (by omega)
      have a2 : cs = [] := List.eq_nil_of_length_eq_zero (by omega)
      rw [a1, a2]; rfl
    have hrun := run_copy_none (P := P) w ty ty t el (some ⟨g, 0, none⟩) A n n n c hS.und hs1 (by rw [h0]; rfl)
    have S' := S.setEnt k hk e1.symm
    refine WL_val (v := .int .i64 n) (w' := w) rfl rfl hd (by simp) ?_ (h w S' (Keep.refl _ _))
    subst h0
    simp [execOp, resolve, invoke, builtin, hx, hy, hrun, goInt]
  · obtain ⟨b, o, rfl, hc⟩ := hR.oneCells (by omega)
    have hrun := run_copy_row (P := P) w ty ty t el g 0 n n ⟨b, o, none⟩ n c cs.toArray tb (l.map (Value.int .i64)) hS.und hs1 (S.blk k hk) (by simp [hn]) (fun j v hj => by rw [Addr.add_lit]; exact hc j v hj) (by simp; omega)
      (fun v hv => by obtain ⟨a, _, rfl⟩ := List.mem_map.1 hv; rfl)
    have e1 : (cs.toArray.toList.take 0 ++ l.map (Value.int .i64) ++ cs.toArray.toList.drop (0 + (l.map (Value.int .i64)).length)).toArray = (l.map (Value.int .i64)).toArray := by
      have : cs.length ≤ l.length := by omega
      simp [List.drop_of_length_le this]
    rw [e1] at hrun
    have hb : BelowB [g] w (w.setRow g (l.map (Value.int .i64)).toArray) := ⟨rfl, rfl, rfl, by simp [World.setRow], fun q hq hm => setRow_other w g q _ (by simpa using hm)⟩
    refine WL_val (v := .int .i64 n) rfl rfl hd (by simp) ?_ (h _ (S.changed1 k hk hb (setRow_heap w g _ _ tb _ (S.blk k hk))) ⟨hb.size, fun q hq hm => hb.block q hq hm⟩)
    rw [List.length_map, ← hn] at hrun
    simp [execOp, resolve, invoke, builtin, hx, hy, hrun, goInt]
def Eq3 (P : Program) (ty : TypeId) : Prop := P.eqGuardType P.depth ty = false ∧ ∀ (w : World) (a b c a' b' c' : Int),
  (binOp .eql ty (.agg #[.int .i64 a, .int .i64 b, .int .i64 c]) (.agg #[.int .i64 a', .int .i64 b', .int .i64 c'])).run P w = .ok (.bool (decide (a = a' ∧ b = b' ∧ c = c'))) w
theorem o_eql3 {ty : TypeId} {a b c a' b' c' : Int} (hE : Eq3 P ty) (hx : ev e x = .agg #[.int .i64 a, .int .i64 b, .int .i64 c]) (hy : ev e y = .agg #[.int .i64 a', .int .i64 b', .int .i64 c']) (hd : Nat.ble (d + 1) N = true)
    (h1 : a = a' ∧ b = b' ∧ c = c' → WL P r N ops rest K D (upd e d (.bool true)) w) (h2 : ¬ (a = a' ∧ b = b' ∧ c = c') → WL P r N ops rest K D (upd e d (.bool false)) w) {yt : TypeId} :
    WL P r N ops (⟨some d, .binOp .eql ty x y yt, t, p, af, none⟩ :: rest) K D e w := by
  by_cases hh : a = a' ∧ b = b' ∧ c = c'
  · exact WL_val rfl rfl hd (by simp) (by simp only [execOp, hx, hy, Sem.run_bind, run_eqGuard_agg w _ _ _ _ _ _ hE.1, Result.andThen_ok, hE.2, Sem.run_pure, decide_eq_true hh]) (h1 hh)
  · exact WL_val rfl rfl hd (by simp) (by simp only [execOp, hx, hy, Sem.run_bind, run_eqGuard_agg w _ _ _ _ _ _ hE.1, Result.andThen_ok, hE.2, Sem.run_pure, decide_eq_false hh]) (h2 hh)
end
end Go.Fw
namespace Go.Proofs.YtgnbfmifjlnigaaGreatDoor
open Go.Fw Go.RowKit
theorem eq_choice : Eq3 Tryz.prog 53 := by
  refine ⟨Tryz.eqGuardType53, fun w a b c a' b' c' => ?_⟩
  have ht : Tryz.prog.underlying 53 = some (.struct (Tryz.prog.fieldsOf 53)) := by unfold Program.fieldsOf; rw [Tryz.underlying53]
  have hag : ∀ w, (isAgg 3).run Tryz.prog w = .ok false w := fun w => by simp [isAgg, run_underlying Tryz.underlying3]
  rw [run_eql_struct, run_equalIn_struct w 9999 _ _ _ ht Tryz.stoodInHeld53]
  unfold Program.fieldsOf
  rw [Tryz.underlying53]
  by_cases h1 : a = a' <;> by_cases h2 : b = b' <;> by_cases h3 : c = c' <;> simp [Op.eqFields, part, hag, run_equalIn_int _ 9998 _ .i64 .i64 _ _ Tryz.underlying3, h1, h2, h3]
end Go.Proofs.YtgnbfmifjlnigaaGreatDoor
namespace Go.Proofs.YtgnbfmifjlnigaaGreatDoor
open Go.Fw Go.RowKit
theorem machExecute_fn (p : ProgD) (c : ConfD) (t i : Nat) (th : ThreadD) (s : StepD) (M : List Nat) (w0 : World) (cs xs : List Value) (hI : InP p M w0 cs) (hX : RdConf M w0 c xs) (hf : FitC p c) (he : noBuf c) (hxth : p.threads[t]? = some th) (hxs : th.steps[i]? = some s) (hf' : FitC p (doC p 0 c ⟨t, i, 0⟩)) :
    Does Tryz.prog 38 #[.agg cs.toArray, .agg xs.toArray, .agg #[.int .i64 t, .int .i64 i, .int .i64 0]] w0 fun v w' => (∃ ys, v = .agg ys.toArray ∧ RdConf M w' (doC p 0 c ⟨t, i, 0⟩) ys) ∧ Below w0.heap.size w0 w' := by
  obtain ⟨Ac, nc, cc, Am, nm, cm, Al, nl, cl, At, nt, ct, rfl, hC, hMo, hLk, hTh, hnc, hnm, hnl, hnt, bc, bm, bl, bt⟩ := hI.rd.open_
  obtain ⟨Xm, xm, ym, Xa, xa, ya, Xb, xb, yb, rfl, hMem, hAt, hBuf, hxm, hxa, hxb, b1, b2, b3⟩ := hX.open_
  have S := St.refl w0
  have f1 := hf.mem.len
  have f2 := hf.nat
  have f3 := hf.nbuf
  have hp := hI.ok
  have n1 := hp.ncells
  have n2 := hp.nthreads
  have ht := some_lt hxth
  have hi := some_lt hxs
  have hso := (hp.thread hxth).steps s (some_mem hxs)
  have hk6 : 6 ≤ s.kind → 0 ≤ s.target ∧ s.target < p.threads.length := fun h => (hso.row.k6 h).1
  refine Does_enter Tryz.func38 rfl Tryz.ntmps38 rfl ?_
  refine W_seq ?_
  refine W_region ?_
  refine o_boxa S (by conv => lhs; whnf) rfl ?_
  intro g3 w3 S3 X3 G3
  refine o_boxa S3 (by conv => lhs; whnf) rfl ?_
  intro g4 w4 S4 X4 G4
  refine o_boxa S4 (by conv => lhs; whnf) rfl ?_
  intro g5 w5 S5 X5 G5
  refine o_alloc S5 zv_46 rfl rfl ?_
  intro g6 w6 S6 X6 G6
  refine WL_nil ?_
  refine W_seq ?_
  refine W_flow follows_mixed [0, 1, 2, 3, 4, 5, 6, 7, 8, 9, 10, 11, 12, 13] 14 (by kernel_rfl) (by kernel_rfl) (Cl _ _ _ _) (Cl.start S6) _ rfl ?_
  refine FL_q rfl rfl ?_
  refine q_fieldAddr fa_46_0 rfl rfl ?_
  refine QL_nil ?_
  refine FL_q rfl rfl ?_
  refine q_load one_43 rfl (fun w1 hw => by exact hw.1.cell 2 rfl rfl) rfl ?_
  refine QL_nil ?_
  refine FL_len rfl slz_43.slT rfl rfl ?_
  refine FL_make (n := xm) (c := xm) rfl rfl rfl slz_43 rfl rfl (by omega) (by omega) (by omega) rfl ?_
  intro g14 G14 ng14
  refine FL_q rfl rfl ?_
  refine q_fieldAddr fa_46_1 rfl rfl ?_
  refine QL_nil ?_
  refine FL_q rfl rfl ?_
  refine q_load one_43 rfl (fun w1 hw => by exact hw.1.cell 2 rfl rfl) rfl ?_
  refine QL_nil ?_
  refine FL_len rfl slz_43.slT rfl rfl ?_
  refine FL_make (n := xa) (c := xa) rfl rfl rfl slz_43 rfl rfl (by omega) (by omega) (by omega) rfl ?_
  intro g18 G18 ng18
  refine FL_q rfl rfl ?_
  refine q_fieldAddr fa_46_2 rfl rfl ?_
  refine QL_nil ?_
  refine FL_q rfl rfl ?_
  refine q_load one_44 rfl (fun w1 hw => by exact hw.1.cell 2 rfl rfl) rfl ?_
  refine QL_nil ?_
  refine FL_len rfl slz_44.slT rfl rfl ?_
  refine FL_make (n := xb) (c := xb) rfl rfl rfl slz_44 rfl rfl (by omega) (by omega) (by omega) rfl ?_
  intro g22 G22 ng22
  refine FL_q rfl rfl ?_
  refine q_build bld_46 (vs := [(0, .slice _ _ _), (1, .slice _ _ _), (2, .slice _ _ _)]) (cs := [_, _, _]) rfl rfl rfl rfl ?_
  refine QL_nil ?_
  refine FL_alloc rfl rfl rfl zv_46 rfl ?_
  intro g7 G7 ng7
  refine FL_nil ?_
  rintro wR1 ⟨SR1, XR1⟩ ⟨⟨⟨⟨-, hg14⟩, hg18⟩, hg22⟩, hg7⟩
  clear ng14
  replace SR1 := SR1.push_new S6 hg14 G14
  replace SR1 := SR1.push_more (L1 := [_]) S6 hg18 G18 (by simpa [eq_comm] using ng18)
  replace SR1 := SR1.push_more (L1 := [_, _]) S6 hg22 G22 (by simpa [eq_comm] using ng22)
  replace SR1 := SR1.push_more (L1 := [_, _, _]) S6 hg7 G7 (by simpa [eq_comm] using ng7)
  refine o_storeN (kk := 0) (vs := [_, _, _]) SR1 sz_46 rfl rfl rfl rfl rfl rfl rfl ?_
  intro w1_14 S1_14 X1_14
  dsimp only [setsAt, List.set] at S1_14
  refine WL_nil ⟨rfl, ?_⟩
  refine W_seq ?_
  refine W_region ?_
  refine o_fieldAddr fa_46_0 rfl rfl ?_
  refine o_load one_43 rfl (by exact S1_14.cell 0 rfl rfl) rfl ?_
  refine o_fieldAddr fa_46_0 rfl rfl ?_
  refine o_load one_43 rfl (by exact S1_14.cell 6 rfl rfl) rfl ?_
  refine o_copyI (k := 3) S1_14 slz_43 rfl rfl rfl (by simp) (hMem.keep (S1_14.keep0 M)) rfl ?_
  intro w28 S28 X28
  refine WL_nil ?_
  refine W_seq ?_
  refine W_region ?_
  refine o_fieldAddr fa_46_1 rfl rfl ?_
  refine o_load one_43 rfl (by exact S28.cell 0 rfl rfl) rfl ?_
  refine o_fieldAddr fa_46_1 rfl rfl ?_
  refine o_load one_43 rfl (by exact S28.cell 6 rfl rfl) rfl ?_
  refine o_copyI (k := 2) S28 slz_43 rfl rfl rfl (by simp) (hAt.keep (S28.keep0 M)) rfl ?_
  intro w33 S33 X33
  refine WL_nil ?_
  refine W_seq ?_
  refine W_draw follows_mixed [0, 1, 2, 3, 4, 5, 6, 7, 8, 9, 10] [11] [12] (by kernel_rfl) rfl (Cl _ _ _ _) (Cl.start S33) ?_
  refine q_fieldAddr fa_36_3 rfl rfl ?_
  refine q_load one_34 rfl (fun w1 hw => by exact hw.1.cell 7 rfl rfl) rfl ?_
  refine q_fieldAddr fa_53_0 rfl rfl ?_
  refine q_load one_3 rfl (fun w1 hw => by exact hw.1.cell 5 rfl rfl) rfl ?_
  obtain ⟨x38, b38, p38, c38, hx38, hA38, hM38, hl38, hc38, hr38⟩ := RdS.get (hTh) (t) (by omega)
  obtain rfl := Option.some.inj (hxth.symm.trans hx38)
  obtain ⟨Aa38, na38, ca38, Am38, nm38, cm38, As38, ns38, cs38, Al38, nl38, cl38, rfl, ip38, hEs38, hMs38, hSt38, hLo38, hna38, hnm38, hns38, hnl38, ba38, bm38, bs38, bl38⟩ := RThread.open_ hr38
  refine q_indexAddr slz_34.slT rfl (by assumption) rfl (by omega) (by omega) rfl ?_
  refine q_fieldAddr fa_83_4 rfl rfl ?_
  refine q_load one_80 rfl (fun w1 hw => by exact hw.1.old (hc38 _ _ rfl)) rfl ?_
  refine q_fieldAddr fa_53_1 rfl rfl ?_
  refine q_load one_3 rfl (fun w1 hw => by exact hw.1.cell 5 rfl rfl) rfl ?_
  obtain ⟨x43, b43, p43, c43, hx43, hA43, hM43, hl43, hc43, hr43⟩ := RdS.get (hSt38) (i) (by omega)
  obtain rfl := Option.some.inj (hxs.symm.trans hx43)
  obtain ⟨Ag43, ng43, cg43, As43, ns43, cs43, rfl, ⟨i143, i243, i343, i443, i543⟩, hG43, hSet43, hns43, bs43⟩ := RStep.open_ hr43
  refine q_indexAddr slz_80.slT rfl (by assumption) rfl (by omega) (by omega) rfl ?_
  refine q_loadN many_112 rfl (fun w1 hw => hc43.keep (hw.1.keep0 _) hM43) (by rfl) rfl ?_
  refine QL_nil ?_
  refine BK_of ?_
  refine BKL_alloc rfl rfl zv_112 rfl ?_
  refine BKL_nil ?_
  rintro wR4 ⟨SR4, XR4⟩
  intro g8 hg8 G8 ng8
  dsimp only [upds]
  clear ng8
  replace SR4 := SR4.push_new S33 hg8 G8
  refine o_storeN (kk := 0) (vs := [_, _, _, _, _, _, _, _, _, _, _]) SR4 sz_112 rfl rfl rfl rfl rfl rfl rfl ?_
  intro w4_12 S4_12 X4_12
  dsimp only [setsAt, List.set] at S4_12
  refine WL_nil ?_
  refine W_seq ?_
  refine W_seq ?_
  refine W_region ?_
  refine o_fieldAddr fa_112_4 rfl rfl ?_
  refine o_load one_110 rfl (by exact S4_12.cell 0 rfl rfl) rfl ?_
  refine o_len slz_110.slT rfl rfl ?_
  refine o_move (v := .int .i64 _) rfl rfl ?_
  refine WL_nil ?_
  refine W_block ?_
  refine W_loop (fun μk D ε w => D = [] ∧ ∃ k : Nat, (k + μk = (s.set.length)) ∧ St [] w0 w [(some g8, 112, [.int .i64 s.kind, .int .i64 s.frm, .int .i64 s.to, .int .i64 s.guard.op, .int .i64 s.guard.w, .int .i64 s.guard.n, .slice Ag43 ng43 cg43, .slice As43 ns43 cs43, .bool s.release, .int .i64 s.target, .int .i64 s.module_]), (some g7, 46, [.slice (some ⟨g14, 0, none⟩) xm xm, .slice (some ⟨g18, 0, none⟩) xa xa, .slice (some ⟨g22, 0, none⟩) xb xb]), (some g22, 91, List.replicate xb (.slice none 0 0)), (some g18, 3, c.at_.map (Value.int .i64)), (some g14, 3, (setC (s.set.take k) c.mem c.mem).map (Value.int .i64)), (some g6, 46, [.slice none 0 0, .slice none 0 0, .slice none 0 0]), (some g5, 53, [.int .i64 t, .int .i64 i, .int .i64 0]), (some g4, 46, [.slice Xm xm ym, .slice Xa xa ya, .slice Xb xb yb]), (some g3, 36, [.slice Ac nc cc, .slice Am nm cm, .slice Al nl cl, .slice At nt ct])] ∧ ε 4 = .pointer (some ⟨g4, 0, none⟩) ∧ ε 5 = .pointer (some ⟨g5, 0, none⟩) ∧ ε 6 = .pointer (some ⟨g6, 0, none⟩) ∧ ε 7 = .pointer (some ⟨g7, 0, none⟩) ∧ ε 8 = .pointer (some ⟨g8, 0, none⟩) ∧ ε 46 = .slice As43 ns43 cs43 ∧ ε 47 = .int .i64 ns43 ∧ ε 48 = .int .i64 k) (μ := (s.set.length)) ⟨rfl, 0, by omega, S4_12, rfl, rfl, rfl, rfl, rfl, rfl, rfl, rfl⟩ ?_
  rintro μk D ε w ⟨rfl, k, hk, S, e4, e5, e6, e7, e8, e46, e47, e48⟩
  refine W_known 4 e4 ?_
  refine W_known 5 e5 ?_
  refine W_known 6 e6 ?_
  refine W_known 7 e7 ?_
  refine W_known 8 e8 ?_
  refine W_known 46 e46 ?_
  refine W_known 47 e47 ?_
  refine W_known 48 e48 ?_
  clear e4 e5 e6 e7 e8 e46 e47 e48
  refine W_seq ?_
  refine W_region ?_
  refine o_lss rfl rfl rfl (fun h49 => ?_) (fun h49 => ?_)
  · refine WL_nil ?_
    refine W_seq ?_
    refine W_then rfl ?_
    refine W_skip ?_
    refine W_seq ?_
    refine W_block ?_
    refine W_seq ?_
    refine W_region ?_
    obtain ⟨a, b50, p50, c50, hxa, hA50, hM50, hl50, hc50, hr50⟩ := RdS.get (hSet43) (k) (by omega)
    obtain ⟨Ae50, ne50, ce50, rfl, ia50, hE50⟩ := RAssign.open_ hr50
    have q1 := (hso.set a (some_mem hxa)).1
    unfold isIn at q1
    refine o_indexAddr slz_110.slT rfl (by assumption) rfl (by omega) (by omega) rfl ?_
    refine o_loadN many_109 rfl (hc50.keep (S.keep0 _) hM50) (by rfl) rfl ?_
    refine o_alloc S zv_109 rfl rfl ?_
    intro g10 w10 S10 X10 G10
    refine o_storeN (kk := 0) (vs := [_, _, _, _, _]) S10 sz_109 rfl rfl rfl rfl rfl rfl rfl ?_
    intro w7_3 S7_3 X7_3
    dsimp only [setsAt, List.set] at S7_3
    refine WL_nil ?_
    refine W_draw follows_mixed [0, 1, 2, 3, 4, 5, 6, 7, 8, 9, 10, 11] [] [12] (by kernel_rfl) rfl (Cl _ _ _ _) (Cl.start S7_3) ?_
    refine q_fieldAddr fa_46_0 rfl rfl ?_
    refine q_load one_43 rfl (fun w1 hw => by exact hw.1.cell 2 rfl rfl) rfl ?_
    refine q_fieldAddr fa_109_0 rfl rfl ?_
    refine q_load one_3 rfl (fun w1 hw => by exact hw.1.cell 0 rfl rfl) rfl ?_
    refine q_fieldAddr fa_109_1 rfl rfl ?_
    refine q_loadN many_73 rfl (cs := [_, _, _, _]) (fun w1 hw => hw.1.cellsAt 0 1 4 rfl) rfl rfl ?_
    refine q_fieldAddr fa_46_0 rfl rfl ?_
    refine q_load one_43 rfl (fun w1 hw => by exact hw.1.cell 8 rfl rfl) rfl ?_
    refine q_fieldAddr fa_46_0 rfl rfl ?_
    refine q_load one_43 rfl (fun w1 hw => by exact hw.1.cell 8 rfl rfl) rfl ?_
    refine q_callr has_64 rfl rfl (fun w1 S1 X1 => eval_fn a.to M _ _ _ _ c.mem c.mem (RdE.keep (S1.keep0 M) _ _ hE50) (hI.keep (S1.keep0 M)).msk (hMem.keep (S1.keep0 M)) (hMem.keep (S1.keep0 M))) ?_
    refine q_indexAddr slz_43.slT rfl (by rfl) rfl (by omega) (by omega) rfl ?_
    refine QL_nil ?_
    refine BK_of ?_
    refine BKL_nil ?_
    rintro wR8 ⟨SR8, XR8⟩
    first | refine o_store (kk := 5) SR8 sz_3 rfl (by conv => lhs; whnf) rfl rfl (by (simp; omega)) ?_
    intro w8_12 S8_12 X8_12
    refine WL_nil ?_
    refine W_region ?_
    refine o_add rfl rfl (by unfold i64; omega) rfl ?_
    refine o_move (v := .int .i64 _) rfl rfl ?_
    refine WL_nil ?_
    refine ⟨μk - 1, by omega, rfl, (k + 1), (by omega), (S8_12.tail.setEnt 4 rfl (setC_next hxa (by simp))), rfl, rfl, rfl, rfl, rfl, rfl, rfl, rfl⟩
  refine WL_nil ?_
  refine W_seq ?_
  refine W_else rfl ?_
  refine W_exit ?_
  refine bcons_here ?_
  refine W_seq ?_
  refine W_region ?_
  refine o_fieldAddr fa_46_1 rfl rfl ?_
  refine o_load one_43 rfl (by exact S.cell 1 rfl rfl) rfl ?_
  refine o_fieldAddr fa_53_0 rfl rfl ?_
  refine o_load one_3 rfl (by exact S.cell 6 rfl rfl) rfl ?_
  refine o_fieldAddr fa_112_2 rfl rfl ?_
  refine o_load one_3 rfl (by exact S.cell 0 rfl rfl) rfl ?_
  refine o_indexAddr slz_43.slT rfl (by rfl) rfl (by omega) (by omega) rfl ?_
  first | refine o_store (kk := 3) S sz_3 rfl (by conv => lhs; whnf) rfl rfl (by (simp; omega)) ?_
  intro w10_7 S10_7 X10_7
  refine WL_nil ?_
  refine W_seq ?_
  refine W_seq ?_
  refine W_region ?_
  refine o_fieldAddr fa_112_0 rfl rfl ?_
  refine o_load one_3 rfl (by exact S10_7.cell 0 rfl rfl) rfl ?_
  refine o_eql rfl rfl rfl (fun h74 => ?_) (fun h74 => ?_)
  · refine WL_nil ?_
    refine W_then rfl ?_
    refine W_region ?_
    refine o_fieldAddr fa_46_1 rfl rfl ?_
    refine o_load one_43 rfl (by exact S10_7.cell 1 rfl rfl) rfl ?_
    refine o_fieldAddr fa_112_6 rfl rfl ?_
    refine o_load one_3 rfl (by exact S10_7.cell 0 rfl rfl) rfl ?_
    have q6 := hk6 (by omega)
    refine o_indexAddr slz_43.slT rfl (by rfl) rfl (by omega) (by omega) rfl ?_
    first | refine o_store (kk := 3) S10_7 sz_3 rfl (by conv => lhs; whnf) rfl rfl (by (simp; omega)) ?_
    intro w12_5 S12_5 X12_5
    refine WL_nil ?_
    refine W_seq ?_
    refine W_region ?_
    refine o_loadN many_46 rfl (S12_5.cells 1 rfl) rfl rfl ?_
    first | refine o_storeN (kk := 5) (vs := [_, _, _]) S12_5 sz_46 rfl rfl rfl rfl rfl rfl rfl ?_
    intro w13_1 S13_1 X13_1
    dsimp only [setsAt, List.set] at S13_1
    refine WL_nil ?_
    refine W_ret ?_
    have SF := (S13_1.setEnt 3 rfl (show _ = (atC c t s).map (Value.int .i64) by simp [atC, h74, List.map_set])).setEnt 4 rfl (show _ = (setC s.set c.mem c.mem).map (Value.int .i64) by rw [List.take_of_length_le (by omega)])
    rw [doC0 he hxth hxs] at hf' ⊢
    exact ret_cell1 (n := 3) rfl many_46 rfl (SF.cells 5 rfl) rfl ⟨⟨_, rfl, _, _, _, rfl, SF.rdInts 4 rfl (fresh_not hI.lt (SF.new 4 rfl)) (by simp [hxm]) b1 (mem_i64 hp hf'.mem), SF.rdInts 3 rfl (fresh_not hI.lt (SF.new 3 rfl)) (by rw [atC_len]; exact hxa) b2 (at_i64 hp hf'), SF.rdBufs 2 rfl (fresh_not hI.lt (SF.new 2 rfl)) hxb b3 he⟩, SF.fin⟩
  refine WL_nil ?_
  refine W_else rfl ?_
  refine W_skip ?_
  refine W_seq ?_
  refine W_region ?_
  refine o_loadN many_46 rfl (S10_7.cells 1 rfl) rfl rfl ?_
  first | refine o_storeN (kk := 5) (vs := [_, _, _]) S10_7 sz_46 rfl rfl rfl rfl rfl rfl rfl ?_
  intro w13_1 S13_1 X13_1
  dsimp only [setsAt, List.set] at S13_1
  refine WL_nil ?_
  refine W_ret ?_
  have SF := (S13_1.setEnt 3 rfl (show _ = (atC c t s).map (Value.int .i64) by simp [atC, h74, List.map_set])).setEnt 4 rfl (show _ = (setC s.set c.mem c.mem).map (Value.int .i64) by rw [List.take_of_length_le (by omega)])
  rw [doC0 he hxth hxs] at hf' ⊢
  exact ret_cell1 (n := 3) rfl many_46 rfl (SF.cells 5 rfl) rfl ⟨⟨_, rfl, _, _, _, rfl, SF.rdInts 4 rfl (fresh_not hI.lt (SF.new 4 rfl)) (by simp [hxm]) b1 (mem_i64 hp hf'.mem), SF.rdInts 3 rfl (fresh_not hI.lt (SF.new 3 rfl)) (by rw [atC_len]; exact hxa) b2 (at_i64 hp hf'), SF.rdBufs 2 rfl (fresh_not hI.lt (SF.new 2 rfl)) hxb b3 he⟩, SF.fin⟩
theorem doC_in {p : ProgD} {m : Int} {c : ConfD} (he : noBuf c) {x : ChoiceD} (hx : x ∈ choicesC p m c) : ∃ (t i : Nat) (th : ThreadD) (s : StepD), x = ⟨t, i, 0⟩ ∧ p.threads[t]? = some th ∧ th.steps[i]? = some s ∧ enabledC p m c t s = true := by
  obtain ⟨t, ht, h | h⟩ := mem_choices.1 hx
  · obtain ⟨i, s, hs, he, rfl⟩ := h
    have hth : p.threads[t]? = some p.threads[t] := List.getElem?_eq_getElem ht
    rw [stepsC_some hth] at hs
    exact ⟨t, i, _, s, rfl, hth, hs, he⟩
  · obtain ⟨i, h1, -⟩ := h
    rw [he.getD] at h1; simp at h1
theorem machNext_fn (p : ProgD) (c : ConfD) (x : ChoiceD) (M : List Nat) (w0 : World) (cs xs : List Value) (hI : InP p M w0 cs) (hX : RdConf M w0 c xs) (hf : FitC p c) (he : noBuf c) (hx : x ∈ choicesC p 0 c) :
    Does Tryz.prog 18 #[.agg cs.toArray, .agg xs.toArray, .agg #[.int .i64 x.thread, .int .i64 x.step, .int .i64 x.cell]] w0 fun v w' => (∃ ys, v = .tuple #[.agg ys.toArray, .int .i64 0] ∧ RdConf M w' (doC p 0 c x) ys) ∧ Below w0.heap.size w0 w' := by
  obtain ⟨t, i, th, s, rfl, hxth, hxs, hen⟩ := doC_in he hx
  have hf' := fit_do hI.ok hf hx
  obtain ⟨Ac, nc, cc, Am, nm, cm, Al, nl, cl, At, nt, ct, rfl, hC, hMo, hLk, hTh, hnc, hnm, hnl, hnt, bc, bm, bl, bt⟩ := hI.rd.open_
  obtain ⟨Xm, xm, ym, Xa, xa, ya, Xb, xb, yb, rfl, hMem, hAt, hBuf, hxm, hxa, hxb, b1, b2, b3⟩ := hX.open_
  have S := St.refl w0
  refine Does_enter Tryz.func18 rfl Tryz.ntmps18 rfl ?_
  refine W_seq ?_
  refine W_region ?_
  refine o_boxa S (by conv => lhs; whnf) rfl ?_
  intro g3 w3 S3 X3 G3
  refine o_boxa S3 (by conv => lhs; whnf) rfl ?_
  intro g4 w4 S4 X4 G4
  refine o_boxa S4 (by conv => lhs; whnf) rfl ?_
  intro g5 w5 S5 X5 G5
  refine o_alloc S5 zv_46 rfl rfl ?_
  intro g6 w6 S6 X6 G6
  refine o_assign (v := .int .i64 _) rfl rfl ?_
  refine WL_nil ?_
  refine W_seq ?_
  refine W_seq ?_
  refine W_region ?_
  refine o_loadN many_36 rfl (S6.cells 3 rfl) rfl rfl ?_
  refine o_callr S6 has_35 rfl rfl (machValid_fn p M _ _ (hI.keep (S6.keep0 M))) ?_
  intro w11 S11 X11
  refine o_not rfl rfl ?_
  refine o_move (v := .bool _) rfl rfl ?_
  refine WL_on rfl rfl rfl ?_
  refine o_loadN many_36 rfl (S11.cells 3 rfl) rfl rfl ?_
  refine WL_on rfl rfl rfl ?_
  refine o_loadN many_46 rfl (S11.cells 2 rfl) rfl rfl ?_
  refine WL_on rfl rfl rfl ?_
  refine o_callr S11 has_36 rfl rfl (machFits_fn p c M _ _ _ (hI.keep (S11.keep0 M)) (hX.keep (S11.keep0 M)) hf he) ?_
  intro w16 S16 X16
  refine WL_on rfl rfl rfl ?_
  refine o_not rfl rfl ?_
  refine o_pick rfl (v := .bool _) rfl rfl ?_
  refine WL_nil ?_
  refine W_else rfl ?_
  refine W_skip ?_
  refine W_seq ?_
  refine W_seq ?_
  refine W_region ?_
  refine o_loadN many_36 rfl (S16.cells 3 rfl) rfl rfl ?_
  refine o_loadN many_46 rfl (S16.cells 2 rfl) rfl rfl ?_
  refine o_calln S16 has_37 rfl rfl (machChoices_fn p c M _ _ _ (hI.keep (S16.keep0 M)) (hX.keep (S16.keep0 M)) hf he) ?_
  rintro v22 w22 hr S22 X22
  obtain ⟨Ar, nr, cr, rfl⟩ := hr.form
  obtain ⟨hnr, -, hbr⟩ := hr.len
  have K22 := Keep.refl [] w22
  refine o_len slz_22.slT rfl rfl ?_
  refine o_move (v := .int .i64 _) rfl rfl ?_
  refine WL_nil ?_
  refine W_block ?_
  refine W_loop (fun μk D ε w => D = [] ∧ ∃ k : Nat, (k + μk = ((choicesC p 0 c).length)) ∧ (Keep [] w22 w) ∧ (AllTo (choicesC p 0 c) k (fun y => y ≠ ⟨t, i, 0⟩)) ∧ St [] w0 w [(some g6, 46, [.slice none 0 0, .slice none 0 0, .slice none 0 0]), (some g5, 53, [.int .i64 t, .int .i64 i, .int .i64 0]), (some g4, 46, [.slice Xm xm ym, .slice Xa xa ya, .slice Xb xb yb]), (some g3, 36, [.slice Ac nc cc, .slice Am nm cm, .slice Al nl cl, .slice At nt ct])] ∧ ε 3 = .pointer (some ⟨g3, 0, none⟩) ∧ ε 4 = .pointer (some ⟨g4, 0, none⟩) ∧ ε 5 = .pointer (some ⟨g5, 0, none⟩) ∧ ε 6 = .pointer (some ⟨g6, 0, none⟩) ∧ ε 22 = .slice Ar nr cr ∧ ε 23 = .int .i64 nr ∧ ε 24 = .int .i64 k) (μ := ((choicesC p 0 c).length)) ⟨rfl, 0, by omega, K22, AllTo.zero, S22, rfl, rfl, rfl, rfl, rfl, rfl, rfl⟩ ?_
  rintro μk D ε w ⟨rfl, k, hk, K22, hs, S, e3, e4, e5, e6, e22, e23, e24⟩
  refine W_known 3 e3 ?_
  refine W_known 4 e4 ?_
  refine W_known 5 e5 ?_
  refine W_known 6 e6 ?_
  refine W_known 22 e22 ?_
  refine W_known 23 e23 ?_
  refine W_known 24 e24 ?_
  clear e3 e4 e5 e6 e22 e23 e24
  refine W_seq ?_
  refine W_region ?_
  refine o_lss rfl rfl rfl (fun h25 => ?_) (fun h25 => ?_)
  · refine WL_nil ?_
    refine W_seq ?_
    refine W_then rfl ?_
    refine W_skip ?_
    refine W_seq ?_
    refine W_block ?_
    refine W_seq ?_
    refine W_region ?_
    obtain ⟨y, b26, p26, c26, hxy, hA26, hM26, hl26, hc26, hr26⟩ := RdS.get ((hr.keep K22.of_nil)) (k) (by omega)
    obtain ⟨rfl, i126, i226, i326⟩ := id hr26
    refine o_indexAddr slz_22.slT rfl (by assumption) rfl (by omega) (by omega) rfl ?_
    refine o_loadN many_53 rfl hc26 (by rfl) rfl ?_
    refine o_alloc S zv_53 rfl rfl ?_
    intro g9 w9 S9 X9 G9
    have GK229 := Nat.le_trans K22.size G9
    replace hc26 := hc26.keep (X9.of_nil) hM26
    replace K22 := K22.trans X9
    refine o_storeN (kk := 0) (vs := [_, _, _]) S9 sz_53 rfl rfl rfl rfl rfl rfl rfl ?_
    intro w5_3 S5_3 X5_3
    dsimp only [setsAt, List.set] at S5_3
    replace K22 := K22.fresh X5_3 (by first | exact GK229)
    refine WL_nil ?_
    refine W_seq ?_
    refine W_region ?_
    refine o_loadN many_53 rfl (S5_3.cells 2 rfl) rfl rfl ?_
    refine o_loadN many_53 rfl (S5_3.cells 0 rfl) rfl rfl ?_
    refine o_eql3 eq_choice rfl rfl rfl (fun h30 => ?_) (fun h30 => ?_)
    · refine WL_nil ?_
      refine W_then rfl ?_
      refine W_seq ?_
      refine W_region ?_
      refine o_loadN many_36 rfl (S5_3.cells 4 rfl) rfl rfl ?_
      refine o_loadN many_46 rfl (S5_3.cells 3 rfl) rfl rfl ?_
      refine o_loadN many_53 rfl (S5_3.cells 2 rfl) rfl rfl ?_
      refine o_calln S5_3 has_38 rfl rfl (machExecute_fn p c t i th s (g6 :: M) _ _ _ (hI.add S5_3 (k := 1) rfl) (RdConf.add hX S5_3 (k := 1) rfl) hf he hxth hxs hf') ?_
      rintro v34 w34 ⟨ys, rfl, hy⟩ S34 X34
      obtain ⟨Ym, ym', zm, Ya, ya', za, Yb, yb', zb, rfl, -⟩ := hy.open_
      first | refine o_storeN (kk := 1) (vs := [_, _, _]) S34 sz_46 rfl rfl rfl rfl rfl rfl rfl ?_
      intro w7_4 S7_4 X7_4
      dsimp only [setsAt, List.set] at S7_4
      replace hy := hy.keep (X7_4.mono (by simp))
      refine o_assign (v := .int .i64 _) rfl rfl ?_
      refine WL_nil ?_
      refine W_ret ?_
      exact ret_cell_tmp (n := 3) rfl many_46 rfl (S7_4.cells 1 rfl) rfl rfl ⟨⟨_, rfl, hy.less (fun g hg => List.mem_cons_of_mem _ hg)⟩, S7_4.fin⟩
    refine WL_nil ?_
    refine W_else rfl ?_
    refine W_skip ?_
    refine W_region ?_
    refine o_add rfl rfl (by unfold i64; omega) rfl ?_
    refine o_move (v := .int .i64 _) rfl rfl ?_
    refine WL_nil ?_
    refine ⟨μk - 1, by omega, rfl, (k + 1), (by omega), (K22), (hs.succ hxy (fun h => h30 (by rw [h]; exact ⟨rfl, rfl, rfl⟩))), S5_3.tail, rfl, rfl, rfl, rfl, rfl, rfl, rfl⟩
  refine WL_nil ?_
  refine W_seq ?_
  refine W_else rfl ?_
  refine W_exit ?_
  refine bcons_here ?_
  refine W_seq ?_
  refine W_region ?_
  refine o_build bld_46 (vs := []) (cs := [_, _, _]) rfl rfl rfl rfl ?_
  refine o_storeN (kk := 0) (vs := [_, _, _]) S sz_46 rfl rfl rfl rfl rfl rfl rfl ?_
  intro w9_1 S9_1 X9_1
  dsimp only [setsAt, List.set] at S9_1
  refine o_assign (v := .int .i64 _) rfl rfl ?_
  refine WL_nil ?_
  refine W_ret ?_
  exact absurd rfl (hs.all (by omega) _ hx)
end Go.Proofs.YtgnbfmifjlnigaaGreatDoor
