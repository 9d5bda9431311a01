/-
  Part 6 of 9 of the proof of MonitorPrefixes: what it leans on. No conditions.
-/
import Derived.Test.YtjjmdcnmeommbaaGreatDoorZMonitorPrefixes5
set_option maxRecDepth 100000
namespace Go.Fw
open Go.RowKit
section
variable {p : ProgD} {m : Int}
theorem run_at {run : List ChoiceD} {i : Nat} (hi : i + 1 < (runC p m run).length) {c : ConfD} (hc : (runC p m run)[i]? = some c) {x : ChoiceD} (hx : run[i]? = some x) : x ∈ choicesC p m c ∧ (runC p m run)[i + 1]? = some (doC p m c x) := by
 by_cases h : x ∈ choicesC p m c
 ·exact ⟨h, runC_yes hc hx h⟩
 ·have := runC_no hc hx h; omega
theorem evOK_start (hp : ProgOK p) : EvOK p ⟨-1, noCh, noC, startC p⟩ where
 lo := by show (-1 : Int) ≤ -1; omega
 hi := by show (-1 : Int) ≤ 1000; omega
 d := fit_start hp
 c h := by have : (0 : Int) ≤ -1 := h; omega
 t h := by have : (0 : Int) ≤ -1 := h; omega
 s h := by have : (0 : Int) ≤ -1 := h; omega
 aw h := by have : (0 : Int) ≤ -1 := h; omega
 ci _ := ⟨rfl, rfl⟩
theorem evOK_do (hp : ProgOK p) {c : ConfD} (hf : FitC p c) {x : ChoiceD} (hx : x ∈ choicesC p m c) {a : Int} (h0 : 0 ≤ a) (h1 : a ≤ 1000) : EvOK p ⟨a, x, c, doC p m c x⟩ := by
 have hfd := fit_do hp hf hx
 obtain ⟨t, ht, h⟩ := mem_choices.1 hx
 have hxt : x.thread = t := by
  rcases h with ⟨i, s, _, _, rfl⟩ | ⟨i, _, _, rfl⟩ <;> rfl
 refine ⟨by show -1 ≤ a; omega, h1, hfd, fun _ => hf, fun _ => ?_, fun _ => ?_, fun _ => ?_, fun h => ?_⟩
 ·show 0 ≤ x.thread ∧ x.thread < p.threads.length
  omega
 ·show x.step = -1 ∨ (0 ≤ x.step ∧ x.step < (stepsC p x.thread.toNat).length)
  rcases h with ⟨i, s, hs, _, rfl⟩ | ⟨i, _, _, rfl⟩
  ·right
   have := some_lt hs
   show 0 ≤ (i : Int) ∧ (i : Int) < (stepsC p ((t : Nat) : Int).toNat).length
   simp only [Int.toNat_natCast]
   omega
  ·left; rfl
 ·show (doC p m c x).at_.getD x.thread.toNat 0 ≠ -1
  have hth : p.threads[t]? = some p.threads[t] := List.getElem?_eq_getElem ht
  have hlt : t < c.at_.length := by rw [hf.nat]; exact ht
  rw [hxt, Int.toNat_natCast]
  rcases h with ⟨i, s, hs, he, rfl⟩ | ⟨i, hi, _, rfl⟩
  ·have hs' := hs
   rw [stepsC_some hth] at hs'
   have hso := (hp.thread hth).steps s (some_mem hs')
   rw [do_step hs]
   have e1 : (execC p m c t s).at_ = atC c t s := by unfold execC; split <;> rfl
   rw [e1]
   unfold atC
   split
   ·rename_i hk
    have hne := (hso.row.k6 (by omega)).2
    have h2 := (hso.row.k6 (by omega)).1
    unfold isIn at h2
    rw [List.getD_eq_getElem?_getD, List.getElem?_set_ne (by omega), List.getElem?_set_self hlt]
    have := hso.to
    simp; omega
   ·rw [List.getD_eq_getElem?_getD, List.getElem?_set_self hlt]
    have := hso.to
    simp; omega
  ·intro hat
   have hbl : t < c.buf.length := by rw [hf.nbuf]; exact ht
   have hb : c.buf[t]? = some c.buf[t] := List.getElem?_eq_getElem hbl
   have e1 : (doC p m c ⟨t, -1, ((c.buf.getD t []).getD i ⟨[], []⟩).cells.getD 0 0⟩).at_ = c.at_ := by unfold doC; rw [if_pos rfl]; rfl
   rw [e1] at hat
   have h1 : c.at_[t]? = some (-1) := by
    rw [List.getElem?_eq_getElem hlt]
    rw [List.getD_eq_getElem?_getD, List.getElem?_eq_getElem hlt] at hat
    simpa using hat
   have h2 := (hf.bufs t _ hb).2.2 h1
   rw [List.getD_eq_getElem?_getD, hb] at hi
   simp [h2] at hi
 ·have : a = -1 := h; omega
theorem evOK_run (hp : ProgOK p) {run : List ChoiceD} (hlen : run.length ≤ 500) (i : Nat) (hi : i < (runC p m run).length) : EvOK p (evAt run (runC p m run) i) := by
 have hle := runC_le p m run
 cases i with
 | zero =>
   have h0 : (runC p m run)[0]? = some (startC p) := rfl
   have : evAt run (runC p m run) 0 = ⟨-1, noCh, noC, startC p⟩ := by unfold evAt; rw [if_pos rfl, getD_some h0]
   rw [this]; exact evOK_start hp
 | succ i =>
   have hc : (runC p m run)[i]? = some (runC p m run)[i] := List.getElem?_eq_getElem (by omega)
   have hx : run[i]? = some run[i] := List.getElem?_eq_getElem (by omega)
   obtain ⟨h1, h2⟩ := run_at hi hc hx
   have hg := (good_run (m := m) hp (List.mem_of_getElem? hc)).1
   have : evAt run (runC p m run) (i + 1) = ⟨(i : Int), run[i], (runC p m run)[i], doC p m (runC p m run)[i] run[i]⟩ := by
    unfold evAt
    rw [if_neg (by omega), Nat.add_sub_cancel, getD_some hx, getD_some hc, getD_some h2]
    congr 1
    omega
   rw [this]
   exact evOK_do hp hg h1 (by omega) (by omega)
theorem errC_of (run : List ChoiceD) : errC p m run = 0 ∨ errC p m run = 110 := by unfold errC; split <;> simp
end
end Go.Fw
namespace Go.Proofs.YtjjmdcnmeommbaaGreatDoor
open Go.Fw Go.RowKit
theorem mWatch_fn (p : ProgD) (m : Int) (hm : m = 0 ∨ m = 1 ∨ m = 2) (run : List ChoiceD) (M : List Nat) (w0 : World) (cs : List Value) (vr : Value) (hI : InP p M w0 cs) (hRun : RdCh M w0 vr run) (hlen : run.length ≤ 120) :
 Does Tryz.prog 15 #[.agg cs.toArray, .int .i64 m, vr] w0 fun v w' => (∃ vl, v = .tuple #[vl, .int .i64 (errC p m run)] ∧ RdVs M w' vl (watchV p m run)) ∧ Below w0.heap.size w0 w' := by
 obtain ⟨_, _, _, _, _, _, _, _, _, _, _, _, rfl, _, _, _, _, _, _, _, _, _, _, _, _⟩ := hI.rd.open_
 obtain ⟨_, _, _, rfl⟩ := hRun.form
 have hp := hI.ok
 have S := St.refl w0
 have hle := runC_le p m run
 have heo := errC_of (p := p) (m := m) run
 refine dnR Tryz.func15 rfl Tryz.ntmps15 rfl ?_
 refine wO0 rfl ⟨⟩ (o_boxa S (by conv => lhs; whnf) rfl ?_)
 intro g3 w3 S3 X3 G3
 refine lO S3.k [.w 0] rfl ⟨⟨rfl,rfl⟩,⟨⟩⟩ (o_calln S3 has_17 rfl rfl (run_fn p m hm run M _ _ _ (hI.keep (S3.keep0 M)) (hRun.keep (S3.keep0 M)) hlen) ?_)
 rintro v15 w15 ⟨vl, rfl, hL⟩ S15 X15
 have KL := Keep.refl [] w15
 obtain ⟨_, _, _, rfl⟩ := hL.form
 refine lB0 rfl ⟨⟩ (fun h20 => ?_) fun h20 => ?_
 ·refine lB0 rfl ⟨⟩ (fun h23 => by exfalso; omega) fun h23 => ?_
  refine lO S15.k [.w 0] rfl ⟨⟨rfl,rfl⟩,⟨⟩⟩ (o_calln S15 has_41 rfl rfl (watch_fn p run (runC p m run) (evOK_run hp (by omega)) hle (by omega) M _ _ _ _ (hI.keep (S15.keep0 M)) (hRun.keep (S15.keep0 M)) (RdS.keepW hL KL.of_nil (RConf.keep KL.of_nil))) ?_)
  rintro v29 w29 hV S29 X29
  replace KL := KL.trans X29
  refine lOn 1 S29.k [] rfl ⟨⟩ (o_assign (by conv => lhs; whnf) rfl ?_)
  refine lR0 rfl ⟨⟩ (ret_2 rfl (by conv => lhs; whnf) (by conv => lhs; whnf) ?_)
  exact ⟨⟨_, rfl, hV⟩, S29.fin⟩
 refine lO S15.k [.w 0] rfl ⟨⟨rfl,rfl⟩,⟨⟩⟩ (o_calln S15 has_41 rfl rfl (watch_fn p run (runC p m run) (evOK_run hp (by omega)) hle (by omega) M _ _ _ _ (hI.keep (S15.keep0 M)) (hRun.keep (S15.keep0 M)) (RdS.keepW hL KL.of_nil (RConf.keep KL.of_nil))) ?_)
 rintro v29 w29 hV S29 X29
 refine lOn 1 S29.k [] rfl ⟨⟩ (o_assign (by conv => lhs; whnf) rfl ?_)
 refine lR0 rfl ⟨⟩ (ret_2 rfl (by conv => lhs; whnf) (by conv => lhs; whnf) ?_)
 exact ⟨⟨_, rfl, hV⟩, S29.fin⟩
def noVio : VioD := ⟨0, 0, 0, 0, 0⟩
def firstV (p : ProgD) (m : Int) (run : List ChoiceD) : VioD × Bool := if errC p m run = 0 ∧ watchV p m run ≠ [] then ((watchV p m run).headD noVio, true) else (noVio, false)
theorem mFirst_fn (p : ProgD) (m : Int) (hm : m = 0 ∨ m = 1 ∨ m = 2) (run : List ChoiceD) (M : List Nat) (w0 : World) (cs : List Value) (vr : Value) (hI : InP p M w0 cs) (hRun : RdCh M w0 vr run) (hlen : run.length ≤ 120) :
 Does Tryz.prog 22 #[.agg cs.toArray, .int .i64 m, vr] w0 fun v w' => (∃ vs, v = .tuple #[.agg vs.toArray, .bool (firstV p m run).2] ∧ RVio vs (firstV p m run).1) ∧ Below w0.heap.size w0 w' := by
 obtain ⟨_, _, _, _, _, _, _, _, _, _, _, _, rfl, _, _, _, _, _, _, _, _, _, _, _, _⟩ := hI.rd.open_
 obtain ⟨_, _, _, rfl⟩ := hRun.form
 have hp := hI.ok
 have S := St.refl w0
 have hle := runC_le p m run
 have iz : i64 0 := by unfold i64; omega
 refine dnR Tryz.func22 rfl Tryz.ntmps22 rfl ?_
 refine wO0 rfl ⟨⟩ (o_boxa S (by conv => lhs; whnf) rfl ?_)
 intro g3 w3 S3 X3 G3
 refine o_alloc S3 zv_36 rfl rfl ?_
 intro g6 w6 S6 X6 G6
 refine lO S6.k [.w 1] rfl ⟨⟨rfl,rfl⟩,⟨⟩⟩ (o_calln S6 has_17 rfl rfl (run_fn p m hm run M _ _ _ (hI.keep (S6.keep0 M)) (hRun.keep (S6.keep0 M)) hlen) ?_)
 rintro v16 w16 ⟨_, rfl, hL⟩ S16 X16
 have KL := Keep.refl [] w16
 obtain ⟨_, _, _, rfl⟩ := hL.form
 refine lB0 rfl ⟨⟩ (fun h21 => ?_) fun h21 => ?_
 ·refine lO0 rfl ⟨⟩ (o_build bld_36 (vs := []) (cs := [_, _, _, _, _]) rfl rfl rfl rfl ?_)
  first | refine o_storeN (kk := 0) (vs := [_, _, _, _, _]) S16 sz_36 rfl rfl rfl rfl rfl rfl rfl ?_
  intro w3_1 S3_1 X3_1
  dsimp only [setsAt, List.set] at S3_1
  refine lR0 rfl ⟨⟩ ?_
  have hw : watchV p m run = watchTo p run (runC p m run) (runC p m run).length := rfl
  have e1 : firstV p m run = (noVio, false) := by unfold firstV; rw [if_neg (fun h => h21 h.1)]
  rw [e1]; exact ret_cell_tmp (n := 5) rfl many_36 rfl (S3_1.cells 0 rfl) rfl rfl ⟨⟨_, rfl, RVio.of iz iz iz iz iz⟩, S3_1.fin⟩
 refine lO S16.k [.w 1] rfl ⟨⟨rfl,rfl⟩,⟨⟩⟩ (o_calln S16 has_41 rfl rfl (watch_fn p run (runC p m run) (evOK_run hp (by omega)) hle (by omega) M _ _ _ _ (hI.keep (S16.keep0 M)) (hRun.keep (S16.keep0 M)) (RdS.keepW hL KL.of_nil (RConf.keep KL.of_nil))) ?_)
 rintro v26 w26 hV S26 X26
 obtain ⟨_, _, _, rfl⟩ := hV.form
 have hnv := hV.len.1
 refine lB0 rfl ⟨⟩ (fun h29 => ?_) fun h29 => ?_
 ·refine lO0 rfl ⟨⟩ (o_build bld_36 (vs := []) (cs := [_, _, _, _, _]) rfl rfl rfl rfl ?_)
  first | refine o_storeN (kk := 0) (vs := [_, _, _, _, _]) S26 sz_36 rfl rfl rfl rfl rfl rfl rfl ?_
  intro w6_1 S6_1 X6_1
  dsimp only [setsAt, List.set] at S6_1
  refine lR0 rfl ⟨⟩ ?_
  have hw : watchV p m run = watchTo p run (runC p m run) (runC p m run).length := rfl
  have e1 : firstV p m run = (noVio, false) := by unfold firstV; rw [if_neg (fun h => h.2 (List.length_eq_zero_iff.1 (by rw [hw]; omega)))]
  rw [e1]; exact ret_cell_tmp (n := 5) rfl many_36 rfl (S6_1.cells 0 rfl) rfl rfl ⟨⟨_, rfl, RVio.of iz iz iz iz iz⟩, S6_1.fin⟩
 obtain ⟨v0, b32, p32, _, hxv0, hA32, _, hl32, hc32, hr32⟩ := RdS.get (hV) (0) (by omega)
 obtain ⟨rfl, j1, j2, j3, j4, j5⟩ := hr32
 refine lO (S26.k.b hc32) [.x b32 p32,.v 0] rfl ⟨⟨rfl,hl32⟩,⟨hA32,by omega⟩,⟨⟩⟩ ?_
 first | refine o_storeN (kk := 0) (vs := [_, _, _, _, _]) S26 sz_36 rfl rfl rfl rfl rfl rfl rfl ?_
 intro w7_3 S7_3 X7_3
 dsimp only [setsAt, List.set] at S7_3
 refine lR0 rfl ⟨⟩ ?_
 have hw : watchV p m run = watchTo p run (runC p m run) (runC p m run).length := rfl
 have e1 : firstV p m run = (v0, true) := by
  unfold firstV; rw [if_pos ⟨h21, fun hh => by rw [← hw, hh] at hnv; simp at hnv; omega⟩, hw, List.headD_eq_head?_getD, List.head?_eq_getElem?, hxv0]; rfl
 rw [e1]; exact ret_cell_tmp (n := 5) rfl many_36 rfl (S7_3.cells 0 rfl) rfl rfl ⟨⟨_, rfl, RVio.of j1 j2 j3 j4 j5⟩, S7_3.fin⟩
end Go.Proofs.YtjjmdcnmeommbaaGreatDoor
namespace Go.Fw
open Go.RowKit
def eOne33 : E := ⟨1, 1, 1, []⟩
def eX33 : E := ⟨2, 2, 0, []⟩
def eN33 : E := ⟨1, 2, 1, []⟩
def eGuar33 : E := ⟨13, 1, 0, [⟨3, 2, 0, []⟩, eX33]⟩
def eLess33 : E := ⟨9, 2, 0, [eX33, eN33]⟩
def eIs33 : E := ⟨11, 1, 0, [eX33, eN33]⟩
def downP : ProgD :=
 ⟨[⟨⟨#[77, 46, 120]⟩, 2, 1, -1, false, 0⟩], [⟨⟨#[77]⟩, ⟨#[65]⟩, eOne33, eGuar33, [0]⟩], [],
  [⟨⟨#[116]⟩, 2, [eOne33, eIs33], [0, 0], [⟨4, 0, 1, eOne33, [⟨0, eLess33⟩], false, 0, 0⟩], [], false⟩]⟩
theorem down_ok : ProgOK downP := progB_ok (by kernel_rfl)
def oneV33 : Value := .agg #[.int .i64 1, .int .i64 1, .int .i64 1, .slice none 0 0]
def numV33 : Value := .agg #[.int .i64 1, .int .i64 2, .int .i64 1, .slice none 0 0]
end Go.Fw
namespace Go.Proofs.YtjjmdcnmeommbaaGreatDoor
open Go.Fw Go.RowKit
theorem one33_fn (w0 : World) : Does Tryz.prog 48 #[] w0 fun v w' => v = oneV33 ∧ Below w0.heap.size w0 w' := by
 have S := St.refl w0
 refine dnR Tryz.func48 rfl Tryz.ntmps48 rfl ?_
 refine wO0 rfl ⟨⟩ (o_alloc S zv_56 rfl rfl ?_)
 intro g0 w0 S0 X0 G0
 refine lO0 rfl ⟨⟩ (o_build bld_56 (vs := [(0, .int .i64 _), (1, .int .i64 _), (2, .int .i64 _)]) (cs := [_, _, _, _]) rfl rfl rfl rfl ?_)
 first | refine o_storeN (kk := 0) (vs := [_, _, _, _]) S0 sz_56 rfl rfl rfl rfl rfl rfl rfl ?_
 intro w1_1 S1_1 X1_1
 dsimp only [setsAt, List.set] at S1_1
 refine lR0 rfl ⟨⟩ (ret_cell1 rfl many_56 rfl (S1_1.cells 0 rfl) rfl ⟨rfl, S1_1.fin⟩)
theorem num33_fn (w0 : World) : Does Tryz.prog 62 #[.int .i64 1] w0 fun v w' => v = numV33 ∧ Below w0.heap.size w0 w' := by
 have S := St.refl w0
 refine dnR Tryz.func62 rfl Tryz.ntmps62 rfl ?_
 refine wO0 rfl ⟨⟩ (o_alloc S zv_56 rfl rfl ?_)
 intro g2 w2 S2 X2 G2
 refine lO0 rfl ⟨⟩ (o_build bld_56 (vs := [(0, .int .i64 _), (1, .int .i64 _), (2, .int .i64 _)]) (cs := [_, _, _, _]) rfl rfl rfl rfl ?_)
 first | refine o_storeN (kk := 0) (vs := [_, _, _, _]) S2 sz_56 rfl rfl rfl rfl rfl rfl rfl ?_
 intro w1_2 S1_2 X1_2
 dsimp only [setsAt, List.set] at S1_2
 refine lR0 rfl ⟨⟩ (ret_cell1 rfl many_56 rfl (S1_2.cells 0 rfl) rfl ⟨rfl, S1_2.fin⟩)
theorem down_fn (w0 : World) :
 Does Tryz.prog 37 #[] w0 fun v w' => (∃ cs : List Value, v = .agg cs.toArray ∧ RdProg [] w' downP cs) ∧ Below w0.heap.size w0 w' := by
 have S := St.refl w0
 refine dnR Tryz.func37 rfl Tryz.ntmps37 rfl ?_
 refine wO0 rfl ⟨⟩ (o_alloc S zv_27 rfl rfl ?_)
 intro g0 w0 S0 X0 G0
 refine lO0 rfl ⟨⟩ (o_build bld_56 (vs := [(0, .int .i64 _), (1, .int .i64 _)]) (cs := [_, _, _, _]) rfl rfl rfl rfl ?_)
 refine o_alloc S0 zv_56 rfl rfl ?_
 intro g1 w1 S1 X1 G1
 first | refine o_storeN (kk := 0) (vs := [_, _, _, _]) S1 sz_56 rfl rfl rfl rfl rfl rfl rfl ?_
 intro w1_2 S1_2 X1_2
 dsimp only [setsAt, List.set] at S1_2
 refine lO0 rfl ⟨⟩ (o_build bld_56 (vs := [(0, .int .i64 _), (1, .int .i64 _)]) (cs := [_, _, _, _]) rfl rfl rfl rfl ?_)
 refine lO S1_2.k [.w 0] rfl ⟨⟨rfl,by rfl⟩,⟨⟩⟩ (o_buildSlice S1_2 slz_54 (vs := [.agg _, .agg _]) (cs := [_, _, _, _, _, _, _, _]) (by rfl) rfl rfl rfl rfl rfl rfl ?_)
 intro g9 w9 S9 X9 G9
 refine o_build bld_56 (vs := [(0, .int .i64 _), (1, .int .i64 _), (3, .slice _ _ _)]) (cs := [_, _, _, _]) rfl rfl rfl rfl ?_
 refine o_alloc S9 zv_56 rfl rfl ?_
 intro g2 w2 S2 X2 G2
 first | refine o_storeN (kk := 0) (vs := [_, _, _, _]) S2 sz_56 rfl rfl rfl rfl rfl rfl rfl ?_
 intro w2_5 S2_5 X2_5
 dsimp only [setsAt, List.set] at S2_5
 refine lC0 rfl ⟨⟩ (W_flowC fmx [0, 1, 2, 3, 4] 5 (by kernel_rfl) (by kernel_rfl) (Cl _ _ _ _) (Cl.start S2_5) (fun i => if i = 1 then some (62, #[.int .i64 1], .agg #[.int .i64 1, .int .i64 2, .int .i64 1, .slice none 0 0]) else none) ?_ _ rfl ?_)
 ·intro i f a v hi
  by_cases hi1 : i = 1
  ·subst hi1; cases hi; exact fun w hC => (num33_fn _).mono fun u w' hr => ⟨hr.1, hC.later hr.2⟩
  ·simp only [hi1, if_false] at hi; cases hi
 refine FL_q rfl rfl ?_
 refine q_loadN many_56 rfl (fun w1 hw => hw.1.cells 2 rfl) rfl rfl ?_
 refine QL_nil ?_
 refine FL_call has_62 rfl rfl rfl rfl rfl ?_
 refine FL_slice rfl rfl rfl slz_54 (vs := [.agg _, .agg _]) (cs := [_, _, _, _, _, _, _, _]) (by rfl) rfl rfl rfl rfl rfl ?_
 intro g13 G13 ng13
 refine FL_q rfl rfl ?_
 refine q_build bld_56 (vs := [(0, .int .i64 _), (1, .int .i64 _), (3, .slice _ _ _)]) (cs := [_, _, _, _]) rfl rfl rfl rfl ?_
 refine QL_nil ?_
 refine FL_alloc rfl rfl rfl zv_56 rfl ?_
 intro g3 G3 ng3
 refine FL_nil ?_
 rintro wR3 ⟨SR3, _⟩ ⟨⟨-, hg13⟩, hg3⟩
 clear ng13
 replace SR3 := SR3.push_new S2_5 hg13 G13
 replace SR3 := SR3.push_more (L1 := [_]) S2_5 hg3 G3 (by simpa [eq_comm] using ng3)
 first | refine o_storeN (kk := 0) (vs := [_, _, _, _]) SR3 sz_56 rfl rfl rfl rfl rfl rfl rfl ?_
 intro w3_5 S3_5 X3_5
 dsimp only [setsAt, List.set] at S3_5
 refine WL_nil ⟨rfl, ?_⟩
 refine fC0 rfl ⟨⟩ (W_flowC fmx [0, 1, 2, 3, 4] 5 (by kernel_rfl) (by kernel_rfl) (Cl _ _ _ _) (Cl.start S3_5) (fun i => if i = 1 then some (62, #[.int .i64 1], .agg #[.int .i64 1, .int .i64 2, .int .i64 1, .slice none 0 0]) else none) ?_ _ rfl ?_)
 ·intro i f a v hi
  by_cases hi1 : i = 1
  ·subst hi1; cases hi; exact fun w hC => (num33_fn _).mono fun u w' hr => ⟨hr.1, hC.later hr.2⟩
  ·simp only [hi1, if_false] at hi; cases hi
 refine FL_q rfl rfl ?_
 refine q_loadN many_56 rfl (fun w1 hw => hw.1.cells 4 rfl) rfl rfl ?_
 refine QL_nil ?_
 refine FL_call has_62 rfl rfl rfl rfl rfl ?_
 refine FL_slice rfl rfl rfl slz_54 (vs := [.agg _, .agg _]) (cs := [_, _, _, _, _, _, _, _]) (by rfl) rfl rfl rfl rfl rfl ?_
 intro g17 G17 ng17
 refine FL_q rfl rfl ?_
 refine q_build bld_56 (vs := [(0, .int .i64 _), (1, .int .i64 _), (3, .slice _ _ _)]) (cs := [_, _, _, _]) rfl rfl rfl rfl ?_
 refine QL_nil ?_
 refine FL_alloc rfl rfl rfl zv_56 rfl ?_
 intro g4 G4 ng4
 refine FL_nil ?_
 rintro wR4 ⟨SR4, _⟩ ⟨⟨-, hg17⟩, hg4⟩
 clear ng17
 replace SR4 := SR4.push_new S3_5 hg17 G17
 replace SR4 := SR4.push_more (L1 := [_]) S3_5 hg4 G4 (by simpa [eq_comm] using ng4)
 first | refine o_storeN (kk := 0) (vs := [_, _, _, _]) SR4 sz_56 rfl rfl rfl rfl rfl rfl rfl ?_
 intro w4_5 S4_5 X4_5
 dsimp only [setsAt, List.set] at S4_5
 refine WL_nil ⟨rfl, ?_⟩
 refine fC0 rfl ⟨⟩ (W_flowC fmx [0, 1, 2, 3, 4, 5, 6, 7, 8, 9, 10, 11] 12 (by kernel_rfl) (by kernel_rfl) (Cl _ _ _ _) (Cl.start S4_5) (fun i => if i = 0 then some (48, #[], .agg #[.int .i64 1, .int .i64 1, .int .i64 1, .slice none 0 0]) else if i = 4 then some (48, #[], .agg #[.int .i64 1, .int .i64 1, .int .i64 1, .slice none 0 0]) else none) ?_ _ rfl ?_)
 ·intro i f a v hi
  by_cases hi0 : i = 0
  ·subst hi0; cases hi; exact fun w hC => (one33_fn _).mono fun u w' hr => ⟨hr.1, hC.later hr.2⟩
  by_cases hi4 : i = 4
  ·subst hi4; cases hi; exact fun w hC => (one33_fn _).mono fun u w' hr => ⟨hr.1, hC.later hr.2⟩
  ·simp only [hi0, hi4, if_false] at hi; cases hi
 refine FL_call has_48 rfl rfl rfl rfl rfl ?_
 refine FL_q rfl rfl ?_
 refine q_loadN many_56 rfl (fun w1 hw => hw.1.cells 0 rfl) rfl rfl ?_
 refine QL_nil ?_
 refine FL_slice rfl rfl rfl slz_54 (vs := [.agg _, .agg _]) (cs := [_, _, _, _, _, _, _, _]) (by rfl) rfl rfl rfl rfl rfl ?_
 intro g21 G21 ng21
 refine FL_slice rfl rfl rfl slz_49 (vs := [.int .i64 _, .int .i64 _]) (cs := [_, _]) (by rfl) rfl rfl rfl rfl rfl ?_
 intro g22 G22 ng22
 refine FL_call has_48 rfl rfl rfl rfl rfl ?_
 refine FL_q rfl rfl ?_
 refine q_loadN many_56 rfl (fun w1 hw => hw.1.cells 2 rfl) rfl rfl ?_
 refine QL_nil ?_
 refine FL_q rfl rfl ?_
 refine q_build bld_98 (vs := [(1, .agg _)]) (cs := [_, _, _, _, _]) rfl rfl rfl rfl ?_
 refine QL_nil ?_
 refine FL_slice rfl rfl rfl slz_86 (vs := [.agg _]) (cs := [_, _, _, _, _]) (by rfl) rfl rfl rfl rfl rfl ?_
 intro g26 G26 ng26
 refine FL_q rfl rfl ?_
 refine q_build bld_88 (vs := [(0, .int .i64 _), (2, .int .i64 _), (3, .agg _), (4, .slice _ _ _)]) (cs := [_, _, _, _, _, _, _, _, _, _, _]) rfl rfl rfl rfl ?_
 refine QL_nil ?_
 refine FL_slice rfl rfl rfl slz_57 (vs := [.agg _]) (cs := [_, _, _, _, _, _, _, _, _, _, _]) (by rfl) rfl rfl rfl rfl rfl ?_
 intro g28 G28 ng28
 refine FL_q rfl rfl ?_
 refine q_build bld_60 (vs := [(0, .string _), (1, .int .i64 _), (2, .slice _ _ _), (3, .slice _ _ _), (4, .slice _ _ _)]) (cs := [_, _, _, _, _, _, _]) rfl rfl rfl rfl ?_
 refine QL_nil ?_
 refine FL_alloc rfl rfl rfl zv_60 rfl ?_
 intro g5 G5 ng5
 refine FL_nil ?_
 rintro wR5 ⟨SR5, _⟩ ⟨⟨⟨⟨⟨-, hg21⟩, hg22⟩, hg26⟩, hg28⟩, hg5⟩
 clear ng21
 replace SR5 := SR5.push_new S4_5 hg21 G21
 replace SR5 := SR5.push_more (L1 := [_]) S4_5 hg22 G22 (by simpa [eq_comm] using ng22)
 replace SR5 := SR5.push_more (L1 := [_, _]) S4_5 hg26 G26 (by simpa [eq_comm] using ng26)
 replace SR5 := SR5.push_more (L1 := [_, _, _]) S4_5 hg28 G28 (by simpa [eq_comm] using ng28)
 replace SR5 := SR5.push_more (L1 := [_, _, _, _]) S4_5 hg5 G5 (by simpa [eq_comm] using ng5)
 first | refine o_storeN (kk := 0) (vs := [_, _, _, _, _, _, _]) SR5 sz_60 rfl rfl rfl rfl rfl rfl rfl ?_
 intro w5_12 S5_12 X5_12
 dsimp only [setsAt, List.set] at S5_12
 refine WL_nil ⟨rfl, ?_⟩
 refine fC0 rfl ⟨⟩ (W_flowC fmx [0, 1, 2, 3, 4, 5, 6, 7, 8, 9] 10 (by kernel_rfl) (by kernel_rfl) (Cl _ _ _ _) (Cl.start S5_12) (fun i => if i = 2 then some (48, #[], .agg #[.int .i64 1, .int .i64 1, .int .i64 1, .slice none 0 0]) else none) ?_ _ rfl ?_)
 ·intro i f a v hi
  by_cases hi2 : i = 2
  ·subst hi2; cases hi; exact fun w hC => (one33_fn _).mono fun u w' hr => ⟨hr.1, hC.later hr.2⟩
  ·simp only [hi2, if_false] at hi; cases hi
 refine FL_q rfl rfl ?_
 refine q_build bld_96 (vs := [(0, .string _), (1, .int .i64 _), (2, .int .i64 _), (3, .int .i64 _)]) (cs := [_, _, _, _, _, _]) rfl rfl rfl rfl ?_
 refine QL_nil ?_
 refine FL_slice rfl rfl rfl slz_22 (vs := [.agg _]) (cs := [_, _, _, _, _, _]) (by rfl) rfl rfl rfl rfl rfl ?_
 intro g31 G31 ng31
 refine FL_call has_48 rfl rfl rfl rfl rfl ?_
 refine FL_q rfl rfl ?_
 refine q_loadN many_56 rfl (fun w1 hw => hw.1.cells 9 rfl) rfl rfl ?_
 refine QL_nil ?_
 refine FL_slice rfl rfl rfl slz_49 (vs := [.int .i64 _]) (cs := [_]) (by rfl) rfl rfl rfl rfl rfl ?_
 intro g34 G34 ng34
 refine FL_q rfl rfl ?_
 refine q_build bld_75 (vs := [(0, .string _), (1, .string _), (2, .agg _), (3, .agg _), (4, .slice _ _ _)]) (cs := [_, _, _, _, _, _, _, _, _, _, _]) rfl rfl rfl rfl ?_
 refine QL_nil ?_
 refine FL_slice rfl rfl rfl slz_23 (vs := [.agg _]) (cs := [_, _, _, _, _, _, _, _, _, _, _]) (by rfl) rfl rfl rfl rfl rfl ?_
 intro g36 G36 ng36
 refine FL_q rfl rfl ?_
 refine q_loadN many_60 rfl (fun w1 hw => hw.1.cells 0 rfl) rfl rfl ?_
 refine QL_nil ?_
 refine FL_slice rfl rfl rfl slz_25 (vs := [.agg _]) (cs := [_, _, _, _, _, _, _]) (by rfl) rfl rfl rfl rfl rfl ?_
 intro g38 G38 ng38
 refine FL_q rfl rfl ?_
 refine q_build bld_27 (vs := [(0, .slice _ _ _), (1, .slice _ _ _), (3, .slice _ _ _)]) (cs := [_, _, _, _]) rfl rfl rfl rfl ?_
 refine QL_nil ?_
 refine FL_nil ?_
 rintro wR6 ⟨SR6, _⟩ ⟨⟨⟨⟨-, hg31⟩, hg34⟩, hg36⟩, hg38⟩
 clear ng31
 replace SR6 := SR6.push_new S5_12 hg31 G31
 replace SR6 := SR6.push_more (L1 := [_]) S5_12 hg34 G34 (by simpa [eq_comm] using ng34)
 replace SR6 := SR6.push_more (L1 := [_, _]) S5_12 hg36 G36 (by simpa [eq_comm] using ng36)
 replace SR6 := SR6.push_more (L1 := [_, _, _]) S5_12 hg38 G38 (by simpa [eq_comm] using ng38)
 first | refine o_storeN (kk := 16) (vs := [_, _, _, _]) SR6 sz_27 rfl rfl rfl rfl rfl rfl rfl ?_
 intro w6_10 S6_10 X6_10
 dsimp only [setsAt, List.set] at S6_10
 refine WL_nil ⟨rfl, ?_⟩
 refine fR0 rfl ⟨⟩ ?_
 have SF := S6_10
 have i0 : i64 0 := by unfold i64; omega
 have i1 : i64 1 := by unfold i64; omega
 have i2 : i64 2 := by unfold i64; omega
 have i3 : i64 3 := by unfold i64; omega
 have i4 : i64 4 := by unfold i64; omega
 have i9 : i64 9 := by unfold i64; omega
 have i11 : i64 11 := by unfold i64; omega
 have i13 : i64 13 := by unfold i64; omega
 have im : i64 (-1) := by unfold i64; omega
 have hone : RdE [] w6_10 eOne33 [.int .i64 1, .int .i64 1, .int .i64 1, .slice none 0 0] := rdE_leaf i1 i1 i1
 have hnum : RdE [] w6_10 eN33 [.int .i64 1, .int .i64 2, .int .i64 1, .slice none 0 0] := rdE_leaf i1 i2 i1
 have hx : RdE [] w6_10 eX33 [.int .i64 2, .int .i64 2, .int .i64 0, .slice none 0 0] := rdE_leaf i2 i2 i0
 have hold : RdE [] w6_10 ⟨3, 2, 0, []⟩ [.int .i64 3, .int .i64 2, .int .i64 0, .slice none 0 0] := rdE_leaf i3 i2 i0
 have hguar : RdE [] w6_10 eGuar33 [.int .i64 13, .int .i64 1, .int .i64 0, .slice (some ⟨g9, 0, none⟩) 2 2] := rdE_two i13 i1 (by simp) (SF.cells 14 rfl) hold hx
 have hless : RdE [] w6_10 eLess33 [.int .i64 9, .int .i64 2, .int .i64 0, .slice (some ⟨g13, 0, none⟩) 2 2] := rdE_two i9 i2 (by simp) (SF.cells 12 rfl) hx hnum
 have his : RdE [] w6_10 eIs33 [.int .i64 11, .int .i64 1, .int .i64 0, .slice (some ⟨g17, 0, none⟩) 2 2] := rdE_two i11 i1 (by simp) (SF.cells 10 rfl) hx hnum
 have hset : RdAs [] w6_10 (.slice (some ⟨g26, 0, none⟩) 1 1) [⟨0, eLess33⟩] := rdS_1 (by simp) (SF.cells 6 rfl) rfl ⟨_, rfl, i0, hless⟩
 have hst : RdSt [] w6_10 (.slice (some ⟨g28, 0, none⟩) 1 1) [⟨4, 0, 1, eOne33, [⟨0, eLess33⟩], false, 0, 0⟩] := rdS_1 (by simp) (SF.cells 5 rfl) rfl ⟨_, _, _, _, _, rfl, i4, i0, i1, i0, i0, hone, hset⟩
 have has : RdEs [] w6_10 (.slice (some ⟨g21, 0, none⟩) 2 2) [eOne33, eIs33] := rdS_2 (c := [_, _, _, _]) (c2 := [_, _, _, _]) (by simp) (SF.cells 8 rfl) rfl rfl hone his
 have hmo : RdI [] w6_10 (.slice (some ⟨g22, 0, none⟩) 2 2) [0, 0] := rdI_own SF (k := 7) rfl (by simp) rfl (by omega) (by simp [i0])
 have hfr : RdI [] w6_10 (.slice (some ⟨g34, 0, none⟩) 1 1) [0] := rdI_own SF (k := 2) rfl (by simp) rfl (by omega) (by simp [i0])
 refine ret_cell1 rfl many_27 rfl (SF.cells 16 rfl) rfl ⟨⟨_, rfl, _, _, _, _, rfl, ?_, ?_, rdS_nil, ?_⟩, SF.fin⟩
 ·exact rdS_1 (by simp) (SF.cells 3 rfl) rfl ⟨rfl, i2, i1, im, i0⟩
 ·exact rdS_1 (by simp) (SF.cells 1 rfl) rfl ⟨_, _, _, _, _, _, _, _, _, rfl, hone, hguar, hfr⟩
 ·exact rdS_1 (by simp) (SF.cells 0 rfl) rfl ⟨_, _, _, _, rfl, i2, has, hmo, hst, rdS_nil⟩
end Go.Proofs.YtjjmdcnmeommbaaGreatDoor
namespace Go.Fw
open Go.RowKit
section
variable {P : Program} {r : Option Nat} {N : Nat} {ops : Array Oper} {rest : List Oper} {C : World → Prop} {KQ : Env → Prop} {K : List Deferred → Env → World → Prop} {D : List Deferred} {e : Env} {w : World} {d : Nat} {t : TypeId} {p : String} {af : Array Edge} {x y : Operand} {yt : TypeId}
def vioV (v : VioD) : Value := .agg #[.int .i64 v.at_, .int .i64 v.kind, .int .i64 v.module_, .int .i64 v.thread, .int .i64 v.item]
def EqVio (P : Program) (ty : TypeId) : Prop := P.eqGuardType P.depth ty = false ∧ ∀ (w : World) (a b : VioD), (binOp .eql ty (vioV a) (vioV b)).run P w = .ok (.bool (decide (a = b))) w
theorem EqVio.neq {ty : TypeId} (hE : EqVio P ty) (w : World) (a b : VioD) : (binOp .neq ty (vioV a) (vioV b)).run P w = .ok (.bool (!decide (a = b))) w := by
 have := hE.2 w a b
 unfold vioV at this ⊢
 rw [run_eql_struct] at this
 rw [run_neq_struct]
 revert this
 generalize (Op.equalIn 10000 ty _ _).run P w = res
 intro this
 cases res with
 | ok z w' => simp only [Result.andThen_ok] at this ⊢; cases this; rfl
 | halt z w' => simp [Result.andThen] at this
theorem EqVio.guard {ty : TypeId} (hE : EqVio P ty) (w : World) (op : BinOp) (x y : Operand) (a b : VioD) : (eqGuard op ty x y (vioV a) (vioV b)).run P w = .ok () w := run_eqGuard_agg w _ _ _ _ _ _ hE.1
theorem q_eqlV {ty : TypeId} {a b : VioD} (hE : EqVio P ty) (hx : ev e x = vioV a) (hy : ev e y = vioV b) (hd : Nat.ble (d + 1) N = true)
 (h1 : a = b → QL P N ops C rest KQ (upd e d (.bool true))) (h2 : a ≠ b → QL P N ops C rest KQ (upd e d (.bool false))) :
 QL P N ops C (⟨some d, .binOp .eql ty x y yt, t, p, af, none⟩ :: rest) KQ e := by
 by_cases hh : a = b
 ·exact QL_val rfl rfl hd (fun w _ => by simp only [execOp, hx, hy, Sem.run_bind, hE.guard, Result.andThen_ok, hE.2, Sem.run_pure, decide_eq_true hh]) (h1 hh)
 ·exact QL_val rfl rfl hd (fun w _ => by simp only [execOp, hx, hy, Sem.run_bind, hE.guard, Result.andThen_ok, hE.2, Sem.run_pure, decide_eq_false hh]) (h2 hh)
theorem q_neqV {ty : TypeId} {a b : VioD} (hE : EqVio P ty) (hx : ev e x = vioV a) (hy : ev e y = vioV b) (hd : Nat.ble (d + 1) N = true)
 (h1 : a ≠ b → QL P N ops C rest KQ (upd e d (.bool true))) (h2 : a = b → QL P N ops C rest KQ (upd e d (.bool false))) :
 QL P N ops C (⟨some d, .binOp .neq ty x y yt, t, p, af, none⟩ :: rest) KQ e := by
 by_cases hh : a = b
 ·exact QL_val rfl rfl hd (fun w _ => by simp only [execOp, hx, hy, Sem.run_bind, hE.guard, Result.andThen_ok, hE.neq, Sem.run_pure, decide_eq_true hh]; rfl) (h2 hh)
 ·exact QL_val rfl rfl hd (fun w _ => by simp only [execOp, hx, hy, Sem.run_bind, hE.guard, Result.andThen_ok, hE.neq, Sem.run_pure, decide_eq_false hh]; rfl) (h1 hh)
end
end Go.Fw
namespace Go.Proofs.YtjjmdcnmeommbaaGreatDoor
open Go.Fw Go.RowKit
theorem eq_vio : EqVio Tryz.prog 36 := by
 refine ⟨Tryz.eqGuardType36, fun w a b => ?_⟩
 have ht : Tryz.prog.underlying 36 = some (.struct (Tryz.prog.fieldsOf 36)) := by unfold Program.fieldsOf; rw [Tryz.underlying36]
 have hag : ∀ w, (isAgg 3).run Tryz.prog w = .ok false w := fun w => by simp [isAgg, run_underlying Tryz.underlying3]
 obtain ⟨a1, a2, a3, a4, a5⟩ := a
 obtain ⟨b1, b2, b3, b4, b5⟩ := b
 unfold vioV
 rw [run_eql_struct, run_equalIn_struct w 9999 _ _ _ ht Tryz.stoodInHeld36]
 unfold Program.fieldsOf
 rw [Tryz.underlying36]
 by_cases h1 : a1 = b1 <;> by_cases h2 : a2 = b2 <;> by_cases h3 : a3 = b3 <;> by_cases h4 : a4 = b4 <;> by_cases h5 : a5 = b5 <;> simp [Op.eqFields, part, hag, run_equalIn_int _ 9998 _ .i64 .i64 _ _ Tryz.underlying3, h1, h2, h3, h4, h5]
theorem sameVio_fn (a b : List VioD) (M : List Nat) (w0 : World) (va vb : Value) (hA : RdVs M w0 va a) (hB : RdVs M w0 vb b) :
 Does Tryz.prog 16 #[va, vb] w0 fun v w' => v = .bool (decide (a = b)) ∧ Below w0.heap.size w0 w' := by
 obtain ⟨Aa, na, ca, rfl⟩ := hA.form
 obtain ⟨_, -, _⟩ := hA.len
 obtain ⟨Ab, nb, cb, rfl⟩ := hB.form
 obtain ⟨_, -, _⟩ := hB.len
 have S := St.refl w0
 refine dnR Tryz.func16 rfl Tryz.ntmps16 rfl ?_
 refine wB0 rfl ⟨⟩ (fun h10 => ?_) fun h10 => ?_
 ·refine lR0 rfl ⟨⟩ (ret_1 rfl (by conv => lhs; whnf) ?_)
  exact ⟨by rw [decide_eq_false (ne_len (by omega))], S.fin⟩
 refine lC0 rfl ⟨⟩ (wL (fun μk D ε w => D = [] ∧ ∃ k : Nat, (k + μk = (a.length)) ∧ (EqTo a b k) ∧ St [] w0 w [] ∧ Sl ε [(0, .slice Aa na ca), (1, .slice Ab nb cb), (5, .int .i64 k)]) (μ := (a.length)) ⟨rfl, 0, by omega, EqTo.zero, S, rfl⟩ ?_)
 rintro μk D ε w ⟨rfl, k, _, he, S, eZ⟩
 refine wK eZ (wB0 rfl ⟨⟩ (fun h14 => ?_) fun h14 => ?_)
 ·refine lC0 rfl ⟨⟩ (W_draw fmx [0, 1, 2, 3, 4, 5, 6, 7, 8] [] [] (by kernel_rfl) rfl (Cl _ _ _ _) (Cl.start S) ?_)
  obtain ⟨x, b19, p19, _, hxx, hA19, _, hl19, hc19, hr19⟩ := RdS.get (hA) (k) (by omega)
  obtain ⟨rfl, -, -, -, -, -⟩ := hr19
  obtain ⟨y, b23, p23, _, hxy, hA23, _, hl23, hc23, hr23⟩ := RdS.get (hB) (k) (by omega)
  obtain ⟨rfl, -, -, -, -, -⟩ := hr23
  refine qOn 8 ((S.q.a hc23).a hc19) [.x b19 p19,.v 0,.x b23 p23,.v 1] rfl ⟨⟨rfl,hl23⟩,⟨hA23,by omega⟩,⟨rfl,hl19⟩,⟨hA19,by omega⟩,⟨⟩⟩ (q_neqV eq_vio (a := x) (b := y) rfl rfl rfl (fun h25 => ?_) fun h25 => ?_)
  ·refine qD rfl ⟨⟩ ?_
   rintro wR6 ⟨SR6, XR6⟩
   refine lR0 rfl ⟨⟩ (ret_1 rfl (by conv => lhs; whnf) ?_)
   exact ⟨by rw [decide_eq_false (ne_at hxx hxy (fun e => h25 e))], SR6.fin⟩
  refine qD rfl ⟨⟩ ?_
  rintro wR6 ⟨SR6, XR6⟩
  refine lP0 rfl ⟨by omega,⟨⟩⟩ ⟨μk - 1, by omega, rfl, (k + 1), (by omega), (he.succ hxx hxy h25), SR6, rfl⟩
 refine lR0 rfl ⟨⟩ (ret_1 rfl (by conv => lhs; whnf) ?_)
 exact ⟨by rw [decide_eq_true (he.all (by omega) (by omega))], S.fin⟩
end Go.Proofs.YtjjmdcnmeommbaaGreatDoor
namespace Go.Fw
open Go.RowKit
def runW : List ChoiceD := [⟨0, 0, 0⟩]
def badW : List VioD := [⟨0, 3, 0, 0, 0⟩, ⟨0, 1, 0, 0, 1⟩]
theorem watch_down : decide (watchV downP 0 runW = badW) = true := by kernel_rfl
theorem err_down : decide (errC downP 0 runW = 0) = true := by kernel_rfl
theorem watch_none : decide (watchV downP 0 [] = []) = true := by kernel_rfl
theorem err_none : decide (errC downP 0 [] = 0) = true := by kernel_rfl
end Go.Fw
namespace Go.Proofs.YtjjmdcnmeommbaaGreatDoor
open Go.Fw Go.RowKit
theorem first_down : decide (firstV downP 1 runW = (⟨0, 3, 0, 0, 0⟩, true)) = true := by kernel_rfl
theorem run3_fn (p : ProgD) (M : List Nat) (w0 : World) (cs : List Value) (vr : Value) (hI : InP p M w0 cs) :
 Does Tryz.prog 17 #[.agg cs.toArray, .int .i64 3, vr] w0 fun v w' => v = .tuple #[.slice none 0 0, .int .i64 1, .int .i64 0] ∧ Below w0.heap.size w0 w' := by
 obtain ⟨_, _, _, _, _, _, _, _, _, _, _, _, rfl, _, _, _, _, _, _, _, _, _, _, _, _⟩ := hI.rd.open_
 have hp := hI.ok
 have S := St.refl w0
 refine Does_enterL Tryz.func17 rfl Tryz.ntmps17 rfl ?_
 refine W_seq ?_
 refine W_region ?_
 refine o_boxa S (by conv => lhs; whnf) rfl ?_
 intro g3 w3 S3 X3 G3
 refine o_alloc S3 zv_39 rfl rfl ?_
 intro g6 w6 S6 X6 G6
 refine o_alloc S6 zv_32 rfl rfl ?_
 intro g7 w7 S7 X7 G7
 refine o_alloc S7 zv_3 rfl rfl ?_
 intro g8 w8 S8 X8 G8
 refine WL_nil ?_
 refine W_seq ?_
 refine W_seq ?_
 refine W_region ?_
 refine o_loadN many_27 rfl (S8.cells 3 rfl) rfl rfl ?_
 refine o_callr S8 has_42 rfl rfl (validP_fn p M _ _ (hI.keep (S8.keep0 M)).rd hI.ok (hI.keep (S8.keep0 M)).msk (hI.keep (S8.keep0 M)).lt) ?_
 intro w17 S17 X17
 refine o_move (by conv => lhs; whnf) rfl ?_
 refine o_extract rfl rfl rfl ?_
 refine o_extract rfl rfl rfl ?_
 refine o_extract rfl rfl rfl ?_
 refine o_assign (v := .int .i64 _) rfl rfl ?_
 refine o_assign (v := .int .i64 _) rfl rfl ?_
 refine o_assign (v := .int .i64 _) rfl rfl ?_
 refine WL_nil ?_
 refine W_seq ?_
 refine W_region ?_
 refine o_move (v := .int .i64 _) rfl rfl ?_
 refine o_neq rfl rfl rfl (fun h22 => ?_) fun h22 => ?_
 ·exfalso; omega
 refine WL_nil ?_
 refine W_else rfl ?_
 refine W_skip ?_
 refine W_seq ?_
 refine W_seq ?_
 refine W_region ?_
 refine o_move (v := .int .i64 _) rfl rfl ?_
 refine o_neq rfl rfl rfl (fun h24 => ?_) fun h24 => ?_
 ·refine o_move (v := .bool _) rfl rfl ?_
  refine WL_on rfl rfl rfl ?_
  refine o_move (v := .int .i64 _) rfl rfl ?_
  refine WL_on rfl rfl rfl ?_
  refine o_neq rfl rfl rfl (fun h27 => ?_) fun h27 => ?_
  ·refine o_pick rfl (v := .bool _) rfl rfl ?_
   refine o_move (v := .bool _) rfl rfl ?_
   refine WL_on rfl rfl rfl ?_
   refine o_move (v := .int .i64 _) rfl rfl ?_
   refine WL_on rfl rfl rfl ?_
   refine o_neq rfl rfl rfl (fun h31 => ?_) fun h31 => ?_
   ·refine o_pick rfl (v := .bool _) rfl rfl ?_
    refine WL_nil ?_
    refine W_then rfl ?_
    refine W_seq ?_
    refine W_region ?_
    first | refine o_store (kk := 2) S17 sz_39 rfl (by conv => lhs; whnf) rfl rfl (by exact Nat.le_of_ble_eq_true rfl) ?_
    intro w5_0 S5_0 X5_0
    first | refine o_store (kk := 1) S5_0 sz_32 rfl (by conv => lhs; whnf) rfl rfl (by exact Nat.le_of_ble_eq_true rfl) ?_
    intro w5_1 S5_1 X5_1
    first | refine o_store (kk := 0) S5_1 sz_3 rfl (by conv => lhs; whnf) rfl rfl (by exact Nat.le_of_ble_eq_true rfl) ?_
    intro w5_2 S5_2 X5_2
    refine WL_nil ?_
    refine W_ret ?_
    exact retL_cells3 rfl one_39 one_errno one_3 rfl rfl rfl [] rfl List.nodup_nil NC.nil (S5_2.blk 2 rfl) (S5_2.blk 1 rfl) (S5_2.blk 0 rfl) rfl rfl rfl (fun w' hb => ⟨rfl, (S5_2.below.trans hb).nil⟩)
   exfalso; omega
  exfalso; omega
 exfalso; omega
theorem mWatch3_fn (p : ProgD) (M : List Nat) (w0 : World) (cs : List Value) (vr : Value) (hI : InP p M w0 cs) :
 Does Tryz.prog 15 #[.agg cs.toArray, .int .i64 3, vr] w0 fun v w' => v = .tuple #[.slice none 0 0, .int .i64 1] ∧ Below w0.heap.size w0 w' := by
 obtain ⟨_, _, _, _, _, _, _, _, _, _, _, _, rfl, _, _, _, _, _, _, _, _, _, _, _, _⟩ := hI.rd.open_
 have S := St.refl w0
 refine dnR Tryz.func15 rfl Tryz.ntmps15 rfl ?_
 refine wO0 rfl ⟨⟩ (o_boxa S (by conv => lhs; whnf) rfl ?_)
 intro g3 w3 S3 X3 G3
 refine lOn 8 S3.k [.w 0] rfl ⟨⟨rfl,rfl⟩,⟨⟩⟩ (o_move (by conv => lhs; whnf) rfl ?_)
 refine o_callr S3 has_17 rfl rfl (run3_fn p M _ _ _ (hI.keep (S3.keep0 M))) ?_
 intro w15 S15 X15
 refine lB0 rfl ⟨⟩ (fun h20 => ?_) (fun h20 => by exfalso; omega)
 refine lB0 rfl ⟨⟩ (fun h23 => ?_) (fun h23 => by exfalso; omega)
 refine lR0 rfl ⟨⟩ (ret_2 rfl (by conv => lhs; whnf) (by conv => lhs; whnf) ?_)
 exact ⟨rfl, S15.fin⟩
theorem watchDown_fn (w0 : World) (cs : List Value) (vr : Value) (hI : InP downP [] w0 cs) (hRun : RdCh [] w0 vr runW) :
 Does Tryz.prog 15 #[.agg cs.toArray, .int .i64 0, vr] w0 fun v w' => (∃ A n c, v = .tuple #[.slice A n c, .int .i64 0] ∧ RdVs [] w' (.slice A n c) badW) ∧ Below w0.heap.size w0 w' :=
 Does.mono (mWatch_fn downP 0 (.inl rfl) runW [] _ _ _ hI hRun (by decide)) fun v w' ⟨⟨vl, hv, hr⟩, hb⟩ => by
  obtain ⟨A, n, c, rfl⟩ := hr.form
  rw [of_decide_eq_true err_down] at hv
  rw [of_decide_eq_true watch_down] at hr
  exact ⟨⟨A, n, c, hv, hr⟩, hb⟩
theorem watchNone_fn (w0 : World) (cs : List Value) (hI : InP downP [] w0 cs) :
 Does Tryz.prog 15 #[.agg cs.toArray, .int .i64 0, .slice none 0 0] w0 fun v w' => (∃ A c, v = .tuple #[.slice A 0 c, .int .i64 0]) ∧ Below w0.heap.size w0 w' :=
 Does.mono (mWatch_fn downP 0 (.inl rfl) [] [] _ _ _ hI rdS_nil (by decide)) fun v w' ⟨⟨vl, hv, hr⟩, hb⟩ => by
  obtain ⟨A, n, c, rfl⟩ := hr.form
  rw [of_decide_eq_true err_none] at hv
  rw [of_decide_eq_true watch_none] at hr
  have h0 : n = 0 := hr.len.1
  subst h0
  exact ⟨⟨A, c, hv⟩, hb⟩
theorem firstDown_fn (w0 : World) (cs : List Value) (vr : Value) (hI : InP downP [] w0 cs) (hRun : RdCh [] w0 vr runW) :
 Does Tryz.prog 22 #[.agg cs.toArray, .int .i64 1, vr] w0 fun v w' => v = .tuple #[.agg #[.int .i64 0, .int .i64 3, .int .i64 0, .int .i64 0, .int .i64 0], .bool true] ∧ Below w0.heap.size w0 w' :=
 Does.mono (mFirst_fn downP 1 (.inr (.inl rfl)) runW [] _ _ _ hI hRun (by decide)) fun v w' ⟨⟨vs, hv, hr⟩, hb⟩ => by
  rw [of_decide_eq_true first_down] at hv hr
  rw [hr.1] at hv
  exact ⟨hv, hb⟩
theorem head33_fn (w0 : World) (hK : Masks [] w0) :
 Does Tryz.prog 13 #[] w0 fun v w' => v = .bool true ∧ Below w0.heap.size w0 w' := by
 have S := St.refl w0
 have i0 : i64 0 := by unfold i64; omega
 have i1 : i64 1 := by unfold i64; omega
 have i3 : i64 3 := by unfold i64; omega
 refine dnR Tryz.func13 rfl Tryz.ntmps13 rfl ?_
 refine wO0 rfl ⟨⟩ (o_calln S has_37 rfl rfl (down_fn _) ?_)
 rintro v11 w11 ⟨_, rfl, hP⟩ S11 X11
 have KP := Keep.refl [] w11
 refine o_build bld_68 (vs := []) (cs := [_, _, _]) rfl rfl rfl rfl ?_
 refine o_buildSlice S11 slz_28 (vs := [.agg _]) (cs := [_, _, _]) (by rfl) rfl rfl rfl rfl rfl rfl ?_
 intro g13 w13 S13 X13 G13
 replace KP := KP.trans X13
 have hD : RdCh [] w13 (.slice (some ⟨g13, 0, none⟩) 1 1) runW := rdS_1 (by simp) (S13.cells 0 rfl) rfl ⟨rfl, i0, i0, i0⟩
 refine o_calln S13 has_15 rfl rfl (watchDown_fn _ _ _ ⟨hP.keep KP, down_ok, hK.keep (S13.keep0 []), by simp⟩ hD) ?_
 rintro v14 w14 ⟨_, _, _, rfl, hL⟩ S14 X14
 have KL := Keep.refl [] w14
 refine lO0 rfl ⟨⟩ (o_calln S14 has_37 rfl rfl (down_fn _) ?_)
 rintro v18 w18 ⟨_, rfl, hQ⟩ S18 X18
 replace KL := KL.trans X18
 have KQ := Keep.refl [] w18
 refine o_build bld_68 (vs := []) (cs := [_, _, _]) rfl rfl rfl rfl ?_
 refine o_buildSlice S18 slz_28 (vs := [.agg _]) (cs := [_, _, _]) (by rfl) rfl rfl rfl rfl rfl rfl ?_
 intro g20 w20 S20 X20 G20
 replace KL := KL.trans X20
 replace KQ := KQ.trans X20
 have hD2 : RdCh [] w20 (.slice (some ⟨g20, 0, none⟩) 1 1) runW := rdS_1 (by simp) (S20.cells 0 rfl) rfl ⟨rfl, i0, i0, i0⟩
 refine o_callr S20 has_22 rfl rfl (firstDown_fn _ _ _ ⟨hQ.keep KQ, down_ok, hK.keep (S20.keep0 []), by simp⟩ hD2) ?_
 intro w21 S21 X21
 replace KL := KL.trans X21
 refine lO0 rfl ⟨⟩ (o_alloc S21 zv_36 rfl rfl ?_)
 intro g3 w3 S3 X3 G3
 have GKL3 := Nat.le_trans KL.size G3
 replace KL := KL.trans X3
 refine o_storeN (kk := 0) (vs := [_, _, _, _, _]) S3 sz_36 rfl rfl rfl rfl rfl rfl rfl ?_
 intro w2_8 S2_8 X2_8
 dsimp only [setsAt, List.set] at S2_8
 replace KL := KL.fresh X2_8 (by exact GKL3)
 refine lO0 rfl ⟨⟩ (o_calln S2_8 has_37 rfl rfl (down_fn _) ?_)
 rintro v25 w25 ⟨_, rfl, hR⟩ S25 X25
 replace KL := KL.trans X25
 refine o_calln S25 has_15 rfl rfl (watchNone_fn _ _ ⟨hR, down_ok, hK.keep (S25.keep0 []), by simp⟩) ?_
 rintro v26 w26 ⟨_, _, rfl⟩ S26 X26
 replace KL := KL.trans X26
 refine lO0 rfl ⟨⟩ (o_calln S26 has_37 rfl rfl (down_fn _) ?_)
 rintro v30 w30 ⟨cs, rfl, hT⟩ S30 X30
 replace KL := KL.trans X30
 refine o_callr S30 has_15 rfl rfl (mWatch3_fn downP [] _ _ _ ⟨hT, down_ok, hK.keep (S30.keep0 []), by simp⟩) ?_
 intro w31 S31 X31
 replace KL := KL.trans X31
 refine lO0 rfl ⟨⟩ (o_build bld_36 (vs := [(1, .int .i64 _)]) (cs := [_, _, _, _, _]) rfl rfl rfl rfl ?_)
 refine o_build bld_36 (vs := [(1, .int .i64 _), (4, .int .i64 _)]) (cs := [_, _, _, _, _]) rfl rfl rfl rfl ?_
 refine o_buildSlice S31 slz_31 (vs := [.agg _, .agg _]) (cs := [_, _, _, _, _, _, _, _, _, _]) (by rfl) rfl rfl rfl rfl rfl rfl ?_
 intro g36 w36 S36 X36 G36
 replace KL := KL.trans X36
 refine lC0 rfl ⟨⟩ (W_draw fmx [0, 1, 2, 3, 4, 5, 6, 7, 8, 9, 10, 11, 12, 13, 14, 15, 16, 17, 18, 19, 20, 21, 22, 23, 24, 25, 26, 27, 28, 29, 30] [] [] (by kernel_rfl) rfl (Cl _ _ _ _) (Cl.start S36) ?_)
 refine qB0 rfl ⟨⟩ (fun h38 => ?_) (fun h38 => by exfalso; omega)
 refine qO0 rfl ⟨⟩ ?_
 have hB : RdVs [] w36 (.slice (some ⟨g36, 0, none⟩) 2 2) badW := rdS_2 (c := [_, _, _, _, _]) (c2 := [_, _, _, _, _]) (by simp) (S36.cells 0 rfl) rfl rfl ⟨rfl, i0, i3, i0, i0, i0⟩ ⟨rfl, i0, i1, i0, i0, i1⟩
 refine q_callr has_16 rfl rfl (fun w1 S1 X1 => does_true (sameVio_fn badW badW [] _ _ _ (RdS.keepW (RdS.keepW hL KL (fun _ _ h => h)) X1 (fun _ _ h => h)) (RdS.keepW hB X1 (fun _ _ h => h))) (decide_eq_true rfl)) ?_
 refine qOn 2 S36.q [] rfl ⟨⟩ (QL_on rfl rfl ?_)
 refine q_move (v := .bool true) rfl rfl ?_
 refine qO S36.q [.w 1,.i] rfl ⟨by omega,⟨rfl,by rfl⟩,⟨⟩⟩ (q_loadN many_36 rfl (fun w1 hw => Cells.sub (hw.1.cells 0 rfl) 0 5) rfl rfl ?_)
 refine QL_on rfl rfl ?_
 refine q_eqlV eq_vio (a := ⟨0, 3, 0, 0, 0⟩) (b := ⟨0, 3, 0, 0, 0⟩) rfl rfl rfl (fun h52 => ?_) (fun h52 => absurd rfl h52)
 refine qB0 rfl ⟨⟩ (fun h57 => ?_) (fun h57 => by exfalso; omega)
 refine qB0 rfl ⟨⟩ (fun h61 => ?_) (fun h61 => by exfalso; omega)
 refine qB0 rfl ⟨⟩ (fun h65 => ?_) (fun h65 => by exfalso; omega)
 refine qD rfl ⟨⟩ ?_
 rintro wR6 ⟨SR6, _⟩
 exact lT rfl ⟨⟩ rfl ⟨rfl, SR6.fin⟩
end Go.Proofs.YtjjmdcnmeommbaaGreatDoor
namespace Go.Fw
open Go.RowKit
section
variable {p : ProgD} {m : Int}
theorem runTo_takeA : ∀ (run : List ChoiceD) (c : ConfD) (k : Nat), runTo p m c (run.take k) = (runTo p m c run).take k
 | [], c, k => by simp [runTo]
 | x :: l, c, 0 => by simp [runTo]
 | x :: l, c, k + 1 => by
   rw [List.take_succ_cons]
   by_cases hx : x ∈ choicesC p m c
   ·rw [runTo, if_pos hx, runTo, if_pos hx, List.take_succ_cons, runTo_takeA l _ k]
   ·rw [runTo, if_neg hx, runTo, if_neg hx]; rfl
theorem runC_takeA (run : List ChoiceD) (k : Nat) : runC p m (run.take k) = (runC p m run).take (k + 1) := by
 unfold runC
 rw [List.take_succ_cons, runTo_takeA]
theorem mem_guard {c : Prop} [Decidable c] {x v : VioD} (h : v ∈ (if c then [x] else [])) : c ∧ v = x := by
 split at h
 ·rename_i hc; exact ⟨hc, by simpa using h⟩
 ·cases h
theorem mem_frameV {e : EvD} {v : VioD} (h : v ∈ frameV p e) : (e.still = true ∧ frameB p (sOf p e) = true) ∧ v = broken p e 4 := mem_guard h
theorem mem_guarV {e : EvD} {v : VioD} (h : v ∈ guarV p e) : (e.still = true ∧ guarB p e = false) ∧ v = broken p e 3 := mem_guard h
theorem mem_relyV {e : EvD} {v : VioD} (h : v ∈ relyV p e) : e.still = true ∧ frameV p e = [] ∧ guarV p e = [] ∧ ∃ t, t < p.threads.length ∧ v ∈ relyT p e t := by
 unfold relyV at h
 split at h
 ·rename_i hc
  unfold relyTo at h
  obtain ⟨t, ht, h⟩ := List.mem_flatMap.1 h
  exact ⟨hc.1, hc.2.1, hc.2.2, t, List.mem_range.1 ht, h⟩
 ·cases h
theorem mem_relyT {e : EvD} {t : Nat} {v : VioD} (h : v ∈ relyT p e t) : (t : Int) ≠ e.x.thread ∧ e.c.at_.getD t 0 ≠ -1 ∧ (modOf p ((thrOf p t).modules.getD (e.c.at_.getD t 0).toNat 0)).rely.evl e.c.mem e.d.mem = 0 ∧
 v = ⟨e.at_, 5, (thrOf p t).modules.getD (e.c.at_.getD t 0).toNat 0, t, e.c.at_.getD t 0⟩ := by
 unfold relyT at h
 split at h
 ·cases h
 ·rename_i h1
  split at h
  ·rename_i h2
   exact ⟨fun hh => h1 (.inl hh), fun hh => h1 (.inr hh), h2.2, by simpa using h⟩
  ·cases h
theorem mem_locksV {e : EvD} {v : VioD} (h : v ∈ locksV p e) : quietB e.d = true ∧ ∃ (i : Nat) (l : LockD), p.locks[i]? = some l ∧ e.d.mem.getD l.cell.toNat 0 = 0 ∧ l.inv.evl e.d.mem e.d.mem = 0 ∧ v = ⟨e.at_, 2, lockM p e l, if 0 ≤ e.at_ then e.x.thread else -1, i⟩ := by
 unfold locksV at h
 split at h
 ·rename_i hc
  unfold locksTo at h
  obtain ⟨i, _, h⟩ := List.mem_flatMap.1 h
  refine ⟨hc, i, ?_⟩
  unfold lockT at h
  split at h
  ·rename_i l hl
   split at h
   ·cases h
   ·rename_i h1
    simp only [not_or, Decidable.not_not] at h1
    exact ⟨l, hl, h1.1, h1.2, by simpa using h⟩
  ·cases h
 ·cases h
theorem mem_assertsV {e : EvD} {v : VioD} (h : v ∈ assertsV p e) : quietB e.d = true ∧ ∃ t : Nat, t < p.threads.length ∧ e.d.at_.getD t 0 ≠ -1 ∧ ((thrOf p t).asserts.getD (e.d.at_.getD t 0).toNat noE).evl e.d.mem e.d.mem = 0 ∧
 v = ⟨e.at_, 1, assertM p e t, t, e.d.at_.getD t 0⟩ := by
 unfold assertsV at h
 split at h
 ·rename_i hc
  unfold assertsTo at h
  obtain ⟨t, ht, h⟩ := List.mem_flatMap.1 h
  refine ⟨hc, t, List.mem_range.1 ht, ?_⟩
  unfold assertT at h
  split at h
  ·cases h
  ·rename_i h1
   simp only [not_or, Decidable.not_not] at h1
   exact ⟨h1.1, h1.2, by simpa using h⟩
 ·cases h
theorem mem_eventV {e : EvD} {v : VioD} (h : v ∈ eventV p e) : (0 ≤ e.at_ ∧ (v ∈ frameV p e ∨ v ∈ guarV p e ∨ v ∈ relyV p e)) ∨ v ∈ locksV p e ∨ v ∈ assertsV p e := by
 unfold eventV at h
 rw [List.mem_append, List.mem_append] at h
 rcases h with h | h
 ·split at h
  ·rename_i h0
   rw [List.mem_append, List.mem_append] at h
   exact .inl ⟨h0, h⟩
  ·cases h
 ·exact .inr h
theorem eventV_at {e : EvD} {v : VioD} (h : v ∈ eventV p e) : v.at_ = e.at_ := by
 rcases mem_eventV h with ⟨_, h | h | h⟩ | h | h
 ·rw [(mem_frameV h).2]; rfl
 ·rw [(mem_guarV h).2]; rfl
 ·obtain ⟨_, _, _, t, _, h⟩ := mem_relyV h
  rw [(mem_relyT h).2.2.2]
 ·obtain ⟨_, _, _, _, _, _, rfl⟩ := mem_locksV h; rfl
 ·obtain ⟨_, t, _, _, _, rfl⟩ := mem_assertsV h; rfl
theorem evAt_at (run : List ChoiceD) (l : List ConfD) (i : Nat) : (evAt run l i).at_ = (i : Int) - 1 := by
 unfold evAt
 split
 ·rename_i h; subst h; rfl
 ·rfl
theorem evAt_take (run : List ChoiceD) (l : List ConfD) {k i : Nat} (h : i < k + 1) : evAt (run.take k) (l.take (k + 1)) i = evAt run l i := by
 unfold evAt
 split
 ·simp [List.getD_eq_getElem?_getD]
 ·rename_i h0
  have h1 : i - 1 < k := by omega
  have h2 : i - 1 < k + 1 := by omega
  simp only [List.getD_eq_getElem?_getD, List.getElem?_take, h, h1, h2, if_true]
theorem flat_filter {f : Nat → List VioD} {q : VioD → Bool} {k : Nat} (h1 : ∀ i, i < k → ∀ v ∈ f i, q v = true) (h2 : ∀ i, k ≤ i → ∀ v ∈ f i, q v = false) : ∀ n, ((List.range n).flatMap f).filter q = (List.range (min k n)).flatMap f
 | 0 => by simp
 | n + 1 => by
   rw [List.range_succ, List.flatMap_append, List.filter_append, flat_filter h1 h2 n]
   have e1 : List.flatMap f [n] = f n := by simp
   rw [e1]
   by_cases h : n < k
   ·rw [List.filter_eq_self.2 (h1 n h), show min k n = n by omega, show min k (n + 1) = n + 1 by omega, List.range_succ, List.flatMap_append, e1]
   ·have : (f n).filter q = [] := by
     rw [List.filter_eq_nil_iff]
     intro v hv
     rw [h2 n (by omega) v hv]; simp
    rw [this, show min k n = k by omega, show min k (n + 1) = k by omega, List.append_nil]
theorem flat_congr {f g : Nat → List VioD} : ∀ n, (∀ i, i < n → f i = g i) → (List.range n).flatMap f = (List.range n).flatMap g
 | 0, _ => rfl
 | n + 1, h => by
   rw [List.range_succ, List.flatMap_append, List.flatMap_append, flat_congr n (fun i hi => h i (by omega))]
   simp [h n (by omega)]
theorem watch_prefix (run : List ChoiceD) (k : Nat) : watchV p m (run.take k) = (watchV p m run).filter fun v => decide (v.at_ < (k : Int)) := by
 unfold watchV watchTo
 rw [flat_filter (k := k + 1) (fun i hi v hv => ?_) (fun i hi v hv => ?_), runC_takeA, List.length_take]
 ·exact flat_congr _ fun i hi => by rw [evAt_take _ _ (by omega)]
 ·rw [eventV_at hv, evAt_at]
  exact decide_eq_true (by omega)
 ·rw [eventV_at hv, evAt_at]
  exact decide_eq_false (by omega)
end
end Go.Fw
namespace Go.Fw
open Go.RowKit
theorem mod_natM {a b : Int} (hb : 0 < b) : ∃ k : Nat, a % b = k ∧ (k : Int) < b := by
 obtain ⟨k, hk⟩ := Int.eq_ofNat_of_zero_le (Int.emod_nonneg a (show b ≠ 0 by omega))
 exact ⟨k, hk, hk ▸ Int.emod_lt_of_pos a hb⟩
theorem tf_yes {l : List VioD} {q : VioD → Bool} {j : Nat} {x : VioD} (hx : l[j]? = some x) (hq : q x = true) : (l.take (j + 1)).filter q = (l.take j).filter q ++ [x] := by
 rw [List.take_add_one, hx, List.filter_append]; simp [hq]
theorem tf_no {l : List VioD} {q : VioD → Bool} {j : Nat} {x : VioD} (hx : l[j]? = some x) (hq : q x = false) : (l.take (j + 1)).filter q = (l.take j).filter q := by
 rw [List.take_add_one, hx, List.filter_append]; simp [hq]
end Go.Fw
namespace Go.Proofs.YtjjmdcnmeommbaaGreatDoor
open Go.Fw Go.RowKit
theorem monitorPrefixes_fn (p : ProgD) (m : Int) (hm : 0 ≤ m ∧ m ≤ 255) (run : List ChoiceD) (cut : Int) (hcut : 0 ≤ cut ∧ cut ≤ 255) (w0 : World) (cs : List Value) (vr : Value) (hP : RdProg [] w0 p cs) (hN : Named p) (hRun : RdCh [] w0 vr run) (hK : Masks [] w0) :
 Does Tryz.prog 3 #[.agg cs.toArray, .int .u8 m, vr, .int .u8 cut] w0 fun v w' => v = .bool true ∧ Below w0.heap.size w0 w' := by
 obtain ⟨Ac, nc, cc, Am, nm, cm, Al, nl, cl, At, nt, ct, rfl, _, _, _, _, _, _, _, _, _, _, _, _⟩ := hP.open_
 obtain ⟨_, nr, _, rfl⟩ := hRun.form
 obtain ⟨_, _, _⟩ := hRun.len
 have S := (St.refl w0).nilEnt 36
 refine dnR Tryz.func3 rfl Tryz.ntmps3 rfl ?_
 refine wO0 rfl ⟨⟩ (o_boxa S (by conv => lhs; whnf) rfl ?_)
 intro g4 w4 S4 X4 G4
 refine lO0 rfl ⟨⟩ (o_callr S4 has_13 rfl rfl (head33_fn _ (hK.keep (S4.keep0 []))) ?_)
 intro w18 S18 X18
 refine lO S18.k [.w 0] rfl ⟨⟨rfl,rfl⟩,⟨⟩⟩ (o_calls S18 has_14 rfl rfl (small13_fn p [] _ _ (hP.keep (S18.keep0 [])) (by simp) hN) (fun h20 w20 S20 X20 => ?_) (fun w20 S20 X20 => ?_))
 ·refine lB0 rfl ⟨⟩ (fun h25 => ?_) fun h25 => ?_
  ·exact lT rfl ⟨⟩ rfl ⟨rfl, S20.fin⟩
  refine lO0 rfl ⟨⟩ (o_rem rfl rfl (by omega) (by omega) rfl ?_)
  have hI : InP p [] w0 _ := ⟨hP, h20, hK, by simp⟩
  refine o_convI Tryz.underlying5 Tryz.underlying3 rfl rfl ?_
  rw [wrap_id (by unfold i64; omega)]
  obtain ⟨k3, hk3⟩ : ∃ k, k = m % 3 := ⟨_, rfl⟩
  rw [← hk3]
  have hmk : k3 = 0 ∨ k3 = 1 ∨ k3 = 2 := by omega
  refine lO0 rfl ⟨⟩ (o_convI Tryz.underlying5 Tryz.underlying3 rfl rfl ?_)
  rw [wrap_id (by unfold i64; omega)]
  refine lO0 rfl ⟨by omega,⟨⟩⟩ (o_rem rfl rfl (by omega) (by omega) rfl ?_)
  obtain ⟨kc, hkc, _⟩ := mod_natM (a := cut) (b := (nr : Int) + 1) (by omega)
  rw [hkc]
  have hwl : (watchV p k3 run).length ≤ 1000 := by
   have h1 := watchTo_len (run := run) (l := runC p k3 run) hI.ok (runC p k3 run).length
   have h2 := runC_le p k3 run
   unfold watchV; omega
  refine lO S20.k [.w 0] rfl ⟨⟨rfl,rfl⟩,⟨⟩⟩ (o_calln S20 has_15 rfl rfl (mWatch_fn p k3 hmk run [] _ _ _ (hI.keep (S20.keep0 [])) (hRun.keep (S20.keep0 [])) (by omega)) ?_)
  rintro v41 w41 ⟨_, rfl, hV⟩ S41 X41
  have KV := Keep.refl [] w41
  obtain ⟨Ax, nx, cx, rfl⟩ := hV.form
  obtain ⟨_, _, _⟩ := hV.len
  refine lC0 rfl ⟨⟩ (W_mix fmx (fun i => [0, 1, 2, 3, 6, 7, 8, 9, 10].contains i) [0, 1, 2, 3, 4, 5, 6, 7, 8, 9, 10] (by kernel_rfl) (by kernel_rfl) (Cl _ _ _ _) (Cl.start S41) ?_)
  rintro wR7 ⟨SR7, XR7⟩
  replace KV := KV.trans XR7
  refine WM_q ⟨SR7, XR7⟩ rfl rfl rfl ?_
  refine q_loadN many_27 rfl (fun w1 hw => hw.1.cells 0 rfl) rfl rfl ?_
  refine QL_nil ?_
  refine WM_q ⟨SR7, XR7⟩ rfl rfl rfl ?_
  refine q_move (v := .int .i64 _) rfl rfl ?_
  refine QL_nil ?_
  refine WM_q ⟨SR7, XR7⟩ rfl rfl rfl ?_
  refine q_move (v := .slice _ _ _) rfl rfl ?_
  refine QL_nil ?_
  refine WM_q ⟨SR7, XR7⟩ rfl rfl rfl ?_
  refine q_move (v := .int .i64 _) rfl rfl ?_
  refine QL_nil ?_
  refine WM_o ⟨SR7, XR7⟩ rfl rfl rfl rfl ?_
  refine o_sliceTo (k := kc) slz_28.slT rfl rfl (by omega) rfl ?_
  refine WL_nil ⟨rfl, ?_⟩
  refine WM_o ⟨SR7, XR7⟩ rfl rfl rfl rfl ?_
  refine o_calln SR7 has_15 rfl rfl (mWatch_fn p k3 hmk (run.take kc) [] _ _ _ (hI.keep (SR7.keep0 [])) (RdS.take (hRun.keep (SR7.keep0 [])) kc (by omega)) (by rw [List.length_take]; omega)) ?_
  rintro v50 w50 ⟨_, rfl, hV2⟩ S50 X50
  have XCw50 := XR7.trans X50
  replace KV := KV.trans X50
  have KU := Keep.refl [] w50
  have hKVU := KV.size
  have hWP := watch_prefix (p := p) (m := k3) run kc
  obtain ⟨Ay, ny, cy, rfl⟩ := hV2.form
  refine WL_nil ⟨rfl, ?_⟩
  refine WM_q ⟨S50, XCw50⟩ rfl rfl rfl ?_
  refine q_move (v := .tuple _) rfl rfl ?_
  refine QL_nil ?_
  refine WM_q ⟨S50, XCw50⟩ rfl rfl rfl ?_
  refine q_extract rfl rfl rfl ?_
  refine QL_nil ?_
  refine WM_q ⟨S50, XCw50⟩ rfl rfl rfl ?_
  refine q_extract rfl rfl rfl ?_
  refine QL_nil ?_
  refine WM_q ⟨S50, XCw50⟩ rfl rfl rfl ?_
  refine q_assign (v := .slice _ _ _) rfl rfl ?_
  refine QL_nil ?_
  refine WM_q ⟨S50, XCw50⟩ rfl rfl rfl ?_
  refine q_assign (v := .int .i64 _) rfl rfl ?_
  refine QL_nil ?_
  refine WM_nil ⟨S50, XCw50⟩ ?_
  refine fC0 rfl ⟨⟩ (wL (fun μj D ε w => D = [] ∧ ∃ j : Nat, ∃ G : Option Nat, ∃ cs' : List Value, ∃ v : Value, (j + μj = ((watchV p k3 run).length)) ∧ (RowR (fun _ _ => RVio) 5 [] w0 G cs' v (((watchV p k3 run).take j).filter fun v => decide (v.at_ < (kc : Int)))) ∧ (Keep [] w41 w) ∧ (Keep [] w50 w) ∧ (∀ g ∈ G.toList, w50.heap.size ≤ g) ∧ St [] w0 w [(some g4, 27, [.slice Ac nc cc, .slice Am nm cm, .slice Al nl cl, .slice At nt ct]), (G, 36, cs')] ∧ Sl ε [(9, .bool true), (11, .int .i64 kc), (12, .slice Ax nx cx), (14, .slice Ay ny cy), (16, v), (17, .int .i64 j)]) (μ := ((watchV p k3 run).length)) ⟨rfl, 0, none, [], .slice none 0 0, by omega, RowR.nil, KV, KU, (by simp), S50, rfl⟩ ?_)
  rintro μj D ε w ⟨rfl, j, G, cs', v, _, hrow, hKV, hKU, hGn, S, eZ⟩
  refine wK eZ (wB0 rfl ⟨⟩ (fun h56 => ?_) fun h56 => ?_)
  ·obtain ⟨x0, b61, p61, _, hxx0, hA61, _, _, hc61, hr61⟩ := RdS.get ((RdS.keepW hV hKV (fun _ _ h => h))) (j) (by omega)
   obtain ⟨rfl, j1, j2, j3, j4, j5⟩ := hr61
   refine lB (S.k.b hc61) [.x b61 p61,.f 0 0] rfl ⟨rfl,⟨hA61,by omega⟩,⟨⟩⟩ (fun h65 => ?_) fun h65 => ?_
   ·refine lOn 4 S.k [] rfl ⟨⟩ (o_move (by conv => lhs; whnf) rfl ?_)
    obtain ⟨_, b69, p69, _, hx69, hA69, _, hl69, hc69, hr69⟩ := RdS.get ((RdS.keepW hV hKV (fun _ _ h => h))) (j) (by omega)
    obtain rfl := Option.some.inj (hxx0.symm.trans hx69)
    obtain ⟨rfl, -, -, -, -, -⟩ := hr69
    refine lO (S.k.b hc69) [.x b69 p69,.v 0] rfl ⟨⟨rfl,hl69⟩,⟨hA69,by omega⟩,⟨⟩⟩ (o_buildSlice S slz_31 (vs := [.agg _]) (cs := [_, _, _, _, _]) (by rfl) rfl rfl rfl rfl rfl rfl ?_)
    intro g71 w71 S71 X71 G71
    replace hKV := hKV.trans X71
    replace hKU := hKU.trans X71
    have lf := List.length_filter_le (fun v : VioD => decide (v.at_ < (kc : Int))) ((watchV p k3 run).take j)
    rw [List.length_take] at lf
    refine o_append1 law_vio (k := 2) (M2 := []) (e1 := x0) S71 slz_31 (by decide) rfl hrow rfl rfl (S71.cells 0 rfl) ⟨rfl, j1, j2, j3, j4, j5⟩ (by omega) rfl ?_
    intro v72 G72 cs72 w72 S72 hrow72 X72 F72
    have hGn72 : ∀ g ∈ G72.toList, w50.heap.size ≤ g := fun g hg => by
     rcases F72 g hg with h | h
     ·exact hGn g h
     ·have := hKU.size; omega
    have hVU := hKVU
    replace hKV := hKV.freshL X72 (fun g hg => .inl (by have := hGn g hg; omega))
    replace hKU := hKU.freshL X72 (fun g hg => .inl (hGn g hg))
    refine o_assign (by conv => lhs; whnf) rfl ?_
    refine lP0 rfl ⟨by omega,⟨⟩⟩ ⟨μj - 1, by omega, rfl, (j + 1), (_), (_), (_), (by omega), ?_, ?_, ?_, ?_, S72.tail, rfl⟩
    ·rw [tf_yes hxx0 (decide_eq_true h65)]; exact hrow72
    ·exact hKV
    ·exact hKU
    ·exact hGn72
   refine lP0 rfl ⟨by omega,⟨⟩⟩ ⟨μj - 1, by omega, rfl, (j + 1), (_), (_), (_), (by omega), ?_, ?_, ?_, ?_, S, rfl⟩
   ·rw [tf_no hxx0 (decide_eq_false (by omega))]; exact hrow
   ·exact hKV
   ·exact hKU
   ·exact hGn
  refine lOn 10 S.k [] rfl ⟨⟩ (WL_on rfl rfl rfl ?_)
  refine o_move (by conv => lhs; whnf) rfl ?_
  refine lO0 rfl ⟨⟩ ?_
  refine o_callr S has_16 rfl rfl (does_true (sameVio_fn _ _ [] _ _ _ (RdS.keepW hV2 hKU (fun _ _ h => h)) (RowR.rd law_vio (M := []) hrow S (k := 1) rfl (fun g hg => by simp) (by have lf := List.length_filter_le (fun v : VioD => decide (v.at_ < (kc : Int))) ((watchV p k3 run).take j); rw [List.length_take] at lf; omega))) (decide_eq_true (by rw [hWP, List.take_of_length_le (by omega)]))) ?_
  intro w77 S77 X77
  exact lT rfl ⟨⟩ rfl ⟨rfl, S77.fin⟩
 exact lT rfl ⟨⟩ rfl ⟨rfl, S20.fin⟩
end Go.Proofs.YtjjmdcnmeommbaaGreatDoor
