/-
  Part 6 of 6 of a proof: SchedulePrefixes of package relyguardlaw13 returns true for every input, and its arguments read as before.
  Conditions: those of the given row (the listed package variables as the program's text lays them).
-/
import Derived.Test.YtgnbfmifjlnigaaGreatDoorZSchedulePrefixes5
namespace Go.Fw
open Go.RowKit
section
variable {p : ProgD} {m : Int}
theorem runTo_take : ∀ (run : List ChoiceD) (c : ConfD) (k : Nat), k ≤ (runTo p m c run).length → runTo p m c (run.take k) = (runTo p m c run).take k
 | [], c, k, h => by simp [runTo]
 | x :: l, c, 0, h => by simp [runTo]
 | x :: l, c, k + 1, h => by
   rw [List.take_succ_cons]
   by_cases hx : x ∈ choicesC p m c
   ·have e : runTo p m c (x :: l) = doC p m c x :: runTo p m (doC p m c x) l := by rw [runTo, if_pos hx]
    rw [e] at h ⊢
    rw [runTo, if_pos hx, List.take_succ_cons, runTo_take l _ k (by simpa using h)]
   ·have e : runTo p m c (x :: l) = [] := by rw [runTo, if_neg hx]
    rw [e] at h; simp at h
theorem runC_take {run : List ChoiceD} {k : Nat} (h : k < (runC p m run).length) : runC p m (run.take k) = (runC p m run).take (k + 1) := by
 rw [runC_len] at h
 unfold runC
 rw [List.take_succ_cons, runTo_take run _ k (by omega)]
theorem errC_iff {run : List ChoiceD} : errC p m run = 0 ↔ (runC p m run).length = run.length + 1 := by
 unfold errC
 split <;> simp_all
theorem errC_take {run : List ChoiceD} {k : Nat} (h : k < (runC p m run).length) : errC p m (run.take k) = 0 := by
 have := runC_le p m run
 rw [errC_iff, runC_take h, List.length_take, List.length_take]
 omega
theorem runC_pos (run : List ChoiceD) : 1 ≤ (runC p m run).length := by rw [runC_len]; omega
theorem runC_take_len {run : List ChoiceD} {k : Nat} (h : k < (runC p m run).length) : (runC p m (run.take k)).length = k + 1 := by
 rw [runC_take h, List.length_take]; omega
end
theorem mod_nat {a b : Int} (hb : 0 < b) : ∃ k : Nat, a % b = k ∧ (k : Int) < b := by
 obtain ⟨k, hk⟩ := Int.eq_ofNat_of_zero_le (Int.emod_nonneg a (show b ≠ 0 by omega))
 exact ⟨k, hk, hk ▸ Int.emod_lt_of_pos a hb⟩
end Go.Fw
namespace Go.Proofs.YtgnbfmifjlnigaaGreatDoor
open Go.Fw Go.RowKit
theorem schedulePrefixes_fn (p : ProgD) (m : Int) (hm : 0 ≤ m ∧ m ≤ 255) (run : List ChoiceD) (cut : Int) (hcut : 0 ≤ cut ∧ cut ≤ 255) (w0 : World) (cs : List Value) (vr : Value) (hP : RdProg [] w0 p cs) (hN : Named p) (hRun : RdCh [] w0 vr run) (hK : Masks [] w0) :
 Does Tryz.prog 4 #[.agg cs.toArray, .int .u8 m, vr, .int .u8 cut] w0 fun v w' => v = .bool true ∧ Below w0.heap.size w0 w' := by
 obtain ⟨_, _, _, _, _, _, _, _, _, _, _, _, rfl, _, _, _, _, _, _, _, _, _, _, _, _⟩ := hP.open_
 obtain ⟨_, _, _, rfl⟩ := hRun.form
 obtain ⟨_, _, _⟩ := hRun.len
 have S := St.refl w0
 refine Does_enter Tryz.func4 rfl Tryz.ntmps4 rfl ?_
 refine gw2 ?_
 refine o_boxa S (by conv => lhs; whnf) rfl ?_
 intro g4 w4 S4 X4 G4
 refine gw4 ?_
 refine o_callr S4 has_8 rfl rfl (head_fn _ (hK.keep (S4.keep0 []))) ?_
 intro w18 S18 X18
 refine gw4 ?_; refine gw1 ?_
 first | refine o_loadN many_36 rfl (S18.cells 0 rfl) rfl rfl ?_
 refine o_calls S18 has_12 rfl rfl (small13_fn p [] _ _ (hP.keep (S18.keep0 [])) (by simp) hN) (fun h20 w20 S20 X20 => ?_) (fun w20 S20 X20 => ?_)
 ·refine gw4 ?_; refine gw2 ?_; refine gw1 ?_
  refine o_gtr rfl rfl rfl (fun h25 => ?_) (fun h25 => ?_)
  ·refine gw8 ?_; refine gw2 ?_
   exact ⟨rfl, S20.fin⟩
  refine gw4 ?_; refine gw2 ?_; refine gw1 ?_
  refine o_rem rfl rfl (by omega) (by omega) rfl ?_
  have hI : InP p [] w0 _ := ⟨hP, h20, hK, by simp⟩
  refine o_convI Tryz.underlying5 Tryz.underlying3 rfl rfl ?_
  rw [wrap_id (by unfold i64; omega)]
  obtain ⟨k3, hk3⟩ : ∃ k, k = m % 3 := ⟨_, rfl⟩
  rw [← hk3]
  have hmk : k3 = 0 ∨ k3 = 1 ∨ k3 = 2 := by omega
  have hle := runC_le p k3 run
  have hl1 := runC_pos (p := p) (m := k3) run
  refine gw4 ?_
  first | refine o_loadN many_36 rfl (S20.cells 0 rfl) rfl rfl ?_
  refine gw2 ?_
  refine o_calln S20 has_13 rfl rfl (run_fn p k3 hmk run [] _ _ _ (hI.keep (S20.keep0 [])) (hRun.keep (S20.keep0 [])) (by omega)) ?_
  rintro v35 w35 ⟨_, rfl, hL⟩ S35 X35
  have KL := Keep.refl [] w35
  obtain ⟨_, _, _, rfl⟩ := hL.form
  obtain ⟨_, _, -⟩ := hL.len
  have hei := errC_iff (p := p) (m := k3) (run := run)
  refine gw8 ?_; refine gw4 ?_
  refine o_lss rfl rfl rfl (fun h40 => ?_) (fun h40 => ?_)
  ·exfalso; omega
  refine gw8 ?_
  refine o_gtr rfl rfl rfl (fun h45 => ?_) (fun h45 => ?_)
  ·exfalso; omega
  refine gw8 ?_; refine gw2 ?_; refine gw1 ?_
  refine o_neq rfl rfl rfl (fun h52 => ?_) (fun h52 => ?_)
  ·exfalso; omega
  refine gw4 ?_; refine gw1 ?_
  refine o_eql rfl rfl rfl (fun h56 => ?_) (fun h56 => ?_)
  ·refine gw4 ?_; refine gw2 ?_; refine gw1 ?_
   refine o_eql rfl rfl rfl (fun h60 => ?_) (fun h60 => ?_)
   ·refine gw1 ?_
    refine o_neqb Tryz.underlying4 rfl rfl rfl ?_
    refine gw4 ?_; refine gw2 ?_; refine gw1 ?_
    refine o_convI Tryz.underlying5 Tryz.underlying3 rfl rfl ?_
    rw [wrap_id (by unfold i64; omega)]
    refine gw2 ?_
    refine o_rem rfl rfl (by omega) (by omega) rfl ?_
    obtain ⟨k, hk, hklt⟩ := mod_nat (a := cut) (b := ((runC p k3 run).length : Int) - 1 + 1) (by omega)
    rw [hk]
    have hkl : k < (runC p k3 run).length := by omega
    have het := errC_take hkl
    have hlt := runC_take_len hkl
    refine gw2 ?_; refine gw1 ?_
    refine W_mix follows_mixed (fun i => [0, 1, 2, 3, 6, 7, 8, 9, 10, 11, 12].contains i) [0, 1, 2, 3, 4, 5, 6, 7, 8, 9, 10, 11, 12] (by kernel_rfl) (by kernel_rfl) (Cl _ _ _ _) (Cl.start S35) ?_
    rintro wR9 ⟨SR9, XR9⟩
    replace KL := KL.trans XR9
    refine WM_q ⟨SR9, XR9⟩ rfl rfl rfl ?_
    first | refine q_loadN many_36 rfl (fun w1 hw => hw.1.cells 0 rfl) rfl rfl ?_
    refine gq1 ?_
    refine WM_q ⟨SR9, XR9⟩ rfl rfl rfl ?_
    refine gq2 ?_
    refine WM_q ⟨SR9, XR9⟩ rfl rfl rfl ?_
    refine gq2 ?_
    refine WM_q ⟨SR9, XR9⟩ rfl rfl rfl ?_
    refine gq2 ?_
    refine WM_o ⟨SR9, XR9⟩ rfl rfl rfl rfl ?_
    refine o_sliceTo (k := k) slz_22.slT rfl rfl (by omega) rfl ?_
    refine WL_nil ⟨rfl, ?_⟩
    refine WM_o ⟨SR9, XR9⟩ rfl rfl rfl rfl ?_
    refine o_calln SR9 has_13 rfl rfl (run_fn p k3 hmk (run.take k) [] _ _ _ (hI.keep (SR9.keep0 [])) (RdS.take (hRun.keep (SR9.keep0 [])) k (by omega)) (by rw [List.length_take]; omega)) ?_
    rintro v74 w74 ⟨vl2, rfl, hL2⟩ S74 X74
    have XCw74 := XR9.trans X74
    replace KL := KL.trans X74
    obtain ⟨Ay, ny, cy, rfl⟩ := hL2.form
    obtain ⟨hny, hny2, -⟩ := hL2.len
    refine WL_nil ⟨rfl, ?_⟩
    refine WM_q ⟨S74, XCw74⟩ rfl rfl rfl ?_
    refine gq2 ?_
    refine WM_q ⟨S74, XCw74⟩ rfl rfl rfl ?_
    refine gq2 ?_
    refine WM_q ⟨S74, XCw74⟩ rfl rfl rfl ?_
    refine gq2 ?_
    refine WM_q ⟨S74, XCw74⟩ rfl rfl rfl ?_
    refine gq2 ?_
    refine WM_q ⟨S74, XCw74⟩ rfl rfl rfl ?_
    refine gq2 ?_
    refine WM_q ⟨S74, XCw74⟩ rfl rfl rfl ?_
    refine gq2 ?_
    refine WM_q ⟨S74, XCw74⟩ rfl rfl rfl ?_
    refine gq2 ?_
    refine WM_nil ⟨S74, XCw74⟩ ?_
    refine gw4 ?_; refine gw2 ?_; refine gw1 ?_
    refine o_eql rfl rfl rfl (fun h81 => ?_) (fun h81 => ?_)
    ·refine gw4 ?_; refine gw2 ?_; refine gw1 ?_
     refine o_eql rfl rfl rfl (fun h86 => ?_) (fun h86 => ?_)
     ·refine gw8 ?_; refine gw2 ?_; refine gw1 ?_
      refine o_eql rfl rfl rfl (fun h93 => ?_) (fun h93 => ?_)
      ·refine gw8 ?_; refine gw2 ?_; refine gw1 ?_
       refine o_sliceTo (k := k + 1) slz_38.slT rfl rfl (by omega) rfl ?_
       refine gw1 ?_
       refine o_callr S74 has_14 rfl rfl (does_true (sameAll_fn _ _ [] _ _ _ hL2 (RdS.take (RdS.keepW hL KL (RConf.keep KL)) (k + 1) (by omega))) (decide_eq_true (runC_take hkl))) ?_
       intro w101 S101 X101
       replace KL := KL.trans X101
       refine gw4 ?_; refine gw1 ?_
       exact ⟨rfl, S101.fin⟩
      exfalso; omega
     exfalso; omega
    exact absurd het h81
   refine gw1 ?_
   refine o_neqb Tryz.underlying4 rfl rfl rfl ?_
   refine gw8 ?_; refine gw1 ?_
   exfalso; omega
  refine gw4 ?_; refine gw2 ?_; refine gw1 ?_
  refine o_eql rfl rfl rfl (fun h60 => ?_) (fun h60 => ?_)
  ·refine gw1 ?_
   refine o_neqb Tryz.underlying4 rfl rfl rfl ?_
   refine gw8 ?_; refine gw1 ?_
   exfalso; omega
  refine gw1 ?_
  refine o_neqb Tryz.underlying4 rfl rfl rfl ?_
  refine gw4 ?_; refine gw2 ?_; refine gw1 ?_
  refine o_convI Tryz.underlying5 Tryz.underlying3 rfl rfl ?_
  rw [wrap_id (by unfold i64; omega)]
  refine gw2 ?_
  refine o_rem rfl rfl (by omega) (by omega) rfl ?_
  obtain ⟨k, hk, hklt⟩ := mod_nat (a := cut) (b := ((runC p k3 run).length : Int) - 1 + 1) (by omega)
  rw [hk]
  have hkl : k < (runC p k3 run).length := by omega
  have het := errC_take hkl
  have hlt := runC_take_len hkl
  refine gw2 ?_; refine gw1 ?_
  refine W_mix follows_mixed (fun i => [0, 1, 2, 3, 6, 7, 8, 9, 10, 11, 12].contains i) [0, 1, 2, 3, 4, 5, 6, 7, 8, 9, 10, 11, 12] (by kernel_rfl) (by kernel_rfl) (Cl _ _ _ _) (Cl.start S35) ?_
  rintro wR9 ⟨SR9, XR9⟩
  replace KL := KL.trans XR9
  refine WM_q ⟨SR9, XR9⟩ rfl rfl rfl ?_
  first | refine q_loadN many_36 rfl (fun w1 hw => hw.1.cells 0 rfl) rfl rfl ?_
  refine gq1 ?_
  refine WM_q ⟨SR9, XR9⟩ rfl rfl rfl ?_
  refine gq2 ?_
  refine WM_q ⟨SR9, XR9⟩ rfl rfl rfl ?_
  refine gq2 ?_
  refine WM_q ⟨SR9, XR9⟩ rfl rfl rfl ?_
  refine gq2 ?_
  refine WM_o ⟨SR9, XR9⟩ rfl rfl rfl rfl ?_
  refine o_sliceTo (k := k) slz_22.slT rfl rfl (by omega) rfl ?_
  refine WL_nil ⟨rfl, ?_⟩
  refine WM_o ⟨SR9, XR9⟩ rfl rfl rfl rfl ?_
  refine o_calln SR9 has_13 rfl rfl (run_fn p k3 hmk (run.take k) [] _ _ _ (hI.keep (SR9.keep0 [])) (RdS.take (hRun.keep (SR9.keep0 [])) k (by omega)) (by rw [List.length_take]; omega)) ?_
  rintro v74 w74 ⟨vl2, rfl, hL2⟩ S74 X74
  have XCw74 := XR9.trans X74
  replace KL := KL.trans X74
  obtain ⟨Ay, ny, cy, rfl⟩ := hL2.form
  obtain ⟨hny, hny2, -⟩ := hL2.len
  refine WL_nil ⟨rfl, ?_⟩
  refine WM_q ⟨S74, XCw74⟩ rfl rfl rfl ?_
  refine gq2 ?_
  refine WM_q ⟨S74, XCw74⟩ rfl rfl rfl ?_
  refine gq2 ?_
  refine WM_q ⟨S74, XCw74⟩ rfl rfl rfl ?_
  refine gq2 ?_
  refine WM_q ⟨S74, XCw74⟩ rfl rfl rfl ?_
  refine gq2 ?_
  refine WM_q ⟨S74, XCw74⟩ rfl rfl rfl ?_
  refine gq2 ?_
  refine WM_q ⟨S74, XCw74⟩ rfl rfl rfl ?_
  refine gq2 ?_
  refine WM_q ⟨S74, XCw74⟩ rfl rfl rfl ?_
  refine gq2 ?_
  refine WM_nil ⟨S74, XCw74⟩ ?_
  refine gw4 ?_; refine gw2 ?_; refine gw1 ?_
  refine o_eql rfl rfl rfl (fun h81 => ?_) (fun h81 => ?_)
  ·refine gw4 ?_; refine gw2 ?_; refine gw1 ?_
   refine o_eql rfl rfl rfl (fun h86 => ?_) (fun h86 => ?_)
   ·refine gw8 ?_; refine gw2 ?_; refine gw1 ?_
    refine o_eql rfl rfl rfl (fun h93 => ?_) (fun h93 => ?_)
    ·refine gw8 ?_; refine gw2 ?_; refine gw1 ?_
     refine o_sliceTo (k := k + 1) slz_38.slT rfl rfl (by omega) rfl ?_
     refine gw1 ?_
     refine o_callr S74 has_14 rfl rfl (does_true (sameAll_fn _ _ [] _ _ _ hL2 (RdS.take (RdS.keepW hL KL (RConf.keep KL)) (k + 1) (by omega))) (decide_eq_true (runC_take hkl))) ?_
     intro w101 S101 X101
     refine gw4 ?_; refine gw1 ?_
     exact ⟨rfl, S101.fin⟩
    exfalso; omega
   exfalso; omega
  exact absurd het h81
 refine gw8 ?_; refine gw4 ?_; refine gw2 ?_; refine gw1 ?_
 exact ⟨rfl, S20.fin⟩
end Go.Proofs.YtgnbfmifjlnigaaGreatDoor
namespace Go.Proofs.YtgnbfmifjlnigaaGreatDoor
open Go.Fw Go.RowKit Go.ChangeShapes Go.WideShapes
set_option maxRecDepth 100000 in
set_option maxHeartbeats 2000000 in
theorem schedulePrefixes_lifted (os : Os) (started : os.Started) (H : Type) (enc : TypeId × Value → H) :
 ReturnsInHanded {} Tryz.checked os 4 .any (fun w args => (Rows.schedulePrefixesSpec.pre enc Tryz.prog Tryz.f4 [] false w args ∧ laidMetH Tryz.prog tableLaid w) ∧ sizedMet enc Tryz.prog Tryz.f4 (OpenSpec.ofChange Rows.schedulePrefixesSpec) false w args)
  (Rows.schedulePrefixesSpec.post enc Tryz.prog Tryz.f4 false true false false) := by
 refine returnsInHanded_of_change_and (C := Tryz.checked) (X := fun w _ => laidMetH Tryz.prog tableLaid w) (fun _ _ _ hh h => h.of_heap hh) own started (by kernel_rfl) Tryz.func4
  (ChangeSpec.witness_shaped (enc := enc) (C := Tryz.checked) (os := os) (X := fun w _ => laidMetH Tryz.prog tableLaid w) false (World.doorLaid Tryz.prog 400 os)
    #[.agg #[.slice none 0 0, .slice none 0 0, .slice none 0 0, .slice none 0 0], .int .u8 0, .slice none 0 0, .int .u8 0] 8 rfl
    (World.shaped_of_RefB (by kernel_rfl) (by kernel_rfl)) (by kernel_rfl) (by kernel_rfl) (by kernel_rfl) (door_met os _)) ?_
 intro W base args ds gs before hval0 hW _ hsz hL _
 have hval : ∀ (j : Nat) t v, Tryz.f4.params[j]? = some t → args[j]? = some v → Value.okWide Tryz.prog W .any base t v := hval0
 have hW' := hW
 obtain ⟨p, _, hA0, hV, rfl, _, _⟩ := hW
 have hA : DataW.TrodAll enc Tryz.prog W 0 (fun _ => true) true Tryz.f4.params.toList args.toList ds p := hA0
 obtain ⟨rfl, rfl⟩ := trodVars_none hV
 rw [Tryz.params4] at hA hval hsz
 obtain ⟨_, _, _, _, _, _, _, _, _, _, _, _, rfl, rfl, rfl, ⟨_, t0⟩, ⟨_, t1⟩, ⟨_, t2⟩, ⟨_, t3⟩⟩ := trodAll_four hA
 obtain ⟨_, rfl, -⟩ := okWide_struct Tryz.underlying36 (hval 0 _ _ rfl rfl)
 obtain ⟨c1, rfl⟩ := okWide_int Tryz.underlying5 (hval 1 _ _ rfl rfl)
 obtain ⟨_, _, _, rfl⟩ := okWide_slice Tryz.underlying22 (hval 2 _ _ rfl rfl)
 obtain ⟨c3, rfl⟩ := okWide_int Tryz.underlying5 (hval 3 _ _ rfl rfl)
 obtain ⟨c0, h0⟩ := open_program t0 (light_of hsz (j := 0) rfl rfl)
 obtain ⟨_, e1, -, w1⟩ := DataW.trod_int Tryz.underlying5 t1
 cases e1
 have h1 := u8_wf w1
 obtain ⟨c2, h2⟩ := open_choices t2 (light_of hsz (j := 2) rfl rfl)
 obtain ⟨_, e3, -, w3⟩ := DataW.trod_int Tryz.underlying5 t3
 cases e3
 have h3 := u8_wf w3
 refine calls_of_does (schedulePrefixes_fn c0 c1 h1 c2 c3 h3 W _ _ h0.1 h0.2 h2 (masks_of_laid hL)) fun v W'' hr => ⟨v, rfl, ?_⟩
 obtain ⟨rfl, hb⟩ := hr
 exact post_true rfl (by kernel_rfl) (by
  rw [Tryz.params4]
  intro t ht
  have hall : ([36, 5, 22, 5].all fun u => Tryz.prog.readableRec u && decide (u < Tryz.prog.types.size)) = true := by kernel_rfl
  simpa using List.all_eq_true.1 hall t ht) hW' rfl rfl rfl hb
theorem schedulePrefixes_holds : Rows.SchedulePrefixesSaid :=
 OpenClaim.holds_of_wide 4 Tryz.f4 rfl rfl rfl rfl rfl rfl rfl ⟨rfl, rfl, rfl, rfl, rfl⟩ rfl rfl rfl rfl rfl (by kernel_rfl) Tryz.func4 (by kernel_rfl)
  (of_decide_eq_true (by kernel_rfl)) (by unfold Func.isWrapper; (rw [if_neg (by decide +kernel)]; exact ⟨rfl, rfl⟩))
  (fun os started H enc _ => schedulePrefixes_lifted os started H enc)
theorem schedulePrefixes_card : Rows.SchedulePrefixesCardSaid :=
 Claim7.holds_tied_plain_at .later [] [.data, .data, .data, .data] true Rows.schedulePrefixesCard.stood.harness false
  schedulePrefixes_holds (fun _ h => by cases h) (by kernel_rfl) (fun _ h => by cases h) schedulePrefixes_row_tie rfl ⟨rfl, rfl⟩ (by kernel_rfl) rfl
  (fun f fn hf hfn => by
    obtain rfl : f = 4 := Option.some.inj ((show Tryz.prog.funcNamed Rows.schedulePrefixesRow.func = some 4 by kernel_rfl).symm.trans hf) |>.symm
    obtain rfl : fn = Tryz.f4 := (Option.some.inj (Tryz.func4.symm.trans hfn)).symm
    exact ⟨by kernel_rfl, fun j t ht => by
     rw [Tryz.params4] at ht
     have hm : t ∈ [36, 5, 22, 5] := by simpa using Array.mem_of_getElem? ht
     have hall : ([36, 5, 22, 5].all fun u => !Tryz.prog.wantsStandIn u) = true := by kernel_rfl
     exact (show Tryz.prog.wantsStandIn t = false by simpa using List.all_eq_true.1 hall t hm)⟩)
  (by kernel_rfl)
#print axioms schedulePrefixes_card
end Go.Proofs.YtgnbfmifjlnigaaGreatDoor
