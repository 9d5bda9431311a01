/-
  Part 6 of 6 of a proof: SchedulePrefixes of package relyguardlaw13 returns true for every input, and its arguments read as before.
  Conditions: those of the given row (the listed package variables as the program's text lays them).
-/
import Derived.Test.YtgnbfmifjlnigaaGreatDoorZSchedulePrefixes5
set_option maxRecDepth 100000
namespace Go.Fw
open Go.RowKit
def eOne13 : E := ⟨1, 1, 1, []⟩
def eNext13 : E := ⟨8, 2, 0, [⟨2, 2, 0, []⟩, ⟨1, 2, 1, []⟩]⟩
def counterP : ProgD :=
 ⟨[⟨⟨#[77, 46, 120]⟩, 2, 3, -1, false, 0⟩], [⟨⟨#[77]⟩, ⟨#[65]⟩, eOne13, eOne13, [0]⟩], [],
  [⟨⟨#[116]⟩, 3, [eOne13, eOne13, eOne13], [0, 0, 0], [⟨4, 0, 1, eOne13, [⟨0, eNext13⟩], false, 0, 0⟩, ⟨4, 1, 2, eOne13, [⟨0, eNext13⟩], false, 0, 0⟩], [], false⟩]⟩
theorem counter_ok : ProgOK counterP := progB_ok (by kernel_rfl)
def runA : List ChoiceD := [⟨0, 3, 0⟩, ⟨1, -1, 4⟩]
def textA : List UInt8 := [48, 46, 51, 32, 49, 33, 52]
def runD : List ChoiceD := [⟨0, 0, 0⟩, ⟨0, 1, 0⟩, ⟨0, 0, 0⟩]
theorem wr_runA : ∀ x ∈ runA, WrC x := by decide
theorem join_runA : joinL runA = textA := by
 simp only [runA, textA, joinL, wordL, decL]
 rw [if_neg (by decide), if_pos (by decide)]
 simp only [show (0 : Int).toNat = 0 from rfl, show (1 : Int).toNat = 1 from rfl, show (3 : Int).toNat = 3 from rfl, show (4 : Int).toNat = 4 from rfl]
 rw [Lib.decDigits_one (by omega), Lib.decDigits_one (by omega), Lib.decDigits_one (by omega), Lib.decDigits_one (by omega)]
 rfl
theorem text_runA : textC runA = (textA, 0) := by
 unfold textC
 rw [if_neg (by decide), if_pos wr_runA, join_runA]
theorem text_bad : textC [⟨4, 0, 0⟩] = ([], 1) := by
 unfold textC
 rw [if_neg (by decide), if_neg (by decide)]
theorem no_textB : NoText [48, 46, 48, 51] := fun l hl _ h => by
 cases l with
 | nil => simp [joinL] at h
 | cons x l =>
   have hx := hl x (by simp)
   have hc := (cut_word hx h).1
   have hi : Lib.indexByte [48, 46, 48, 51] 32 = -1 := index_neg (by decide)
   rw [cut_last (by rw [hi]; omega)] at hc
   have hm : MarkAt ([48, 46, 48, 51] : List UInt8) 1 := ⟨.inl rfl, by decide, by decide⟩
   have := (word_choice hx (hc ▸ hm)).1.2.1
   rw [← hc] at this
   exact absurd this (by decide)
theorem runD_len : decide ((runC counterP 0 runD).length = 3) = true := by kernel_rfl
theorem runD_2 : decide ((runC counterP 0 runD)[2]? = some ⟨[1], [2], [[]]⟩) = true := by kernel_rfl
end Go.Fw
namespace Go.Proofs.YtgnbfmifjlnigaaGreatDoor
open Go.Fw Go.RowKit
theorem parse_good (run : List ChoiceD) (hw : ∀ x ∈ run, WrC x) (hn : run.length ≤ 120) (text : List UInt8) (ht : joinL run = text) (w0 : World) :
 Does Tryz.prog 10 #[.string (strL text)] w0 fun v w' => (∃ vs, v = .tuple #[vs, .int .i64 0] ∧ RdCh [] w' vs run) ∧ Below w0.heap.size w0 w' := by
 refine Calls.mono (parse_fn text (by rw [← ht]; have := joinL_len run hw; omega) w0) ?_
 rintro e w' ⟨v, rfl, h, hb⟩
 rcases h with ⟨vs, l, rfl, h1, h2, h3, h4⟩ | ⟨rfl, h1⟩
 ·obtain rfl := joinL_inj l run h2 hw (h4.trans ht.symm)
  exact ⟨_, rfl, ⟨vs, rfl, h1⟩, hb⟩
 ·exact absurd ht (h1 run hw hn)
theorem parse_bad (text : List UInt8) (hl : text.length ≤ 100000) (ht : NoText text) (w0 : World) :
 Does Tryz.prog 10 #[.string (strL text)] w0 fun v w' => v = .tuple #[.slice none 0 0, .int .i64 130] ∧ Below w0.heap.size w0 w' := by
 refine Calls.mono (parse_fn text hl w0) ?_
 rintro e w' ⟨v, rfl, h, hb⟩
 rcases h with ⟨vs, l, rfl, h1, h2, h3, h4⟩ | ⟨rfl, h1⟩
 ·exact absurd h4 (ht l h2 h3)
 ·exact ⟨_, rfl, rfl, hb⟩
theorem counter_fn (w0 : World) :
 Does Tryz.prog 23 #[] w0 fun v w' => (∃ cs : List Value, v = .agg cs.toArray ∧ RdProg [] w' counterP cs) ∧ Below w0.heap.size w0 w' := by
 have S := St.refl w0
 refine Does_enterR Tryz.func23 rfl Tryz.ntmps23 rfl ?_
 refine wO0 rfl ⟨⟩ ?_
 refine o_alloc S zv_36 rfl rfl ?_
 intro g0 w0 S0 X0 G0
 refine lO0 rfl ⟨⟩ ?_
 refine o_build bld_73 (vs := [(0, .int .i64 _), (1, .int .i64 _), (2, .int .i64 _)]) (cs := [_, _, _, _]) rfl rfl rfl rfl ?_
 refine o_alloc S0 zv_73 rfl rfl ?_
 intro g1 w1 S1 X1 G1
 first | refine o_storeN (kk := 0) (vs := [_, _, _, _]) S1 sz_73 rfl rfl rfl rfl rfl rfl rfl ?_
 intro w1_2 S1_2 X1_2
 dsimp only [setsAt, List.set] at S1_2
 refine lO0 rfl ⟨⟩ ?_
 refine o_build bld_73 (vs := [(0, .int .i64 _), (1, .int .i64 _)]) (cs := [_, _, _, _]) rfl rfl rfl rfl ?_
 refine o_build bld_73 (vs := [(0, .int .i64 _), (1, .int .i64 _), (2, .int .i64 _)]) (cs := [_, _, _, _]) rfl rfl rfl rfl ?_
 refine o_buildSlice S1_2 slz_71 (vs := [.agg _, .agg _]) (cs := [_, _, _, _, _, _, _, _]) (by rfl) rfl rfl rfl rfl rfl rfl ?_
 intro g10 w10 S10 X10 G10
 refine o_build bld_73 (vs := [(0, .int .i64 _), (1, .int .i64 _), (3, .slice _ _ _)]) (cs := [_, _, _, _]) rfl rfl rfl rfl ?_
 refine o_alloc S10 zv_73 rfl rfl ?_
 intro g2 w2 S2 X2 G2
 first | refine o_storeN (kk := 0) (vs := [_, _, _, _]) S2 sz_73 rfl rfl rfl rfl rfl rfl rfl ?_
 intro w2_5 S2_5 X2_5
 dsimp only [setsAt, List.set] at S2_5
 refine lO S2_5.k [.w 2,.w 0] rfl ⟨⟨rfl,by rfl⟩,⟨rfl,by rfl⟩,⟨⟩⟩ ?_
 refine o_build bld_109 (vs := [(0, .int .i64 _), (1, .agg _)]) (cs := [_, _, _, _, _]) rfl rfl rfl rfl ?_
 refine o_buildSlice S2_5 slz_110 (vs := [.agg _]) (cs := [_, _, _, _, _]) (by rfl) rfl rfl rfl rfl rfl rfl ?_
 intro g15 w15 S15 X15 G15
 refine o_build bld_112 (vs := [(0, .int .i64 _), (3, .agg _), (4, .slice _ _ _)]) (cs := [_, _, _, _, _, _, _, _, _, _, _]) rfl rfl rfl rfl ?_
 refine o_alloc S15 zv_112 rfl rfl ?_
 intro g3 w3 S3 X3 G3
 first | refine o_storeN (kk := 0) (vs := [_, _, _, _, _, _, _, _, _, _, _]) S3 sz_112 rfl rfl rfl rfl rfl rfl rfl ?_
 intro w3_6 S3_6 X3_6
 dsimp only [setsAt, List.set] at S3_6
 refine lO S3_6.k [.w 0] rfl ⟨⟨rfl,by rfl⟩,⟨⟩⟩ ?_
 refine o_alloc S3_6 zv_112 rfl rfl ?_
 intro g4 w4 S4 X4 G4
 first | refine o_storeN (kk := 0) (vs := [_, _, _, _, _, _, _, _, _, _, _]) S4 sz_112 rfl rfl rfl rfl rfl rfl rfl ?_
 intro w4_2 S4_2 X4_2
 dsimp only [setsAt, List.set] at S4_2
 refine lO0 rfl ⟨⟩ ?_
 first | refine o_store (kk := 0) S4_2 sz_3 rfl (by conv => lhs; whnf) rfl rfl (by exact Nat.le_of_ble_eq_true rfl) ?_
 intro w5_1 S5_1 X5_1
 refine lO S5_1.k [.w 1] rfl ⟨⟨rfl,by rfl⟩,⟨⟩⟩ ?_
 refine o_alloc S5_1 zv_112 rfl rfl ?_
 intro g5 w5 S5 X5 G5
 first | refine o_storeN (kk := 0) (vs := [_, _, _, _, _, _, _, _, _, _, _]) S5 sz_112 rfl rfl rfl rfl rfl rfl rfl ?_
 intro w6_2 S6_2 X6_2
 dsimp only [setsAt, List.set] at S6_2
 refine lO0 rfl ⟨⟩ ?_
 first | refine o_store (kk := 0) S6_2 sz_3 rfl (by conv => lhs; whnf) rfl rfl (by exact Nat.le_of_ble_eq_true rfl) ?_
 intro w7_1 S7_1 X7_1
 refine lO0 rfl ⟨⟩ ?_
 first | refine o_store (kk := 0) S7_1 sz_3 rfl (by conv => lhs; whnf) rfl rfl (by exact Nat.le_of_ble_eq_true rfl) ?_
 intro w8_1 S8_1 X8_1
 refine lO S8_1.k [.w 6,.w 6,.w 6] rfl ⟨⟨rfl,by rfl⟩,⟨rfl,by rfl⟩,⟨rfl,by rfl⟩,⟨⟩⟩ ?_
 refine o_buildSlice S8_1 slz_71 (vs := [.agg _, .agg _, .agg _]) (cs := [_, _, _, _, _, _, _, _, _, _, _, _]) (by rfl) rfl rfl rfl rfl rfl rfl ?_
 intro g25 w25 S25 X25 G25
 refine o_buildSlice S25 slz_43 (vs := [.int .i64 _, .int .i64 _, .int .i64 _]) (cs := [_, _, _]) (by rfl) rfl rfl rfl rfl rfl rfl ?_
 intro g26 w26 S26 X26 G26
 refine lO S26.k [.w 3,.w 2] rfl ⟨⟨rfl,by rfl⟩,⟨rfl,by rfl⟩,⟨⟩⟩ ?_
 refine o_buildSlice S26 slz_80 (vs := [.agg _, .agg _]) (cs := [_, _, _, _, _, _, _, _, _, _, _, _, _, _, _, _, _, _, _, _, _, _]) (by rfl) rfl rfl rfl rfl rfl rfl ?_
 intro g29 w29 S29 X29 G29
 refine o_build bld_83 (vs := [(0, .string _), (1, .int .i64 _), (2, .slice _ _ _), (3, .slice _ _ _), (4, .slice _ _ _)]) (cs := [_, _, _, _, _, _, _]) rfl rfl rfl rfl ?_
 refine o_alloc S29 zv_83 rfl rfl ?_
 intro g6 w6 S6 X6 G6
 first | refine o_storeN (kk := 0) (vs := [_, _, _, _, _, _, _]) S6 sz_83 rfl rfl rfl rfl rfl rfl rfl ?_
 intro w9_10 S9_10 X9_10
 dsimp only [setsAt, List.set] at S9_10
 refine lO0 rfl ⟨⟩ ?_
 refine o_build bld_90 (vs := [(0, .string _), (1, .int .i64 _), (2, .int .i64 _), (3, .int .i64 _)]) (cs := [_, _, _, _, _, _]) rfl rfl rfl rfl ?_
 refine o_buildSlice S9_10 slz_31 (vs := [.agg _]) (cs := [_, _, _, _, _, _]) (by rfl) rfl rfl rfl rfl rfl rfl ?_
 intro g32 w32 S32 X32 G32
 refine lO S32.k [.w 11,.w 11] rfl ⟨⟨rfl,by rfl⟩,⟨rfl,by rfl⟩,⟨⟩⟩ ?_
 refine o_buildSlice S32 slz_43 (vs := [.int .i64 _]) (cs := [_]) (by rfl) rfl rfl rfl rfl rfl rfl ?_
 intro g35 w35 S35 X35 G35
 refine o_build bld_75 (vs := [(0, .string _), (1, .string _), (2, .agg _), (3, .agg _), (4, .slice _ _ _)]) (cs := [_, _, _, _, _, _, _, _, _, _, _]) rfl rfl rfl rfl ?_
 refine o_buildSlice S35 slz_32 (vs := [.agg _]) (cs := [_, _, _, _, _, _, _, _, _, _, _]) (by rfl) rfl rfl rfl rfl rfl rfl ?_
 intro g37 w37 S37 X37 G37
 refine lO S37.k [.w 3] rfl ⟨⟨rfl,by rfl⟩,⟨⟩⟩ ?_
 refine o_buildSlice S37 slz_34 (vs := [.agg _]) (cs := [_, _, _, _, _, _, _]) (by rfl) rfl rfl rfl rfl rfl rfl ?_
 intro g39 w39 S39 X39 G39
 refine o_build bld_36 (vs := [(0, .slice _ _ _), (1, .slice _ _ _), (3, .slice _ _ _)]) (cs := [_, _, _, _]) rfl rfl rfl rfl ?_
 first | refine o_storeN (kk := 15) (vs := [_, _, _, _]) S39 sz_36 rfl rfl rfl rfl rfl rfl rfl ?_
 intro w10_10 S10_10 X10_10
 dsimp only [setsAt, List.set] at S10_10
 refine lR0 rfl ⟨⟩ ?_
 have SF := S10_10
 have i0 : i64 0 := by unfold i64; omega
 have i1 : i64 1 := by unfold i64; omega
 have i2 : i64 2 := by unfold i64; omega
 have i3 : i64 3 := by unfold i64; omega
 have i4 : i64 4 := by unfold i64; omega
 have i8 : i64 8 := by unfold i64; omega
 have im : i64 (-1) := by unfold i64; omega
 have hone : RdE [] w10_10 eOne13 [.int .i64 1, .int .i64 1, .int .i64 1, .slice none 0 0] := rdE_leaf i1 i1 i1
 have hnext : RdE [] w10_10 eNext13 [.int .i64 8, .int .i64 2, .int .i64 0, .slice (some ⟨g10, 0, none⟩) 2 2] := rdE_two i8 i2 (by simp) (SF.cells 13 rfl) (rdE_leaf (op := 2) (wd := 2) (n := 0) i2 i2 i0) (rdE_leaf (op := 1) (wd := 2) (n := 1) i1 i2 i1)
 have hset : RdAs [] w10_10 (.slice (some ⟨g15, 0, none⟩) 1 1) [⟨0, eNext13⟩] := rdS_1 (by simp) (SF.cells 11 rfl) rfl ⟨_, rfl, i0, hnext⟩
 have hst : RdSt [] w10_10 (.slice (some ⟨g29, 0, none⟩) 2 2) [⟨4, 0, 1, eOne13, [⟨0, eNext13⟩], false, 0, 0⟩, ⟨4, 1, 2, eOne13, [⟨0, eNext13⟩], false, 0, 0⟩] :=
  rdS_2 (c := [_, _, _, _, _, _, _, _, _, _, _]) (c2 := [_, _, _, _, _, _, _, _, _, _, _]) (by simp) (SF.cells 5 rfl) rfl rfl ⟨_, _, _, _, _, rfl, i4, i0, i1, i0, i0, hone, hset⟩ ⟨_, _, _, _, _, rfl, i4, i1, i2, i0, i0, hone, hset⟩
 have has : RdEs [] w10_10 (.slice (some ⟨g25, 0, none⟩) 3 3) [eOne13, eOne13, eOne13] := rdS_3 (c := [_, _, _, _]) (c2 := [_, _, _, _]) (c3 := [_, _, _, _]) (by simp) (SF.cells 7 rfl) rfl rfl rfl hone hone hone
 have hmo : RdI [] w10_10 (.slice (some ⟨g26, 0, none⟩) 3 3) [0, 0, 0] := rdI_own SF (k := 6) rfl (by simp) rfl (by omega) (by simp [i0])
 have hfr : RdI [] w10_10 (.slice (some ⟨g35, 0, none⟩) 1 1) [0] := rdI_own SF (k := 2) rfl (by simp) rfl (by omega) (by simp [i0])
 refine ret_cell1 rfl many_36 rfl (SF.cells 15 rfl) rfl ⟨⟨_, rfl, _, _, _, _, rfl, ?_, ?_, rdS_nil, ?_⟩, SF.fin⟩
 ·exact rdS_1 (by simp) (SF.cells 3 rfl) rfl ⟨rfl, i2, i3, im, i0⟩
 ·exact rdS_1 (by simp) (SF.cells 1 rfl) rfl ⟨_, _, _, _, _, _, _, _, _, rfl, hone, hone, hfr⟩
 ·exact rdS_1 (by simp) (SF.cells 0 rfl) rfl ⟨_, _, _, _, rfl, i3, has, hmo, hst, rdS_nil⟩
theorem head_fn (w0 : World) (hK : Masks [] w0) :
 Does Tryz.prog 8 #[] w0 fun v w' => v = .bool true ∧ Below w0.heap.size w0 w' := by
 have S := St.refl w0
 have i0 : i64 0 := by unfold i64; omega
 have i1 : i64 1 := by unfold i64; omega
 have i2 : i64 2 := by unfold i64; omega
 have i3 : i64 3 := by unfold i64; omega
 have i4 : i64 4 := by unfold i64; omega
 have im : i64 (-1) := by unfold i64; omega
 refine Does_enterR Tryz.func8 rfl Tryz.ntmps8 rfl ?_
 refine wO0 rfl ⟨⟩ ?_
 refine o_build bld_53 (vs := [(0, .int .i64 _), (1, .int .i64 _)]) (cs := [_, _, _]) rfl rfl rfl rfl ?_
 refine o_build bld_53 (vs := [(0, .int .i64 _), (1, .int .i64 _), (2, .int .i64 _)]) (cs := [_, _, _]) rfl rfl rfl rfl ?_
 refine o_buildSlice S slz_22 (vs := [.agg _, .agg _]) (cs := [_, _, _, _, _, _]) (by rfl) rfl rfl rfl rfl rfl rfl ?_
 intro g16 w16 S16 X16 G16
 refine lO0 rfl ⟨⟩ ?_
 have hA : RdCh [] w16 (.slice (some ⟨g16, 0, none⟩) 2 2) runA := rdS_2 (c := [_, _, _]) (c2 := [_, _, _]) (by simp) (S16.cells 0 rfl) rfl rfl ⟨rfl, i0, i3, i0⟩ ⟨rfl, i1, im, i4⟩
 refine o_callr S16 has_9 rfl rfl (does_eq (text_fn runA [] _ _ hA) (by rw [text_runA])) ?_
 intro w19 S19 X19
 replace hA := hA.keep (X19.of_nil)
 refine lO0 rfl ⟨⟩ ?_
 refine o_calln S19 has_10 rfl rfl (parse_good runA wr_runA (by decide) textA join_runA _) ?_
 rintro v23 w23 ⟨_, rfl, hB⟩ S23 X23
 replace hA := hA.keep (X23.of_nil)
 refine lOn 1 S23.k [] rfl ⟨⟩ ?_
 refine o_extract rfl rfl rfl ?_
 refine lOn 1 S23.k [] rfl ⟨⟩ ?_
 refine o_assign (by conv => lhs; whnf) rfl ?_
 refine lO0 rfl ⟨⟩ ?_
 refine o_callr S23 has_10 rfl rfl (parse_bad [48, 46, 48, 51] (by decide) no_textB _) ?_
 intro w27 S27 X27
 replace hA := hA.keep (X27.of_nil)
 replace hB := hB.keep (X27.of_nil)
 refine lO0 rfl ⟨⟩ ?_
 refine o_build bld_53 (vs := [(0, .int .i64 _)]) (cs := [_, _, _]) rfl rfl rfl rfl ?_
 refine o_buildSlice S27 slz_22 (vs := [.agg _]) (cs := [_, _, _]) (by rfl) rfl rfl rfl rfl rfl rfl ?_
 intro g32 w32 S32 X32 G32
 replace hA := hA.keep (X32.of_nil)
 replace hB := hB.keep (X32.of_nil)
 have hC : RdCh [] w32 (.slice (some ⟨g32, 0, none⟩) 1 1) [⟨4, 0, 0⟩] := rdS_1 (by simp) (S32.cells 0 rfl) rfl ⟨rfl, i4, i0, i0⟩
 refine o_callr S32 has_9 rfl rfl (does_eq (text_fn _ [] _ _ hC) (by rw [text_bad])) ?_
 intro w33 S33 X33
 replace hA := hA.keep (X33.of_nil)
 replace hB := hB.keep (X33.of_nil)
 refine lO0 rfl ⟨⟩ ?_
 refine o_calln S33 has_23 rfl rfl (counter_fn _) ?_
 rintro v37 w37 ⟨_, rfl, hP⟩ S37 X37
 replace hA := hA.keep (X37.of_nil)
 replace hB := hB.keep (X37.of_nil)
 refine o_build bld_53 (vs := [(1, .int .i64 _)]) (cs := [_, _, _]) rfl rfl rfl rfl ?_
 refine o_build bld_53 (vs := [(1, .int .i64 _)]) (cs := [_, _, _]) rfl rfl rfl rfl ?_
 refine o_build bld_53 (vs := [(1, .int .i64 _)]) (cs := [_, _, _]) rfl rfl rfl rfl ?_
 refine o_buildSlice S37 slz_22 (vs := [.agg _, .agg _, .agg _]) (cs := [_, _, _, _, _, _, _, _, _]) (by rfl) rfl rfl rfl rfl rfl rfl ?_
 intro g41 w41 S41 X41 G41
 replace hA := hA.keep (X41.of_nil)
 replace hB := hB.keep (X41.of_nil)
 replace hP := hP.keep (X41.of_nil)
 have hD : RdCh [] w41 (.slice (some ⟨g41, 0, none⟩) 3 3) runD := rdS_3 (c := [_, _, _]) (c2 := [_, _, _]) (c3 := [_, _, _]) (by simp) (S41.cells 0 rfl) rfl rfl rfl ⟨rfl, i0, i0, i0⟩ ⟨rfl, i0, i1, i0⟩ ⟨rfl, i0, i0, i0⟩
 refine o_calln S41 has_13 rfl rfl (run_fn counterP 0 (.inl rfl) runD [] _ _ _ ⟨hP, counter_ok, hK.keep (S41.keep0 []), by simp⟩ hD (by decide)) ?_
 rintro v42 w42 ⟨_, rfl, hL⟩ S42 X42
 replace hA := hA.keep (X42.of_nil)
 replace hB := hB.keep (X42.of_nil)
 have KI := Keep.refl [] w42
 obtain ⟨_, _, _, rfl⟩ := hL.form
 have hnl := hL.len.1
 have hr3 := of_decide_eq_true runD_len
 have her : errC counterP 0 runD = 110 := by unfold errC; rw [if_neg (by rw [hr3]; decide)]
 refine lOn 12 S42.k [] rfl ⟨⟩ ?_
 refine o_eqlS rfl rfl rfl (fun h47 => ?_) (fun h47 => ?_)
 ·refine lB0 rfl ⟨⟩ (fun h50 => ?_) (fun h50 => by exfalso; omega)
  refine lB0 rfl ⟨⟩ (fun h54 => ?_) (fun h54 => by exfalso; omega)
  refine lOn 2 S42.k [] rfl ⟨⟩ ?_
  refine WL_on rfl rfl rfl ?_
  refine o_move (by conv => lhs; whnf) rfl ?_
  refine lO0 rfl ⟨⟩ ?_
  refine o_callr S42 has_11 rfl rfl (does_true (sameRun_fn runA runA [] _ _ _ hB hA) (decide_eq_true rfl)) ?_
  intro w59 S59 X59
  replace KI := KI.trans X59
  refine lB0 rfl ⟨⟩ (fun h63 => ?_) (fun h63 => by exfalso; omega)
  refine lB0 rfl ⟨⟩ (fun h67 => ?_) (fun h67 => by exfalso; omega)
  refine lB0 rfl ⟨⟩ (fun h72 => ?_) (fun h72 => by exact absurd her h72)
  refine lB0 rfl ⟨⟩ (fun h76 => ?_) (fun h76 => by exfalso; omega)
  refine lB0 rfl ⟨⟩ (fun h81 => ?_) (fun h81 => by exfalso; omega)
  have hL2 := RdS.keepW hL KI (RConf.keep KI)
  obtain ⟨c85, b85, p85, c85, hxc85, hA85, _, _, hc85, hr85⟩ := RdS.get (hL2) (2) (by omega)
  obtain ⟨_, _, _, _, _, _, _, _, _, rfl, hMem85, _, _, _, _, _, _, _, _⟩ := RdConf.open_ hr85
  obtain rfl := Option.some.inj (hxc85.symm.trans (of_decide_eq_true runD_2))
  refine lO (S59.k.b hc85) [.x b85 p85,.f 0 0] rfl ⟨rfl,⟨hA85,by omega⟩,⟨⟩⟩ ?_
  refine o_buildSlice S59 slz_43 (vs := [.int .i64 _]) (cs := [_]) (by rfl) rfl rfl rfl rfl rfl rfl ?_
  intro g88 w88 S88 X88 G88
  replace KI := KI.trans X88
  refine lO0 rfl ⟨⟩ ?_
  refine o_callr S88 has_24 rfl rfl (does_true (ints_fn [1] [1] [] _ _ _ (hMem85.keep X88) (rdI_own S88 (k := 0) rfl (by simp) rfl (by omega) (by simp [i1]))) (decide_eq_true rfl)) ?_
  intro w89 S89 X89
  replace KI := KI.trans X89
  have hL3 := RdS.keepW hL KI (RConf.keep KI)
  obtain ⟨c93, b93, p93, c93, hxc93, hA93, _, _, hc93, hr93⟩ := RdS.get (hL3) (2) (by omega)
  obtain ⟨_, _, _, _, _, _, _, _, _, rfl, _, hAt93, _, _, _, _, _, _, _⟩ := RdConf.open_ hr93
  obtain rfl := Option.some.inj (hxc93.symm.trans (of_decide_eq_true runD_2))
  refine lO (S89.k.b hc93) [.x b93 p93,.f 0 1] rfl ⟨rfl,⟨hA93,by omega⟩,⟨⟩⟩ ?_
  refine o_buildSlice S89 slz_43 (vs := [.int .i64 _]) (cs := [_]) (by rfl) rfl rfl rfl rfl rfl rfl ?_
  intro g96 w96 S96 X96 G96
  refine lO0 rfl ⟨⟩ ?_
  refine o_callr S96 has_24 rfl rfl (does_true (ints_fn [2] [2] [] _ _ _ (hAt93.keep X96) (rdI_own S96 (k := 0) rfl (by simp) rfl (by omega) (by simp [i2]))) (decide_eq_true rfl)) ?_
  intro w97 S97 X97
  refine lR0 rfl ⟨⟩ ?_
  refine ret_1 rfl (by conv => lhs; whnf) ?_
  exact ⟨rfl, S97.fin⟩
 exact absurd rfl h47
end Go.Proofs.YtgnbfmifjlnigaaGreatDoor
namespace Go.Fw
open Go.RowKit
section
variable {p : ProgD} {m : Int}
theorem runTo_take : ∀ (run : List ChoiceD) (c : ConfD) (k : Nat), k ≤ (runTo p m c run).length → runTo p m c (run.take k) = (runTo p m c run).take k
 | [], c, k, h => by simp [runTo]
 | x :: l, c, 0, h => by simp [runTo]
 | x :: l, c, k + 1, h => by
   rw [List.take_succ_cons]
   by_cases hx : x ∈ choicesC p m c
   ·have e : runTo p m c (x :: l) = doC p m c x :: runTo p m (doC p m c x) l := by rw [runTo, if_pos hx]
    rw [e] at h ⊢
    rw [runTo, if_pos hx, List.take_succ_cons, runTo_take l _ k (by simpa using h)]
   ·have e : runTo p m c (x :: l) = [] := by rw [runTo, if_neg hx]
    rw [e] at h; simp at h
theorem runC_take {run : List ChoiceD} {k : Nat} (h : k < (runC p m run).length) : runC p m (run.take k) = (runC p m run).take (k + 1) := by
 rw [runC_len] at h
 unfold runC
 rw [List.take_succ_cons, runTo_take run _ k (by omega)]
theorem errC_iff {run : List ChoiceD} : errC p m run = 0 ↔ (runC p m run).length = run.length + 1 := by
 unfold errC
 split <;> simp_all
theorem errC_take {run : List ChoiceD} {k : Nat} (h : k < (runC p m run).length) : errC p m (run.take k) = 0 := by
 have := runC_le p m run
 rw [errC_iff, runC_take h, List.length_take, List.length_take]
 omega
theorem runC_pos (run : List ChoiceD) : 1 ≤ (runC p m run).length := by rw [runC_len]; omega
theorem runC_take_len {run : List ChoiceD} {k : Nat} (h : k < (runC p m run).length) : (runC p m (run.take k)).length = k + 1 := by
 rw [runC_take h, List.length_take]; omega
end
theorem mod_nat {a b : Int} (hb : 0 < b) : ∃ k : Nat, a % b = k ∧ (k : Int) < b := by
 obtain ⟨k, hk⟩ := Int.eq_ofNat_of_zero_le (Int.emod_nonneg a (show b ≠ 0 by omega))
 exact ⟨k, hk, hk ▸ Int.emod_lt_of_pos a hb⟩
end Go.Fw
namespace Go.Proofs.YtgnbfmifjlnigaaGreatDoor
open Go.Fw Go.RowKit
theorem schedulePrefixes_fn (p : ProgD) (m : Int) (hm : 0 ≤ m ∧ m ≤ 255) (run : List ChoiceD) (cut : Int) (hcut : 0 ≤ cut ∧ cut ≤ 255) (w0 : World) (cs : List Value) (vr : Value) (hP : RdProg [] w0 p cs) (hN : Named p) (hRun : RdCh [] w0 vr run) (hK : Masks [] w0) :
 Does Tryz.prog 4 #[.agg cs.toArray, .int .u8 m, vr, .int .u8 cut] w0 fun v w' => v = .bool true ∧ Below w0.heap.size w0 w' := by
 obtain ⟨_, _, _, _, _, _, _, _, _, _, _, _, rfl, _, _, _, _, _, _, _, _, _, _, _, _⟩ := hP.open_
 obtain ⟨_, _, _, rfl⟩ := hRun.form
 obtain ⟨_, _, _⟩ := hRun.len
 have S := St.refl w0
 refine Does_enterR Tryz.func4 rfl Tryz.ntmps4 rfl ?_
 refine wO0 rfl ⟨⟩ ?_
 refine o_boxa S (by conv => lhs; whnf) rfl ?_
 intro g4 w4 S4 X4 G4
 refine lO0 rfl ⟨⟩ ?_
 refine o_callr S4 has_8 rfl rfl (head_fn _ (hK.keep (S4.keep0 []))) ?_
 intro w18 S18 X18
 refine lO S18.k [.w 0] rfl ⟨⟨rfl,by rfl⟩,⟨⟩⟩ ?_
 refine o_calls S18 has_12 rfl rfl (small13_fn p [] _ _ (hP.keep (S18.keep0 [])) (by simp) hN) (fun h20 w20 S20 X20 => ?_) (fun w20 S20 X20 => ?_)
 ·refine lB0 rfl ⟨⟩ (fun h25 => ?_) (fun h25 => ?_)
  ·refine lR0 rfl ⟨⟩ ?_
   refine ret_1 rfl (by conv => lhs; whnf) ?_
   exact ⟨rfl, S20.fin⟩
  refine lO0 rfl ⟨⟩ ?_
  refine o_rem rfl rfl (by omega) (by omega) rfl ?_
  have hI : InP p [] w0 _ := ⟨hP, h20, hK, by simp⟩
  refine o_convI Tryz.underlying5 Tryz.underlying3 rfl rfl ?_
  rw [wrap_id (by unfold i64; omega)]
  obtain ⟨k3, hk3⟩ : ∃ k, k = m % 3 := ⟨_, rfl⟩
  rw [← hk3]
  have hmk : k3 = 0 ∨ k3 = 1 ∨ k3 = 2 := by omega
  have hle := runC_le p k3 run
  have hl1 := runC_pos (p := p) (m := k3) run
  refine lO S20.k [.w 0] rfl ⟨⟨rfl,by rfl⟩,⟨⟩⟩ ?_
  refine o_calln S20 has_13 rfl rfl (run_fn p k3 hmk run [] _ _ _ (hI.keep (S20.keep0 [])) (hRun.keep (S20.keep0 [])) (by omega)) ?_
  rintro v35 w35 ⟨_, rfl, hL⟩ S35 X35
  have KL := Keep.refl [] w35
  obtain ⟨_, _, _, rfl⟩ := hL.form
  obtain ⟨_, _, -⟩ := hL.len
  have hei := errC_iff (p := p) (m := k3) (run := run)
  refine lB0 rfl ⟨⟩ (fun h40 => by exfalso; omega) (fun h40 => ?_)
  refine lB0 rfl ⟨⟩ (fun h45 => by exfalso; omega) (fun h45 => ?_)
  refine lB0 rfl ⟨by omega,⟨⟩⟩ (fun h52 => by exfalso; omega) (fun h52 => ?_)
  refine lB0 rfl ⟨⟩ (fun h56 => ?_) (fun h56 => ?_)
  ·refine lB0 rfl ⟨⟩ (fun h60 => ?_) (fun h60 => ?_)
   ·refine lO0 rfl ⟨⟩ ?_
    refine o_convI Tryz.underlying5 Tryz.underlying3 rfl rfl ?_
    rw [wrap_id (by unfold i64; omega)]
    refine lO0 rfl ⟨by omega,⟨⟩⟩ ?_
    refine o_rem rfl rfl (by omega) (by omega) rfl ?_
    obtain ⟨k, hk, hklt⟩ := mod_nat (a := cut) (b := ((runC p k3 run).length : Int) - 1 + 1) (by omega)
    rw [hk]
    have hkl : k < (runC p k3 run).length := by omega
    have het := errC_take hkl
    have hlt := runC_take_len hkl
    refine lC0 rfl ⟨⟩ ?_
    refine W_mix follows_mixed (fun i => [0, 1, 2, 3, 6, 7, 8, 9, 10, 11, 12].contains i) [0, 1, 2, 3, 4, 5, 6, 7, 8, 9, 10, 11, 12] (by kernel_rfl) (by kernel_rfl) (Cl _ _ _ _) (Cl.start S35) ?_
    rintro wR9 ⟨SR9, XR9⟩
    replace KL := KL.trans XR9
    refine WM_q ⟨SR9, XR9⟩ rfl rfl rfl ?_
    first | refine q_loadN many_36 rfl (fun w1 hw => hw.1.cells 0 rfl) rfl rfl ?_
    refine QL_nil ?_
    refine WM_q ⟨SR9, XR9⟩ rfl rfl rfl ?_
    refine q_move (v := .int .i64 _) rfl rfl ?_
    refine QL_nil ?_
    refine WM_q ⟨SR9, XR9⟩ rfl rfl rfl ?_
    refine q_move (v := .slice _ _ _) rfl rfl ?_
    refine QL_nil ?_
    refine WM_q ⟨SR9, XR9⟩ rfl rfl rfl ?_
    refine q_move (v := .int .i64 _) rfl rfl ?_
    refine QL_nil ?_
    refine WM_o ⟨SR9, XR9⟩ rfl rfl rfl rfl ?_
    refine o_sliceTo (k := k) slz_22.slT rfl rfl (by omega) rfl ?_
    refine WL_nil ⟨rfl, ?_⟩
    refine WM_o ⟨SR9, XR9⟩ rfl rfl rfl rfl ?_
    refine o_calln SR9 has_13 rfl rfl (run_fn p k3 hmk (run.take k) [] _ _ _ (hI.keep (SR9.keep0 [])) (RdS.take (hRun.keep (SR9.keep0 [])) k (by omega)) (by rw [List.length_take]; omega)) ?_
    rintro v74 w74 ⟨vl2, rfl, hL2⟩ S74 X74
    have XCw74 := XR9.trans X74
    replace KL := KL.trans X74
    obtain ⟨Ay, ny, cy, rfl⟩ := hL2.form
    obtain ⟨hny, hny2, -⟩ := hL2.len
    refine WL_nil ⟨rfl, ?_⟩
    refine WM_q ⟨S74, XCw74⟩ rfl rfl rfl ?_
    refine q_move (v := .tuple _) rfl rfl ?_
    refine QL_nil ?_
    refine WM_q ⟨S74, XCw74⟩ rfl rfl rfl ?_
    refine q_extract rfl rfl rfl ?_
    refine QL_nil ?_
    refine WM_q ⟨S74, XCw74⟩ rfl rfl rfl ?_
    refine q_extract rfl rfl rfl ?_
    refine QL_nil ?_
    refine WM_q ⟨S74, XCw74⟩ rfl rfl rfl ?_
    refine q_extract rfl rfl rfl ?_
    refine QL_nil ?_
    refine WM_q ⟨S74, XCw74⟩ rfl rfl rfl ?_
    refine q_assign (v := .slice _ _ _) rfl rfl ?_
    refine QL_nil ?_
    refine WM_q ⟨S74, XCw74⟩ rfl rfl rfl ?_
    refine q_assign (v := .int .i64 _) rfl rfl ?_
    refine QL_nil ?_
    refine WM_q ⟨S74, XCw74⟩ rfl rfl rfl ?_
    refine q_assign (v := .int .i64 _) rfl rfl ?_
    refine QL_nil ?_
    refine WM_nil ⟨S74, XCw74⟩ ?_
    refine fB0 rfl ⟨⟩ (fun h81 => ?_) (fun h81 => by exact absurd het h81)
    refine lB0 rfl ⟨⟩ (fun h86 => ?_) (fun h86 => by exfalso; omega)
    refine lB0 rfl ⟨by omega,⟨⟩⟩ (fun h93 => ?_) (fun h93 => by exfalso; omega)
    refine lO0 rfl ⟨by omega,⟨⟩⟩ ?_
    refine o_sliceTo (k := k + 1) slz_38.slT rfl rfl (by omega) rfl ?_
    refine lO0 rfl ⟨⟩ ?_
    refine o_callr S74 has_14 rfl rfl (does_true (sameAll_fn _ _ [] _ _ _ hL2 (RdS.take (RdS.keepW hL KL (RConf.keep KL)) (k + 1) (by omega))) (decide_eq_true (runC_take hkl))) ?_
    intro w101 S101 X101
    replace KL := KL.trans X101
    refine lR0 rfl ⟨⟩ ?_
    refine ret_1 rfl (by conv => lhs; whnf) ?_
    exact ⟨rfl, S101.fin⟩
   refine lR0 rfl ⟨⟩ ?_
   refine ret_1 rfl (by conv => lhs; whnf) ?_
   exfalso; omega
  refine lB0 rfl ⟨⟩ (fun h60 => ?_) (fun h60 => ?_)
  ·refine lR0 rfl ⟨⟩ ?_
   refine ret_1 rfl (by conv => lhs; whnf) ?_
   exfalso; omega
  refine lO0 rfl ⟨⟩ ?_
  refine o_convI Tryz.underlying5 Tryz.underlying3 rfl rfl ?_
  rw [wrap_id (by unfold i64; omega)]
  refine lO0 rfl ⟨by omega,⟨⟩⟩ ?_
  refine o_rem rfl rfl (by omega) (by omega) rfl ?_
  obtain ⟨k, hk, hklt⟩ := mod_nat (a := cut) (b := ((runC p k3 run).length : Int) - 1 + 1) (by omega)
  rw [hk]
  have hkl : k < (runC p k3 run).length := by omega
  have het := errC_take hkl
  have hlt := runC_take_len hkl
  refine lC0 rfl ⟨⟩ ?_
  refine W_mix follows_mixed (fun i => [0, 1, 2, 3, 6, 7, 8, 9, 10, 11, 12].contains i) [0, 1, 2, 3, 4, 5, 6, 7, 8, 9, 10, 11, 12] (by kernel_rfl) (by kernel_rfl) (Cl _ _ _ _) (Cl.start S35) ?_
  rintro wR9 ⟨SR9, XR9⟩
  replace KL := KL.trans XR9
  refine WM_q ⟨SR9, XR9⟩ rfl rfl rfl ?_
  first | refine q_loadN many_36 rfl (fun w1 hw => hw.1.cells 0 rfl) rfl rfl ?_
  refine QL_nil ?_
  refine WM_q ⟨SR9, XR9⟩ rfl rfl rfl ?_
  refine q_move (v := .int .i64 _) rfl rfl ?_
  refine QL_nil ?_
  refine WM_q ⟨SR9, XR9⟩ rfl rfl rfl ?_
  refine q_move (v := .slice _ _ _) rfl rfl ?_
  refine QL_nil ?_
  refine WM_q ⟨SR9, XR9⟩ rfl rfl rfl ?_
  refine q_move (v := .int .i64 _) rfl rfl ?_
  refine QL_nil ?_
  refine WM_o ⟨SR9, XR9⟩ rfl rfl rfl rfl ?_
  refine o_sliceTo (k := k) slz_22.slT rfl rfl (by omega) rfl ?_
  refine WL_nil ⟨rfl, ?_⟩
  refine WM_o ⟨SR9, XR9⟩ rfl rfl rfl rfl ?_
  refine o_calln SR9 has_13 rfl rfl (run_fn p k3 hmk (run.take k) [] _ _ _ (hI.keep (SR9.keep0 [])) (RdS.take (hRun.keep (SR9.keep0 [])) k (by omega)) (by rw [List.length_take]; omega)) ?_
  rintro v74 w74 ⟨vl2, rfl, hL2⟩ S74 X74
  have XCw74 := XR9.trans X74
  replace KL := KL.trans X74
  obtain ⟨Ay, ny, cy, rfl⟩ := hL2.form
  obtain ⟨hny, hny2, -⟩ := hL2.len
  refine WL_nil ⟨rfl, ?_⟩
  refine WM_q ⟨S74, XCw74⟩ rfl rfl rfl ?_
  refine q_move (v := .tuple _) rfl rfl ?_
  refine QL_nil ?_
  refine WM_q ⟨S74, XCw74⟩ rfl rfl rfl ?_
  refine q_extract rfl rfl rfl ?_
  refine QL_nil ?_
  refine WM_q ⟨S74, XCw74⟩ rfl rfl rfl ?_
  refine q_extract rfl rfl rfl ?_
  refine QL_nil ?_
  refine WM_q ⟨S74, XCw74⟩ rfl rfl rfl ?_
  refine q_extract rfl rfl rfl ?_
  refine QL_nil ?_
  refine WM_q ⟨S74, XCw74⟩ rfl rfl rfl ?_
  refine q_assign (v := .slice _ _ _) rfl rfl ?_
  refine QL_nil ?_
  refine WM_q ⟨S74, XCw74⟩ rfl rfl rfl ?_
  refine q_assign (v := .int .i64 _) rfl rfl ?_
  refine QL_nil ?_
  refine WM_q ⟨S74, XCw74⟩ rfl rfl rfl ?_
  refine q_assign (v := .int .i64 _) rfl rfl ?_
  refine QL_nil ?_
  refine WM_nil ⟨S74, XCw74⟩ ?_
  refine fB0 rfl ⟨⟩ (fun h81 => ?_) (fun h81 => by exact absurd het h81)
  refine lB0 rfl ⟨⟩ (fun h86 => ?_) (fun h86 => by exfalso; omega)
  refine lB0 rfl ⟨by omega,⟨⟩⟩ (fun h93 => ?_) (fun h93 => by exfalso; omega)
  refine lO0 rfl ⟨by omega,⟨⟩⟩ ?_
  refine o_sliceTo (k := k + 1) slz_38.slT rfl rfl (by omega) rfl ?_
  refine lO0 rfl ⟨⟩ ?_
  refine o_callr S74 has_14 rfl rfl (does_true (sameAll_fn _ _ [] _ _ _ hL2 (RdS.take (RdS.keepW hL KL (RConf.keep KL)) (k + 1) (by omega))) (decide_eq_true (runC_take hkl))) ?_
  intro w101 S101 X101
  refine lR0 rfl ⟨⟩ ?_
  refine ret_1 rfl (by conv => lhs; whnf) ?_
  exact ⟨rfl, S101.fin⟩
 refine lR0 rfl ⟨⟩ ?_
 refine ret_1 rfl (by conv => lhs; whnf) ?_
 exact ⟨rfl, S20.fin⟩
end Go.Proofs.YtgnbfmifjlnigaaGreatDoor
namespace Go.Proofs.YtgnbfmifjlnigaaGreatDoor
open Go.Fw Go.RowKit Go.ChangeShapes Go.WideShapes
set_option maxRecDepth 100000 in
set_option maxHeartbeats 2000000 in
theorem schedulePrefixes_lifted (os : Os) (started : os.Started) (H : Type) (enc : TypeId × Value → H) :
 ReturnsInHanded {} Tryz.checked os 4 .any (fun w args => (Rows.schedulePrefixesSpec.pre enc Tryz.prog Tryz.f4 [] false w args ∧ laidMetH Tryz.prog tableLaid w) ∧ sizedMet enc Tryz.prog Tryz.f4 (OpenSpec.ofChange Rows.schedulePrefixesSpec) false w args)
  (Rows.schedulePrefixesSpec.post enc Tryz.prog Tryz.f4 false true false false) := by
 refine returnsInHanded_of_change_and (C := Tryz.checked) (X := fun w _ => laidMetH Tryz.prog tableLaid w) (fun _ _ _ hh h => h.of_heap hh) own started (by kernel_rfl) Tryz.func4
  (ChangeSpec.witness_shaped (enc := enc) (C := Tryz.checked) (os := os) (X := fun w _ => laidMetH Tryz.prog tableLaid w) false (World.doorLaid Tryz.prog 400 os)
    #[.agg #[.slice none 0 0, .slice none 0 0, .slice none 0 0, .slice none 0 0], .int .u8 0, .slice none 0 0, .int .u8 0] 8 rfl
    (World.shaped_of_RefB (by kernel_rfl) (by kernel_rfl)) (by kernel_rfl) (by kernel_rfl) (by kernel_rfl) (door_met os _)) ?_
 intro W base args ds gs before hval0 hW _ hsz hL _
 have hval : ∀ (j : Nat) t v, Tryz.f4.params[j]? = some t → args[j]? = some v → Value.okWide Tryz.prog W .any base t v := hval0
 have hW' := hW
 obtain ⟨p, _, hA0, hV, rfl, _, _⟩ := hW
 have hA : DataW.TrodAll enc Tryz.prog W 0 (fun _ => true) true Tryz.f4.params.toList args.toList ds p := hA0
 obtain ⟨rfl, rfl⟩ := trodVars_none hV
 rw [Tryz.params4] at hA hval hsz
 obtain ⟨_, _, _, _, _, _, _, _, _, _, _, _, rfl, rfl, rfl, ⟨_, t0⟩, ⟨_, t1⟩, ⟨_, t2⟩, ⟨_, t3⟩⟩ := trodAll_four hA
 obtain ⟨_, rfl, -⟩ := okWide_struct Tryz.underlying36 (hval 0 _ _ rfl rfl)
 obtain ⟨c1, rfl⟩ := okWide_int Tryz.underlying5 (hval 1 _ _ rfl rfl)
 obtain ⟨_, _, _, rfl⟩ := okWide_slice Tryz.underlying22 (hval 2 _ _ rfl rfl)
 obtain ⟨c3, rfl⟩ := okWide_int Tryz.underlying5 (hval 3 _ _ rfl rfl)
 obtain ⟨c0, h0⟩ := open_program t0 (light_of hsz (j := 0) rfl rfl)
 obtain ⟨_, e1, -, w1⟩ := DataW.trod_int Tryz.underlying5 t1
 cases e1
 have h1 := u8_wf w1
 obtain ⟨c2, h2⟩ := open_choices t2 (light_of hsz (j := 2) rfl rfl)
 obtain ⟨_, e3, -, w3⟩ := DataW.trod_int Tryz.underlying5 t3
 cases e3
 have h3 := u8_wf w3
 refine calls_of_does (schedulePrefixes_fn c0 c1 h1 c2 c3 h3 W _ _ h0.1 h0.2 h2 (masks_of_laid hL)) fun v W'' hr => ⟨v, rfl, ?_⟩
 obtain ⟨rfl, hb⟩ := hr
 exact post_true rfl (by kernel_rfl) (by
  rw [Tryz.params4]
  intro t ht
  have hall : ([36, 5, 22, 5].all fun u => Tryz.prog.readableRec u && decide (u < Tryz.prog.types.size)) = true := by kernel_rfl
  simpa using List.all_eq_true.1 hall t ht) hW' rfl rfl rfl hb
theorem schedulePrefixes_holds : Rows.SchedulePrefixesSaid :=
 OpenClaim.holds_of_wide 4 Tryz.f4 rfl rfl rfl rfl rfl rfl rfl ⟨rfl, rfl, rfl, rfl, rfl⟩ rfl rfl rfl rfl rfl (by kernel_rfl) Tryz.func4 (by kernel_rfl)
  (of_decide_eq_true (by kernel_rfl)) (by unfold Func.isWrapper; (rw [if_neg (by decide +kernel)]; exact ⟨rfl, rfl⟩))
  (fun os started H enc _ => schedulePrefixes_lifted os started H enc)
theorem schedulePrefixes_card : Rows.SchedulePrefixesCardSaid :=
 Claim7.holds_tied_plain_at .later [] [.data, .data, .data, .data] true Rows.schedulePrefixesCard.stood.harness false
  schedulePrefixes_holds (fun _ h => by cases h) (by kernel_rfl) (fun _ h => by cases h) schedulePrefixes_row_tie rfl ⟨rfl, rfl⟩ (by kernel_rfl) rfl
  (fun f fn hf hfn => by
    obtain rfl : f = 4 := Option.some.inj ((show Tryz.prog.funcNamed Rows.schedulePrefixesRow.func = some 4 by kernel_rfl).symm.trans hf) |>.symm
    obtain rfl : fn = Tryz.f4 := (Option.some.inj (Tryz.func4.symm.trans hfn)).symm
    exact ⟨by kernel_rfl, fun j t ht => by
     rw [Tryz.params4] at ht
     have hm : t ∈ [36, 5, 22, 5] := by simpa using Array.mem_of_getElem? ht
     have hall : ([36, 5, 22, 5].all fun u => !Tryz.prog.wantsStandIn u) = true := by kernel_rfl
     exact (show Tryz.prog.wantsStandIn t = false by simpa using List.all_eq_true.1 hall t hm)⟩)
  (by kernel_rfl)
#print axioms schedulePrefixes_card
end Go.Proofs.YtgnbfmifjlnigaaGreatDoor
