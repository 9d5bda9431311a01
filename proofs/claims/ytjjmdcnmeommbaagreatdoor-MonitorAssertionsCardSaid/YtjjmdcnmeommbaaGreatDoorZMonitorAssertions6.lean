/-
  Part 6 of 9 of the proof of MonitorAssertions: what it leans on. No conditions.
-/
import Derived.Test.YtjjmdcnmeommbaaGreatDoorZMonitorAssertions5
set_option maxRecDepth 100000
namespace Go.Fw
open Go.RowKit
def eOne33 : E := ⟨1, 1, 1, []⟩
def eX33 : E := ⟨2, 2, 0, []⟩
def eN33 : E := ⟨1, 2, 1, []⟩
def eGuar33 : E := ⟨13, 1, 0, [⟨3, 2, 0, []⟩, eX33]⟩
def eLess33 : E := ⟨9, 2, 0, [eX33, eN33]⟩
def eIs33 : E := ⟨11, 1, 0, [eX33, eN33]⟩
def downP : ProgD :=
 ⟨[⟨⟨#[77, 46, 120]⟩, 2, 1, -1, false, 0⟩], [⟨⟨#[77]⟩, ⟨#[65]⟩, eOne33, eGuar33, [0]⟩], [],
  [⟨⟨#[116]⟩, 2, [eOne33, eIs33], [0, 0], [⟨4, 0, 1, eOne33, [⟨0, eLess33⟩], false, 0, 0⟩], [], false⟩]⟩
theorem down_ok : ProgOK downP := progB_ok (by kernel_rfl)
def oneV33 : Value := .agg #[.int .i64 1, .int .i64 1, .int .i64 1, .slice none 0 0]
def numV33 : Value := .agg #[.int .i64 1, .int .i64 2, .int .i64 1, .slice none 0 0]
end Go.Fw
namespace Go.Proofs.YtjjmdcnmeommbaaGreatDoor
open Go.Fw Go.RowKit
theorem one33_fn (w0 : World) : Does Tryz.prog 48 #[] w0 fun v w' => v = oneV33 ∧ Below w0.heap.size w0 w' := by
 have S := St.refl w0
 refine dnR Tryz.func48 rfl Tryz.ntmps48 rfl ?_
 refine wO0 rfl ⟨⟩ (o_alloc S zv_56 rfl rfl ?_)
 intro g0 w0 S0 X0 G0
 refine lO0 rfl ⟨⟩ (o_build bld_56 (vs := [(0, .int .i64 _), (1, .int .i64 _), (2, .int .i64 _)]) (cs := [_, _, _, _]) rfl rfl rfl rfl ?_)
 first | refine o_storeN (kk := 0) (vs := [_, _, _, _]) S0 sz_56 rfl rfl rfl rfl rfl rfl rfl ?_
 intro w1_1 S1_1 X1_1
 dsimp only [setsAt, List.set] at S1_1
 refine lR0 rfl ⟨⟩ (ret_cell1 rfl many_56 rfl (S1_1.cells 0 rfl) rfl ⟨rfl, S1_1.fin⟩)
theorem num33_fn (w0 : World) : Does Tryz.prog 62 #[.int .i64 1] w0 fun v w' => v = numV33 ∧ Below w0.heap.size w0 w' := by
 have S := St.refl w0
 refine dnR Tryz.func62 rfl Tryz.ntmps62 rfl ?_
 refine wO0 rfl ⟨⟩ (o_alloc S zv_56 rfl rfl ?_)
 intro g2 w2 S2 X2 G2
 refine lO0 rfl ⟨⟩ (o_build bld_56 (vs := [(0, .int .i64 _), (1, .int .i64 _), (2, .int .i64 _)]) (cs := [_, _, _, _]) rfl rfl rfl rfl ?_)
 first | refine o_storeN (kk := 0) (vs := [_, _, _, _]) S2 sz_56 rfl rfl rfl rfl rfl rfl rfl ?_
 intro w1_2 S1_2 X1_2
 dsimp only [setsAt, List.set] at S1_2
 refine lR0 rfl ⟨⟩ (ret_cell1 rfl many_56 rfl (S1_2.cells 0 rfl) rfl ⟨rfl, S1_2.fin⟩)
theorem down_fn (w0 : World) :
 Does Tryz.prog 37 #[] w0 fun v w' => (∃ cs : List Value, v = .agg cs.toArray ∧ RdProg [] w' downP cs) ∧ Below w0.heap.size w0 w' := by
 have S := St.refl w0
 refine dnR Tryz.func37 rfl Tryz.ntmps37 rfl ?_
 refine wO0 rfl ⟨⟩ (o_alloc S zv_27 rfl rfl ?_)
 intro g0 w0 S0 X0 G0
 refine lO0 rfl ⟨⟩ (o_build bld_56 (vs := [(0, .int .i64 _), (1, .int .i64 _)]) (cs := [_, _, _, _]) rfl rfl rfl rfl ?_)
 refine o_alloc S0 zv_56 rfl rfl ?_
 intro g1 w1 S1 X1 G1
 first | refine o_storeN (kk := 0) (vs := [_, _, _, _]) S1 sz_56 rfl rfl rfl rfl rfl rfl rfl ?_
 intro w1_2 S1_2 X1_2
 dsimp only [setsAt, List.set] at S1_2
 refine lO0 rfl ⟨⟩ (o_build bld_56 (vs := [(0, .int .i64 _), (1, .int .i64 _)]) (cs := [_, _, _, _]) rfl rfl rfl rfl ?_)
 refine lO S1_2.k [.w 0] rfl ⟨⟨rfl,by rfl⟩,⟨⟩⟩ (o_buildSlice S1_2 slz_54 (vs := [.agg _, .agg _]) (cs := [_, _, _, _, _, _, _, _]) (by rfl) rfl rfl rfl rfl rfl rfl ?_)
 intro g9 w9 S9 X9 G9
 refine o_build bld_56 (vs := [(0, .int .i64 _), (1, .int .i64 _), (3, .slice _ _ _)]) (cs := [_, _, _, _]) rfl rfl rfl rfl ?_
 refine o_alloc S9 zv_56 rfl rfl ?_
 intro g2 w2 S2 X2 G2
 first | refine o_storeN (kk := 0) (vs := [_, _, _, _]) S2 sz_56 rfl rfl rfl rfl rfl rfl rfl ?_
 intro w2_5 S2_5 X2_5
 dsimp only [setsAt, List.set] at S2_5
 refine lC0 rfl ⟨⟩ (W_flowC fmx [0, 1, 2, 3, 4] 5 (by kernel_rfl) (by kernel_rfl) (Cl _ _ _ _) (Cl.start S2_5) (fun i => if i = 1 then some (62, #[.int .i64 1], .agg #[.int .i64 1, .int .i64 2, .int .i64 1, .slice none 0 0]) else none) ?_ _ rfl ?_)
 ·intro i f a v hi
  by_cases hi1 : i = 1
  ·subst hi1; cases hi; exact fun w hC => (num33_fn _).mono fun u w' hr => ⟨hr.1, hC.later hr.2⟩
  ·simp only [hi1, if_false] at hi; cases hi
 refine FL_q rfl rfl ?_
 refine q_loadN many_56 rfl (fun w1 hw => hw.1.cells 2 rfl) rfl rfl ?_
 refine QL_nil ?_
 refine FL_call has_62 rfl rfl rfl rfl rfl ?_
 refine FL_slice rfl rfl rfl slz_54 (vs := [.agg _, .agg _]) (cs := [_, _, _, _, _, _, _, _]) (by rfl) rfl rfl rfl rfl rfl ?_
 intro g13 G13 ng13
 refine FL_q rfl rfl ?_
 refine q_build bld_56 (vs := [(0, .int .i64 _), (1, .int .i64 _), (3, .slice _ _ _)]) (cs := [_, _, _, _]) rfl rfl rfl rfl ?_
 refine QL_nil ?_
 refine FL_alloc rfl rfl rfl zv_56 rfl ?_
 intro g3 G3 ng3
 refine FL_nil ?_
 rintro wR3 ⟨SR3, _⟩ ⟨⟨-, hg13⟩, hg3⟩
 clear ng13
 replace SR3 := SR3.push_new S2_5 hg13 G13
 replace SR3 := SR3.push_more (L1 := [_]) S2_5 hg3 G3 (by simpa [eq_comm] using ng3)
 first | refine o_storeN (kk := 0) (vs := [_, _, _, _]) SR3 sz_56 rfl rfl rfl rfl rfl rfl rfl ?_
 intro w3_5 S3_5 X3_5
 dsimp only [setsAt, List.set] at S3_5
 refine WL_nil ⟨rfl, ?_⟩
 refine fC0 rfl ⟨⟩ (W_flowC fmx [0, 1, 2, 3, 4] 5 (by kernel_rfl) (by kernel_rfl) (Cl _ _ _ _) (Cl.start S3_5) (fun i => if i = 1 then some (62, #[.int .i64 1], .agg #[.int .i64 1, .int .i64 2, .int .i64 1, .slice none 0 0]) else none) ?_ _ rfl ?_)
 ·intro i f a v hi
  by_cases hi1 : i = 1
  ·subst hi1; cases hi; exact fun w hC => (num33_fn _).mono fun u w' hr => ⟨hr.1, hC.later hr.2⟩
  ·simp only [hi1, if_false] at hi; cases hi
 refine FL_q rfl rfl ?_
 refine q_loadN many_56 rfl (fun w1 hw => hw.1.cells 4 rfl) rfl rfl ?_
 refine QL_nil ?_
 refine FL_call has_62 rfl rfl rfl rfl rfl ?_
 refine FL_slice rfl rfl rfl slz_54 (vs := [.agg _, .agg _]) (cs := [_, _, _, _, _, _, _, _]) (by rfl) rfl rfl rfl rfl rfl ?_
 intro g17 G17 ng17
 refine FL_q rfl rfl ?_
 refine q_build bld_56 (vs := [(0, .int .i64 _), (1, .int .i64 _), (3, .slice _ _ _)]) (cs := [_, _, _, _]) rfl rfl rfl rfl ?_
 refine QL_nil ?_
 refine FL_alloc rfl rfl rfl zv_56 rfl ?_
 intro g4 G4 ng4
 refine FL_nil ?_
 rintro wR4 ⟨SR4, _⟩ ⟨⟨-, hg17⟩, hg4⟩
 clear ng17
 replace SR4 := SR4.push_new S3_5 hg17 G17
 replace SR4 := SR4.push_more (L1 := [_]) S3_5 hg4 G4 (by simpa [eq_comm] using ng4)
 first | refine o_storeN (kk := 0) (vs := [_, _, _, _]) SR4 sz_56 rfl rfl rfl rfl rfl rfl rfl ?_
 intro w4_5 S4_5 X4_5
 dsimp only [setsAt, List.set] at S4_5
 refine WL_nil ⟨rfl, ?_⟩
 refine fC0 rfl ⟨⟩ (W_flowC fmx [0, 1, 2, 3, 4, 5, 6, 7, 8, 9, 10, 11] 12 (by kernel_rfl) (by kernel_rfl) (Cl _ _ _ _) (Cl.start S4_5) (fun i => if i = 0 then some (48, #[], .agg #[.int .i64 1, .int .i64 1, .int .i64 1, .slice none 0 0]) else if i = 4 then some (48, #[], .agg #[.int .i64 1, .int .i64 1, .int .i64 1, .slice none 0 0]) else none) ?_ _ rfl ?_)
 ·intro i f a v hi
  by_cases hi0 : i = 0
  ·subst hi0; cases hi; exact fun w hC => (one33_fn _).mono fun u w' hr => ⟨hr.1, hC.later hr.2⟩
  by_cases hi4 : i = 4
  ·subst hi4; cases hi; exact fun w hC => (one33_fn _).mono fun u w' hr => ⟨hr.1, hC.later hr.2⟩
  ·simp only [hi0, hi4, if_false] at hi; cases hi
 refine FL_call has_48 rfl rfl rfl rfl rfl ?_
 refine FL_q rfl rfl ?_
 refine q_loadN many_56 rfl (fun w1 hw => hw.1.cells 0 rfl) rfl rfl ?_
 refine QL_nil ?_
 refine FL_slice rfl rfl rfl slz_54 (vs := [.agg _, .agg _]) (cs := [_, _, _, _, _, _, _, _]) (by rfl) rfl rfl rfl rfl rfl ?_
 intro g21 G21 ng21
 refine FL_slice rfl rfl rfl slz_49 (vs := [.int .i64 _, .int .i64 _]) (cs := [_, _]) (by rfl) rfl rfl rfl rfl rfl ?_
 intro g22 G22 ng22
 refine FL_call has_48 rfl rfl rfl rfl rfl ?_
 refine FL_q rfl rfl ?_
 refine q_loadN many_56 rfl (fun w1 hw => hw.1.cells 2 rfl) rfl rfl ?_
 refine QL_nil ?_
 refine FL_q rfl rfl ?_
 refine q_build bld_98 (vs := [(1, .agg _)]) (cs := [_, _, _, _, _]) rfl rfl rfl rfl ?_
 refine QL_nil ?_
 refine FL_slice rfl rfl rfl slz_86 (vs := [.agg _]) (cs := [_, _, _, _, _]) (by rfl) rfl rfl rfl rfl rfl ?_
 intro g26 G26 ng26
 refine FL_q rfl rfl ?_
 refine q_build bld_88 (vs := [(0, .int .i64 _), (2, .int .i64 _), (3, .agg _), (4, .slice _ _ _)]) (cs := [_, _, _, _, _, _, _, _, _, _, _]) rfl rfl rfl rfl ?_
 refine QL_nil ?_
 refine FL_slice rfl rfl rfl slz_57 (vs := [.agg _]) (cs := [_, _, _, _, _, _, _, _, _, _, _]) (by rfl) rfl rfl rfl rfl rfl ?_
 intro g28 G28 ng28
 refine FL_q rfl rfl ?_
 refine q_build bld_60 (vs := [(0, .string _), (1, .int .i64 _), (2, .slice _ _ _), (3, .slice _ _ _), (4, .slice _ _ _)]) (cs := [_, _, _, _, _, _, _]) rfl rfl rfl rfl ?_
 refine QL_nil ?_
 refine FL_alloc rfl rfl rfl zv_60 rfl ?_
 intro g5 G5 ng5
 refine FL_nil ?_
 rintro wR5 ⟨SR5, _⟩ ⟨⟨⟨⟨⟨-, hg21⟩, hg22⟩, hg26⟩, hg28⟩, hg5⟩
 clear ng21
 replace SR5 := SR5.push_new S4_5 hg21 G21
 replace SR5 := SR5.push_more (L1 := [_]) S4_5 hg22 G22 (by simpa [eq_comm] using ng22)
 replace SR5 := SR5.push_more (L1 := [_, _]) S4_5 hg26 G26 (by simpa [eq_comm] using ng26)
 replace SR5 := SR5.push_more (L1 := [_, _, _]) S4_5 hg28 G28 (by simpa [eq_comm] using ng28)
 replace SR5 := SR5.push_more (L1 := [_, _, _, _]) S4_5 hg5 G5 (by simpa [eq_comm] using ng5)
 first | refine o_storeN (kk := 0) (vs := [_, _, _, _, _, _, _]) SR5 sz_60 rfl rfl rfl rfl rfl rfl rfl ?_
 intro w5_12 S5_12 X5_12
 dsimp only [setsAt, List.set] at S5_12
 refine WL_nil ⟨rfl, ?_⟩
 refine fC0 rfl ⟨⟩ (W_flowC fmx [0, 1, 2, 3, 4, 5, 6, 7, 8, 9] 10 (by kernel_rfl) (by kernel_rfl) (Cl _ _ _ _) (Cl.start S5_12) (fun i => if i = 2 then some (48, #[], .agg #[.int .i64 1, .int .i64 1, .int .i64 1, .slice none 0 0]) else none) ?_ _ rfl ?_)
 ·intro i f a v hi
  by_cases hi2 : i = 2
  ·subst hi2; cases hi; exact fun w hC => (one33_fn _).mono fun u w' hr => ⟨hr.1, hC.later hr.2⟩
  ·simp only [hi2, if_false] at hi; cases hi
 refine FL_q rfl rfl ?_
 refine q_build bld_96 (vs := [(0, .string _), (1, .int .i64 _), (2, .int .i64 _), (3, .int .i64 _)]) (cs := [_, _, _, _, _, _]) rfl rfl rfl rfl ?_
 refine QL_nil ?_
 refine FL_slice rfl rfl rfl slz_22 (vs := [.agg _]) (cs := [_, _, _, _, _, _]) (by rfl) rfl rfl rfl rfl rfl ?_
 intro g31 G31 ng31
 refine FL_call has_48 rfl rfl rfl rfl rfl ?_
 refine FL_q rfl rfl ?_
 refine q_loadN many_56 rfl (fun w1 hw => hw.1.cells 9 rfl) rfl rfl ?_
 refine QL_nil ?_
 refine FL_slice rfl rfl rfl slz_49 (vs := [.int .i64 _]) (cs := [_]) (by rfl) rfl rfl rfl rfl rfl ?_
 intro g34 G34 ng34
 refine FL_q rfl rfl ?_
 refine q_build bld_75 (vs := [(0, .string _), (1, .string _), (2, .agg _), (3, .agg _), (4, .slice _ _ _)]) (cs := [_, _, _, _, _, _, _, _, _, _, _]) rfl rfl rfl rfl ?_
 refine QL_nil ?_
 refine FL_slice rfl rfl rfl slz_23 (vs := [.agg _]) (cs := [_, _, _, _, _, _, _, _, _, _, _]) (by rfl) rfl rfl rfl rfl rfl ?_
 intro g36 G36 ng36
 refine FL_q rfl rfl ?_
 refine q_loadN many_60 rfl (fun w1 hw => hw.1.cells 0 rfl) rfl rfl ?_
 refine QL_nil ?_
 refine FL_slice rfl rfl rfl slz_25 (vs := [.agg _]) (cs := [_, _, _, _, _, _, _]) (by rfl) rfl rfl rfl rfl rfl ?_
 intro g38 G38 ng38
 refine FL_q rfl rfl ?_
 refine q_build bld_27 (vs := [(0, .slice _ _ _), (1, .slice _ _ _), (3, .slice _ _ _)]) (cs := [_, _, _, _]) rfl rfl rfl rfl ?_
 refine QL_nil ?_
 refine FL_nil ?_
 rintro wR6 ⟨SR6, _⟩ ⟨⟨⟨⟨-, hg31⟩, hg34⟩, hg36⟩, hg38⟩
 clear ng31
 replace SR6 := SR6.push_new S5_12 hg31 G31
 replace SR6 := SR6.push_more (L1 := [_]) S5_12 hg34 G34 (by simpa [eq_comm] using ng34)
 replace SR6 := SR6.push_more (L1 := [_, _]) S5_12 hg36 G36 (by simpa [eq_comm] using ng36)
 replace SR6 := SR6.push_more (L1 := [_, _, _]) S5_12 hg38 G38 (by simpa [eq_comm] using ng38)
 first | refine o_storeN (kk := 16) (vs := [_, _, _, _]) SR6 sz_27 rfl rfl rfl rfl rfl rfl rfl ?_
 intro w6_10 S6_10 X6_10
 dsimp only [setsAt, List.set] at S6_10
 refine WL_nil ⟨rfl, ?_⟩
 refine fR0 rfl ⟨⟩ ?_
 have SF := S6_10
 have i0 : i64 0 := by unfold i64; omega
 have i1 : i64 1 := by unfold i64; omega
 have i2 : i64 2 := by unfold i64; omega
 have i3 : i64 3 := by unfold i64; omega
 have i4 : i64 4 := by unfold i64; omega
 have i9 : i64 9 := by unfold i64; omega
 have i11 : i64 11 := by unfold i64; omega
 have i13 : i64 13 := by unfold i64; omega
 have im : i64 (-1) := by unfold i64; omega
 have hone : RdE [] w6_10 eOne33 [.int .i64 1, .int .i64 1, .int .i64 1, .slice none 0 0] := rdE_leaf i1 i1 i1
 have hnum : RdE [] w6_10 eN33 [.int .i64 1, .int .i64 2, .int .i64 1, .slice none 0 0] := rdE_leaf i1 i2 i1
 have hx : RdE [] w6_10 eX33 [.int .i64 2, .int .i64 2, .int .i64 0, .slice none 0 0] := rdE_leaf i2 i2 i0
 have hold : RdE [] w6_10 ⟨3, 2, 0, []⟩ [.int .i64 3, .int .i64 2, .int .i64 0, .slice none 0 0] := rdE_leaf i3 i2 i0
 have hguar : RdE [] w6_10 eGuar33 [.int .i64 13, .int .i64 1, .int .i64 0, .slice (some ⟨g9, 0, none⟩) 2 2] := rdE_two i13 i1 (by simp) (SF.cells 14 rfl) hold hx
 have hless : RdE [] w6_10 eLess33 [.int .i64 9, .int .i64 2, .int .i64 0, .slice (some ⟨g13, 0, none⟩) 2 2] := rdE_two i9 i2 (by simp) (SF.cells 12 rfl) hx hnum
 have his : RdE [] w6_10 eIs33 [.int .i64 11, .int .i64 1, .int .i64 0, .slice (some ⟨g17, 0, none⟩) 2 2] := rdE_two i11 i1 (by simp) (SF.cells 10 rfl) hx hnum
 have hset : RdAs [] w6_10 (.slice (some ⟨g26, 0, none⟩) 1 1) [⟨0, eLess33⟩] := rdS_1 (by simp) (SF.cells 6 rfl) rfl ⟨_, rfl, i0, hless⟩
 have hst : RdSt [] w6_10 (.slice (some ⟨g28, 0, none⟩) 1 1) [⟨4, 0, 1, eOne33, [⟨0, eLess33⟩], false, 0, 0⟩] := rdS_1 (by simp) (SF.cells 5 rfl) rfl ⟨_, _, _, _, _, rfl, i4, i0, i1, i0, i0, hone, hset⟩
 have has : RdEs [] w6_10 (.slice (some ⟨g21, 0, none⟩) 2 2) [eOne33, eIs33] := rdS_2 (c := [_, _, _, _]) (c2 := [_, _, _, _]) (by simp) (SF.cells 8 rfl) rfl rfl hone his
 have hmo : RdI [] w6_10 (.slice (some ⟨g22, 0, none⟩) 2 2) [0, 0] := rdI_own SF (k := 7) rfl (by simp) rfl (by omega) (by simp [i0])
 have hfr : RdI [] w6_10 (.slice (some ⟨g34, 0, none⟩) 1 1) [0] := rdI_own SF (k := 2) rfl (by simp) rfl (by omega) (by simp [i0])
 refine ret_cell1 rfl many_27 rfl (SF.cells 16 rfl) rfl ⟨⟨_, rfl, _, _, _, _, rfl, ?_, ?_, rdS_nil, ?_⟩, SF.fin⟩
 ·exact rdS_1 (by simp) (SF.cells 3 rfl) rfl ⟨rfl, i2, i1, im, i0⟩
 ·exact rdS_1 (by simp) (SF.cells 1 rfl) rfl ⟨_, _, _, _, _, _, _, _, _, rfl, hone, hguar, hfr⟩
 ·exact rdS_1 (by simp) (SF.cells 0 rfl) rfl ⟨_, _, _, _, rfl, i2, has, hmo, hst, rdS_nil⟩
end Go.Proofs.YtjjmdcnmeommbaaGreatDoor
namespace Go.Fw
open Go.RowKit
section
variable {P : Program} {r : Option Nat} {N : Nat} {ops : Array Oper} {rest : List Oper} {C : World → Prop} {KQ : Env → Prop} {K : List Deferred → Env → World → Prop} {D : List Deferred} {e : Env} {w : World} {d : Nat} {t : TypeId} {p : String} {af : Array Edge} {x y : Operand} {yt : TypeId}
def vioV (v : VioD) : Value := .agg #[.int .i64 v.at_, .int .i64 v.kind, .int .i64 v.module_, .int .i64 v.thread, .int .i64 v.item]
def EqVio (P : Program) (ty : TypeId) : Prop := P.eqGuardType P.depth ty = false ∧ ∀ (w : World) (a b : VioD), (binOp .eql ty (vioV a) (vioV b)).run P w = .ok (.bool (decide (a = b))) w
theorem EqVio.neq {ty : TypeId} (hE : EqVio P ty) (w : World) (a b : VioD) : (binOp .neq ty (vioV a) (vioV b)).run P w = .ok (.bool (!decide (a = b))) w := by
 have := hE.2 w a b
 unfold vioV at this ⊢
 rw [run_eql_struct] at this
 rw [run_neq_struct]
 revert this
 generalize (Op.equalIn 10000 ty _ _).run P w = res
 intro this
 cases res with
 | ok z w' => simp only [Result.andThen_ok] at this ⊢; cases this; rfl
 | halt z w' => simp [Result.andThen] at this
theorem EqVio.guard {ty : TypeId} (hE : EqVio P ty) (w : World) (op : BinOp) (x y : Operand) (a b : VioD) : (eqGuard op ty x y (vioV a) (vioV b)).run P w = .ok () w := run_eqGuard_agg w _ _ _ _ _ _ hE.1
theorem q_eqlV {ty : TypeId} {a b : VioD} (hE : EqVio P ty) (hx : ev e x = vioV a) (hy : ev e y = vioV b) (hd : Nat.ble (d + 1) N = true)
 (h1 : a = b → QL P N ops C rest KQ (upd e d (.bool true))) (h2 : a ≠ b → QL P N ops C rest KQ (upd e d (.bool false))) :
 QL P N ops C (⟨some d, .binOp .eql ty x y yt, t, p, af, none⟩ :: rest) KQ e := by
 by_cases hh : a = b
 ·exact QL_val rfl rfl hd (fun w _ => by simp only [execOp, hx, hy, Sem.run_bind, hE.guard, Result.andThen_ok, hE.2, Sem.run_pure, decide_eq_true hh]) (h1 hh)
 ·exact QL_val rfl rfl hd (fun w _ => by simp only [execOp, hx, hy, Sem.run_bind, hE.guard, Result.andThen_ok, hE.2, Sem.run_pure, decide_eq_false hh]) (h2 hh)
theorem q_neqV {ty : TypeId} {a b : VioD} (hE : EqVio P ty) (hx : ev e x = vioV a) (hy : ev e y = vioV b) (hd : Nat.ble (d + 1) N = true)
 (h1 : a ≠ b → QL P N ops C rest KQ (upd e d (.bool true))) (h2 : a = b → QL P N ops C rest KQ (upd e d (.bool false))) :
 QL P N ops C (⟨some d, .binOp .neq ty x y yt, t, p, af, none⟩ :: rest) KQ e := by
 by_cases hh : a = b
 ·exact QL_val rfl rfl hd (fun w _ => by simp only [execOp, hx, hy, Sem.run_bind, hE.guard, Result.andThen_ok, hE.neq, Sem.run_pure, decide_eq_true hh]; rfl) (h2 hh)
 ·exact QL_val rfl rfl hd (fun w _ => by simp only [execOp, hx, hy, Sem.run_bind, hE.guard, Result.andThen_ok, hE.neq, Sem.run_pure, decide_eq_false hh]; rfl) (h1 hh)
end
end Go.Fw
namespace Go.Proofs.YtjjmdcnmeommbaaGreatDoor
open Go.Fw Go.RowKit
theorem eq_vio : EqVio Tryz.prog 36 := by
 refine ⟨Tryz.eqGuardType36, fun w a b => ?_⟩
 have ht : Tryz.prog.underlying 36 = some (.struct (Tryz.prog.fieldsOf 36)) := by unfold Program.fieldsOf; rw [Tryz.underlying36]
 have hag : ∀ w, (isAgg 3).run Tryz.prog w = .ok false w := fun w => by simp [isAgg, run_underlying Tryz.underlying3]
 obtain ⟨a1, a2, a3, a4, a5⟩ := a
 obtain ⟨b1, b2, b3, b4, b5⟩ := b
 unfold vioV
 rw [run_eql_struct, run_equalIn_struct w 9999 _ _ _ ht Tryz.stoodInHeld36]
 unfold Program.fieldsOf
 rw [Tryz.underlying36]
 by_cases h1 : a1 = b1 <;> by_cases h2 : a2 = b2 <;> by_cases h3 : a3 = b3 <;> by_cases h4 : a4 = b4 <;> by_cases h5 : a5 = b5 <;> simp [Op.eqFields, part, hag, run_equalIn_int _ 9998 _ .i64 .i64 _ _ Tryz.underlying3, h1, h2, h3, h4, h5]
theorem sameVio_fn (a b : List VioD) (M : List Nat) (w0 : World) (va vb : Value) (hA : RdVs M w0 va a) (hB : RdVs M w0 vb b) :
 Does Tryz.prog 16 #[va, vb] w0 fun v w' => v = .bool (decide (a = b)) ∧ Below w0.heap.size w0 w' := by
 obtain ⟨Aa, na, ca, rfl⟩ := hA.form
 obtain ⟨_, -, _⟩ := hA.len
 obtain ⟨Ab, nb, cb, rfl⟩ := hB.form
 obtain ⟨_, -, _⟩ := hB.len
 have S := St.refl w0
 refine dnR Tryz.func16 rfl Tryz.ntmps16 rfl ?_
 refine wB0 rfl ⟨⟩ (fun h10 => ?_) fun h10 => ?_
 ·refine lR0 rfl ⟨⟩ (ret_1 rfl (by conv => lhs; whnf) ?_)
  exact ⟨by rw [decide_eq_false (ne_len (by omega))], S.fin⟩
 refine lC0 rfl ⟨⟩ (wL (fun μk D ε w => D = [] ∧ ∃ k : Nat, (k + μk = (a.length)) ∧ (EqTo a b k) ∧ St [] w0 w [] ∧ Sl ε [(0, .slice Aa na ca), (1, .slice Ab nb cb), (5, .int .i64 k)]) (μ := (a.length)) ⟨rfl, 0, by omega, EqTo.zero, S, rfl⟩ ?_)
 rintro μk D ε w ⟨rfl, k, _, he, S, eZ⟩
 refine wK eZ (wB0 rfl ⟨⟩ (fun h14 => ?_) fun h14 => ?_)
 ·refine lC0 rfl ⟨⟩ (W_draw fmx [0, 1, 2, 3, 4, 5, 6, 7, 8] [] [] (by kernel_rfl) rfl (Cl _ _ _ _) (Cl.start S) ?_)
  obtain ⟨x, b19, p19, _, hxx, hA19, _, hl19, hc19, hr19⟩ := RdS.get (hA) (k) (by omega)
  obtain ⟨rfl, -, -, -, -, -⟩ := hr19
  obtain ⟨y, b23, p23, _, hxy, hA23, _, hl23, hc23, hr23⟩ := RdS.get (hB) (k) (by omega)
  obtain ⟨rfl, -, -, -, -, -⟩ := hr23
  refine qOn 8 ((S.q.a hc23).a hc19) [.x b19 p19,.v 0,.x b23 p23,.v 1] rfl ⟨⟨rfl,hl23⟩,⟨hA23,by omega⟩,⟨rfl,hl19⟩,⟨hA19,by omega⟩,⟨⟩⟩ (q_neqV eq_vio (a := x) (b := y) rfl rfl rfl (fun h25 => ?_) fun h25 => ?_)
  ·refine qD rfl ⟨⟩ ?_
   rintro wR6 ⟨SR6, XR6⟩
   refine lR0 rfl ⟨⟩ (ret_1 rfl (by conv => lhs; whnf) ?_)
   exact ⟨by rw [decide_eq_false (ne_at hxx hxy (fun e => h25 e))], SR6.fin⟩
  refine qD rfl ⟨⟩ ?_
  rintro wR6 ⟨SR6, XR6⟩
  refine lP0 rfl ⟨by omega,⟨⟩⟩ ⟨μk - 1, by omega, rfl, (k + 1), (by omega), (he.succ hxx hxy h25), SR6, rfl⟩
 refine lR0 rfl ⟨⟩ (ret_1 rfl (by conv => lhs; whnf) ?_)
 exact ⟨by rw [decide_eq_true (he.all (by omega) (by omega))], S.fin⟩
end Go.Proofs.YtjjmdcnmeommbaaGreatDoor
namespace Go.Proofs.YtjjmdcnmeommbaaGreatDoor
open Go.Fw Go.RowKit
theorem shaped33_fn (p : ProgD) (l : List ConfD) (hg : ∀ c ∈ l, FitC p c) (M : List Nat) (w0 : World) (cs : List Value) (vl : Value) (hI : InP p M w0 cs) (hL : RdCf M w0 vl l) :
 Does Tryz.prog 18 #[.agg cs.toArray, vl] w0 fun v w' => v = .bool true ∧ Below w0.heap.size w0 w' := by
 obtain ⟨Ac, nc, cc, Am, nm, cm, Al, nl, cl, At, nt, ct, rfl, _, _, _, hTh, _, _, _, _, _, _, _, _⟩ := hI.rd.open_
 obtain ⟨Ax, nx, cx, rfl⟩ := hL.form
 obtain ⟨_, _, _⟩ := hL.len
 have S := St.refl w0
 refine dnR Tryz.func18 rfl Tryz.ntmps18 rfl ?_
 refine wO0 rfl ⟨⟩ (o_boxa S (by conv => lhs; whnf) rfl ?_)
 intro g2 w2 S2 X2 G2
 refine lC0 rfl ⟨⟩ (wL (fun μi D ε w => D = [] ∧ ∃ i : Nat, (i + μi = (l.length)) ∧ St [] w0 w [(some g2, 27, [.slice Ac nc cc, .slice Am nm cm, .slice Al nl cl, .slice At nt ct])] ∧ Sl ε [(1, .slice Ax nx cx), (2, .pointer (some ⟨g2, 0, none⟩)), (5, .int .i64 i)]) (μ := (l.length)) ⟨rfl, 0, by omega, S2, rfl⟩ ?_)
 rintro μi D ε w ⟨rfl, i, _, S, eZ⟩
 refine wK eZ (wB0 rfl ⟨⟩ (fun h10 => ?_) fun h10 => ?_)
 ·refine lC0 rfl ⟨⟩ (W_draw fmx [0, 1, 2, 3, 4, 5, 6, 7, 8, 9, 10, 11, 12, 13, 14, 15, 16, 17, 18, 19, 20, 21] [] [] (by kernel_rfl) rfl (Cl _ _ _ _) (Cl.start S) ?_)
  obtain ⟨c, b15, p15, _, hxc, hA15, _, _, hc15, hr15⟩ := RdS.get (hL) (i) (by omega)
  obtain ⟨_, _, _, _, _, _, _, _, _, rfl, _, _, _, _, _, _, _, _, _⟩ := RdConf.open_ hr15
  have hf := hg c (List.mem_of_getElem? hxc)
  have hfm := hf.mem.len
  have hfa := hf.nat
  refine qB (S.q.a hc15) [.x b15 p15,.f 0 0,.o 0] rfl ⟨rfl,rfl,⟨hA15,by omega⟩,⟨⟩⟩ (fun h22 => by exfalso; omega) fun h22 => ?_
  obtain ⟨_, b26, p26, _, hx26, hA26, _, _, hc26, hr26⟩ := RdS.get (hL) (i) (by omega)
  obtain rfl := Option.some.inj (hxc.symm.trans hx26)
  obtain ⟨_, _, _, _, _, _, _, _, _, rfl, _, _, _, _, _, _, _, _, _⟩ := RdConf.open_ hr26
  refine qB (S.q.a hc26) [.x b26 p26,.f 0 1,.o 0] rfl ⟨rfl,rfl,⟨hA26,by omega⟩,⟨⟩⟩ (fun h33 => by exfalso; omega) fun h33 => ?_
  refine qD rfl ⟨⟩ ?_
  rintro wR4 ⟨SR4, _⟩
  refine lC0 rfl ⟨⟩ (wL (fun μt D ε w => D = [] ∧ ∃ t : Nat, (t + μt = (p.threads.length)) ∧ St [] w0 w [(some g2, 27, [.slice Ac nc cc, .slice Am nm cm, .slice Al nl cl, .slice At nt ct])] ∧ Sl ε [(1, .slice Ax nx cx), (2, .pointer (some ⟨g2, 0, none⟩)), (5, .int .i64 i), (6, .int .i64 t)]) (μ := (p.threads.length)) ⟨rfl, 0, by omega, SR4, rfl⟩ ?_)
  rintro μt D ε w ⟨rfl, t, _, S, eZ⟩
  refine wK eZ (wB S.k [.o 0] rfl ⟨rfl,⟨⟩⟩ (fun h39 => ?_) fun h39 => ?_)
  ·refine lC0 rfl ⟨⟩ (W_draw fmx [0, 1, 2, 3, 4, 5, 6, 7, 8, 9, 10, 11, 12, 13, 14, 15, 16, 17, 18, 19, 20, 21, 22, 23, 24, 25] [] [] (by kernel_rfl) rfl (Cl _ _ _ _) (Cl.start S) ?_)
   obtain ⟨c, b44, p44, _, hxc, hA44, _, _, hc44, hr44⟩ := RdS.get (hL) (i) (by omega)
   obtain ⟨_, _, _, _, _, _, _, _, _, rfl, _, hAt44, _, _, _, _, _, _, _⟩ := RdConf.open_ hr44
   have hf := hg c (List.mem_of_getElem? hxc)
   have hfa := hf.nat
   obtain ⟨x, b48, p48, _, hxx, hA48, _, _, hc48, hr48⟩ := RdS.get (hAt44) (t) (by omega)
   obtain ⟨rfl, _⟩ := id hr48
   have hx0 := hf.atr t x hxx _ (List.getElem?_eq_getElem (by omega))
   refine qB ((S.q.a hc48).a hc44) [.x b44 p44,.f 0 1,.x b48 p48,.f 1 0] rfl ⟨rfl,⟨hA48,by omega⟩,rfl,⟨hA44,by omega⟩,⟨⟩⟩ (fun h50 => by exfalso; omega) fun h50 => ?_
   obtain ⟨_, b54, p54, _, hx54, hA54, _, _, hc54, hr54⟩ := RdS.get (hL) (i) (by omega)
   obtain rfl := Option.some.inj (hxc.symm.trans hx54)
   obtain ⟨_, _, _, _, _, _, _, _, _, rfl, _, hAt54, _, _, _, _, _, _, _⟩ := RdConf.open_ hr54
   obtain ⟨_, b58, p58, _, hx58, hA58, _, _, hc58, hr58⟩ := RdS.get (hAt54) (t) (by omega)
   obtain rfl := Option.some.inj (hxx.symm.trans hx58)
   obtain ⟨rfl, _⟩ := id hr58
   obtain ⟨th, b63, p63, _, hxth, hA63, _, _, hc63, hr63⟩ := RdS.get (hTh) (t) (by omega)
   obtain ⟨_, _, _, _, _, _, _, _, _, _, _, _, rfl, _, _, _, _, _, _, _, _, _, _, _, _, _⟩ := RThread.open_ hr63
   have hx := hf.atr t x hxx th hxth
   refine qB (((S.q.a hc63).a hc58).a hc54) [.x b54 p54,.f 0 1,.x b58 p58,.f 1 0,.o 0,.x b63 p63,.f 2 1] rfl ⟨rfl,⟨hA63,by omega⟩,rfl,rfl,⟨hA58,by omega⟩,rfl,⟨hA54,by omega⟩,⟨⟩⟩ (fun h66 => by exfalso; omega) fun h66 => ?_
   refine qD rfl ⟨⟩ ?_
   rintro wR9 ⟨SR9, _⟩
   refine lP0 rfl ⟨by omega,⟨⟩⟩ ⟨μt - 1, by omega, rfl, (t + 1), (by omega), SR9, rfl⟩
  refine lP0 rfl ⟨by omega,⟨⟩⟩ ⟨μi - 1, by omega, rfl, (i + 1), (by omega), S, rfl⟩
 exact lT rfl ⟨⟩ rfl ⟨rfl, S.fin⟩
end Go.Proofs.YtjjmdcnmeommbaaGreatDoor
namespace Go.Fw
open Go.RowKit
def runW : List ChoiceD := [⟨0, 0, 0⟩]
def badW : List VioD := [⟨0, 3, 0, 0, 0⟩, ⟨0, 1, 0, 0, 1⟩]
theorem watch_down : decide (watchV downP 0 runW = badW) = true := by kernel_rfl
theorem err_down : decide (errC downP 0 runW = 0) = true := by kernel_rfl
theorem watch_none : decide (watchV downP 0 [] = []) = true := by kernel_rfl
theorem err_none : decide (errC downP 0 [] = 0) = true := by kernel_rfl
end Go.Fw
namespace Go.Proofs.YtjjmdcnmeommbaaGreatDoor
open Go.Fw Go.RowKit
theorem first_down : decide (firstV downP 1 runW = (⟨0, 3, 0, 0, 0⟩, true)) = true := by kernel_rfl
theorem run3_fn (p : ProgD) (M : List Nat) (w0 : World) (cs : List Value) (vr : Value) (hI : InP p M w0 cs) :
 Does Tryz.prog 17 #[.agg cs.toArray, .int .i64 3, vr] w0 fun v w' => v = .tuple #[.slice none 0 0, .int .i64 1, .int .i64 0] ∧ Below w0.heap.size w0 w' := by
 obtain ⟨_, _, _, _, _, _, _, _, _, _, _, _, rfl, _, _, _, _, _, _, _, _, _, _, _, _⟩ := hI.rd.open_
 have hp := hI.ok
 have S := St.refl w0
 refine Does_enterL Tryz.func17 rfl Tryz.ntmps17 rfl ?_
 refine W_seq ?_
 refine W_region ?_
 refine o_boxa S (by conv => lhs; whnf) rfl ?_
 intro g3 w3 S3 X3 G3
 refine o_alloc S3 zv_39 rfl rfl ?_
 intro g6 w6 S6 X6 G6
 refine o_alloc S6 zv_32 rfl rfl ?_
 intro g7 w7 S7 X7 G7
 refine o_alloc S7 zv_3 rfl rfl ?_
 intro g8 w8 S8 X8 G8
 refine WL_nil ?_
 refine W_seq ?_
 refine W_seq ?_
 refine W_region ?_
 refine o_loadN many_27 rfl (S8.cells 3 rfl) rfl rfl ?_
 refine o_callr S8 has_42 rfl rfl (validP_fn p M _ _ (hI.keep (S8.keep0 M)).rd hI.ok (hI.keep (S8.keep0 M)).msk (hI.keep (S8.keep0 M)).lt) ?_
 intro w17 S17 X17
 refine o_move (by conv => lhs; whnf) rfl ?_
 refine o_extract rfl rfl rfl ?_
 refine o_extract rfl rfl rfl ?_
 refine o_extract rfl rfl rfl ?_
 refine o_assign (v := .int .i64 _) rfl rfl ?_
 refine o_assign (v := .int .i64 _) rfl rfl ?_
 refine o_assign (v := .int .i64 _) rfl rfl ?_
 refine WL_nil ?_
 refine W_seq ?_
 refine W_region ?_
 refine o_move (v := .int .i64 _) rfl rfl ?_
 refine o_neq rfl rfl rfl (fun h22 => ?_) fun h22 => ?_
 ·exfalso; omega
 refine WL_nil ?_
 refine W_else rfl ?_
 refine W_skip ?_
 refine W_seq ?_
 refine W_seq ?_
 refine W_region ?_
 refine o_move (v := .int .i64 _) rfl rfl ?_
 refine o_neq rfl rfl rfl (fun h24 => ?_) fun h24 => ?_
 ·refine o_move (v := .bool _) rfl rfl ?_
  refine WL_on rfl rfl rfl ?_
  refine o_move (v := .int .i64 _) rfl rfl ?_
  refine WL_on rfl rfl rfl ?_
  refine o_neq rfl rfl rfl (fun h27 => ?_) fun h27 => ?_
  ·refine o_pick rfl (v := .bool _) rfl rfl ?_
   refine o_move (v := .bool _) rfl rfl ?_
   refine WL_on rfl rfl rfl ?_
   refine o_move (v := .int .i64 _) rfl rfl ?_
   refine WL_on rfl rfl rfl ?_
   refine o_neq rfl rfl rfl (fun h31 => ?_) fun h31 => ?_
   ·refine o_pick rfl (v := .bool _) rfl rfl ?_
    refine WL_nil ?_
    refine W_then rfl ?_
    refine W_seq ?_
    refine W_region ?_
    first | refine o_store (kk := 2) S17 sz_39 rfl (by conv => lhs; whnf) rfl rfl (by exact Nat.le_of_ble_eq_true rfl) ?_
    intro w5_0 S5_0 X5_0
    first | refine o_store (kk := 1) S5_0 sz_32 rfl (by conv => lhs; whnf) rfl rfl (by exact Nat.le_of_ble_eq_true rfl) ?_
    intro w5_1 S5_1 X5_1
    first | refine o_store (kk := 0) S5_1 sz_3 rfl (by conv => lhs; whnf) rfl rfl (by exact Nat.le_of_ble_eq_true rfl) ?_
    intro w5_2 S5_2 X5_2
    refine WL_nil ?_
    refine W_ret ?_
    exact retL_cells3 rfl one_39 one_errno one_3 rfl rfl rfl [] rfl List.nodup_nil NC.nil (S5_2.blk 2 rfl) (S5_2.blk 1 rfl) (S5_2.blk 0 rfl) rfl rfl rfl (fun w' hb => ⟨rfl, (S5_2.below.trans hb).nil⟩)
   exfalso; omega
  exfalso; omega
 exfalso; omega
theorem mWatch3_fn (p : ProgD) (M : List Nat) (w0 : World) (cs : List Value) (vr : Value) (hI : InP p M w0 cs) :
 Does Tryz.prog 15 #[.agg cs.toArray, .int .i64 3, vr] w0 fun v w' => v = .tuple #[.slice none 0 0, .int .i64 1] ∧ Below w0.heap.size w0 w' := by
 obtain ⟨_, _, _, _, _, _, _, _, _, _, _, _, rfl, _, _, _, _, _, _, _, _, _, _, _, _⟩ := hI.rd.open_
 have S := St.refl w0
 refine dnR Tryz.func15 rfl Tryz.ntmps15 rfl ?_
 refine wO0 rfl ⟨⟩ (o_boxa S (by conv => lhs; whnf) rfl ?_)
 intro g3 w3 S3 X3 G3
 refine lOn 8 S3.k [.w 0] rfl ⟨⟨rfl,rfl⟩,⟨⟩⟩ (o_move (by conv => lhs; whnf) rfl ?_)
 refine o_callr S3 has_17 rfl rfl (run3_fn p M _ _ _ (hI.keep (S3.keep0 M))) ?_
 intro w15 S15 X15
 refine lB0 rfl ⟨⟩ (fun h20 => ?_) (fun h20 => by exfalso; omega)
 refine lB0 rfl ⟨⟩ (fun h23 => ?_) (fun h23 => by exfalso; omega)
 refine lR0 rfl ⟨⟩ (ret_2 rfl (by conv => lhs; whnf) (by conv => lhs; whnf) ?_)
 exact ⟨rfl, S15.fin⟩
theorem watchDown_fn (w0 : World) (cs : List Value) (vr : Value) (hI : InP downP [] w0 cs) (hRun : RdCh [] w0 vr runW) :
 Does Tryz.prog 15 #[.agg cs.toArray, .int .i64 0, vr] w0 fun v w' => (∃ A n c, v = .tuple #[.slice A n c, .int .i64 0] ∧ RdVs [] w' (.slice A n c) badW) ∧ Below w0.heap.size w0 w' :=
 Does.mono (mWatch_fn downP 0 (.inl rfl) runW [] _ _ _ hI hRun (by decide)) fun v w' ⟨⟨vl, hv, hr⟩, hb⟩ => by
  obtain ⟨A, n, c, rfl⟩ := hr.form
  rw [of_decide_eq_true err_down] at hv
  rw [of_decide_eq_true watch_down] at hr
  exact ⟨⟨A, n, c, hv, hr⟩, hb⟩
theorem watchNone_fn (w0 : World) (cs : List Value) (hI : InP downP [] w0 cs) :
 Does Tryz.prog 15 #[.agg cs.toArray, .int .i64 0, .slice none 0 0] w0 fun v w' => (∃ A c, v = .tuple #[.slice A 0 c, .int .i64 0]) ∧ Below w0.heap.size w0 w' :=
 Does.mono (mWatch_fn downP 0 (.inl rfl) [] [] _ _ _ hI rdS_nil (by decide)) fun v w' ⟨⟨vl, hv, hr⟩, hb⟩ => by
  obtain ⟨A, n, c, rfl⟩ := hr.form
  rw [of_decide_eq_true err_none] at hv
  rw [of_decide_eq_true watch_none] at hr
  have h0 : n = 0 := hr.len.1
  subst h0
  exact ⟨⟨A, c, hv⟩, hb⟩
theorem firstDown_fn (w0 : World) (cs : List Value) (vr : Value) (hI : InP downP [] w0 cs) (hRun : RdCh [] w0 vr runW) :
 Does Tryz.prog 22 #[.agg cs.toArray, .int .i64 1, vr] w0 fun v w' => v = .tuple #[.agg #[.int .i64 0, .int .i64 3, .int .i64 0, .int .i64 0, .int .i64 0], .bool true] ∧ Below w0.heap.size w0 w' :=
 Does.mono (mFirst_fn downP 1 (.inr (.inl rfl)) runW [] _ _ _ hI hRun (by decide)) fun v w' ⟨⟨vs, hv, hr⟩, hb⟩ => by
  rw [of_decide_eq_true first_down] at hv hr
  rw [hr.1] at hv
  exact ⟨hv, hb⟩
theorem head33_fn (w0 : World) (hK : Masks [] w0) :
 Does Tryz.prog 13 #[] w0 fun v w' => v = .bool true ∧ Below w0.heap.size w0 w' := by
 have S := St.refl w0
 have i0 : i64 0 := by unfold i64; omega
 have i1 : i64 1 := by unfold i64; omega
 have i3 : i64 3 := by unfold i64; omega
 refine dnR Tryz.func13 rfl Tryz.ntmps13 rfl ?_
 refine wO0 rfl ⟨⟩ (o_calln S has_37 rfl rfl (down_fn _) ?_)
 rintro v11 w11 ⟨_, rfl, hP⟩ S11 X11
 have KP := Keep.refl [] w11
 refine o_build bld_68 (vs := []) (cs := [_, _, _]) rfl rfl rfl rfl ?_
 refine o_buildSlice S11 slz_28 (vs := [.agg _]) (cs := [_, _, _]) (by rfl) rfl rfl rfl rfl rfl rfl ?_
 intro g13 w13 S13 X13 G13
 replace KP := KP.trans X13
 have hD : RdCh [] w13 (.slice (some ⟨g13, 0, none⟩) 1 1) runW := rdS_1 (by simp) (S13.cells 0 rfl) rfl ⟨rfl, i0, i0, i0⟩
 refine o_calln S13 has_15 rfl rfl (watchDown_fn _ _ _ ⟨hP.keep KP, down_ok, hK.keep (S13.keep0 []), by simp⟩ hD) ?_
 rintro v14 w14 ⟨_, _, _, rfl, hL⟩ S14 X14
 have KL := Keep.refl [] w14
 refine lO0 rfl ⟨⟩ (o_calln S14 has_37 rfl rfl (down_fn _) ?_)
 rintro v18 w18 ⟨_, rfl, hQ⟩ S18 X18
 replace KL := KL.trans X18
 have KQ := Keep.refl [] w18
 refine o_build bld_68 (vs := []) (cs := [_, _, _]) rfl rfl rfl rfl ?_
 refine o_buildSlice S18 slz_28 (vs := [.agg _]) (cs := [_, _, _]) (by rfl) rfl rfl rfl rfl rfl rfl ?_
 intro g20 w20 S20 X20 G20
 replace KL := KL.trans X20
 replace KQ := KQ.trans X20
 have hD2 : RdCh [] w20 (.slice (some ⟨g20, 0, none⟩) 1 1) runW := rdS_1 (by simp) (S20.cells 0 rfl) rfl ⟨rfl, i0, i0, i0⟩
 refine o_callr S20 has_22 rfl rfl (firstDown_fn _ _ _ ⟨hQ.keep KQ, down_ok, hK.keep (S20.keep0 []), by simp⟩ hD2) ?_
 intro w21 S21 X21
 replace KL := KL.trans X21
 refine lO0 rfl ⟨⟩ (o_alloc S21 zv_36 rfl rfl ?_)
 intro g3 w3 S3 X3 G3
 have GKL3 := Nat.le_trans KL.size G3
 replace KL := KL.trans X3
 refine o_storeN (kk := 0) (vs := [_, _, _, _, _]) S3 sz_36 rfl rfl rfl rfl rfl rfl rfl ?_
 intro w2_8 S2_8 X2_8
 dsimp only [setsAt, List.set] at S2_8
 replace KL := KL.fresh X2_8 (by exact GKL3)
 refine lO0 rfl ⟨⟩ (o_calln S2_8 has_37 rfl rfl (down_fn _) ?_)
 rintro v25 w25 ⟨_, rfl, hR⟩ S25 X25
 replace KL := KL.trans X25
 refine o_calln S25 has_15 rfl rfl (watchNone_fn _ _ ⟨hR, down_ok, hK.keep (S25.keep0 []), by simp⟩) ?_
 rintro v26 w26 ⟨_, _, rfl⟩ S26 X26
 replace KL := KL.trans X26
 refine lO0 rfl ⟨⟩ (o_calln S26 has_37 rfl rfl (down_fn _) ?_)
 rintro v30 w30 ⟨cs, rfl, hT⟩ S30 X30
 replace KL := KL.trans X30
 refine o_callr S30 has_15 rfl rfl (mWatch3_fn downP [] _ _ _ ⟨hT, down_ok, hK.keep (S30.keep0 []), by simp⟩) ?_
 intro w31 S31 X31
 replace KL := KL.trans X31
 refine lO0 rfl ⟨⟩ (o_build bld_36 (vs := [(1, .int .i64 _)]) (cs := [_, _, _, _, _]) rfl rfl rfl rfl ?_)
 refine o_build bld_36 (vs := [(1, .int .i64 _), (4, .int .i64 _)]) (cs := [_, _, _, _, _]) rfl rfl rfl rfl ?_
 refine o_buildSlice S31 slz_31 (vs := [.agg _, .agg _]) (cs := [_, _, _, _, _, _, _, _, _, _]) (by rfl) rfl rfl rfl rfl rfl rfl ?_
 intro g36 w36 S36 X36 G36
 replace KL := KL.trans X36
 refine lC0 rfl ⟨⟩ (W_draw fmx [0, 1, 2, 3, 4, 5, 6, 7, 8, 9, 10, 11, 12, 13, 14, 15, 16, 17, 18, 19, 20, 21, 22, 23, 24, 25, 26, 27, 28, 29, 30] [] [] (by kernel_rfl) rfl (Cl _ _ _ _) (Cl.start S36) ?_)
 refine qB0 rfl ⟨⟩ (fun h38 => ?_) (fun h38 => by exfalso; omega)
 refine qO0 rfl ⟨⟩ ?_
 have hB : RdVs [] w36 (.slice (some ⟨g36, 0, none⟩) 2 2) badW := rdS_2 (c := [_, _, _, _, _]) (c2 := [_, _, _, _, _]) (by simp) (S36.cells 0 rfl) rfl rfl ⟨rfl, i0, i3, i0, i0, i0⟩ ⟨rfl, i0, i1, i0, i0, i1⟩
 refine q_callr has_16 rfl rfl (fun w1 S1 X1 => does_true (sameVio_fn badW badW [] _ _ _ (RdS.keepW (RdS.keepW hL KL (fun _ _ h => h)) X1 (fun _ _ h => h)) (RdS.keepW hB X1 (fun _ _ h => h))) (decide_eq_true rfl)) ?_
 refine qOn 2 S36.q [] rfl ⟨⟩ (QL_on rfl rfl ?_)
 refine q_move (v := .bool true) rfl rfl ?_
 refine qO S36.q [.w 1,.i] rfl ⟨by omega,⟨rfl,by rfl⟩,⟨⟩⟩ (q_loadN many_36 rfl (fun w1 hw => Cells.sub (hw.1.cells 0 rfl) 0 5) rfl rfl ?_)
 refine QL_on rfl rfl ?_
 refine q_eqlV eq_vio (a := ⟨0, 3, 0, 0, 0⟩) (b := ⟨0, 3, 0, 0, 0⟩) rfl rfl rfl (fun h52 => ?_) (fun h52 => absurd rfl h52)
 refine qB0 rfl ⟨⟩ (fun h57 => ?_) (fun h57 => by exfalso; omega)
 refine qB0 rfl ⟨⟩ (fun h61 => ?_) (fun h61 => by exfalso; omega)
 refine qB0 rfl ⟨⟩ (fun h65 => ?_) (fun h65 => by exfalso; omega)
 refine qD rfl ⟨⟩ ?_
 rintro wR6 ⟨SR6, _⟩
 exact lT rfl ⟨⟩ rfl ⟨rfl, SR6.fin⟩
end Go.Proofs.YtjjmdcnmeommbaaGreatDoor
namespace Go.Fw
open Go.RowKit
section
variable {p : ProgD} {m : Int}
theorem mem_guard {c : Prop} [Decidable c] {x v : VioD} (h : v ∈ (if c then [x] else [])) : c ∧ v = x := by
 split at h
 ·rename_i hc; exact ⟨hc, by simpa using h⟩
 ·cases h
theorem mem_frameV {e : EvD} {v : VioD} (h : v ∈ frameV p e) : (e.still = true ∧ frameB p (sOf p e) = true) ∧ v = broken p e 4 := mem_guard h
theorem mem_guarV {e : EvD} {v : VioD} (h : v ∈ guarV p e) : (e.still = true ∧ guarB p e = false) ∧ v = broken p e 3 := mem_guard h
theorem mem_relyV {e : EvD} {v : VioD} (h : v ∈ relyV p e) : e.still = true ∧ frameV p e = [] ∧ guarV p e = [] ∧ ∃ t, t < p.threads.length ∧ v ∈ relyT p e t := by
 unfold relyV at h
 split at h
 ·rename_i hc
  unfold relyTo at h
  obtain ⟨t, ht, h⟩ := List.mem_flatMap.1 h
  exact ⟨hc.1, hc.2.1, hc.2.2, t, List.mem_range.1 ht, h⟩
 ·cases h
theorem mem_relyT {e : EvD} {t : Nat} {v : VioD} (h : v ∈ relyT p e t) : (t : Int) ≠ e.x.thread ∧ e.c.at_.getD t 0 ≠ -1 ∧ (modOf p ((thrOf p t).modules.getD (e.c.at_.getD t 0).toNat 0)).rely.evl e.c.mem e.d.mem = 0 ∧
 v = ⟨e.at_, 5, (thrOf p t).modules.getD (e.c.at_.getD t 0).toNat 0, t, e.c.at_.getD t 0⟩ := by
 unfold relyT at h
 split at h
 ·cases h
 ·rename_i h1
  split at h
  ·rename_i h2
   exact ⟨fun hh => h1 (.inl hh), fun hh => h1 (.inr hh), h2.2, by simpa using h⟩
  ·cases h
theorem mem_locksV {e : EvD} {v : VioD} (h : v ∈ locksV p e) : quietB e.d = true ∧ ∃ (i : Nat) (l : LockD), p.locks[i]? = some l ∧ e.d.mem.getD l.cell.toNat 0 = 0 ∧ l.inv.evl e.d.mem e.d.mem = 0 ∧ v = ⟨e.at_, 2, lockM p e l, if 0 ≤ e.at_ then e.x.thread else -1, i⟩ := by
 unfold locksV at h
 split at h
 ·rename_i hc
  unfold locksTo at h
  obtain ⟨i, _, h⟩ := List.mem_flatMap.1 h
  refine ⟨hc, i, ?_⟩
  unfold lockT at h
  split at h
  ·rename_i l hl
   split at h
   ·cases h
   ·rename_i h1
    simp only [not_or, Decidable.not_not] at h1
    exact ⟨l, hl, h1.1, h1.2, by simpa using h⟩
  ·cases h
 ·cases h
theorem mem_assertsV {e : EvD} {v : VioD} (h : v ∈ assertsV p e) : quietB e.d = true ∧ ∃ t : Nat, t < p.threads.length ∧ e.d.at_.getD t 0 ≠ -1 ∧ ((thrOf p t).asserts.getD (e.d.at_.getD t 0).toNat noE).evl e.d.mem e.d.mem = 0 ∧
 v = ⟨e.at_, 1, assertM p e t, t, e.d.at_.getD t 0⟩ := by
 unfold assertsV at h
 split at h
 ·rename_i hc
  unfold assertsTo at h
  obtain ⟨t, ht, h⟩ := List.mem_flatMap.1 h
  refine ⟨hc, t, List.mem_range.1 ht, ?_⟩
  unfold assertT at h
  split at h
  ·cases h
  ·rename_i h1
   simp only [not_or, Decidable.not_not] at h1
   exact ⟨h1.1, h1.2, by simpa using h⟩
 ·cases h
theorem mem_eventV {e : EvD} {v : VioD} (h : v ∈ eventV p e) : (0 ≤ e.at_ ∧ (v ∈ frameV p e ∨ v ∈ guarV p e ∨ v ∈ relyV p e)) ∨ v ∈ locksV p e ∨ v ∈ assertsV p e := by
 unfold eventV at h
 rw [List.mem_append, List.mem_append] at h
 rcases h with h | h
 ·split at h
  ·rename_i h0
   rw [List.mem_append, List.mem_append] at h
   exact .inl ⟨h0, h⟩
  ·cases h
 ·exact .inr h
theorem eventV_at {e : EvD} {v : VioD} (h : v ∈ eventV p e) : v.at_ = e.at_ := by
 rcases mem_eventV h with ⟨_, h | h | h⟩ | h | h
 ·rw [(mem_frameV h).2]; rfl
 ·rw [(mem_guarV h).2]; rfl
 ·obtain ⟨_, _, _, t, _, h⟩ := mem_relyV h
  rw [(mem_relyT h).2.2.2]
 ·obtain ⟨_, _, _, _, _, _, rfl⟩ := mem_locksV h; rfl
 ·obtain ⟨_, t, _, _, _, rfl⟩ := mem_assertsV h; rfl
theorem evAt_at (run : List ChoiceD) (l : List ConfD) (i : Nat) : (evAt run l i).at_ = (i : Int) - 1 := by
 unfold evAt
 split
 ·rename_i h; subst h; rfl
 ·rfl
end
end Go.Fw
namespace Go.Fw
open Go.RowKit
section
variable {p : ProgD} {m : Int}
theorem evAt_d (run : List ChoiceD) (l : List ConfD) (i : Nat) : (evAt run l i).d = l.getD i noC := by
 unfold evAt
 split
 ·rename_i h; subst h; rfl
 ·rfl
theorem mem_watchV {run : List ChoiceD} {v : VioD} (h : v ∈ watchV p m run) : ∃ i, i < (runC p m run).length ∧ v ∈ eventV p (evAt run (runC p m run) i) := by
 unfold watchV watchTo at h
 obtain ⟨i, hi, h⟩ := List.mem_flatMap.1 h
 exact ⟨i, List.mem_range.1 hi, h⟩
theorem watchV_mem {run : List ChoiceD} {v : VioD} {i : Nat} (hi : i < (runC p m run).length) (h : v ∈ eventV p (evAt run (runC p m run) i)) : v ∈ watchV p m run :=
 List.mem_flatMap.2 ⟨i, List.mem_range.2 hi, h⟩
theorem assertsV_mem {e : EvD} {t : Nat} (hq : quietB e.d = true) (ht : t < p.threads.length) (h1 : e.d.at_.getD t 0 ≠ -1) (h2 : ((thrOf p t).asserts.getD (e.d.at_.getD t 0).toNat noE).evl e.d.mem e.d.mem = 0) :
 (⟨e.at_, 1, assertM p e t, t, e.d.at_.getD t 0⟩ : VioD) ∈ eventV p e := by
 unfold eventV
 refine List.mem_append_right _ (List.mem_append_right _ ?_)
 unfold assertsV
 rw [if_pos hq]
 refine List.mem_flatMap.2 ⟨t, List.mem_range.2 ht, ?_⟩
 unfold assertT
 rw [if_neg (by rintro (h | h); exact h1 h; exact h h2)]
 simp
theorem quiet_none {c : ConfD} (h : noBuf c) : quietB c = true := by
 unfold quietB
 rw [Bool.not_eq_true', List.any_eq_false]
 intro b hb
 rw [h b hb]; simp
theorem told_iff (hp : ProgOK p) {run : List ChoiceD} {i t : Nat} {c : ConfD} (hc : (runC p 0 run)[i]? = some c) (ht : t < p.threads.length) :
 (∃ v ∈ watchV p 0 run, v.at_ = (i : Int) - 1 ∧ v.kind = 1 ∧ v.thread = t) ↔ (0 ≤ c.at_.getD t 0 ∧ ((thrOf p t).asserts.getD (c.at_.getD t 0).toNat noE).evl c.mem c.mem = 0) := by
 have hd : (evAt run (runC p 0 run) i).d = c := by rw [evAt_d, List.getD_eq_getElem?_getD, hc]; rfl
 have hg := good_run (m := 0) hp (List.mem_of_getElem? hc)
 have hil := (List.getElem?_eq_some_iff.1 hc).1
 constructor
 ·rintro ⟨v, hv, h1, h2, h3⟩
  obtain ⟨j, _, hv⟩ := mem_watchV hv
  have h4 := eventV_at hv
  rw [evAt_at] at h4
  obtain rfl : j = i := by omega
  rcases mem_eventV hv with ⟨_, h | h | h⟩ | h | h
  ·rw [(mem_frameV h).2] at h2; exact absurd h2 (by show (4 : Int) ≠ 1; omega)
  ·rw [(mem_guarV h).2] at h2; exact absurd h2 (by show (3 : Int) ≠ 1; omega)
  ·obtain ⟨_, _, _, t', _, h⟩ := mem_relyV h
   rw [(mem_relyT h).2.2.2] at h2; exact absurd h2 (by show (5 : Int) ≠ 1; omega)
  ·obtain ⟨_, _, _, _, _, _, rfl⟩ := mem_locksV h
   exact absurd h2 (by show (2 : Int) ≠ 1; omega)
  ·obtain ⟨_, t', ht', g1, g2, rfl⟩ := mem_assertsV h
   obtain rfl : t' = t := by have : (t' : Int) = t := h3; omega
   rw [hd] at g1 g2
   refine ⟨?_, g2⟩
   have ht2 : t' < c.at_.length := by rw [hg.1.nat]; exact ht'
   have h5 : c.at_[t']? = some (c.at_.getD t' 0) := by rw [List.getD_eq_getElem?_getD, List.getElem?_eq_getElem ht2]; rfl
   have := hg.1.atr t' _ h5 _ (List.getElem?_eq_getElem ht')
   omega
 ·rintro ⟨h1, h2⟩
  refine ⟨_, watchV_mem hil (assertsV_mem (t := t) (by rw [hd]; exact quiet_none (hg.2 rfl)) ht (by rw [hd]; omega) (by rw [hd]; exact h2)), by rw [evAt_at], rfl, rfl⟩
end
end Go.Fw
namespace Go.Fw
open Go.RowKit
def toldB (i t : Nat) (v : VioD) : Bool := decide (v.at_ = (i : Int) - 1) && (decide (v.kind = 1) && decide (v.thread = t))
theorem told_take {l : List VioD} {q : VioD → Bool} {k : Nat} {x : VioD} (hx : l[k]? = some x) : (l.take (k + 1)).any q = ((l.take k).any q || q x) := by
 rw [List.take_add_one, hx, List.any_append]; simp
theorem told_true {l : List VioD} {q : VioD → Bool} {k : Nat} (h : true = (l.take k).any q) : true = (l.take (k + 1)).any q := by
 rw [List.take_add_one, List.any_append, ← h]; rfl
theorem told_any {p : ProgD} (hp : ProgOK p) {run : List ChoiceD} {i t : Nat} {c : ConfD} {x : Int} {th : ThreadD} (hc : (runC p 0 run)[i]? = some c) (hx : c.at_[t]? = some x) (hth : p.threads[t]? = some th) :
 (watchV p 0 run).any (toldB i t) = true ↔ (0 ≤ x ∧ (th.asserts.getD x.toNat noE).evl c.mem c.mem = 0) := by
 have h := told_iff hp hc (some_lt hth)
 rw [thrOf_some hth, getD_some hx] at h
 rw [← h, List.any_eq_true]
 constructor
 ·rintro ⟨v, hv, h1⟩
  unfold toldB at h1
  simp only [Bool.and_eq_true, decide_eq_true_eq] at h1
  exact ⟨v, hv, h1⟩
 ·rintro ⟨v, hv, h1⟩
  refine ⟨v, hv, ?_⟩
  unfold toldB
  simp only [Bool.and_eq_true, decide_eq_true_eq]
  exact h1
end Go.Fw
namespace Go.Proofs.YtjjmdcnmeommbaaGreatDoor
open Go.Fw Go.RowKit
theorem monitorAssertions_fn (p : ProgD) (run : List ChoiceD) (w0 : World) (cs : List Value) (vr : Value) (hP : RdProg [] w0 p cs) (hN : Named p) (hRun : RdCh [] w0 vr run) (hK : Masks [] w0) :
 Does Tryz.prog 6 #[.agg cs.toArray, vr] w0 fun v w' => v = .bool true ∧ Below w0.heap.size w0 w' := by
 obtain ⟨Ac, nc, cc, Am, nm, cm, Al, nl, cl, At, nt, ct, rfl, _, _, _, hTh, _, _, _, _, _, _, _, _⟩ := hP.open_
 obtain ⟨_, _, _, rfl⟩ := hRun.form
 obtain ⟨_, _, _⟩ := hRun.len
 have S := St.refl w0
 refine dnR Tryz.func6 rfl Tryz.ntmps6 rfl ?_
 refine wO0 rfl ⟨⟩ (o_boxa S (by conv => lhs; whnf) rfl ?_)
 intro g2 w2 S2 X2 G2
 refine lO0 rfl ⟨⟩ (o_callr S2 has_13 rfl rfl (head33_fn _ (hK.keep (S2.keep0 []))) ?_)
 intro w16 S16 X16
 refine lO S16.k [.w 0] rfl ⟨⟨rfl,rfl⟩,⟨⟩⟩ (o_calls S16 has_14 rfl rfl (small13_fn p [] _ _ (hP.keep (S16.keep0 [])) (by simp) hN) (fun h18 w18 S18 X18 => ?_) (fun w18 S18 X18 => ?_))
 ·refine lB0 rfl ⟨⟩ (fun h23 => ?_) fun h23 => ?_
  ·exact lT rfl ⟨⟩ rfl ⟨rfl, S18.fin⟩
  refine lO S18.k [.w 0] rfl ⟨⟨rfl,rfl⟩,⟨⟩⟩ ?_
  have hI : InP p [] w0 _ := ⟨hP, h18, hK, by simp⟩
  refine o_calln S18 has_17 rfl rfl (run_fn p 0 (.inl rfl) run [] _ _ _ (hI.keep (S18.keep0 [])) (hRun.keep (S18.keep0 [])) (by omega)) ?_
  rintro v29 w29 ⟨_, rfl, hL⟩ S29 X29
  have KL := Keep.refl [] w29
  obtain ⟨Ax, nx, cx, rfl⟩ := hL.form
  obtain ⟨_, _, _⟩ := hL.len
  obtain ⟨nn, hnn⟩ : ∃ nn, nn = (runC p 0 run).length - 1 := ⟨_, rfl⟩
  have hrl := runC_len p 0 run
  have hle := runC_le p 0 run
  have hl1 : 1 ≤ (runC p 0 run).length := by omega
  refine lO S29.k [.w 0] rfl ⟨⟨rfl,rfl⟩,⟨⟩⟩ (o_calln S29 has_15 rfl rfl (mWatch_fn p 0 (.inl rfl) run [] _ _ _ (hI.keep (S29.keep0 [])) (hRun.keep (S29.keep0 [])) (by omega)) ?_)
  rintro v36 w36 ⟨_, rfl, hV⟩ S36 X36
  replace KL := KL.trans X36
  have KV := Keep.refl [] w36
  obtain ⟨Ay, ny, cy, rfl⟩ := hV.form
  obtain ⟨_, _, _⟩ := hV.len
  refine lB0 rfl ⟨by omega,⟨⟩⟩ (fun h43 => by exfalso; omega) fun h43 => ?_
  refine lO S36.k [.w 0] rfl ⟨⟨rfl,rfl⟩,⟨⟩⟩ (o_callr S36 has_18 rfl rfl (does_true (shaped33_fn p (runC p 0 run) (fun c hc => (good_run (m := 0) h18 hc).1) [] _ _ _ (hI.keep (S36.keep0 [])) (RdS.keepW hL KL (RConf.keep KL))) rfl) ?_)
  intro w47 S47 X47
  replace KL := KL.trans X47
  replace KV := KV.trans X47
  refine lC0 rfl ⟨⟩ (wL (fun μi D ε w => D = [] ∧ ∃ i : Nat, (i + μi = ((runC p 0 run).length)) ∧ (Keep [] w29 w) ∧ (Keep [] w36 w) ∧ St [] w0 w [(some g2, 27, [.slice Ac nc cc, .slice Am nm cm, .slice Al nl cl, .slice At nt ct])] ∧ Sl ε [(2, .pointer (some ⟨g2, 0, none⟩)), (5, .bool true), (6, .slice Ax nx cx), (9, .slice Ay ny cy), (11, .int .i64 i)]) (μ := ((runC p 0 run).length)) ⟨rfl, 0, by omega, KL, KV, S47, rfl⟩ ?_)
  rintro μi D ε w ⟨rfl, i, _, hKL, hKV, S, eZ⟩
  refine wK eZ (wB0 rfl ⟨⟩ (fun h53 => ?_) fun h53 => ?_)
  ·refine lC0 rfl ⟨⟩ (wL (fun μt D ε w => D = [] ∧ ∃ t : Nat, (t + μt = (p.threads.length)) ∧ (Keep [] w29 w) ∧ (Keep [] w36 w) ∧ St [] w0 w [(some g2, 27, [.slice Ac nc cc, .slice Am nm cm, .slice Al nl cl, .slice At nt ct])] ∧ Sl ε [(2, .pointer (some ⟨g2, 0, none⟩)), (5, .bool true), (6, .slice Ax nx cx), (9, .slice Ay ny cy), (11, .int .i64 i), (12, .int .i64 t)]) (μ := (p.threads.length)) ⟨rfl, 0, by omega, hKL, hKV, S, rfl⟩ ?_)
   rintro μt D ε w ⟨rfl, t, _, hKL, hKV, S, eZ⟩
   refine wK eZ (wB S.k [.o 0] rfl ⟨rfl,⟨⟩⟩ (fun h60 => ?_) fun h60 => ?_)
   ·refine lC0 rfl ⟨⟩ (wL (fun μk D ε w => D = [] ∧ ∃ k : Nat, ∃ b : Bool, (k + μk = ((watchV p 0 run).length)) ∧ (b = ((watchV p 0 run).take k).any (toldB i t)) ∧ (Keep [] w29 w) ∧ (Keep [] w36 w) ∧ St [] w0 w [(some g2, 27, [.slice Ac nc cc, .slice Am nm cm, .slice Al nl cl, .slice At nt ct])] ∧ Sl ε [(2, .pointer (some ⟨g2, 0, none⟩)), (5, .bool true), (6, .slice Ax nx cx), (9, .slice Ay ny cy), (11, .int .i64 i), (12, .int .i64 t), (13, .bool b), (14, .int .i64 k)]) (μ := ((watchV p 0 run).length)) ⟨rfl, 0, false, by omega, (by simp), hKL, hKV, S, rfl⟩ ?_)
    rintro μk D ε w ⟨rfl, k, b, _, hb, hKL, hKV, S, eZ⟩
    refine wK eZ (wB0 rfl ⟨⟩ (fun h66 => ?_) fun h66 => ?_)
    ·refine lOn 8 S.k [] rfl ⟨⟩ ?_
     cases hb69 : b
     ·refine o_move (v := .bool _) rfl rfl ?_
      obtain ⟨_, b73, p73, _, hxx0, hA73, _, _, hc73, hr73⟩ := RdS.get ((RdS.keepW hV hKV (fun _ _ h => h))) (k) (by omega)
      obtain ⟨rfl, -, -, -, -, -⟩ := hr73
      refine lB (S.k.b hc73) [.x b73 p73,.f 0 0] rfl ⟨by omega,rfl,⟨hA73,by omega⟩,⟨⟩⟩ (fun h78 => ?_) fun h78 => ?_
      ·obtain ⟨_, b82, p82, _, hx82, hA82, _, _, hc82, hr82⟩ := RdS.get ((RdS.keepW hV hKV (fun _ _ h => h))) (k) (by omega)
       obtain rfl := Option.some.inj (hxx0.symm.trans hx82)
       obtain ⟨rfl, -, -, -, -, -⟩ := hr82
       refine lB (S.k.b hc82) [.x b82 p82,.f 0 1] rfl ⟨rfl,⟨hA82,by omega⟩,⟨⟩⟩ (fun h85 => ?_) fun h85 => ?_
       ·obtain ⟨_, b90, p90, _, hx90, hA90, _, _, hc90, hr90⟩ := RdS.get ((RdS.keepW hV hKV (fun _ _ h => h))) (k) (by omega)
        obtain rfl := Option.some.inj (hxx0.symm.trans hx90)
        obtain ⟨rfl, -, -, -, -, -⟩ := hr90
        refine lB (S.k.b hc90) [.x b90 p90,.f 0 3] rfl ⟨rfl,⟨hA90,by omega⟩,⟨⟩⟩ (fun h94 => ?_) fun h94 => ?_
        ·refine lP0 rfl ⟨by omega,⟨⟩⟩ ⟨μk - 1, by omega, rfl, (k + 1), (_), (by omega), ?_, (hKL), (hKV), S, rfl⟩
         rw [told_take hxx0, ← hb, hb69]; unfold toldB; (simp [*]; done)
        refine lP0 rfl ⟨by omega,⟨⟩⟩ ⟨μk - 1, by omega, rfl, (k + 1), (_), (by omega), ?_, (hKL), (hKV), S, rfl⟩
        rw [told_take hxx0, ← hb, hb69]; unfold toldB; (simp [*]; done)
       refine lP0 rfl ⟨by omega,⟨⟩⟩ ⟨μk - 1, by omega, rfl, (k + 1), (_), (by omega), ?_, (hKL), (hKV), S, rfl⟩
       rw [told_take hxx0, ← hb, hb69]; unfold toldB; (simp [*]; done)
      refine lP0 rfl ⟨by omega,⟨⟩⟩ ⟨μk - 1, by omega, rfl, (k + 1), (_), (by omega), ?_, (hKL), (hKV), S, rfl⟩
      rw [told_take hxx0, ← hb, hb69]; unfold toldB; (simp [*]; done)
     refine o_move (v := .bool _) rfl rfl ?_
     refine lP0 rfl ⟨by omega,⟨⟩⟩ ⟨μk - 1, by omega, rfl, (k + 1), (_), (by omega), ?_, (hKL), (hKV), S, rfl⟩
     exact told_true (hb69.symm.trans hb)
    obtain ⟨c, hxc⟩ : ∃ c, (runC p 0 run)[i]? = some c := ⟨_, List.getElem?_eq_getElem (by omega)⟩
    obtain ⟨th, hxth⟩ : ∃ th, p.threads[t]? = some th := ⟨_, List.getElem?_eq_getElem (by omega)⟩
    have hfc := (good_run (m := 0) h18 (List.mem_of_getElem? hxc)).1
    have hfa := hfc.nat
    obtain ⟨x, hxx⟩ : ∃ x, c.at_[t]? = some x := ⟨_, List.getElem?_eq_getElem (by omega)⟩
    have hx0 := hfc.atr t x hxx th hxth
    have hto := (h18.thread hxth).asserts
    have hT := told_any h18 hxc hxx hxth
    rw [List.take_of_length_le (by omega)] at hb
    rw [← hb] at hT
    refine lC0 rfl ⟨⟩ (W_draw fmx [0, 1, 2, 3, 4, 5, 6, 7, 8, 9, 10, 11, 12, 13, 14, 15, 16, 17, 18, 19, 20, 21, 22, 23, 24, 25, 26, 27, 28, 29, 30, 31, 32, 33, 34, 35, 36, 37, 38, 39] [] [] (by kernel_rfl) rfl (Cl _ _ _ _) (Cl.start S) ?_)
    obtain ⟨_, b99, p99, _, hx99, hA99, _, _, hc99, hr99⟩ := RdS.get ((RdS.keepW hL hKL (RConf.keep hKL))) (i) (by omega)
    obtain rfl := Option.some.inj (hxc.symm.trans hx99)
    obtain ⟨_, _, _, _, _, _, _, _, _, rfl, _, hAt99, _, _, _, _, _, _, _⟩ := RdConf.open_ hr99
    obtain ⟨_, b103, p103, _, hx103, hA103, _, _, hc103, hr103⟩ := RdS.get (hAt99) (t) (by omega)
    obtain rfl := Option.some.inj (hxx.symm.trans hx103)
    obtain ⟨rfl, _⟩ := id hr103
    refine qB ((S.q.b hc103).b hc99) [.x b99 p99,.f 0 1,.x b103 p103,.f 1 0] rfl ⟨rfl,⟨hA103,by omega⟩,rfl,⟨hA99,by omega⟩,⟨⟩⟩ (fun h105 => ?_) fun h105 => ?_
    ·obtain ⟨_, b110, p110, _, hx110, hA110, _, _, hc110, hr110⟩ := RdS.get (hTh) (t) (by omega)
     obtain rfl := Option.some.inj (hxth.symm.trans hx110)
     obtain ⟨_, _, _, _, _, _, _, _, _, _, _, _, rfl, _, hEs110, _, _, _, _, _, _, _, _, _, _, _⟩ := RThread.open_ hr110
     obtain ⟨_, b115, p115, _, hx115, hA115, _, _, hc115, hr115⟩ := RdS.get ((RdS.keepW hL hKL (RConf.keep hKL))) (i) (by omega)
     obtain rfl := Option.some.inj (hxc.symm.trans hx115)
     obtain ⟨_, _, _, _, _, _, _, _, _, rfl, _, hAt115, _, _, _, _, _, _, _⟩ := RdConf.open_ hr115
     obtain ⟨_, b119, p119, _, hx119, hA119, _, _, hc119, hr119⟩ := RdS.get (hAt115) (t) (by omega)
     obtain rfl := Option.some.inj (hxx.symm.trans hx119)
     obtain ⟨rfl, _⟩ := id hr119
     obtain ⟨a, b121, p121, _, hxa, hA121, _, hl121, hc121, hr121⟩ := RdS.get (hEs110) (x.toNat) (by omega)
     obtain ⟨_, _, _, rfl, _, _, _, _, _⟩ := RdE.cells hr121
     obtain ⟨_, b125, p125, _, hx125, hA125, _, _, hc125, hr125⟩ := RdS.get ((RdS.keepW hL hKL (RConf.keep hKL))) (i) (by omega)
     obtain rfl := Option.some.inj (hxc.symm.trans hx125)
     obtain ⟨_, _, _, _, _, _, _, _, _, rfl, hMem125, _, _, _, _, _, _, _, _⟩ := RdConf.open_ hr125
     obtain ⟨_, b130, p130, _, hx130, hA130, _, _, hc130, hr130⟩ := RdS.get ((RdS.keepW hL hKL (RConf.keep hKL))) (i) (by omega)
     obtain rfl := Option.some.inj (hxc.symm.trans hx130)
     obtain ⟨_, _, _, _, _, _, _, _, _, rfl, hMem130, _, _, _, _, _, _, _, _⟩ := RdConf.open_ hr130
     refine qO ((((((S.q.b hc130).b hc125).a hc121).b hc119).b hc115).a hc110) [.o 0,.x b110 p110,.f 0 2,.x b115 p115,.f 1 1,.x b119 p119,.f 2 0,.x b121 p121,.v 3,.x b125 p125,.f 4 0,.x b130 p130,.f 5 0] rfl ⟨rfl,⟨hA130,by omega⟩,rfl,⟨hA125,by omega⟩,⟨rfl,hl121⟩,⟨hA121,by omega⟩,rfl,⟨hA119,by omega⟩,rfl,⟨hA115,by omega⟩,rfl,⟨hA110,by omega⟩,rfl,⟨⟩⟩ (q_callr has_23 rfl rfl (fun w1 S1 X1 => eval_fn a [] _ _ _ _ c.mem c.mem (RdE.keep (S1.keep0 []) _ _ hr121) (hK.keep (S1.keep0 [])) (hMem125.keep X1) (hMem130.keep X1)) ?_)
     refine qB0 rfl ⟨⟩ (fun h134 => ?_) fun h134 => ?_
     ·refine qD rfl ⟨⟩ ?_
      rintro wR19 ⟨SR19, XR19⟩
      replace hKL := hKL.trans XR19
      replace hKV := hKV.trans XR19
      refine lOn 4 SR19.k [] rfl ⟨⟩ ?_
      cases hb136 : b
      ·refine o_move (v := .bool _) rfl rfl ?_
       refine lR0 rfl ⟨⟩ (ret_1 rfl (by conv => lhs; whnf) ?_)
       exfalso; rw [getD_some hxa, hb136] at hT; simp at hT; omega
      refine o_move (v := .bool _) rfl rfl ?_
      refine lP0 rfl ⟨by omega,⟨⟩⟩ ⟨μt - 1, by omega, rfl, (t + 1), (by omega), (hKL), (hKV), SR19, rfl⟩
     refine qD rfl ⟨⟩ ?_
     rintro wR19 ⟨SR19, XR19⟩
     replace hKL := hKL.trans XR19
     replace hKV := hKV.trans XR19
     refine lOn 4 SR19.k [] rfl ⟨⟩ ?_
     cases hb136 : b
     ·refine o_move (v := .bool _) rfl rfl ?_
      refine lP0 rfl ⟨by omega,⟨⟩⟩ ⟨μt - 1, by omega, rfl, (t + 1), (by omega), (hKL), (hKV), SR19, rfl⟩
     refine o_move (v := .bool _) rfl rfl ?_
     refine lR0 rfl ⟨⟩ (ret_1 rfl (by conv => lhs; whnf) ?_)
     exfalso; rw [getD_some hxa, hb136] at hT; simp at hT; omega
    refine qD rfl ⟨⟩ ?_
    rintro wR19 ⟨SR19, XR19⟩
    replace hKL := hKL.trans XR19
    replace hKV := hKV.trans XR19
    refine lOn 4 SR19.k [] rfl ⟨⟩ ?_
    cases hb136 : b
    ·refine o_move (v := .bool _) rfl rfl ?_
     refine lP0 rfl ⟨by omega,⟨⟩⟩ ⟨μt - 1, by omega, rfl, (t + 1), (by omega), (hKL), (hKV), SR19, rfl⟩
    refine o_move (v := .bool _) rfl rfl ?_
    refine lR0 rfl ⟨⟩ (ret_1 rfl (by conv => lhs; whnf) ?_)
    exfalso; rw [hb136] at hT; simp at hT; omega
   refine lP0 rfl ⟨by omega,⟨⟩⟩ ⟨μi - 1, by omega, rfl, (i + 1), (by omega), (hKL), (hKV), S, rfl⟩
  exact lT rfl ⟨⟩ rfl ⟨rfl, S.fin⟩
 exact lT rfl ⟨⟩ rfl ⟨rfl, S18.fin⟩
end Go.Proofs.YtjjmdcnmeommbaaGreatDoor
