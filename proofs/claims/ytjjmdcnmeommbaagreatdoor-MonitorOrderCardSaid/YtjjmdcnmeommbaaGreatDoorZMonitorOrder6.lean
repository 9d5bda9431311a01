/-
  Part 6 of 9 of the proof of MonitorOrder: what it leans on. No conditions.
-/
import Derived.Test.YtjjmdcnmeommbaaGreatDoorZMonitorOrder5
set_option maxRecDepth 100000
namespace Go.Fw
open Go.RowKit
def eOne33 : E := ⟨1, 1, 1, []⟩
def eX33 : E := ⟨2, 2, 0, []⟩
def eN33 : E := ⟨1, 2, 1, []⟩
def eGuar33 : E := ⟨13, 1, 0, [⟨3, 2, 0, []⟩, eX33]⟩
def eLess33 : E := ⟨9, 2, 0, [eX33, eN33]⟩
def eIs33 : E := ⟨11, 1, 0, [eX33, eN33]⟩
def downP : ProgD :=
 ⟨[⟨⟨#[77, 46, 120]⟩, 2, 1, -1, false, 0⟩], [⟨⟨#[77]⟩, ⟨#[65]⟩, eOne33, eGuar33, [0]⟩], [],
  [⟨⟨#[116]⟩, 2, [eOne33, eIs33], [0, 0], [⟨4, 0, 1, eOne33, [⟨0, eLess33⟩], false, 0, 0⟩], [], false⟩]⟩
theorem down_ok : ProgOK downP := progB_ok (by kernel_rfl)
def oneV33 : Value := .agg #[.int .i64 1, .int .i64 1, .int .i64 1, .slice none 0 0]
def numV33 : Value := .agg #[.int .i64 1, .int .i64 2, .int .i64 1, .slice none 0 0]
end Go.Fw
namespace Go.Proofs.YtjjmdcnmeommbaaGreatDoor
open Go.Fw Go.RowKit
theorem one33_fn (w0 : World) : Does Tryz.prog 48 #[] w0 fun v w' => v = oneV33 ∧ Below w0.heap.size w0 w' := by
 have S := St.refl w0
 refine dnR Tryz.func48 rfl Tryz.ntmps48 rfl ?_
 refine wO0 rfl ⟨⟩ (o_alloc S zv_56 rfl rfl ?_)
 intro g0 w0 S0 X0 G0
 refine lO0 rfl ⟨⟩ (o_build bld_56 (vs := [(0, .int .i64 _), (1, .int .i64 _), (2, .int .i64 _)]) (cs := [_, _, _, _]) rfl rfl rfl rfl ?_)
 first | refine o_storeN (kk := 0) (vs := [_, _, _, _]) S0 sz_56 rfl rfl rfl rfl rfl rfl rfl ?_
 intro w1_1 S1_1 X1_1
 dsimp only [setsAt, List.set] at S1_1
 refine lR0 rfl ⟨⟩ (ret_cell1 rfl many_56 rfl (S1_1.cells 0 rfl) rfl ⟨rfl, S1_1.fin⟩)
theorem num33_fn (w0 : World) : Does Tryz.prog 62 #[.int .i64 1] w0 fun v w' => v = numV33 ∧ Below w0.heap.size w0 w' := by
 have S := St.refl w0
 refine dnR Tryz.func62 rfl Tryz.ntmps62 rfl ?_
 refine wO0 rfl ⟨⟩ (o_alloc S zv_56 rfl rfl ?_)
 intro g2 w2 S2 X2 G2
 refine lO0 rfl ⟨⟩ (o_build bld_56 (vs := [(0, .int .i64 _), (1, .int .i64 _), (2, .int .i64 _)]) (cs := [_, _, _, _]) rfl rfl rfl rfl ?_)
 first | refine o_storeN (kk := 0) (vs := [_, _, _, _]) S2 sz_56 rfl rfl rfl rfl rfl rfl rfl ?_
 intro w1_2 S1_2 X1_2
 dsimp only [setsAt, List.set] at S1_2
 refine lR0 rfl ⟨⟩ (ret_cell1 rfl many_56 rfl (S1_2.cells 0 rfl) rfl ⟨rfl, S1_2.fin⟩)
theorem down_fn (w0 : World) :
 Does Tryz.prog 37 #[] w0 fun v w' => (∃ cs : List Value, v = .agg cs.toArray ∧ RdProg [] w' downP cs) ∧ Below w0.heap.size w0 w' := by
 have S := St.refl w0
 refine dnR Tryz.func37 rfl Tryz.ntmps37 rfl ?_
 refine wO0 rfl ⟨⟩ (o_alloc S zv_27 rfl rfl ?_)
 intro g0 w0 S0 X0 G0
 refine lO0 rfl ⟨⟩ (o_build bld_56 (vs := [(0, .int .i64 _), (1, .int .i64 _)]) (cs := [_, _, _, _]) rfl rfl rfl rfl ?_)
 refine o_alloc S0 zv_56 rfl rfl ?_
 intro g1 w1 S1 X1 G1
 first | refine o_storeN (kk := 0) (vs := [_, _, _, _]) S1 sz_56 rfl rfl rfl rfl rfl rfl rfl ?_
 intro w1_2 S1_2 X1_2
 dsimp only [setsAt, List.set] at S1_2
 refine lO0 rfl ⟨⟩ (o_build bld_56 (vs := [(0, .int .i64 _), (1, .int .i64 _)]) (cs := [_, _, _, _]) rfl rfl rfl rfl ?_)
 refine lO S1_2.k [.w 0] rfl ⟨⟨rfl,by rfl⟩,⟨⟩⟩ (o_buildSlice S1_2 slz_54 (vs := [.agg _, .agg _]) (cs := [_, _, _, _, _, _, _, _]) (by rfl) rfl rfl rfl rfl rfl rfl ?_)
 intro g9 w9 S9 X9 G9
 refine o_build bld_56 (vs := [(0, .int .i64 _), (1, .int .i64 _), (3, .slice _ _ _)]) (cs := [_, _, _, _]) rfl rfl rfl rfl ?_
 refine o_alloc S9 zv_56 rfl rfl ?_
 intro g2 w2 S2 X2 G2
 first | refine o_storeN (kk := 0) (vs := [_, _, _, _]) S2 sz_56 rfl rfl rfl rfl rfl rfl rfl ?_
 intro w2_5 S2_5 X2_5
 dsimp only [setsAt, List.set] at S2_5
 refine lC0 rfl ⟨⟩ (W_flowC fmx [0, 1, 2, 3, 4] 5 (by kernel_rfl) (by kernel_rfl) (Cl _ _ _ _) (Cl.start S2_5) (fun i => if i = 1 then some (62, #[.int .i64 1], .agg #[.int .i64 1, .int .i64 2, .int .i64 1, .slice none 0 0]) else none) ?_ _ rfl ?_)
 ·intro i f a v hi
  by_cases hi1 : i = 1
  ·subst hi1; cases hi; exact fun w hC => (num33_fn _).mono fun u w' hr => ⟨hr.1, hC.later hr.2⟩
  ·simp only [hi1, if_false] at hi; cases hi
 refine FL_q rfl rfl ?_
 refine q_loadN many_56 rfl (fun w1 hw => hw.1.cells 2 rfl) rfl rfl ?_
 refine QL_nil ?_
 refine FL_call has_62 rfl rfl rfl rfl rfl ?_
 refine FL_slice rfl rfl rfl slz_54 (vs := [.agg _, .agg _]) (cs := [_, _, _, _, _, _, _, _]) (by rfl) rfl rfl rfl rfl rfl ?_
 intro g13 G13 ng13
 refine FL_q rfl rfl ?_
 refine q_build bld_56 (vs := [(0, .int .i64 _), (1, .int .i64 _), (3, .slice _ _ _)]) (cs := [_, _, _, _]) rfl rfl rfl rfl ?_
 refine QL_nil ?_
 refine FL_alloc rfl rfl rfl zv_56 rfl ?_
 intro g3 G3 ng3
 refine FL_nil ?_
 rintro wR3 ⟨SR3, _⟩ ⟨⟨-, hg13⟩, hg3⟩
 clear ng13
 replace SR3 := SR3.push_new S2_5 hg13 G13
 replace SR3 := SR3.push_more (L1 := [_]) S2_5 hg3 G3 (by simpa [eq_comm] using ng3)
 first | refine o_storeN (kk := 0) (vs := [_, _, _, _]) SR3 sz_56 rfl rfl rfl rfl rfl rfl rfl ?_
 intro w3_5 S3_5 X3_5
 dsimp only [setsAt, List.set] at S3_5
 refine WL_nil ⟨rfl, ?_⟩
 refine fC0 rfl ⟨⟩ (W_flowC fmx [0, 1, 2, 3, 4] 5 (by kernel_rfl) (by kernel_rfl) (Cl _ _ _ _) (Cl.start S3_5) (fun i => if i = 1 then some (62, #[.int .i64 1], .agg #[.int .i64 1, .int .i64 2, .int .i64 1, .slice none 0 0]) else none) ?_ _ rfl ?_)
 ·intro i f a v hi
  by_cases hi1 : i = 1
  ·subst hi1; cases hi; exact fun w hC => (num33_fn _).mono fun u w' hr => ⟨hr.1, hC.later hr.2⟩
  ·simp only [hi1, if_false] at hi; cases hi
 refine FL_q rfl rfl ?_
 refine q_loadN many_56 rfl (fun w1 hw => hw.1.cells 4 rfl) rfl rfl ?_
 refine QL_nil ?_
 refine FL_call has_62 rfl rfl rfl rfl rfl ?_
 refine FL_slice rfl rfl rfl slz_54 (vs := [.agg _, .agg _]) (cs := [_, _, _, _, _, _, _, _]) (by rfl) rfl rfl rfl rfl rfl ?_
 intro g17 G17 ng17
 refine FL_q rfl rfl ?_
 refine q_build bld_56 (vs := [(0, .int .i64 _), (1, .int .i64 _), (3, .slice _ _ _)]) (cs := [_, _, _, _]) rfl rfl rfl rfl ?_
 refine QL_nil ?_
 refine FL_alloc rfl rfl rfl zv_56 rfl ?_
 intro g4 G4 ng4
 refine FL_nil ?_
 rintro wR4 ⟨SR4, _⟩ ⟨⟨-, hg17⟩, hg4⟩
 clear ng17
 replace SR4 := SR4.push_new S3_5 hg17 G17
 replace SR4 := SR4.push_more (L1 := [_]) S3_5 hg4 G4 (by simpa [eq_comm] using ng4)
 first | refine o_storeN (kk := 0) (vs := [_, _, _, _]) SR4 sz_56 rfl rfl rfl rfl rfl rfl rfl ?_
 intro w4_5 S4_5 X4_5
 dsimp only [setsAt, List.set] at S4_5
 refine WL_nil ⟨rfl, ?_⟩
 refine fC0 rfl ⟨⟩ (W_flowC fmx [0, 1, 2, 3, 4, 5, 6, 7, 8, 9, 10, 11] 12 (by kernel_rfl) (by kernel_rfl) (Cl _ _ _ _) (Cl.start S4_5) (fun i => if i = 0 then some (48, #[], .agg #[.int .i64 1, .int .i64 1, .int .i64 1, .slice none 0 0]) else if i = 4 then some (48, #[], .agg #[.int .i64 1, .int .i64 1, .int .i64 1, .slice none 0 0]) else none) ?_ _ rfl ?_)
 ·intro i f a v hi
  by_cases hi0 : i = 0
  ·subst hi0; cases hi; exact fun w hC => (one33_fn _).mono fun u w' hr => ⟨hr.1, hC.later hr.2⟩
  by_cases hi4 : i = 4
  ·subst hi4; cases hi; exact fun w hC => (one33_fn _).mono fun u w' hr => ⟨hr.1, hC.later hr.2⟩
  ·simp only [hi0, hi4, if_false] at hi; cases hi
 refine FL_call has_48 rfl rfl rfl rfl rfl ?_
 refine FL_q rfl rfl ?_
 refine q_loadN many_56 rfl (fun w1 hw => hw.1.cells 0 rfl) rfl rfl ?_
 refine QL_nil ?_
 refine FL_slice rfl rfl rfl slz_54 (vs := [.agg _, .agg _]) (cs := [_, _, _, _, _, _, _, _]) (by rfl) rfl rfl rfl rfl rfl ?_
 intro g21 G21 ng21
 refine FL_slice rfl rfl rfl slz_49 (vs := [.int .i64 _, .int .i64 _]) (cs := [_, _]) (by rfl) rfl rfl rfl rfl rfl ?_
 intro g22 G22 ng22
 refine FL_call has_48 rfl rfl rfl rfl rfl ?_
 refine FL_q rfl rfl ?_
 refine q_loadN many_56 rfl (fun w1 hw => hw.1.cells 2 rfl) rfl rfl ?_
 refine QL_nil ?_
 refine FL_q rfl rfl ?_
 refine q_build bld_98 (vs := [(1, .agg _)]) (cs := [_, _, _, _, _]) rfl rfl rfl rfl ?_
 refine QL_nil ?_
 refine FL_slice rfl rfl rfl slz_86 (vs := [.agg _]) (cs := [_, _, _, _, _]) (by rfl) rfl rfl rfl rfl rfl ?_
 intro g26 G26 ng26
 refine FL_q rfl rfl ?_
 refine q_build bld_88 (vs := [(0, .int .i64 _), (2, .int .i64 _), (3, .agg _), (4, .slice _ _ _)]) (cs := [_, _, _, _, _, _, _, _, _, _, _]) rfl rfl rfl rfl ?_
 refine QL_nil ?_
 refine FL_slice rfl rfl rfl slz_57 (vs := [.agg _]) (cs := [_, _, _, _, _, _, _, _, _, _, _]) (by rfl) rfl rfl rfl rfl rfl ?_
 intro g28 G28 ng28
 refine FL_q rfl rfl ?_
 refine q_build bld_60 (vs := [(0, .string _), (1, .int .i64 _), (2, .slice _ _ _), (3, .slice _ _ _), (4, .slice _ _ _)]) (cs := [_, _, _, _, _, _, _]) rfl rfl rfl rfl ?_
 refine QL_nil ?_
 refine FL_alloc rfl rfl rfl zv_60 rfl ?_
 intro g5 G5 ng5
 refine FL_nil ?_
 rintro wR5 ⟨SR5, _⟩ ⟨⟨⟨⟨⟨-, hg21⟩, hg22⟩, hg26⟩, hg28⟩, hg5⟩
 clear ng21
 replace SR5 := SR5.push_new S4_5 hg21 G21
 replace SR5 := SR5.push_more (L1 := [_]) S4_5 hg22 G22 (by simpa [eq_comm] using ng22)
 replace SR5 := SR5.push_more (L1 := [_, _]) S4_5 hg26 G26 (by simpa [eq_comm] using ng26)
 replace SR5 := SR5.push_more (L1 := [_, _, _]) S4_5 hg28 G28 (by simpa [eq_comm] using ng28)
 replace SR5 := SR5.push_more (L1 := [_, _, _, _]) S4_5 hg5 G5 (by simpa [eq_comm] using ng5)
 first | refine o_storeN (kk := 0) (vs := [_, _, _, _, _, _, _]) SR5 sz_60 rfl rfl rfl rfl rfl rfl rfl ?_
 intro w5_12 S5_12 X5_12
 dsimp only [setsAt, List.set] at S5_12
 refine WL_nil ⟨rfl, ?_⟩
 refine fC0 rfl ⟨⟩ (W_flowC fmx [0, 1, 2, 3, 4, 5, 6, 7, 8, 9] 10 (by kernel_rfl) (by kernel_rfl) (Cl _ _ _ _) (Cl.start S5_12) (fun i => if i = 2 then some (48, #[], .agg #[.int .i64 1, .int .i64 1, .int .i64 1, .slice none 0 0]) else none) ?_ _ rfl ?_)
 ·intro i f a v hi
  by_cases hi2 : i = 2
  ·subst hi2; cases hi; exact fun w hC => (one33_fn _).mono fun u w' hr => ⟨hr.1, hC.later hr.2⟩
  ·simp only [hi2, if_false] at hi; cases hi
 refine FL_q rfl rfl ?_
 refine q_build bld_96 (vs := [(0, .string _), (1, .int .i64 _), (2, .int .i64 _), (3, .int .i64 _)]) (cs := [_, _, _, _, _, _]) rfl rfl rfl rfl ?_
 refine QL_nil ?_
 refine FL_slice rfl rfl rfl slz_22 (vs := [.agg _]) (cs := [_, _, _, _, _, _]) (by rfl) rfl rfl rfl rfl rfl ?_
 intro g31 G31 ng31
 refine FL_call has_48 rfl rfl rfl rfl rfl ?_
 refine FL_q rfl rfl ?_
 refine q_loadN many_56 rfl (fun w1 hw => hw.1.cells 9 rfl) rfl rfl ?_
 refine QL_nil ?_
 refine FL_slice rfl rfl rfl slz_49 (vs := [.int .i64 _]) (cs := [_]) (by rfl) rfl rfl rfl rfl rfl ?_
 intro g34 G34 ng34
 refine FL_q rfl rfl ?_
 refine q_build bld_75 (vs := [(0, .string _), (1, .string _), (2, .agg _), (3, .agg _), (4, .slice _ _ _)]) (cs := [_, _, _, _, _, _, _, _, _, _, _]) rfl rfl rfl rfl ?_
 refine QL_nil ?_
 refine FL_slice rfl rfl rfl slz_23 (vs := [.agg _]) (cs := [_, _, _, _, _, _, _, _, _, _, _]) (by rfl) rfl rfl rfl rfl rfl ?_
 intro g36 G36 ng36
 refine FL_q rfl rfl ?_
 refine q_loadN many_60 rfl (fun w1 hw => hw.1.cells 0 rfl) rfl rfl ?_
 refine QL_nil ?_
 refine FL_slice rfl rfl rfl slz_25 (vs := [.agg _]) (cs := [_, _, _, _, _, _, _]) (by rfl) rfl rfl rfl rfl rfl ?_
 intro g38 G38 ng38
 refine FL_q rfl rfl ?_
 refine q_build bld_27 (vs := [(0, .slice _ _ _), (1, .slice _ _ _), (3, .slice _ _ _)]) (cs := [_, _, _, _]) rfl rfl rfl rfl ?_
 refine QL_nil ?_
 refine FL_nil ?_
 rintro wR6 ⟨SR6, _⟩ ⟨⟨⟨⟨-, hg31⟩, hg34⟩, hg36⟩, hg38⟩
 clear ng31
 replace SR6 := SR6.push_new S5_12 hg31 G31
 replace SR6 := SR6.push_more (L1 := [_]) S5_12 hg34 G34 (by simpa [eq_comm] using ng34)
 replace SR6 := SR6.push_more (L1 := [_, _]) S5_12 hg36 G36 (by simpa [eq_comm] using ng36)
 replace SR6 := SR6.push_more (L1 := [_, _, _]) S5_12 hg38 G38 (by simpa [eq_comm] using ng38)
 first | refine o_storeN (kk := 16) (vs := [_, _, _, _]) SR6 sz_27 rfl rfl rfl rfl rfl rfl rfl ?_
 intro w6_10 S6_10 X6_10
 dsimp only [setsAt, List.set] at S6_10
 refine WL_nil ⟨rfl, ?_⟩
 refine fR0 rfl ⟨⟩ ?_
 have SF := S6_10
 have i0 : i64 0 := by unfold i64; omega
 have i1 : i64 1 := by unfold i64; omega
 have i2 : i64 2 := by unfold i64; omega
 have i3 : i64 3 := by unfold i64; omega
 have i4 : i64 4 := by unfold i64; omega
 have i9 : i64 9 := by unfold i64; omega
 have i11 : i64 11 := by unfold i64; omega
 have i13 : i64 13 := by unfold i64; omega
 have im : i64 (-1) := by unfold i64; omega
 have hone : RdE [] w6_10 eOne33 [.int .i64 1, .int .i64 1, .int .i64 1, .slice none 0 0] := rdE_leaf i1 i1 i1
 have hnum : RdE [] w6_10 eN33 [.int .i64 1, .int .i64 2, .int .i64 1, .slice none 0 0] := rdE_leaf i1 i2 i1
 have hx : RdE [] w6_10 eX33 [.int .i64 2, .int .i64 2, .int .i64 0, .slice none 0 0] := rdE_leaf i2 i2 i0
 have hold : RdE [] w6_10 ⟨3, 2, 0, []⟩ [.int .i64 3, .int .i64 2, .int .i64 0, .slice none 0 0] := rdE_leaf i3 i2 i0
 have hguar : RdE [] w6_10 eGuar33 [.int .i64 13, .int .i64 1, .int .i64 0, .slice (some ⟨g9, 0, none⟩) 2 2] := rdE_two i13 i1 (by simp) (SF.cells 14 rfl) hold hx
 have hless : RdE [] w6_10 eLess33 [.int .i64 9, .int .i64 2, .int .i64 0, .slice (some ⟨g13, 0, none⟩) 2 2] := rdE_two i9 i2 (by simp) (SF.cells 12 rfl) hx hnum
 have his : RdE [] w6_10 eIs33 [.int .i64 11, .int .i64 1, .int .i64 0, .slice (some ⟨g17, 0, none⟩) 2 2] := rdE_two i11 i1 (by simp) (SF.cells 10 rfl) hx hnum
 have hset : RdAs [] w6_10 (.slice (some ⟨g26, 0, none⟩) 1 1) [⟨0, eLess33⟩] := rdS_1 (by simp) (SF.cells 6 rfl) rfl ⟨_, rfl, i0, hless⟩
 have hst : RdSt [] w6_10 (.slice (some ⟨g28, 0, none⟩) 1 1) [⟨4, 0, 1, eOne33, [⟨0, eLess33⟩], false, 0, 0⟩] := rdS_1 (by simp) (SF.cells 5 rfl) rfl ⟨_, _, _, _, _, rfl, i4, i0, i1, i0, i0, hone, hset⟩
 have has : RdEs [] w6_10 (.slice (some ⟨g21, 0, none⟩) 2 2) [eOne33, eIs33] := rdS_2 (c := [_, _, _, _]) (c2 := [_, _, _, _]) (by simp) (SF.cells 8 rfl) rfl rfl hone his
 have hmo : RdI [] w6_10 (.slice (some ⟨g22, 0, none⟩) 2 2) [0, 0] := rdI_own SF (k := 7) rfl (by simp) rfl (by omega) (by simp [i0])
 have hfr : RdI [] w6_10 (.slice (some ⟨g34, 0, none⟩) 1 1) [0] := rdI_own SF (k := 2) rfl (by simp) rfl (by omega) (by simp [i0])
 refine ret_cell1 rfl many_27 rfl (SF.cells 16 rfl) rfl ⟨⟨_, rfl, _, _, _, _, rfl, ?_, ?_, rdS_nil, ?_⟩, SF.fin⟩
 ·exact rdS_1 (by simp) (SF.cells 3 rfl) rfl ⟨rfl, i2, i1, im, i0⟩
 ·exact rdS_1 (by simp) (SF.cells 1 rfl) rfl ⟨_, _, _, _, _, _, _, _, _, rfl, hone, hguar, hfr⟩
 ·exact rdS_1 (by simp) (SF.cells 0 rfl) rfl ⟨_, _, _, _, rfl, i2, has, hmo, hst, rdS_nil⟩
end Go.Proofs.YtjjmdcnmeommbaaGreatDoor
namespace Go.Fw
open Go.RowKit
section
variable {P : Program} {r : Option Nat} {N : Nat} {ops : Array Oper} {rest : List Oper} {C : World → Prop} {KQ : Env → Prop} {K : List Deferred → Env → World → Prop} {D : List Deferred} {e : Env} {w : World} {d : Nat} {t : TypeId} {p : String} {af : Array Edge} {x y : Operand} {yt : TypeId}
def vioV (v : VioD) : Value := .agg #[.int .i64 v.at_, .int .i64 v.kind, .int .i64 v.module_, .int .i64 v.thread, .int .i64 v.item]
def EqVio (P : Program) (ty : TypeId) : Prop := P.eqGuardType P.depth ty = false ∧ ∀ (w : World) (a b : VioD), (binOp .eql ty (vioV a) (vioV b)).run P w = .ok (.bool (decide (a = b))) w
theorem EqVio.neq {ty : TypeId} (hE : EqVio P ty) (w : World) (a b : VioD) : (binOp .neq ty (vioV a) (vioV b)).run P w = .ok (.bool (!decide (a = b))) w := by
 have := hE.2 w a b
 unfold vioV at this ⊢
 rw [run_eql_struct] at this
 rw [run_neq_struct]
 revert this
 generalize (Op.equalIn 10000 ty _ _).run P w = res
 intro this
 cases res with
 | ok z w' => simp only [Result.andThen_ok] at this ⊢; cases this; rfl
 | halt z w' => simp [Result.andThen] at this
theorem EqVio.guard {ty : TypeId} (hE : EqVio P ty) (w : World) (op : BinOp) (x y : Operand) (a b : VioD) : (eqGuard op ty x y (vioV a) (vioV b)).run P w = .ok () w := run_eqGuard_agg w _ _ _ _ _ _ hE.1
theorem q_eqlV {ty : TypeId} {a b : VioD} (hE : EqVio P ty) (hx : ev e x = vioV a) (hy : ev e y = vioV b) (hd : Nat.ble (d + 1) N = true)
 (h1 : a = b → QL P N ops C rest KQ (upd e d (.bool true))) (h2 : a ≠ b → QL P N ops C rest KQ (upd e d (.bool false))) :
 QL P N ops C (⟨some d, .binOp .eql ty x y yt, t, p, af, none⟩ :: rest) KQ e := by
 by_cases hh : a = b
 ·exact QL_val rfl rfl hd (fun w _ => by simp only [execOp, hx, hy, Sem.run_bind, hE.guard, Result.andThen_ok, hE.2, Sem.run_pure, decide_eq_true hh]) (h1 hh)
 ·exact QL_val rfl rfl hd (fun w _ => by simp only [execOp, hx, hy, Sem.run_bind, hE.guard, Result.andThen_ok, hE.2, Sem.run_pure, decide_eq_false hh]) (h2 hh)
theorem q_neqV {ty : TypeId} {a b : VioD} (hE : EqVio P ty) (hx : ev e x = vioV a) (hy : ev e y = vioV b) (hd : Nat.ble (d + 1) N = true)
 (h1 : a ≠ b → QL P N ops C rest KQ (upd e d (.bool true))) (h2 : a = b → QL P N ops C rest KQ (upd e d (.bool false))) :
 QL P N ops C (⟨some d, .binOp .neq ty x y yt, t, p, af, none⟩ :: rest) KQ e := by
 by_cases hh : a = b
 ·exact QL_val rfl rfl hd (fun w _ => by simp only [execOp, hx, hy, Sem.run_bind, hE.guard, Result.andThen_ok, hE.neq, Sem.run_pure, decide_eq_true hh]; rfl) (h2 hh)
 ·exact QL_val rfl rfl hd (fun w _ => by simp only [execOp, hx, hy, Sem.run_bind, hE.guard, Result.andThen_ok, hE.neq, Sem.run_pure, decide_eq_false hh]; rfl) (h1 hh)
def rankV (k : Int) : Int := if k = 4 then 0 else if k = 3 then 1 else if k = 5 then 2 else if k = 2 then 3 else 4
def beforeB (v w : VioD) : Bool := if v.at_ ≠ w.at_ then decide (v.at_ < w.at_) else if rankV v.kind ≠ rankV w.kind then decide (rankV v.kind < rankV w.kind) else if v.kind = 2 then decide (v.item < w.item) else decide (v.thread < w.thread)
end
end Go.Fw
namespace Go.Proofs.YtjjmdcnmeommbaaGreatDoor
open Go.Fw Go.RowKit
theorem eq_vio : EqVio Tryz.prog 36 := by
 refine ⟨Tryz.eqGuardType36, fun w a b => ?_⟩
 have ht : Tryz.prog.underlying 36 = some (.struct (Tryz.prog.fieldsOf 36)) := by unfold Program.fieldsOf; rw [Tryz.underlying36]
 have hag : ∀ w, (isAgg 3).run Tryz.prog w = .ok false w := fun w => by simp [isAgg, run_underlying Tryz.underlying3]
 obtain ⟨a1, a2, a3, a4, a5⟩ := a
 obtain ⟨b1, b2, b3, b4, b5⟩ := b
 unfold vioV
 rw [run_eql_struct, run_equalIn_struct w 9999 _ _ _ ht Tryz.stoodInHeld36]
 unfold Program.fieldsOf
 rw [Tryz.underlying36]
 by_cases h1 : a1 = b1 <;> by_cases h2 : a2 = b2 <;> by_cases h3 : a3 = b3 <;> by_cases h4 : a4 = b4 <;> by_cases h5 : a5 = b5 <;> simp [Op.eqFields, part, hag, run_equalIn_int _ 9998 _ .i64 .i64 _ _ Tryz.underlying3, h1, h2, h3, h4, h5]
theorem sameVio_fn (a b : List VioD) (M : List Nat) (w0 : World) (va vb : Value) (hA : RdVs M w0 va a) (hB : RdVs M w0 vb b) :
 Does Tryz.prog 16 #[va, vb] w0 fun v w' => v = .bool (decide (a = b)) ∧ Below w0.heap.size w0 w' := by
 obtain ⟨Aa, na, ca, rfl⟩ := hA.form
 obtain ⟨_, -, _⟩ := hA.len
 obtain ⟨Ab, nb, cb, rfl⟩ := hB.form
 obtain ⟨_, -, _⟩ := hB.len
 have S := St.refl w0
 refine dnR Tryz.func16 rfl Tryz.ntmps16 rfl ?_
 refine wB0 rfl ⟨⟩ (fun h10 => ?_) fun h10 => ?_
 ·refine lR0 rfl ⟨⟩ (ret_1 rfl (by conv => lhs; whnf) ?_)
  exact ⟨by rw [decide_eq_false (ne_len (by omega))], S.fin⟩
 refine lC0 rfl ⟨⟩ (wL (fun μk D ε w => D = [] ∧ ∃ k : Nat, (k + μk = (a.length)) ∧ (EqTo a b k) ∧ St [] w0 w [] ∧ Sl ε [(0, .slice Aa na ca), (1, .slice Ab nb cb), (5, .int .i64 k)]) (μ := (a.length)) ⟨rfl, 0, by omega, EqTo.zero, S, rfl⟩ ?_)
 rintro μk D ε w ⟨rfl, k, _, he, S, eZ⟩
 refine wK eZ (wB0 rfl ⟨⟩ (fun h14 => ?_) fun h14 => ?_)
 ·refine lC0 rfl ⟨⟩ (W_draw fmx [0, 1, 2, 3, 4, 5, 6, 7, 8] [] [] (by kernel_rfl) rfl (Cl _ _ _ _) (Cl.start S) ?_)
  obtain ⟨x, b19, p19, _, hxx, hA19, _, hl19, hc19, hr19⟩ := RdS.get (hA) (k) (by omega)
  obtain ⟨rfl, -, -, -, -, -⟩ := hr19
  obtain ⟨y, b23, p23, _, hxy, hA23, _, hl23, hc23, hr23⟩ := RdS.get (hB) (k) (by omega)
  obtain ⟨rfl, -, -, -, -, -⟩ := hr23
  refine qOn 8 ((S.q.a hc23).a hc19) [.x b19 p19,.v 0,.x b23 p23,.v 1] rfl ⟨⟨rfl,hl23⟩,⟨hA23,by omega⟩,⟨rfl,hl19⟩,⟨hA19,by omega⟩,⟨⟩⟩ (q_neqV eq_vio (a := x) (b := y) rfl rfl rfl (fun h25 => ?_) fun h25 => ?_)
  ·refine qD rfl ⟨⟩ ?_
   rintro wR6 ⟨SR6, XR6⟩
   refine lR0 rfl ⟨⟩ (ret_1 rfl (by conv => lhs; whnf) ?_)
   exact ⟨by rw [decide_eq_false (ne_at hxx hxy (fun e => h25 e))], SR6.fin⟩
  refine qD rfl ⟨⟩ ?_
  rintro wR6 ⟨SR6, XR6⟩
  refine lP0 rfl ⟨by omega,⟨⟩⟩ ⟨μk - 1, by omega, rfl, (k + 1), (by omega), (he.succ hxx hxy h25), SR6, rfl⟩
 refine lR0 rfl ⟨⟩ (ret_1 rfl (by conv => lhs; whnf) ?_)
 exact ⟨by rw [decide_eq_true (he.all (by omega) (by omega))], S.fin⟩
end Go.Proofs.YtjjmdcnmeommbaaGreatDoor
namespace Go.Fw
open Go.RowKit
def runW : List ChoiceD := [⟨0, 0, 0⟩]
def badW : List VioD := [⟨0, 3, 0, 0, 0⟩, ⟨0, 1, 0, 0, 1⟩]
theorem watch_down : decide (watchV downP 0 runW = badW) = true := by kernel_rfl
theorem err_down : decide (errC downP 0 runW = 0) = true := by kernel_rfl
theorem watch_none : decide (watchV downP 0 [] = []) = true := by kernel_rfl
theorem err_none : decide (errC downP 0 [] = 0) = true := by kernel_rfl
end Go.Fw
namespace Go.Proofs.YtjjmdcnmeommbaaGreatDoor
open Go.Fw Go.RowKit
theorem first_down : decide (firstV downP 1 runW = (⟨0, 3, 0, 0, 0⟩, true)) = true := by kernel_rfl
theorem run3_fn (p : ProgD) (M : List Nat) (w0 : World) (cs : List Value) (vr : Value) (hI : InP p M w0 cs) :
 Does Tryz.prog 17 #[.agg cs.toArray, .int .i64 3, vr] w0 fun v w' => v = .tuple #[.slice none 0 0, .int .i64 1, .int .i64 0] ∧ Below w0.heap.size w0 w' := by
 obtain ⟨_, _, _, _, _, _, _, _, _, _, _, _, rfl, _, _, _, _, _, _, _, _, _, _, _, _⟩ := hI.rd.open_
 have hp := hI.ok
 have S := St.refl w0
 refine Does_enterL Tryz.func17 rfl Tryz.ntmps17 rfl ?_
 refine W_seq ?_
 refine W_region ?_
 refine o_boxa S (by conv => lhs; whnf) rfl ?_
 intro g3 w3 S3 X3 G3
 refine o_alloc S3 zv_39 rfl rfl ?_
 intro g6 w6 S6 X6 G6
 refine o_alloc S6 zv_32 rfl rfl ?_
 intro g7 w7 S7 X7 G7
 refine o_alloc S7 zv_3 rfl rfl ?_
 intro g8 w8 S8 X8 G8
 refine WL_nil ?_
 refine W_seq ?_
 refine W_seq ?_
 refine W_region ?_
 refine o_loadN many_27 rfl (S8.cells 3 rfl) rfl rfl ?_
 refine o_callr S8 has_42 rfl rfl (validP_fn p M _ _ (hI.keep (S8.keep0 M)).rd hI.ok (hI.keep (S8.keep0 M)).msk (hI.keep (S8.keep0 M)).lt) ?_
 intro w17 S17 X17
 refine o_move (by conv => lhs; whnf) rfl ?_
 refine o_extract rfl rfl rfl ?_
 refine o_extract rfl rfl rfl ?_
 refine o_extract rfl rfl rfl ?_
 refine o_assign (v := .int .i64 _) rfl rfl ?_
 refine o_assign (v := .int .i64 _) rfl rfl ?_
 refine o_assign (v := .int .i64 _) rfl rfl ?_
 refine WL_nil ?_
 refine W_seq ?_
 refine W_region ?_
 refine o_move (v := .int .i64 _) rfl rfl ?_
 refine o_neq rfl rfl rfl (fun h22 => ?_) fun h22 => ?_
 ·exfalso; omega
 refine WL_nil ?_
 refine W_else rfl ?_
 refine W_skip ?_
 refine W_seq ?_
 refine W_seq ?_
 refine W_region ?_
 refine o_move (v := .int .i64 _) rfl rfl ?_
 refine o_neq rfl rfl rfl (fun h24 => ?_) fun h24 => ?_
 ·refine o_move (v := .bool _) rfl rfl ?_
  refine WL_on rfl rfl rfl ?_
  refine o_move (v := .int .i64 _) rfl rfl ?_
  refine WL_on rfl rfl rfl ?_
  refine o_neq rfl rfl rfl (fun h27 => ?_) fun h27 => ?_
  ·refine o_pick rfl (v := .bool _) rfl rfl ?_
   refine o_move (v := .bool _) rfl rfl ?_
   refine WL_on rfl rfl rfl ?_
   refine o_move (v := .int .i64 _) rfl rfl ?_
   refine WL_on rfl rfl rfl ?_
   refine o_neq rfl rfl rfl (fun h31 => ?_) fun h31 => ?_
   ·refine o_pick rfl (v := .bool _) rfl rfl ?_
    refine WL_nil ?_
    refine W_then rfl ?_
    refine W_seq ?_
    refine W_region ?_
    first | refine o_store (kk := 2) S17 sz_39 rfl (by conv => lhs; whnf) rfl rfl (by exact Nat.le_of_ble_eq_true rfl) ?_
    intro w5_0 S5_0 X5_0
    first | refine o_store (kk := 1) S5_0 sz_32 rfl (by conv => lhs; whnf) rfl rfl (by exact Nat.le_of_ble_eq_true rfl) ?_
    intro w5_1 S5_1 X5_1
    first | refine o_store (kk := 0) S5_1 sz_3 rfl (by conv => lhs; whnf) rfl rfl (by exact Nat.le_of_ble_eq_true rfl) ?_
    intro w5_2 S5_2 X5_2
    refine WL_nil ?_
    refine W_ret ?_
    exact retL_cells3 rfl one_39 one_errno one_3 rfl rfl rfl [] rfl List.nodup_nil NC.nil (S5_2.blk 2 rfl) (S5_2.blk 1 rfl) (S5_2.blk 0 rfl) rfl rfl rfl (fun w' hb => ⟨rfl, (S5_2.below.trans hb).nil⟩)
   exfalso; omega
  exfalso; omega
 exfalso; omega
theorem mWatch3_fn (p : ProgD) (M : List Nat) (w0 : World) (cs : List Value) (vr : Value) (hI : InP p M w0 cs) :
 Does Tryz.prog 15 #[.agg cs.toArray, .int .i64 3, vr] w0 fun v w' => v = .tuple #[.slice none 0 0, .int .i64 1] ∧ Below w0.heap.size w0 w' := by
 obtain ⟨_, _, _, _, _, _, _, _, _, _, _, _, rfl, _, _, _, _, _, _, _, _, _, _, _, _⟩ := hI.rd.open_
 have S := St.refl w0
 refine dnR Tryz.func15 rfl Tryz.ntmps15 rfl ?_
 refine wO0 rfl ⟨⟩ (o_boxa S (by conv => lhs; whnf) rfl ?_)
 intro g3 w3 S3 X3 G3
 refine lOn 8 S3.k [.w 0] rfl ⟨⟨rfl,rfl⟩,⟨⟩⟩ (o_move (by conv => lhs; whnf) rfl ?_)
 refine o_callr S3 has_17 rfl rfl (run3_fn p M _ _ _ (hI.keep (S3.keep0 M))) ?_
 intro w15 S15 X15
 refine lB0 rfl ⟨⟩ (fun h20 => ?_) (fun h20 => by exfalso; omega)
 refine lB0 rfl ⟨⟩ (fun h23 => ?_) (fun h23 => by exfalso; omega)
 refine lR0 rfl ⟨⟩ (ret_2 rfl (by conv => lhs; whnf) (by conv => lhs; whnf) ?_)
 exact ⟨rfl, S15.fin⟩
theorem watchDown_fn (w0 : World) (cs : List Value) (vr : Value) (hI : InP downP [] w0 cs) (hRun : RdCh [] w0 vr runW) :
 Does Tryz.prog 15 #[.agg cs.toArray, .int .i64 0, vr] w0 fun v w' => (∃ A n c, v = .tuple #[.slice A n c, .int .i64 0] ∧ RdVs [] w' (.slice A n c) badW) ∧ Below w0.heap.size w0 w' :=
 Does.mono (mWatch_fn downP 0 (.inl rfl) runW [] _ _ _ hI hRun (by decide)) fun v w' ⟨⟨vl, hv, hr⟩, hb⟩ => by
  obtain ⟨A, n, c, rfl⟩ := hr.form
  rw [of_decide_eq_true err_down] at hv
  rw [of_decide_eq_true watch_down] at hr
  exact ⟨⟨A, n, c, hv, hr⟩, hb⟩
theorem watchNone_fn (w0 : World) (cs : List Value) (hI : InP downP [] w0 cs) :
 Does Tryz.prog 15 #[.agg cs.toArray, .int .i64 0, .slice none 0 0] w0 fun v w' => (∃ A c, v = .tuple #[.slice A 0 c, .int .i64 0]) ∧ Below w0.heap.size w0 w' :=
 Does.mono (mWatch_fn downP 0 (.inl rfl) [] [] _ _ _ hI rdS_nil (by decide)) fun v w' ⟨⟨vl, hv, hr⟩, hb⟩ => by
  obtain ⟨A, n, c, rfl⟩ := hr.form
  rw [of_decide_eq_true err_none] at hv
  rw [of_decide_eq_true watch_none] at hr
  have h0 : n = 0 := hr.len.1
  subst h0
  exact ⟨⟨A, c, hv⟩, hb⟩
theorem firstDown_fn (w0 : World) (cs : List Value) (vr : Value) (hI : InP downP [] w0 cs) (hRun : RdCh [] w0 vr runW) :
 Does Tryz.prog 22 #[.agg cs.toArray, .int .i64 1, vr] w0 fun v w' => v = .tuple #[.agg #[.int .i64 0, .int .i64 3, .int .i64 0, .int .i64 0, .int .i64 0], .bool true] ∧ Below w0.heap.size w0 w' :=
 Does.mono (mFirst_fn downP 1 (.inr (.inl rfl)) runW [] _ _ _ hI hRun (by decide)) fun v w' ⟨⟨vs, hv, hr⟩, hb⟩ => by
  rw [of_decide_eq_true first_down] at hv hr
  rw [hr.1] at hv
  exact ⟨hv, hb⟩
theorem head33_fn (w0 : World) (hK : Masks [] w0) :
 Does Tryz.prog 13 #[] w0 fun v w' => v = .bool true ∧ Below w0.heap.size w0 w' := by
 have S := St.refl w0
 have i0 : i64 0 := by unfold i64; omega
 have i1 : i64 1 := by unfold i64; omega
 have i3 : i64 3 := by unfold i64; omega
 refine dnR Tryz.func13 rfl Tryz.ntmps13 rfl ?_
 refine wO0 rfl ⟨⟩ (o_calln S has_37 rfl rfl (down_fn _) ?_)
 rintro v11 w11 ⟨_, rfl, hP⟩ S11 X11
 have KP := Keep.refl [] w11
 refine o_build bld_68 (vs := []) (cs := [_, _, _]) rfl rfl rfl rfl ?_
 refine o_buildSlice S11 slz_28 (vs := [.agg _]) (cs := [_, _, _]) (by rfl) rfl rfl rfl rfl rfl rfl ?_
 intro g13 w13 S13 X13 G13
 replace KP := KP.trans X13
 have hD : RdCh [] w13 (.slice (some ⟨g13, 0, none⟩) 1 1) runW := rdS_1 (by simp) (S13.cells 0 rfl) rfl ⟨rfl, i0, i0, i0⟩
 refine o_calln S13 has_15 rfl rfl (watchDown_fn _ _ _ ⟨hP.keep KP, down_ok, hK.keep (S13.keep0 []), by simp⟩ hD) ?_
 rintro v14 w14 ⟨_, _, _, rfl, hL⟩ S14 X14
 have KL := Keep.refl [] w14
 refine lO0 rfl ⟨⟩ (o_calln S14 has_37 rfl rfl (down_fn _) ?_)
 rintro v18 w18 ⟨_, rfl, hQ⟩ S18 X18
 replace KL := KL.trans X18
 have KQ := Keep.refl [] w18
 refine o_build bld_68 (vs := []) (cs := [_, _, _]) rfl rfl rfl rfl ?_
 refine o_buildSlice S18 slz_28 (vs := [.agg _]) (cs := [_, _, _]) (by rfl) rfl rfl rfl rfl rfl rfl ?_
 intro g20 w20 S20 X20 G20
 replace KL := KL.trans X20
 replace KQ := KQ.trans X20
 have hD2 : RdCh [] w20 (.slice (some ⟨g20, 0, none⟩) 1 1) runW := rdS_1 (by simp) (S20.cells 0 rfl) rfl ⟨rfl, i0, i0, i0⟩
 refine o_callr S20 has_22 rfl rfl (firstDown_fn _ _ _ ⟨hQ.keep KQ, down_ok, hK.keep (S20.keep0 []), by simp⟩ hD2) ?_
 intro w21 S21 X21
 replace KL := KL.trans X21
 refine lO0 rfl ⟨⟩ (o_alloc S21 zv_36 rfl rfl ?_)
 intro g3 w3 S3 X3 G3
 have GKL3 := Nat.le_trans KL.size G3
 replace KL := KL.trans X3
 refine o_storeN (kk := 0) (vs := [_, _, _, _, _]) S3 sz_36 rfl rfl rfl rfl rfl rfl rfl ?_
 intro w2_8 S2_8 X2_8
 dsimp only [setsAt, List.set] at S2_8
 replace KL := KL.fresh X2_8 (by exact GKL3)
 refine lO0 rfl ⟨⟩ (o_calln S2_8 has_37 rfl rfl (down_fn _) ?_)
 rintro v25 w25 ⟨_, rfl, hR⟩ S25 X25
 replace KL := KL.trans X25
 refine o_calln S25 has_15 rfl rfl (watchNone_fn _ _ ⟨hR, down_ok, hK.keep (S25.keep0 []), by simp⟩) ?_
 rintro v26 w26 ⟨_, _, rfl⟩ S26 X26
 replace KL := KL.trans X26
 refine lO0 rfl ⟨⟩ (o_calln S26 has_37 rfl rfl (down_fn _) ?_)
 rintro v30 w30 ⟨cs, rfl, hT⟩ S30 X30
 replace KL := KL.trans X30
 refine o_callr S30 has_15 rfl rfl (mWatch3_fn downP [] _ _ _ ⟨hT, down_ok, hK.keep (S30.keep0 []), by simp⟩) ?_
 intro w31 S31 X31
 replace KL := KL.trans X31
 refine lO0 rfl ⟨⟩ (o_build bld_36 (vs := [(1, .int .i64 _)]) (cs := [_, _, _, _, _]) rfl rfl rfl rfl ?_)
 refine o_build bld_36 (vs := [(1, .int .i64 _), (4, .int .i64 _)]) (cs := [_, _, _, _, _]) rfl rfl rfl rfl ?_
 refine o_buildSlice S31 slz_31 (vs := [.agg _, .agg _]) (cs := [_, _, _, _, _, _, _, _, _, _]) (by rfl) rfl rfl rfl rfl rfl rfl ?_
 intro g36 w36 S36 X36 G36
 replace KL := KL.trans X36
 refine lC0 rfl ⟨⟩ (W_draw fmx [0, 1, 2, 3, 4, 5, 6, 7, 8, 9, 10, 11, 12, 13, 14, 15, 16, 17, 18, 19, 20, 21, 22, 23, 24, 25, 26, 27, 28, 29, 30] [] [] (by kernel_rfl) rfl (Cl _ _ _ _) (Cl.start S36) ?_)
 refine qB0 rfl ⟨⟩ (fun h38 => ?_) (fun h38 => by exfalso; omega)
 refine qO0 rfl ⟨⟩ ?_
 have hB : RdVs [] w36 (.slice (some ⟨g36, 0, none⟩) 2 2) badW := rdS_2 (c := [_, _, _, _, _]) (c2 := [_, _, _, _, _]) (by simp) (S36.cells 0 rfl) rfl rfl ⟨rfl, i0, i3, i0, i0, i0⟩ ⟨rfl, i0, i1, i0, i0, i1⟩
 refine q_callr has_16 rfl rfl (fun w1 S1 X1 => does_true (sameVio_fn badW badW [] _ _ _ (RdS.keepW (RdS.keepW hL KL (fun _ _ h => h)) X1 (fun _ _ h => h)) (RdS.keepW hB X1 (fun _ _ h => h))) (decide_eq_true rfl)) ?_
 refine qOn 2 S36.q [] rfl ⟨⟩ (QL_on rfl rfl ?_)
 refine q_move (v := .bool true) rfl rfl ?_
 refine qO S36.q [.w 1,.i] rfl ⟨by omega,⟨rfl,by rfl⟩,⟨⟩⟩ (q_loadN many_36 rfl (fun w1 hw => Cells.sub (hw.1.cells 0 rfl) 0 5) rfl rfl ?_)
 refine QL_on rfl rfl ?_
 refine q_eqlV eq_vio (a := ⟨0, 3, 0, 0, 0⟩) (b := ⟨0, 3, 0, 0, 0⟩) rfl rfl rfl (fun h52 => ?_) (fun h52 => absurd rfl h52)
 refine qB0 rfl ⟨⟩ (fun h57 => ?_) (fun h57 => by exfalso; omega)
 refine qB0 rfl ⟨⟩ (fun h61 => ?_) (fun h61 => by exfalso; omega)
 refine qB0 rfl ⟨⟩ (fun h65 => ?_) (fun h65 => by exfalso; omega)
 refine qD rfl ⟨⟩ ?_
 rintro wR6 ⟨SR6, _⟩
 exact lT rfl ⟨⟩ rfl ⟨rfl, SR6.fin⟩
end Go.Proofs.YtjjmdcnmeommbaaGreatDoor
namespace Go.Fw
open Go.RowKit
section
variable {p : ProgD} {m : Int}
theorem mem_guard {c : Prop} [Decidable c] {x v : VioD} (h : v ∈ (if c then [x] else [])) : c ∧ v = x := by
 split at h
 ·rename_i hc; exact ⟨hc, by simpa using h⟩
 ·cases h
theorem mem_frameV {e : EvD} {v : VioD} (h : v ∈ frameV p e) : (e.still = true ∧ frameB p (sOf p e) = true) ∧ v = broken p e 4 := mem_guard h
theorem mem_guarV {e : EvD} {v : VioD} (h : v ∈ guarV p e) : (e.still = true ∧ guarB p e = false) ∧ v = broken p e 3 := mem_guard h
theorem mem_relyV {e : EvD} {v : VioD} (h : v ∈ relyV p e) : e.still = true ∧ frameV p e = [] ∧ guarV p e = [] ∧ ∃ t, t < p.threads.length ∧ v ∈ relyT p e t := by
 unfold relyV at h
 split at h
 ·rename_i hc
  unfold relyTo at h
  obtain ⟨t, ht, h⟩ := List.mem_flatMap.1 h
  exact ⟨hc.1, hc.2.1, hc.2.2, t, List.mem_range.1 ht, h⟩
 ·cases h
theorem mem_relyT {e : EvD} {t : Nat} {v : VioD} (h : v ∈ relyT p e t) : (t : Int) ≠ e.x.thread ∧ e.c.at_.getD t 0 ≠ -1 ∧ (modOf p ((thrOf p t).modules.getD (e.c.at_.getD t 0).toNat 0)).rely.evl e.c.mem e.d.mem = 0 ∧
 v = ⟨e.at_, 5, (thrOf p t).modules.getD (e.c.at_.getD t 0).toNat 0, t, e.c.at_.getD t 0⟩ := by
 unfold relyT at h
 split at h
 ·cases h
 ·rename_i h1
  split at h
  ·rename_i h2
   exact ⟨fun hh => h1 (.inl hh), fun hh => h1 (.inr hh), h2.2, by simpa using h⟩
  ·cases h
theorem mem_locksV {e : EvD} {v : VioD} (h : v ∈ locksV p e) : quietB e.d = true ∧ ∃ (i : Nat) (l : LockD), p.locks[i]? = some l ∧ e.d.mem.getD l.cell.toNat 0 = 0 ∧ l.inv.evl e.d.mem e.d.mem = 0 ∧ v = ⟨e.at_, 2, lockM p e l, if 0 ≤ e.at_ then e.x.thread else -1, i⟩ := by
 unfold locksV at h
 split at h
 ·rename_i hc
  unfold locksTo at h
  obtain ⟨i, _, h⟩ := List.mem_flatMap.1 h
  refine ⟨hc, i, ?_⟩
  unfold lockT at h
  split at h
  ·rename_i l hl
   split at h
   ·cases h
   ·rename_i h1
    simp only [not_or, Decidable.not_not] at h1
    exact ⟨l, hl, h1.1, h1.2, by simpa using h⟩
  ·cases h
 ·cases h
theorem mem_assertsV {e : EvD} {v : VioD} (h : v ∈ assertsV p e) : quietB e.d = true ∧ ∃ t : Nat, t < p.threads.length ∧ e.d.at_.getD t 0 ≠ -1 ∧ ((thrOf p t).asserts.getD (e.d.at_.getD t 0).toNat noE).evl e.d.mem e.d.mem = 0 ∧
 v = ⟨e.at_, 1, assertM p e t, t, e.d.at_.getD t 0⟩ := by
 unfold assertsV at h
 split at h
 ·rename_i hc
  unfold assertsTo at h
  obtain ⟨t, ht, h⟩ := List.mem_flatMap.1 h
  refine ⟨hc, t, List.mem_range.1 ht, ?_⟩
  unfold assertT at h
  split at h
  ·cases h
  ·rename_i h1
   simp only [not_or, Decidable.not_not] at h1
   exact ⟨h1.1, h1.2, by simpa using h⟩
 ·cases h
theorem mem_eventV {e : EvD} {v : VioD} (h : v ∈ eventV p e) : (0 ≤ e.at_ ∧ (v ∈ frameV p e ∨ v ∈ guarV p e ∨ v ∈ relyV p e)) ∨ v ∈ locksV p e ∨ v ∈ assertsV p e := by
 unfold eventV at h
 rw [List.mem_append, List.mem_append] at h
 rcases h with h | h
 ·split at h
  ·rename_i h0
   rw [List.mem_append, List.mem_append] at h
   exact .inl ⟨h0, h⟩
  ·cases h
 ·exact .inr h
theorem eventV_at {e : EvD} {v : VioD} (h : v ∈ eventV p e) : v.at_ = e.at_ := by
 rcases mem_eventV h with ⟨_, h | h | h⟩ | h | h
 ·rw [(mem_frameV h).2]; rfl
 ·rw [(mem_guarV h).2]; rfl
 ·obtain ⟨_, _, _, t, _, h⟩ := mem_relyV h
  rw [(mem_relyT h).2.2.2]
 ·obtain ⟨_, _, _, _, _, _, rfl⟩ := mem_locksV h; rfl
 ·obtain ⟨_, t, _, _, _, rfl⟩ := mem_assertsV h; rfl
theorem evAt_at (run : List ChoiceD) (l : List ConfD) (i : Nat) : (evAt run l i).at_ = (i : Int) - 1 := by
 unfold evAt
 split
 ·rename_i h; subst h; rfl
 ·rfl
end
end Go.Fw
namespace Go.Proofs.YtjjmdcnmeommbaaGreatDoor
open Go.Fw Go.RowKit
theorem rank_fn (k : Int) (w0 : World) : Does Tryz.prog 45 #[.int .i64 k] w0 fun v w' => v = .int .i64 (rankV k) ∧ Below w0.heap.size w0 w' := by
 have S := St.refl w0
 refine dnR Tryz.func45 rfl Tryz.ntmps45 rfl ?_
 refine wB0 rfl ⟨⟩ (fun h5 => ?_) fun h5 => ?_
 ·refine lR0 rfl ⟨⟩ (ret_1 rfl (by conv => lhs; whnf) ?_)
  refine ⟨?_, S.fin⟩
  unfold rankV
  rw [if_pos (by omega)]
 refine lB0 rfl ⟨⟩ (fun h7 => ?_) fun h7 => ?_
 ·refine lR0 rfl ⟨⟩ (ret_1 rfl (by conv => lhs; whnf) ?_)
  refine ⟨?_, S.fin⟩
  unfold rankV
  rw [if_neg (by omega), if_pos (by omega)]
 refine lB0 rfl ⟨⟩ (fun h9 => ?_) fun h9 => ?_
 ·refine lR0 rfl ⟨⟩ (ret_1 rfl (by conv => lhs; whnf) ?_)
  refine ⟨?_, S.fin⟩
  unfold rankV
  rw [if_neg (by omega), if_neg (by omega), if_pos (by omega)]
 refine lB0 rfl ⟨⟩ (fun h11 => ?_) fun h11 => ?_
 ·refine lR0 rfl ⟨⟩ (ret_1 rfl (by conv => lhs; whnf) ?_)
  refine ⟨?_, S.fin⟩
  unfold rankV
  rw [if_neg (by omega), if_neg (by omega), if_neg (by omega), if_pos (by omega)]
 refine lR0 rfl ⟨⟩ (ret_1 rfl (by conv => lhs; whnf) ?_)
 refine ⟨?_, S.fin⟩
 unfold rankV
 rw [if_neg (by omega), if_neg (by omega), if_neg (by omega), if_neg (by omega)]
theorem before_fn (a b : VioD) (w0 : World) : Does Tryz.prog 21 #[vioV a, vioV b] w0 fun v w' => v = .bool (beforeB a b) ∧ Below w0.heap.size w0 w' := by
 have S := St.refl w0
 unfold vioV
 refine dnR Tryz.func21 rfl Tryz.ntmps21 rfl ?_
 refine wO0 rfl ⟨⟩ (o_boxa S (by conv => lhs; whnf) rfl ?_)
 intro g2 w2 S2 X2 G2
 refine o_boxa S2 (by conv => lhs; whnf) rfl ?_
 intro g3 w3 S3 X3 G3
 refine lB S3.k [.o 1,.o 0] rfl ⟨rfl,rfl,⟨⟩⟩ (fun h9 => ?_) fun h9 => ?_
 ·refine lB S3.k [.o 1,.o 0] rfl ⟨rfl,rfl,⟨⟩⟩ (fun h14 => ?_) fun h14 => ?_
  ·refine lR0 rfl ⟨⟩ (ret_1 rfl (by conv => lhs; whnf) ?_)
   refine ⟨?_, S3.fin⟩
   refine congrArg Value.bool ?_
   unfold beforeB
   rw [if_pos (by omega)]; exact (decide_eq_true (by omega)).symm
  refine lR0 rfl ⟨⟩ (ret_1 rfl (by conv => lhs; whnf) ?_)
  refine ⟨?_, S3.fin⟩
  refine congrArg Value.bool ?_
  unfold beforeB
  rw [if_pos (by omega)]; exact (decide_eq_false (by omega)).symm
 refine lC0 rfl ⟨⟩ (W_draw fmx [0, 1, 2, 3, 4, 5, 6] [] [] (by kernel_rfl) rfl (Cl _ _ _ _) (Cl.start S3) ?_)
 refine qO S3.q [.o 1] rfl ⟨rfl,⟨⟩⟩ (q_callr has_45 rfl rfl (fun w1 S1 X1 => rank_fn _ _) ?_)
 refine qO S3.q [.o 0] rfl ⟨rfl,⟨⟩⟩ (q_callr has_45 rfl rfl (fun w1 S1 X1 => rank_fn _ _) ?_)
 refine qB0 rfl ⟨⟩ (fun h21 => ?_) fun h21 => ?_
 ·refine qD rfl ⟨⟩ ?_
  rintro wR3 ⟨SR3, XR3⟩
  refine lC0 rfl ⟨⟩ (W_draw fmx [0, 1, 2, 3, 4, 5, 6, 7] [] [] (by kernel_rfl) rfl (Cl _ _ _ _) (Cl.start SR3) ?_)
  refine qO SR3.q [.o 1] rfl ⟨rfl,⟨⟩⟩ (q_callr has_45 rfl rfl (fun w1 S1 X1 => rank_fn _ _) ?_)
  refine qO SR3.q [.o 0] rfl ⟨rfl,⟨⟩⟩ (q_callr has_45 rfl rfl (fun w1 S1 X1 => rank_fn _ _) ?_)
  refine qB0 rfl ⟨⟩ (fun h28 => ?_) fun h28 => ?_
  ·refine qD rfl ⟨⟩ ?_
   rintro wR4 ⟨SR4, XR4⟩
   refine lR0 rfl ⟨⟩ (ret_1 rfl (by conv => lhs; whnf) ?_)
   refine ⟨?_, SR4.fin⟩
   refine congrArg Value.bool ?_
   unfold beforeB
   rw [if_neg (by omega), if_pos (by omega)]; exact (decide_eq_true (by omega)).symm
  refine qD rfl ⟨⟩ ?_
  rintro wR4 ⟨SR4, XR4⟩
  refine lR0 rfl ⟨⟩ (ret_1 rfl (by conv => lhs; whnf) ?_)
  refine ⟨?_, SR4.fin⟩
  refine congrArg Value.bool ?_
  unfold beforeB
  rw [if_neg (by omega), if_pos (by omega)]; exact (decide_eq_false (by omega)).symm
 refine qD rfl ⟨⟩ ?_
 rintro wR3 ⟨SR3, XR3⟩
 refine lB SR3.k [.o 1] rfl ⟨rfl,⟨⟩⟩ (fun h31 => ?_) fun h31 => ?_
 ·refine lB SR3.k [.o 1,.o 0] rfl ⟨rfl,rfl,⟨⟩⟩ (fun h36 => ?_) fun h36 => ?_
  ·refine lR0 rfl ⟨⟩ (ret_1 rfl (by conv => lhs; whnf) ?_)
   refine ⟨?_, SR3.fin⟩
   refine congrArg Value.bool ?_
   unfold beforeB
   rw [if_neg (by omega), if_neg (by omega), if_pos (by omega)]; exact (decide_eq_true (by omega)).symm
  refine lR0 rfl ⟨⟩ (ret_1 rfl (by conv => lhs; whnf) ?_)
  refine ⟨?_, SR3.fin⟩
  refine congrArg Value.bool ?_
  unfold beforeB
  rw [if_neg (by omega), if_neg (by omega), if_pos (by omega)]; exact (decide_eq_false (by omega)).symm
 refine lB SR3.k [.o 1,.o 0] rfl ⟨rfl,rfl,⟨⟩⟩ (fun h41 => ?_) fun h41 => ?_
 ·refine lR0 rfl ⟨⟩ (ret_1 rfl (by conv => lhs; whnf) ?_)
  refine ⟨?_, SR3.fin⟩
  refine congrArg Value.bool ?_
  unfold beforeB
  rw [if_neg (by omega), if_neg (by omega), if_neg (by omega)]; exact (decide_eq_true (by omega)).symm
 refine lR0 rfl ⟨⟩ (ret_1 rfl (by conv => lhs; whnf) ?_)
 refine ⟨?_, SR3.fin⟩
 refine congrArg Value.bool ?_
 unfold beforeB
 rw [if_neg (by omega), if_neg (by omega), if_neg (by omega)]; exact (decide_eq_false (by omega)).symm
end Go.Proofs.YtjjmdcnmeommbaaGreatDoor
namespace Go.Fw
open Go.RowKit
section
variable {p : ProgD} {m : Int}
theorem pw_flat {α : Type} {R : α → α → Prop} {f : Nat → List α} (h1 : ∀ i, (f i).Pairwise R) (h2 : ∀ i j, i < j → ∀ a ∈ f i, ∀ b ∈ f j, R a b) : ∀ n, ((List.range n).flatMap f).Pairwise R
 | 0 => by simp
 | n + 1 => by
   rw [List.range_succ, List.flatMap_append, List.pairwise_append]
   refine ⟨pw_flat h1 h2 n, by simpa using h1 n, fun a ha b hb => ?_⟩
   obtain ⟨i, hi, ha⟩ := List.mem_flatMap.1 ha
   have hb' : b ∈ f n := by simpa using hb
   exact h2 i n (List.mem_range.1 hi) a ha b hb'
theorem pw_short {α : Type} {R : α → α → Prop} {l : List α} (h : l.length ≤ 1) : l.Pairwise R := by
 match l, h with
 | [], _ => exact List.Pairwise.nil
 | [x], _ => simp
theorem before_at {v w : VioD} (h : v.at_ < w.at_) : beforeB v w = true := by
 unfold beforeB; rw [if_pos (by omega)]; exact decide_eq_true h
theorem before_rank {v w : VioD} (h0 : v.at_ = w.at_) (h : rankV v.kind < rankV w.kind) : beforeB v w = true := by
 unfold beforeB; rw [if_neg (by omega), if_pos (by omega)]; exact decide_eq_true h
theorem before_item {v w : VioD} (h0 : v.at_ = w.at_) (h1 : v.kind = 2) (h2 : w.kind = 2) (h : v.item < w.item) : beforeB v w = true := by
 unfold beforeB; rw [if_neg (by omega), if_neg (by rw [h1, h2]; simp), if_pos h1]; exact decide_eq_true h
theorem before_thread {v w : VioD} (h0 : v.at_ = w.at_) (h1 : v.kind = w.kind) (h2 : v.kind ≠ 2) (h : v.thread < w.thread) : beforeB v w = true := by
 unfold beforeB; rw [if_neg (by omega), if_neg (by rw [h1]; simp), if_neg h2]; exact decide_eq_true h
abbrev Bef (v w : VioD) : Prop := beforeB v w = true
theorem mem_lockT {e : EvD} {i : Nat} {v : VioD} (h : v ∈ lockT p e i) : v.at_ = e.at_ ∧ v.kind = 2 ∧ v.item = i := by
 unfold lockT at h
 split at h
 ·split at h
  ·cases h
  ·obtain rfl : v = _ := by simpa using h
   exact ⟨rfl, rfl, rfl⟩
 ·cases h
theorem mem_assertT {e : EvD} {t : Nat} {v : VioD} (h : v ∈ assertT p e t) : v.at_ = e.at_ ∧ v.kind = 1 ∧ v.thread = t := by
 unfold assertT at h
 split at h
 ·cases h
 ·obtain rfl : v = _ := by simpa using h
  exact ⟨rfl, rfl, rfl⟩
theorem relyTo_pw {e : EvD} (k : Nat) : (relyTo p e k).Pairwise Bef :=
 pw_flat (fun i => pw_short (relyT_len i)) (fun i j hij a ha b hb => by
  have h1 := (mem_relyT ha).2.2.2
  have h2 := (mem_relyT hb).2.2.2
  subst h1; subst h2
  exact before_thread rfl rfl (by show (5 : Int) ≠ 2; omega) (by show (i : Int) < j; omega)) k
theorem locksTo_pw {e : EvD} (k : Nat) : (locksTo p e k).Pairwise Bef :=
 pw_flat (fun i => pw_short (lockT_len i)) (fun i j hij a ha b hb => by
  obtain ⟨_, h2, _⟩ := mem_lockT ha
  obtain ⟨_, g2, _⟩ := mem_lockT hb
  exact before_item (by omega) h2 g2 (by omega)) k
theorem assertsTo_pw {e : EvD} (k : Nat) : (assertsTo p e k).Pairwise Bef :=
 pw_flat (fun i => pw_short (assertT_len i)) (fun i j hij a ha b hb => by
  obtain ⟨_, _, _⟩ := mem_assertT ha
  obtain ⟨_, _, _⟩ := mem_assertT hb
  exact before_thread (by omega) (by omega) (by omega) (by omega)) k
theorem rank_frame {e : EvD} {v : VioD} (h : v ∈ frameV p e) : v.at_ = e.at_ ∧ rankV v.kind = 0 := by rw [(mem_frameV h).2]; exact ⟨rfl, rfl⟩
theorem rank_guar {e : EvD} {v : VioD} (h : v ∈ guarV p e) : v.at_ = e.at_ ∧ rankV v.kind = 1 := by rw [(mem_guarV h).2]; exact ⟨rfl, rfl⟩
theorem rank_rely {e : EvD} {v : VioD} (h : v ∈ relyV p e) : v.at_ = e.at_ ∧ rankV v.kind = 2 := by
 obtain ⟨_, _, _, _, _, h⟩ := mem_relyV h
 rw [(mem_relyT h).2.2.2]; exact ⟨rfl, rfl⟩
theorem rank_locks {e : EvD} {v : VioD} (h : v ∈ locksV p e) : v.at_ = e.at_ ∧ rankV v.kind = 3 := by
 obtain ⟨_, _, _, _, _, _, rfl⟩ := mem_locksV h; exact ⟨rfl, rfl⟩
theorem rank_asserts {e : EvD} {v : VioD} (h : v ∈ assertsV p e) : v.at_ = e.at_ ∧ rankV v.kind = 4 := by
 obtain ⟨_, _, _, _, _, rfl⟩ := mem_assertsV h; exact ⟨rfl, rfl⟩
theorem eventV_pw (e : EvD) : (eventV p e).Pairwise Bef := by
 have r : ∀ {a b : VioD} {i j : Int}, (a.at_ = e.at_ ∧ rankV a.kind = i) → (b.at_ = e.at_ ∧ rankV b.kind = j) → i < j → Bef a b := fun h1 h2 h => before_rank (by omega) (by omega)
 have hl : (locksV p e).Pairwise Bef := by unfold locksV; split; exact locksTo_pw _; exact List.Pairwise.nil
 have ha : (assertsV p e).Pairwise Bef := by unfold assertsV; split; exact assertsTo_pw _; exact List.Pairwise.nil
 have hr : (relyV p e).Pairwise Bef := by unfold relyV; split; exact relyTo_pw _; exact List.Pairwise.nil
 unfold eventV
 rw [List.pairwise_append, List.pairwise_append]
 refine ⟨?_, ⟨hl, ha, fun a ha b hb => r (rank_locks ha) (rank_asserts hb) (by omega)⟩, fun a ha b hb => ?_⟩
 ·split
  ·rw [List.pairwise_append, List.pairwise_append]
   refine ⟨pw_short frameV_len, ⟨pw_short guarV_len, hr, fun a ha b hb => r (rank_guar ha) (rank_rely hb) (by omega)⟩, fun a ha b hb => ?_⟩
   rcases List.mem_append.1 hb with hb | hb
   ·exact r (rank_frame ha) (rank_guar hb) (by omega)
   ·exact r (rank_frame ha) (rank_rely hb) (by omega)
  ·exact List.Pairwise.nil
 ·split at ha
  ·rw [List.mem_append, List.mem_append] at ha
   rw [List.mem_append] at hb
   rcases ha with ha | ha | ha <;> rcases hb with hb | hb
   ·exact r (rank_frame ha) (rank_locks hb) (by omega)
   ·exact r (rank_frame ha) (rank_asserts hb) (by omega)
   ·exact r (rank_guar ha) (rank_locks hb) (by omega)
   ·exact r (rank_guar ha) (rank_asserts hb) (by omega)
   ·exact r (rank_rely ha) (rank_locks hb) (by omega)
   ·exact r (rank_rely ha) (rank_asserts hb) (by omega)
  ·cases ha
theorem watch_pw (run : List ChoiceD) : (watchV p m run).Pairwise Bef :=
 pw_flat (fun _ => eventV_pw _) (fun i j hij a ha b hb => before_at (by rw [eventV_at ha, eventV_at hb, evAt_at, evAt_at]; omega)) _
end
end Go.Fw
namespace Go.Fw
open Go.RowKit
section
variable {P : Program} {r : Option Nat} {N : Nat} {ops : Array Oper} {rest : List Oper} {K : List Deferred → Env → World → Prop} {D : List Deferred} {e : Env} {w : World} {d : Nat} {t : TypeId} {p : String} {af : Array Edge} {x y : Operand} {yt : TypeId}
theorem o_eqlV {ty : TypeId} {a b : VioD} (hE : EqVio P ty) (hx : ev e x = vioV a) (hy : ev e y = vioV b) (hd : Nat.ble (d + 1) N = true)
 (h1 : a = b → WL P r N ops rest K D (upd e d (.bool true)) w) (h2 : a ≠ b → WL P r N ops rest K D (upd e d (.bool false)) w) :
 WL P r N ops (⟨some d, .binOp .eql ty x y yt, t, p, af, none⟩ :: rest) K D e w := by
 by_cases hh : a = b
 ·exact WL_val rfl rfl hd (by simp) (by simp only [execOp, hx, hy, Sem.run_bind, hE.guard, Result.andThen_ok, hE.2, Sem.run_pure, decide_eq_true hh]) (h1 hh)
 ·exact WL_val rfl rfl hd (by simp) (by simp only [execOp, hx, hy, Sem.run_bind, hE.guard, Result.andThen_ok, hE.2, Sem.run_pure, decide_eq_false hh]) (h2 hh)
end
theorem pw_next {α : Type} {R : α → α → Prop} {l : List α} (h : l.Pairwise R) {j : Nat} {a b : α} (ha : l[j]? = some a) (hb : l[j + 1]? = some b) : R a b := by
 obtain ⟨h1, rfl⟩ := List.getElem?_eq_some_iff.1 ha
 obtain ⟨h2, rfl⟩ := List.getElem?_eq_some_iff.1 hb
 exact List.pairwise_iff_getElem.1 h j (j + 1) h1 h2 (by omega)
end Go.Fw
namespace Go.Proofs.YtjjmdcnmeommbaaGreatDoor
open Go.Fw Go.RowKit
theorem monitorOrder_fn (p : ProgD) (m : Int) (hm : 0 ≤ m ∧ m ≤ 255) (run : List ChoiceD) (w0 : World) (cs : List Value) (vr : Value) (hP : RdProg [] w0 p cs) (hN : Named p) (hRun : RdCh [] w0 vr run) (hK : Masks [] w0) :
 Does Tryz.prog 5 #[.agg cs.toArray, .int .u8 m, vr] w0 fun v w' => v = .bool true ∧ Below w0.heap.size w0 w' := by
 obtain ⟨Ac, nc, cc, Am, nm, cm, Al, nl, cl, At, nt, ct, rfl, _, _, _, _, _, _, _, _, _, _, _, _⟩ := hP.open_
 obtain ⟨Ar, nr, cr, rfl⟩ := hRun.form
 obtain ⟨_, _, _⟩ := hRun.len
 have S := St.refl w0
 refine dnR Tryz.func5 rfl Tryz.ntmps5 rfl ?_
 refine wO0 rfl ⟨⟩ (o_boxa S (by conv => lhs; whnf) rfl ?_)
 intro g3 w3 S3 X3 G3
 refine lO0 rfl ⟨⟩ (o_callr S3 has_13 rfl rfl (head33_fn _ (hK.keep (S3.keep0 []))) ?_)
 intro w14 S14 X14
 refine lO S14.k [.w 0] rfl ⟨⟨rfl,rfl⟩,⟨⟩⟩ (o_calls S14 has_14 rfl rfl (small13_fn p [] _ _ (hP.keep (S14.keep0 [])) (by simp) hN) (fun h16 w16 S16 X16 => ?_) (fun w16 S16 X16 => ?_))
 ·refine lB0 rfl ⟨⟩ (fun h21 => ?_) fun h21 => ?_
  ·exact lT rfl ⟨⟩ rfl ⟨rfl, S16.fin⟩
  refine lO0 rfl ⟨⟩ (o_rem rfl rfl (by omega) (by omega) rfl ?_)
  have hI : InP p [] w0 _ := ⟨hP, h16, hK, by simp⟩
  refine o_convI Tryz.underlying5 Tryz.underlying3 rfl rfl ?_
  rw [wrap_id (by unfold i64; omega)]
  obtain ⟨k3, hk3⟩ : ∃ k, k = m % 3 := ⟨_, rfl⟩
  rw [← hk3]
  have hmk : k3 = 0 ∨ k3 = 1 ∨ k3 = 2 := by omega
  refine lO S16.k [.w 0] rfl ⟨⟨rfl,rfl⟩,⟨⟩⟩ (o_calln S16 has_15 rfl rfl (mWatch_fn p k3 hmk run [] _ _ _ (hI.keep (S16.keep0 [])) (hRun.keep (S16.keep0 [])) (by omega)) ?_)
  rintro v31 w31 ⟨_, rfl, hV⟩ S31 X31
  have KV := Keep.refl [] w31
  obtain ⟨Ax, nx, cx, rfl⟩ := hV.form
  obtain ⟨hnx, _, _⟩ := hV.len
  refine lC0 rfl ⟨⟩ (wL (fun μj D ε w => D = [] ∧ ∃ j : Nat, (j + μj = (nx - 1)) ∧ (Keep [] w31 w) ∧ St [] w0 w [(some g3, 27, [.slice Ac nc cc, .slice Am nm cm, .slice Al nl cl, .slice At nt ct])] ∧ Sl ε [(2, .slice Ar nr cr), (3, .pointer (some ⟨g3, 0, none⟩)), (7, .bool true), (8, .int .i64 k3), (9, .slice Ax nx cx), (10, .int .i64 (errC p k3 run)), (11, .int .i64 j)]) (μ := (nx - 1)) ⟨rfl, 0, by omega, KV, S31, rfl⟩ ?_)
  rintro μj D ε w ⟨rfl, j, _, hKV, S, eZ⟩
  refine wK eZ (wB0 rfl ⟨by omega,⟨⟩⟩ (fun h38 => ?_) fun h38 => ?_)
  ·refine lC0 rfl ⟨⟩ (W_draw fmx [0, 1, 2, 3, 4, 5, 6, 7, 8, 9, 10] [] [] (by kernel_rfl) rfl (Cl _ _ _ _) (Cl.start S) ?_)
   obtain ⟨x0, b43, p43, _, hxx0, hA43, _, hl43, hc43, hr43⟩ := RdS.get ((RdS.keepW hV hKV (fun _ _ h => h))) (j) (by omega)
   obtain ⟨rfl, -, -, -, -, -⟩ := hr43
   obtain ⟨x1, b48, p48, _, hxx1, hA48, _, hl48, hc48, hr48⟩ := RdS.get ((RdS.keepW hV hKV (fun _ _ h => h))) (j + 1) (by omega)
   obtain ⟨rfl, -, -, -, -, -⟩ := hr48
   refine qO ((S.q.b hc48).b hc43) [.x b43 p43,.v 0,.x b48 p48,.v 1] rfl ⟨⟨rfl,hl48⟩,⟨hA48,by omega⟩,by omega,⟨rfl,hl43⟩,⟨hA43,by omega⟩,⟨⟩⟩ (q_callr has_21 rfl rfl (fun w1 S1 X1 => does_true (before_fn x0 x1 _) (pw_next (watch_pw run) hxx0 hxx1)) ?_)
   refine qD rfl ⟨⟩ ?_
   rintro wR9 ⟨SR9, XR9⟩
   replace hKV := hKV.trans XR9
   refine lP0 rfl ⟨by omega,⟨⟩⟩ ⟨μj - 1, by omega, rfl, (j + 1), (by omega), (hKV), SR9, rfl⟩
  refine lO S.k [.w 0] rfl ⟨⟨rfl,rfl⟩,⟨⟩⟩ (o_calln S has_22 rfl rfl (mFirst_fn p k3 hmk run [] _ _ _ (hI.keep (S.keep0 [])) (hRun.keep (S.keep0 [])) (by omega)) ?_)
  rintro v56 w56 ⟨vs, rfl, hVs⟩ S56 X56
  replace hKV := hKV.trans X56
  obtain ⟨⟨fv, fb⟩, hf⟩ : ∃ z, firstV p k3 run = z := ⟨_, rfl⟩
  rw [hf] at hVs ⊢
  obtain ⟨rfl, -⟩ := hVs
  have hf1 : fb = true → errC p k3 run = 0 ∧ watchV p k3 run ≠ [] := fun h => by
   subst h; unfold firstV at hf; split at hf
   ·rename_i h; exact h
   ·cases hf
  have hf2 : fb = false → fv = noVio ∧ ¬ (errC p k3 run = 0 ∧ watchV p k3 run ≠ []) := fun h => by
   subst h; unfold firstV at hf; split at hf
   ·cases hf
   ·rename_i h; exact ⟨(Prod.mk.inj hf).1.symm, h⟩
  have hf3 : fb = true → (watchV p k3 run)[0]? = some fv := fun h => by
   have h1 := hf1 h
   unfold firstV at hf; rw [if_pos h1] at hf
   have h2 := (Prod.mk.inj hf).1
   cases hw : watchV p k3 run with
   | nil => exact absurd hw h1.2
   | cons x l => rw [hw] at h2; rw [← h2]; rfl
  refine lO0 rfl ⟨⟩ (o_alloc S56 zv_36 rfl rfl ?_)
  intro g12 w12 S12 X12 G12
  have GhKV12 := Nat.le_trans hKV.size G12
  replace hKV := hKV.trans X12
  refine o_storeN (kk := 0) (vs := [_, _, _, _, _]) S12 sz_36 rfl rfl rfl rfl rfl rfl rfl ?_
  intro w11_8 S11_8 X11_8
  dsimp only [setsAt, List.set] at S11_8
  replace hKV := hKV.fresh X11_8 (by first | exact GhKV12)
  refine lB0 rfl ⟨⟩ (fun h60 => ?_) fun h60 => ?_
  ·refine lOn 12 S11_8.k [] rfl ⟨⟩ (WL_on rfl rfl rfl ?_)
   cases hb68 : fb
   ·refine o_move (v := .bool _) rfl rfl ?_
    refine lO S11_8.k [.w 0] rfl ⟨⟨rfl,by rfl⟩,⟨⟩⟩ (o_build bld_36 (vs := []) (cs := [_, _, _, _, _]) rfl rfl rfl rfl ?_)
    refine WL_on rfl rfl rfl ?_
    refine o_eqlV eq_vio (a := fv) (b := noVio) rfl rfl rfl (fun h74 => ?_) (fun h74 => absurd (hf2 (by assumption)).1 h74)
    exact lT rfl ⟨⟩ rfl ⟨rfl, S11_8.fin⟩
   refine o_move (v := .bool _) rfl rfl ?_
   refine lR0 rfl ⟨⟩ (ret_1 rfl (by conv => lhs; whnf) ?_)
   exfalso; have h1 := hf1 (by assumption); exact absurd h1.1 (by omega)
  refine lB0 rfl ⟨⟩ (fun h64 => ?_) fun h64 => ?_
  ·refine lOn 8 S11_8.k [] rfl ⟨⟩ (WL_on rfl rfl rfl ?_)
   cases hb68 : fb
   ·refine o_move (v := .bool _) rfl rfl ?_
    refine lO S11_8.k [.w 0] rfl ⟨⟨rfl,by rfl⟩,⟨⟩⟩ (o_build bld_36 (vs := []) (cs := [_, _, _, _, _]) rfl rfl rfl rfl ?_)
    refine WL_on rfl rfl rfl ?_
    refine o_eqlV eq_vio (a := fv) (b := noVio) rfl rfl rfl (fun h74 => ?_) (fun h74 => absurd (hf2 (by assumption)).1 h74)
    exact lT rfl ⟨⟩ rfl ⟨rfl, S11_8.fin⟩
   refine o_move (v := .bool _) rfl rfl ?_
   refine lR0 rfl ⟨⟩ (ret_1 rfl (by conv => lhs; whnf) ?_)
   exfalso; have h1 := hf1 (by assumption); exact h1.2 (List.length_eq_zero_iff.1 (by omega))
  refine lC0 rfl ⟨⟩ (W_draw fmx [0, 1, 2, 3, 4, 5, 6, 7, 8, 9, 10, 11] [] [] (by kernel_rfl) rfl (Cl _ _ _ _) (Cl.start S11_8) ?_)
  refine qOn 2 S11_8.q [] rfl ⟨⟩ (QL_on rfl rfl ?_)
  have hfb : fb = true := by
   cases hfb : fb with
   | true => rfl
   | false => exact absurd ⟨by omega, fun h => by rw [h] at hnx; simp at hnx; omega⟩ (hf2 hfb).2
  subst hfb
  refine q_move (v := .bool true) rfl rfl ?_
  obtain ⟨x2, b83, p83, _, hxx2, hA83, _, hl83, hc83, hr83⟩ := RdS.get ((RdS.keepW hV hKV (fun _ _ h => h))) (0) (by omega)
  obtain ⟨rfl, -, -, -, -, -⟩ := hr83
  refine qOn 6 (S11_8.q.b hc83) [.w 0,.x b83 p83,.v 0] rfl ⟨⟨rfl,hl83⟩,⟨hA83,by omega⟩,⟨rfl,by rfl⟩,⟨⟩⟩ (QL_on rfl rfl ?_)
  refine q_eqlV eq_vio (a := fv) (b := x2) rfl rfl rfl (fun h85 => ?_) (fun h85 => absurd (Option.some.inj ((hf3 (by rfl)).symm.trans hxx2)) h85)
  refine qD rfl ⟨⟩ ?_
  rintro wR14 ⟨SR14, _⟩
  exact lT rfl ⟨⟩ rfl ⟨rfl, SR14.fin⟩
 exact lT rfl ⟨⟩ rfl ⟨rfl, S16.fin⟩
end Go.Proofs.YtjjmdcnmeommbaaGreatDoor
