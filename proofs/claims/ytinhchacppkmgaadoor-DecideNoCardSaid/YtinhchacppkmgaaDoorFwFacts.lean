/-
  Facts on the program's types and functions, each closed: by program (gen.py).
-/
import Derived.Test.YtinhchacppkmgaaDoorFwMem
import Derived.Test.YtinhchacppkmgaaDoorRows
namespace Go.Proofs.YtinhchacppkmgaaDoor
open Go.Fw
set_option maxRecDepth 100000
theorem has_3 : Has Tryd.prog 3 := has_of Tryd.func3 (by kernel_rfl) rfl
theorem many_27 : Many Tryd.prog 27 14 := many_of (by rw [Tryd.underlying27]; simp) (by kernel_rfl)
theorem slz_28 : SlZ Tryd.prog 28 3 1 (.int .i64 0) 8 := ⟨Tryd.underlying28, by kernel_rfl, rfl, by decide⟩
theorem fa_27_6 : FA Tryd.prog 27 6 6 := fa_of (n := 3) Tryd.underlying27 rfl rfl (by kernel_rfl)
theorem many_25 : Many Tryd.prog 25 4 := many_of (by rw [Tryd.underlying25]; simp) (by kernel_rfl)
theorem fa_27_7 : FA Tryd.prog 27 7 10 := fa_of (n := 3) Tryd.underlying27 rfl rfl (by kernel_rfl)
theorem has_4 : Has Tryd.prog 4 := has_of Tryd.func4 (by kernel_rfl) rfl
theorem zv_27 : ∀ w, (zeroValue 27).run Tryd.prog w = .ok (.agg #[.string ByteArray.empty, .int .i64 0, .int .i64 0, .int .i64 0, .int .i64 0, .int .i64 0, .int .i64 0, .int .i64 0, .int .i64 0, .slice none 0 0, .int .i64 0, .int .i64 0, .int .i64 0, .slice none 0 0]) w := fun _ => by kernel_rfl
theorem sz_27 : Sz Tryd.prog 27 14 := sz_of (by kernel_rfl)
theorem fa_25_1 : FA Tryd.prog 25 1 1 := fa_of (n := 0) Tryd.underlying25 rfl rfl (by kernel_rfl)
theorem one_3 : One Tryd.prog 3 := one_of Tryd.underlying3 (by intro _ h; cases h) (by intro _ _ h; cases h)
theorem has_5 : Has Tryd.prog 5 := has_of Tryd.func5 (by kernel_rfl) rfl
theorem has_6 : Has Tryd.prog 6 := has_of Tryd.func6 (by kernel_rfl) rfl
theorem slz_22 : SlZ Tryd.prog 22 48 6 (.agg #[.string ByteArray.empty, .int .i64 0, .int .i64 0, .int .i64 0, .bool false, .int .i64 0]) 56 := ⟨Tryd.underlying22, by kernel_rfl, rfl, by decide⟩
theorem slz_23 : SlZ Tryd.prog 23 25 4 (.agg #[.int .i64 0, .int .i64 0, .int .i64 0, .slice none 0 0]) 48 := ⟨Tryd.underlying23, by kernel_rfl, rfl, by decide⟩
theorem sz_25 : Sz Tryd.prog 25 4 := sz_of (by kernel_rfl)
theorem has_7 : Has Tryd.prog 7 := has_of Tryd.func7 (by kernel_rfl) rfl
theorem zv_25 : ∀ w, (zeroValue 25).run Tryd.prog w = .ok (.agg #[.int .i64 0, .int .i64 0, .int .i64 0, .slice none 0 0]) w := fun _ => by kernel_rfl
theorem bld_48 : Bld Tryd.prog 48 [.string ByteArray.empty, .int .i64 0, .int .i64 0, .int .i64 0, .bool false, .int .i64 0] [(0, 1), (1, 1), (2, 1), (3, 1), (4, 1), (5, 1)] := bld_of Tryd.underlying48 (fun _ => by kernel_rfl) (fun _ => by kernel_rfl)
theorem has_8 : Has Tryd.prog 8 := has_of Tryd.func8 (by kernel_rfl) rfl
theorem has_9 : Has Tryd.prog 9 := has_of Tryd.func9 (by kernel_rfl) rfl
theorem zv_3 : ∀ w, (zeroValue 3).run Tryd.prog w = .ok (.int .i64 0) w := fun _ => by kernel_rfl
theorem zv_28 : ∀ w, (zeroValue 28).run Tryd.prog w = .ok (.slice none 0 0) w := fun _ => by kernel_rfl
theorem zv_31 : ∀ w, (zeroValue 31).run Tryd.prog w = .ok (.int .i64 0) w := fun _ => by kernel_rfl
theorem sz_3 : Sz Tryd.prog 3 1 := sz_of (by kernel_rfl)
theorem sz_28 : Sz Tryd.prog 28 1 := sz_of (by kernel_rfl)
theorem sz_31 : Sz Tryd.prog 31 1 := sz_of (by kernel_rfl)
theorem slz_54 : SlZ Tryd.prog 54 28 1 (.slice none 0 0) 24 := ⟨Tryd.underlying54, by kernel_rfl, rfl, by decide⟩
theorem one_28 : One Tryd.prog 28 := one_of Tryd.underlying28 (by intro _ h; cases h) (by intro _ _ h; cases h)
theorem fa_48_1 : FA Tryd.prog 48 1 1 := fa_of (n := 0) Tryd.underlying48 rfl rfl (by kernel_rfl)
theorem zv_49 : ∀ w, (zeroValue 49).run Tryd.prog w = .ok (.nilFunc) w := fun _ => by kernel_rfl
theorem sz_49 : Sz Tryd.prog 49 1 := sz_of (by kernel_rfl)
theorem one_49 : One Tryd.prog 49 := one_of Tryd.underlying49 (by intro _ h; cases h) (by intro _ _ h; cases h)
theorem has_10 : Has Tryd.prog 10 := has_of Tryd.func10 (by kernel_rfl) rfl
theorem has_11 : Has Tryd.prog 11 := has_of Tryd.func11 (by kernel_rfl) rfl
theorem bld_27 : Bld Tryd.prog 27 [.string ByteArray.empty, .int .i64 0, .int .i64 0, .int .i64 0, .int .i64 0, .int .i64 0, .int .i64 0, .int .i64 0, .int .i64 0, .slice none 0 0, .int .i64 0, .int .i64 0, .int .i64 0, .slice none 0 0] [(0, 1), (1, 1), (2, 1), (3, 1), (4, 1), (5, 1), (6, 4), (10, 4)] := bld_of Tryd.underlying27 (fun _ => by kernel_rfl) (fun _ => by kernel_rfl)
theorem has_12 : Has Tryd.prog 12 := has_of Tryd.func12 (by kernel_rfl) rfl
theorem bld_25 : Bld Tryd.prog 25 [.int .i64 0, .int .i64 0, .int .i64 0, .slice none 0 0] [(0, 1), (1, 1), (2, 1), (3, 1)] := bld_of Tryd.underlying25 (fun _ => by kernel_rfl) (fun _ => by kernel_rfl)
theorem has_13 : Has Tryd.prog 13 := has_of Tryd.func13 (by kernel_rfl) rfl
theorem has_14 : Has Tryd.prog 14 := has_of Tryd.func14 (by kernel_rfl) rfl
theorem has_15 : Has Tryd.prog 15 := has_of Tryd.func15 (by kernel_rfl) rfl
theorem has_16 : Has Tryd.prog 16 := has_of Tryd.func16 (by kernel_rfl) rfl
theorem has_17 : Has Tryd.prog 17 := has_of Tryd.func17 (by kernel_rfl) rfl
theorem has_18 : Has Tryd.prog 18 := has_of Tryd.func18 (by kernel_rfl) rfl
theorem has_19 : Has Tryd.prog 19 := has_of Tryd.func19 (by kernel_rfl) rfl
theorem has_20 : Has Tryd.prog 20 := has_of Tryd.func20 (by kernel_rfl) rfl
theorem has_21 : Has Tryd.prog 21 := has_of Tryd.func21 (by kernel_rfl) rfl
theorem has_22 : Has Tryd.prog 22 := has_of Tryd.func22 (by kernel_rfl) rfl
theorem has_23 : Has Tryd.prog 23 := has_of Tryd.func23 (by kernel_rfl) rfl
theorem has_24 : Has Tryd.prog 24 := has_of Tryd.func24 (by kernel_rfl) rfl
theorem has_25 : Has Tryd.prog 25 := has_of Tryd.func25 (by kernel_rfl) rfl
theorem has_26 : Has Tryd.prog 26 := has_of Tryd.func26 (by kernel_rfl) rfl
theorem zv_4 : ∀ w, (zeroValue 4).run Tryd.prog w = .ok (.bool false) w := fun _ => by kernel_rfl
theorem sz_4 : Sz Tryd.prog 4 1 := sz_of (by kernel_rfl)
theorem one_4 : One Tryd.prog 4 := one_of Tryd.underlying4 (by intro _ h; cases h) (by intro _ _ h; cases h)
theorem has_27 : Has Tryd.prog 27 := has_of Tryd.func27 (by kernel_rfl) rfl
theorem has_28 : Has Tryd.prog 28 := has_of Tryd.func28 (by kernel_rfl) rfl
theorem has_29 : Has Tryd.prog 29 := has_of Tryd.func29 (by kernel_rfl) rfl
theorem has_30 : Has Tryd.prog 30 := has_of Tryd.func30 (by kernel_rfl) rfl
theorem zv_68 : ∀ w, (zeroValue 68).run Tryd.prog w = .ok (.nilFunc) w := fun _ => by kernel_rfl
theorem sz_68 : Sz Tryd.prog 68 1 := sz_of (by kernel_rfl)
theorem one_68 : One Tryd.prog 68 := one_of Tryd.underlying68 (by intro _ h; cases h) (by intro _ _ h; cases h)
theorem has_31 : Has Tryd.prog 31 := has_of Tryd.func31 (by kernel_rfl) rfl
theorem fa_25_0 : FA Tryd.prog 25 0 0 := fa_of (n := 0) Tryd.underlying25 rfl rfl (by kernel_rfl)
theorem fa_25_2 : FA Tryd.prog 25 2 2 := fa_of (n := 0) Tryd.underlying25 rfl rfl (by kernel_rfl)
theorem art_71 : ArT Tryd.prog 71 9 1 := arT_of Tryd.underlying71 (by kernel_rfl) (fun _ _ => by kernel_rfl)
theorem zv_72 : ∀ w, (zeroValue 72).run Tryd.prog w = .ok (.agg #[.int .i64 0, .int .i64 0, .int .i64 0]) w := fun _ => by kernel_rfl
theorem fa_25_3 : FA Tryd.prog 25 3 3 := fa_of (n := 0) Tryd.underlying25 rfl rfl (by kernel_rfl)
theorem one_23 : One Tryd.prog 23 := one_of Tryd.underlying23 (by intro _ h; cases h) (by intro _ _ h; cases h)
theorem art_72 : ArT Tryd.prog 72 3 1 := arT_of Tryd.underlying72 (by kernel_rfl) (fun _ _ => by kernel_rfl)
theorem many_72 : Many Tryd.prog 72 3 := many_of (by rw [Tryd.underlying72]; simp) (by kernel_rfl)
theorem has_32 : Has Tryd.prog 32 := has_of Tryd.func32 (by kernel_rfl) rfl
theorem has_33 : Has Tryd.prog 33 := has_of Tryd.func33 (by kernel_rfl) rfl
theorem has_34 : Has Tryd.prog 34 := has_of Tryd.func34 (by kernel_rfl) rfl
theorem has_35 : Has Tryd.prog 35 := has_of Tryd.func35 (by kernel_rfl) rfl
theorem has_36 : Has Tryd.prog 36 := has_of Tryd.func36 (by kernel_rfl) rfl
theorem has_37 : Has Tryd.prog 37 := has_of Tryd.func37 (by kernel_rfl) rfl
theorem has_38 : Has Tryd.prog 38 := has_of Tryd.func38 (by kernel_rfl) rfl
theorem has_39 : Has Tryd.prog 39 := has_of Tryd.func39 (by kernel_rfl) rfl
theorem has_40 : Has Tryd.prog 40 := has_of Tryd.func40 (by kernel_rfl) rfl
theorem one_22 : One Tryd.prog 22 := one_of Tryd.underlying22 (by intro _ h; cases h) (by intro _ _ h; cases h)
theorem has_41 : Has Tryd.prog 41 := has_of Tryd.func41 (by kernel_rfl) rfl
theorem zv_76 : ∀ w, (zeroValue 76).run Tryd.prog w = .ok (.agg #[.bool false, .bool false, .bool false, .bool false, .bool false, .bool false, .bool false, .bool false, .bool false, .bool false, .bool false, .bool false, .bool false, .bool false, .bool false, .bool false, .bool false, .bool false, .bool false, .bool false, .bool false, .bool false, .bool false, .bool false, .bool false, .bool false, .bool false, .bool false, .bool false, .bool false, .bool false, .bool false]) w := fun _ => by kernel_rfl
theorem many_76 : Many Tryd.prog 76 32 := many_of (by rw [Tryd.underlying76]; simp) (by kernel_rfl)
theorem has_42 : Has Tryd.prog 42 := has_of Tryd.func42 (by kernel_rfl) rfl
theorem has_43 : Has Tryd.prog 43 := has_of Tryd.func43 (by kernel_rfl) rfl
theorem has_44 : Has Tryd.prog 44 := has_of Tryd.func44 (by kernel_rfl) rfl
theorem has_45 : Has Tryd.prog 45 := has_of Tryd.func45 (by kernel_rfl) rfl
theorem has_46 : Has Tryd.prog 46 := has_of Tryd.func46 (by kernel_rfl) rfl
theorem has_47 : Has Tryd.prog 47 := has_of Tryd.func47 (by kernel_rfl) rfl
theorem has_48 : Has Tryd.prog 48 := has_of Tryd.func48 (by kernel_rfl) rfl
theorem has_49 : Has Tryd.prog 49 := has_of Tryd.func49 (by kernel_rfl) rfl
theorem has_50 : Has Tryd.prog 50 := has_of Tryd.func50 (by kernel_rfl) rfl
theorem slz_83 : SlZ Tryd.prog 83 4 1 (.bool false) 1 := ⟨Tryd.underlying83, by kernel_rfl, rfl, by decide⟩
theorem has_51 : Has Tryd.prog 51 := has_of Tryd.func51 (by kernel_rfl) rfl
theorem has_52 : Has Tryd.prog 52 := has_of Tryd.func52 (by kernel_rfl) rfl
theorem has_53 : Has Tryd.prog 53 := has_of Tryd.func53 (by kernel_rfl) rfl
theorem has_54 : Has Tryd.prog 54 := has_of Tryd.func54 (by kernel_rfl) rfl
theorem has_55 : Has Tryd.prog 55 := has_of Tryd.func55 (by kernel_rfl) rfl
theorem has_56 : Has Tryd.prog 56 := has_of Tryd.func56 (by kernel_rfl) rfl
theorem has_57 : Has Tryd.prog 57 := has_of Tryd.func57 (by kernel_rfl) rfl
theorem has_58 : Has Tryd.prog 58 := has_of Tryd.func58 (by kernel_rfl) rfl
theorem has_59 : Has Tryd.prog 59 := has_of Tryd.func59 (by kernel_rfl) rfl
theorem has_60 : Has Tryd.prog 60 := has_of Tryd.func60 (by kernel_rfl) rfl
theorem art_76 : ArT Tryd.prog 76 32 1 := arT_of Tryd.underlying76 (by kernel_rfl) (fun _ _ => by kernel_rfl)
theorem has_61 : Has Tryd.prog 61 := has_of Tryd.func61 (by kernel_rfl) rfl
theorem has_62 : Has Tryd.prog 62 := has_of Tryd.func62 (by kernel_rfl) rfl
theorem has_63 : Has Tryd.prog 63 := has_of Tryd.func63 (by kernel_rfl) rfl
theorem has_64 : Has Tryd.prog 64 := has_of Tryd.func64 (by kernel_rfl) rfl
theorem has_65 : Has Tryd.prog 65 := has_of Tryd.func65 (by kernel_rfl) rfl
theorem has_66 : Has Tryd.prog 66 := has_of Tryd.func66 (by kernel_rfl) rfl
theorem has_67 : Has Tryd.prog 67 := has_of Tryd.func67 (by kernel_rfl) rfl
theorem has_68 : Has Tryd.prog 68 := has_of Tryd.func68 (by kernel_rfl) rfl
theorem has_69 : Has Tryd.prog 69 := has_of Tryd.func69 (by kernel_rfl) rfl
theorem has_70 : Has Tryd.prog 70 := has_of Tryd.func70 (by kernel_rfl) rfl
theorem has_71 : Has Tryd.prog 71 := has_of Tryd.func71 (by kernel_rfl) rfl
theorem has_72 : Has Tryd.prog 72 := has_of Tryd.func72 (by kernel_rfl) rfl
theorem has_73 : Has Tryd.prog 73 := has_of Tryd.func73 (by kernel_rfl) rfl
theorem has_74 : Has Tryd.prog 74 := has_of Tryd.func74 (by kernel_rfl) rfl
theorem has_75 : Has Tryd.prog 75 := has_of Tryd.func75 (by kernel_rfl) rfl
theorem has_76 : Has Tryd.prog 76 := has_of Tryd.func76 (by kernel_rfl) rfl
theorem has_77 : Has Tryd.prog 77 := has_of Tryd.func77 (by kernel_rfl) rfl
theorem has_78 : Has Tryd.prog 78 := has_of Tryd.func78 (by kernel_rfl) rfl
theorem has_79 : Has Tryd.prog 79 := has_of Tryd.func79 (by kernel_rfl) rfl
theorem zv_106 : ∀ w, (zeroValue 106).run Tryd.prog w = .ok (.int .u64 0) w := fun _ => by kernel_rfl
theorem sz_106 : Sz Tryd.prog 106 1 := sz_of (by kernel_rfl)
theorem has_80 : Has Tryd.prog 80 := has_of Tryd.func80 (by kernel_rfl) rfl
theorem has_81 : Has Tryd.prog 81 := has_of Tryd.func81 (by kernel_rfl) rfl
theorem has_82 : Has Tryd.prog 82 := has_of Tryd.func82 (by kernel_rfl) rfl
theorem has_83 : Has Tryd.prog 83 := has_of Tryd.func83 (by kernel_rfl) rfl
theorem has_84 : Has Tryd.prog 84 := has_of Tryd.func84 (by kernel_rfl) rfl
theorem has_85 : Has Tryd.prog 85 := has_of Tryd.func85 (by kernel_rfl) rfl
theorem has_86 : Has Tryd.prog 86 := has_of Tryd.func86 (by kernel_rfl) rfl
theorem has_87 : Has Tryd.prog 87 := has_of Tryd.func87 (by kernel_rfl) rfl
theorem has_88 : Has Tryd.prog 88 := has_of Tryd.func88 (by kernel_rfl) rfl
theorem has_89 : Has Tryd.prog 89 := has_of Tryd.func89 (by kernel_rfl) rfl
theorem has_90 : Has Tryd.prog 90 := has_of Tryd.func90 (by kernel_rfl) rfl
theorem has_91 : Has Tryd.prog 91 := has_of Tryd.func91 (by kernel_rfl) rfl
theorem one_106 : One Tryd.prog 106 := one_of Tryd.underlying106 (by intro _ h; cases h) (by intro _ _ h; cases h)
theorem has_92 : Has Tryd.prog 92 := has_of Tryd.func92 (by kernel_rfl) rfl
theorem has_93 : Has Tryd.prog 93 := has_of Tryd.func93 (by kernel_rfl) rfl
theorem has_94 : Has Tryd.prog 94 := has_of Tryd.func94 (by kernel_rfl) rfl
theorem has_95 : Has Tryd.prog 95 := has_of Tryd.func95 (by kernel_rfl) rfl
theorem follows_mixed : Tryd.prog.follows .mixedOrders = true := by kernel_rfl
end Go.Proofs.YtinhchacppkmgaaDoor
