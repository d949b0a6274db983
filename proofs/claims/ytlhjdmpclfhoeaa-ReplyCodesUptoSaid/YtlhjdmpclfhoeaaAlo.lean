/- The three regions behind the loop of package reply's alone, walked by single entries of the frame: what they lay into it. Written by wip/alone.py, a program of this work. -/
import Derived.Test.YtlhjdmpclfhoeaaFast
import Derived.Test.YtlhjdmpclfhoeaaPCx6
set_option linter.unusedVariables false
set_option linter.unusedSimpArgs false
namespace Go.Proofs.Ytlhjdmpclfhoeaa.PC
open Go.RowKit Go.Proofs.YtlhjdmpclfhoeaaW.PrintWords Go.Proofs.YtlhjdmpclfhoeaaW.PrintLast Go.Proofs.YtlhjdmpclfhoeaaW.PrintMore Go.Proofs.Ytlhjdmpclfhoeaa.Fast
noncomputable abbrev al10 : Array Oper := opsOf Try.f23 10
theorem o10_0 : IsOp al10 0 (.move (.tmp 3)) 24 none := isOp_of (by kernel_rfl)
theorem o10_1 : IsOp al10 1 (.binOp .eql 3 (.tmp 24) (.const (.int .i64 1)) 3) 25 none := isOp_of (by kernel_rfl)
theorem o10_2 : IsOp al10 2 (.move (.tmp 25)) 26 none := isOp_of (by kernel_rfl)
theorem o10_3 : IsOp al10 3 (.move (.tmp 3)) 27 (some (2, false)) := isOp_of (by kernel_rfl)
theorem o10_4 : IsOp al10 4 (.binOp .eql 3 (.tmp 27) (.const (.int .i64 2)) 3) 28 (some (2, false)) := isOp_of (by kernel_rfl)
theorem o10_5 : IsOp al10 5 (.pick (.tmp 26) (.const (.bool true)) (.tmp 28)) 29 none := isOp_of (by kernel_rfl)
theorem o10_6 : IsOp al10 6 (.move (.tmp 29)) 30 none := isOp_of (by kernel_rfl)
theorem o10_7 : IsOp al10 7 (.move (.tmp 3)) 31 (some (6, false)) := isOp_of (by kernel_rfl)
theorem o10_8 : IsOp al10 8 (.binOp .eql 3 (.tmp 31) (.const (.int .i64 3)) 3) 32 (some (6, false)) := isOp_of (by kernel_rfl)
theorem o10_9 : IsOp al10 9 (.pick (.tmp 30) (.const (.bool true)) (.tmp 32)) 33 none := isOp_of (by kernel_rfl)
theorem o10_10 : IsOp al10 10 (.assign (.tmp 33)) 6 none := isOp_of (by kernel_rfl)
noncomputable abbrev al11 : Array Oper := opsOf Try.f23 11
theorem o11_0 : IsOp al11 0 (.move (.tmp 3)) 34 none := isOp_of (by kernel_rfl)
theorem o11_1 : IsOp al11 1 (.binOp .eql 3 (.tmp 34) (.const (.int .i64 6)) 3) 35 none := isOp_of (by kernel_rfl)
theorem o11_2 : IsOp al11 2 (.move (.tmp 35)) 36 none := isOp_of (by kernel_rfl)
theorem o11_3 : IsOp al11 3 (.move (.tmp 3)) 37 (some (2, false)) := isOp_of (by kernel_rfl)
theorem o11_4 : IsOp al11 4 (.binOp .eql 3 (.tmp 37) (.const (.int .i64 8)) 3) 38 (some (2, false)) := isOp_of (by kernel_rfl)
theorem o11_5 : IsOp al11 5 (.pick (.tmp 36) (.const (.bool true)) (.tmp 38)) 39 none := isOp_of (by kernel_rfl)
theorem o11_6 : IsOp al11 6 (.move (.tmp 39)) 40 none := isOp_of (by kernel_rfl)
theorem o11_7 : IsOp al11 7 (.move (.tmp 3)) 41 (some (6, false)) := isOp_of (by kernel_rfl)
theorem o11_8 : IsOp al11 8 (.binOp .eql 3 (.tmp 41) (.const (.int .i64 13)) 3) 42 (some (6, false)) := isOp_of (by kernel_rfl)
theorem o11_9 : IsOp al11 9 (.pick (.tmp 40) (.const (.bool true)) (.tmp 42)) 43 none := isOp_of (by kernel_rfl)
theorem o11_10 : IsOp al11 10 (.move (.tmp 43)) 44 none := isOp_of (by kernel_rfl)
theorem o11_11 : IsOp al11 11 (.move (.tmp 3)) 45 (some (10, false)) := isOp_of (by kernel_rfl)
theorem o11_12 : IsOp al11 12 (.binOp .eql 3 (.tmp 45) (.const (.int .i64 9)) 3) 46 (some (10, false)) := isOp_of (by kernel_rfl)
theorem o11_13 : IsOp al11 13 (.pick (.tmp 44) (.const (.bool true)) (.tmp 46)) 47 none := isOp_of (by kernel_rfl)
theorem o11_14 : IsOp al11 14 (.assign (.tmp 47)) 7 none := isOp_of (by kernel_rfl)
noncomputable abbrev al12 : Array Oper := opsOf Try.f23 12
theorem o12_0 : IsOp al12 0 (.move (.tmp 6)) 48 none := isOp_of (by kernel_rfl)
theorem o12_1 : IsOp al12 1 (.move (.tmp 48)) 49 none := isOp_of (by kernel_rfl)
theorem o12_2 : IsOp al12 2 (.fieldAddr 33 (.tmp 1) 3) 50 (some (1, true)) := isOp_of (by kernel_rfl)
theorem o12_3 : IsOp al12 3 (.load 27 (.tmp 50)) 51 (some (1, true)) := isOp_of (by kernel_rfl)
theorem o12_4 : IsOp al12 4 (.call { callee := .value (.func 48), args := #[.tmp 51], argTypes := #[27] }) 52 (some (1, true)) := isOp_of (by kernel_rfl)
theorem o12_5 : IsOp al12 5 (.pick (.tmp 49) (.tmp 52) (.const (.bool false))) 53 none := isOp_of (by kernel_rfl)
theorem o12_6 : IsOp al12 6 (.move (.tmp 53)) 54 none := isOp_of (by kernel_rfl)
theorem o12_7 : IsOp al12 7 (.move (.tmp 6)) 55 (some (6, false)) := isOp_of (by kernel_rfl)
theorem o12_8 : IsOp al12 8 (.unOp .not 4 (.tmp 55)) 56 (some (6, false)) := isOp_of (by kernel_rfl)
theorem o12_9 : IsOp al12 9 (.move (.tmp 56)) 57 (some (6, false)) := isOp_of (by kernel_rfl)
theorem o12_10 : IsOp al12 10 (.fieldAddr 33 (.tmp 1) 3) 58 (some (9, true)) := isOp_of (by kernel_rfl)
theorem o12_11 : IsOp al12 11 (.load 27 (.tmp 58)) 59 (some (9, true)) := isOp_of (by kernel_rfl)
theorem o12_12 : IsOp al12 12 (.call { callee := .value (.func 49), args := #[.tmp 59], argTypes := #[27] }) 60 (some (9, true)) := isOp_of (by kernel_rfl)
theorem o12_13 : IsOp al12 13 (.pick (.tmp 57) (.tmp 60) (.const (.bool false))) 61 (some (6, false)) := isOp_of (by kernel_rfl)
theorem o12_14 : IsOp al12 14 (.pick (.tmp 54) (.const (.bool true)) (.tmp 61)) 62 none := isOp_of (by kernel_rfl)
theorem o12_15 : IsOp al12 15 (.move (.tmp 62)) 63 none := isOp_of (by kernel_rfl)
theorem o12_16 : IsOp al12 16 (.move (.tmp 3)) 64 (some (15, true)) := isOp_of (by kernel_rfl)
theorem o12_17 : IsOp al12 17 (.binOp .eql 3 (.tmp 64) (.const (.int .i64 4)) 3) 65 (some (15, true)) := isOp_of (by kernel_rfl)
theorem o12_18 : IsOp al12 18 (.move (.tmp 65)) 66 (some (15, true)) := isOp_of (by kernel_rfl)
theorem o12_19 : IsOp al12 19 (.fieldAddr 33 (.tmp 1) 5) 67 (some (18, false)) := isOp_of (by kernel_rfl)
theorem o12_20 : IsOp al12 20 (.load 28 (.tmp 67)) 68 (some (18, false)) := isOp_of (by kernel_rfl)
theorem o12_21 : IsOp al12 21 (.call { callee := .builtin .len, args := #[.tmp 68], argTypes := #[28] }) 69 (some (18, false)) := isOp_of (by kernel_rfl)
theorem o12_22 : IsOp al12 22 (.binOp .eql 3 (.tmp 69) (.const (.int .i64 0)) 3) 70 (some (18, false)) := isOp_of (by kernel_rfl)
theorem o12_23 : IsOp al12 23 (.pick (.tmp 66) (.const (.bool true)) (.tmp 70)) 71 (some (15, true)) := isOp_of (by kernel_rfl)
theorem o12_24 : IsOp al12 24 (.pick (.tmp 63) (.tmp 71) (.const (.bool false))) 72 none := isOp_of (by kernel_rfl)
theorem o12_25 : IsOp al12 25 (.move (.tmp 72)) 73 none := isOp_of (by kernel_rfl)
theorem o12_26 : IsOp al12 26 (.move (.tmp 3)) 74 (some (25, true)) := isOp_of (by kernel_rfl)
theorem o12_27 : IsOp al12 27 (.binOp .eql 3 (.tmp 74) (.const (.int .i64 4)) 3) 75 (some (25, true)) := isOp_of (by kernel_rfl)
theorem o12_28 : IsOp al12 28 (.move (.tmp 75)) 76 (some (25, true)) := isOp_of (by kernel_rfl)
theorem o12_29 : IsOp al12 29 (.move (.tmp 3)) 77 (some (28, false)) := isOp_of (by kernel_rfl)
theorem o12_30 : IsOp al12 30 (.binOp .eql 3 (.tmp 77) (.const (.int .i64 8)) 3) 78 (some (28, false)) := isOp_of (by kernel_rfl)
theorem o12_31 : IsOp al12 31 (.pick (.tmp 76) (.const (.bool true)) (.tmp 78)) 79 (some (25, true)) := isOp_of (by kernel_rfl)
theorem o12_32 : IsOp al12 32 (.move (.tmp 79)) 80 (some (25, true)) := isOp_of (by kernel_rfl)
theorem o12_33 : IsOp al12 33 (.move (.tmp 3)) 81 (some (32, false)) := isOp_of (by kernel_rfl)
theorem o12_34 : IsOp al12 34 (.binOp .eql 3 (.tmp 81) (.const (.int .i64 13)) 3) 82 (some (32, false)) := isOp_of (by kernel_rfl)
theorem o12_35 : IsOp al12 35 (.pick (.tmp 80) (.const (.bool true)) (.tmp 82)) 83 (some (25, true)) := isOp_of (by kernel_rfl)
theorem o12_36 : IsOp al12 36 (.move (.tmp 83)) 84 (some (25, true)) := isOp_of (by kernel_rfl)
theorem o12_37 : IsOp al12 37 (.fieldAddr 33 (.tmp 1) 4) 85 (some (36, false)) := isOp_of (by kernel_rfl)
theorem o12_38 : IsOp al12 38 (.load 4 (.tmp 85)) 86 (some (36, false)) := isOp_of (by kernel_rfl)
theorem o12_39 : IsOp al12 39 (.unOp .not 4 (.tmp 86)) 87 (some (36, false)) := isOp_of (by kernel_rfl)
theorem o12_40 : IsOp al12 40 (.pick (.tmp 84) (.const (.bool true)) (.tmp 87)) 88 (some (25, true)) := isOp_of (by kernel_rfl)
theorem o12_41 : IsOp al12 41 (.pick (.tmp 73) (.tmp 88) (.const (.bool false))) 89 none := isOp_of (by kernel_rfl)
theorem o12_42 : IsOp al12 42 (.move (.tmp 89)) 90 none := isOp_of (by kernel_rfl)
theorem o12_43 : IsOp al12 43 (.move (.tmp 7)) 91 (some (42, true)) := isOp_of (by kernel_rfl)
theorem o12_44 : IsOp al12 44 (.move (.tmp 91)) 92 (some (42, true)) := isOp_of (by kernel_rfl)
theorem o12_45 : IsOp al12 45 (.move (.tmp 3)) 93 (some (44, false)) := isOp_of (by kernel_rfl)
theorem o12_46 : IsOp al12 46 (.binOp .eql 3 (.tmp 93) (.const (.int .i64 11)) 3) 94 (some (44, false)) := isOp_of (by kernel_rfl)
theorem o12_47 : IsOp al12 47 (.pick (.tmp 92) (.const (.bool true)) (.tmp 94)) 95 (some (42, true)) := isOp_of (by kernel_rfl)
theorem o12_48 : IsOp al12 48 (.move (.tmp 95)) 96 (some (42, true)) := isOp_of (by kernel_rfl)
theorem o12_49 : IsOp al12 49 (.fieldAddr 33 (.tmp 1) 6) 97 (some (48, false)) := isOp_of (by kernel_rfl)
theorem o12_50 : IsOp al12 50 (.load 2 (.tmp 97)) 98 (some (48, false)) := isOp_of (by kernel_rfl)
theorem o12_51 : IsOp al12 51 (.binOp .eql 2 (.tmp 98) (.const (.int .i64 0)) 2) 99 (some (48, false)) := isOp_of (by kernel_rfl)
theorem o12_52 : IsOp al12 52 (.pick (.tmp 96) (.const (.bool true)) (.tmp 99)) 100 (some (42, true)) := isOp_of (by kernel_rfl)
theorem o12_53 : IsOp al12 53 (.pick (.tmp 90) (.tmp 100) (.const (.bool false))) 101 none := isOp_of (by kernel_rfl)
theorem o12_54 : IsOp al12 54 (.move (.tmp 101)) 102 none := isOp_of (by kernel_rfl)
theorem o12_55 : IsOp al12 55 (.move (.tmp 7)) 103 (some (54, true)) := isOp_of (by kernel_rfl)
theorem o12_56 : IsOp al12 56 (.move (.tmp 103)) 104 (some (54, true)) := isOp_of (by kernel_rfl)
theorem o12_57 : IsOp al12 57 (.move (.tmp 3)) 105 (some (56, false)) := isOp_of (by kernel_rfl)
theorem o12_58 : IsOp al12 58 (.binOp .eql 3 (.tmp 105) (.const (.int .i64 15)) 3) 106 (some (56, false)) := isOp_of (by kernel_rfl)
theorem o12_59 : IsOp al12 59 (.pick (.tmp 104) (.const (.bool true)) (.tmp 106)) 107 (some (54, true)) := isOp_of (by kernel_rfl)
theorem o12_60 : IsOp al12 60 (.move (.tmp 107)) 108 (some (54, true)) := isOp_of (by kernel_rfl)
theorem o12_61 : IsOp al12 61 (.fieldAddr 33 (.tmp 1) 7) 109 (some (60, false)) := isOp_of (by kernel_rfl)
theorem o12_62 : IsOp al12 62 (.load 2 (.tmp 109)) 110 (some (60, false)) := isOp_of (by kernel_rfl)
theorem o12_63 : IsOp al12 63 (.binOp .eql 2 (.tmp 110) (.const (.int .i64 0)) 2) 111 (some (60, false)) := isOp_of (by kernel_rfl)
theorem o12_64 : IsOp al12 64 (.pick (.tmp 108) (.const (.bool true)) (.tmp 111)) 112 (some (54, true)) := isOp_of (by kernel_rfl)
theorem o12_65 : IsOp al12 65 (.pick (.tmp 102) (.tmp 112) (.const (.bool false))) 113 none := isOp_of (by kernel_rfl)
theorem o12_66 : IsOp al12 66 (.move (.tmp 113)) 114 none := isOp_of (by kernel_rfl)
theorem o12_67 : IsOp al12 67 (.move (.tmp 3)) 115 (some (66, true)) := isOp_of (by kernel_rfl)
theorem o12_68 : IsOp al12 68 (.binOp .eql 3 (.tmp 115) (.const (.int .i64 9)) 3) 116 (some (66, true)) := isOp_of (by kernel_rfl)
theorem o12_69 : IsOp al12 69 (.move (.tmp 116)) 117 (some (66, true)) := isOp_of (by kernel_rfl)
theorem o12_70 : IsOp al12 70 (.move (.tmp 3)) 118 (some (69, false)) := isOp_of (by kernel_rfl)
theorem o12_71 : IsOp al12 71 (.binOp .eql 3 (.tmp 118) (.const (.int .i64 15)) 3) 119 (some (69, false)) := isOp_of (by kernel_rfl)
theorem o12_72 : IsOp al12 72 (.pick (.tmp 117) (.const (.bool true)) (.tmp 119)) 120 (some (66, true)) := isOp_of (by kernel_rfl)
theorem o12_73 : IsOp al12 73 (.move (.tmp 120)) 121 (some (66, true)) := isOp_of (by kernel_rfl)
theorem o12_74 : IsOp al12 74 (.fieldAddr 33 (.tmp 1) 8) 122 (some (73, false)) := isOp_of (by kernel_rfl)
theorem o12_75 : IsOp al12 75 (.load 2 (.tmp 122)) 123 (some (73, false)) := isOp_of (by kernel_rfl)
theorem o12_76 : IsOp al12 76 (.binOp .eql 2 (.tmp 123) (.const (.int .i64 0)) 2) 124 (some (73, false)) := isOp_of (by kernel_rfl)
theorem o12_77 : IsOp al12 77 (.pick (.tmp 121) (.const (.bool true)) (.tmp 124)) 125 (some (66, true)) := isOp_of (by kernel_rfl)
theorem o12_78 : IsOp al12 78 (.pick (.tmp 114) (.tmp 125) (.const (.bool false))) 126 none := isOp_of (by kernel_rfl)
theorem o12_79 : IsOp al12 79 (.move (.tmp 126)) 127 none := isOp_of (by kernel_rfl)
theorem o12_80 : IsOp al12 80 (.move (.tmp 3)) 128 (some (79, true)) := isOp_of (by kernel_rfl)
theorem o12_81 : IsOp al12 81 (.binOp .eql 3 (.tmp 128) (.const (.int .i64 9)) 3) 129 (some (79, true)) := isOp_of (by kernel_rfl)
theorem o12_82 : IsOp al12 82 (.move (.tmp 129)) 130 (some (79, true)) := isOp_of (by kernel_rfl)
theorem o12_83 : IsOp al12 83 (.fieldAddr 33 (.tmp 1) 10) 131 (some (82, false)) := isOp_of (by kernel_rfl)
theorem o12_84 : IsOp al12 84 (.load 30 (.tmp 131)) 132 (some (82, false)) := isOp_of (by kernel_rfl)
theorem o12_85 : IsOp al12 85 (.call { callee := .builtin .len, args := #[.tmp 132], argTypes := #[30] }) 133 (some (82, false)) := isOp_of (by kernel_rfl)
theorem o12_86 : IsOp al12 86 (.binOp .eql 3 (.tmp 133) (.const (.int .i64 0)) 3) 134 (some (82, false)) := isOp_of (by kernel_rfl)
theorem o12_87 : IsOp al12 87 (.pick (.tmp 130) (.const (.bool true)) (.tmp 134)) 135 (some (79, true)) := isOp_of (by kernel_rfl)
theorem o12_88 : IsOp al12 88 (.pick (.tmp 127) (.tmp 135) (.const (.bool false))) 136 none := isOp_of (by kernel_rfl)
theorem o12_89 : IsOp al12 89 (.move (.tmp 136)) 137 none := isOp_of (by kernel_rfl)
theorem o12_90 : IsOp al12 90 (.move (.tmp 3)) 138 (some (89, true)) := isOp_of (by kernel_rfl)
theorem o12_91 : IsOp al12 91 (.binOp .eql 3 (.tmp 138) (.const (.int .i64 10)) 3) 139 (some (89, true)) := isOp_of (by kernel_rfl)
theorem o12_92 : IsOp al12 92 (.move (.tmp 139)) 140 (some (89, true)) := isOp_of (by kernel_rfl)
theorem o12_93 : IsOp al12 93 (.fieldAddr 33 (.tmp 1) 9) 141 (some (92, false)) := isOp_of (by kernel_rfl)
theorem o12_94 : IsOp al12 94 (.load 29 (.tmp 141)) 142 (some (92, false)) := isOp_of (by kernel_rfl)
theorem o12_95 : IsOp al12 95 (.call { callee := .builtin .len, args := #[.tmp 142], argTypes := #[29] }) 143 (some (92, false)) := isOp_of (by kernel_rfl)
theorem o12_96 : IsOp al12 96 (.binOp .eql 3 (.tmp 143) (.const (.int .i64 0)) 3) 144 (some (92, false)) := isOp_of (by kernel_rfl)
theorem o12_97 : IsOp al12 97 (.pick (.tmp 140) (.const (.bool true)) (.tmp 144)) 145 (some (89, true)) := isOp_of (by kernel_rfl)
theorem o12_98 : IsOp al12 98 (.pick (.tmp 137) (.tmp 145) (.const (.bool false))) 146 none := isOp_of (by kernel_rfl)
theorem o12_99 : IsOp al12 99 (.move (.tmp 146)) 147 none := isOp_of (by kernel_rfl)
theorem o12_100 : IsOp al12 100 (.move (.tmp 3)) 148 (some (99, true)) := isOp_of (by kernel_rfl)
theorem o12_101 : IsOp al12 101 (.binOp .eql 3 (.tmp 148) (.const (.int .i64 14)) 3) 149 (some (99, true)) := isOp_of (by kernel_rfl)
theorem o12_102 : IsOp al12 102 (.move (.tmp 149)) 150 (some (99, true)) := isOp_of (by kernel_rfl)
theorem o12_103 : IsOp al12 103 (.fieldAddr 33 (.tmp 1) 11) 151 (some (102, false)) := isOp_of (by kernel_rfl)
theorem o12_104 : IsOp al12 104 (.load 31 (.tmp 151)) 152 (some (102, false)) := isOp_of (by kernel_rfl)
theorem o12_105 : IsOp al12 105 (.binOp .eql 31 (.tmp 152) (.const (.int .u32 0)) 31) 153 (some (102, false)) := isOp_of (by kernel_rfl)
theorem o12_106 : IsOp al12 106 (.pick (.tmp 150) (.const (.bool true)) (.tmp 153)) 154 (some (99, true)) := isOp_of (by kernel_rfl)
theorem o12_107 : IsOp al12 107 (.pick (.tmp 147) (.tmp 154) (.const (.bool false))) 155 none := isOp_of (by kernel_rfl)
theorem o12_108 : IsOp al12 108 (.assign (.tmp 155)) 2 none := isOp_of (by kernel_rfl)
section
variable {Q : Exit → Act → World → Prop} {D : List Deferred} {T : Array Value} {w : World} {g : Nat} {x : Int}
theorem fa3 (g : Nat) (w : World) : (Instr.fieldAt 33 (.pointer (some ⟨g, 0, none⟩)) 3).run Try.prog w = .ok (.pointer (some ⟨g, 3, none⟩)) w := by simp [go_sem, Try.underlying33]
theorem fa4 (g : Nat) (w : World) : (Instr.fieldAt 33 (.pointer (some ⟨g, 0, none⟩)) 4).run Try.prog w = .ok (.pointer (some ⟨g, 9, none⟩)) w := by simp [go_sem, Try.underlying33]
theorem fa5 (g : Nat) (w : World) : (Instr.fieldAt 33 (.pointer (some ⟨g, 0, none⟩)) 5).run Try.prog w = .ok (.pointer (some ⟨g, 10, none⟩)) w := by simp [go_sem, Try.underlying33]
theorem fa6 (g : Nat) (w : World) : (Instr.fieldAt 33 (.pointer (some ⟨g, 0, none⟩)) 6).run Try.prog w = .ok (.pointer (some ⟨g, 11, none⟩)) w := by simp [go_sem, Try.underlying33]
theorem fa7 (g : Nat) (w : World) : (Instr.fieldAt 33 (.pointer (some ⟨g, 0, none⟩)) 7).run Try.prog w = .ok (.pointer (some ⟨g, 12, none⟩)) w := by simp [go_sem, Try.underlying33]
theorem fa8 (g : Nat) (w : World) : (Instr.fieldAt 33 (.pointer (some ⟨g, 0, none⟩)) 8).run Try.prog w = .ok (.pointer (some ⟨g, 13, none⟩)) w := by simp [go_sem, Try.underlying33]
theorem fa9 (g : Nat) (w : World) : (Instr.fieldAt 33 (.pointer (some ⟨g, 0, none⟩)) 9).run Try.prog w = .ok (.pointer (some ⟨g, 14, none⟩)) w := by simp [go_sem, Try.underlying33]
theorem fa10 (g : Nat) (w : World) : (Instr.fieldAt 33 (.pointer (some ⟨g, 0, none⟩)) 10).run Try.prog w = .ok (.pointer (some ⟨g, 15, none⟩)) w := by simp [go_sem, Try.underlying33]
theorem fa11 (g : Nat) (w : World) : (Instr.fieldAt 33 (.pointer (some ⟨g, 0, none⟩)) 11).run Try.prog w = .ok (.pointer (some ⟨g, 16, none⟩)) w := by simp [go_sem, Try.underlying33]
theorem le28 {A : Option Addr} {m c : Nat} (w : World) (ty : TypeId) : (Builtin.len_ #[28] ty #[.slice A m c]).run Try.prog w = .ok (.int .i64 m) w := by simp [go_sem, Builtin.len_, Try.underlying28]
theorem le29 {A : Option Addr} {m c : Nat} (w : World) (ty : TypeId) : (Builtin.len_ #[29] ty #[.slice A m c]).run Try.prog w = .ok (.int .i64 m) w := by simp [go_sem, Builtin.len_, Try.underlying29]
theorem le30 {A : Option Addr} {m c : Nat} (w : World) (ty : TypeId) : (Builtin.len_ #[30] ty #[.slice A m c]).run Try.prog w = .ok (.int .i64 m) w := by simp [go_sem, Builtin.len_, Try.underlying30]
variable {a0 a1 a2 a3 a5 a8 a11 a12 a13 a16 a17 : Int} {a6 a9 : Bool} {A4 A7 A10 A14 A15 : Option Addr} {c4 c7 c10 c14 c15 : Nat} {l4 l7 : List S79} {l10 : List S27} {l14 : List Int} {l15 : List (List Int)}
theorem la4 (HB : w.heap[g]? = some (.cells #[.int .i64 a0, .int .i64 a1, .int .i64 a2, .int .i64 a3, .slice A4 l4.length c4, .int .i64 a5, .bool a6, .slice A7 l7.length c7, .int .i64 a8, .bool a9, .slice A10 l10.length c10, .int .i64 a11, .int .i64 a12, .int .i64 a13, .slice A14 l14.length c14, .slice A15 l15.length c15, .int .u32 a16, .int .i64 a17] 33 (0, 0))) : (Instr.loadAt 4 (.pointer (some ⟨g, 9, none⟩))).run Try.prog w = .ok (.bool a9) w := by
  have hc := Ext.cells18 HB
  simp [go_sem, hc]
theorem la5 (HB : w.heap[g]? = some (.cells #[.int .i64 a0, .int .i64 a1, .int .i64 a2, .int .i64 a3, .slice A4 l4.length c4, .int .i64 a5, .bool a6, .slice A7 l7.length c7, .int .i64 a8, .bool a9, .slice A10 l10.length c10, .int .i64 a11, .int .i64 a12, .int .i64 a13, .slice A14 l14.length c14, .slice A15 l15.length c15, .int .u32 a16, .int .i64 a17] 33 (0, 0))) : (Instr.loadAt 28 (.pointer (some ⟨g, 10, none⟩))).run Try.prog w = .ok (.slice A10 l10.length c10) w := by
  have hc := Ext.cells18 HB
  simp [go_sem, hc]
theorem la6 (HB : w.heap[g]? = some (.cells #[.int .i64 a0, .int .i64 a1, .int .i64 a2, .int .i64 a3, .slice A4 l4.length c4, .int .i64 a5, .bool a6, .slice A7 l7.length c7, .int .i64 a8, .bool a9, .slice A10 l10.length c10, .int .i64 a11, .int .i64 a12, .int .i64 a13, .slice A14 l14.length c14, .slice A15 l15.length c15, .int .u32 a16, .int .i64 a17] 33 (0, 0))) : (Instr.loadAt 2 (.pointer (some ⟨g, 11, none⟩))).run Try.prog w = .ok (.int .i64 a11) w := by
  have hc := Ext.cells18 HB
  simp [go_sem, hc]
theorem la7 (HB : w.heap[g]? = some (.cells #[.int .i64 a0, .int .i64 a1, .int .i64 a2, .int .i64 a3, .slice A4 l4.length c4, .int .i64 a5, .bool a6, .slice A7 l7.length c7, .int .i64 a8, .bool a9, .slice A10 l10.length c10, .int .i64 a11, .int .i64 a12, .int .i64 a13, .slice A14 l14.length c14, .slice A15 l15.length c15, .int .u32 a16, .int .i64 a17] 33 (0, 0))) : (Instr.loadAt 2 (.pointer (some ⟨g, 12, none⟩))).run Try.prog w = .ok (.int .i64 a12) w := by
  have hc := Ext.cells18 HB
  simp [go_sem, hc]
theorem la8 (HB : w.heap[g]? = some (.cells #[.int .i64 a0, .int .i64 a1, .int .i64 a2, .int .i64 a3, .slice A4 l4.length c4, .int .i64 a5, .bool a6, .slice A7 l7.length c7, .int .i64 a8, .bool a9, .slice A10 l10.length c10, .int .i64 a11, .int .i64 a12, .int .i64 a13, .slice A14 l14.length c14, .slice A15 l15.length c15, .int .u32 a16, .int .i64 a17] 33 (0, 0))) : (Instr.loadAt 2 (.pointer (some ⟨g, 13, none⟩))).run Try.prog w = .ok (.int .i64 a13) w := by
  have hc := Ext.cells18 HB
  simp [go_sem, hc]
theorem la9 (HB : w.heap[g]? = some (.cells #[.int .i64 a0, .int .i64 a1, .int .i64 a2, .int .i64 a3, .slice A4 l4.length c4, .int .i64 a5, .bool a6, .slice A7 l7.length c7, .int .i64 a8, .bool a9, .slice A10 l10.length c10, .int .i64 a11, .int .i64 a12, .int .i64 a13, .slice A14 l14.length c14, .slice A15 l15.length c15, .int .u32 a16, .int .i64 a17] 33 (0, 0))) : (Instr.loadAt 29 (.pointer (some ⟨g, 14, none⟩))).run Try.prog w = .ok (.slice A14 l14.length c14) w := by
  have hc := Ext.cells18 HB
  simp [go_sem, hc]
theorem la10 (HB : w.heap[g]? = some (.cells #[.int .i64 a0, .int .i64 a1, .int .i64 a2, .int .i64 a3, .slice A4 l4.length c4, .int .i64 a5, .bool a6, .slice A7 l7.length c7, .int .i64 a8, .bool a9, .slice A10 l10.length c10, .int .i64 a11, .int .i64 a12, .int .i64 a13, .slice A14 l14.length c14, .slice A15 l15.length c15, .int .u32 a16, .int .i64 a17] 33 (0, 0))) : (Instr.loadAt 30 (.pointer (some ⟨g, 15, none⟩))).run Try.prog w = .ok (.slice A15 l15.length c15) w := by
  have hc := Ext.cells18 HB
  simp [go_sem, hc]
theorem la11 (HB : w.heap[g]? = some (.cells #[.int .i64 a0, .int .i64 a1, .int .i64 a2, .int .i64 a3, .slice A4 l4.length c4, .int .i64 a5, .bool a6, .slice A7 l7.length c7, .int .i64 a8, .bool a9, .slice A10 l10.length c10, .int .i64 a11, .int .i64 a12, .int .i64 a13, .slice A14 l14.length c14, .slice A15 l15.length c15, .int .u32 a16, .int .i64 a17] 33 (0, 0))) : (Instr.loadAt 31 (.pointer (some ⟨g, 16, none⟩))).run Try.prog w = .ok (.int .u32 a16) w := by
  have hc := Ext.cells18 HB
  simp [go_sem, hc]
theorem la3 (HB : w.heap[g]? = some (.cells #[.int .i64 a0, .int .i64 a1, .int .i64 a2, .int .i64 a3, .slice A4 l4.length c4, .int .i64 a5, .bool a6, .slice A7 l7.length c7, .int .i64 a8, .bool a9, .slice A10 l10.length c10, .int .i64 a11, .int .i64 a12, .int .i64 a13, .slice A14 l14.length c14, .slice A15 l15.length c15, .int .u32 a16, .int .i64 a17] 33 (0, 0))) : (Instr.loadAt 27 (.pointer (some ⟨g, 3, none⟩))).run Try.prog w = .ok (.agg #[.int .i64 a3, .slice A4 l4.length c4, .int .i64 a5, .bool a6, .slice A7 l7.length c7, .int .i64 a8]) w := by
  have hc := Ext.cells18 HB
  simp [go_sem, hc]
theorem reg10 (hN : T.size = 156) (h1 : T[1]? = some (.pointer (some ⟨g, 0, none⟩))) (h3 : T[3]? = some (.int .i64 x)) (k : ∀ T' : Array Value, T'.size = 156 → T'[1]? = some (.pointer (some ⟨g, 0, none⟩)) → T'[3]? = some (.int .i64 x) → T'[6]? = some (.bool (x == 1 || x == 2 || x == 3)) → T'[6]? = some (.bool (x == 1 || x == 2 || x == 3)) → Q .normal ⟨T', D⟩ w) : At Try.prog al10 Q D 0 T w := by
  refine mv' (.int .i64 (x)) o10_0 trivial ?_
  rcases Bool.eq_false_or_eq_true (x == 1) with h_ | h_
  ·
   refine eq' true (x) o10_1 trivial ?_
   refine mv' (.bool true) o10_2 trivial ?_
   refine off o10_3 (yn' (.bool true) o10_2) ?_
   refine off o10_4 (yn' (.bool true) o10_2) ?_
   refine pkc' true (.bool true) o10_5 trivial ?_
   refine mv' (.bool true) o10_6 trivial ?_
   refine off o10_7 (yn' (.bool true) o10_6) ?_
   refine off o10_8 (yn' (.bool true) o10_6) ?_
   refine pkc' true (.bool true) o10_9 trivial ?_
   refine as' (.bool true) o10_10 trivial ?_
   exact fin (by kernel_rfl) (q5 (k _))
  ·
   refine eq' false (x) o10_1 trivial ?_
   refine mv' (.bool false) o10_2 trivial ?_
   refine mv' (.int .i64 (x)) o10_3 (yl' o10_2) ?_
   rcases Bool.eq_false_or_eq_true (x == 2) with h_ | h_
   ·
    refine eq' true (x) o10_4 (yl' o10_2) ?_
    refine pkt' false 28 (.bool true) o10_5 trivial ?_
    refine mv' (.bool true) o10_6 trivial ?_
    refine off o10_7 (yn' (.bool true) o10_6) ?_
    refine off o10_8 (yn' (.bool true) o10_6) ?_
    refine pkc' true (.bool true) o10_9 trivial ?_
    refine as' (.bool true) o10_10 trivial ?_
    exact fin (by kernel_rfl) (q5 (k _))
   ·
    refine eq' false (x) o10_4 (yl' o10_2) ?_
    refine pkt' false 28 (.bool false) o10_5 trivial ?_
    refine mv' (.bool false) o10_6 trivial ?_
    refine mv' (.int .i64 (x)) o10_7 (yl' o10_6) ?_
    rcases Bool.eq_false_or_eq_true (x == 3) with h_ | h_
    ·
     refine eq' true (x) o10_8 (yl' o10_6) ?_
     refine pkt' false 32 (.bool true) o10_9 trivial ?_
     refine as' (.bool true) o10_10 trivial ?_
     exact fin (by kernel_rfl) (q5 (k _))
    ·
     refine eq' false (x) o10_8 (yl' o10_6) ?_
     refine pkt' false 32 (.bool false) o10_9 trivial ?_
     refine as' (.bool false) o10_10 trivial ?_
     exact fin (by kernel_rfl) (q5 (k _))
theorem reg11 (hN : T.size = 156) (h1 : T[1]? = some (.pointer (some ⟨g, 0, none⟩))) (h3 : T[3]? = some (.int .i64 x)) (k : ∀ T' : Array Value, T'.size = 156 → T'[1]? = some (.pointer (some ⟨g, 0, none⟩)) → T'[3]? = some (.int .i64 x) → T'[6]? = T[6]? → T'[7]? = some (.bool (x == 6 || x == 8 || x == 13 || x == 9)) → Q .normal ⟨T', D⟩ w) : At Try.prog al11 Q D 0 T w := by
  refine mv' (.int .i64 (x)) o11_0 trivial ?_
  rcases Bool.eq_false_or_eq_true (x == 6) with h_ | h_
  ·
   refine eq' true (x) o11_1 trivial ?_
   refine mv' (.bool true) o11_2 trivial ?_
   refine off o11_3 (yn' (.bool true) o11_2) ?_
   refine off o11_4 (yn' (.bool true) o11_2) ?_
   refine pkc' true (.bool true) o11_5 trivial ?_
   refine mv' (.bool true) o11_6 trivial ?_
   refine off o11_7 (yn' (.bool true) o11_6) ?_
   refine off o11_8 (yn' (.bool true) o11_6) ?_
   refine pkc' true (.bool true) o11_9 trivial ?_
   refine mv' (.bool true) o11_10 trivial ?_
   refine off o11_11 (yn' (.bool true) o11_10) ?_
   refine off o11_12 (yn' (.bool true) o11_10) ?_
   refine pkc' true (.bool true) o11_13 trivial ?_
   refine as' (.bool true) o11_14 trivial ?_
   exact fin (by kernel_rfl) (q5 (k _))
  ·
   refine eq' false (x) o11_1 trivial ?_
   refine mv' (.bool false) o11_2 trivial ?_
   refine mv' (.int .i64 (x)) o11_3 (yl' o11_2) ?_
   rcases Bool.eq_false_or_eq_true (x == 8) with h_ | h_
   ·
    refine eq' true (x) o11_4 (yl' o11_2) ?_
    refine pkt' false 38 (.bool true) o11_5 trivial ?_
    refine mv' (.bool true) o11_6 trivial ?_
    refine off o11_7 (yn' (.bool true) o11_6) ?_
    refine off o11_8 (yn' (.bool true) o11_6) ?_
    refine pkc' true (.bool true) o11_9 trivial ?_
    refine mv' (.bool true) o11_10 trivial ?_
    refine off o11_11 (yn' (.bool true) o11_10) ?_
    refine off o11_12 (yn' (.bool true) o11_10) ?_
    refine pkc' true (.bool true) o11_13 trivial ?_
    refine as' (.bool true) o11_14 trivial ?_
    exact fin (by kernel_rfl) (q5 (k _))
   ·
    refine eq' false (x) o11_4 (yl' o11_2) ?_
    refine pkt' false 38 (.bool false) o11_5 trivial ?_
    refine mv' (.bool false) o11_6 trivial ?_
    refine mv' (.int .i64 (x)) o11_7 (yl' o11_6) ?_
    rcases Bool.eq_false_or_eq_true (x == 13) with h_ | h_
    ·
     refine eq' true (x) o11_8 (yl' o11_6) ?_
     refine pkt' false 42 (.bool true) o11_9 trivial ?_
     refine mv' (.bool true) o11_10 trivial ?_
     refine off o11_11 (yn' (.bool true) o11_10) ?_
     refine off o11_12 (yn' (.bool true) o11_10) ?_
     refine pkc' true (.bool true) o11_13 trivial ?_
     refine as' (.bool true) o11_14 trivial ?_
     exact fin (by kernel_rfl) (q5 (k _))
    ·
     refine eq' false (x) o11_8 (yl' o11_6) ?_
     refine pkt' false 42 (.bool false) o11_9 trivial ?_
     refine mv' (.bool false) o11_10 trivial ?_
     refine mv' (.int .i64 (x)) o11_11 (yl' o11_10) ?_
     rcases Bool.eq_false_or_eq_true (x == 9) with h_ | h_
     ·
      refine eq' true (x) o11_12 (yl' o11_10) ?_
      refine pkt' false 46 (.bool true) o11_13 trivial ?_
      refine as' (.bool true) o11_14 trivial ?_
      exact fin (by kernel_rfl) (q5 (k _))
     ·
      refine eq' false (x) o11_12 (yl' o11_10) ?_
      refine pkt' false 46 (.bool false) o11_13 trivial ?_
      refine as' (.bool false) o11_14 trivial ?_
      exact fin (by kernel_rfl) (q5 (k _))
theorem conj1 {b timed : Bool} (HB : w.heap[g]? = some (.cells #[.int .i64 a0, .int .i64 a1, .int .i64 a2, .int .i64 a3, .slice A4 l4.length c4, .int .i64 a5, .bool a6, .slice A7 l7.length c7, .int .i64 a8, .bool a9, .slice A10 l10.length c10, .int .i64 a11, .int .i64 a12, .int .i64 a13, .slice A14 l14.length c14, .slice A15 l15.length c15, .int .u32 a16, .int .i64 a17] 33 (0, 0))) (hN : T.size = 156) (h1 : T[1]? = some (.pointer (some ⟨g, 0, none⟩))) (h3 : T[3]? = some (.int .i64 x)) (h7 : T[7]? = some (.bool timed)) (ha : T[63]? = some (.bool b))
    (k : ∀ T' : Array Value, T'.size = 156 → T'[1]? = some (.pointer (some ⟨g, 0, none⟩)) → T'[3]? = some (.int .i64 x) → T'[7]? = some (.bool timed) → T'[73]? = some (.bool (b && (x == 4 || (l10.length : Int) == 0))) → At Try.prog al12 Q D 26 T' w) : At Try.prog al12 Q D 16 T w := by
  cases b
  ·
   refine off o12_16 (yn' (.bool false) o12_15) ?_
   refine off o12_17 (yn' (.bool false) o12_15) ?_
   refine off o12_18 (yn' (.bool false) o12_15) ?_
   refine off o12_19 (yn' (undef) o12_18) ?_
   refine off o12_20 (yn' (undef) o12_18) ?_
   refine off o12_21 (yn' (undef) o12_18) ?_
   refine off o12_22 (yn' (undef) o12_18) ?_
   refine off o12_23 (yn' (.bool false) o12_15) ?_
   refine pkc' false (.bool false) o12_24 trivial ?_
   refine mv' (.bool false) o12_25 trivial ?_
   exact q5 (k _)
  ·
   refine mv' (.int .i64 (x)) o12_16 (yl' o12_15) ?_
   rcases Bool.eq_false_or_eq_true (x == 4) with h_ | h_
   ·
    refine eq' true (x) o12_17 (yl' o12_15) ?_
    refine mv' (.bool true) o12_18 (yl' o12_15) ?_
    refine off o12_19 (yn' (.bool true) o12_18) ?_
    refine off o12_20 (yn' (.bool true) o12_18) ?_
    refine off o12_21 (yn' (.bool true) o12_18) ?_
    refine off o12_22 (yn' (.bool true) o12_18) ?_
    refine pkc' true (.bool true) o12_23 (yl' o12_15) ?_
    refine pkt' true 71 (.bool true) o12_24 trivial ?_
    refine mv' (.bool true) o12_25 trivial ?_
    exact q5 (k _)
   ·
    refine eq' false (x) o12_17 (yl' o12_15) ?_
    refine mv' (.bool false) o12_18 (yl' o12_15) ?_
    refine ad' (.pointer (some ⟨g, 0, none⟩)) (.pointer (some ⟨g, 10, none⟩)) o12_19 (yl' o12_18) (fa5 g w) ?_
    refine ld' (.pointer (some ⟨g, 10, none⟩)) (.slice A10 l10.length c10) o12_20 (yl' o12_18) (la5 HB) ?_
    refine ln' A10 l10.length c10 (le28 w) o12_21 (yl' o12_18) ?_
    rcases Bool.eq_false_or_eq_true ((l10.length : Int) == 0) with h_ | h_
    ·
     refine eq' true ((l10.length : Int)) o12_22 (yl' o12_18) ?_
     refine pkt' false 70 (.bool true) o12_23 (yl' o12_15) ?_
     refine pkt' true 71 (.bool true) o12_24 trivial ?_
     refine mv' (.bool true) o12_25 trivial ?_
     exact q5 (k _)
    ·
     refine eq' false ((l10.length : Int)) o12_22 (yl' o12_18) ?_
     refine pkt' false 70 (.bool false) o12_23 (yl' o12_15) ?_
     refine pkt' true 71 (.bool false) o12_24 trivial ?_
     refine mv' (.bool false) o12_25 trivial ?_
     exact q5 (k _)
theorem conj2 {b timed : Bool} (HB : w.heap[g]? = some (.cells #[.int .i64 a0, .int .i64 a1, .int .i64 a2, .int .i64 a3, .slice A4 l4.length c4, .int .i64 a5, .bool a6, .slice A7 l7.length c7, .int .i64 a8, .bool a9, .slice A10 l10.length c10, .int .i64 a11, .int .i64 a12, .int .i64 a13, .slice A14 l14.length c14, .slice A15 l15.length c15, .int .u32 a16, .int .i64 a17] 33 (0, 0))) (hN : T.size = 156) (h1 : T[1]? = some (.pointer (some ⟨g, 0, none⟩))) (h3 : T[3]? = some (.int .i64 x)) (h7 : T[7]? = some (.bool timed)) (ha : T[73]? = some (.bool b))
    (k : ∀ T' : Array Value, T'.size = 156 → T'[1]? = some (.pointer (some ⟨g, 0, none⟩)) → T'[3]? = some (.int .i64 x) → T'[7]? = some (.bool timed) → T'[90]? = some (.bool (b && (x == 4 || x == 8 || x == 13 || !a9))) → At Try.prog al12 Q D 43 T' w) : At Try.prog al12 Q D 26 T w := by
  cases b
  ·
   refine off o12_26 (yn' (.bool false) o12_25) ?_
   refine off o12_27 (yn' (.bool false) o12_25) ?_
   refine off o12_28 (yn' (.bool false) o12_25) ?_
   refine off o12_29 (yn' (undef) o12_28) ?_
   refine off o12_30 (yn' (undef) o12_28) ?_
   refine off o12_31 (yn' (.bool false) o12_25) ?_
   refine off o12_32 (yn' (.bool false) o12_25) ?_
   refine off o12_33 (yn' (undef) o12_32) ?_
   refine off o12_34 (yn' (undef) o12_32) ?_
   refine off o12_35 (yn' (.bool false) o12_25) ?_
   refine off o12_36 (yn' (.bool false) o12_25) ?_
   refine off o12_37 (yn' (undef) o12_36) ?_
   refine off o12_38 (yn' (undef) o12_36) ?_
   refine off o12_39 (yn' (undef) o12_36) ?_
   refine off o12_40 (yn' (.bool false) o12_25) ?_
   refine pkc' false (.bool false) o12_41 trivial ?_
   refine mv' (.bool false) o12_42 trivial ?_
   exact q5 (k _)
  ·
   cases a9
   ·
    refine mv' (.int .i64 (x)) o12_26 (yl' o12_25) ?_
    rcases Bool.eq_false_or_eq_true (x == 4) with h_ | h_
    ·
     refine eq' true (x) o12_27 (yl' o12_25) ?_
     refine mv' (.bool true) o12_28 (yl' o12_25) ?_
     refine off o12_29 (yn' (.bool true) o12_28) ?_
     refine off o12_30 (yn' (.bool true) o12_28) ?_
     refine pkc' true (.bool true) o12_31 (yl' o12_25) ?_
     refine mv' (.bool true) o12_32 (yl' o12_25) ?_
     refine off o12_33 (yn' (.bool true) o12_32) ?_
     refine off o12_34 (yn' (.bool true) o12_32) ?_
     refine pkc' true (.bool true) o12_35 (yl' o12_25) ?_
     refine mv' (.bool true) o12_36 (yl' o12_25) ?_
     refine off o12_37 (yn' (.bool true) o12_36) ?_
     refine off o12_38 (yn' (.bool true) o12_36) ?_
     refine off o12_39 (yn' (.bool true) o12_36) ?_
     refine pkc' true (.bool true) o12_40 (yl' o12_25) ?_
     refine pkt' true 88 (.bool true) o12_41 trivial ?_
     refine mv' (.bool true) o12_42 trivial ?_
     exact q5 (k _)
    ·
     refine eq' false (x) o12_27 (yl' o12_25) ?_
     refine mv' (.bool false) o12_28 (yl' o12_25) ?_
     refine mv' (.int .i64 (x)) o12_29 (yl' o12_28) ?_
     rcases Bool.eq_false_or_eq_true (x == 8) with h_ | h_
     ·
      refine eq' true (x) o12_30 (yl' o12_28) ?_
      refine pkt' false 78 (.bool true) o12_31 (yl' o12_25) ?_
      refine mv' (.bool true) o12_32 (yl' o12_25) ?_
      refine off o12_33 (yn' (.bool true) o12_32) ?_
      refine off o12_34 (yn' (.bool true) o12_32) ?_
      refine pkc' true (.bool true) o12_35 (yl' o12_25) ?_
      refine mv' (.bool true) o12_36 (yl' o12_25) ?_
      refine off o12_37 (yn' (.bool true) o12_36) ?_
      refine off o12_38 (yn' (.bool true) o12_36) ?_
      refine off o12_39 (yn' (.bool true) o12_36) ?_
      refine pkc' true (.bool true) o12_40 (yl' o12_25) ?_
      refine pkt' true 88 (.bool true) o12_41 trivial ?_
      refine mv' (.bool true) o12_42 trivial ?_
      exact q5 (k _)
     ·
      refine eq' false (x) o12_30 (yl' o12_28) ?_
      refine pkt' false 78 (.bool false) o12_31 (yl' o12_25) ?_
      refine mv' (.bool false) o12_32 (yl' o12_25) ?_
      refine mv' (.int .i64 (x)) o12_33 (yl' o12_32) ?_
      rcases Bool.eq_false_or_eq_true (x == 13) with h_ | h_
      ·
       refine eq' true (x) o12_34 (yl' o12_32) ?_
       refine pkt' false 82 (.bool true) o12_35 (yl' o12_25) ?_
       refine mv' (.bool true) o12_36 (yl' o12_25) ?_
       refine off o12_37 (yn' (.bool true) o12_36) ?_
       refine off o12_38 (yn' (.bool true) o12_36) ?_
       refine off o12_39 (yn' (.bool true) o12_36) ?_
       refine pkc' true (.bool true) o12_40 (yl' o12_25) ?_
       refine pkt' true 88 (.bool true) o12_41 trivial ?_
       refine mv' (.bool true) o12_42 trivial ?_
       exact q5 (k _)
      ·
       refine eq' false (x) o12_34 (yl' o12_32) ?_
       refine pkt' false 82 (.bool false) o12_35 (yl' o12_25) ?_
       refine mv' (.bool false) o12_36 (yl' o12_25) ?_
       refine ad' (.pointer (some ⟨g, 0, none⟩)) (.pointer (some ⟨g, 9, none⟩)) o12_37 (yl' o12_36) (fa4 g w) ?_
       refine ld' (.pointer (some ⟨g, 9, none⟩)) (.bool false) o12_38 (yl' o12_36) (la4 HB) ?_
       refine nt' false true o12_39 (yl' o12_36) ?_
       refine pkt' false 87 (.bool true) o12_40 (yl' o12_25) ?_
       refine pkt' true 88 (.bool true) o12_41 trivial ?_
       refine mv' (.bool true) o12_42 trivial ?_
       exact q5 (k _)
   ·
    refine mv' (.int .i64 (x)) o12_26 (yl' o12_25) ?_
    rcases Bool.eq_false_or_eq_true (x == 4) with h_ | h_
    ·
     refine eq' true (x) o12_27 (yl' o12_25) ?_
     refine mv' (.bool true) o12_28 (yl' o12_25) ?_
     refine off o12_29 (yn' (.bool true) o12_28) ?_
     refine off o12_30 (yn' (.bool true) o12_28) ?_
     refine pkc' true (.bool true) o12_31 (yl' o12_25) ?_
     refine mv' (.bool true) o12_32 (yl' o12_25) ?_
     refine off o12_33 (yn' (.bool true) o12_32) ?_
     refine off o12_34 (yn' (.bool true) o12_32) ?_
     refine pkc' true (.bool true) o12_35 (yl' o12_25) ?_
     refine mv' (.bool true) o12_36 (yl' o12_25) ?_
     refine off o12_37 (yn' (.bool true) o12_36) ?_
     refine off o12_38 (yn' (.bool true) o12_36) ?_
     refine off o12_39 (yn' (.bool true) o12_36) ?_
     refine pkc' true (.bool true) o12_40 (yl' o12_25) ?_
     refine pkt' true 88 (.bool true) o12_41 trivial ?_
     refine mv' (.bool true) o12_42 trivial ?_
     exact q5 (k _)
    ·
     refine eq' false (x) o12_27 (yl' o12_25) ?_
     refine mv' (.bool false) o12_28 (yl' o12_25) ?_
     refine mv' (.int .i64 (x)) o12_29 (yl' o12_28) ?_
     rcases Bool.eq_false_or_eq_true (x == 8) with h_ | h_
     ·
      refine eq' true (x) o12_30 (yl' o12_28) ?_
      refine pkt' false 78 (.bool true) o12_31 (yl' o12_25) ?_
      refine mv' (.bool true) o12_32 (yl' o12_25) ?_
      refine off o12_33 (yn' (.bool true) o12_32) ?_
      refine off o12_34 (yn' (.bool true) o12_32) ?_
      refine pkc' true (.bool true) o12_35 (yl' o12_25) ?_
      refine mv' (.bool true) o12_36 (yl' o12_25) ?_
      refine off o12_37 (yn' (.bool true) o12_36) ?_
      refine off o12_38 (yn' (.bool true) o12_36) ?_
      refine off o12_39 (yn' (.bool true) o12_36) ?_
      refine pkc' true (.bool true) o12_40 (yl' o12_25) ?_
      refine pkt' true 88 (.bool true) o12_41 trivial ?_
      refine mv' (.bool true) o12_42 trivial ?_
      exact q5 (k _)
     ·
      refine eq' false (x) o12_30 (yl' o12_28) ?_
      refine pkt' false 78 (.bool false) o12_31 (yl' o12_25) ?_
      refine mv' (.bool false) o12_32 (yl' o12_25) ?_
      refine mv' (.int .i64 (x)) o12_33 (yl' o12_32) ?_
      rcases Bool.eq_false_or_eq_true (x == 13) with h_ | h_
      ·
       refine eq' true (x) o12_34 (yl' o12_32) ?_
       refine pkt' false 82 (.bool true) o12_35 (yl' o12_25) ?_
       refine mv' (.bool true) o12_36 (yl' o12_25) ?_
       refine off o12_37 (yn' (.bool true) o12_36) ?_
       refine off o12_38 (yn' (.bool true) o12_36) ?_
       refine off o12_39 (yn' (.bool true) o12_36) ?_
       refine pkc' true (.bool true) o12_40 (yl' o12_25) ?_
       refine pkt' true 88 (.bool true) o12_41 trivial ?_
       refine mv' (.bool true) o12_42 trivial ?_
       exact q5 (k _)
      ·
       refine eq' false (x) o12_34 (yl' o12_32) ?_
       refine pkt' false 82 (.bool false) o12_35 (yl' o12_25) ?_
       refine mv' (.bool false) o12_36 (yl' o12_25) ?_
       refine ad' (.pointer (some ⟨g, 0, none⟩)) (.pointer (some ⟨g, 9, none⟩)) o12_37 (yl' o12_36) (fa4 g w) ?_
       refine ld' (.pointer (some ⟨g, 9, none⟩)) (.bool true) o12_38 (yl' o12_36) (la4 HB) ?_
       refine nt' true false o12_39 (yl' o12_36) ?_
       refine pkt' false 87 (.bool false) o12_40 (yl' o12_25) ?_
       refine pkt' true 88 (.bool false) o12_41 trivial ?_
       refine mv' (.bool false) o12_42 trivial ?_
       exact q5 (k _)
theorem conj3 {b timed : Bool} (HB : w.heap[g]? = some (.cells #[.int .i64 a0, .int .i64 a1, .int .i64 a2, .int .i64 a3, .slice A4 l4.length c4, .int .i64 a5, .bool a6, .slice A7 l7.length c7, .int .i64 a8, .bool a9, .slice A10 l10.length c10, .int .i64 a11, .int .i64 a12, .int .i64 a13, .slice A14 l14.length c14, .slice A15 l15.length c15, .int .u32 a16, .int .i64 a17] 33 (0, 0))) (hN : T.size = 156) (h1 : T[1]? = some (.pointer (some ⟨g, 0, none⟩))) (h3 : T[3]? = some (.int .i64 x)) (h7 : T[7]? = some (.bool timed)) (ha : T[90]? = some (.bool b))
    (k : ∀ T' : Array Value, T'.size = 156 → T'[1]? = some (.pointer (some ⟨g, 0, none⟩)) → T'[3]? = some (.int .i64 x) → T'[7]? = some (.bool timed) → T'[102]? = some (.bool (b && (timed || x == 11 || a11 == 0))) → At Try.prog al12 Q D 55 T' w) : At Try.prog al12 Q D 43 T w := by
  cases b
  ·
   refine off o12_43 (yn' (.bool false) o12_42) ?_
   refine off o12_44 (yn' (.bool false) o12_42) ?_
   refine off o12_45 (yn' (undef) o12_44) ?_
   refine off o12_46 (yn' (undef) o12_44) ?_
   refine off o12_47 (yn' (.bool false) o12_42) ?_
   refine off o12_48 (yn' (.bool false) o12_42) ?_
   refine off o12_49 (yn' (undef) o12_48) ?_
   refine off o12_50 (yn' (undef) o12_48) ?_
   refine off o12_51 (yn' (undef) o12_48) ?_
   refine off o12_52 (yn' (.bool false) o12_42) ?_
   refine pkc' false (.bool false) o12_53 trivial ?_
   refine mv' (.bool false) o12_54 trivial ?_
   exact q5 (k _)
  ·
   cases timed
   ·
    refine mv' (.bool false) o12_43 (yl' o12_42) ?_
    refine mv' (.bool false) o12_44 (yl' o12_42) ?_
    refine mv' (.int .i64 (x)) o12_45 (yl' o12_44) ?_
    rcases Bool.eq_false_or_eq_true (x == 11) with h_ | h_
    ·
     refine eq' true (x) o12_46 (yl' o12_44) ?_
     refine pkt' false 94 (.bool true) o12_47 (yl' o12_42) ?_
     refine mv' (.bool true) o12_48 (yl' o12_42) ?_
     refine off o12_49 (yn' (.bool true) o12_48) ?_
     refine off o12_50 (yn' (.bool true) o12_48) ?_
     refine off o12_51 (yn' (.bool true) o12_48) ?_
     refine pkc' true (.bool true) o12_52 (yl' o12_42) ?_
     refine pkt' true 100 (.bool true) o12_53 trivial ?_
     refine mv' (.bool true) o12_54 trivial ?_
     exact q5 (k _)
    ·
     refine eq' false (x) o12_46 (yl' o12_44) ?_
     refine pkt' false 94 (.bool false) o12_47 (yl' o12_42) ?_
     refine mv' (.bool false) o12_48 (yl' o12_42) ?_
     refine ad' (.pointer (some ⟨g, 0, none⟩)) (.pointer (some ⟨g, 11, none⟩)) o12_49 (yl' o12_48) (fa6 g w) ?_
     refine ld' (.pointer (some ⟨g, 11, none⟩)) (.int .i64 a11) o12_50 (yl' o12_48) (la6 HB) ?_
     rcases Bool.eq_false_or_eq_true (a11 == 0) with h_ | h_
     ·
      refine eq' true (a11) o12_51 (yl' o12_48) ?_
      refine pkt' false 99 (.bool true) o12_52 (yl' o12_42) ?_
      refine pkt' true 100 (.bool true) o12_53 trivial ?_
      refine mv' (.bool true) o12_54 trivial ?_
      exact q5 (k _)
     ·
      refine eq' false (a11) o12_51 (yl' o12_48) ?_
      refine pkt' false 99 (.bool false) o12_52 (yl' o12_42) ?_
      refine pkt' true 100 (.bool false) o12_53 trivial ?_
      refine mv' (.bool false) o12_54 trivial ?_
      exact q5 (k _)
   ·
    refine mv' (.bool true) o12_43 (yl' o12_42) ?_
    refine mv' (.bool true) o12_44 (yl' o12_42) ?_
    refine off o12_45 (yn' (.bool true) o12_44) ?_
    refine off o12_46 (yn' (.bool true) o12_44) ?_
    refine pkc' true (.bool true) o12_47 (yl' o12_42) ?_
    refine mv' (.bool true) o12_48 (yl' o12_42) ?_
    refine off o12_49 (yn' (.bool true) o12_48) ?_
    refine off o12_50 (yn' (.bool true) o12_48) ?_
    refine off o12_51 (yn' (.bool true) o12_48) ?_
    refine pkc' true (.bool true) o12_52 (yl' o12_42) ?_
    refine pkt' true 100 (.bool true) o12_53 trivial ?_
    refine mv' (.bool true) o12_54 trivial ?_
    exact q5 (k _)
theorem conj4 {b timed : Bool} (HB : w.heap[g]? = some (.cells #[.int .i64 a0, .int .i64 a1, .int .i64 a2, .int .i64 a3, .slice A4 l4.length c4, .int .i64 a5, .bool a6, .slice A7 l7.length c7, .int .i64 a8, .bool a9, .slice A10 l10.length c10, .int .i64 a11, .int .i64 a12, .int .i64 a13, .slice A14 l14.length c14, .slice A15 l15.length c15, .int .u32 a16, .int .i64 a17] 33 (0, 0))) (hN : T.size = 156) (h1 : T[1]? = some (.pointer (some ⟨g, 0, none⟩))) (h3 : T[3]? = some (.int .i64 x)) (h7 : T[7]? = some (.bool timed)) (ha : T[102]? = some (.bool b))
    (k : ∀ T' : Array Value, T'.size = 156 → T'[1]? = some (.pointer (some ⟨g, 0, none⟩)) → T'[3]? = some (.int .i64 x) → T'[7]? = some (.bool timed) → T'[114]? = some (.bool (b && (timed || x == 15 || a12 == 0))) → At Try.prog al12 Q D 67 T' w) : At Try.prog al12 Q D 55 T w := by
  cases b
  ·
   refine off o12_55 (yn' (.bool false) o12_54) ?_
   refine off o12_56 (yn' (.bool false) o12_54) ?_
   refine off o12_57 (yn' (undef) o12_56) ?_
   refine off o12_58 (yn' (undef) o12_56) ?_
   refine off o12_59 (yn' (.bool false) o12_54) ?_
   refine off o12_60 (yn' (.bool false) o12_54) ?_
   refine off o12_61 (yn' (undef) o12_60) ?_
   refine off o12_62 (yn' (undef) o12_60) ?_
   refine off o12_63 (yn' (undef) o12_60) ?_
   refine off o12_64 (yn' (.bool false) o12_54) ?_
   refine pkc' false (.bool false) o12_65 trivial ?_
   refine mv' (.bool false) o12_66 trivial ?_
   exact q5 (k _)
  ·
   cases timed
   ·
    refine mv' (.bool false) o12_55 (yl' o12_54) ?_
    refine mv' (.bool false) o12_56 (yl' o12_54) ?_
    refine mv' (.int .i64 (x)) o12_57 (yl' o12_56) ?_
    rcases Bool.eq_false_or_eq_true (x == 15) with h_ | h_
    ·
     refine eq' true (x) o12_58 (yl' o12_56) ?_
     refine pkt' false 106 (.bool true) o12_59 (yl' o12_54) ?_
     refine mv' (.bool true) o12_60 (yl' o12_54) ?_
     refine off o12_61 (yn' (.bool true) o12_60) ?_
     refine off o12_62 (yn' (.bool true) o12_60) ?_
     refine off o12_63 (yn' (.bool true) o12_60) ?_
     refine pkc' true (.bool true) o12_64 (yl' o12_54) ?_
     refine pkt' true 112 (.bool true) o12_65 trivial ?_
     refine mv' (.bool true) o12_66 trivial ?_
     exact q5 (k _)
    ·
     refine eq' false (x) o12_58 (yl' o12_56) ?_
     refine pkt' false 106 (.bool false) o12_59 (yl' o12_54) ?_
     refine mv' (.bool false) o12_60 (yl' o12_54) ?_
     refine ad' (.pointer (some ⟨g, 0, none⟩)) (.pointer (some ⟨g, 12, none⟩)) o12_61 (yl' o12_60) (fa7 g w) ?_
     refine ld' (.pointer (some ⟨g, 12, none⟩)) (.int .i64 a12) o12_62 (yl' o12_60) (la7 HB) ?_
     rcases Bool.eq_false_or_eq_true (a12 == 0) with h_ | h_
     ·
      refine eq' true (a12) o12_63 (yl' o12_60) ?_
      refine pkt' false 111 (.bool true) o12_64 (yl' o12_54) ?_
      refine pkt' true 112 (.bool true) o12_65 trivial ?_
      refine mv' (.bool true) o12_66 trivial ?_
      exact q5 (k _)
     ·
      refine eq' false (a12) o12_63 (yl' o12_60) ?_
      refine pkt' false 111 (.bool false) o12_64 (yl' o12_54) ?_
      refine pkt' true 112 (.bool false) o12_65 trivial ?_
      refine mv' (.bool false) o12_66 trivial ?_
      exact q5 (k _)
   ·
    refine mv' (.bool true) o12_55 (yl' o12_54) ?_
    refine mv' (.bool true) o12_56 (yl' o12_54) ?_
    refine off o12_57 (yn' (.bool true) o12_56) ?_
    refine off o12_58 (yn' (.bool true) o12_56) ?_
    refine pkc' true (.bool true) o12_59 (yl' o12_54) ?_
    refine mv' (.bool true) o12_60 (yl' o12_54) ?_
    refine off o12_61 (yn' (.bool true) o12_60) ?_
    refine off o12_62 (yn' (.bool true) o12_60) ?_
    refine off o12_63 (yn' (.bool true) o12_60) ?_
    refine pkc' true (.bool true) o12_64 (yl' o12_54) ?_
    refine pkt' true 112 (.bool true) o12_65 trivial ?_
    refine mv' (.bool true) o12_66 trivial ?_
    exact q5 (k _)
theorem conj5 {b timed : Bool} (HB : w.heap[g]? = some (.cells #[.int .i64 a0, .int .i64 a1, .int .i64 a2, .int .i64 a3, .slice A4 l4.length c4, .int .i64 a5, .bool a6, .slice A7 l7.length c7, .int .i64 a8, .bool a9, .slice A10 l10.length c10, .int .i64 a11, .int .i64 a12, .int .i64 a13, .slice A14 l14.length c14, .slice A15 l15.length c15, .int .u32 a16, .int .i64 a17] 33 (0, 0))) (hN : T.size = 156) (h1 : T[1]? = some (.pointer (some ⟨g, 0, none⟩))) (h3 : T[3]? = some (.int .i64 x)) (h7 : T[7]? = some (.bool timed)) (ha : T[114]? = some (.bool b))
    (k : ∀ T' : Array Value, T'.size = 156 → T'[1]? = some (.pointer (some ⟨g, 0, none⟩)) → T'[3]? = some (.int .i64 x) → T'[7]? = some (.bool timed) → T'[127]? = some (.bool (b && (x == 9 || x == 15 || a13 == 0))) → At Try.prog al12 Q D 80 T' w) : At Try.prog al12 Q D 67 T w := by
  cases b
  ·
   refine off o12_67 (yn' (.bool false) o12_66) ?_
   refine off o12_68 (yn' (.bool false) o12_66) ?_
   refine off o12_69 (yn' (.bool false) o12_66) ?_
   refine off o12_70 (yn' (undef) o12_69) ?_
   refine off o12_71 (yn' (undef) o12_69) ?_
   refine off o12_72 (yn' (.bool false) o12_66) ?_
   refine off o12_73 (yn' (.bool false) o12_66) ?_
   refine off o12_74 (yn' (undef) o12_73) ?_
   refine off o12_75 (yn' (undef) o12_73) ?_
   refine off o12_76 (yn' (undef) o12_73) ?_
   refine off o12_77 (yn' (.bool false) o12_66) ?_
   refine pkc' false (.bool false) o12_78 trivial ?_
   refine mv' (.bool false) o12_79 trivial ?_
   exact q5 (k _)
  ·
   refine mv' (.int .i64 (x)) o12_67 (yl' o12_66) ?_
   rcases Bool.eq_false_or_eq_true (x == 9) with h_ | h_
   ·
    refine eq' true (x) o12_68 (yl' o12_66) ?_
    refine mv' (.bool true) o12_69 (yl' o12_66) ?_
    refine off o12_70 (yn' (.bool true) o12_69) ?_
    refine off o12_71 (yn' (.bool true) o12_69) ?_
    refine pkc' true (.bool true) o12_72 (yl' o12_66) ?_
    refine mv' (.bool true) o12_73 (yl' o12_66) ?_
    refine off o12_74 (yn' (.bool true) o12_73) ?_
    refine off o12_75 (yn' (.bool true) o12_73) ?_
    refine off o12_76 (yn' (.bool true) o12_73) ?_
    refine pkc' true (.bool true) o12_77 (yl' o12_66) ?_
    refine pkt' true 125 (.bool true) o12_78 trivial ?_
    refine mv' (.bool true) o12_79 trivial ?_
    exact q5 (k _)
   ·
    refine eq' false (x) o12_68 (yl' o12_66) ?_
    refine mv' (.bool false) o12_69 (yl' o12_66) ?_
    refine mv' (.int .i64 (x)) o12_70 (yl' o12_69) ?_
    rcases Bool.eq_false_or_eq_true (x == 15) with h_ | h_
    ·
     refine eq' true (x) o12_71 (yl' o12_69) ?_
     refine pkt' false 119 (.bool true) o12_72 (yl' o12_66) ?_
     refine mv' (.bool true) o12_73 (yl' o12_66) ?_
     refine off o12_74 (yn' (.bool true) o12_73) ?_
     refine off o12_75 (yn' (.bool true) o12_73) ?_
     refine off o12_76 (yn' (.bool true) o12_73) ?_
     refine pkc' true (.bool true) o12_77 (yl' o12_66) ?_
     refine pkt' true 125 (.bool true) o12_78 trivial ?_
     refine mv' (.bool true) o12_79 trivial ?_
     exact q5 (k _)
    ·
     refine eq' false (x) o12_71 (yl' o12_69) ?_
     refine pkt' false 119 (.bool false) o12_72 (yl' o12_66) ?_
     refine mv' (.bool false) o12_73 (yl' o12_66) ?_
     refine ad' (.pointer (some ⟨g, 0, none⟩)) (.pointer (some ⟨g, 13, none⟩)) o12_74 (yl' o12_73) (fa8 g w) ?_
     refine ld' (.pointer (some ⟨g, 13, none⟩)) (.int .i64 a13) o12_75 (yl' o12_73) (la8 HB) ?_
     rcases Bool.eq_false_or_eq_true (a13 == 0) with h_ | h_
     ·
      refine eq' true (a13) o12_76 (yl' o12_73) ?_
      refine pkt' false 124 (.bool true) o12_77 (yl' o12_66) ?_
      refine pkt' true 125 (.bool true) o12_78 trivial ?_
      refine mv' (.bool true) o12_79 trivial ?_
      exact q5 (k _)
     ·
      refine eq' false (a13) o12_76 (yl' o12_73) ?_
      refine pkt' false 124 (.bool false) o12_77 (yl' o12_66) ?_
      refine pkt' true 125 (.bool false) o12_78 trivial ?_
      refine mv' (.bool false) o12_79 trivial ?_
      exact q5 (k _)
theorem conj6 {b timed : Bool} (HB : w.heap[g]? = some (.cells #[.int .i64 a0, .int .i64 a1, .int .i64 a2, .int .i64 a3, .slice A4 l4.length c4, .int .i64 a5, .bool a6, .slice A7 l7.length c7, .int .i64 a8, .bool a9, .slice A10 l10.length c10, .int .i64 a11, .int .i64 a12, .int .i64 a13, .slice A14 l14.length c14, .slice A15 l15.length c15, .int .u32 a16, .int .i64 a17] 33 (0, 0))) (hN : T.size = 156) (h1 : T[1]? = some (.pointer (some ⟨g, 0, none⟩))) (h3 : T[3]? = some (.int .i64 x)) (h7 : T[7]? = some (.bool timed)) (ha : T[127]? = some (.bool b))
    (k : ∀ T' : Array Value, T'.size = 156 → T'[1]? = some (.pointer (some ⟨g, 0, none⟩)) → T'[3]? = some (.int .i64 x) → T'[7]? = some (.bool timed) → T'[137]? = some (.bool (b && (x == 9 || (l15.length : Int) == 0))) → At Try.prog al12 Q D 90 T' w) : At Try.prog al12 Q D 80 T w := by
  cases b
  ·
   refine off o12_80 (yn' (.bool false) o12_79) ?_
   refine off o12_81 (yn' (.bool false) o12_79) ?_
   refine off o12_82 (yn' (.bool false) o12_79) ?_
   refine off o12_83 (yn' (undef) o12_82) ?_
   refine off o12_84 (yn' (undef) o12_82) ?_
   refine off o12_85 (yn' (undef) o12_82) ?_
   refine off o12_86 (yn' (undef) o12_82) ?_
   refine off o12_87 (yn' (.bool false) o12_79) ?_
   refine pkc' false (.bool false) o12_88 trivial ?_
   refine mv' (.bool false) o12_89 trivial ?_
   exact q5 (k _)
  ·
   refine mv' (.int .i64 (x)) o12_80 (yl' o12_79) ?_
   rcases Bool.eq_false_or_eq_true (x == 9) with h_ | h_
   ·
    refine eq' true (x) o12_81 (yl' o12_79) ?_
    refine mv' (.bool true) o12_82 (yl' o12_79) ?_
    refine off o12_83 (yn' (.bool true) o12_82) ?_
    refine off o12_84 (yn' (.bool true) o12_82) ?_
    refine off o12_85 (yn' (.bool true) o12_82) ?_
    refine off o12_86 (yn' (.bool true) o12_82) ?_
    refine pkc' true (.bool true) o12_87 (yl' o12_79) ?_
    refine pkt' true 135 (.bool true) o12_88 trivial ?_
    refine mv' (.bool true) o12_89 trivial ?_
    exact q5 (k _)
   ·
    refine eq' false (x) o12_81 (yl' o12_79) ?_
    refine mv' (.bool false) o12_82 (yl' o12_79) ?_
    refine ad' (.pointer (some ⟨g, 0, none⟩)) (.pointer (some ⟨g, 15, none⟩)) o12_83 (yl' o12_82) (fa10 g w) ?_
    refine ld' (.pointer (some ⟨g, 15, none⟩)) (.slice A15 l15.length c15) o12_84 (yl' o12_82) (la10 HB) ?_
    refine ln' A15 l15.length c15 (le30 w) o12_85 (yl' o12_82) ?_
    rcases Bool.eq_false_or_eq_true ((l15.length : Int) == 0) with h_ | h_
    ·
     refine eq' true ((l15.length : Int)) o12_86 (yl' o12_82) ?_
     refine pkt' false 134 (.bool true) o12_87 (yl' o12_79) ?_
     refine pkt' true 135 (.bool true) o12_88 trivial ?_
     refine mv' (.bool true) o12_89 trivial ?_
     exact q5 (k _)
    ·
     refine eq' false ((l15.length : Int)) o12_86 (yl' o12_82) ?_
     refine pkt' false 134 (.bool false) o12_87 (yl' o12_79) ?_
     refine pkt' true 135 (.bool false) o12_88 trivial ?_
     refine mv' (.bool false) o12_89 trivial ?_
     exact q5 (k _)
theorem conj7 {b timed : Bool} (HB : w.heap[g]? = some (.cells #[.int .i64 a0, .int .i64 a1, .int .i64 a2, .int .i64 a3, .slice A4 l4.length c4, .int .i64 a5, .bool a6, .slice A7 l7.length c7, .int .i64 a8, .bool a9, .slice A10 l10.length c10, .int .i64 a11, .int .i64 a12, .int .i64 a13, .slice A14 l14.length c14, .slice A15 l15.length c15, .int .u32 a16, .int .i64 a17] 33 (0, 0))) (hN : T.size = 156) (h1 : T[1]? = some (.pointer (some ⟨g, 0, none⟩))) (h3 : T[3]? = some (.int .i64 x)) (h7 : T[7]? = some (.bool timed)) (ha : T[137]? = some (.bool b))
    (k : ∀ T' : Array Value, T'.size = 156 → T'[1]? = some (.pointer (some ⟨g, 0, none⟩)) → T'[3]? = some (.int .i64 x) → T'[7]? = some (.bool timed) → T'[147]? = some (.bool (b && (x == 10 || (l14.length : Int) == 0))) → At Try.prog al12 Q D 100 T' w) : At Try.prog al12 Q D 90 T w := by
  cases b
  ·
   refine off o12_90 (yn' (.bool false) o12_89) ?_
   refine off o12_91 (yn' (.bool false) o12_89) ?_
   refine off o12_92 (yn' (.bool false) o12_89) ?_
   refine off o12_93 (yn' (undef) o12_92) ?_
   refine off o12_94 (yn' (undef) o12_92) ?_
   refine off o12_95 (yn' (undef) o12_92) ?_
   refine off o12_96 (yn' (undef) o12_92) ?_
   refine off o12_97 (yn' (.bool false) o12_89) ?_
   refine pkc' false (.bool false) o12_98 trivial ?_
   refine mv' (.bool false) o12_99 trivial ?_
   exact q5 (k _)
  ·
   refine mv' (.int .i64 (x)) o12_90 (yl' o12_89) ?_
   rcases Bool.eq_false_or_eq_true (x == 10) with h_ | h_
   ·
    refine eq' true (x) o12_91 (yl' o12_89) ?_
    refine mv' (.bool true) o12_92 (yl' o12_89) ?_
    refine off o12_93 (yn' (.bool true) o12_92) ?_
    refine off o12_94 (yn' (.bool true) o12_92) ?_
    refine off o12_95 (yn' (.bool true) o12_92) ?_
    refine off o12_96 (yn' (.bool true) o12_92) ?_
    refine pkc' true (.bool true) o12_97 (yl' o12_89) ?_
    refine pkt' true 145 (.bool true) o12_98 trivial ?_
    refine mv' (.bool true) o12_99 trivial ?_
    exact q5 (k _)
   ·
    refine eq' false (x) o12_91 (yl' o12_89) ?_
    refine mv' (.bool false) o12_92 (yl' o12_89) ?_
    refine ad' (.pointer (some ⟨g, 0, none⟩)) (.pointer (some ⟨g, 14, none⟩)) o12_93 (yl' o12_92) (fa9 g w) ?_
    refine ld' (.pointer (some ⟨g, 14, none⟩)) (.slice A14 l14.length c14) o12_94 (yl' o12_92) (la9 HB) ?_
    refine ln' A14 l14.length c14 (le29 w) o12_95 (yl' o12_92) ?_
    rcases Bool.eq_false_or_eq_true ((l14.length : Int) == 0) with h_ | h_
    ·
     refine eq' true ((l14.length : Int)) o12_96 (yl' o12_92) ?_
     refine pkt' false 144 (.bool true) o12_97 (yl' o12_89) ?_
     refine pkt' true 145 (.bool true) o12_98 trivial ?_
     refine mv' (.bool true) o12_99 trivial ?_
     exact q5 (k _)
    ·
     refine eq' false ((l14.length : Int)) o12_96 (yl' o12_92) ?_
     refine pkt' false 144 (.bool false) o12_97 (yl' o12_89) ?_
     refine pkt' true 145 (.bool false) o12_98 trivial ?_
     refine mv' (.bool false) o12_99 trivial ?_
     exact q5 (k _)
theorem conj8 {b timed : Bool} (HB : w.heap[g]? = some (.cells #[.int .i64 a0, .int .i64 a1, .int .i64 a2, .int .i64 a3, .slice A4 l4.length c4, .int .i64 a5, .bool a6, .slice A7 l7.length c7, .int .i64 a8, .bool a9, .slice A10 l10.length c10, .int .i64 a11, .int .i64 a12, .int .i64 a13, .slice A14 l14.length c14, .slice A15 l15.length c15, .int .u32 a16, .int .i64 a17] 33 (0, 0))) (hN : T.size = 156) (h1 : T[1]? = some (.pointer (some ⟨g, 0, none⟩))) (h3 : T[3]? = some (.int .i64 x)) (h7 : T[7]? = some (.bool timed)) (ha : T[147]? = some (.bool b))
    (k : ∀ T' : Array Value, T'.size = 156 → T'[2]? = some (.bool (b && (x == 14 || a16 == 0))) → Q .normal ⟨T', D⟩ w) : At Try.prog al12 Q D 100 T w := by
  cases b
  ·
   refine off o12_100 (yn' (.bool false) o12_99) ?_
   refine off o12_101 (yn' (.bool false) o12_99) ?_
   refine off o12_102 (yn' (.bool false) o12_99) ?_
   refine off o12_103 (yn' (undef) o12_102) ?_
   refine off o12_104 (yn' (undef) o12_102) ?_
   refine off o12_105 (yn' (undef) o12_102) ?_
   refine off o12_106 (yn' (.bool false) o12_99) ?_
   refine pkc' false (.bool false) o12_107 trivial ?_
   refine as' (.bool false) o12_108 trivial ?_
   exact fin (by kernel_rfl) (q2 (k _))
  ·
   refine mv' (.int .i64 (x)) o12_100 (yl' o12_99) ?_
   rcases Bool.eq_false_or_eq_true (x == 14) with h_ | h_
   ·
    refine eq' true (x) o12_101 (yl' o12_99) ?_
    refine mv' (.bool true) o12_102 (yl' o12_99) ?_
    refine off o12_103 (yn' (.bool true) o12_102) ?_
    refine off o12_104 (yn' (.bool true) o12_102) ?_
    refine off o12_105 (yn' (.bool true) o12_102) ?_
    refine pkc' true (.bool true) o12_106 (yl' o12_99) ?_
    refine pkt' true 154 (.bool true) o12_107 trivial ?_
    refine as' (.bool true) o12_108 trivial ?_
    exact fin (by kernel_rfl) (q2 (k _))
   ·
    refine eq' false (x) o12_101 (yl' o12_99) ?_
    refine mv' (.bool false) o12_102 (yl' o12_99) ?_
    refine ad' (.pointer (some ⟨g, 0, none⟩)) (.pointer (some ⟨g, 16, none⟩)) o12_103 (yl' o12_102) (fa11 g w) ?_
    refine ld' (.pointer (some ⟨g, 16, none⟩)) (.int .u32 a16) o12_104 (yl' o12_102) (la11 HB) ?_
    rcases Bool.eq_false_or_eq_true (a16 == 0) with h_ | h_
    ·
     refine eq' true (a16) o12_105 (yl' o12_102) ?_
     refine pkt' false 153 (.bool true) o12_106 (yl' o12_99) ?_
     refine pkt' true 154 (.bool true) o12_107 trivial ?_
     refine as' (.bool true) o12_108 trivial ?_
     exact fin (by kernel_rfl) (q2 (k _))
    ·
     refine eq' false (a16) o12_105 (yl' o12_102) ?_
     refine pkt' false 153 (.bool false) o12_106 (yl' o12_99) ?_
     refine pkt' true 154 (.bool false) o12_107 trivial ?_
     refine as' (.bool false) o12_108 trivial ?_
     exact fin (by kernel_rfl) (q2 (k _))
theorem conj0 {t told timed : Bool} (HB : w.heap[g]? = some (.cells #[.int .i64 a0, .int .i64 a1, .int .i64 a2, .int .i64 a3, .slice A4 l4.length c4, .int .i64 a5, .bool a6, .slice A7 l7.length c7, .int .i64 a8, .bool a9, .slice A10 l10.length c10, .int .i64 a11, .int .i64 a12, .int .i64 a13, .slice A14 l14.length c14, .slice A15 l15.length c15, .int .u32 a16, .int .i64 a17] 33 (0, 0))) (hN : T.size = 156) (h1 : T[1]? = some (.pointer (some ⟨g, 0, none⟩))) (h3 : T[3]? = some (.int .i64 x)) (h6 : T[6]? = some (.bool told)) (h7 : T[7]? = some (.bool timed))
    (C48 : told = true → Calls Try.prog 48 #[.agg #[.int .i64 a3, .slice A4 l4.length c4, .int .i64 a5, .bool a6, .slice A7 l7.length c7, .int .i64 a8]] w fun e w' => e = .returned (.bool t) ∧ Below w.heap.size w w')
    (C49 : told = false → Calls Try.prog 49 #[.agg #[.int .i64 a3, .slice A4 l4.length c4, .int .i64 a5, .bool a6, .slice A7 l7.length c7, .int .i64 a8]] w fun e w' => e = .returned (.bool t) ∧ Below w.heap.size w w')
    (k : ∀ (T' : Array Value) (w' : World), Below w.heap.size w w' → T'.size = 156 → T'[1]? = some (.pointer (some ⟨g, 0, none⟩)) → T'[3]? = some (.int .i64 x) → T'[7]? = some (.bool timed) → T'[63]? = some (.bool t) → At Try.prog al12 Q D 16 T' w') : At Try.prog al12 Q D 0 T w := by
  cases told
  ·
   refine mv' (.bool false) o12_0 trivial ?_
   refine mv' (.bool false) o12_1 trivial ?_
   refine off o12_2 (yn' (.bool false) o12_1) ?_
   refine off o12_3 (yn' (.bool false) o12_1) ?_
   refine off o12_4 (yn' (.bool false) o12_1) ?_
   refine pkc' false (.bool false) o12_5 trivial ?_
   refine mv' (.bool false) o12_6 trivial ?_
   refine mv' (.bool false) o12_7 (yl' o12_6) ?_
   refine nt' false true o12_8 (yl' o12_6) ?_
   refine mv' (.bool true) o12_9 (yl' o12_6) ?_
   refine ad' (.pointer (some ⟨g, 0, none⟩)) (.pointer (some ⟨g, 3, none⟩)) o12_10 (yl' o12_9) (fa3 g w) ?_
   refine ld' (.pointer (some ⟨g, 3, none⟩)) (.agg #[.int .i64 a3, .slice A4 l4.length c4, .int .i64 a5, .bool a6, .slice A7 l7.length c7, .int .i64 a8]) o12_11 (yl' o12_9) (la3 HB) ?_
   refine cl (v := .agg #[.int .i64 a3, .slice A4 l4.length c4, .int .i64 a5, .bool a6, .slice A7 l7.length c7, .int .i64 a8]) o12_12 (yl' o12_9) Try.func49 (by kernel_rfl) rfl (by simp only [Array.getElem?_setIfInBounds, Array.size_setIfInBounds, Nat.reduceEqDiff, Nat.reduceLT, reduceIte, Bool.true_and, Bool.false_and, Bool.true_or, Bool.or_true, Bool.false_or, Bool.or_false, Bool.not_true, Bool.not_false, *]) ((C49 rfl).mono ?_)
   rintro e w' ⟨rfl, hb⟩
   refine ⟨_, rfl, ?_⟩
   refine pkt' true 60 (.bool t) o12_13 (yl' o12_6) ?_
   refine pkt' false 61 (.bool t) o12_14 trivial ?_
   refine mv' (.bool t) o12_15 trivial ?_
   exact q5 (k _ _ hb)
  ·
   refine mv' (.bool true) o12_0 trivial ?_
   refine mv' (.bool true) o12_1 trivial ?_
   refine ad' (.pointer (some ⟨g, 0, none⟩)) (.pointer (some ⟨g, 3, none⟩)) o12_2 (yl' o12_1) (fa3 g w) ?_
   refine ld' (.pointer (some ⟨g, 3, none⟩)) (.agg #[.int .i64 a3, .slice A4 l4.length c4, .int .i64 a5, .bool a6, .slice A7 l7.length c7, .int .i64 a8]) o12_3 (yl' o12_1) (la3 HB) ?_
   refine cl (v := .agg #[.int .i64 a3, .slice A4 l4.length c4, .int .i64 a5, .bool a6, .slice A7 l7.length c7, .int .i64 a8]) o12_4 (yl' o12_1) Try.func48 (by kernel_rfl) rfl (by simp only [Array.getElem?_setIfInBounds, Array.size_setIfInBounds, Nat.reduceEqDiff, Nat.reduceLT, reduceIte, Bool.true_and, Bool.false_and, Bool.true_or, Bool.or_true, Bool.false_or, Bool.or_false, Bool.not_true, Bool.not_false, *]) ((C48 rfl).mono ?_)
   rintro e w' ⟨rfl, hb⟩
   refine ⟨_, rfl, ?_⟩
   cases t
   ·
    refine pkt' true 52 (.bool false) o12_5 trivial ?_
    refine mv' (.bool false) o12_6 trivial ?_
    refine mv' (.bool true) o12_7 (yl' o12_6) ?_
    refine nt' true false o12_8 (yl' o12_6) ?_
    refine mv' (.bool false) o12_9 (yl' o12_6) ?_
    refine off o12_10 (yn' (.bool false) o12_9) ?_
    refine off o12_11 (yn' (.bool false) o12_9) ?_
    refine off o12_12 (yn' (.bool false) o12_9) ?_
    refine pkc' false (.bool false) o12_13 (yl' o12_6) ?_
    refine pkt' false 61 (.bool false) o12_14 trivial ?_
    refine mv' (.bool false) o12_15 trivial ?_
    exact q5 (k _ _ hb)
   ·
    refine pkt' true 52 (.bool true) o12_5 trivial ?_
    refine mv' (.bool true) o12_6 trivial ?_
    refine off o12_7 (yn' (.bool true) o12_6) ?_
    refine off o12_8 (yn' (.bool true) o12_6) ?_
    refine off o12_9 (yn' (.bool true) o12_6) ?_
    refine off o12_10 (yn' undef o12_9) ?_
    refine off o12_11 (yn' undef o12_9) ?_
    refine off o12_12 (yn' undef o12_9) ?_
    refine off o12_13 (yn' (.bool true) o12_6) ?_
    refine pkc' true (.bool true) o12_14 trivial ?_
    refine mv' (.bool true) o12_15 trivial ?_
    exact q5 (k _ _ hb)
theorem reg12 {t told timed : Bool} (HB : w.heap[g]? = some (.cells #[.int .i64 a0, .int .i64 a1, .int .i64 a2, .int .i64 a3, .slice A4 l4.length c4, .int .i64 a5, .bool a6, .slice A7 l7.length c7, .int .i64 a8, .bool a9, .slice A10 l10.length c10, .int .i64 a11, .int .i64 a12, .int .i64 a13, .slice A14 l14.length c14, .slice A15 l15.length c15, .int .u32 a16, .int .i64 a17] 33 (0, 0))) (hN : T.size = 156) (h1 : T[1]? = some (.pointer (some ⟨g, 0, none⟩))) (h3 : T[3]? = some (.int .i64 x)) (h6 : T[6]? = some (.bool told)) (h7 : T[7]? = some (.bool timed))
    (C48 : told = true → Calls Try.prog 48 #[.agg #[.int .i64 a3, .slice A4 l4.length c4, .int .i64 a5, .bool a6, .slice A7 l7.length c7, .int .i64 a8]] w fun e w' => e = .returned (.bool t) ∧ Below w.heap.size w w')
    (C49 : told = false → Calls Try.prog 49 #[.agg #[.int .i64 a3, .slice A4 l4.length c4, .int .i64 a5, .bool a6, .slice A7 l7.length c7, .int .i64 a8]] w fun e w' => e = .returned (.bool t) ∧ Below w.heap.size w w')
    (k : ∀ (T' : Array Value) (w' : World), Below w.heap.size w w' → T'.size = 156 → T'[2]? = some (.bool ((((((((t && (x == 4 || (l10.length : Int) == 0)) && (x == 4 || x == 8 || x == 13 || !a9)) && (timed || x == 11 || a11 == 0)) && (timed || x == 15 || a12 == 0)) && (x == 9 || x == 15 || a13 == 0)) && (x == 9 || (l15.length : Int) == 0)) && (x == 10 || (l14.length : Int) == 0)) && (x == 14 || a16 == 0))) → Q .normal ⟨T', D⟩ w') : At Try.prog al12 Q D 0 T w := by
  refine conj0 HB hN h1 h3 h6 h7 C48 C49 fun T0 w' hb n a b c d => ?_
  have HB' := blk_below HB hb
  refine conj1 HB' n a b c d fun T1 n a b c d => ?_
  refine conj2 HB' n a b c d fun T1 n a b c d => ?_
  refine conj3 HB' n a b c d fun T1 n a b c d => ?_
  refine conj4 HB' n a b c d fun T1 n a b c d => ?_
  refine conj5 HB' n a b c d fun T1 n a b c d => ?_
  refine conj6 HB' n a b c d fun T1 n a b c d => ?_
  refine conj7 HB' n a b c d fun T1 n a b c d => ?_
  exact conj8 HB' n a b c d fun T1 n d => k T1 w' hb n d
end
end Go.Proofs.Ytlhjdmpclfhoeaa.PC
