/- Part 4 of the proof of: SymbolPeriods returns true for every input and never panics: behind its period a register is the same, and behind no fewer steps; a jump over a sum is one jump behind the other; one step is what Next does; conditions: none beyond the given statement. -/
import Derived.Test.YtfgpbmjmoobcnaaProg
import Derived.KernelRfl
import Derived.Test.YtfgpbmjmoobcnaaAm3
set_option linter.all false
section
open Go Go.Am
open Go.Am.Dat (cells)
namespace Go.Proofs.Ytfgpbmjmoobcnaa.D
set_option maxRecDepth 100000
def c17 : AC := .seq (.region false [⟨some 4, none, .mv (.const (.slice none 0 0)), false⟩, ⟨some 5, none, .mv (.const (.int .i64 0)), false⟩, ⟨some 6, none, .mv (.const (.int .i64 0)), false⟩]) (.keep [0, 1] (.seq (.region false [⟨some 17, none, .mv (.tmp 0), false⟩, ⟨some 18, none, .call (.func 49) [(.tmp 17)], false⟩, ⟨some 16, none, .mv (.tmp 18), false⟩, ⟨some 19, none, .extr (.tmp 16) 0, false⟩, ⟨some 20, none, .extr (.tmp 16) 1, false⟩, ⟨some 7, none, .alloc [.int .i64 0, .int .i64 0], false⟩, ⟨none, none, .store false 2 (.tmp 7) (.tmp 19), false⟩, ⟨some 8, none, .mv (.tmp 20), false⟩]) (.keep [0, 1, 7, 8] (.seq (.seq (.region true [⟨some 21, none, .mvs (.tmp 8), false⟩, ⟨some 22, none, .mv (.tmp 1), false⟩, ⟨some 23, none, .call (.func 81) [(.tmp 22)], false⟩, ⟨some 24, none, .mv (.tmp 1), false⟩, ⟨some 25, none, .len false (.tmp 24), false⟩, ⟨some 26, none, .mv (.tmp 0), false⟩, ⟨some 27, none, .len false (.tmp 26), false⟩, ⟨some 28, none, .bin .eql 3 (.tmp 25) (.tmp 27), false⟩, ⟨some 29, none, .call (.func 82) [(.tmp 28), (.const (.int .i64 13))], false⟩, ⟨some 30, none, .load true 2 (.tmp 7), false⟩, ⟨some 31, none, .build [.int .i64 0, .int .i64 0] [], false⟩, ⟨some 32, none, .ext (.eqs true [0, 0]) [(.tmp 30), (.tmp 31)], false⟩, ⟨some 33, none, .call (.func 82) [(.tmp 32), (.const (.int .i64 27))], true⟩, ⟨some 34, none, .mkSl false 25 1 [.int .i64 0] 4 [(0, (.tmp 21)), (1, (.tmp 23)), (2, (.tmp 29)), (3, (.tmp 33))], true⟩, ⟨some 35, none, .call (.func 80) [(.tmp 34)], true⟩, ⟨some 8, none, .mv (.tmp 35), true⟩]) (.keep [0, 1, 7, 8] (.seq (.region false [⟨some 36, none, .mv (.tmp 8), false⟩, ⟨some 37, none, .bin .neq 25 (.tmp 36) (.const (.int .i64 0)), false⟩]) (.keep [0, 1, 7, 8, 37] (.cond (.tmp 37) (.seq (.region false [⟨some 38, none, .mv (.tmp 8), false⟩, ⟨some 4, none, .mv (.const (.slice none 0 0)), false⟩, ⟨some 5, none, .mv (.const (.int .i64 0)), false⟩, ⟨some 6, none, .mv (.tmp 38), false⟩]) (.keep [4, 5, 6] (.ret))) (.skip)))))) (.keep [0, 1, 7] (.seq (.region false [⟨some 39, none, .faddr 0 (.tmp 7), false⟩, ⟨some 40, none, .load false 1 (.tmp 39), false⟩, ⟨some 41, none, .faddr 1 (.tmp 7), false⟩, ⟨some 42, none, .load false 1 (.tmp 41), false⟩, ⟨some 43, none, .un .neg (.tmp 42), false⟩, ⟨some 44, none, .build [.int .i64 0, .int .i64 0] [(0, 1, (.tmp 40)), (1, 1, (.tmp 43))], false⟩, ⟨some 9, none, .alloc [.int .i64 0, .int .i64 0], false⟩, ⟨none, none, .store false 2 (.tmp 9) (.tmp 44), false⟩]) (.keep [0, 1, 7, 9] (.seq (.region false [⟨some 45, none, .load true 2 (.tmp 7), false⟩, ⟨some 46, none, .load true 2 (.tmp 9), false⟩, ⟨some 47, none, .call (.func 83) [(.tmp 45), (.tmp 46)], false⟩, ⟨some 48, none, .field false 1 0 (.tmp 47), false⟩, ⟨some 10, none, .mv (.tmp 48), false⟩]) (.keep [0, 1, 9, 10] (.seq (.seq (.region false [⟨some 49, none, .mv (.tmp 10), false⟩, ⟨some 50, none, .bin .gtr 3 (.tmp 49) (.const (.int .i64 10000000)), false⟩]) (.keep [0, 1, 9, 10, 50] (.cond (.tmp 50) (.seq (.region false [⟨some 4, none, .mv (.const (.slice none 0 0)), false⟩, ⟨some 5, none, .mv (.const (.int .i64 0)), false⟩, ⟨some 6, none, .mv (.const (.int .i64 8)), false⟩]) (.keep [4, 5, 6] (.ret))) (.skip)))) (.keep [0, 1, 9, 10] (.seq (.region false [⟨some 51, none, .mv (.tmp 0), false⟩, ⟨some 52, none, .call (.func 85) [(.tmp 51)], false⟩, ⟨some 53, none, .call (.func 84) [(.tmp 52)], false⟩, ⟨some 54, none, .mv (.tmp 1), false⟩, ⟨some 55, none, .call (.func 84) [(.tmp 54)], false⟩, ⟨some 56, none, .call (.func 86) [(.tmp 53), (.tmp 55)], false⟩, ⟨some 57, none, .call (.func 87) [(.tmp 56)], false⟩, ⟨some 11, none, .mv (.tmp 57), false⟩]) (.keep [9, 10, 11] (.seq (.seq (.region false [⟨some 58, none, .mv (.tmp 11), false⟩, ⟨some 59, none, .len false (.tmp 58), false⟩, ⟨some 60, none, .mv (.const (.int .i64 0)), false⟩]) (.keep [9, 10, 11, 58, 59, 60] (.block 0 (.loop c17l2)))) (.keep [10, 11] (.fz [11] (.seq (.region false [⟨some 85, none, .mv (.tmp 11), false⟩, ⟨some 86, none, .mv (.tmp 10), false⟩, ⟨some 4, none, .mv (.tmp 85), false⟩, ⟨some 5, none, .mv (.tmp 86), false⟩, ⟨some 6, none, .mv (.const (.int .i64 0)), false⟩]) (.keep [4, 5, 6] (.ret)))))))))))))))))))
def rv17 : List RV := [.tmp 4, .tmp 5, .tmp 6]
theorem is17 : FnIs Try.prog 17 87 c17 rv17 := ⟨⟨Try.f17, _, Try.func17, by kernel_rfl, rfl, rfl, by kernel_rfl, by kernel_rfl⟩, by decide⟩
end Go.Proofs.Ytfgpbmjmoobcnaa.D
end
section
open Go Go.Am
open Go.Am.Dat (cells)
namespace Go.Proofs.Ytfgpbmjmoobcnaa.D
set_option maxRecDepth 100000
def c43 : AC := .seq (.region false [⟨some 1, none, .box (.tmp 0), false⟩, ⟨some 2, none, .alloc [.int .i64 0, .slice none 0 0, .slice none 0 0], false⟩]) (.keep [1, 2] (.seq (.draw 999 [1, 8, 9, 108, 109, 203, 204, 207, 208, 209, 304, 307, 308, 309, 407, 408, 409, 506, 507, 508, 509, 607, 608, 609, 708, 709, 809] [⟨some 3, none, .faddr 0 (.tmp 1), false⟩, ⟨some 4, none, .load false 1 (.tmp 3), false⟩, ⟨some 5, none, .faddr 1 (.tmp 1), false⟩, ⟨some 6, none, .load false 1 (.tmp 5), false⟩, ⟨some 7, none, .call (.func 25) [(.tmp 6)], false⟩, ⟨some 8, none, .faddr 2 (.tmp 1), false⟩, ⟨some 9, none, .load false 1 (.tmp 8), false⟩, ⟨some 10, none, .call (.func 25) [(.tmp 9)], false⟩, ⟨some 11, none, .build [.int .i64 0, .slice none 0 0, .slice none 0 0] [(0, 1, (.tmp 4)), (1, 1, (.tmp 7)), (2, 1, (.tmp 10))], true⟩, ⟨none, none, .store false 3 (.tmp 2) (.tmp 11), true⟩]) (.keep [2] (.ret))))
def rv43 : List RV := [.cell 2 true 3]
theorem is43 : FnIs Try.prog 43 12 c43 rv43 := ⟨⟨Try.f43, _, Try.func43, by kernel_rfl, rfl, rfl, by kernel_rfl, by kernel_rfl⟩, by decide⟩
def c126l1 : AC := .seq (.seq (.region false [⟨some 7, none, .faddr 0 (.tmp 4), false⟩, ⟨some 8, none, .load false 1 (.tmp 7), false⟩, ⟨some 9, none, .faddr 0 (.tmp 1), false⟩, ⟨some 10, none, .load false 1 (.tmp 9), false⟩, ⟨some 11, none, .bin .neq 132 (.tmp 8) (.tmp 10), false⟩]) (.keep [1, 3, 4, 11] (.cond (.tmp 11) (.skip) (.exit 0)))) (.keep [1, 3, 4] (.seq (.block 1 (.region false [⟨some 13, none, .mv (.tmp 3), false⟩, ⟨some 14, none, .bin .add 3 (.tmp 13) (.const (.int .i64 1)), false⟩, ⟨some 3, none, .mv (.tmp 14), false⟩])) (.keep [1, 3, 4] (.region false [⟨some 12, none, .call (.func 109) [(.tmp 4)], false⟩]))))
def c126 : AC := .seq (.region false [⟨some 1, none, .box (.tmp 0), false⟩, ⟨some 2, none, .mv (.const (.int .i64 0)), false⟩]) (.keep [1] (.seq (.draw 1 [0] [⟨some 5, none, .load true 3 (.tmp 1), false⟩, ⟨some 4, none, .alloc [.int .u16 0, .int .u16 0, .int .i64 0], true⟩, ⟨some 3, none, .mv (.const (.int .i64 1)), false⟩, ⟨none, none, .store false 3 (.tmp 4) (.tmp 5), true⟩]) (.keep [1, 3, 4] (.seq (.seq (.region false [⟨some 6, none, .call (.func 109) [(.tmp 4)], false⟩]) (.keep [1, 3, 4] (.block 0 (.loop c126l1)))) (.keep [3] (.seq (.region false [⟨some 15, none, .mv (.tmp 3), false⟩, ⟨some 2, none, .mv (.tmp 15), false⟩]) (.keep [2] (.ret))))))))
def rv126 : List RV := [.tmp 2]
theorem is126 : FnIs Try.prog 126 16 c126 rv126 := ⟨⟨Try.f126, _, Try.func126, by kernel_rfl, rfl, rfl, by kernel_rfl, by kernel_rfl⟩, by decide⟩
def c14k1 : AC := .seq (.region false [⟨some 124, none, .load true 3 (.tmp 3), false⟩, ⟨some 125, none, .call (.func 43) [(.tmp 124)], false⟩, ⟨some 126, none, .mv (.tmp 1), false⟩, ⟨some 127, none, .call (.func 73) [(.tmp 125), (.tmp 126)], false⟩, ⟨some 123, none, .mv (.tmp 127), false⟩, ⟨some 128, none, .extr (.tmp 123) 0, false⟩, ⟨some 129, none, .extr (.tmp 123) 1, false⟩, ⟨some 18, none, .alloc [.int .i64 0, .slice none 0 0, .slice none 0 0], false⟩, ⟨none, none, .store false 3 (.tmp 18) (.tmp 128), false⟩, ⟨some 19, none, .mv (.tmp 129), false⟩]) (.keep [1, 2, 3, 18, 19] (.seq (.seq (.region false [⟨some 130, none, .mv (.tmp 19), false⟩, ⟨some 131, none, .bin .neq 25 (.tmp 130) (.const (.int .i64 0)), false⟩, ⟨some 132, none, .mv (.tmp 131), false⟩, ⟨some 133, some (132, false), .load true 3 (.tmp 18), false⟩, ⟨some 134, some (132, false), .call (.func 44) [(.tmp 133)], false⟩, ⟨some 135, some (132, false), .bin .neq 3 (.tmp 134) (.const (.int .i64 0)), false⟩, ⟨some 136, none, .pick (.tmp 132) (.const (.bool true)) (.tmp 135), false⟩]) (.keep [1, 2, 3, 18, 136] (.cond (.tmp 136) (.seq (.region false [⟨some 6, none, .mv (.const (.bool false)), false⟩]) (.keep [6] (.ret))) (.skip)))) (.keep [1, 2, 3, 18] (.seq (.region false [⟨some 138, none, .load true 3 (.tmp 18), false⟩, ⟨some 139, none, .call (.func 43) [(.tmp 138)], false⟩, ⟨some 140, none, .mv (.tmp 2), false⟩, ⟨some 141, none, .call (.func 73) [(.tmp 139), (.tmp 140)], false⟩, ⟨some 137, none, .mv (.tmp 141), false⟩, ⟨some 142, none, .extr (.tmp 137) 0, false⟩, ⟨some 143, none, .extr (.tmp 137) 1, false⟩, ⟨some 20, none, .alloc [.int .i64 0, .slice none 0 0, .slice none 0 0], false⟩, ⟨none, none, .store false 3 (.tmp 20) (.tmp 142), false⟩, ⟨some 21, none, .mv (.tmp 143), false⟩]) (.keep [1, 2, 3, 20, 21] (.seq (.region false [⟨some 145, none, .load true 3 (.tmp 3), false⟩, ⟨some 146, none, .call (.func 43) [(.tmp 145)], false⟩, ⟨some 147, none, .mv (.tmp 1), false⟩, ⟨some 148, none, .mv (.tmp 2), false⟩, ⟨some 149, none, .bin .add 3 (.tmp 147) (.tmp 148), false⟩, ⟨some 150, none, .call (.func 73) [(.tmp 146), (.tmp 149)], false⟩, ⟨some 144, none, .mv (.tmp 150), false⟩, ⟨some 151, none, .extr (.tmp 144) 0, false⟩, ⟨some 152, none, .extr (.tmp 144) 1, false⟩, ⟨some 22, none, .alloc [.int .i64 0, .slice none 0 0, .slice none 0 0], false⟩, ⟨none, none, .store false 3 (.tmp 22) (.tmp 151), false⟩, ⟨some 23, none, .mv (.tmp 152), false⟩]) (.keep [20, 21, 22, 23] (.seq (.region false [⟨some 153, none, .mv (.tmp 21), false⟩, ⟨some 154, none, .bin .eql 25 (.tmp 153) (.const (.int .i64 0)), false⟩, ⟨some 155, none, .mv (.tmp 154), false⟩, ⟨some 156, some (155, true), .mv (.tmp 23), false⟩, ⟨some 157, some (155, true), .bin .eql 25 (.tmp 156) (.const (.int .i64 0)), false⟩, ⟨some 158, none, .pick (.tmp 155) (.tmp 157) (.const (.bool false)), false⟩, ⟨some 159, none, .mv (.tmp 158), false⟩, ⟨some 160, some (159, true), .load true 3 (.tmp 20), false⟩, ⟨some 161, some (159, true), .load true 3 (.tmp 22), false⟩, ⟨some 162, some (159, true), .call (.func 74) [(.tmp 160), (.tmp 161)], false⟩, ⟨some 163, none, .pick (.tmp 159) (.tmp 162) (.const (.bool false)), false⟩, ⟨some 6, none, .mv (.tmp 163), false⟩]) (.keep [6] (.ret))))))))))
def c14k2 : AC := .seq (.seq (.region false [⟨some 112, none, .mv (.tmp 1), false⟩, ⟨some 113, none, .mv (.tmp 7), false⟩, ⟨some 114, none, .call (.func 31) [(.tmp 112), (.tmp 113)], false⟩, ⟨some 115, none, .bin .neq 3 (.tmp 114) (.const (.int .i64 0)), false⟩, ⟨some 116, none, .mv (.tmp 115), false⟩, ⟨some 117, some (116, true), .faddr 2 (.tmp 11), false⟩, ⟨some 118, some (116, true), .load false 1 (.tmp 117), false⟩, ⟨some 119, some (116, true), .faddr 2 (.tmp 3), false⟩, ⟨some 120, some (116, true), .load false 1 (.tmp 119), false⟩, ⟨some 121, some (116, true), .call (.func 37) [(.tmp 118), (.tmp 120)], false⟩, ⟨some 122, none, .pick (.tmp 116) (.tmp 121) (.const (.bool false)), false⟩]) (.keep [1, 2, 3, 122] (.cond (.tmp 122) (.seq (.region false [⟨some 6, none, .mv (.const (.bool false)), false⟩]) (.keep [6] (.ret))) (.skip)))) (.keep [1, 2, 3] (.cut c14k1))
def c14k3 : AC := .seq (.seq (.region false [⟨some 86, none, .mv (.tmp 10), false⟩, ⟨some 87, none, .bin .neq 25 (.tmp 86) (.const (.int .i64 0)), false⟩, ⟨some 88, none, .mv (.tmp 87), false⟩, ⟨some 89, some (88, false), .mv (.tmp 12), false⟩, ⟨some 90, some (88, false), .bin .neq 25 (.tmp 89) (.const (.int .i64 0)), false⟩, ⟨some 91, none, .pick (.tmp 88) (.const (.bool true)) (.tmp 90), false⟩, ⟨some 92, none, .mv (.tmp 91), false⟩, ⟨some 93, some (92, false), .mv (.tmp 15), false⟩, ⟨some 94, some (92, false), .bin .neq 25 (.tmp 93) (.const (.int .i64 0)), false⟩, ⟨some 95, none, .pick (.tmp 92) (.const (.bool true)) (.tmp 94), false⟩, ⟨some 96, none, .mv (.tmp 95), false⟩, ⟨some 97, some (96, false), .mv (.tmp 17), false⟩, ⟨some 98, some (96, false), .bin .neq 25 (.tmp 97) (.const (.int .i64 0)), false⟩, ⟨some 99, none, .pick (.tmp 96) (.const (.bool true)) (.tmp 98), false⟩, ⟨some 100, none, .mv (.tmp 99), false⟩, ⟨some 101, some (100, false), .load true 3 (.tmp 9), false⟩, ⟨some 102, some (100, false), .load true 3 (.tmp 3), false⟩, ⟨some 103, some (100, false), .call (.func 74) [(.tmp 101), (.tmp 102)], false⟩, ⟨some 104, some (100, false), .un .not (.tmp 103), false⟩, ⟨some 105, none, .pick (.tmp 100) (.const (.bool true)) (.tmp 104), false⟩, ⟨some 106, none, .mv (.tmp 105), false⟩, ⟨some 107, some (106, false), .load true 3 (.tmp 14), false⟩, ⟨some 108, some (106, false), .load true 3 (.tmp 16), false⟩, ⟨some 109, some (106, false), .call (.func 74) [(.tmp 107), (.tmp 108)], false⟩, ⟨some 110, some (106, false), .un .not (.tmp 109), false⟩, ⟨some 111, none, .pick (.tmp 106) (.const (.bool true)) (.tmp 110), false⟩]) (.keep [1, 2, 3, 7, 11, 111] (.cond (.tmp 111) (.seq (.region false [⟨some 6, none, .mv (.const (.bool false)), false⟩]) (.keep [6] (.ret))) (.skip)))) (.keep [1, 2, 3, 7, 11] (.cut c14k2))
def c14k4 : AC := .seq (.region false [⟨some 74, none, .load true 3 (.tmp 3), false⟩, ⟨some 75, none, .call (.func 43) [(.tmp 74)], false⟩, ⟨some 76, none, .call (.func 71) [(.tmp 75)], false⟩, ⟨some 73, none, .mv (.tmp 76), false⟩, ⟨some 77, none, .extr (.tmp 73) 0, false⟩, ⟨some 78, none, .extr (.tmp 73) 1, false⟩, ⟨some 79, none, .extr (.tmp 73) 2, false⟩, ⟨some 14, none, .alloc [.int .i64 0, .slice none 0 0, .slice none 0 0], false⟩, ⟨some 13, none, .mv (.tmp 77), false⟩, ⟨none, none, .store false 3 (.tmp 14) (.tmp 78), false⟩, ⟨some 15, none, .mv (.tmp 79), false⟩]) (.keep [1, 2, 3, 7, 9, 10, 11, 12, 14, 15] (.seq (.region false [⟨some 81, none, .load true 3 (.tmp 3), false⟩, ⟨some 82, none, .call (.func 43) [(.tmp 81)], false⟩, ⟨some 83, none, .call (.func 73) [(.tmp 82), (.const (.int .i64 1))], false⟩, ⟨some 80, none, .mv (.tmp 83), false⟩, ⟨some 84, none, .extr (.tmp 80) 0, false⟩, ⟨some 85, none, .extr (.tmp 80) 1, false⟩, ⟨some 16, none, .alloc [.int .i64 0, .slice none 0 0, .slice none 0 0], false⟩, ⟨none, none, .store false 3 (.tmp 16) (.tmp 84), false⟩, ⟨some 17, none, .mv (.tmp 85), false⟩]) (.keep [1, 2, 3, 7, 9, 10, 11, 12, 14, 15, 16, 17] (.cut c14k3))))
def c14k5 : AC := .seq (.region false [⟨some 58, none, .load true 3 (.tmp 3), false⟩, ⟨some 59, none, .call (.func 43) [(.tmp 58)], false⟩, ⟨some 60, none, .mv (.tmp 7), false⟩, ⟨some 61, none, .call (.func 73) [(.tmp 59), (.tmp 60)], false⟩, ⟨some 57, none, .mv (.tmp 61), false⟩, ⟨some 62, none, .extr (.tmp 57) 0, false⟩, ⟨some 63, none, .extr (.tmp 57) 1, false⟩, ⟨some 9, none, .alloc [.int .i64 0, .slice none 0 0, .slice none 0 0], false⟩, ⟨none, none, .store false 3 (.tmp 9) (.tmp 62), false⟩, ⟨some 10, none, .mv (.tmp 63), false⟩]) (.keep [1, 2, 3, 7, 9, 10] (.seq (.region false [⟨some 65, none, .load true 3 (.tmp 3), false⟩, ⟨some 66, none, .call (.func 43) [(.tmp 65)], false⟩, ⟨some 67, none, .mv (.tmp 1), false⟩, ⟨some 68, none, .mv (.tmp 7), false⟩, ⟨some 69, none, .call (.func 31) [(.tmp 67), (.tmp 68)], false⟩, ⟨some 70, none, .call (.func 73) [(.tmp 66), (.tmp 69)], false⟩, ⟨some 64, none, .mv (.tmp 70), false⟩, ⟨some 71, none, .extr (.tmp 64) 0, false⟩, ⟨some 72, none, .extr (.tmp 64) 1, false⟩, ⟨some 11, none, .alloc [.int .i64 0, .slice none 0 0, .slice none 0 0], false⟩, ⟨none, none, .store false 3 (.tmp 11) (.tmp 71), false⟩, ⟨some 12, none, .mv (.tmp 72), false⟩]) (.keep [1, 2, 3, 7, 9, 10, 11, 12] (.cut c14k4))))
def c14 : AC := .seq (.region false [⟨some 3, none, .box (.tmp 0), false⟩, ⟨some 6, none, .mv (.const (.bool false)), false⟩]) (.keep [1, 2, 3] (.seq (.seq (.region false [⟨some 24, none, .call (.func 15) [], false⟩, ⟨some 25, none, .un .not (.tmp 24), false⟩]) (.keep [1, 2, 3, 25] (.cond (.tmp 25) (.seq (.region false [⟨some 6, none, .mv (.const (.bool false)), false⟩]) (.keep [6] (.ret))) (.skip)))) (.keep [1, 2, 3] (.seq (.seq (.region false [⟨some 26, none, .load true 3 (.tmp 3), false⟩, ⟨some 27, none, .call (.func 41) [(.tmp 26)], false⟩, ⟨some 28, none, .un .not (.tmp 27), false⟩, ⟨some 29, none, .mv (.tmp 28), false⟩, ⟨some 30, some (29, false), .load true 3 (.tmp 3), false⟩, ⟨some 31, some (29, false), .call (.func 44) [(.tmp 30)], false⟩, ⟨some 32, some (29, false), .bin .neq 3 (.tmp 31) (.const (.int .i64 0)), false⟩, ⟨some 33, none, .pick (.tmp 29) (.const (.bool true)) (.tmp 32), false⟩, ⟨some 34, none, .mv (.tmp 33), false⟩, ⟨some 35, some (34, false), .mv (.tmp 1), false⟩, ⟨some 36, some (34, false), .call (.func 32) [(.tmp 35), (.const (.int .i64 0)), (.const (.int .i64 500000000))], false⟩, ⟨some 37, some (34, false), .un .not (.tmp 36), false⟩, ⟨some 38, none, .pick (.tmp 34) (.const (.bool true)) (.tmp 37), false⟩, ⟨some 39, none, .mv (.tmp 38), false⟩, ⟨some 40, some (39, false), .mv (.tmp 2), false⟩, ⟨some 41, some (39, false), .call (.func 32) [(.tmp 40), (.const (.int .i64 0)), (.const (.int .i64 500000000))], false⟩, ⟨some 42, some (39, false), .un .not (.tmp 41), false⟩, ⟨some 43, none, .pick (.tmp 39) (.const (.bool true)) (.tmp 42), false⟩]) (.keep [1, 2, 3, 43] (.cond (.tmp 43) (.seq (.region false [⟨some 6, none, .mv (.const (.bool true)), false⟩]) (.keep [6] (.ret))) (.skip)))) (.keep [1, 2, 3] (.seq (.region false [⟨some 45, none, .load true 3 (.tmp 3), false⟩, ⟨some 46, none, .call (.func 43) [(.tmp 45)], false⟩, ⟨some 47, none, .call (.func 78) [(.tmp 46)], false⟩, ⟨some 44, none, .mv (.tmp 47), false⟩, ⟨some 48, none, .extr (.tmp 44) 0, false⟩, ⟨some 49, none, .extr (.tmp 44) 1, false⟩, ⟨some 7, none, .mv (.tmp 48), false⟩, ⟨some 8, none, .mv (.tmp 49), false⟩]) (.keep [1, 2, 3, 7, 8] (.seq (.seq (.region false [⟨some 50, none, .mv (.tmp 8), false⟩, ⟨some 51, none, .bin .neq 25 (.tmp 50) (.const (.int .i64 0)), false⟩, ⟨some 52, none, .mv (.tmp 51), false⟩, ⟨some 53, some (52, false), .mv (.tmp 7), false⟩, ⟨some 54, some (52, false), .call (.func 32) [(.tmp 53), (.const (.int .i64 1)), (.const (.int .i64 1024))], false⟩, ⟨some 55, some (52, false), .un .not (.tmp 54), false⟩, ⟨some 56, none, .pick (.tmp 52) (.const (.bool true)) (.tmp 55), false⟩]) (.keep [1, 2, 3, 7, 56] (.cond (.tmp 56) (.seq (.region false [⟨some 6, none, .mv (.const (.bool false)), false⟩]) (.keep [6] (.ret))) (.skip)))) (.keep [1, 2, 3, 7] (.cut c14k5))))))))))
def rv14 : List RV := [.tmp 6]
theorem is14 : FnIs Try.prog 14 164 c14 rv14 := ⟨⟨Try.f14, _, Try.func14, by kernel_rfl, rfl, rfl, by kernel_rfl, by kernel_rfl⟩, by decide⟩
end Go.Proofs.Ytfgpbmjmoobcnaa.D
end
section
open Go Go.Am
open Go.Am.Dat (cells)
namespace Go.Proofs.Ytfgpbmjmoobcnaa
set_option maxHeartbeats 400000
set_option linter.unusedSimpArgs false
theorem within_c (n lo hi : Int) : FC Try.prog 103 [enc n, enc lo, enc hi] [] (enc (decide (lo ≤ n ∧ n ≤ hi))) [] := by
  refine fc_intro' is103 (by simp) (fun cx hl => S_run [] 800 ?_)
  delta c103
  simp (maxSteps := 4000000) -implicitDefEqProofs only [rv103, Ent.of0, Ent.of1, Ent.of2, Ent.of3, V, bO, bt, bE, cb, cN, cU, gt, lk, cJ, bQ, cm, cr, bM, cn, cn.subCs, cT, bg, a9, cg, az, a3, bn, aJ, bz, bo, aY, bF, ax, cu, cO, c6, aq, aX, bR, cI, cj, cY, cR, aV, an, bY, bj, zC, argS, bG, cH, cP, cW, ah, aw, aW, aA, cd, leC, ca, bP, cG, cS, bU, ay, aL, cK, au, cp, a7, a7.viewCs, bH, bH.flatCs, aR, aR.LensOks, Value.oneCell', ↓reduceIte, ite_true, ite_false, if_true, if_false, Nat.reduceAdd, Nat.reduceSub, Nat.reduceMul, Nat.reduceEqDiff, Nat.reduceLT, Nat.reduceLeDiff, reduceCtorEq, Int.reduceToNat, forall_const, implies_true, bm, Ent.mk3, bC, bu, bw, a5, a6, aZ, bK, bB, bI, bJ, bk, cD, bD, cQ, rn, bT, bT.renCs, aT, aU, aN, aN.viewOks, aI, a8, a8.flatBs, aG, ag, aH, ar, aQ, bv, bv.keysBs, aE, am, bp, bS, be, cC, af, af.passKs, aB, aO, ae, ae.lendKs, bV, cq, bW, bq, setInn, ai, cZ, cL, aC, bf, bZ, cc, aD, aP, Glob.gl, av, co, bL, b0, br, aj, bX, cM, cB, cV, bN, ap, ap.ptrOnlys, ak, aK, cz, aM, a4, bA, ce, aF, bh, cF, Nat.reduceBEq, undef]
  by_cases h : lo ≤ n <;> simp [h]
def e103 : Ent Try.prog := .of3 103 (fun _ _ _ => True) (fun n lo hi : Int => enc (decide (lo ≤ n ∧ n ≤ hi))) (fun _ _ _ => trivial) (fun n lo hi _ => within_c n lo hi)
theorem Within_c (n lo hi : Int) : FC Try.prog 32 [enc n, enc lo, enc hi] [] (enc (decide (lo ≤ n ∧ n ≤ hi))) [] := by
  refine fc_intro' is32 (by simp) (fun cx hl => S_run [] 800 ?_)
  delta c32
  simp (maxSteps := 4000000) -implicitDefEqProofs only [rv32, Ent.of0, Ent.of1, Ent.of2, Ent.of3, V, bO, bt, bE, cb, cN, cU, gt, lk, cJ, bQ, cm, cr, bM, cn, cn.subCs, cT, bg, a9, cg, az, a3, bn, aJ, bz, bo, aY, bF, ax, cu, cO, c6, aq, aX, bR, cI, cj, cY, cR, aV, an, bY, bj, zC, argS, bG, cH, cP, cW, ah, aw, aW, aA, cd, leC, ca, bP, cG, cS, bU, ay, aL, cK, au, cp, a7, a7.viewCs, bH, bH.flatCs, aR, aR.LensOks, Value.oneCell', ↓reduceIte, ite_true, ite_false, if_true, if_false, Nat.reduceAdd, Nat.reduceSub, Nat.reduceMul, Nat.reduceEqDiff, Nat.reduceLT, Nat.reduceLeDiff, reduceCtorEq, Int.reduceToNat, forall_const, implies_true, bm, Ent.mk3, bC, bu, bw, a5, a6, aZ, bK, bB, bI, bJ, bk, cD, bD, cQ, rn, bT, bT.renCs, aT, aU, aN, aN.viewOks, aI, a8, a8.flatBs, aG, ag, aH, ar, aQ, bv, bv.keysBs, aE, am, bp, bS, be, cC, af, af.passKs, aB, aO, ae, ae.lendKs, bV, cq, bW, bq, setInn, ai, cZ, cL, aC, bf, bZ, cc, aD, aP, Glob.gl, av, co, bL, b0, br, aj, bX, cM, cB, cV, bN, ap, ap.ptrOnlys, ak, aK, cz, aM, a4, bA, ce, aF, bh, cF, Nat.reduceBEq, undef]
  by_cases h : lo ≤ n <;> simp [h]
def e32 : Ent Try.prog := .of3 32 (fun _ _ _ => True) (fun n lo hi : Int => enc (decide (lo ≤ n ∧ n ≤ hi))) (fun _ _ _ => trivial) (fun n lo hi _ => Within_c n lo hi)
theorem unless_c (b : Bool) (e : Int) : FC Try.prog 82 [enc b, enc e] [] (enc (if b then 0 else e)) [] := by
  refine fc_intro' is82 (by simp) (fun cx hl => S_run [] 800 ?_)
  delta c82
  simp (maxSteps := 4000000) -implicitDefEqProofs only [rv82, Ent.of0, Ent.of1, Ent.of2, Ent.of3, V, bO, bt, bE, cb, cN, cU, gt, lk, cJ, bQ, cm, cr, bM, cn, cn.subCs, cT, bg, a9, cg, az, a3, bn, aJ, bz, bo, aY, bF, ax, cu, cO, c6, aq, aX, bR, cI, cj, cY, cR, aV, an, bY, bj, zC, argS, bG, cH, cP, cW, ah, aw, aW, aA, cd, leC, ca, bP, cG, cS, bU, ay, aL, cK, au, cp, a7, a7.viewCs, bH, bH.flatCs, aR, aR.LensOks, Value.oneCell', ↓reduceIte, ite_true, ite_false, if_true, if_false, Nat.reduceAdd, Nat.reduceSub, Nat.reduceMul, Nat.reduceEqDiff, Nat.reduceLT, Nat.reduceLeDiff, reduceCtorEq, Int.reduceToNat, forall_const, implies_true, bm, Ent.mk3, bC, bu, bw, a5, a6, aZ, bK, bB, bI, bJ, bk, cD, bD, cQ, rn, bT, bT.renCs, aT, aU, aN, aN.viewOks, aI, a8, a8.flatBs, aG, ag, aH, ar, aQ, bv, bv.keysBs, aE, am, bp, bS, be, cC, af, af.passKs, aB, aO, ae, ae.lendKs, bV, cq, bW, bq, setInn, ai, cZ, cL, aC, bf, bZ, cc, aD, aP, Glob.gl, av, co, bL, b0, br, aj, bX, cM, cB, cV, bN, ap, ap.ptrOnlys, ak, aK, cz, aM, a4, bA, ce, aF, bh, cF, Nat.reduceBEq, undef]
  cases b <;> simp
def e82 : Ent Try.prog := .of2 82 (fun _ _ => True) (fun (b : Bool) (e : Int) => enc (if b then 0 else e)) (fun _ _ => trivial) (fun b e _ => unless_c b e)
theorem small_c (n most : Int) (h : InR .i64 (-most)) : FC Try.prog 119 [enc n, enc most] [] (enc (decide (-most ≤ n ∧ n ≤ most))) [] := by
  refine fc_intro' is119 (by simp) (fun cx hl => S_run [e103] 800 ?_)
  delta c119
  simp (maxSteps := 4000000) -implicitDefEqProofs only [rv119, e103, h, Ent.of0, Ent.of1, Ent.of2, Ent.of3, V, bO, bt, bE, cb, cN, cU, gt, lk, cJ, bQ, cm, cr, bM, cn, cn.subCs, cT, bg, a9, cg, az, a3, bn, aJ, bz, bo, aY, bF, ax, cu, cO, c6, aq, aX, bR, cI, cj, cY, cR, aV, an, bY, bj, zC, argS, bG, cH, cP, cW, ah, aw, aW, aA, cd, leC, ca, bP, cG, cS, bU, ay, aL, cK, au, cp, a7, a7.viewCs, bH, bH.flatCs, aR, aR.LensOks, Value.oneCell', ↓reduceIte, ite_true, ite_false, if_true, if_false, Nat.reduceAdd, Nat.reduceSub, Nat.reduceMul, Nat.reduceEqDiff, Nat.reduceLT, Nat.reduceLeDiff, reduceCtorEq, Int.reduceToNat, forall_const, implies_true, bm, Ent.mk3, bC, bu, bw, a5, a6, aZ, bK, bB, bI, bJ, bk, cD, bD, cQ, rn, bT, bT.renCs, aT, aU, aN, aN.viewOks, aI, a8, a8.flatBs, aG, ag, aH, ar, aQ, bv, bv.keysBs, aE, am, bp, bS, be, cC, af, af.passKs, aB, aO, ae, ae.lendKs, bV, cq, bW, bq, setInn, ai, cZ, cL, aC, bf, bZ, cc, aD, aP, Glob.gl, av, co, bL, b0, br, aj, bX, cM, cB, cV, bN, ap, ap.ptrOnlys, ak, aK, cz, aM, a4, bA, ce, aF, bh, cF, Nat.reduceBEq, undef]
def e119 : Ent Try.prog := .of2 119 (fun _ most => InR .i64 (-most)) (fun n most : Int => enc (decide (-most ≤ n ∧ n ≤ most))) (fun _ _ => trivial) (fun n most h => small_c n most h)
def firstS : List Int → Int
  | [] => 0
  | e :: l => if e ≠ 0 then e else firstS l
theorem first_c (l : List Int) : FC Try.prog 80 [enc l] [] (enc (firstS l)) [] := by
  refine fc_intro' is80 (by simp) (fun cx hl => S_run [] 800 ?_)
  simp only [V, bO, bt, bE, cb, cN, cU, gt, lk, cJ, bQ, cm, cr, bM, cn, cn.subCs, cT, bg, a9, cg, az, a3, bn, aJ, bz, bo, aY, bF, ax, cu, cO, c6, aq, aX, bR, cI, cj, cY, cR, aV, an, bY, bj, zC, argS, bG, cH, cP, cW, ah, aw, aW, aA, cd, leC, ca, bP, cG, cS, bU, ay, aL, cK, au, cp, a7, a7.viewCs, bH, bH.flatCs, aR, aR.LensOks, Value.oneCell', ↓reduceIte, ite_true, ite_false, if_true, if_false, Nat.reduceAdd, Nat.reduceSub, Nat.reduceMul, Nat.reduceEqDiff, Nat.reduceLT, Nat.reduceLeDiff, reduceCtorEq, Int.reduceToNat, forall_const, implies_true, bm, Ent.mk3, bC, bu, bw, a5, a6, aZ, bK, bB, bI, bJ, bk, cD, bD, cQ, rn, bT, bT.renCs, aT, aU, aN, aN.viewOks, aI, a8, a8.flatBs, aG, ag, aH, ar, aQ, bv, bv.keysBs, aE, am, bp, bS, be, cC, af, af.passKs, aB, aO, ae, ae.lendKs, bV, cq, bW, bq, setInn, ai, cZ, cL, aC, bf, bZ, cc, aD, aP, Glob.gl, av, co, bL, b0, br, aj, bX, cM, cB, cV, bN, ap, ap.ptrOnlys, ak, aK, cz, aM, a4, bA, ce, aF, bh, cF, Nat.reduceBEq, undef] at hl
  have hlen := hl.list
  delta c80
  simp (maxSteps := 4000000) -implicitDefEqProofs only [rv80, Ent.of0, Ent.of1, Ent.of2, Ent.of3, V, bO, bt, bE, cb, cN, cU, gt, lk, cJ, bQ, cm, cr, bM, cn, cn.subCs, cT, bg, a9, cg, az, a3, bn, aJ, bz, bo, aY, bF, ax, cu, cO, c6, aq, aX, bR, cI, cj, cY, cR, aV, an, bY, bj, zC, argS, bG, cH, cP, cW, ah, aw, aW, aA, cd, leC, ca, bP, cG, cS, bU, ay, aL, cK, au, cp, a7, a7.viewCs, bH, bH.flatCs, aR, aR.LensOks, Value.oneCell', ↓reduceIte, ite_true, ite_false, if_true, if_false, Nat.reduceAdd, Nat.reduceSub, Nat.reduceMul, Nat.reduceEqDiff, Nat.reduceLT, Nat.reduceLeDiff, reduceCtorEq, Int.reduceToNat, forall_const, implies_true, bm, Ent.mk3, bC, bu, bw, a5, a6, aZ, bK, bB, bI, bJ, bk, cD, bD, cQ, rn, bT, bT.renCs, aT, aU, aN, aN.viewOks, aI, a8, a8.flatBs, aG, ag, aH, ar, aQ, bv, bv.keysBs, aE, am, bp, bS, be, cC, af, af.passKs, aB, aO, ae, ae.lendKs, bV, cq, bW, bq, setInn, ai, cZ, cL, aC, bf, bZ, cc, aD, aP, Glob.gl, av, co, bL, b0, br, aj, bX, cM, cB, cV, bN, ap, ap.ptrOnlys, ak, aK, cz, aM, a4, bA, ce, aF, bh, cF, Nat.reduceBEq, undef]
  refine S_for l.length (fun i => ⟨[(5, enc l), (6, .s (.int .i64 l.length)), (7, .s (.int .i64 i))], []⟩) (fun i => firstS l = firstS (l.drop i)) rfl ?_ (fun i hi hv => S_run [] 800 ?_)
  · simp only [V, bO, bt, bE, cb, cN, cU, gt, lk, cJ, bQ, cm, cr, bM, cn, cn.subCs, cT, bg, a9, cg, az, a3, bn, aJ, bz, bo, aY, bF, ax, cu, cO, c6, aq, aX, bR, cI, cj, cY, cR, aV, an, bY, bj, zC, argS, bG, cH, cP, cW, ah, aw, aW, aA, cd, leC, ca, bP, cG, cS, bU, ay, aL, cK, au, cp, a7, a7.viewCs, bH, bH.flatCs, aR, aR.LensOks, Value.oneCell', ↓reduceIte, ite_true, ite_false, if_true, if_false, Nat.reduceAdd, Nat.reduceSub, Nat.reduceMul, Nat.reduceEqDiff, Nat.reduceLT, Nat.reduceLeDiff, reduceCtorEq, Int.reduceToNat, forall_const, implies_true, bm, Ent.mk3, bC, bu, bw, a5, a6, aZ, bK, bB, bI, bJ, bk, cD, bD, cQ, rn, bT, bT.renCs, aT, aU, aN, aN.viewOks, aI, a8, a8.flatBs, aG, ag, aH, ar, aQ, bv, bv.keysBs, aE, am, bp, bS, be, cC, af, af.passKs, aB, aO, ae, ae.lendKs, bV, cq, bW, bq, setInn, ai, cZ, cL, aC, bf, bZ, cc, aD, aP, Glob.gl, av, co, bL, b0, br, aj, bX, cM, cB, cV, bN, ap, ap.ptrOnlys, ak, aK, cz, aM, a4, bA, ce, aF, bh, cF, Nat.reduceBEq, undef]; simp
  · delta c80l1
    simp (maxSteps := 4000000) -implicitDefEqProofs only [Ent.of0, Ent.of1, Ent.of2, Ent.of3, V, bO, bt, bE, cb, cN, cU, gt, lk, cJ, bQ, cm, cr, bM, cn, cn.subCs, cT, bg, a9, cg, az, a3, bn, aJ, bz, bo, aY, bF, ax, cu, cO, c6, aq, aX, bR, cI, cj, cY, cR, aV, an, bY, bj, zC, argS, bG, cH, cP, cW, ah, aw, aW, aA, cd, leC, ca, bP, cG, cS, bU, ay, aL, cK, au, cp, a7, a7.viewCs, bH, bH.flatCs, aR, aR.LensOks, Value.oneCell', ↓reduceIte, ite_true, ite_false, if_true, if_false, Nat.reduceAdd, Nat.reduceSub, Nat.reduceMul, Nat.reduceEqDiff, Nat.reduceLT, Nat.reduceLeDiff, reduceCtorEq, Int.reduceToNat, forall_const, implies_true, bm, Ent.mk3, bC, bu, bw, a5, a6, aZ, bK, bB, bI, bJ, bk, cD, bD, cQ, rn, bT, bT.renCs, aT, aU, aN, aN.viewOks, aI, a8, a8.flatBs, aG, ag, aH, ar, aQ, bv, bv.keysBs, aE, am, bp, bS, be, cC, af, af.passKs, aB, aO, ae, ae.lendKs, bV, cq, bW, bq, setInn, ai, cZ, cL, aC, bf, bZ, cc, aD, aP, Glob.gl, av, co, bL, b0, br, aj, bX, cM, cB, cV, bN, ap, ap.ptrOnlys, ak, aK, cz, aM, a4, bA, ce, aF, bh, cF, Nat.reduceBEq, undef]
    by_cases h : i < l.length
    · rw [drop_getD 0 h, firstS] at hv
      rw [if_pos (by omega)]
      refine ⟨by omega, ?_⟩
      split
      · rename_i hc; rw [hv, if_pos hc]
      · rename_i hc; exact ⟨by simp only [InR]; omega, h, by rw [hv, if_neg hc], by omega⟩
    · rw [if_neg (by omega), hv, List.drop_eq_nil_of_le (by omega)]; rfl
def e80 : Ent Try.prog := .of1 80 (fun _ => True) (fun l : List Int => enc (firstS l)) (fun _ => trivial) (fun l _ => first_c l)
def smallG (g : Gs) (most : Int) : Bool := decide (-most ≤ g.re ∧ g.re ≤ most) && decide (-most ≤ g.im ∧ g.im ≤ most)
theorem smallPoint_c (g : Gs) (most : Int) (h : InR .i64 (-most)) : FC Try.prog 88 [enc g, enc most] [] (enc (smallG g most)) [] := by
  refine fc_intro' is88 (by simp) (fun cx hl => S_run [e119] 800 ?_)
  delta c88
  simp (maxSteps := 4000000) -implicitDefEqProofs only [rv88, e119, h, Ent.of0, Ent.of1, Ent.of2, Ent.of3, V, bO, bt, bE, cb, cN, cU, gt, lk, cJ, bQ, cm, cr, bM, cn, cn.subCs, cT, bg, a9, cg, az, a3, bn, aJ, bz, bo, aY, bF, ax, cu, cO, c6, aq, aX, bR, cI, cj, cY, cR, aV, an, bY, bj, zC, argS, bG, cH, cP, cW, ah, aw, aW, aA, cd, leC, ca, bP, cG, cS, bU, ay, aL, cK, au, cp, a7, a7.viewCs, bH, bH.flatCs, aR, aR.LensOks, Value.oneCell', ↓reduceIte, ite_true, ite_false, if_true, if_false, Nat.reduceAdd, Nat.reduceSub, Nat.reduceMul, Nat.reduceEqDiff, Nat.reduceLT, Nat.reduceLeDiff, reduceCtorEq, Int.reduceToNat, forall_const, implies_true, bm, Ent.mk3, bC, bu, bw, a5, a6, aZ, bK, bB, bI, bJ, bk, cD, bD, cQ, rn, bT, bT.renCs, aT, aU, aN, aN.viewOks, aI, a8, a8.flatBs, aG, ag, aH, ar, aQ, bv, bv.keysBs, aE, am, bp, bS, be, cC, af, af.passKs, aB, aO, ae, ae.lendKs, bV, cq, bW, bq, setInn, ai, cZ, cL, aC, bf, bZ, cc, aD, aP, Glob.gl, av, co, bL, b0, br, aj, bX, cM, cB, cV, bN, ap, ap.ptrOnlys, ak, aK, cz, aM, a4, bA, ce, aF, bh, cF, Nat.reduceBEq, undef]
  unfold smallG
  by_cases h2 : (-most ≤ g.re ∧ g.re ≤ most) <;> simp [h2]
def e88 : Ent Try.prog := .of2 88 (fun _ most => InR .i64 (-most)) (fun (g : Gs) (most : Int) => enc (smallG g most)) (fun _ _ => trivial) (fun g most h => smallPoint_c g most h)
theorem Ints_c (a b : List Int) : FC Try.prog 37 [enc a, enc b] [] (enc (decide (a = b))) [] := by
  refine fc_intro' is37 (by simp) (fun cx hl => S_run [] 800 ?_)
  simp only [V, bO, bt, bE, cb, cN, cU, gt, lk, cJ, bQ, cm, cr, bM, cn, cn.subCs, cT, bg, a9, cg, az, a3, bn, aJ, bz, bo, aY, bF, ax, cu, cO, c6, aq, aX, bR, cI, cj, cY, cR, aV, an, bY, bj, zC, argS, bG, cH, cP, cW, ah, aw, aW, aA, cd, leC, ca, bP, cG, cS, bU, ay, aL, cK, au, cp, a7, a7.viewCs, bH, bH.flatCs, aR, aR.LensOks, Value.oneCell', ↓reduceIte, ite_true, ite_false, if_true, if_false, Nat.reduceAdd, Nat.reduceSub, Nat.reduceMul, Nat.reduceEqDiff, Nat.reduceLT, Nat.reduceLeDiff, reduceCtorEq, Int.reduceToNat, forall_const, implies_true, bm, Ent.mk3, bC, bu, bw, a5, a6, aZ, bK, bB, bI, bJ, bk, cD, bD, cQ, rn, bT, bT.renCs, aT, aU, aN, aN.viewOks, aI, a8, a8.flatBs, aG, ag, aH, ar, aQ, bv, bv.keysBs, aE, am, bp, bS, be, cC, af, af.passKs, aB, aO, ae, ae.lendKs, bV, cq, bW, bq, setInn, ai, cZ, cL, aC, bf, bZ, cc, aD, aP, Glob.gl, av, co, bL, b0, br, aj, bX, cM, cB, cV, bN, ap, ap.ptrOnlys, ak, aK, cz, aM, a4, bA, ce, aF, bh, cF, Nat.reduceBEq, undef] at hl
  have hlen := hl.1.list
  delta c37
  simp (maxSteps := 4000000) -implicitDefEqProofs only [rv37, Ent.of0, Ent.of1, Ent.of2, Ent.of3, V, bO, bt, bE, cb, cN, cU, gt, lk, cJ, bQ, cm, cr, bM, cn, cn.subCs, cT, bg, a9, cg, az, a3, bn, aJ, bz, bo, aY, bF, ax, cu, cO, c6, aq, aX, bR, cI, cj, cY, cR, aV, an, bY, bj, zC, argS, bG, cH, cP, cW, ah, aw, aW, aA, cd, leC, ca, bP, cG, cS, bU, ay, aL, cK, au, cp, a7, a7.viewCs, bH, bH.flatCs, aR, aR.LensOks, Value.oneCell', ↓reduceIte, ite_true, ite_false, if_true, if_false, Nat.reduceAdd, Nat.reduceSub, Nat.reduceMul, Nat.reduceEqDiff, Nat.reduceLT, Nat.reduceLeDiff, reduceCtorEq, Int.reduceToNat, forall_const, implies_true, bm, Ent.mk3, bC, bu, bw, a5, a6, aZ, bK, bB, bI, bJ, bk, cD, bD, cQ, rn, bT, bT.renCs, aT, aU, aN, aN.viewOks, aI, a8, a8.flatBs, aG, ag, aH, ar, aQ, bv, bv.keysBs, aE, am, bp, bS, be, cC, af, af.passKs, aB, aO, ae, ae.lendKs, bV, cq, bW, bq, setInn, ai, cZ, cL, aC, bf, bZ, cc, aD, aP, Glob.gl, av, co, bL, b0, br, aj, bX, cM, cB, cV, bN, ap, ap.ptrOnlys, ak, aK, cz, aM, a4, bA, ce, aF, bh, cF, Nat.reduceBEq, undef]
  by_cases hab : a.length = b.length
  · rw [if_neg (by simp [hab])]
    refine S_for a.length (fun i => ⟨[(0, enc a), (1, enc b), (5, .s (.int .i64 i))], []⟩) (fun i => decide (a = b) = decide (a.drop i = b.drop i)) (by simp) ?_ (fun i hi hv => S_run [] 800 ?_)
    · simp only [V, bO, bt, bE, cb, cN, cU, gt, lk, cJ, bQ, cm, cr, bM, cn, cn.subCs, cT, bg, a9, cg, az, a3, bn, aJ, bz, bo, aY, bF, ax, cu, cO, c6, aq, aX, bR, cI, cj, cY, cR, aV, an, bY, bj, zC, argS, bG, cH, cP, cW, ah, aw, aW, aA, cd, leC, ca, bP, cG, cS, bU, ay, aL, cK, au, cp, a7, a7.viewCs, bH, bH.flatCs, aR, aR.LensOks, Value.oneCell', ↓reduceIte, ite_true, ite_false, if_true, if_false, Nat.reduceAdd, Nat.reduceSub, Nat.reduceMul, Nat.reduceEqDiff, Nat.reduceLT, Nat.reduceLeDiff, reduceCtorEq, Int.reduceToNat, forall_const, implies_true, bm, Ent.mk3, bC, bu, bw, a5, a6, aZ, bK, bB, bI, bJ, bk, cD, bD, cQ, rn, bT, bT.renCs, aT, aU, aN, aN.viewOks, aI, a8, a8.flatBs, aG, ag, aH, ar, aQ, bv, bv.keysBs, aE, am, bp, bS, be, cC, af, af.passKs, aB, aO, ae, ae.lendKs, bV, cq, bW, bq, setInn, ai, cZ, cL, aC, bf, bZ, cc, aD, aP, Glob.gl, av, co, bL, b0, br, aj, bX, cM, cB, cV, bN, ap, ap.ptrOnlys, ak, aK, cz, aM, a4, bA, ce, aF, bh, cF, Nat.reduceBEq, undef]; simp
    · delta c37l1
      simp (maxSteps := 4000000) -implicitDefEqProofs only [Ent.of0, Ent.of1, Ent.of2, Ent.of3, V, bO, bt, bE, cb, cN, cU, gt, lk, cJ, bQ, cm, cr, bM, cn, cn.subCs, cT, bg, a9, cg, az, a3, bn, aJ, bz, bo, aY, bF, ax, cu, cO, c6, aq, aX, bR, cI, cj, cY, cR, aV, an, bY, bj, zC, argS, bG, cH, cP, cW, ah, aw, aW, aA, cd, leC, ca, bP, cG, cS, bU, ay, aL, cK, au, cp, a7, a7.viewCs, bH, bH.flatCs, aR, aR.LensOks, Value.oneCell', ↓reduceIte, ite_true, ite_false, if_true, if_false, Nat.reduceAdd, Nat.reduceSub, Nat.reduceMul, Nat.reduceEqDiff, Nat.reduceLT, Nat.reduceLeDiff, reduceCtorEq, Int.reduceToNat, forall_const, implies_true, bm, Ent.mk3, bC, bu, bw, a5, a6, aZ, bK, bB, bI, bJ, bk, cD, bD, cQ, rn, bT, bT.renCs, aT, aU, aN, aN.viewOks, aI, a8, a8.flatBs, aG, ag, aH, ar, aQ, bv, bv.keysBs, aE, am, bp, bS, be, cC, af, af.passKs, aB, aO, ae, ae.lendKs, bV, cq, bW, bq, setInn, ai, cZ, cL, aC, bf, bZ, cc, aD, aP, Glob.gl, av, co, bL, b0, br, aj, bX, cM, cB, cV, bN, ap, ap.ptrOnlys, ak, aK, cz, aM, a4, bA, ce, aF, bh, cF, Nat.reduceBEq, undef]
      by_cases h : i < a.length
      · rw [drop_getD 0 h, drop_getD 0 (by omega : i < b.length)] at hv
        rw [if_pos (by omega)]
        refine ⟨⟨by omega, by omega⟩, ⟨by omega, by omega⟩, ?_⟩
        simp only [InR]
        grind
      · rw [if_neg (by omega), hv, List.drop_eq_nil_of_le (by omega), List.drop_eq_nil_of_le (by omega)]; simp
  · rw [if_pos (by omega)]
    grind
def e37 : Ent Try.prog := .of2 37 (fun _ _ => True) (fun a b : List Int => enc (decide (a = b))) (fun _ _ => trivial) (fun a b _ => Ints_c a b)
theorem Gausses_c (a b : List Gs) : FC Try.prog 27 [enc a, enc b] [] (enc (decide (a = b))) [] := by
  refine fc_intro' is27 (by simp) (fun cx hl => S_run [] 800 ?_)
  simp only [V, bO, bt, bE, cb, cN, cU, gt, lk, cJ, bQ, cm, cr, bM, cn, cn.subCs, cT, bg, a9, cg, az, a3, bn, aJ, bz, bo, aY, bF, ax, cu, cO, c6, aq, aX, bR, cI, cj, cY, cR, aV, an, bY, bj, zC, argS, bG, cH, cP, cW, ah, aw, aW, aA, cd, leC, ca, bP, cG, cS, bU, ay, aL, cK, au, cp, a7, a7.viewCs, bH, bH.flatCs, aR, aR.LensOks, Value.oneCell', ↓reduceIte, ite_true, ite_false, if_true, if_false, Nat.reduceAdd, Nat.reduceSub, Nat.reduceMul, Nat.reduceEqDiff, Nat.reduceLT, Nat.reduceLeDiff, reduceCtorEq, Int.reduceToNat, forall_const, implies_true, bm, Ent.mk3, bC, bu, bw, a5, a6, aZ, bK, bB, bI, bJ, bk, cD, bD, cQ, rn, bT, bT.renCs, aT, aU, aN, aN.viewOks, aI, a8, a8.flatBs, aG, ag, aH, ar, aQ, bv, bv.keysBs, aE, am, bp, bS, be, cC, af, af.passKs, aB, aO, ae, ae.lendKs, bV, cq, bW, bq, setInn, ai, cZ, cL, aC, bf, bZ, cc, aD, aP, Glob.gl, av, co, bL, b0, br, aj, bX, cM, cB, cV, bN, ap, ap.ptrOnlys, ak, aK, cz, aM, a4, bA, ce, aF, bh, cF, Nat.reduceBEq, undef] at hl
  have hlen := hl.1.list
  delta c27
  simp (maxSteps := 4000000) -implicitDefEqProofs only [rv27, Ent.of0, Ent.of1, Ent.of2, Ent.of3, V, bO, bt, bE, cb, cN, cU, gt, lk, cJ, bQ, cm, cr, bM, cn, cn.subCs, cT, bg, a9, cg, az, a3, bn, aJ, bz, bo, aY, bF, ax, cu, cO, c6, aq, aX, bR, cI, cj, cY, cR, aV, an, bY, bj, zC, argS, bG, cH, cP, cW, ah, aw, aW, aA, cd, leC, ca, bP, cG, cS, bU, ay, aL, cK, au, cp, a7, a7.viewCs, bH, bH.flatCs, aR, aR.LensOks, Value.oneCell', ↓reduceIte, ite_true, ite_false, if_true, if_false, Nat.reduceAdd, Nat.reduceSub, Nat.reduceMul, Nat.reduceEqDiff, Nat.reduceLT, Nat.reduceLeDiff, reduceCtorEq, Int.reduceToNat, forall_const, implies_true, bm, Ent.mk3, bC, bu, bw, a5, a6, aZ, bK, bB, bI, bJ, bk, cD, bD, cQ, rn, bT, bT.renCs, aT, aU, aN, aN.viewOks, aI, a8, a8.flatBs, aG, ag, aH, ar, aQ, bv, bv.keysBs, aE, am, bp, bS, be, cC, af, af.passKs, aB, aO, ae, ae.lendKs, bV, cq, bW, bq, setInn, ai, cZ, cL, aC, bf, bZ, cc, aD, aP, Glob.gl, av, co, bL, b0, br, aj, bX, cM, cB, cV, bN, ap, ap.ptrOnlys, ak, aK, cz, aM, a4, bA, ce, aF, bh, cF, Nat.reduceBEq, undef]
  by_cases hab : a.length = b.length
  · rw [if_neg (by simp [hab])]
    refine S_for a.length (fun i => ⟨[(0, enc a), (1, enc b), (5, .s (.int .i64 i))], []⟩) (fun i => decide (a = b) = decide (a.drop i = b.drop i)) (by simp) ?_ (fun i hi hv => S_run [] 800 ?_)
    · simp only [V, bO, bt, bE, cb, cN, cU, gt, lk, cJ, bQ, cm, cr, bM, cn, cn.subCs, cT, bg, a9, cg, az, a3, bn, aJ, bz, bo, aY, bF, ax, cu, cO, c6, aq, aX, bR, cI, cj, cY, cR, aV, an, bY, bj, zC, argS, bG, cH, cP, cW, ah, aw, aW, aA, cd, leC, ca, bP, cG, cS, bU, ay, aL, cK, au, cp, a7, a7.viewCs, bH, bH.flatCs, aR, aR.LensOks, Value.oneCell', ↓reduceIte, ite_true, ite_false, if_true, if_false, Nat.reduceAdd, Nat.reduceSub, Nat.reduceMul, Nat.reduceEqDiff, Nat.reduceLT, Nat.reduceLeDiff, reduceCtorEq, Int.reduceToNat, forall_const, implies_true, bm, Ent.mk3, bC, bu, bw, a5, a6, aZ, bK, bB, bI, bJ, bk, cD, bD, cQ, rn, bT, bT.renCs, aT, aU, aN, aN.viewOks, aI, a8, a8.flatBs, aG, ag, aH, ar, aQ, bv, bv.keysBs, aE, am, bp, bS, be, cC, af, af.passKs, aB, aO, ae, ae.lendKs, bV, cq, bW, bq, setInn, ai, cZ, cL, aC, bf, bZ, cc, aD, aP, Glob.gl, av, co, bL, b0, br, aj, bX, cM, cB, cV, bN, ap, ap.ptrOnlys, ak, aK, cz, aM, a4, bA, ce, aF, bh, cF, Nat.reduceBEq, undef]; simp
    · delta c27l1
      simp (maxSteps := 4000000) -implicitDefEqProofs only [InR, Ent.of0, Ent.of1, Ent.of2, Ent.of3, V, bO, bt, bE, cb, cN, cU, gt, lk, cJ, bQ, cm, cr, bM, cn, cn.subCs, cT, bg, a9, cg, az, a3, bn, aJ, bz, bo, aY, bF, ax, cu, cO, c6, aq, aX, bR, cI, cj, cY, cR, aV, an, bY, bj, zC, argS, bG, cH, cP, cW, ah, aw, aW, aA, cd, leC, ca, bP, cG, cS, bU, ay, aL, cK, au, cp, a7, a7.viewCs, bH, bH.flatCs, aR, aR.LensOks, Value.oneCell', ↓reduceIte, ite_true, ite_false, if_true, if_false, Nat.reduceAdd, Nat.reduceSub, Nat.reduceMul, Nat.reduceEqDiff, Nat.reduceLT, Nat.reduceLeDiff, reduceCtorEq, Int.reduceToNat, forall_const, implies_true, bm, Ent.mk3, bC, bu, bw, a5, a6, aZ, bK, bB, bI, bJ, bk, cD, bD, cQ, rn, bT, bT.renCs, aT, aU, aN, aN.viewOks, aI, a8, a8.flatBs, aG, ag, aH, ar, aQ, bv, bv.keysBs, aE, am, bp, bS, be, cC, af, af.passKs, aB, aO, ae, ae.lendKs, bV, cq, bW, bq, setInn, ai, cZ, cL, aC, bf, bZ, cc, aD, aP, Glob.gl, av, co, bL, b0, br, aj, bX, cM, cB, cV, bN, ap, ap.ptrOnlys, ak, aK, cz, aM, a4, bA, ce, aF, bh, cF, Nat.reduceBEq, undef]
      by_cases h : i < a.length
      · rw [drop_getD ⟨0, 0⟩ h, drop_getD ⟨0, 0⟩ (by omega : i < b.length)] at hv
        have e : ∀ x y : Gs, x = y ↔ x.re = y.re ∧ x.im = y.im := fun x y => by cases x; cases y; simp
        grind
      · rw [if_neg (by omega), hv, List.drop_eq_nil_of_le (by omega), List.drop_eq_nil_of_le (by omega)]; simp
  · rw [if_pos (by omega)]
    grind
theorem AreBits_c (l : List Int) : FC Try.prog 102 [enc l] [] (enc (l.all fun b => decide (b = 0 ∨ b = 1))) [] := by
  refine fc_intro' is102 (by simp) (fun cx hl => S_run [] 800 ?_)
  simp only [V, bO, bt, bE, cb, cN, cU, gt, lk, cJ, bQ, cm, cr, bM, cn, cn.subCs, cT, bg, a9, cg, az, a3, bn, aJ, bz, bo, aY, bF, ax, cu, cO, c6, aq, aX, bR, cI, cj, cY, cR, aV, an, bY, bj, zC, argS, bG, cH, cP, cW, ah, aw, aW, aA, cd, leC, ca, bP, cG, cS, bU, ay, aL, cK, au, cp, a7, a7.viewCs, bH, bH.flatCs, aR, aR.LensOks, Value.oneCell', ↓reduceIte, ite_true, ite_false, if_true, if_false, Nat.reduceAdd, Nat.reduceSub, Nat.reduceMul, Nat.reduceEqDiff, Nat.reduceLT, Nat.reduceLeDiff, reduceCtorEq, Int.reduceToNat, forall_const, implies_true, bm, Ent.mk3, bC, bu, bw, a5, a6, aZ, bK, bB, bI, bJ, bk, cD, bD, cQ, rn, bT, bT.renCs, aT, aU, aN, aN.viewOks, aI, a8, a8.flatBs, aG, ag, aH, ar, aQ, bv, bv.keysBs, aE, am, bp, bS, be, cC, af, af.passKs, aB, aO, ae, ae.lendKs, bV, cq, bW, bq, setInn, ai, cZ, cL, aC, bf, bZ, cc, aD, aP, Glob.gl, av, co, bL, b0, br, aj, bX, cM, cB, cV, bN, ap, ap.ptrOnlys, ak, aK, cz, aM, a4, bA, ce, aF, bh, cF, Nat.reduceBEq, undef] at hl
  have hlen := hl.list
  delta c102
  simp (maxSteps := 4000000) -implicitDefEqProofs only [rv102, Ent.of0, Ent.of1, Ent.of2, Ent.of3, V, bO, bt, bE, cb, cN, cU, gt, lk, cJ, bQ, cm, cr, bM, cn, cn.subCs, cT, bg, a9, cg, az, a3, bn, aJ, bz, bo, aY, bF, ax, cu, cO, c6, aq, aX, bR, cI, cj, cY, cR, aV, an, bY, bj, zC, argS, bG, cH, cP, cW, ah, aw, aW, aA, cd, leC, ca, bP, cG, cS, bU, ay, aL, cK, au, cp, a7, a7.viewCs, bH, bH.flatCs, aR, aR.LensOks, Value.oneCell', ↓reduceIte, ite_true, ite_false, if_true, if_false, Nat.reduceAdd, Nat.reduceSub, Nat.reduceMul, Nat.reduceEqDiff, Nat.reduceLT, Nat.reduceLeDiff, reduceCtorEq, Int.reduceToNat, forall_const, implies_true, bm, Ent.mk3, bC, bu, bw, a5, a6, aZ, bK, bB, bI, bJ, bk, cD, bD, cQ, rn, bT, bT.renCs, aT, aU, aN, aN.viewOks, aI, a8, a8.flatBs, aG, ag, aH, ar, aQ, bv, bv.keysBs, aE, am, bp, bS, be, cC, af, af.passKs, aB, aO, ae, ae.lendKs, bV, cq, bW, bq, setInn, ai, cZ, cL, aC, bf, bZ, cc, aD, aP, Glob.gl, av, co, bL, b0, br, aj, bX, cM, cB, cV, bN, ap, ap.ptrOnlys, ak, aK, cz, aM, a4, bA, ce, aF, bh, cF, Nat.reduceBEq, undef]
  refine S_for l.length (fun i => ⟨[(0, enc l), (3, .s (.int .i64 i))], []⟩) (fun i => (l.all fun b => decide (b = 0 ∨ b = 1)) = (l.drop i).all fun b => decide (b = 0 ∨ b = 1)) rfl ?_ (fun i hi hv => S_run [] 800 ?_)
  · simp only [V, bO, bt, bE, cb, cN, cU, gt, lk, cJ, bQ, cm, cr, bM, cn, cn.subCs, cT, bg, a9, cg, az, a3, bn, aJ, bz, bo, aY, bF, ax, cu, cO, c6, aq, aX, bR, cI, cj, cY, cR, aV, an, bY, bj, zC, argS, bG, cH, cP, cW, ah, aw, aW, aA, cd, leC, ca, bP, cG, cS, bU, ay, aL, cK, au, cp, a7, a7.viewCs, bH, bH.flatCs, aR, aR.LensOks, Value.oneCell', ↓reduceIte, ite_true, ite_false, if_true, if_false, Nat.reduceAdd, Nat.reduceSub, Nat.reduceMul, Nat.reduceEqDiff, Nat.reduceLT, Nat.reduceLeDiff, reduceCtorEq, Int.reduceToNat, forall_const, implies_true, bm, Ent.mk3, bC, bu, bw, a5, a6, aZ, bK, bB, bI, bJ, bk, cD, bD, cQ, rn, bT, bT.renCs, aT, aU, aN, aN.viewOks, aI, a8, a8.flatBs, aG, ag, aH, ar, aQ, bv, bv.keysBs, aE, am, bp, bS, be, cC, af, af.passKs, aB, aO, ae, ae.lendKs, bV, cq, bW, bq, setInn, ai, cZ, cL, aC, bf, bZ, cc, aD, aP, Glob.gl, av, co, bL, b0, br, aj, bX, cM, cB, cV, bN, ap, ap.ptrOnlys, ak, aK, cz, aM, a4, bA, ce, aF, bh, cF, Nat.reduceBEq, undef]; simp
  · delta c102l1
    simp (maxSteps := 4000000) -implicitDefEqProofs only [InR, Ent.of0, Ent.of1, Ent.of2, Ent.of3, V, bO, bt, bE, cb, cN, cU, gt, lk, cJ, bQ, cm, cr, bM, cn, cn.subCs, cT, bg, a9, cg, az, a3, bn, aJ, bz, bo, aY, bF, ax, cu, cO, c6, aq, aX, bR, cI, cj, cY, cR, aV, an, bY, bj, zC, argS, bG, cH, cP, cW, ah, aw, aW, aA, cd, leC, ca, bP, cG, cS, bU, ay, aL, cK, au, cp, a7, a7.viewCs, bH, bH.flatCs, aR, aR.LensOks, Value.oneCell', ↓reduceIte, ite_true, ite_false, if_true, if_false, Nat.reduceAdd, Nat.reduceSub, Nat.reduceMul, Nat.reduceEqDiff, Nat.reduceLT, Nat.reduceLeDiff, reduceCtorEq, Int.reduceToNat, forall_const, implies_true, bm, Ent.mk3, bC, bu, bw, a5, a6, aZ, bK, bB, bI, bJ, bk, cD, bD, cQ, rn, bT, bT.renCs, aT, aU, aN, aN.viewOks, aI, a8, a8.flatBs, aG, ag, aH, ar, aQ, bv, bv.keysBs, aE, am, bp, bS, be, cC, af, af.passKs, aB, aO, ae, ae.lendKs, bV, cq, bW, bq, setInn, ai, cZ, cL, aC, bf, bZ, cc, aD, aP, Glob.gl, av, co, bL, b0, br, aj, bX, cM, cB, cV, bN, ap, ap.ptrOnlys, ak, aK, cz, aM, a4, bA, ce, aF, bh, cF, Nat.reduceBEq, undef]
    by_cases h : i < l.length
    · rw [drop_getD 0 h, List.all_cons] at hv
      grind
    · rw [if_neg (by omega), hv, List.drop_eq_nil_of_le (by omega)]; rfl
def e27 : Ent Try.prog := .of2 27 (fun _ _ => True) (fun a b : List Gs => enc (decide (a = b))) (fun _ _ => trivial) (fun a b _ => Gausses_c a b)
def e102 : Ent Try.prog := .of1 102 (fun _ => True) (fun l : List Int => enc (l.all fun b => decide (b = 0 ∨ b = 1))) (fun _ => trivial) (fun l _ => AreBits_c l)
end Go.Proofs.Ytfgpbmjmoobcnaa
end
section
open Go Go.Am
open Go.Am.Dat (cells)
namespace Go.Proofs.Ytfgpbmjmoobcnaa
set_option maxHeartbeats 1000000
set_option linter.unusedSimpArgs false
def bitsErrS (l : List Int) : Int := if l.length = 0 then 10 else if l.length > 400 then 8 else if l.all (fun b => decide (b = 0 ∨ b = 1)) then 0 else 15
theorem CopyInts_c (l : List Int) (h : l.length ≤ 1000000) : FC Try.prog 25 [enc l] [] (enc l) [] := by
  refine fc_intro' is25 (by simp) (fun cx hl => S_run [] 800 ?_)
  delta c25
  simp (maxSteps := 4000000) -implicitDefEqProofs only [rv25, Ent.of0, Ent.of1, Ent.of2, Ent.of3, V, bO, bt, bE, cb, cN, cU, gt, lk, cJ, bQ, cm, cr, bM, cn, cn.subCs, cT, bg, a9, cg, az, a3, bn, aJ, bz, bo, aY, bF, ax, cu, cO, c6, aq, aX, bR, cI, cj, cY, cR, aV, an, bY, bj, zC, argS, bG, cH, cP, cW, ah, aw, aW, aA, cd, leC, ca, bP, cG, cS, bU, ay, aL, cK, au, cp, a7, a7.viewCs, bH, bH.flatCs, aR, aR.LensOks, Value.oneCell', ↓reduceIte, ite_true, ite_false, if_true, if_false, Nat.reduceAdd, Nat.reduceSub, Nat.reduceMul, Nat.reduceEqDiff, Nat.reduceLT, Nat.reduceLeDiff, reduceCtorEq, Int.reduceToNat, forall_const, implies_true, bm, Ent.mk3, bC, bu, bw, a5, a6, aZ, bK, bB, bI, bJ, bk, cD, bD, cQ, rn, bT, bT.renCs, aT, aU, aN, aN.viewOks, aI, a8, a8.flatBs, aG, ag, aH, ar, aQ, bv, bv.keysBs, aE, am, bp, bS, be, cC, af, af.passKs, aB, aO, ae, ae.lendKs, bV, cq, bW, bq, setInn, ai, cZ, cL, aC, bf, bZ, cc, aD, aP, Glob.gl, av, co, bL, b0, br, aj, bX, cM, cB, cV, bN, ap, ap.ptrOnlys, ak, aK, cz, aM, a4, bA, ce, aF, bh, cF, Nat.reduceBEq, undef]
  omega
def e25 : Ent Try.prog := .of1 25 (fun l => l.length ≤ 1000000) (fun l : List Int => enc l) (fun _ => trivial) (fun l h => CopyInts_c l h)
end Go.Proofs.Ytfgpbmjmoobcnaa
end
section
open Go Go.Am
open Go.Am.Dat (cells)
namespace Go.Proofs.Ytfgpbmjmoobcnaa
set_option maxHeartbeats 1000000
set_option linter.unusedSimpArgs false
theorem SameAll_c (a b : List (List Gs)) : FC Try.prog 21 [enc a, enc b] [] (enc (decide (a = b))) [] := by
  refine fc_intro' is21 (by simp) (fun cx hl => S_run [] 800 ?_)
  simp only [V, bO, bt, bE, cb, cN, cU, gt, lk, cJ, bQ, cm, cr, bM, cn, cn.subCs, cT, bg, a9, cg, az, a3, bn, aJ, bz, bo, aY, bF, ax, cu, cO, c6, aq, aX, bR, cI, cj, cY, cR, aV, an, bY, bj, zC, argS, bG, cH, cP, cW, ah, aw, aW, aA, cd, leC, ca, bP, cG, cS, bU, ay, aL, cK, au, cp, a7, a7.viewCs, bH, bH.flatCs, aR, aR.LensOks, Value.oneCell', ↓reduceIte, ite_true, ite_false, if_true, if_false, Nat.reduceAdd, Nat.reduceSub, Nat.reduceMul, Nat.reduceEqDiff, Nat.reduceLT, Nat.reduceLeDiff, reduceCtorEq, Int.reduceToNat, forall_const, implies_true, bm, Ent.mk3, bC, bu, bw, a5, a6, aZ, bK, bB, bI, bJ, bk, cD, bD, cQ, rn, bT, bT.renCs, aT, aU, aN, aN.viewOks, aI, a8, a8.flatBs, aG, ag, aH, ar, aQ, bv, bv.keysBs, aE, am, bp, bS, be, cC, af, af.passKs, aB, aO, ae, ae.lendKs, bV, cq, bW, bq, setInn, ai, cZ, cL, aC, bf, bZ, cc, aD, aP, Glob.gl, av, co, bL, b0, br, aj, bX, cM, cB, cV, bN, ap, ap.ptrOnlys, ak, aK, cz, aM, a4, bA, ce, aF, bh, cF, Nat.reduceBEq, undef] at hl
  have hlen := hl.1.list
  delta c21
  simp (maxSteps := 4000000) -implicitDefEqProofs only [rv21, Ent.of0, Ent.of1, Ent.of2, Ent.of3, V, bO, bt, bE, cb, cN, cU, gt, lk, cJ, bQ, cm, cr, bM, cn, cn.subCs, cT, bg, a9, cg, az, a3, bn, aJ, bz, bo, aY, bF, ax, cu, cO, c6, aq, aX, bR, cI, cj, cY, cR, aV, an, bY, bj, zC, argS, bG, cH, cP, cW, ah, aw, aW, aA, cd, leC, ca, bP, cG, cS, bU, ay, aL, cK, au, cp, a7, a7.viewCs, bH, bH.flatCs, aR, aR.LensOks, Value.oneCell', ↓reduceIte, ite_true, ite_false, if_true, if_false, Nat.reduceAdd, Nat.reduceSub, Nat.reduceMul, Nat.reduceEqDiff, Nat.reduceLT, Nat.reduceLeDiff, reduceCtorEq, Int.reduceToNat, forall_const, implies_true, bm, Ent.mk3, bC, bu, bw, a5, a6, aZ, bK, bB, bI, bJ, bk, cD, bD, cQ, rn, bT, bT.renCs, aT, aU, aN, aN.viewOks, aI, a8, a8.flatBs, aG, ag, aH, ar, aQ, bv, bv.keysBs, aE, am, bp, bS, be, cC, af, af.passKs, aB, aO, ae, ae.lendKs, bV, cq, bW, bq, setInn, ai, cZ, cL, aC, bf, bZ, cc, aD, aP, Glob.gl, av, co, bL, b0, br, aj, bX, cM, cB, cV, bN, ap, ap.ptrOnlys, ak, aK, cz, aM, a4, bA, ce, aF, bh, cF, Nat.reduceBEq, undef]
  by_cases hab : a.length = b.length
  · rw [if_neg (by simp [hab])]
    refine S_for a.length (fun i => ⟨[(0, enc a), (1, enc b), (5, .s (.int .i64 i))], []⟩) (fun i => decide (a = b) = decide (a.drop i = b.drop i)) (by simp) ?_ (fun i hi hv => S_run [e27] 800 ?_)
    · simp (maxSteps := 4000000) -implicitDefEqProofs only [Ent.of0, Ent.of1, Ent.of2, Ent.of3, V, bO, bt, bE, cb, cN, cU, gt, lk, cJ, bQ, cm, cr, bM, cn, cn.subCs, cT, bg, a9, cg, az, a3, bn, aJ, bz, bo, aY, bF, ax, cu, cO, c6, aq, aX, bR, cI, cj, cY, cR, aV, an, bY, bj, zC, argS, bG, cH, cP, cW, ah, aw, aW, aA, cd, leC, ca, bP, cG, cS, bU, ay, aL, cK, au, cp, a7, a7.viewCs, bH, bH.flatCs, aR, aR.LensOks, Value.oneCell', ↓reduceIte, ite_true, ite_false, if_true, if_false, Nat.reduceAdd, Nat.reduceSub, Nat.reduceMul, Nat.reduceEqDiff, Nat.reduceLT, Nat.reduceLeDiff, reduceCtorEq, Int.reduceToNat, forall_const, implies_true, bm, Ent.mk3, bC, bu, bw, a5, a6, aZ, bK, bB, bI, bJ, bk, cD, bD, cQ, rn, bT, bT.renCs, aT, aU, aN, aN.viewOks, aI, a8, a8.flatBs, aG, ag, aH, ar, aQ, bv, bv.keysBs, aE, am, bp, bS, be, cC, af, af.passKs, aB, aO, ae, ae.lendKs, bV, cq, bW, bq, setInn, ai, cZ, cL, aC, bf, bZ, cc, aD, aP, Glob.gl, av, co, bL, b0, br, aj, bX, cM, cB, cV, bN, ap, ap.ptrOnlys, ak, aK, cz, aM, a4, bA, ce, aF, bh, cF, Nat.reduceBEq, undef]; simp
    · by_cases h : i < a.length
      · have hb : i < b.length := by omega
        delta c21l1
        simp (maxSteps := 4000000) -implicitDefEqProofs only [getD_list, h, hb, e27, InR, Ent.of0, Ent.of1, Ent.of2, Ent.of3, V, bO, bt, bE, cb, cN, cU, gt, lk, cJ, bQ, cm, cr, bM, cn, cn.subCs, cT, bg, a9, cg, az, a3, bn, aJ, bz, bo, aY, bF, ax, cu, cO, c6, aq, aX, bR, cI, cj, cY, cR, aV, an, bY, bj, zC, argS, bG, cH, cP, cW, ah, aw, aW, aA, cd, leC, ca, bP, cG, cS, bU, ay, aL, cK, au, cp, a7, a7.viewCs, bH, bH.flatCs, aR, aR.LensOks, Value.oneCell', ↓reduceIte, ite_true, ite_false, if_true, if_false, Nat.reduceAdd, Nat.reduceSub, Nat.reduceMul, Nat.reduceEqDiff, Nat.reduceLT, Nat.reduceLeDiff, reduceCtorEq, Int.reduceToNat, forall_const, implies_true, bm, Ent.mk3, bC, bu, bw, a5, a6, aZ, bK, bB, bI, bJ, bk, cD, bD, cQ, rn, bT, bT.renCs, aT, aU, aN, aN.viewOks, aI, a8, a8.flatBs, aG, ag, aH, ar, aQ, bv, bv.keysBs, aE, am, bp, bS, be, cC, af, af.passKs, aB, aO, ae, ae.lendKs, bV, cq, bW, bq, setInn, ai, cZ, cL, aC, bf, bZ, cc, aD, aP, Glob.gl, av, co, bL, b0, br, aj, bX, cM, cB, cV, bN, ap, ap.ptrOnlys, ak, aK, cz, aM, a4, bA, ce, aF, bh, cF, Nat.reduceBEq, undef]
        rw [drop_getD [] h, drop_getD [] hb] at hv
        grind
      · have : i = a.length := by omega
        subst this
        delta c21l1
        simp (maxSteps := 4000000) -implicitDefEqProofs only [Ent.of0, Ent.of1, Ent.of2, Ent.of3, V, bO, bt, bE, cb, cN, cU, gt, lk, cJ, bQ, cm, cr, bM, cn, cn.subCs, cT, bg, a9, cg, az, a3, bn, aJ, bz, bo, aY, bF, ax, cu, cO, c6, aq, aX, bR, cI, cj, cY, cR, aV, an, bY, bj, zC, argS, bG, cH, cP, cW, ah, aw, aW, aA, cd, leC, ca, bP, cG, cS, bU, ay, aL, cK, au, cp, a7, a7.viewCs, bH, bH.flatCs, aR, aR.LensOks, Value.oneCell', ↓reduceIte, ite_true, ite_false, if_true, if_false, Nat.reduceAdd, Nat.reduceSub, Nat.reduceMul, Nat.reduceEqDiff, Nat.reduceLT, Nat.reduceLeDiff, reduceCtorEq, Int.reduceToNat, forall_const, implies_true, bm, Ent.mk3, bC, bu, bw, a5, a6, aZ, bK, bB, bI, bJ, bk, cD, bD, cQ, rn, bT, bT.renCs, aT, aU, aN, aN.viewOks, aI, a8, a8.flatBs, aG, ag, aH, ar, aQ, bv, bv.keysBs, aE, am, bp, bS, be, cC, af, af.passKs, aB, aO, ae, ae.lendKs, bV, cq, bW, bq, setInn, ai, cZ, cL, aC, bf, bZ, cc, aD, aP, Glob.gl, av, co, bL, b0, br, aj, bX, cM, cB, cV, bN, ap, ap.ptrOnlys, ak, aK, cz, aM, a4, bA, ce, aF, bh, cF, Nat.reduceBEq, undef]
        rw [hv, List.drop_eq_nil_of_le (by omega), List.drop_eq_nil_of_le (by omega)]; simp
  · rw [if_pos (by omega)]
    grind
def e21 : Ent Try.prog := .of2 21 (fun _ _ => True) (fun a b : List (List Gs) => enc (decide (a = b))) (fun _ _ => trivial) (fun a b _ => SameAll_c a b)
def symErr (l : List Gs) : Int := if l.length = 0 then 10 else if l.length > 200 then 8 else if l.all (smallG · 100000000) then 0 else 2
def idxOf (l : List Gs) (p : Gs → Bool) : Int := match l.findIdx? p with | some i => (i : Int) | none => -1
theorem IndexFuncG_c (f : FuncId) (p : Gs → Bool) (hf : ∀ g, FC Try.prog f [enc g] [] (enc (p g)) []) (l : List Gs) : FC Try.prog 134 [enc l, .fn (.func f) [] []] [] (enc (idxOf l p)) [] := by
  refine fc_intro' is134 (by simp) (fun cx hl => S_run [] 800 ?_)
  simp only [V, bO, bt, bE, cb, cN, cU, gt, lk, cJ, bQ, cm, cr, bM, cn, cn.subCs, cT, bg, a9, cg, az, a3, bn, aJ, bz, bo, aY, bF, ax, cu, cO, c6, aq, aX, bR, cI, cj, cY, cR, aV, an, bY, bj, zC, argS, bG, cH, cP, cW, ah, aw, aW, aA, cd, leC, ca, bP, cG, cS, bU, ay, aL, cK, au, cp, a7, a7.viewCs, bH, bH.flatCs, aR, aR.LensOks, Value.oneCell', ↓reduceIte, ite_true, ite_false, if_true, if_false, Nat.reduceAdd, Nat.reduceSub, Nat.reduceMul, Nat.reduceEqDiff, Nat.reduceLT, Nat.reduceLeDiff, reduceCtorEq, Int.reduceToNat, forall_const, implies_true, bm, Ent.mk3, bC, bu, bw, a5, a6, aZ, bK, bB, bI, bJ, bk, cD, bD, cQ, rn, bT, bT.renCs, aT, aU, aN, aN.viewOks, aI, a8, a8.flatBs, aG, ag, aH, ar, aQ, bv, bv.keysBs, aE, am, bp, bS, be, cC, af, af.passKs, aB, aO, ae, ae.lendKs, bV, cq, bW, bq, setInn, ai, cZ, cL, aC, bf, bZ, cc, aD, aP, Glob.gl, av, co, bL, b0, br, aj, bX, cM, cB, cV, bN, ap, ap.ptrOnlys, ak, aK, cz, aM, a4, bA, ce, aF, bh, cF, Nat.reduceBEq, undef] at hl
  have hlen := hl.list
  delta c134
  simp (maxSteps := 4000000) -implicitDefEqProofs only [rv134, Ent.of0, Ent.of1, Ent.of2, Ent.of3, V, bO, bt, bE, cb, cN, cU, gt, lk, cJ, bQ, cm, cr, bM, cn, cn.subCs, cT, bg, a9, cg, az, a3, bn, aJ, bz, bo, aY, bF, ax, cu, cO, c6, aq, aX, bR, cI, cj, cY, cR, aV, an, bY, bj, zC, argS, bG, cH, cP, cW, ah, aw, aW, aA, cd, leC, ca, bP, cG, cS, bU, ay, aL, cK, au, cp, a7, a7.viewCs, bH, bH.flatCs, aR, aR.LensOks, Value.oneCell', ↓reduceIte, ite_true, ite_false, if_true, if_false, Nat.reduceAdd, Nat.reduceSub, Nat.reduceMul, Nat.reduceEqDiff, Nat.reduceLT, Nat.reduceLeDiff, reduceCtorEq, Int.reduceToNat, forall_const, implies_true, bm, Ent.mk3, bC, bu, bw, a5, a6, aZ, bK, bB, bI, bJ, bk, cD, bD, cQ, rn, bT, bT.renCs, aT, aU, aN, aN.viewOks, aI, a8, a8.flatBs, aG, ag, aH, ar, aQ, bv, bv.keysBs, aE, am, bp, bS, be, cC, af, af.passKs, aB, aO, ae, ae.lendKs, bV, cq, bW, bq, setInn, ai, cZ, cL, aC, bf, bZ, cc, aD, aP, Glob.gl, av, co, bL, b0, br, aj, bX, cM, cB, cV, bN, ap, ap.ptrOnlys, ak, aK, cz, aM, a4, bA, ce, aF, bh, cF, Nat.reduceBEq, undef]
  refine S_for l.length (fun i => ⟨[(0, enc l), (1, .fn (.func f) [] []), (7, .s (.int .i64 l.length)), (8, .s (.int .i64 i))], []⟩) (fun i => ∀ j, j < i → p (l.getD j ⟨0, 0⟩) = false) (by omega) ?_
    (fun i hi hv => S_run [.of1 f (fun _ => True) (fun g => enc (p g)) (fun _ => trivial) (fun g _ => hf g)] 800 ?_)
  · simp (maxSteps := 4000000) -implicitDefEqProofs only [Ent.of0, Ent.of1, Ent.of2, Ent.of3, V, bO, bt, bE, cb, cN, cU, gt, lk, cJ, bQ, cm, cr, bM, cn, cn.subCs, cT, bg, a9, cg, az, a3, bn, aJ, bz, bo, aY, bF, ax, cu, cO, c6, aq, aX, bR, cI, cj, cY, cR, aV, an, bY, bj, zC, argS, bG, cH, cP, cW, ah, aw, aW, aA, cd, leC, ca, bP, cG, cS, bU, ay, aL, cK, au, cp, a7, a7.viewCs, bH, bH.flatCs, aR, aR.LensOks, Value.oneCell', ↓reduceIte, ite_true, ite_false, if_true, if_false, Nat.reduceAdd, Nat.reduceSub, Nat.reduceMul, Nat.reduceEqDiff, Nat.reduceLT, Nat.reduceLeDiff, reduceCtorEq, Int.reduceToNat, forall_const, implies_true, bm, Ent.mk3, bC, bu, bw, a5, a6, aZ, bK, bB, bI, bJ, bk, cD, bD, cQ, rn, bT, bT.renCs, aT, aU, aN, aN.viewOks, aI, a8, a8.flatBs, aG, ag, aH, ar, aQ, bv, bv.keysBs, aE, am, bp, bS, be, cC, af, af.passKs, aB, aO, ae, ae.lendKs, bV, cq, bW, bq, setInn, ai, cZ, cL, aC, bf, bZ, cc, aD, aP, Glob.gl, av, co, bL, b0, br, aj, bX, cM, cB, cV, bN, ap, ap.ptrOnlys, ak, aK, cz, aM, a4, bA, ce, aF, bh, cF, Nat.reduceBEq, undef]; simp
  · delta c134l1
    simp (maxSteps := 4000000) -implicitDefEqProofs only [InR, Ent.of0, Ent.of1, Ent.of2, Ent.of3, V, bO, bt, bE, cb, cN, cU, gt, lk, cJ, bQ, cm, cr, bM, cn, cn.subCs, cT, bg, a9, cg, az, a3, bn, aJ, bz, bo, aY, bF, ax, cu, cO, c6, aq, aX, bR, cI, cj, cY, cR, aV, an, bY, bj, zC, argS, bG, cH, cP, cW, ah, aw, aW, aA, cd, leC, ca, bP, cG, cS, bU, ay, aL, cK, au, cp, a7, a7.viewCs, bH, bH.flatCs, aR, aR.LensOks, Value.oneCell', ↓reduceIte, ite_true, ite_false, if_true, if_false, Nat.reduceAdd, Nat.reduceSub, Nat.reduceMul, Nat.reduceEqDiff, Nat.reduceLT, Nat.reduceLeDiff, reduceCtorEq, Int.reduceToNat, forall_const, implies_true, bm, Ent.mk3, bC, bu, bw, a5, a6, aZ, bK, bB, bI, bJ, bk, cD, bD, cQ, rn, bT, bT.renCs, aT, aU, aN, aN.viewOks, aI, a8, a8.flatBs, aG, ag, aH, ar, aQ, bv, bv.keysBs, aE, am, bp, bS, be, cC, af, af.passKs, aB, aO, ae, ae.lendKs, bV, cq, bW, bq, setInn, ai, cZ, cL, aC, bf, bZ, cc, aD, aP, Glob.gl, av, co, bL, b0, br, aj, bX, cM, cB, cV, bN, ap, ap.ptrOnlys, ak, aK, cz, aM, a4, bA, ce, aF, bh, cF, Nat.reduceBEq, undef]
    by_cases h : i < l.length
    · rw [if_pos (by omega)]
      refine ⟨by omega, ?_⟩
      cases hp : p (l.getD i ⟨0, 0⟩) with
      | true =>
        simp only [if_true]
        have : l.findIdx? p = some i := by
          rw [List.findIdx?_eq_some_iff_getElem]
          rw [List.getD_eq_getElem?_getD, List.getElem?_eq_getElem h] at hp
          refine ⟨h, hp, fun j hj => ?_⟩
          have := hv j hj
          rw [List.getD_eq_getElem?_getD, List.getElem?_eq_getElem (by omega)] at this
          simpa using this
        simp [idxOf, this]
      | false =>
        simp only [Bool.false_eq_true, if_false]
        refine ⟨by omega, h, fun j hj => ?_, by omega⟩
        by_cases hj2 : j = i
        · rw [hj2]; exact hp
        · exact hv j (by omega)
    · rw [if_neg (by omega)]
      have : l.findIdx? p = none := by
        rw [List.findIdx?_eq_none_iff]
        intro x hx
        obtain ⟨j, hj, rfl⟩ := List.getElem_of_mem hx
        have := hv j (by omega)
        rwa [List.getD_eq_getElem?_getD, List.getElem?_eq_getElem hj] at this
      simp [idxOf, this]
theorem ContainsFuncG_c (f : FuncId) (p : Gs → Bool) (hf : ∀ g, FC Try.prog f [enc g] [] (enc (p g)) []) (l : List Gs) : FC Try.prog 110 [enc l, .fn (.func f) [] []] [] (enc (l.any p)) [] := by
  let e : Ent Try.prog := .mk3 134 (fun args chs => match args, chs with | [x, .fn (.func g) [] []], [] => if g = f then (decV x).bind fun l => some (True, enc (idxOf l p), [], []) else none | _, _ => none) (by
    intro args chs q r chs' nk h1 h2
    split at h1
    · split at h1
      · rename_i hg; subst hg
        simp only [Option.bind_eq_some_iff, Option.some.injEq, Prod.mk.injEq] at h1
        obtain ⟨a, ha, rfl, rfl, rfl, rfl⟩ := h1
        exact ⟨(IndexFuncG_c _ p hf a).le (args' := [_, _]) ⟨decV_ok ha, leC1_refl _, trivial⟩, .plain trivial⟩
      · cases h1
    · cases h1)
  refine fc_intro' is110 (by simp) (fun cx hl => S_run [e] 800 ?_)
  delta c110
  simp (maxSteps := 4000000) -implicitDefEqProofs only [rv110, e, Ent.of0, Ent.of1, Ent.of2, Ent.of3, V, bO, bt, bE, cb, cN, cU, gt, lk, cJ, bQ, cm, cr, bM, cn, cn.subCs, cT, bg, a9, cg, az, a3, bn, aJ, bz, bo, aY, bF, ax, cu, cO, c6, aq, aX, bR, cI, cj, cY, cR, aV, an, bY, bj, zC, argS, bG, cH, cP, cW, ah, aw, aW, aA, cd, leC, ca, bP, cG, cS, bU, ay, aL, cK, au, cp, a7, a7.viewCs, bH, bH.flatCs, aR, aR.LensOks, Value.oneCell', ↓reduceIte, ite_true, ite_false, if_true, if_false, Nat.reduceAdd, Nat.reduceSub, Nat.reduceMul, Nat.reduceEqDiff, Nat.reduceLT, Nat.reduceLeDiff, reduceCtorEq, Int.reduceToNat, forall_const, implies_true, bm, Ent.mk3, bC, bu, bw, a5, a6, aZ, bK, bB, bI, bJ, bk, cD, bD, cQ, rn, bT, bT.renCs, aT, aU, aN, aN.viewOks, aI, a8, a8.flatBs, aG, ag, aH, ar, aQ, bv, bv.keysBs, aE, am, bp, bS, be, cC, af, af.passKs, aB, aO, ae, ae.lendKs, bV, cq, bW, bq, setInn, ai, cZ, cL, aC, bf, bZ, cc, aD, aP, Glob.gl, av, co, bL, b0, br, aj, bX, cM, cB, cV, bN, ap, ap.ptrOnlys, ak, aK, cz, aM, a4, bA, ce, aF, bh, cF, Nat.reduceBEq, undef]
  unfold idxOf
  cases hq : l.findIdx? p with
  | none =>
    rw [List.findIdx?_eq_none_iff] at hq
    have : l.any p = false := by simpa using hq
    simp [this]
  | some i =>
    rw [List.findIdx?_eq_some_iff_getElem] at hq
    obtain ⟨h1, h2, _⟩ := hq
    have : l.any p = true := List.any_eq_true.2 ⟨_, List.getElem_mem h1, h2⟩
    simp [this]
def eAny (f : FuncId) (p : Gs → Bool) (hf : ∀ g, FC Try.prog f [enc g] [] (enc (p g)) []) : Ent Try.prog := .mk3 110 (fun args chs => match args, chs with | [x, .fn (.func g) [] []], [] => if g = f then (decV x).bind fun l => some (True, enc (List.any l p), [], []) else none | _, _ => none) (by
    intro args chs q r chs' nk h1 h2
    split at h1
    · split at h1
      · rename_i hg; subst hg
        simp only [Option.bind_eq_some_iff, Option.some.injEq, Prod.mk.injEq] at h1
        obtain ⟨a, ha, rfl, rfl, rfl, rfl⟩ := h1
        exact ⟨(ContainsFuncG_c _ p hf a).le (args' := [_, _]) ⟨decV_ok ha, leC1_refl _, trivial⟩, .plain trivial⟩
      · cases h1
    · cases h1)
theorem closure140_c (g : Gs) : FC Try.prog 140 [enc g] [] (enc (!smallG g 100000000)) [] := by
  refine fc_intro' is140 (by simp) (fun cx hl => S_run [e88] 800 ?_)
  delta c140
  simp (maxSteps := 4000000) -implicitDefEqProofs only [rv140, e88, InR, Ent.of0, Ent.of1, Ent.of2, Ent.of3, V, bO, bt, bE, cb, cN, cU, gt, lk, cJ, bQ, cm, cr, bM, cn, cn.subCs, cT, bg, a9, cg, az, a3, bn, aJ, bz, bo, aY, bF, ax, cu, cO, c6, aq, aX, bR, cI, cj, cY, cR, aV, an, bY, bj, zC, argS, bG, cH, cP, cW, ah, aw, aW, aA, cd, leC, ca, bP, cG, cS, bU, ay, aL, cK, au, cp, a7, a7.viewCs, bH, bH.flatCs, aR, aR.LensOks, Value.oneCell', ↓reduceIte, ite_true, ite_false, if_true, if_false, Nat.reduceAdd, Nat.reduceSub, Nat.reduceMul, Nat.reduceEqDiff, Nat.reduceLT, Nat.reduceLeDiff, reduceCtorEq, Int.reduceToNat, forall_const, implies_true, bm, Ent.mk3, bC, bu, bw, a5, a6, aZ, bK, bB, bI, bJ, bk, cD, bD, cQ, rn, bT, bT.renCs, aT, aU, aN, aN.viewOks, aI, a8, a8.flatBs, aG, ag, aH, ar, aQ, bv, bv.keysBs, aE, am, bp, bS, be, cC, af, af.passKs, aB, aO, ae, ae.lendKs, bV, cq, bW, bq, setInn, ai, cZ, cL, aC, bf, bZ, cc, aD, aP, Glob.gl, av, co, bL, b0, br, aj, bX, cM, cB, cV, bN, ap, ap.ptrOnlys, ak, aK, cz, aM, a4, bA, ce, aF, bh, cF, Nat.reduceBEq, undef]
  simp
theorem closure111_c (g : Gs) : FC Try.prog 111 [enc g] [] (enc (!smallG g 1000)) [] := by
  refine fc_intro' is111 (by simp) (fun cx hl => S_run [e88] 800 ?_)
  delta c111
  simp (maxSteps := 4000000) -implicitDefEqProofs only [rv111, e88, InR, Ent.of0, Ent.of1, Ent.of2, Ent.of3, V, bO, bt, bE, cb, cN, cU, gt, lk, cJ, bQ, cm, cr, bM, cn, cn.subCs, cT, bg, a9, cg, az, a3, bn, aJ, bz, bo, aY, bF, ax, cu, cO, c6, aq, aX, bR, cI, cj, cY, cR, aV, an, bY, bj, zC, argS, bG, cH, cP, cW, ah, aw, aW, aA, cd, leC, ca, bP, cG, cS, bU, ay, aL, cK, au, cp, a7, a7.viewCs, bH, bH.flatCs, aR, aR.LensOks, Value.oneCell', ↓reduceIte, ite_true, ite_false, if_true, if_false, Nat.reduceAdd, Nat.reduceSub, Nat.reduceMul, Nat.reduceEqDiff, Nat.reduceLT, Nat.reduceLeDiff, reduceCtorEq, Int.reduceToNat, forall_const, implies_true, bm, Ent.mk3, bC, bu, bw, a5, a6, aZ, bK, bB, bI, bJ, bk, cD, bD, cQ, rn, bT, bT.renCs, aT, aU, aN, aN.viewOks, aI, a8, a8.flatBs, aG, ag, aH, ar, aQ, bv, bv.keysBs, aE, am, bp, bS, be, cC, af, af.passKs, aB, aO, ae, ae.lendKs, bV, cq, bW, bq, setInn, ai, cZ, cL, aC, bf, bZ, cc, aD, aP, Glob.gl, av, co, bL, b0, br, aj, bX, cM, cB, cV, bN, ap, ap.ptrOnlys, ak, aK, cz, aM, a4, bA, ce, aF, bh, cF, Nat.reduceBEq, undef]
  simp
theorem symbolsErr_c (l : List Gs) : FC Try.prog 118 [enc l] [] (enc (symErr l)) [] := by
  refine fc_intro' is118 (by simp) (fun cx hl => S_run [eAny 140 _ closure140_c, e80, e82] 800 ?_)
  delta c118
  simp (maxSteps := 4000000) -implicitDefEqProofs only [rv118, eAny, e80, e82, Ent.of0, Ent.of1, Ent.of2, Ent.of3, V, bO, bt, bE, cb, cN, cU, gt, lk, cJ, bQ, cm, cr, bM, cn, cn.subCs, cT, bg, a9, cg, az, a3, bn, aJ, bz, bo, aY, bF, ax, cu, cO, c6, aq, aX, bR, cI, cj, cY, cR, aV, an, bY, bj, zC, argS, bG, cH, cP, cW, ah, aw, aW, aA, cd, leC, ca, bP, cG, cS, bU, ay, aL, cK, au, cp, a7, a7.viewCs, bH, bH.flatCs, aR, aR.LensOks, Value.oneCell', ↓reduceIte, ite_true, ite_false, if_true, if_false, Nat.reduceAdd, Nat.reduceSub, Nat.reduceMul, Nat.reduceEqDiff, Nat.reduceLT, Nat.reduceLeDiff, reduceCtorEq, Int.reduceToNat, forall_const, implies_true, bm, Ent.mk3, bC, bu, bw, a5, a6, aZ, bK, bB, bI, bJ, bk, cD, bD, cQ, rn, bT, bT.renCs, aT, aU, aN, aN.viewOks, aI, a8, a8.flatBs, aG, ag, aH, ar, aQ, bv, bv.keysBs, aE, am, bp, bS, be, cC, af, af.passKs, aB, aO, ae, ae.lendKs, bV, cq, bW, bq, setInn, ai, cZ, cL, aC, bf, bZ, cc, aD, aP, Glob.gl, av, co, bL, b0, br, aj, bX, cM, cB, cV, bN, ap, ap.ptrOnlys, ak, aK, cz, aM, a4, bA, ce, aF, bh, cF, Nat.reduceBEq, undef]
  have h : (List.any l fun g => !smallG g 100000000) = !(l.all (smallG · 100000000)) := by rw [List.not_all_eq_any_not]
  unfold symErr
  simp only [firstS, h]
  grind
def e118 : Ent Try.prog := .of1 118 (fun _ => True) (fun l : List Gs => enc (symErr l)) (fun _ => trivial) (fun l _ => symbolsErr_c l)
end Go.Proofs.Ytfgpbmjmoobcnaa
end
section
open Go Go.Am
open Go.Am.Dat (cells)
namespace Go.Proofs.Ytfgpbmjmoobcnaa
set_option maxHeartbeats 4000000
set_option maxRecDepth 20000
set_option linter.unusedSimpArgs false
def layErr (m : List (List Gs)) : Int :=
  if m.length = 0 then 10 else if m.length > 4 then 8 else firstS (m.map fun r => if symErr r ≠ 0 then symErr r else if r.length ≠ (m.getD 0 []).length then 13 else 0)
theorem layersErr_c (m : List (List Gs)) : FC Try.prog 81 [enc m] [] (enc (layErr m)) [] := by
  refine fc_intro' is81 (by simp) (fun cx hl => S_run [e80, e82] 800 ?_)
  delta c81
  simp (maxSteps := 4000000) -implicitDefEqProofs only [rv81, e80, e82, Ent.of0, Ent.of1, Ent.of2, Ent.of3, V, bO, bt, bE, cb, cN, cU, gt, lk, cJ, bQ, cm, cr, bM, cn, cn.subCs, cT, bg, a9, cg, az, a3, bn, aJ, bz, bo, aY, bF, ax, cu, cO, c6, aq, aX, bR, cI, cj, cY, cR, aV, an, bY, bj, zC, argS, bG, cH, cP, cW, ah, aw, aW, aA, cd, leC, ca, bP, cG, cS, bU, ay, aL, cK, au, cp, a7, a7.viewCs, bH, bH.flatCs, aR, aR.LensOks, Value.oneCell', ↓reduceIte, ite_true, ite_false, if_true, if_false, Nat.reduceAdd, Nat.reduceSub, Nat.reduceMul, Nat.reduceEqDiff, Nat.reduceLT, Nat.reduceLeDiff, reduceCtorEq, Int.reduceToNat, forall_const, implies_true, bm, Ent.mk3, bC, bu, bw, a5, a6, aZ, bK, bB, bI, bJ, bk, cD, bD, cQ, rn, bT, bT.renCs, aT, aU, aN, aN.viewOks, aI, a8, a8.flatBs, aG, ag, aH, ar, aQ, bv, bv.keysBs, aE, am, bp, bS, be, cC, af, af.passKs, aB, aO, ae, ae.lendKs, bV, cq, bW, bq, setInn, ai, cZ, cL, aC, bf, bZ, cc, aD, aP, Glob.gl, av, co, bL, b0, br, aj, bX, cM, cB, cV, bN, ap, ap.ptrOnlys, ak, aK, cz, aM, a4, bA, ce, aF, bh, cF, Nat.reduceBEq, undef]
  unfold layErr
  by_cases h0 : m.length = 0
  · simp [h0, firstS]
  by_cases h1 : m.length > 4
  · have : ¬ m.length ≤ 4 := by omega
    simp only [firstS]
    grind
  have h2 : m.length ≤ 4 := by omega
  rw [if_neg (by simp [firstS]; omega), if_neg h0, if_neg h1]
  generalize hf : (fun r : List Gs => if symErr r ≠ 0 then symErr r else if r.length ≠ (m.getD 0 []).length then 13 else 0) = f
  refine S_for m.length (fun i => ⟨[(0, enc m), (20, enc m), (21, .s (.int .i64 m.length)), (22, .s (.int .i64 i))], []⟩) (fun i => firstS (m.map f) = firstS ((m.drop i).map f)) (by simp) ?_ (fun i hi hv => S_run [e80, e82, e118] 800 ?_)
  · simp (maxSteps := 4000000) -implicitDefEqProofs only [Ent.of0, Ent.of1, Ent.of2, Ent.of3, V, bO, bt, bE, cb, cN, cU, gt, lk, cJ, bQ, cm, cr, bM, cn, cn.subCs, cT, bg, a9, cg, az, a3, bn, aJ, bz, bo, aY, bF, ax, cu, cO, c6, aq, aX, bR, cI, cj, cY, cR, aV, an, bY, bj, zC, argS, bG, cH, cP, cW, ah, aw, aW, aA, cd, leC, ca, bP, cG, cS, bU, ay, aL, cK, au, cp, a7, a7.viewCs, bH, bH.flatCs, aR, aR.LensOks, Value.oneCell', ↓reduceIte, ite_true, ite_false, if_true, if_false, Nat.reduceAdd, Nat.reduceSub, Nat.reduceMul, Nat.reduceEqDiff, Nat.reduceLT, Nat.reduceLeDiff, reduceCtorEq, Int.reduceToNat, forall_const, implies_true, bm, Ent.mk3, bC, bu, bw, a5, a6, aZ, bK, bB, bI, bJ, bk, cD, bD, cQ, rn, bT, bT.renCs, aT, aU, aN, aN.viewOks, aI, a8, a8.flatBs, aG, ag, aH, ar, aQ, bv, bv.keysBs, aE, am, bp, bS, be, cC, af, af.passKs, aB, aO, ae, ae.lendKs, bV, cq, bW, bq, setInn, ai, cZ, cL, aC, bf, bZ, cc, aD, aP, Glob.gl, av, co, bL, b0, br, aj, bX, cM, cB, cV, bN, ap, ap.ptrOnlys, ak, aK, cz, aM, a4, bA, ce, aF, bh, cF, Nat.reduceBEq, undef]; simp
  · by_cases h : i < m.length
    · have h3 : 0 < m.length := by omega
      delta c81l1
      simp (maxSteps := 4000000) -implicitDefEqProofs only [e80, e82, e118, InR, getD_list, h, h3, firstS, Ent.of0, Ent.of1, Ent.of2, Ent.of3, V, bO, bt, bE, cb, cN, cU, gt, lk, cJ, bQ, cm, cr, bM, cn, cn.subCs, cT, bg, a9, cg, az, a3, bn, aJ, bz, bo, aY, bF, ax, cu, cO, c6, aq, aX, bR, cI, cj, cY, cR, aV, an, bY, bj, zC, argS, bG, cH, cP, cW, ah, aw, aW, aA, cd, leC, ca, bP, cG, cS, bU, ay, aL, cK, au, cp, a7, a7.viewCs, bH, bH.flatCs, aR, aR.LensOks, Value.oneCell', ↓reduceIte, ite_true, ite_false, if_true, if_false, Nat.reduceAdd, Nat.reduceSub, Nat.reduceMul, Nat.reduceEqDiff, Nat.reduceLT, Nat.reduceLeDiff, reduceCtorEq, Int.reduceToNat, forall_const, implies_true, bm, Ent.mk3, bC, bu, bw, a5, a6, aZ, bK, bB, bI, bJ, bk, cD, bD, cQ, rn, bT, bT.renCs, aT, aU, aN, aN.viewOks, aI, a8, a8.flatBs, aG, ag, aH, ar, aQ, bv, bv.keysBs, aE, am, bp, bS, be, cC, af, af.passKs, aB, aO, ae, ae.lendKs, bV, cq, bW, bq, setInn, ai, cZ, cL, aC, bf, bZ, cc, aD, aP, Glob.gl, av, co, bL, b0, br, aj, bX, cM, cB, cV, bN, ap, ap.ptrOnlys, ak, aK, cz, aM, a4, bA, ce, aF, bh, cF, Nat.reduceBEq, undef]
      rw [drop_getD [] h, List.map_cons, firstS] at hv
      subst hf
      grind
    · have : i = m.length := by omega
      subst this
      delta c81l1
      simp (maxSteps := 4000000) -implicitDefEqProofs only [Ent.of0, Ent.of1, Ent.of2, Ent.of3, V, bO, bt, bE, cb, cN, cU, gt, lk, cJ, bQ, cm, cr, bM, cn, cn.subCs, cT, bg, a9, cg, az, a3, bn, aJ, bz, bo, aY, bF, ax, cu, cO, c6, aq, aX, bR, cI, cj, cY, cR, aV, an, bY, bj, zC, argS, bG, cH, cP, cW, ah, aw, aW, aA, cd, leC, ca, bP, cG, cS, bU, ay, aL, cK, au, cp, a7, a7.viewCs, bH, bH.flatCs, aR, aR.LensOks, Value.oneCell', ↓reduceIte, ite_true, ite_false, if_true, if_false, Nat.reduceAdd, Nat.reduceSub, Nat.reduceMul, Nat.reduceEqDiff, Nat.reduceLT, Nat.reduceLeDiff, reduceCtorEq, Int.reduceToNat, forall_const, implies_true, bm, Ent.mk3, bC, bu, bw, a5, a6, aZ, bK, bB, bI, bJ, bk, cD, bD, cQ, rn, bT, bT.renCs, aT, aU, aN, aN.viewOks, aI, a8, a8.flatBs, aG, ag, aH, ar, aQ, bv, bv.keysBs, aE, am, bp, bS, be, cC, af, af.passKs, aB, aO, ae, ae.lendKs, bV, cq, bW, bq, setInn, ai, cZ, cL, aC, bf, bZ, cc, aD, aP, Glob.gl, av, co, bL, b0, br, aj, bX, cM, cB, cV, bN, ap, ap.ptrOnlys, ak, aK, cz, aM, a4, bA, ce, aF, bh, cF, Nat.reduceBEq, undef]
      simp [firstS] at hv ⊢
      exact hv.symm
def e81 : Ent Try.prog := .of1 81 (fun _ => True) (fun l : List (List Gs) => enc (layErr l)) (fun _ => trivial) (fun l _ => layersErr_c l)
def rowErr (n0 : Nat) (r : List Gs) : Int := if r.length = 0 ∨ r.length ≠ n0 then 10 else if r.length > 4 then 8 else if r.all (smallG · 1000) then 0 else 2
def matErr (m : List (List Gs)) : Int := if m.length = 0 then 10 else if m.length > 4 then 8 else firstS (m.map (rowErr (m.getD 0 []).length))
end Go.Proofs.Ytfgpbmjmoobcnaa
end
section
open Go Go.Am
open Go.Am.Dat (cells)
namespace Go.Proofs.Ytfgpbmjmoobcnaa
set_option maxHeartbeats 4000000
set_option maxRecDepth 20000
set_option linter.unusedSimpArgs false
theorem checkMatrix_c (m : List (List Gs)) : FC Try.prog 46 [enc m] [] (enc (matErr m)) [] := by
  refine fc_intro' is46 (by simp) (fun cx hl => S_run [e80, e82] 800 ?_)
  delta c46
  simp (maxSteps := 4000000) -implicitDefEqProofs only [rv46, e80, e82, Ent.of0, Ent.of1, Ent.of2, Ent.of3, V, bO, bt, bE, cb, cN, cU, gt, lk, cJ, bQ, cm, cr, bM, cn, cn.subCs, cT, bg, a9, cg, az, a3, bn, aJ, bz, bo, aY, bF, ax, cu, cO, c6, aq, aX, bR, cI, cj, cY, cR, aV, an, bY, bj, zC, argS, bG, cH, cP, cW, ah, aw, aW, aA, cd, leC, ca, bP, cG, cS, bU, ay, aL, cK, au, cp, a7, a7.viewCs, bH, bH.flatCs, aR, aR.LensOks, Value.oneCell', ↓reduceIte, ite_true, ite_false, if_true, if_false, Nat.reduceAdd, Nat.reduceSub, Nat.reduceMul, Nat.reduceEqDiff, Nat.reduceLT, Nat.reduceLeDiff, reduceCtorEq, Int.reduceToNat, forall_const, implies_true, bm, Ent.mk3, bC, bu, bw, a5, a6, aZ, bK, bB, bI, bJ, bk, cD, bD, cQ, rn, bT, bT.renCs, aT, aU, aN, aN.viewOks, aI, a8, a8.flatBs, aG, ag, aH, ar, aQ, bv, bv.keysBs, aE, am, bp, bS, be, cC, af, af.passKs, aB, aO, ae, ae.lendKs, bV, cq, bW, bq, setInn, ai, cZ, cL, aC, bf, bZ, cc, aD, aP, Glob.gl, av, co, bL, b0, br, aj, bX, cM, cB, cV, bN, ap, ap.ptrOnlys, ak, aK, cz, aM, a4, bA, ce, aF, bh, cF, Nat.reduceBEq, undef]
  unfold matErr
  by_cases h0 : m.length = 0
  · simp [h0, firstS]
  by_cases h1 : m.length > 4
  · have : ¬ m.length ≤ 4 := by omega
    simp only [firstS]
    grind
  have h2 : m.length ≤ 4 := by omega
  rw [if_neg (by simp [firstS]; omega), if_neg h0, if_neg h1]
  generalize hf : rowErr (m.getD 0 []).length = f
  refine S_for m.length (fun i => ⟨[(0, enc m), (21, enc m), (22, .s (.int .i64 m.length)), (23, .s (.int .i64 i))], []⟩) (fun i => firstS (m.map f) = firstS ((m.drop i).map f)) (by simp) ?_ (fun i hi hv => S_run [e80, e82, eAny 111 _ closure111_c] 800 ?_)
  · simp (maxSteps := 4000000) -implicitDefEqProofs only [Ent.of0, Ent.of1, Ent.of2, Ent.of3, V, bO, bt, bE, cb, cN, cU, gt, lk, cJ, bQ, cm, cr, bM, cn, cn.subCs, cT, bg, a9, cg, az, a3, bn, aJ, bz, bo, aY, bF, ax, cu, cO, c6, aq, aX, bR, cI, cj, cY, cR, aV, an, bY, bj, zC, argS, bG, cH, cP, cW, ah, aw, aW, aA, cd, leC, ca, bP, cG, cS, bU, ay, aL, cK, au, cp, a7, a7.viewCs, bH, bH.flatCs, aR, aR.LensOks, Value.oneCell', ↓reduceIte, ite_true, ite_false, if_true, if_false, Nat.reduceAdd, Nat.reduceSub, Nat.reduceMul, Nat.reduceEqDiff, Nat.reduceLT, Nat.reduceLeDiff, reduceCtorEq, Int.reduceToNat, forall_const, implies_true, bm, Ent.mk3, bC, bu, bw, a5, a6, aZ, bK, bB, bI, bJ, bk, cD, bD, cQ, rn, bT, bT.renCs, aT, aU, aN, aN.viewOks, aI, a8, a8.flatBs, aG, ag, aH, ar, aQ, bv, bv.keysBs, aE, am, bp, bS, be, cC, af, af.passKs, aB, aO, ae, ae.lendKs, bV, cq, bW, bq, setInn, ai, cZ, cL, aC, bf, bZ, cc, aD, aP, Glob.gl, av, co, bL, b0, br, aj, bX, cM, cB, cV, bN, ap, ap.ptrOnlys, ak, aK, cz, aM, a4, bA, ce, aF, bh, cF, Nat.reduceBEq, undef]; simp
  · by_cases h : i < m.length
    · have h3 : 0 < m.length := by omega
      rw [drop_getD [] h, List.map_cons, firstS] at hv
      have hfr : f (m.getD i []) = rowErr (m.getD 0 []).length (m.getD i []) := by rw [hf]
      unfold rowErr at hfr
      have ha : (List.any (m.getD i []) fun g => !smallG g 1000) = !((m.getD i []).all (smallG · 1000)) := by rw [List.not_all_eq_any_not]
      have hi2 : (i : Int) < (m.length : Int) := by omega
      by_cases hz : (0 : Int) < ((m.getD i []).length : Int)
      · delta c46l1
        simp (maxSteps := 4000000) -implicitDefEqProofs only [e80, e82, eAny, InR, getD_list, h, h3, hz, hi2, firstS, Ent.of0, Ent.of1, Ent.of2, Ent.of3, V, bO, bt, bE, cb, cN, cU, gt, lk, cJ, bQ, cm, cr, bM, cn, cn.subCs, cT, bg, a9, cg, az, a3, bn, aJ, bz, bo, aY, bF, ax, cu, cO, c6, aq, aX, bR, cI, cj, cY, cR, aV, an, bY, bj, zC, argS, bG, cH, cP, cW, ah, aw, aW, aA, cd, leC, ca, bP, cG, cS, bU, ay, aL, cK, au, cp, a7, a7.viewCs, bH, bH.flatCs, aR, aR.LensOks, Value.oneCell', ↓reduceIte, ite_true, ite_false, if_true, if_false, Nat.reduceAdd, Nat.reduceSub, Nat.reduceMul, Nat.reduceEqDiff, Nat.reduceLT, Nat.reduceLeDiff, reduceCtorEq, Int.reduceToNat, forall_const, implies_true, bm, Ent.mk3, bC, bu, bw, a5, a6, aZ, bK, bB, bI, bJ, bk, cD, bD, cQ, rn, bT, bT.renCs, aT, aU, aN, aN.viewOks, aI, a8, a8.flatBs, aG, ag, aH, ar, aQ, bv, bv.keysBs, aE, am, bp, bS, be, cC, af, af.passKs, aB, aO, ae, ae.lendKs, bV, cq, bW, bq, setInn, ai, cZ, cL, aC, bf, bZ, cc, aD, aP, Glob.gl, av, co, bL, b0, br, aj, bX, cM, cB, cV, bN, ap, ap.ptrOnlys, ak, aK, cz, aM, a4, bA, ce, aF, bh, cF, Nat.reduceBEq, undef]
        simp only [ha]
        grind
      · delta c46l1
        simp (maxSteps := 4000000) -implicitDefEqProofs only [e80, e82, eAny, InR, getD_list, h, h3, hz, hi2, firstS, Ent.of0, Ent.of1, Ent.of2, Ent.of3, V, bO, bt, bE, cb, cN, cU, gt, lk, cJ, bQ, cm, cr, bM, cn, cn.subCs, cT, bg, a9, cg, az, a3, bn, aJ, bz, bo, aY, bF, ax, cu, cO, c6, aq, aX, bR, cI, cj, cY, cR, aV, an, bY, bj, zC, argS, bG, cH, cP, cW, ah, aw, aW, aA, cd, leC, ca, bP, cG, cS, bU, ay, aL, cK, au, cp, a7, a7.viewCs, bH, bH.flatCs, aR, aR.LensOks, Value.oneCell', ↓reduceIte, ite_true, ite_false, if_true, if_false, Nat.reduceAdd, Nat.reduceSub, Nat.reduceMul, Nat.reduceEqDiff, Nat.reduceLT, Nat.reduceLeDiff, reduceCtorEq, Int.reduceToNat, forall_const, implies_true, bm, Ent.mk3, bC, bu, bw, a5, a6, aZ, bK, bB, bI, bJ, bk, cD, bD, cQ, rn, bT, bT.renCs, aT, aU, aN, aN.viewOks, aI, a8, a8.flatBs, aG, ag, aH, ar, aQ, bv, bv.keysBs, aE, am, bp, bS, be, cC, af, af.passKs, aB, aO, ae, ae.lendKs, bV, cq, bW, bq, setInn, ai, cZ, cL, aC, bf, bZ, cc, aD, aP, Glob.gl, av, co, bL, b0, br, aj, bX, cM, cB, cV, bN, ap, ap.ptrOnlys, ak, aK, cz, aM, a4, bA, ce, aF, bh, cF, Nat.reduceBEq, undef]
        simp only [ha]
        grind
    · have : i = m.length := by omega
      subst this
      delta c46l1
      simp (maxSteps := 4000000) -implicitDefEqProofs only [Ent.of0, Ent.of1, Ent.of2, Ent.of3, V, bO, bt, bE, cb, cN, cU, gt, lk, cJ, bQ, cm, cr, bM, cn, cn.subCs, cT, bg, a9, cg, az, a3, bn, aJ, bz, bo, aY, bF, ax, cu, cO, c6, aq, aX, bR, cI, cj, cY, cR, aV, an, bY, bj, zC, argS, bG, cH, cP, cW, ah, aw, aW, aA, cd, leC, ca, bP, cG, cS, bU, ay, aL, cK, au, cp, a7, a7.viewCs, bH, bH.flatCs, aR, aR.LensOks, Value.oneCell', ↓reduceIte, ite_true, ite_false, if_true, if_false, Nat.reduceAdd, Nat.reduceSub, Nat.reduceMul, Nat.reduceEqDiff, Nat.reduceLT, Nat.reduceLeDiff, reduceCtorEq, Int.reduceToNat, forall_const, implies_true, bm, Ent.mk3, bC, bu, bw, a5, a6, aZ, bK, bB, bI, bJ, bk, cD, bD, cQ, rn, bT, bT.renCs, aT, aU, aN, aN.viewOks, aI, a8, a8.flatBs, aG, ag, aH, ar, aQ, bv, bv.keysBs, aE, am, bp, bS, be, cC, af, af.passKs, aB, aO, ae, ae.lendKs, bV, cq, bW, bq, setInn, ai, cZ, cL, aC, bf, bZ, cc, aD, aP, Glob.gl, av, co, bL, b0, br, aj, bX, cM, cB, cV, bN, ap, ap.ptrOnlys, ak, aK, cz, aM, a4, bA, ce, aF, bh, cF, Nat.reduceBEq, undef]
      simp [firstS] at hv ⊢
      exact hv.symm
def e46 : Ent Try.prog := .of1 46 (fun _ => True) (fun l : List (List Gs) => enc (matErr l)) (fun _ => trivial) (fun l _ => checkMatrix_c l)
end Go.Proofs.Ytfgpbmjmoobcnaa
end
section
open Go Go.Am
open Go.Am.Dat (cells)
namespace Go.Proofs.Ytfgpbmjmoobcnaa
set_option maxHeartbeats 4000000
set_option maxRecDepth 20000
set_option linter.unusedSimpArgs false
def gmul (a b : Gs) : Gs := ⟨a.re * b.re - a.im * b.im, a.re * b.im + a.im * b.re⟩
def gsub (a b : Gs) : Gs := ⟨a.re - b.re, a.im - b.im⟩
def gadd (a b : Gs) : Gs := ⟨a.re + b.re, a.im + b.im⟩
def gconj (a : Gs) : Gs := ⟨a.re, -a.im⟩
def bd (g : Gs) (n : Nat) : Prop := g.re.natAbs ≤ n ∧ g.im.natAbs ≤ n
theorem mul_bd {a b : Int} {A B : Nat} (ha : a.natAbs ≤ A) (hb : b.natAbs ≤ B) : (a * b).natAbs ≤ A * B := by
  rw [Int.natAbs_mul]; exact Nat.mul_le_mul ha hb
theorem bd_gmul {a b : Gs} {A B : Nat} (ha : bd a A) (hb : bd b B) : bd (gmul a b) (2 * (A * B)) := by
  have h1 := mul_bd ha.1 hb.1
  have h2 := mul_bd ha.2 hb.2
  have h3 := mul_bd ha.1 hb.2
  have h4 := mul_bd ha.2 hb.1
  unfold gmul
  generalize A * B = N at *
  constructor <;> simp only <;> omega
def mulOk (a b : Gs) : Prop := ∃ A B, bd a A ∧ bd b B ∧ 2 * (A * B) ≤ 9223372036854775807
theorem mulOk_in {a b : Gs} (h : mulOk a b) : InR .i64 (a.re * b.re) ∧ InR .i64 (a.im * b.im) ∧ InR .i64 (a.re * b.im) ∧ InR .i64 (a.im * b.re) ∧ InR .i64 (a.re * b.re - a.im * b.im) ∧ InR .i64 (a.re * b.im + a.im * b.re) := by
  obtain ⟨A, B, ha, hb, h⟩ := h
  have h1 := mul_bd ha.1 hb.1
  have h2 := mul_bd ha.2 hb.2
  have h3 := mul_bd ha.1 hb.2
  have h4 := mul_bd ha.2 hb.1
  generalize A * B = N at *
  simp only [InR]
  omega
theorem times_c (a b : Gs) (h : mulOk a b) : FC Try.prog 83 [enc a, enc b] [] (enc (gmul a b)) [] := by
  obtain ⟨h1, h2, h3, h4, h5, h6⟩ := mulOk_in h
  refine fc_intro' is83 (by simp) (fun cx hl => S_run [] 800 ?_)
  delta c83
  simp (maxSteps := 4000000) -implicitDefEqProofs only [rv83, h1, h2, h3, h4, h5, h6, gmul, Ent.of0, Ent.of1, Ent.of2, Ent.of3, V, bO, bt, bE, cb, cN, cU, gt, lk, cJ, bQ, cm, cr, bM, cn, cn.subCs, cT, bg, a9, cg, az, a3, bn, aJ, bz, bo, aY, bF, ax, cu, cO, c6, aq, aX, bR, cI, cj, cY, cR, aV, an, bY, bj, zC, argS, bG, cH, cP, cW, ah, aw, aW, aA, cd, leC, ca, bP, cG, cS, bU, ay, aL, cK, au, cp, a7, a7.viewCs, bH, bH.flatCs, aR, aR.LensOks, Value.oneCell', ↓reduceIte, ite_true, ite_false, if_true, if_false, Nat.reduceAdd, Nat.reduceSub, Nat.reduceMul, Nat.reduceEqDiff, Nat.reduceLT, Nat.reduceLeDiff, reduceCtorEq, Int.reduceToNat, forall_const, implies_true, bm, Ent.mk3, bC, bu, bw, a5, a6, aZ, bK, bB, bI, bJ, bk, cD, bD, cQ, rn, bT, bT.renCs, aT, aU, aN, aN.viewOks, aI, a8, a8.flatBs, aG, ag, aH, ar, aQ, bv, bv.keysBs, aE, am, bp, bS, be, cC, af, af.passKs, aB, aO, ae, ae.lendKs, bV, cq, bW, bq, setInn, ai, cZ, cL, aC, bf, bZ, cc, aD, aP, Glob.gl, av, co, bL, b0, br, aj, bX, cM, cB, cV, bN, ap, ap.ptrOnlys, ak, aK, cz, aM, a4, bA, ce, aF, bh, cF, Nat.reduceBEq, undef]
def e83 : Ent Try.prog := .of2 83 mulOk (fun a b => enc (gmul a b)) (fun _ _ => by simp [enc_gs, keysIn, keysIn.keysIns]) (fun a b h => times_c a b h)
def addOk (a b : Gs) : Prop := ∃ A B, bd a A ∧ bd b B ∧ A + B ≤ 9223372036854775807
theorem addOk_in {a b : Gs} (h : addOk a b) : InR .i64 (a.re + b.re) ∧ InR .i64 (a.im + b.im) ∧ InR .i64 (a.re - b.re) ∧ InR .i64 (a.im - b.im) := by
  obtain ⟨A, B, ha, hb, h⟩ := h
  simp only [bd] at ha hb
  simp only [InR]
  omega
theorem less_c (a b : Gs) (h : addOk a b) : FC Try.prog 113 [enc a, enc b] [] (enc (gsub a b)) [] := by
  obtain ⟨h1, h2, h3, h4⟩ := addOk_in h
  refine fc_intro' is113 (by simp) (fun cx hl => S_run [] 800 ?_)
  delta c113
  simp (maxSteps := 4000000) -implicitDefEqProofs only [rv113, h1, h2, h3, h4, gsub, Ent.of0, Ent.of1, Ent.of2, Ent.of3, V, bO, bt, bE, cb, cN, cU, gt, lk, cJ, bQ, cm, cr, bM, cn, cn.subCs, cT, bg, a9, cg, az, a3, bn, aJ, bz, bo, aY, bF, ax, cu, cO, c6, aq, aX, bR, cI, cj, cY, cR, aV, an, bY, bj, zC, argS, bG, cH, cP, cW, ah, aw, aW, aA, cd, leC, ca, bP, cG, cS, bU, ay, aL, cK, au, cp, a7, a7.viewCs, bH, bH.flatCs, aR, aR.LensOks, Value.oneCell', ↓reduceIte, ite_true, ite_false, if_true, if_false, Nat.reduceAdd, Nat.reduceSub, Nat.reduceMul, Nat.reduceEqDiff, Nat.reduceLT, Nat.reduceLeDiff, reduceCtorEq, Int.reduceToNat, forall_const, implies_true, bm, Ent.mk3, bC, bu, bw, a5, a6, aZ, bK, bB, bI, bJ, bk, cD, bD, cQ, rn, bT, bT.renCs, aT, aU, aN, aN.viewOks, aI, a8, a8.flatBs, aG, ag, aH, ar, aQ, bv, bv.keysBs, aE, am, bp, bS, be, cC, af, af.passKs, aB, aO, ae, ae.lendKs, bV, cq, bW, bq, setInn, ai, cZ, cL, aC, bf, bZ, cc, aD, aP, Glob.gl, av, co, bL, b0, br, aj, bX, cM, cB, cV, bN, ap, ap.ptrOnlys, ak, aK, cz, aM, a4, bA, ce, aF, bh, cF, Nat.reduceBEq, undef]
def e113 : Ent Try.prog := .of2 113 addOk (fun a b => enc (gsub a b)) (fun _ _ => by simp [enc_gs, keysIn, keysIn.keysIns]) (fun a b h => less_c a b h)
end Go.Proofs.Ytfgpbmjmoobcnaa
end
section
open Go Go.Am
open Go.Am.Dat (cells)
namespace Go.Proofs.Ytfgpbmjmoobcnaa
set_option maxHeartbeats 4000000
set_option maxRecDepth 20000
set_option linter.unusedSimpArgs false
theorem firstS_zero : ∀ {l : List Int}, firstS l = 0 → ∀ e ∈ l, e = 0
  | [], _, e, h => by simp at h
  | x :: l, h, e, he => by
    simp only [firstS] at h
    split at h
    · rename_i hx; exact absurd h hx
    · rename_i hx
      rcases List.mem_cons.1 he with rfl | he
      · omega
      · exact firstS_zero h e he
structure Right (m : List (List Gs)) : Prop where
  pos : 0 < m.length
  le : m.length ≤ 4
  row : ∀ r ∈ m, r.length = (m.getD 0 []).length ∧ 0 < r.length ∧ r.length ≤ 4 ∧ ∀ g ∈ r, smallG g 1000 = true
theorem right_of {m : List (List Gs)} (h : matErr m = 0) : Right m := by
  unfold matErr at h
  split at h
  · cases h
  · split at h
    · cases h
    · refine ⟨by omega, by omega, fun r hr => ?_⟩
      have := firstS_zero h _ (List.mem_map.2 ⟨r, hr, rfl⟩)
      unfold rowErr at this
      split at this
      · cases this
      · split at this
        · cases this
        · split at this
          · rename_i h1 h2 h3
            exact ⟨by omega, by omega, by omega, fun g hg => by simpa using List.all_eq_true.1 h3 g hg⟩
          · cases this
theorem smallG_bd {g : Gs} {n : Nat} (h : smallG g n = true) : bd g n := by
  simp only [smallG, Bool.and_eq_true, decide_eq_true_eq] at h
  constructor <;> omega
def detS (m : List (List Gs)) : Gs :=
  match m with
  | [[a]] => a
  | [[a, b], [c, d]] => gsub (gmul a d) (gmul b c)
  | _ => ⟨0, 0⟩
def detE (m : List (List Gs)) : Int := if m.length ≠ (m.getD 0 []).length then 13 else if m.length > 2 then 8 else 0
theorem bd_mul1000 {a b : Gs} (ha : bd a 1000) (hb : bd b 1000) : mulOk a b := ⟨1000, 1000, ha, hb, by omega⟩
theorem det_add {a b c d : Gs} (ha : bd a 1000) (hb : bd b 1000) (hc : bd c 1000) (hd : bd d 1000) : addOk (gmul a d) (gmul b c) :=
  ⟨_, _, bd_gmul ha hd, bd_gmul hb hc, by omega⟩
def symDetE (m : List (List Gs)) : Int := if matErr m ≠ 0 then matErr m else detE m
def symDetS (m : List (List Gs)) : Gs := if matErr m ≠ 0 then ⟨0, 0⟩ else detS m
theorem SDet_c (m : List (List Gs)) : FC Try.prog 49 [enc m] [] (.tup [enc (symDetS m), enc (symDetE m)]) [] := by
  refine fc_intro' is49 (by simp) (fun cx hl => S_run [e46, e83, e113] 800 ?_)
  by_cases h0 : matErr m = 0
  rotate_left
  · have hs : symDetS m = ⟨0, 0⟩ := by unfold symDetS; rw [if_pos h0]
    have he : symDetE m = matErr m := by unfold symDetE; rw [if_pos h0]
    delta c49
    simp (maxSteps := 4000000) -implicitDefEqProofs only [rv49, e46, h0, hs, he, Ent.of0, Ent.of1, Ent.of2, Ent.of3, V, bO, bt, bE, cb, cN, cU, gt, lk, cJ, bQ, cm, cr, bM, cn, cn.subCs, cT, bg, a9, cg, az, a3, bn, aJ, bz, bo, aY, bF, ax, cu, cO, c6, aq, aX, bR, cI, cj, cY, cR, aV, an, bY, bj, zC, argS, bG, cH, cP, cW, ah, aw, aW, aA, cd, leC, ca, bP, cG, cS, bU, ay, aL, cK, au, cp, a7, a7.viewCs, bH, bH.flatCs, aR, aR.LensOks, Value.oneCell', ↓reduceIte, ite_true, ite_false, if_true, if_false, Nat.reduceAdd, Nat.reduceSub, Nat.reduceMul, Nat.reduceEqDiff, Nat.reduceLT, Nat.reduceLeDiff, reduceCtorEq, Int.reduceToNat, forall_const, implies_true, bm, Ent.mk3, bC, bu, bw, a5, a6, aZ, bK, bB, bI, bJ, bk, cD, bD, cQ, rn, bT, bT.renCs, aT, aU, aN, aN.viewOks, aI, a8, a8.flatBs, aG, ag, aH, ar, aQ, bv, bv.keysBs, aE, am, bp, bS, be, cC, af, af.passKs, aB, aO, ae, ae.lendKs, bV, cq, bW, bq, setInn, ai, cZ, cL, aC, bf, bZ, cc, aD, aP, Glob.gl, av, co, bL, b0, br, aj, bX, cM, cB, cV, bN, ap, ap.ptrOnlys, ak, aK, cz, aM, a4, bA, ce, aF, bh, cF, Nat.reduceBEq, undef]
  have hs : symDetS m = detS m := by unfold symDetS; rw [if_neg (by simp [h0])]
  have he0 : symDetE m = detE m := by unfold symDetE; rw [if_neg (by simp [h0])]
  have h := right_of h0
  have h3 := h.pos
  by_cases h1 : m.length ≠ (m.getD 0 []).length
  · have hd : detS m = ⟨0, 0⟩ := by
      unfold detS; split
      · simp at h1
      · simp at h1
      · rfl
    have he : detE m = 13 := by unfold detE; rw [if_pos h1]
    have h1' : ¬ ((m.length : Int) = ((m.getD 0 []).length : Int)) := by omega
    delta c49
    simp (maxSteps := 4000000) -implicitDefEqProofs only [rv49, e46, h0, hs, he0, getD_list, h3, hd, he, h1', Ent.of0, Ent.of1, Ent.of2, Ent.of3, V, bO, bt, bE, cb, cN, cU, gt, lk, cJ, bQ, cm, cr, bM, cn, cn.subCs, cT, bg, a9, cg, az, a3, bn, aJ, bz, bo, aY, bF, ax, cu, cO, c6, aq, aX, bR, cI, cj, cY, cR, aV, an, bY, bj, zC, argS, bG, cH, cP, cW, ah, aw, aW, aA, cd, leC, ca, bP, cG, cS, bU, ay, aL, cK, au, cp, a7, a7.viewCs, bH, bH.flatCs, aR, aR.LensOks, Value.oneCell', ↓reduceIte, ite_true, ite_false, if_true, if_false, Nat.reduceAdd, Nat.reduceSub, Nat.reduceMul, Nat.reduceEqDiff, Nat.reduceLT, Nat.reduceLeDiff, reduceCtorEq, Int.reduceToNat, forall_const, implies_true, bm, Ent.mk3, bC, bu, bw, a5, a6, aZ, bK, bB, bI, bJ, bk, cD, bD, cQ, rn, bT, bT.renCs, aT, aU, aN, aN.viewOks, aI, a8, a8.flatBs, aG, ag, aH, ar, aQ, bv, bv.keysBs, aE, am, bp, bS, be, cC, af, af.passKs, aB, aO, ae, ae.lendKs, bV, cq, bW, bq, setInn, ai, cZ, cL, aC, bf, bZ, cc, aD, aP, Glob.gl, av, co, bL, b0, br, aj, bX, cM, cB, cV, bN, ap, ap.ptrOnlys, ak, aK, cz, aM, a4, bA, ce, aF, bh, cF, Nat.reduceBEq, undef]
    simp; omega
  by_cases h2 : m.length > 2
  · have hd : detS m = ⟨0, 0⟩ := by
      unfold detS; split
      · simp at h2
      · simp at h2
      · rfl
    have he : detE m = 8 := by unfold detE; rw [if_neg h1, if_pos h2]
    have h1' : (m.length : Int) = ((m.getD 0 []).length : Int) := by omega
    have h2' : ¬ ((m.getD 0 []).length : Int) = 2 := by omega
    have h2'' : ¬ ((m.getD 0 []).length : Int) = 1 := by omega
    have h3' : 0 < (m.getD 0 []).length := by omega
    delta c49
    simp (maxSteps := 4000000) -implicitDefEqProofs only [rv49, e46, h0, hs, he0, getD_list, h3, hd, he, h1', h2', h2'', Ent.of0, Ent.of1, Ent.of2, Ent.of3, V, bO, bt, bE, cb, cN, cU, gt, lk, cJ, bQ, cm, cr, bM, cn, cn.subCs, cT, bg, a9, cg, az, a3, bn, aJ, bz, bo, aY, bF, ax, cu, cO, c6, aq, aX, bR, cI, cj, cY, cR, aV, an, bY, bj, zC, argS, bG, cH, cP, cW, ah, aw, aW, aA, cd, leC, ca, bP, cG, cS, bU, ay, aL, cK, au, cp, a7, a7.viewCs, bH, bH.flatCs, aR, aR.LensOks, Value.oneCell', ↓reduceIte, ite_true, ite_false, if_true, if_false, Nat.reduceAdd, Nat.reduceSub, Nat.reduceMul, Nat.reduceEqDiff, Nat.reduceLT, Nat.reduceLeDiff, reduceCtorEq, Int.reduceToNat, forall_const, implies_true, bm, Ent.mk3, bC, bu, bw, a5, a6, aZ, bK, bB, bI, bJ, bk, cD, bD, cQ, rn, bT, bT.renCs, aT, aU, aN, aN.viewOks, aI, a8, a8.flatBs, aG, ag, aH, ar, aQ, bv, bv.keysBs, aE, am, bp, bS, be, cC, af, af.passKs, aB, aO, ae, ae.lendKs, bV, cq, bW, bq, setInn, ai, cZ, cL, aC, bf, bZ, cc, aD, aP, Glob.gl, av, co, bL, b0, br, aj, bX, cM, cB, cV, bN, ap, ap.ptrOnlys, ak, aK, cz, aM, a4, bA, ce, aF, bh, cF, Nat.reduceBEq, undef]
    simp at h3' ⊢; exact h3'
  have he : detE m = 0 := by unfold detE; rw [if_neg h1, if_neg h2]
  match m, h, h1, h2, h3 with
  | [r], h, h1, h2, h3 =>
    simp at h1
    match r, h1 with
    | [a], _ =>
      delta c49
      simp (maxSteps := 4000000) -implicitDefEqProofs only [rv49, e46, h0, hs, he0, he, detS, Ent.of0, Ent.of1, Ent.of2, Ent.of3, V, bO, bt, bE, cb, cN, cU, gt, lk, cJ, bQ, cm, cr, bM, cn, cn.subCs, cT, bg, a9, cg, az, a3, bn, aJ, bz, bo, aY, bF, ax, cu, cO, c6, aq, aX, bR, cI, cj, cY, cR, aV, an, bY, bj, zC, argS, bG, cH, cP, cW, ah, aw, aW, aA, cd, leC, ca, bP, cG, cS, bU, ay, aL, cK, au, cp, a7, a7.viewCs, bH, bH.flatCs, aR, aR.LensOks, Value.oneCell', ↓reduceIte, ite_true, ite_false, if_true, if_false, Nat.reduceAdd, Nat.reduceSub, Nat.reduceMul, Nat.reduceEqDiff, Nat.reduceLT, Nat.reduceLeDiff, reduceCtorEq, Int.reduceToNat, forall_const, implies_true, bm, Ent.mk3, bC, bu, bw, a5, a6, aZ, bK, bB, bI, bJ, bk, cD, bD, cQ, rn, bT, bT.renCs, aT, aU, aN, aN.viewOks, aI, a8, a8.flatBs, aG, ag, aH, ar, aQ, bv, bv.keysBs, aE, am, bp, bS, be, cC, af, af.passKs, aB, aO, ae, ae.lendKs, bV, cq, bW, bq, setInn, ai, cZ, cL, aC, bf, bZ, cc, aD, aP, Glob.gl, av, co, bL, b0, br, aj, bX, cM, cB, cV, bN, ap, ap.ptrOnlys, ak, aK, cz, aM, a4, bA, ce, aF, bh, cF, Nat.reduceBEq, undef]
      simp
  | [r, s], h, h1, h2, h3 =>
    simp at h1
    have hs' := (h.row s (by simp)).1
    simp at hs'
    match r, s, h1, hs' with
    | [a, b], [c, d], _, _ =>
      have hb : ∀ g, g ∈ [a, b] ∨ g ∈ [c, d] → bd g 1000 := fun g hg => by
        rcases hg with hg | hg
        · exact smallG_bd ((h.row [a, b] (by simp)).2.2.2 g hg)
        · exact smallG_bd ((h.row [c, d] (by simp)).2.2.2 g hg)
      have ba := hb a (by simp); have bb := hb b (by simp); have bc := hb c (by simp); have b_d := hb d (by simp)
      have m1 := bd_mul1000 ba b_d
      have m2 := bd_mul1000 bb bc
      have m3 := det_add ba bb bc b_d
      delta c49
      simp (maxSteps := 4000000) -implicitDefEqProofs only [rv49, e46, e83, e113, h0, hs, he0, he, detS, m1, m2, m3, Ent.of0, Ent.of1, Ent.of2, Ent.of3, V, bO, bt, bE, cb, cN, cU, gt, lk, cJ, bQ, cm, cr, bM, cn, cn.subCs, cT, bg, a9, cg, az, a3, bn, aJ, bz, bo, aY, bF, ax, cu, cO, c6, aq, aX, bR, cI, cj, cY, cR, aV, an, bY, bj, zC, argS, bG, cH, cP, cW, ah, aw, aW, aA, cd, leC, ca, bP, cG, cS, bU, ay, aL, cK, au, cp, a7, a7.viewCs, bH, bH.flatCs, aR, aR.LensOks, Value.oneCell', ↓reduceIte, ite_true, ite_false, if_true, if_false, Nat.reduceAdd, Nat.reduceSub, Nat.reduceMul, Nat.reduceEqDiff, Nat.reduceLT, Nat.reduceLeDiff, reduceCtorEq, Int.reduceToNat, forall_const, implies_true, bm, Ent.mk3, bC, bu, bw, a5, a6, aZ, bK, bB, bI, bJ, bk, cD, bD, cQ, rn, bT, bT.renCs, aT, aU, aN, aN.viewOks, aI, a8, a8.flatBs, aG, ag, aH, ar, aQ, bv, bv.keysBs, aE, am, bp, bS, be, cC, af, af.passKs, aB, aO, ae, ae.lendKs, bV, cq, bW, bq, setInn, ai, cZ, cL, aC, bf, bZ, cc, aD, aP, Glob.gl, av, co, bL, b0, br, aj, bX, cM, cB, cV, bN, ap, ap.ptrOnlys, ak, aK, cz, aM, a4, bA, ce, aF, bh, cF, Nat.reduceBEq, undef]
      simp
  | a :: b :: c :: l, h, h1, h2, h3 => exact absurd (by simp) h2
def e49 : Ent Try.prog := .of1 49 (fun _ => True) (fun m => .tup [enc (symDetS m), enc (symDetE m)]) (fun _ => by simp [enc_gs, enc_int, keysIn, keysIn.keysIns]) (fun m _ => SDet_c m)
end Go.Proofs.Ytfgpbmjmoobcnaa
end
section
open Go Go.Am
open Go.Am.Dat (cells)
namespace Go.Proofs.Ytfgpbmjmoobcnaa
set_option maxHeartbeats 4000000
set_option maxRecDepth 20000
set_option linter.unusedSimpArgs false
def dotS (row : List Gs) (ls : List (List Gs)) (i : Nat) : Nat → Gs
  | 0 => ⟨0, 0⟩
  | k + 1 => gadd (dotS row ls i k) (gmul (row.getD k ⟨0, 0⟩) ((ls.getD k []).getD i ⟨0, 0⟩))
def rowS' (ls : List (List Gs)) (row : List Gs) : List Gs := (List.range (ls.getD 0 []).length).map fun i => dotS row ls i ls.length
def applS (m ls : List (List Gs)) : List (List Gs) := m.map (rowS' ls)
structure Fits (m ls : List (List Gs)) (A B : Nat) : Prop where
  pos : 0 < ls.length
  le : ls.length ≤ 4
  mle : m.length ≤ 1000
  len : ∀ r ∈ ls, r.length = (ls.getD 0 []).length
  short : (ls.getD 0 []).length ≤ 1000000
  cols : ∀ r ∈ m, r.length = ls.length
  ma : ∀ r ∈ m, ∀ g ∈ r, bd g A
  mb : ∀ r ∈ ls, ∀ g ∈ r, bd g B
  small : 8 * (A * B) ≤ 9223372036854775807
theorem getD_mem {α : Type} {l : List α} {i : Nat} (d : α) (h : i < l.length) : l.getD i d ∈ l := by
  rw [List.getD_eq_getElem?_getD, List.getElem?_eq_getElem h]; exact List.getElem_mem h
theorem bd_dot {m ls : List (List Gs)} {A B : Nat} (hf : Fits m ls A B) {row : List Gs} (hr : row ∈ m) {i : Nat} (hi : i < (ls.getD 0 []).length) : ∀ k, k ≤ ls.length → bd (dotS row ls i k) (k * (2 * (A * B)))
  | 0, _ => by constructor <;> simp [dotS]
  | k + 1, hk => by
    have h1 := bd_dot hf hr hi k (by omega)
    have hc := hf.cols row hr
    have hl := hf.len (ls.getD k []) (getD_mem [] (by omega))
    have h2 := bd_gmul (hf.ma row hr _ (getD_mem ⟨0, 0⟩ (by omega : k < row.length))) (hf.mb _ (getD_mem [] (by omega)) _ (getD_mem ⟨0, 0⟩ (by omega : i < (ls.getD k []).length)))
    have e : (k + 1) * (2 * (A * B)) = k * (2 * (A * B)) + 2 * (A * B) := Nat.succ_mul _ _
    rw [e]
    simp only [dotS, gadd]
    generalize k * (2 * (A * B)) = X at *
    generalize 2 * (A * B) = Y at *
    obtain ⟨p1, p2⟩ := h1
    obtain ⟨q1, q2⟩ := h2
    constructor <;> simp only <;> omega
end Go.Proofs.Ytfgpbmjmoobcnaa
end
section
open Go Go.Am
open Go.Am.Dat (cells)
namespace Go.Proofs.Ytfgpbmjmoobcnaa
set_option maxHeartbeats 4000000
set_option linter.unusedSimpArgs false
theorem wrap16 {a : Nat} (ha : a < 65536) : IntKind.wrap .u16 (a : Int) = a := by
  show (if (false && decide ((a : Int) % 65536 ≥ 32768)) = true then (a : Int) % 65536 - 65536 else (a : Int) % 65536) = a
  rw [if_neg (by simp)]
  omega
theorem of16 {a : Nat} (ha : a < 65536) : (BitVec.ofInt 16 (a : Int)).toNat = a := by
  rw [BitVec.ofInt_natCast, BitVec.toNat_ofNat]
  exact Nat.mod_eq_of_lt ha
theorem and16 {a b : Nat} (ha : a < 65536) (hb : b < 65536) : bitF .and .u16 (a : Int) (b : Int) = ((a &&& b : Nat) : Int) := by
  show IntKind.wrap .u16 ((BitVec.ofInt 16 (a : Int) &&& BitVec.ofInt 16 (b : Int)).toNat : Int) = _
  rw [BitVec.toNat_and, of16 ha, of16 hb]
  exact wrap16 (Nat.lt_of_le_of_lt Nat.and_le_left ha)
theorem or16 {a b : Nat} (ha : a < 65536) (hb : b < 65536) : bitF .or .u16 (a : Int) (b : Int) = ((a ||| b : Nat) : Int) := by
  show IntKind.wrap .u16 ((BitVec.ofInt 16 (a : Int) ||| BitVec.ofInt 16 (b : Int)).toNat : Int) = _
  rw [BitVec.toNat_or, of16 ha, of16 hb]
  exact wrap16 (Nat.or_lt_two_pow (n := 16) ha hb)
theorem xor16 {a b : Nat} (ha : a < 65536) (hb : b < 65536) : bitF .xor .u16 (a : Int) (b : Int) = ((a ^^^ b : Nat) : Int) := by
  show IntKind.wrap .u16 ((BitVec.ofInt 16 (a : Int) ^^^ BitVec.ofInt 16 (b : Int)).toNat : Int) = _
  rw [BitVec.toNat_xor, of16 ha, of16 hb]
  exact wrap16 (Nat.xor_lt_two_pow (n := 16) ha hb)
theorem inR16 {a : Int} (h : 0 ≤ a ∧ a < 65536) : InR .u16 a := by
  show (0 : Int) ≤ a ∧ a ≤ 65535
  omega
structure Wire where
  bits : Nat
  taps : Nat
  top : Nat
structure Wire.Ok (w : Wire) : Prop where
  top : w.top < 15
  bits : w.bits < 2 ^ (w.top + 1)
  taps : w.taps < 65536
def wireC (w : Wire) : List C := [.s (.int .u16 w.bits), .s (.int .u16 w.taps), .s (.int .i64 w.top)]
def parF : Nat → Nat → Nat → Nat
  | 0, _, f => f
  | j + 1, n, f => if n = 0 then f else parF j (n &&& (n - 1)) (f ^^^ 1)
def parS (n : Nat) : Nat := parF n n 0
def stepS (w : Wire) : Wire := { w with bits := (w.bits / 2) ||| (parS (w.bits &&& w.taps) * 2 ^ w.top) }
def outS (w : Wire) : Nat := w.bits % 2
theorem and_pred_lt {n : Nat} (h : n ≠ 0) : n &&& (n - 1) < n := Nat.lt_of_le_of_lt Nat.and_le_right (by omega)
theorem parF_fuel : ∀ (j k n f : Nat), n ≤ j → n ≤ k → parF j n f = parF k n f := by
  intro j
  induction j with
  | zero =>
    intro k n f h1 h2
    have : n = 0 := by omega
    subst this
    cases k <;> simp [parF]
  | succ j ih =>
    intro k n f h1 h2
    cases k with
    | zero =>
      have : n = 0 := by omega
      subst this
      simp [parF]
    | succ k =>
      simp only [parF]
      by_cases hn : n = 0
      · rw [if_pos hn, if_pos hn]
      · rw [if_neg hn, if_neg hn]
        have := and_pred_lt hn
        exact ih k _ _ (by omega) (by omega)
theorem parF_le : ∀ (j n f : Nat), f ≤ 1 → parF j n f ≤ 1
  | 0, _, f, h => h
  | j + 1, n, f, h => by
    simp only [parF]
    split
    · exact h
    · refine parF_le j _ _ ?_
      have : f = 0 ∨ f = 1 := by omega
      rcases this with rfl | rfl <;> decide
theorem step_c (w : Wire) (hw : w.Ok) : FC Try.prog 109 [.ptr 100000 0] [(100000, .box (wireC w))] (enc (outS w : Int)) [(100000, .box (wireC (stepS w)))] := by
  obtain ⟨b, tp, top⟩ := w
  obtain ⟨h1, h2, h3⟩ := hw
  simp only at h1 h2 h3
  have hb : b < 65536 := Nat.lt_of_lt_of_le h2 (Nat.pow_le_pow_right (by decide) (by omega : top + 1 ≤ 16))
  have hone : ((1 : Nat) : Int) = 1 := rfl
  have hand1 := and16 hb (show 1 < 65536 by decide)
  have hand2 := and16 hb h3
  refine fc_introC [] is109 (by simp) (by simp [bX]) (by simp [ay, aL, cg]) (by simp [ay, aL, cg]) (by simp [aj, lk]) (fun cx _ _ _ => S_run [] 800 ?_)
  simp only [hone] at hand1
  delta c109
  simp (maxSteps := 4000000) -implicitDefEqProofs only [rv109, wireC, hand1, hand2, InR, Ent.of0, Ent.of1, Ent.of2, Ent.of3, V, bO, bt, bE, cb, cN, cU, gt, lk, cJ, bQ, cm, cr, bM, cn, cn.subCs, cT, bg, a9, cg, az, a3, bn, aJ, bz, bo, aY, bF, ax, cu, cO, c6, aq, aX, bR, cI, cj, cY, cR, aV, an, bY, bj, zC, argS, bG, cH, cP, cW, ah, aw, aW, aA, cd, leC, ca, bP, cG, cS, bU, ay, aL, cK, au, cp, a7, a7.viewCs, bH, bH.flatCs, aR, aR.LensOks, Value.oneCell', ↓reduceIte, ite_true, ite_false, if_true, if_false, Nat.reduceAdd, Nat.reduceSub, Nat.reduceMul, Nat.reduceEqDiff, Nat.reduceLT, Nat.reduceLeDiff, reduceCtorEq, Int.reduceToNat, forall_const, implies_true, bm, Ent.mk3, bC, bu, bw, a5, a6, aZ, bK, bB, bI, bJ, bk, cD, bD, cQ, rn, bT, bT.renCs, aT, aU, aN, aN.viewOks, aI, a8, a8.flatBs, aG, ag, aH, ar, aQ, bv, bv.keysBs, aE, am, bp, bS, be, cC, af, af.passKs, aB, aO, ae, ae.lendKs, bV, cq, bW, bq, setInn, ai, cZ, cL, aC, bf, bZ, cc, aD, aP, Glob.gl, av, co, bL, b0, br, aj, bX, cM, cB, cV, bN, ap, ap.ptrOnlys, ak, aK, cz, aM, a4, bA, ce, aF, bh, cF, Nat.reduceBEq, undef]
  have hle : b &&& 1 ≤ 1 := Nat.and_le_right
  refine ⟨by omega, ?_⟩
  have hr : b &&& tp < 65536 := Nat.lt_of_le_of_lt Nat.and_le_left hb
  refine S_loopU (α := Nat × Nat) (fun v => [(5, .s (.int .u16 (v.1 : Int))), (4, .s (.int .u16 (v.2 : Int)))]) (fun _ => []) (fun v => parF v.1 v.1 v.2 = parS (b &&& tp) ∧ v.1 < 65536 ∧ v.2 ≤ 1) (fun v => v.1) (b &&& tp, 0) ⟨rfl, hr, by omega⟩ ?_ (fun v hv => S_run [] 800 ?_)
  · simp only [V, bO, bt, bE, cb, cN, cU, gt, lk, cJ, bQ, cm, cr, bM, cn, cn.subCs, cT, bg, a9, cg, az, a3, bn, aJ, bz, bo, aY, bF, ax, cu, cO, c6, aq, aX, bR, cI, cj, cY, cR, aV, an, bY, bj, zC, argS, bG, cH, cP, cW, ah, aw, aW, aA, cd, leC, ca, bP, cG, cS, bU, ay, aL, cK, au, cp, a7, a7.viewCs, bH, bH.flatCs, aR, aR.LensOks, Value.oneCell', ↓reduceIte, ite_true, ite_false, if_true, if_false, Nat.reduceAdd, Nat.reduceSub, Nat.reduceMul, Nat.reduceEqDiff, Nat.reduceLT, Nat.reduceLeDiff, reduceCtorEq, Int.reduceToNat, forall_const, implies_true, bm, Ent.mk3, bC, bu, bw, a5, a6, aZ, bK, bB, bI, bJ, bk, cD, bD, cQ, rn, bT, bT.renCs, aT, aU, aN, aN.viewOks, aI, a8, a8.flatBs, aG, ag, aH, ar, aQ, bv, bv.keysBs, aE, am, bp, bS, be, cC, af, af.passKs, aB, aO, ae, ae.lendKs, bV, cq, bW, bq, setInn, ai, cZ, cL, aC, bf, bZ, cc, aD, aP, Glob.gl, av, co, bL, b0, br, aj, bX, cM, cB, cV, bN, ap, ap.ptrOnlys, ak, aK, cz, aM, a4, bA, ce, aF, bh, cF, Nat.reduceBEq, undef]; simp
  · obtain ⟨n, f⟩ := v
    obtain ⟨hv1, hv2, hv3⟩ := hv
    simp only at hv1 hv2 hv3
    have hx : bitF .xor .u16 (f : Int) 1 = ((f ^^^ 1 : Nat) : Int) := xor16 (by omega) (show 1 < 65536 by decide)
    have hf : f = 0 ∨ f = 1 := by omega
    by_cases hn : n = 0
    · have hn' : ((n : Int) = 0) := by omega
      have hp : parS (b &&& tp) = f := by rw [← hv1, hn]; rfl
      have hsh : min (1 : Nat) 16 = 1 := rfl
      have hmt : min (top : Nat) 16 = top := Nat.min_eq_left (by omega)
      have hpow : 2 ^ top ≤ 2 ^ 14 := Nat.pow_le_pow_right (by decide) (by omega)
      have hlt : f * 2 ^ top < 65536 := by rcases hf with rfl | rfl <;> omega
      have hor := or16 (a := b / 2) (b := f * 2 ^ top) (by omega) hlt
      have hdiv : (b : Int).fdiv (2 ^ 1) = ((b / 2 : Nat) : Int) := by
        rw [Int.fdiv_eq_ediv_of_nonneg _ (by decide)]; omega
      have hmul : (f : Int) * 2 ^ top = ((f * 2 ^ top : Nat) : Int) := by push_cast; rfl
      delta c109l1
      simp (maxSteps := 4000000) -implicitDefEqProofs only [hn', rv109, IntKind.bits, hsh, hmt, hdiv, hmul, hor, Ent.of0, Ent.of1, Ent.of2, Ent.of3, V, bO, bt, bE, cb, cN, cU, gt, lk, cJ, bQ, cm, cr, bM, cn, cn.subCs, cT, bg, a9, cg, az, a3, bn, aJ, bz, bo, aY, bF, ax, cu, cO, c6, aq, aX, bR, cI, cj, cY, cR, aV, an, bY, bj, zC, argS, bG, cH, cP, cW, ah, aw, aW, aA, cd, leC, ca, bP, cG, cS, bU, ay, aL, cK, au, cp, a7, a7.viewCs, bH, bH.flatCs, aR, aR.LensOks, Value.oneCell', ↓reduceIte, ite_true, ite_false, if_true, if_false, Nat.reduceAdd, Nat.reduceSub, Nat.reduceMul, Nat.reduceEqDiff, Nat.reduceLT, Nat.reduceLeDiff, reduceCtorEq, Int.reduceToNat, forall_const, implies_true, bm, Ent.mk3, bC, bu, bw, a5, a6, aZ, bK, bB, bI, bJ, bk, cD, bD, cQ, rn, bT, bT.renCs, aT, aU, aN, aN.viewOks, aI, a8, a8.flatBs, aG, ag, aH, ar, aQ, bv, bv.keysBs, aE, am, bp, bS, be, cC, af, af.passKs, aB, aO, ae, ae.lendKs, bV, cq, bW, bq, setInn, ai, cZ, cL, aC, bf, bZ, cc, aD, aP, Glob.gl, av, co, bL, b0, br, aj, bX, cM, cB, cV, bN, ap, ap.ptrOnlys, ak, aK, cz, aM, a4, bA, ce, aF, bh, cF, Nat.reduceBEq, undef]
      simp only [outS, stepS, hp]
      exact ⟨by omega, ⟨by omega, inR16 (by omega)⟩, by rw [Nat.and_one_is_mod], trivial⟩
    · have hn' : ¬ ((n : Int) = 0) := by omega
      delta c109l1
      simp (maxSteps := 4000000) -implicitDefEqProofs only [hn', hx, Ent.of0, Ent.of1, Ent.of2, Ent.of3, V, bO, bt, bE, cb, cN, cU, gt, lk, cJ, bQ, cm, cr, bM, cn, cn.subCs, cT, bg, a9, cg, az, a3, bn, aJ, bz, bo, aY, bF, ax, cu, cO, c6, aq, aX, bR, cI, cj, cY, cR, aV, an, bY, bj, zC, argS, bG, cH, cP, cW, ah, aw, aW, aA, cd, leC, ca, bP, cG, cS, bU, ay, aL, cK, au, cp, a7, a7.viewCs, bH, bH.flatCs, aR, aR.LensOks, Value.oneCell', ↓reduceIte, ite_true, ite_false, if_true, if_false, Nat.reduceAdd, Nat.reduceSub, Nat.reduceMul, Nat.reduceEqDiff, Nat.reduceLT, Nat.reduceLeDiff, reduceCtorEq, Int.reduceToNat, forall_const, implies_true, bm, Ent.mk3, bC, bu, bw, a5, a6, aZ, bK, bB, bI, bJ, bk, cD, bD, cQ, rn, bT, bT.renCs, aT, aU, aN, aN.viewOks, aI, a8, a8.flatBs, aG, ag, aH, ar, aQ, bv, bv.keysBs, aE, am, bp, bS, be, cC, af, af.passKs, aB, aO, ae, ae.lendKs, bV, cq, bW, bq, setInn, ai, cZ, cL, aC, bf, bZ, cc, aD, aP, Glob.gl, av, co, bL, b0, br, aj, bX, cM, cB, cV, bN, ap, ap.ptrOnlys, ak, aK, cz, aM, a4, bA, ce, aF, bh, cF, Nat.reduceBEq, undef]
      have hpl := and_pred_lt hn
      have hand : bitF .and .u16 (n : Int) ((n : Int) - 1) = ((n &&& (n - 1) : Nat) : Int) := by
        have := and16 hv2 (show n - 1 < 65536 by omega)
        rwa [show ((n - 1 : Nat) : Int) = (n : Int) - 1 by omega] at this
      refine ⟨inR16 (by omega), (n &&& (n - 1), f ^^^ 1), ⟨?_, by omega, ?_⟩, hpl, rfl, hand⟩
      · rw [← hv1]
        obtain ⟨m, rfl⟩ : ∃ m, n = m + 1 := ⟨n - 1, by omega⟩
        simp only [parF]
        exact parF_fuel _ _ _ _ (Nat.le_refl _) (by omega)
      · rcases hf with rfl | rfl
        · show (0 ^^^ 1 : Nat) ≤ 1; decide
        · show (1 ^^^ 1 : Nat) ≤ 1; decide
theorem stepS_ok {w : Wire} (hw : w.Ok) : (stepS w).Ok := by
  obtain ⟨h1, h2, h3⟩ := hw
  refine ⟨h1, ?_, h3⟩
  show (w.bits / 2) ||| (parS (w.bits &&& w.taps) * 2 ^ w.top) < 2 ^ (w.top + 1)
  have e : 2 ^ (w.top + 1) = 2 * 2 ^ w.top := by rw [Nat.pow_succ]; omega
  refine Nat.or_lt_two_pow (by omega) ?_
  have := parF_le (w.bits &&& w.taps) (w.bits &&& w.taps) 0 (by omega)
  have hp : parS (w.bits &&& w.taps) ≤ 1 := this
  have hpos : 0 < 2 ^ w.top := Nat.pow_pos (by decide)
  have := Nat.mul_le_mul_right (2 ^ w.top) hp
  omega
def wireI (b t p : Int) : Wire := ⟨b.toNat, t.toNat, p.toNat⟩
def e109 : Ent Try.prog where
  id := 109
  sp := fun args chs => match args, chs with
    | [.ptr k o], [(k', .box [.s (.int .u16 b), .s (.int .u16 t), .s (.int .i64 p)])] => some ((k = 100000 ∧ o = 0 ∧ k' = 100000) ∧ (0 ≤ b ∧ 0 ≤ t ∧ 0 ≤ p) ∧ (wireI b t p).Ok, .s (.int .i64 (outS (wireI b t p))), [(100000, .box [.s (.int .u16 ((stepS (wireI b t p)).bits)), .s (.int .u16 t), .s (.int .i64 p)])], [])
    | _, _ => none
  ok := by
    intro args chs p r chs' nk hs hp
    split at hs
    · simp only [Option.some.injEq, Prod.mk.injEq] at hs
      obtain ⟨rfl, rfl, rfl, rfl⟩ := hs
      obtain ⟨⟨rfl, rfl, rfl⟩, ⟨h1, h2, h3⟩, hw⟩ := hp
      rename_i b t p
      have hc : wireC (wireI b t p) = [.s (.int .u16 b), .s (.int .u16 t), .s (.int .i64 p)] := by
        simp only [wireC, wireI, Int.toNat_of_nonneg h1, Int.toNat_of_nonneg h2, Int.toNat_of_nonneg h3]
      have hc' : wireC (stepS (wireI b t p)) = [.s (.int .u16 ((stepS (wireI b t p)).bits)), .s (.int .u16 t), .s (.int .i64 p)] := by
        simp only [wireC, stepS, wireI, Int.toNat_of_nonneg h2, Int.toNat_of_nonneg h3]
      have := step_c (wireI b t p) hw
      rw [hc, hc'] at this
      refine ⟨this, ⟨fun k c h => ?_, fun k cs h => ?_, trivial, fun k c h => ?_⟩⟩
      · simp only [List.mem_singleton, Prod.mk.injEq] at h; exact .inr ⟨_, by rw [h.1]; exact List.mem_singleton.2 rfl⟩
      · simp only [List.mem_singleton, Prod.mk.injEq] at h; exact ⟨_, by rw [h.1]; exact List.mem_singleton.2 rfl⟩
      · simp only [List.mem_singleton, Prod.mk.injEq] at h; rw [h.2]; exact ⟨trivial, trivial, trivial, trivial⟩
    · cases hs
end Go.Proofs.Ytfgpbmjmoobcnaa
end
section
open Go Go.Am
open Go.Am.Dat (cells)
namespace Go.Proofs.Ytfgpbmjmoobcnaa
set_option maxHeartbeats 4000000
set_option linter.unusedSimpArgs false
def runW (w : Wire) : Nat → Wire
  | 0 => w
  | i + 1 => stepS (runW w i)
theorem runW_ok {w : Wire} (h : w.Ok) : ∀ i, (runW w i).Ok
  | 0 => h
  | i + 1 => stepS_ok (runW_ok h i)
theorem runW_same (w : Wire) : ∀ i, (runW w i).taps = w.taps ∧ (runW w i).top = w.top
  | 0 => ⟨rfl, rfl⟩
  | i + 1 => runW_same w i
def outsW (w : Wire) (i : Nat) : List C := [.s (.int .i64 (outS (runW w i)))]
theorem given_c (w : Wire) (hw : w.Ok) (N : Nat) (hN : 0 < N) : ItC Try.prog 125 [.agg (wireC w)] [] [] 100000 (outsW w) N false := by
  intro l R Rf hy
  refine fco_intro [] is125 (by simp) (by simp) (fun o ho k cs hm => by simp at ho; rw [ho] at hm; simp at hm) (fun cx _ _ _ => S_run [] 800 ?_)
  delta c125
  simp (maxSteps := 4000000) -implicitDefEqProofs only [rv125, wireC, List.append_nil, Ent.of0, Ent.of1, Ent.of2, Ent.of3, V, bO, bt, bE, cb, cN, cU, gt, lk, cJ, bQ, cm, cr, bM, cn, cn.subCs, cT, bg, a9, cg, az, a3, bn, aJ, bz, bo, aY, bF, ax, cu, cO, c6, aq, aX, bR, cI, cj, cY, cR, aV, an, bY, bj, zC, argS, bG, cH, cP, cW, ah, aw, aW, aA, cd, leC, ca, bP, cG, cS, bU, ay, aL, cK, au, cp, a7, a7.viewCs, bH, bH.flatCs, aR, aR.LensOks, Value.oneCell', ↓reduceIte, ite_true, ite_false, if_true, if_false, Nat.reduceAdd, Nat.reduceSub, Nat.reduceMul, Nat.reduceEqDiff, Nat.reduceLT, Nat.reduceLeDiff, reduceCtorEq, Int.reduceToNat, forall_const, implies_true, bm, Ent.mk3, bC, bu, bw, a5, a6, aZ, bK, bB, bI, bJ, bk, cD, bD, cQ, rn, bT, bT.renCs, aT, aU, aN, aN.viewOks, aI, a8, a8.flatBs, aG, ag, aH, ar, aQ, bv, bv.keysBs, aE, am, bp, bS, be, cC, af, af.passKs, aB, aO, ae, ae.lendKs, bV, cq, bW, bq, setInn, ai, cZ, cL, aC, bf, bZ, cc, aD, aP, Glob.gl, av, co, bL, b0, br, aj, bX, cM, cB, cV, bN, ap, ap.ptrOnlys, ak, aK, cz, aM, a4, bA, ce, aF, bh, cF, Nat.reduceBEq, undef]
  refine S_loopU (α := Nat) (fun i => []) (fun i => [(2, .box (wireC (runW w i))), (100000, .res (R i))]) (fun i => i < N) (fun i => N - i) 0 hN ?_ (fun i hi => S_run [e109] 800 ?_)
  · simp (maxSteps := 4000000) -implicitDefEqProofs only [wireC, runW, Ent.of0, Ent.of1, Ent.of2, Ent.of3, V, bO, bt, bE, cb, cN, cU, gt, lk, cJ, bQ, cm, cr, bM, cn, cn.subCs, cT, bg, a9, cg, az, a3, bn, aJ, bz, bo, aY, bF, ax, cu, cO, c6, aq, aX, bR, cI, cj, cY, cR, aV, an, bY, bj, zC, argS, bG, cH, cP, cW, ah, aw, aW, aA, cd, leC, ca, bP, cG, cS, bU, ay, aL, cK, au, cp, a7, a7.viewCs, bH, bH.flatCs, aR, aR.LensOks, Value.oneCell', ↓reduceIte, ite_true, ite_false, if_true, if_false, Nat.reduceAdd, Nat.reduceSub, Nat.reduceMul, Nat.reduceEqDiff, Nat.reduceLT, Nat.reduceLeDiff, reduceCtorEq, Int.reduceToNat, forall_const, implies_true, bm, Ent.mk3, bC, bu, bw, a5, a6, aZ, bK, bB, bI, bJ, bk, cD, bD, cQ, rn, bT, bT.renCs, aT, aU, aN, aN.viewOks, aI, a8, a8.flatBs, aG, ag, aH, ar, aQ, bv, bv.keysBs, aE, am, bp, bS, be, cC, af, af.passKs, aB, aO, ae, ae.lendKs, bV, cq, bW, bq, setInn, ai, cZ, cL, aC, bf, bZ, cc, aD, aP, Glob.gl, av, co, bL, b0, br, aj, bX, cM, cB, cV, bN, ap, ap.ptrOnlys, ak, aK, cz, aM, a4, bA, ce, aF, bh, cF, Nat.reduceBEq, undef]
  · have hok := runW_ok hw i
    have heta : ({ bits := (runW w i).bits, taps := (runW w i).taps, top := (runW w i).top } : Wire) = runW w i := rfl
    delta c125l1
    simp (maxSteps := 4000000) -implicitDefEqProofs only [rv125, wireC, e109, wireI, heta, Ent.of0, Ent.of1, Ent.of2, Ent.of3, V, bO, bt, bE, cb, cN, cU, gt, lk, cJ, bQ, cm, cr, bM, cn, cn.subCs, cT, bg, a9, cg, az, a3, bn, aJ, bz, bo, aY, bF, ax, cu, cO, c6, aq, aX, bR, cI, cj, cY, cR, aV, an, bY, bj, zC, argS, bG, cH, cP, cW, ah, aw, aW, aA, cd, leC, ca, bP, cG, cS, bU, ay, aL, cK, au, cp, a7, a7.viewCs, bH, bH.flatCs, aR, aR.LensOks, Value.oneCell', ↓reduceIte, ite_true, ite_false, if_true, if_false, Nat.reduceAdd, Nat.reduceSub, Nat.reduceMul, Nat.reduceEqDiff, Nat.reduceLT, Nat.reduceLeDiff, reduceCtorEq, Int.reduceToNat, forall_const, implies_true, bm, Ent.mk3, bC, bu, bw, a5, a6, aZ, bK, bB, bI, bJ, bk, cD, bD, cQ, rn, bT, bT.renCs, aT, aU, aN, aN.viewOks, aI, a8, a8.flatBs, aG, ag, aH, ar, aQ, bv, bv.keysBs, aE, am, bp, bS, be, cC, af, af.passKs, aB, aO, ae, ae.lendKs, bV, cq, bW, bq, setInn, ai, cZ, cL, aC, bf, bZ, cc, aD, aP, Glob.gl, av, co, bL, b0, br, aj, bX, cM, cB, cV, bN, ap, ap.ptrOnlys, ak, aK, cz, aM, a4, bA, ce, aF, bh, cF, Nat.reduceBEq, undef]
    refine ⟨⟨by omega, hok⟩, D_outs rfl (OpM.yield (l := l) (kr := 100000) (xs := outsW w i) (R := R i) rfl rfl rfl (hy i hi)) (fun ef hef => ?_)⟩
    have hno : ef = ce [(2, .box [.s (.int .u16 (stepS (runW w i)).bits), .s (.int .u16 (runW w i).taps), .s (.int .i64 (runW w i).top)]), (100000, .res (R i))] 100000 false Rf ∨
        (i + 1 < N ∧ ef = ce [(2, .box [.s (.int .u16 (stepS (runW w i)).bits), .s (.int .u16 (runW w i).taps), .s (.int .i64 (runW w i).top)]), (100000, .res (R i))] 100000 true (R (i + 1))) := by
      by_cases h2 : i + 1 < N
      · rw [if_pos (.inl h2)] at hef
        simp only [bA, List.mem_cons, List.not_mem_nil, or_false] at hef
        rcases hef with h | h
        · exact .inr ⟨h2, h⟩
        · exact .inl h
      · rw [if_neg (by simp [h2])] at hef
        simp only [bA, List.mem_cons, List.not_mem_nil, or_false] at hef
        exact .inl hef
    have hs := runW_same w i
    rcases hno with rfl | ⟨h2, rfl⟩
    · refine D_run [] 800 ?_
      simp (maxSteps := 4000000) -implicitDefEqProofs only [rv125, Ent.of0, Ent.of1, Ent.of2, Ent.of3, V, bO, bt, bE, cb, cN, cU, gt, lk, cJ, bQ, cm, cr, bM, cn, cn.subCs, cT, bg, a9, cg, az, a3, bn, aJ, bz, bo, aY, bF, ax, cu, cO, c6, aq, aX, bR, cI, cj, cY, cR, aV, an, bY, bj, zC, argS, bG, cH, cP, cW, ah, aw, aW, aA, cd, leC, ca, bP, cG, cS, bU, ay, aL, cK, au, cp, a7, a7.viewCs, bH, bH.flatCs, aR, aR.LensOks, Value.oneCell', ↓reduceIte, ite_true, ite_false, if_true, if_false, Nat.reduceAdd, Nat.reduceSub, Nat.reduceMul, Nat.reduceEqDiff, Nat.reduceLT, Nat.reduceLeDiff, reduceCtorEq, Int.reduceToNat, forall_const, implies_true, bm, Ent.mk3, bC, bu, bw, a5, a6, aZ, bK, bB, bI, bJ, bk, cD, bD, cQ, rn, bT, bT.renCs, aT, aU, aN, aN.viewOks, aI, a8, a8.flatBs, aG, ag, aH, ar, aQ, bv, bv.keysBs, aE, am, bp, bS, be, cC, af, af.passKs, aB, aO, ae, ae.lendKs, bV, cq, bW, bq, setInn, ai, cZ, cL, aC, bf, bZ, cc, aD, aP, Glob.gl, av, co, bL, b0, br, aj, bX, cM, cB, cV, bN, ap, ap.ptrOnlys, ak, aK, cz, aM, a4, bA, ce, aF, bh, cF, Nat.reduceBEq, undef]
      exact ⟨_, List.mem_cons_self, trivial, rfl, trivial⟩
    · refine D_run [] 800 ?_
      simp (maxSteps := 4000000) -implicitDefEqProofs only [rv125, wireC, runW, Ent.of0, Ent.of1, Ent.of2, Ent.of3, V, bO, bt, bE, cb, cN, cU, gt, lk, cJ, bQ, cm, cr, bM, cn, cn.subCs, cT, bg, a9, cg, az, a3, bn, aJ, bz, bo, aY, bF, ax, cu, cO, c6, aq, aX, bR, cI, cj, cY, cR, aV, an, bY, bj, zC, argS, bG, cH, cP, cW, ah, aw, aW, aA, cd, leC, ca, bP, cG, cS, bU, ay, aL, cK, au, cp, a7, a7.viewCs, bH, bH.flatCs, aR, aR.LensOks, Value.oneCell', ↓reduceIte, ite_true, ite_false, if_true, if_false, Nat.reduceAdd, Nat.reduceSub, Nat.reduceMul, Nat.reduceEqDiff, Nat.reduceLT, Nat.reduceLeDiff, reduceCtorEq, Int.reduceToNat, forall_const, implies_true, bm, Ent.mk3, bC, bu, bw, a5, a6, aZ, bK, bB, bI, bJ, bk, cD, bD, cQ, rn, bT, bT.renCs, aT, aU, aN, aN.viewOks, aI, a8, a8.flatBs, aG, ag, aH, ar, aQ, bv, bv.keysBs, aE, am, bp, bS, be, cC, af, af.passKs, aB, aO, ae, ae.lendKs, bV, cq, bW, bq, setInn, ai, cZ, cL, aC, bf, bZ, cc, aD, aP, Glob.gl, av, co, bL, b0, br, aj, bX, cM, cB, cV, bN, ap, ap.ptrOnlys, ak, aK, cz, aM, a4, bA, ce, aF, bh, cF, Nat.reduceBEq, undef]
      exact ⟨i + 1, h2, by omega, rfl, rfl⟩
end Go.Proofs.Ytfgpbmjmoobcnaa
end
section
open Go Go.Am
open Go.Am.Dat (cells)
namespace Go.Proofs.Ytfgpbmjmoobcnaa
set_option maxHeartbeats 4000000
set_option linter.unusedSimpArgs false
def idxOfI (l : List Int) (p : Int → Bool) : Int := match l.findIdx? p with | some i => (i : Int) | none => -1
theorem IndexFuncI_c (f : FuncId) (p : Int → Bool) (hf : ∀ g, FC Try.prog f [enc g] [] (enc (p g)) []) (l : List Int) : FC Try.prog 143 [enc l, .fn (.func f) [] []] [] (enc (idxOfI l p)) [] := by
  refine fc_intro' is143 (by simp) (fun cx hl => S_run [] 800 ?_)
  simp only [V, bO, bt, bE, cb, cN, cU, gt, lk, cJ, bQ, cm, cr, bM, cn, cn.subCs, cT, bg, a9, cg, az, a3, bn, aJ, bz, bo, aY, bF, ax, cu, cO, c6, aq, aX, bR, cI, cj, cY, cR, aV, an, bY, bj, zC, argS, bG, cH, cP, cW, ah, aw, aW, aA, cd, leC, ca, bP, cG, cS, bU, ay, aL, cK, au, cp, a7, a7.viewCs, bH, bH.flatCs, aR, aR.LensOks, Value.oneCell', ↓reduceIte, ite_true, ite_false, if_true, if_false, Nat.reduceAdd, Nat.reduceSub, Nat.reduceMul, Nat.reduceEqDiff, Nat.reduceLT, Nat.reduceLeDiff, reduceCtorEq, Int.reduceToNat, forall_const, implies_true, bm, Ent.mk3, bC, bu, bw, a5, a6, aZ, bK, bB, bI, bJ, bk, cD, bD, cQ, rn, bT, bT.renCs, aT, aU, aN, aN.viewOks, aI, a8, a8.flatBs, aG, ag, aH, ar, aQ, bv, bv.keysBs, aE, am, bp, bS, be, cC, af, af.passKs, aB, aO, ae, ae.lendKs, bV, cq, bW, bq, setInn, ai, cZ, cL, aC, bf, bZ, cc, aD, aP, Glob.gl, av, co, bL, b0, br, aj, bX, cM, cB, cV, bN, ap, ap.ptrOnlys, ak, aK, cz, aM, a4, bA, ce, aF, bh, cF, Nat.reduceBEq, undef] at hl
  have hlen := hl.list
  delta c143
  simp (maxSteps := 4000000) -implicitDefEqProofs only [rv143, Ent.of0, Ent.of1, Ent.of2, Ent.of3, V, bO, bt, bE, cb, cN, cU, gt, lk, cJ, bQ, cm, cr, bM, cn, cn.subCs, cT, bg, a9, cg, az, a3, bn, aJ, bz, bo, aY, bF, ax, cu, cO, c6, aq, aX, bR, cI, cj, cY, cR, aV, an, bY, bj, zC, argS, bG, cH, cP, cW, ah, aw, aW, aA, cd, leC, ca, bP, cG, cS, bU, ay, aL, cK, au, cp, a7, a7.viewCs, bH, bH.flatCs, aR, aR.LensOks, Value.oneCell', ↓reduceIte, ite_true, ite_false, if_true, if_false, Nat.reduceAdd, Nat.reduceSub, Nat.reduceMul, Nat.reduceEqDiff, Nat.reduceLT, Nat.reduceLeDiff, reduceCtorEq, Int.reduceToNat, forall_const, implies_true, bm, Ent.mk3, bC, bu, bw, a5, a6, aZ, bK, bB, bI, bJ, bk, cD, bD, cQ, rn, bT, bT.renCs, aT, aU, aN, aN.viewOks, aI, a8, a8.flatBs, aG, ag, aH, ar, aQ, bv, bv.keysBs, aE, am, bp, bS, be, cC, af, af.passKs, aB, aO, ae, ae.lendKs, bV, cq, bW, bq, setInn, ai, cZ, cL, aC, bf, bZ, cc, aD, aP, Glob.gl, av, co, bL, b0, br, aj, bX, cM, cB, cV, bN, ap, ap.ptrOnlys, ak, aK, cz, aM, a4, bA, ce, aF, bh, cF, Nat.reduceBEq, undef]
  refine S_for l.length (fun i => ⟨[(0, enc l), (1, .fn (.func f) [] []), (7, .s (.int .i64 l.length)), (8, .s (.int .i64 i))], []⟩) (fun i => ∀ j, j < i → p (l.getD j 0) = false) (by omega) ?_
    (fun i hi hv => S_run [.of1 f (fun _ => True) (fun g => enc (p g)) (fun _ => trivial) (fun g _ => hf g)] 800 ?_)
  · simp (maxSteps := 4000000) -implicitDefEqProofs only [Ent.of0, Ent.of1, Ent.of2, Ent.of3, V, bO, bt, bE, cb, cN, cU, gt, lk, cJ, bQ, cm, cr, bM, cn, cn.subCs, cT, bg, a9, cg, az, a3, bn, aJ, bz, bo, aY, bF, ax, cu, cO, c6, aq, aX, bR, cI, cj, cY, cR, aV, an, bY, bj, zC, argS, bG, cH, cP, cW, ah, aw, aW, aA, cd, leC, ca, bP, cG, cS, bU, ay, aL, cK, au, cp, a7, a7.viewCs, bH, bH.flatCs, aR, aR.LensOks, Value.oneCell', ↓reduceIte, ite_true, ite_false, if_true, if_false, Nat.reduceAdd, Nat.reduceSub, Nat.reduceMul, Nat.reduceEqDiff, Nat.reduceLT, Nat.reduceLeDiff, reduceCtorEq, Int.reduceToNat, forall_const, implies_true, bm, Ent.mk3, bC, bu, bw, a5, a6, aZ, bK, bB, bI, bJ, bk, cD, bD, cQ, rn, bT, bT.renCs, aT, aU, aN, aN.viewOks, aI, a8, a8.flatBs, aG, ag, aH, ar, aQ, bv, bv.keysBs, aE, am, bp, bS, be, cC, af, af.passKs, aB, aO, ae, ae.lendKs, bV, cq, bW, bq, setInn, ai, cZ, cL, aC, bf, bZ, cc, aD, aP, Glob.gl, av, co, bL, b0, br, aj, bX, cM, cB, cV, bN, ap, ap.ptrOnlys, ak, aK, cz, aM, a4, bA, ce, aF, bh, cF, Nat.reduceBEq, undef]; simp
  · delta c143l1
    simp (maxSteps := 4000000) -implicitDefEqProofs only [InR, Ent.of0, Ent.of1, Ent.of2, Ent.of3, V, bO, bt, bE, cb, cN, cU, gt, lk, cJ, bQ, cm, cr, bM, cn, cn.subCs, cT, bg, a9, cg, az, a3, bn, aJ, bz, bo, aY, bF, ax, cu, cO, c6, aq, aX, bR, cI, cj, cY, cR, aV, an, bY, bj, zC, argS, bG, cH, cP, cW, ah, aw, aW, aA, cd, leC, ca, bP, cG, cS, bU, ay, aL, cK, au, cp, a7, a7.viewCs, bH, bH.flatCs, aR, aR.LensOks, Value.oneCell', ↓reduceIte, ite_true, ite_false, if_true, if_false, Nat.reduceAdd, Nat.reduceSub, Nat.reduceMul, Nat.reduceEqDiff, Nat.reduceLT, Nat.reduceLeDiff, reduceCtorEq, Int.reduceToNat, forall_const, implies_true, bm, Ent.mk3, bC, bu, bw, a5, a6, aZ, bK, bB, bI, bJ, bk, cD, bD, cQ, rn, bT, bT.renCs, aT, aU, aN, aN.viewOks, aI, a8, a8.flatBs, aG, ag, aH, ar, aQ, bv, bv.keysBs, aE, am, bp, bS, be, cC, af, af.passKs, aB, aO, ae, ae.lendKs, bV, cq, bW, bq, setInn, ai, cZ, cL, aC, bf, bZ, cc, aD, aP, Glob.gl, av, co, bL, b0, br, aj, bX, cM, cB, cV, bN, ap, ap.ptrOnlys, ak, aK, cz, aM, a4, bA, ce, aF, bh, cF, Nat.reduceBEq, undef]
    by_cases h : i < l.length
    · rw [if_pos (by omega)]
      refine ⟨by omega, ?_⟩
      cases hp : p (l.getD i 0) with
      | true =>
        simp only [if_true]
        have : l.findIdx? p = some i := by
          rw [List.findIdx?_eq_some_iff_getElem]
          rw [List.getD_eq_getElem?_getD, List.getElem?_eq_getElem h] at hp
          refine ⟨h, hp, fun j hj => ?_⟩
          have := hv j hj
          rw [List.getD_eq_getElem?_getD, List.getElem?_eq_getElem (by omega)] at this
          simpa using this
        simp [idxOfI, this]
      | false =>
        simp only [Bool.false_eq_true, if_false]
        refine ⟨by omega, h, fun j hj => ?_, by omega⟩
        by_cases hj2 : j = i
        · rw [hj2]; exact hp
        · exact hv j (by omega)
    · rw [if_neg (by omega)]
      have : l.findIdx? p = none := by
        rw [List.findIdx?_eq_none_iff]
        intro x hx
        obtain ⟨j, hj, rfl⟩ := List.getElem_of_mem hx
        have := hv j (by omega)
        rwa [List.getD_eq_getElem?_getD, List.getElem?_eq_getElem hj] at this
      simp [idxOfI, this]
theorem ContainsFuncI_c (f : FuncId) (p : Int → Bool) (hf : ∀ g, FC Try.prog f [enc g] [] (enc (p g)) []) (l : List Int) : FC Try.prog 132 [enc l, .fn (.func f) [] []] [] (enc (l.any p)) [] := by
  let e : Ent Try.prog := .mk3 143 (fun args chs => match args, chs with | [x, .fn (.func g) [] []], [] => if g = f then (decV x).bind fun l => some (True, enc (idxOfI l p), [], []) else none | _, _ => none) (by
    intro args chs q r chs' nk h1 h2
    split at h1
    · split at h1
      · rename_i hg; subst hg
        simp only [Option.bind_eq_some_iff, Option.some.injEq, Prod.mk.injEq] at h1
        obtain ⟨a, ha, rfl, rfl, rfl, rfl⟩ := h1
        exact ⟨(IndexFuncI_c _ p hf a).le (args' := [_, _]) ⟨decV_ok ha, leC1_refl _, trivial⟩, .plain trivial⟩
      · cases h1
    · cases h1)
  refine fc_intro' is132 (by simp) (fun cx hl => S_run [e] 800 ?_)
  delta c132
  simp (maxSteps := 4000000) -implicitDefEqProofs only [rv132, e, Ent.of0, Ent.of1, Ent.of2, Ent.of3, V, bO, bt, bE, cb, cN, cU, gt, lk, cJ, bQ, cm, cr, bM, cn, cn.subCs, cT, bg, a9, cg, az, a3, bn, aJ, bz, bo, aY, bF, ax, cu, cO, c6, aq, aX, bR, cI, cj, cY, cR, aV, an, bY, bj, zC, argS, bG, cH, cP, cW, ah, aw, aW, aA, cd, leC, ca, bP, cG, cS, bU, ay, aL, cK, au, cp, a7, a7.viewCs, bH, bH.flatCs, aR, aR.LensOks, Value.oneCell', ↓reduceIte, ite_true, ite_false, if_true, if_false, Nat.reduceAdd, Nat.reduceSub, Nat.reduceMul, Nat.reduceEqDiff, Nat.reduceLT, Nat.reduceLeDiff, reduceCtorEq, Int.reduceToNat, forall_const, implies_true, bm, Ent.mk3, bC, bu, bw, a5, a6, aZ, bK, bB, bI, bJ, bk, cD, bD, cQ, rn, bT, bT.renCs, aT, aU, aN, aN.viewOks, aI, a8, a8.flatBs, aG, ag, aH, ar, aQ, bv, bv.keysBs, aE, am, bp, bS, be, cC, af, af.passKs, aB, aO, ae, ae.lendKs, bV, cq, bW, bq, setInn, ai, cZ, cL, aC, bf, bZ, cc, aD, aP, Glob.gl, av, co, bL, b0, br, aj, bX, cM, cB, cV, bN, ap, ap.ptrOnlys, ak, aK, cz, aM, a4, bA, ce, aF, bh, cF, Nat.reduceBEq, undef]
  unfold idxOfI
  cases hq : l.findIdx? p with
  | none =>
    rw [List.findIdx?_eq_none_iff] at hq
    have : l.any p = false := by simpa using hq
    simp [this]
  | some i =>
    rw [List.findIdx?_eq_some_iff_getElem] at hq
    obtain ⟨h1, h2, _⟩ := hq
    have : l.any p = true := List.any_eq_true.2 ⟨_, List.getElem_mem h1, h2⟩
    simp [this]
def eAnyI (f : FuncId) (p : Int → Bool) (hf : ∀ g, FC Try.prog f [enc g] [] (enc (p g)) []) : Ent Try.prog := .mk3 132 (fun args chs => match args, chs with | [x, .fn (.func g) [] []], [] => if g = f then (decV x).bind fun l => some (True, enc (List.any l p), [], []) else none | _, _ => none) (by
    intro args chs q r chs' nk h1 h2
    split at h1
    · split at h1
      · rename_i hg; subst hg
        simp only [Option.bind_eq_some_iff, Option.some.injEq, Prod.mk.injEq] at h1
        obtain ⟨a, ha, rfl, rfl, rfl, rfl⟩ := h1
        exact ⟨(ContainsFuncI_c _ p hf a).le (args' := [_, _]) ⟨decV_ok ha, leC1_refl _, trivial⟩, .plain trivial⟩
      · cases h1
    · cases h1)
def isBit (b : Int) : Bool := decide (0 ≤ b ∧ b ≤ 1)
theorem closure133_c (b : Int) : FC Try.prog 133 [enc b] [] (enc (!isBit b)) [] := by
  refine fc_intro' is133 (by simp) (fun cx hl => S_run [e103] 800 ?_)
  delta c133
  simp (maxSteps := 4000000) -implicitDefEqProofs only [rv133, e103, InR, Ent.of0, Ent.of1, Ent.of2, Ent.of3, V, bO, bt, bE, cb, cN, cU, gt, lk, cJ, bQ, cm, cr, bM, cn, cn.subCs, cT, bg, a9, cg, az, a3, bn, aJ, bz, bo, aY, bF, ax, cu, cO, c6, aq, aX, bR, cI, cj, cY, cR, aV, an, bY, bj, zC, argS, bG, cH, cP, cW, ah, aw, aW, aA, cd, leC, ca, bP, cG, cS, bU, ay, aL, cK, au, cp, a7, a7.viewCs, bH, bH.flatCs, aR, aR.LensOks, Value.oneCell', ↓reduceIte, ite_true, ite_false, if_true, if_false, Nat.reduceAdd, Nat.reduceSub, Nat.reduceMul, Nat.reduceEqDiff, Nat.reduceLT, Nat.reduceLeDiff, reduceCtorEq, Int.reduceToNat, forall_const, implies_true, bm, Ent.mk3, bC, bu, bw, a5, a6, aZ, bK, bB, bI, bJ, bk, cD, bD, cQ, rn, bT, bT.renCs, aT, aU, aN, aN.viewOks, aI, a8, a8.flatBs, aG, ag, aH, ar, aQ, bv, bv.keysBs, aE, am, bp, bS, be, cC, af, af.passKs, aB, aO, ae, ae.lendKs, bV, cq, bW, bq, setInn, ai, cZ, cL, aC, bf, bZ, cc, aD, aP, Glob.gl, av, co, bL, b0, br, aj, bX, cM, cB, cV, bN, ap, ap.ptrOnlys, ak, aK, cz, aM, a4, bA, ce, aF, bh, cF, Nat.reduceBEq, undef]
  rfl
theorem areBits_c (l : List Int) : FC Try.prog 105 [enc l] [] (enc (l.all isBit)) [] := by
  refine fc_intro' is105 (by simp) (fun cx hl => S_run [eAnyI 133 _ closure133_c] 800 ?_)
  delta c105
  simp (maxSteps := 4000000) -implicitDefEqProofs only [rv105, eAnyI, Ent.of0, Ent.of1, Ent.of2, Ent.of3, V, bO, bt, bE, cb, cN, cU, gt, lk, cJ, bQ, cm, cr, bM, cn, cn.subCs, cT, bg, a9, cg, az, a3, bn, aJ, bz, bo, aY, bF, ax, cu, cO, c6, aq, aX, bR, cI, cj, cY, cR, aV, an, bY, bj, zC, argS, bG, cH, cP, cW, ah, aw, aW, aA, cd, leC, ca, bP, cG, cS, bU, ay, aL, cK, au, cp, a7, a7.viewCs, bH, bH.flatCs, aR, aR.LensOks, Value.oneCell', ↓reduceIte, ite_true, ite_false, if_true, if_false, Nat.reduceAdd, Nat.reduceSub, Nat.reduceMul, Nat.reduceEqDiff, Nat.reduceLT, Nat.reduceLeDiff, reduceCtorEq, Int.reduceToNat, forall_const, implies_true, bm, Ent.mk3, bC, bu, bw, a5, a6, aZ, bK, bB, bI, bJ, bk, cD, bD, cQ, rn, bT, bT.renCs, aT, aU, aN, aN.viewOks, aI, a8, a8.flatBs, aG, ag, aH, ar, aQ, bv, bv.keysBs, aE, am, bp, bS, be, cC, af, af.passKs, aB, aO, ae, ae.lendKs, bV, cq, bW, bq, setInn, ai, cZ, cL, aC, bf, bZ, cc, aD, aP, Glob.gl, av, co, bL, b0, br, aj, bX, cM, cB, cV, bN, ap, ap.ptrOnlys, ak, aK, cz, aM, a4, bA, ce, aF, bh, cF, Nat.reduceBEq, undef]
  rw [List.not_any_eq_all_not]
  simp
def e105 : Ent Try.prog := .of1 105 (fun _ => True) (fun l : List Int => enc (l.all isBit)) (fun _ => trivial) (fun l _ => areBits_c l)
theorem bitsErr_c (l : List Int) : FC Try.prog 98 [enc l] [] (enc (bitsErrS l)) [] := by
  refine fc_intro' is98 (by simp) (fun cx hl => S_run [e105, e80, e82] 800 ?_)
  delta c98
  simp (maxSteps := 4000000) -implicitDefEqProofs only [rv98, e105, e80, e82, Ent.of0, Ent.of1, Ent.of2, Ent.of3, V, bO, bt, bE, cb, cN, cU, gt, lk, cJ, bQ, cm, cr, bM, cn, cn.subCs, cT, bg, a9, cg, az, a3, bn, aJ, bz, bo, aY, bF, ax, cu, cO, c6, aq, aX, bR, cI, cj, cY, cR, aV, an, bY, bj, zC, argS, bG, cH, cP, cW, ah, aw, aW, aA, cd, leC, ca, bP, cG, cS, bU, ay, aL, cK, au, cp, a7, a7.viewCs, bH, bH.flatCs, aR, aR.LensOks, Value.oneCell', ↓reduceIte, ite_true, ite_false, if_true, if_false, Nat.reduceAdd, Nat.reduceSub, Nat.reduceMul, Nat.reduceEqDiff, Nat.reduceLT, Nat.reduceLeDiff, reduceCtorEq, Int.reduceToNat, forall_const, implies_true, bm, Ent.mk3, bC, bu, bw, a5, a6, aZ, bK, bB, bI, bJ, bk, cD, bD, cQ, rn, bT, bT.renCs, aT, aU, aN, aN.viewOks, aI, a8, a8.flatBs, aG, ag, aH, ar, aQ, bv, bv.keysBs, aE, am, bp, bS, be, cC, af, af.passKs, aB, aO, ae, ae.lendKs, bV, cq, bW, bq, setInn, ai, cZ, cL, aC, bf, bZ, cc, aD, aP, Glob.gl, av, co, bL, b0, br, aj, bX, cM, cB, cV, bN, ap, ap.ptrOnlys, ak, aK, cz, aM, a4, bA, ce, aF, bh, cF, Nat.reduceBEq, undef]
  have hb : l.all isBit = l.all fun b => decide (b = 0 ∨ b = 1) := by
    congr 1; funext b; unfold isBit; grind
  rw [hb]
  unfold bitsErrS
  simp only [firstS]
  grind
def e98 : Ent Try.prog := .of1 98 (fun _ => True) (fun l : List Int => enc (bitsErrS l)) (fun _ => trivial) (fun l _ => bitsErr_c l)
structure Reg where
  length : Int
  taps : List Int
  state : List Int
instance : DatL Reg where
  sz := 3
  agg := true
  cells g := [.s (.int .i64 g.length), .sl 1 (g.taps.map cells), .sl 1 (g.state.map cells)]
  dec | [.s (.int .i64 a), .sl 1 t, .sl 1 s] => (decL t).bind fun t' => (decL s).map fun s' => ⟨a, t', s'⟩ | _ => none
  ok := by
    intro l a h
    split at h
    · simp only [Option.bind_eq_some_iff, Option.map_eq_some_iff] at h
      obtain ⟨t', h1, s', h2, rfl⟩ := h
      rw [decL_ok h1, decL_ok h2]
    · cases h
  data := fun a => rfl
  one := fun h => by cases h
  dec_cells := fun a => by simp [decL_map]
theorem enc_reg (g : Reg) : enc g = .agg [.s (.int .i64 g.length), .sl 1 (g.taps.map cells), .sl 1 (g.state.map cells)] := rfl
theorem decV_reg (a : Int) (t s : List (List C)) : decV (.agg [C.s (.int .i64 a), .sl 1 t, .sl 1 s]) = (decL t).bind fun t' => (decL s).map fun s' => (⟨a, t', s'⟩ : Reg) := rfl
def tapsErr (len : Int) (last : Int) : List Int → Int
  | [] => 0
  | t :: l => if ¬ (0 ≤ t ∧ t ≤ len - 1) then 2 else if ¬ (last < t) then 9 else tapsErr len t l
def regErr (r : Reg) : Int :=
  if ¬ (2 ≤ r.length ∧ r.length ≤ 10) then 2 else if r.taps.length = 0 then 10 else
  if tapsErr r.length (-1) r.taps ≠ 0 then tapsErr r.length (-1) r.taps else
  if r.taps.getD 0 0 ≠ 0 then 3 else if (r.state.length : Int) ≠ r.length then 10 else if r.state.all isBit then 0 else 15
theorem checkRegister_c (r : Reg) : FC Try.prog 70 [enc r] [] (enc (regErr r)) [] := by
  obtain ⟨len, taps, state⟩ := r
  refine fc_intro' is70 (by simp) (fun cx hl => S_run [e103, e82, e80] 800 ?_)
  simp only [enc_reg, V, bO, bt, bE, cb, cN, cU, gt, lk, cJ, bQ, cm, cr, bM, cn, cn.subCs, cT, bg, a9, cg, az, a3, bn, aJ, bz, bo, aY, bF, ax, cu, cO, c6, aq, aX, bR, cI, cj, cY, cR, aV, an, bY, bj, zC, argS, bG, cH, cP, cW, ah, aw, aW, aA, cd, leC, ca, bP, cG, cS, bU, ay, aL, cK, au, cp, a7, a7.viewCs, bH, bH.flatCs, aR, aR.LensOks, Value.oneCell', ↓reduceIte, ite_true, ite_false, if_true, if_false, Nat.reduceAdd, Nat.reduceSub, Nat.reduceMul, Nat.reduceEqDiff, Nat.reduceLT, Nat.reduceLeDiff, reduceCtorEq, Int.reduceToNat, forall_const, implies_true, bm, Ent.mk3, bC, bu, bw, a5, a6, aZ, bK, bB, bI, bJ, bk, cD, bD, cQ, rn, bT, bT.renCs, aT, aU, aN, aN.viewOks, aI, a8, a8.flatBs, aG, ag, aH, ar, aQ, bv, bv.keysBs, aE, am, bp, bS, be, cC, af, af.passKs, aB, aO, ae, ae.lendKs, bV, cq, bW, bq, setInn, ai, cZ, cL, aC, bf, bZ, cc, aD, aP, Glob.gl, av, co, bL, b0, br, aj, bX, cM, cB, cV, bN, ap, ap.ptrOnlys, ak, aK, cz, aM, a4, bA, ce, aF, bh, cF, Nat.reduceBEq, undef] at hl
  have hlen := hl.1.list
  have hlen2 := hl.2.list
  delta c70
  simp (maxSteps := 4000000) -implicitDefEqProofs only [rv70, e103, e82, e80, enc_reg, Ent.of0, Ent.of1, Ent.of2, Ent.of3, V, bO, bt, bE, cb, cN, cU, gt, lk, cJ, bQ, cm, cr, bM, cn, cn.subCs, cT, bg, a9, cg, az, a3, bn, aJ, bz, bo, aY, bF, ax, cu, cO, c6, aq, aX, bR, cI, cj, cY, cR, aV, an, bY, bj, zC, argS, bG, cH, cP, cW, ah, aw, aW, aA, cd, leC, ca, bP, cG, cS, bU, ay, aL, cK, au, cp, a7, a7.viewCs, bH, bH.flatCs, aR, aR.LensOks, Value.oneCell', ↓reduceIte, ite_true, ite_false, if_true, if_false, Nat.reduceAdd, Nat.reduceSub, Nat.reduceMul, Nat.reduceEqDiff, Nat.reduceLT, Nat.reduceLeDiff, reduceCtorEq, Int.reduceToNat, forall_const, implies_true, bm, Ent.mk3, bC, bu, bw, a5, a6, aZ, bK, bB, bI, bJ, bk, cD, bD, cQ, rn, bT, bT.renCs, aT, aU, aN, aN.viewOks, aI, a8, a8.flatBs, aG, ag, aH, ar, aQ, bv, bv.keysBs, aE, am, bp, bS, be, cC, af, af.passKs, aB, aO, ae, ae.lendKs, bV, cq, bW, bq, setInn, ai, cZ, cL, aC, bf, bZ, cc, aD, aP, Glob.gl, av, co, bL, b0, br, aj, bX, cM, cB, cV, bN, ap, ap.ptrOnlys, ak, aK, cz, aM, a4, bA, ce, aF, bh, cF, Nat.reduceBEq, undef]
  by_cases h0 : 2 ≤ len ∧ len ≤ 10
  · by_cases h1 : 0 < taps.length
    · have h1' : (0 : Int) < (taps.length : Int) := by omega
      simp only [h0, h1', and_self, if_true, firstS, ne_eq, not_true, if_false]
      have hr : regErr ⟨len, taps, state⟩ = if tapsErr len (-1) taps ≠ 0 then tapsErr len (-1) taps else if taps.getD 0 0 ≠ 0 then 3 else if (state.length : Int) ≠ len then 10 else if state.all isBit then 0 else 15 := by
        unfold regErr
        simp only
        rw [if_neg (fun h => h h0), if_neg (by omega)]
      rw [hr]
      refine S_loopU (α := Nat × Int) (fun v => [(25, .s (.int .i64 (v.1 : Int))), (4, .s (.int .i64 v.2))]) (fun _ => []) (fun v => v.1 ≤ taps.length ∧ tapsErr len (-1) taps = tapsErr len v.2 (taps.drop v.1)) (fun v => taps.length - v.1) (0, -1) ⟨by omega, rfl⟩ ?_ (fun v hv => S_run [e103, e82, e80, e105] 800 ?_)
      · simp (maxSteps := 4000000) -implicitDefEqProofs only [Ent.of0, Ent.of1, Ent.of2, Ent.of3, V, bO, bt, bE, cb, cN, cU, gt, lk, cJ, bQ, cm, cr, bM, cn, cn.subCs, cT, bg, a9, cg, az, a3, bn, aJ, bz, bo, aY, bF, ax, cu, cO, c6, aq, aX, bR, cI, cj, cY, cR, aV, an, bY, bj, zC, argS, bG, cH, cP, cW, ah, aw, aW, aA, cd, leC, ca, bP, cG, cS, bU, ay, aL, cK, au, cp, a7, a7.viewCs, bH, bH.flatCs, aR, aR.LensOks, Value.oneCell', ↓reduceIte, ite_true, ite_false, if_true, if_false, Nat.reduceAdd, Nat.reduceSub, Nat.reduceMul, Nat.reduceEqDiff, Nat.reduceLT, Nat.reduceLeDiff, reduceCtorEq, Int.reduceToNat, forall_const, implies_true, bm, Ent.mk3, bC, bu, bw, a5, a6, aZ, bK, bB, bI, bJ, bk, cD, bD, cQ, rn, bT, bT.renCs, aT, aU, aN, aN.viewOks, aI, a8, a8.flatBs, aG, ag, aH, ar, aQ, bv, bv.keysBs, aE, am, bp, bS, be, cC, af, af.passKs, aB, aO, ae, ae.lendKs, bV, cq, bW, bq, setInn, ai, cZ, cL, aC, bf, bZ, cc, aD, aP, Glob.gl, av, co, bL, b0, br, aj, bX, cM, cB, cV, bN, ap, ap.ptrOnlys, ak, aK, cz, aM, a4, bA, ce, aF, bh, cF, Nat.reduceBEq, undef]; simp
      · obtain ⟨i, last⟩ := v
        obtain ⟨hv1, hv2⟩ := hv
        simp only at hv1 hv2
        by_cases h : i < taps.length
        · have hi : ((i : Int) < (taps.length : Int)) := by omega
          rw [drop_getD 0 h, tapsErr] at hv2
          delta c70l1
          simp (maxSteps := 4000000) -implicitDefEqProofs only [rv70, hi, h, e103, e82, e80, InR, Ent.of0, Ent.of1, Ent.of2, Ent.of3, V, bO, bt, bE, cb, cN, cU, gt, lk, cJ, bQ, cm, cr, bM, cn, cn.subCs, cT, bg, a9, cg, az, a3, bn, aJ, bz, bo, aY, bF, ax, cu, cO, c6, aq, aX, bR, cI, cj, cY, cR, aV, an, bY, bj, zC, argS, bG, cH, cP, cW, ah, aw, aW, aA, cd, leC, ca, bP, cG, cS, bU, ay, aL, cK, au, cp, a7, a7.viewCs, bH, bH.flatCs, aR, aR.LensOks, Value.oneCell', ↓reduceIte, ite_true, ite_false, if_true, if_false, Nat.reduceAdd, Nat.reduceSub, Nat.reduceMul, Nat.reduceEqDiff, Nat.reduceLT, Nat.reduceLeDiff, reduceCtorEq, Int.reduceToNat, forall_const, implies_true, bm, Ent.mk3, bC, bu, bw, a5, a6, aZ, bK, bB, bI, bJ, bk, cD, bD, cQ, rn, bT, bT.renCs, aT, aU, aN, aN.viewOks, aI, a8, a8.flatBs, aG, ag, aH, ar, aQ, bv, bv.keysBs, aE, am, bp, bS, be, cC, af, af.passKs, aB, aO, ae, ae.lendKs, bV, cq, bW, bq, setInn, ai, cZ, cL, aC, bf, bZ, cc, aD, aP, Glob.gl, av, co, bL, b0, br, aj, bX, cM, cB, cV, bN, ap, ap.ptrOnlys, ak, aK, cz, aM, a4, bA, ce, aF, bh, cF, Nat.reduceBEq, undef]
          generalize taps.getD i 0 = t at *
          refine ⟨by omega, by omega, ?_⟩
          by_cases ht : 0 ≤ t ∧ t ≤ len - 1
          · by_cases hlt : last < t
            · simp only [ht, hlt, and_self, if_true, not_true, if_false] at hv2 ⊢
              simp only [firstS, ne_eq, not_true, if_false]
              exact ⟨by omega, (i + 1, t), ⟨h, hv2⟩, by simp only; omega, rfl, by push_cast; rfl⟩
            · simp only [ht, hlt, and_self, if_true, not_true, not_false_eq_true, if_false] at hv2 ⊢
              simp [firstS, hv2]
          · simp only [ht, if_true, not_false_eq_true, if_false] at hv2 ⊢
            simp [firstS, hv2]
        · have hi : ¬ ((i : Int) < (taps.length : Int)) := by omega
          rw [List.drop_eq_nil_of_le (by omega), tapsErr] at hv2
          delta c70l1
          simp (maxSteps := 4000000) -implicitDefEqProofs only [rv70, hi, h1, e103, e82, e80, e105, InR, Ent.of0, Ent.of1, Ent.of2, Ent.of3, V, bO, bt, bE, cb, cN, cU, gt, lk, cJ, bQ, cm, cr, bM, cn, cn.subCs, cT, bg, a9, cg, az, a3, bn, aJ, bz, bo, aY, bF, ax, cu, cO, c6, aq, aX, bR, cI, cj, cY, cR, aV, an, bY, bj, zC, argS, bG, cH, cP, cW, ah, aw, aW, aA, cd, leC, ca, bP, cG, cS, bU, ay, aL, cK, au, cp, a7, a7.viewCs, bH, bH.flatCs, aR, aR.LensOks, Value.oneCell', ↓reduceIte, ite_true, ite_false, if_true, if_false, Nat.reduceAdd, Nat.reduceSub, Nat.reduceMul, Nat.reduceEqDiff, Nat.reduceLT, Nat.reduceLeDiff, reduceCtorEq, Int.reduceToNat, forall_const, implies_true, bm, Ent.mk3, bC, bu, bw, a5, a6, aZ, bK, bB, bI, bJ, bk, cD, bD, cQ, rn, bT, bT.renCs, aT, aU, aN, aN.viewOks, aI, a8, a8.flatBs, aG, ag, aH, ar, aQ, bv, bv.keysBs, aE, am, bp, bS, be, cC, af, af.passKs, aB, aO, ae, ae.lendKs, bV, cq, bW, bq, setInn, ai, cZ, cL, aC, bf, bZ, cc, aD, aP, Glob.gl, av, co, bL, b0, br, aj, bX, cM, cB, cV, bN, ap, ap.ptrOnlys, ak, aK, cz, aM, a4, bA, ce, aF, bh, cF, Nat.reduceBEq, undef]
          refine ⟨by omega, ?_⟩
          rw [hv2]
          simp only [firstS]
          grind
    · have h1' : ¬ (0 : Int) < (taps.length : Int) := by omega
      simp only [h0, h1', and_self, if_true, firstS, ne_eq, not_true, if_false]
      unfold regErr
      simp [h0, show taps = [] by simpa using h1]
  · simp only [h0, if_false, firstS, ne_eq]
    unfold regErr
    simp [h0]
def e70 : Ent Try.prog := .of1 70 (fun _ => True) (fun r : Reg => enc (regErr r)) (fun _ => trivial) (fun r _ => checkRegister_c r)
end Go.Proofs.Ytfgpbmjmoobcnaa
end
section
open Go Go.Am
open Go.Am.Dat (cells)
namespace Go.Proofs.Ytfgpbmjmoobcnaa
set_option maxHeartbeats 4000000
set_option linter.unusedSimpArgs false
structure RegOk (r : Reg) : Prop where
  len : 2 ≤ r.length ∧ r.length ≤ 10
  ne : 0 < r.taps.length
  taps : ∀ t ∈ r.taps, 0 ≤ t ∧ t ≤ r.length - 1
  inc : r.taps.Pairwise (· < ·)
  zero : r.taps.getD 0 0 = 0
  stl : (r.state.length : Int) = r.length
  bits : ∀ b ∈ r.state, b = 0 ∨ b = 1
theorem tapsErr_ok {len : Int} : ∀ {l : List Int} {last : Int}, tapsErr len last l = 0 → (∀ t ∈ l, (0 ≤ t ∧ t ≤ len - 1) ∧ last < t) ∧ l.Pairwise (· < ·)
  | [], _, _ => ⟨fun t h => by simp at h, .nil⟩
  | t :: l, last, h => by
    simp only [tapsErr] at h
    split at h
    · cases h
    · split at h
      · cases h
      · rename_i h1 h2
        obtain ⟨g1, g2⟩ := tapsErr_ok h
        refine ⟨fun x hx => ?_, List.pairwise_cons.2 ⟨fun x hx => (g1 x hx).2, g2⟩⟩
        rcases List.mem_cons.1 hx with e | e
        · rw [e]; exact ⟨by simpa using h1, by simpa using h2⟩
        · have := g1 x e
          exact ⟨this.1, by have h3 : last < t := by simpa using h2
                            omega⟩
theorem regOk_of {r : Reg} (h : regErr r = 0) : RegOk r := by
  unfold regErr at h
  split at h
  · cases h
  · split at h
    · cases h
    · split at h
      · contradiction
      · split at h
        · cases h
        · split at h
          · cases h
          · split at h
            · rename_i h1 h2 h3 h4 h5 h6
              have g := tapsErr_ok (by simpa using h3 : tapsErr r.length (-1) r.taps = 0)
              refine ⟨by simpa using h1, by omega, fun t ht => (g.1 t ht).1, g.2, by simpa using h4, by simpa using h5, fun b hb => ?_⟩
              have := List.all_eq_true.1 h6 b hb
              simp only [isBit, decide_eq_true_eq] at this
              omega
            · cases h
def bitsS (l : List Int) : Nat → Nat
  | 0 => 0
  | i + 1 => bitsS l i ||| ((l.getD i 0).toNat * 2 ^ i)
def tapsS (l : List Int) : Nat → Nat
  | 0 => 0
  | i + 1 => tapsS l i ||| 2 ^ (l.getD i 0).toNat
def wireW (r : Reg) : Wire := ⟨bitsS r.state r.state.length, tapsS r.taps r.taps.length, (r.length - 1).toNat⟩
theorem bits_getD {l : List Int} (h : ∀ b ∈ l, b = 0 ∨ b = 1) (i : Nat) : l.getD i 0 = 0 ∨ l.getD i 0 = 1 := by
  rw [List.getD_eq_getElem?_getD]
  cases hi : l[i]? with
  | none => left; rfl
  | some b => exact h b (List.mem_of_getElem? hi)
theorem bitsS_lt {l : List Int} (h : ∀ b ∈ l, b = 0 ∨ b = 1) : ∀ i, bitsS l i < 2 ^ i
  | 0 => by simp [bitsS]
  | i + 1 => by
    have h1 := bitsS_lt h i
    have e : 2 ^ (i + 1) = 2 * 2 ^ i := by rw [Nat.pow_succ]; omega
    refine Nat.or_lt_two_pow (by omega) ?_
    have hp : 0 < 2 ^ i := Nat.pow_pos (by decide)
    rcases bits_getD h i with g | g <;> rw [g] <;> simp <;> omega
theorem tapsS_lt {l : List Int} {m : Nat} (h : ∀ t ∈ l, 0 ≤ t ∧ t < (m : Int)) : ∀ i, i ≤ l.length → tapsS l i < 2 ^ m
  | 0, _ => by simp [tapsS]; exact Nat.pow_pos (by decide)
  | i + 1, hi => by
    refine Nat.or_lt_two_pow (tapsS_lt h i (by omega)) ?_
    have hm : l.getD i 0 ∈ l := by rw [List.getD_eq_getElem?_getD, List.getElem?_eq_getElem (by omega)]; exact List.getElem_mem _
    have := h _ hm
    exact Nat.pow_lt_pow_right (by decide) (by omega)
theorem wireW_ok {r : Reg} (h : RegOk r) : (wireW r).Ok := by
  have hl := h.len
  have hs := h.stl
  refine ⟨by show (r.length - 1).toNat < 15; omega, ?_, ?_⟩
  · show bitsS r.state r.state.length < 2 ^ ((r.length - 1).toNat + 1)
    rw [show (r.length - 1).toNat + 1 = r.state.length by omega]
    exact bitsS_lt h.bits _
  · show tapsS r.taps r.taps.length < 65536
    refine Nat.lt_of_lt_of_le (tapsS_lt (m := 10) (fun t ht => ?_) _ (Nat.le_refl _)) (by decide)
    have := h.taps t ht
    omega
theorem wireOf_c (r : Reg) (hr : RegOk r) : FC Try.prog 108 [enc r] [] (.agg (wireC (wireW r))) [] := by
  have hw := wireW_ok hr
  have hbits := hr.bits
  have htaps := hr.taps
  have hlen0 := hr.len
  have hst := hr.stl
  obtain ⟨len, taps, state⟩ := r
  simp only at hbits htaps hlen0 hst
  refine fc_intro' is108 (by simp) (fun cx hl => S_run [] 800 ?_)
  simp only [enc_reg, V, bO, bt, bE, cb, cN, cU, gt, lk, cJ, bQ, cm, cr, bM, cn, cn.subCs, cT, bg, a9, cg, az, a3, bn, aJ, bz, bo, aY, bF, ax, cu, cO, c6, aq, aX, bR, cI, cj, cY, cR, aV, an, bY, bj, zC, argS, bG, cH, cP, cW, ah, aw, aW, aA, cd, leC, ca, bP, cG, cS, bU, ay, aL, cK, au, cp, a7, a7.viewCs, bH, bH.flatCs, aR, aR.LensOks, Value.oneCell', ↓reduceIte, ite_true, ite_false, if_true, if_false, Nat.reduceAdd, Nat.reduceSub, Nat.reduceMul, Nat.reduceEqDiff, Nat.reduceLT, Nat.reduceLeDiff, reduceCtorEq, Int.reduceToNat, forall_const, implies_true, bm, Ent.mk3, bC, bu, bw, a5, a6, aZ, bK, bB, bI, bJ, bk, cD, bD, cQ, rn, bT, bT.renCs, aT, aU, aN, aN.viewOks, aI, a8, a8.flatBs, aG, ag, aH, ar, aQ, bv, bv.keysBs, aE, am, bp, bS, be, cC, af, af.passKs, aB, aO, ae, ae.lendKs, bV, cq, bW, bq, setInn, ai, cZ, cL, aC, bf, bZ, cc, aD, aP, Glob.gl, av, co, bL, b0, br, aj, bX, cM, cB, cV, bN, ap, ap.ptrOnlys, ak, aK, cz, aM, a4, bA, ce, aF, bh, cF, Nat.reduceBEq, undef] at hl
  have hlen := hl.1.list
  have hlen2 := hl.2.list
  delta c108
  simp (maxSteps := 4000000) -implicitDefEqProofs only [rv108, enc_reg, InR, Ent.of0, Ent.of1, Ent.of2, Ent.of3, V, bO, bt, bE, cb, cN, cU, gt, lk, cJ, bQ, cm, cr, bM, cn, cn.subCs, cT, bg, a9, cg, az, a3, bn, aJ, bz, bo, aY, bF, ax, cu, cO, c6, aq, aX, bR, cI, cj, cY, cR, aV, an, bY, bj, zC, argS, bG, cH, cP, cW, ah, aw, aW, aA, cd, leC, ca, bP, cG, cS, bU, ay, aL, cK, au, cp, a7, a7.viewCs, bH, bH.flatCs, aR, aR.LensOks, Value.oneCell', ↓reduceIte, ite_true, ite_false, if_true, if_false, Nat.reduceAdd, Nat.reduceSub, Nat.reduceMul, Nat.reduceEqDiff, Nat.reduceLT, Nat.reduceLeDiff, reduceCtorEq, Int.reduceToNat, forall_const, implies_true, bm, Ent.mk3, bC, bu, bw, a5, a6, aZ, bK, bB, bI, bJ, bk, cD, bD, cQ, rn, bT, bT.renCs, aT, aU, aN, aN.viewOks, aI, a8, a8.flatBs, aG, ag, aH, ar, aQ, bv, bv.keysBs, aE, am, bp, bS, be, cC, af, af.passKs, aB, aO, ae, ae.lendKs, bV, cq, bW, bq, setInn, ai, cZ, cL, aC, bf, bZ, cc, aD, aP, Glob.gl, av, co, bL, b0, br, aj, bX, cM, cB, cV, bN, ap, ap.ptrOnlys, ak, aK, cz, aM, a4, bA, ce, aF, bh, cF, Nat.reduceBEq, undef]
  refine ⟨by omega, ?_⟩
  refine S_forU state.length (fun i => [(15, .s (.int .i64 (i : Int)))]) (fun i => [(3, .box [.s (.int .u16 (bitsS state i : Int)), .s (.int .u16 0), .s (.int .i64 (len - 1))])]) (fun i => True) trivial ?_ (fun i hi _ => S_run [] 800 ?_)
  · simp (maxSteps := 4000000) -implicitDefEqProofs only [bitsS, Ent.of0, Ent.of1, Ent.of2, Ent.of3, V, bO, bt, bE, cb, cN, cU, gt, lk, cJ, bQ, cm, cr, bM, cn, cn.subCs, cT, bg, a9, cg, az, a3, bn, aJ, bz, bo, aY, bF, ax, cu, cO, c6, aq, aX, bR, cI, cj, cY, cR, aV, an, bY, bj, zC, argS, bG, cH, cP, cW, ah, aw, aW, aA, cd, leC, ca, bP, cG, cS, bU, ay, aL, cK, au, cp, a7, a7.viewCs, bH, bH.flatCs, aR, aR.LensOks, Value.oneCell', ↓reduceIte, ite_true, ite_false, if_true, if_false, Nat.reduceAdd, Nat.reduceSub, Nat.reduceMul, Nat.reduceEqDiff, Nat.reduceLT, Nat.reduceLeDiff, reduceCtorEq, Int.reduceToNat, forall_const, implies_true, bm, Ent.mk3, bC, bu, bw, a5, a6, aZ, bK, bB, bI, bJ, bk, cD, bD, cQ, rn, bT, bT.renCs, aT, aU, aN, aN.viewOks, aI, a8, a8.flatBs, aG, ag, aH, ar, aQ, bv, bv.keysBs, aE, am, bp, bS, be, cC, af, af.passKs, aB, aO, ae, ae.lendKs, bV, cq, bW, bq, setInn, ai, cZ, cL, aC, bf, bZ, cc, aD, aP, Glob.gl, av, co, bL, b0, br, aj, bX, cM, cB, cV, bN, ap, ap.ptrOnlys, ak, aK, cz, aM, a4, bA, ce, aF, bh, cF, Nat.reduceBEq, undef]; simp
  · by_cases h : i < state.length
    · have hi : ((i : Int) < (state.length : Int)) := by omega
      have hb := bits_getD hbits i
      have hpl : 2 ^ i ≤ 2 ^ 10 := Nat.pow_le_pow_right (by decide) (by omega)
      have hbl := bitsS_lt hbits i
      have hmin : min i IntKind.u16.bits = i := Nat.min_eq_left (by show i ≤ 16; omega)
      have hbit : bitF .or .u16 (bitsS state i : Int) (state.getD i 0 * 2 ^ i) = (bitsS state (i + 1) : Int) := by
        have := or16 (a := bitsS state i) (b := (state.getD i 0).toNat * 2 ^ i) (by omega) (by rcases hb with g | g <;> rw [g] <;> simp <;> omega)
        rw [bitsS, ← this]
        congr 1
        rcases hb with g | g <;> rw [g] <;> simp
      have hmul : 0 ≤ state.getD i 0 * 2 ^ i ∧ state.getD i 0 * 2 ^ i ≤ 65535 := by
        have : ((2 ^ i : Nat) : Int) = (2 : Int) ^ i := by push_cast; rfl
        rcases hb with g | g <;> rw [g] <;> omega
      delta c108l1
      simp (maxSteps := 4000000) -implicitDefEqProofs only [rv108, hi, h, hmin, hbit, InR, Ent.of0, Ent.of1, Ent.of2, Ent.of3, V, bO, bt, bE, cb, cN, cU, gt, lk, cJ, bQ, cm, cr, bM, cn, cn.subCs, cT, bg, a9, cg, az, a3, bn, aJ, bz, bo, aY, bF, ax, cu, cO, c6, aq, aX, bR, cI, cj, cY, cR, aV, an, bY, bj, zC, argS, bG, cH, cP, cW, ah, aw, aW, aA, cd, leC, ca, bP, cG, cS, bU, ay, aL, cK, au, cp, a7, a7.viewCs, bH, bH.flatCs, aR, aR.LensOks, Value.oneCell', ↓reduceIte, ite_true, ite_false, if_true, if_false, Nat.reduceAdd, Nat.reduceSub, Nat.reduceMul, Nat.reduceEqDiff, Nat.reduceLT, Nat.reduceLeDiff, reduceCtorEq, Int.reduceToNat, forall_const, implies_true, bm, Ent.mk3, bC, bu, bw, a5, a6, aZ, bK, bB, bI, bJ, bk, cD, bD, cQ, rn, bT, bT.renCs, aT, aU, aN, aN.viewOks, aI, a8, a8.flatBs, aG, ag, aH, ar, aQ, bv, bv.keysBs, aE, am, bp, bS, be, cC, af, af.passKs, aB, aO, ae, ae.lendKs, bV, cq, bW, bq, setInn, ai, cZ, cL, aC, bf, bZ, cc, aD, aP, Glob.gl, av, co, bL, b0, br, aj, bX, cM, cB, cV, bN, ap, ap.ptrOnlys, ak, aK, cz, aM, a4, bA, ce, aF, bh, cF, Nat.reduceBEq, undef]
      exact ⟨by omega, by omega, ⟨by omega, hmul⟩, by omega, by push_cast; rfl⟩
    · have hi : ¬ ((i : Int) < (state.length : Int)) := by omega
      have hie : i = state.length := by omega
      delta c108l1
      simp (maxSteps := 4000000) -implicitDefEqProofs only [rv108, hi, InR, Ent.of0, Ent.of1, Ent.of2, Ent.of3, V, bO, bt, bE, cb, cN, cU, gt, lk, cJ, bQ, cm, cr, bM, cn, cn.subCs, cT, bg, a9, cg, az, a3, bn, aJ, bz, bo, aY, bF, ax, cu, cO, c6, aq, aX, bR, cI, cj, cY, cR, aV, an, bY, bj, zC, argS, bG, cH, cP, cW, ah, aw, aW, aA, cd, leC, ca, bP, cG, cS, bU, ay, aL, cK, au, cp, a7, a7.viewCs, bH, bH.flatCs, aR, aR.LensOks, Value.oneCell', ↓reduceIte, ite_true, ite_false, if_true, if_false, Nat.reduceAdd, Nat.reduceSub, Nat.reduceMul, Nat.reduceEqDiff, Nat.reduceLT, Nat.reduceLeDiff, reduceCtorEq, Int.reduceToNat, forall_const, implies_true, bm, Ent.mk3, bC, bu, bw, a5, a6, aZ, bK, bB, bI, bJ, bk, cD, bD, cQ, rn, bT, bT.renCs, aT, aU, aN, aN.viewOks, aI, a8, a8.flatBs, aG, ag, aH, ar, aQ, bv, bv.keysBs, aE, am, bp, bS, be, cC, af, af.passKs, aB, aO, ae, ae.lendKs, bV, cq, bW, bq, setInn, ai, cZ, cL, aC, bf, bZ, cc, aD, aP, Glob.gl, av, co, bL, b0, br, aj, bX, cM, cB, cV, bN, ap, ap.ptrOnlys, ak, aK, cz, aM, a4, bA, ce, aF, bh, cF, Nat.reduceBEq, undef]
      subst hie
      refine S_forU taps.length (fun i => [(32, .s (.int .i64 (i : Int)))]) (fun i => [(3, .box [.s (.int .u16 (bitsS state state.length : Int)), .s (.int .u16 (tapsS taps i : Int)), .s (.int .i64 (len - 1))])]) (fun i => True) trivial ?_ (fun i hi _ => S_run [] 800 ?_)
      · simp (maxSteps := 4000000) -implicitDefEqProofs only [tapsS, Ent.of0, Ent.of1, Ent.of2, Ent.of3, V, bO, bt, bE, cb, cN, cU, gt, lk, cJ, bQ, cm, cr, bM, cn, cn.subCs, cT, bg, a9, cg, az, a3, bn, aJ, bz, bo, aY, bF, ax, cu, cO, c6, aq, aX, bR, cI, cj, cY, cR, aV, an, bY, bj, zC, argS, bG, cH, cP, cW, ah, aw, aW, aA, cd, leC, ca, bP, cG, cS, bU, ay, aL, cK, au, cp, a7, a7.viewCs, bH, bH.flatCs, aR, aR.LensOks, Value.oneCell', ↓reduceIte, ite_true, ite_false, if_true, if_false, Nat.reduceAdd, Nat.reduceSub, Nat.reduceMul, Nat.reduceEqDiff, Nat.reduceLT, Nat.reduceLeDiff, reduceCtorEq, Int.reduceToNat, forall_const, implies_true, bm, Ent.mk3, bC, bu, bw, a5, a6, aZ, bK, bB, bI, bJ, bk, cD, bD, cQ, rn, bT, bT.renCs, aT, aU, aN, aN.viewOks, aI, a8, a8.flatBs, aG, ag, aH, ar, aQ, bv, bv.keysBs, aE, am, bp, bS, be, cC, af, af.passKs, aB, aO, ae, ae.lendKs, bV, cq, bW, bq, setInn, ai, cZ, cL, aC, bf, bZ, cc, aD, aP, Glob.gl, av, co, bL, b0, br, aj, bX, cM, cB, cV, bN, ap, ap.ptrOnlys, ak, aK, cz, aM, a4, bA, ce, aF, bh, cF, Nat.reduceBEq, undef]; simp
      · by_cases h : i < taps.length
        · have hi : ((i : Int) < (taps.length : Int)) := by omega
          have htm : taps.getD i 0 ∈ taps := by rw [List.getD_eq_getElem?_getD, List.getElem?_eq_getElem h]; exact List.getElem_mem _
          have ht := htaps _ htm
          have htl := tapsS_lt (l := taps) (m := 10) (fun t ht => by have := htaps t ht; omega) i (by omega)
          have hmin : min (taps.getD i 0).toNat IntKind.u16.bits = (taps.getD i 0).toNat := Nat.min_eq_left (by show _ ≤ 16; omega)
          have hpl : 2 ^ (taps.getD i 0).toNat ≤ 2 ^ 9 := Nat.pow_le_pow_right (by decide) (by omega)
          have hpc : ((2 ^ (taps.getD i 0).toNat : Nat) : Int) = (2 : Int) ^ (taps.getD i 0).toNat := by push_cast; rfl
          have hbit : bitF .or .u16 (tapsS taps i : Int) (1 * 2 ^ (taps.getD i 0).toNat) = (tapsS taps (i + 1) : Int) := by
            have := or16 (a := tapsS taps i) (b := 2 ^ (taps.getD i 0).toNat) (by omega) (by omega)
            rw [tapsS, ← this, hpc, Int.one_mul]
          delta c108l2
          simp (maxSteps := 4000000) -implicitDefEqProofs only [rv108, hi, h, hmin, hbit, InR, Ent.of0, Ent.of1, Ent.of2, Ent.of3, V, bO, bt, bE, cb, cN, cU, gt, lk, cJ, bQ, cm, cr, bM, cn, cn.subCs, cT, bg, a9, cg, az, a3, bn, aJ, bz, bo, aY, bF, ax, cu, cO, c6, aq, aX, bR, cI, cj, cY, cR, aV, an, bY, bj, zC, argS, bG, cH, cP, cW, ah, aw, aW, aA, cd, leC, ca, bP, cG, cS, bU, ay, aL, cK, au, cp, a7, a7.viewCs, bH, bH.flatCs, aR, aR.LensOks, Value.oneCell', ↓reduceIte, ite_true, ite_false, if_true, if_false, Nat.reduceAdd, Nat.reduceSub, Nat.reduceMul, Nat.reduceEqDiff, Nat.reduceLT, Nat.reduceLeDiff, reduceCtorEq, Int.reduceToNat, forall_const, implies_true, bm, Ent.mk3, bC, bu, bw, a5, a6, aZ, bK, bB, bI, bJ, bk, cD, bD, cQ, rn, bT, bT.renCs, aT, aU, aN, aN.viewOks, aI, a8, a8.flatBs, aG, ag, aH, ar, aQ, bv, bv.keysBs, aE, am, bp, bS, be, cC, af, af.passKs, aB, aO, ae, ae.lendKs, bV, cq, bW, bq, setInn, ai, cZ, cL, aC, bf, bZ, cc, aD, aP, Glob.gl, av, co, bL, b0, br, aj, bX, cM, cB, cV, bN, ap, ap.ptrOnlys, ak, aK, cz, aM, a4, bA, ce, aF, bh, cF, Nat.reduceBEq, undef]
          obtain ⟨q, hq⟩ : ∃ q : Nat, 2 ^ (taps.getD i 0).toNat = q := ⟨_, rfl⟩
          rw [hq] at hpc hpl
          rw [← hpc]
          exact ⟨by omega, ⟨by omega, by omega, by omega⟩, by omega, by push_cast; rfl⟩
        · have hi : ¬ ((i : Int) < (taps.length : Int)) := by omega
          have hie : i = taps.length := by omega
          subst hie
          have htop : ((len - 1).toNat : Int) = len - 1 := Int.toNat_of_nonneg (by omega)
          delta c108l2
          simp (maxSteps := 4000000) -implicitDefEqProofs only [rv108, hi, wireC, wireW, htop, InR, Ent.of0, Ent.of1, Ent.of2, Ent.of3, V, bO, bt, bE, cb, cN, cU, gt, lk, cJ, bQ, cm, cr, bM, cn, cn.subCs, cT, bg, a9, cg, az, a3, bn, aJ, bz, bo, aY, bF, ax, cu, cO, c6, aq, aX, bR, cI, cj, cY, cR, aV, an, bY, bj, zC, argS, bG, cH, cP, cW, ah, aw, aW, aA, cd, leC, ca, bP, cG, cS, bU, ay, aL, cK, au, cp, a7, a7.viewCs, bH, bH.flatCs, aR, aR.LensOks, Value.oneCell', ↓reduceIte, ite_true, ite_false, if_true, if_false, Nat.reduceAdd, Nat.reduceSub, Nat.reduceMul, Nat.reduceEqDiff, Nat.reduceLT, Nat.reduceLeDiff, reduceCtorEq, Int.reduceToNat, forall_const, implies_true, bm, Ent.mk3, bC, bu, bw, a5, a6, aZ, bK, bB, bI, bJ, bk, cD, bD, cQ, rn, bT, bT.renCs, aT, aU, aN, aN.viewOks, aI, a8, a8.flatBs, aG, ag, aH, ar, aQ, bv, bv.keysBs, aE, am, bp, bS, be, cC, af, af.passKs, aB, aO, ae, ae.lendKs, bV, cq, bW, bq, setInn, ai, cZ, cL, aC, bf, bZ, cc, aD, aP, Glob.gl, av, co, bL, b0, br, aj, bX, cM, cB, cV, bN, ap, ap.ptrOnlys, ak, aK, cz, aM, a4, bA, ce, aF, bh, cF, Nat.reduceBEq, undef]
def e108 : Ent Try.prog := .of1 108 RegOk (fun r : Reg => .agg [.s (.int .u16 (wireW r).bits), .s (.int .u16 (wireW r).taps), .s (.int .i64 (wireW r).top)]) (fun _ => ⟨trivial, trivial, trivial, trivial⟩) (fun r h => wireOf_c r h)
end Go.Proofs.Ytfgpbmjmoobcnaa
end
section
open Go Go.Am
open Go.Am.Dat (cells)
namespace Go.Proofs.Ytfgpbmjmoobcnaa
set_option maxHeartbeats 4000000
set_option linter.unusedSimpArgs false
def seqS (w : Wire) (n : Nat) : List Int := (List.range n).map fun i => (outS (runW w i) : Int)
theorem seqS_succ (w : Wire) (n : Nat) : seqS w (n + 1) = seqS w n ++ [(outS (runW w n) : Int)] := by simp [seqS, List.range_succ]
def sequenceErr (r : Reg) (n : Int) : Int := if regErr r ≠ 0 then regErr r else if 1 ≤ n ∧ n ≤ 400 then 0 else 2
theorem sequence_c (r : Reg) (n : Int) : FC Try.prog 72 [enc r, enc n] [] (.tup [enc (if sequenceErr r n = 0 then seqS (wireW r) n.toNat else []), enc (sequenceErr r n)]) [] := by
  refine fc_introC [] is72 (by simp) trivial trivial trivial trivial (fun cx hcx hl _ => S_run [e70, e103, e82, e80, e108] 800 ?_)
  obtain ⟨len, taps, state⟩ := r
  have hfs : firstS [regErr ⟨len, taps, state⟩, if 1 ≤ n ∧ n ≤ 400 then 0 else 2] = sequenceErr ⟨len, taps, state⟩ n := by
    unfold sequenceErr
    simp only [firstS]
    grind
  delta c72
  simp (maxSteps := 4000000) -implicitDefEqProofs only [rv72, e70, e103, e82, e80, e108, enc_reg, decV_reg, hfs, InR, Ent.of0, Ent.of1, Ent.of2, Ent.of3, V, bO, bt, bE, cb, cN, cU, gt, lk, cJ, bQ, cm, cr, bM, cn, cn.subCs, cT, bg, a9, cg, az, a3, bn, aJ, bz, bo, aY, bF, ax, cu, cO, c6, aq, aX, bR, cI, cj, cY, cR, aV, an, bY, bj, zC, argS, bG, cH, cP, cW, ah, aw, aW, aA, cd, leC, ca, bP, cG, cS, bU, ay, aL, cK, au, cp, a7, a7.viewCs, bH, bH.flatCs, aR, aR.LensOks, Value.oneCell', ↓reduceIte, ite_true, ite_false, if_true, if_false, Nat.reduceAdd, Nat.reduceSub, Nat.reduceMul, Nat.reduceEqDiff, Nat.reduceLT, Nat.reduceLeDiff, reduceCtorEq, Int.reduceToNat, forall_const, implies_true, bm, Ent.mk3, bC, bu, bw, a5, a6, aZ, bK, bB, bI, bJ, bk, cD, bD, cQ, rn, bT, bT.renCs, aT, aU, aN, aN.viewOks, aI, a8, a8.flatBs, aG, ag, aH, ar, aQ, bv, bv.keysBs, aE, am, bp, bS, be, cC, af, af.passKs, aB, aO, ae, ae.lendKs, bV, cq, bW, bq, setInn, ai, cZ, cL, aC, bf, bZ, cc, aD, aP, Glob.gl, av, co, bL, b0, br, aj, bX, cM, cB, cV, bN, ap, ap.ptrOnlys, ak, aK, cz, aM, a4, bA, ce, aF, bh, cF, Nat.reduceBEq, undef]
  by_cases he : sequenceErr ⟨len, taps, state⟩ n = 0
  · have hre : regErr ⟨len, taps, state⟩ = 0 := by
      unfold sequenceErr at he
      split at he
      · contradiction
      · rename_i h; simpa using h
    have hn : 1 ≤ n ∧ n ≤ 400 := by
      unfold sequenceErr at he
      rw [if_neg (by simpa using hre)] at he
      split at he
      · assumption
      · cases he
    have hok := wireW_ok (regOk_of hre)
    rw [if_neg (fun h => h he), if_pos he]
    refine ⟨regOk_of hre, ?_⟩
    generalize wireW ⟨len, taps, state⟩ = w at hok
    obtain ⟨N, rfl⟩ : ∃ N : Nat, n = (N : Int) := ⟨n.toNat, by omega⟩
    refine S_sh 200000 (by rw [hcx.2.2]; exact Nat.le_refl _) (by rfl) ?_
    simp (maxSteps := 4000000) -implicitDefEqProofs only [Ent.of0, Ent.of1, Ent.of2, Ent.of3, V, bO, bt, bE, cb, cN, cU, gt, lk, cJ, bQ, cm, cr, bM, cn, cn.subCs, cT, bg, a9, cg, az, a3, bn, aJ, bz, bo, aY, bF, ax, cu, cO, c6, aq, aX, bR, cI, cj, cY, cR, aV, an, bY, bj, zC, argS, bG, cH, cP, cW, ah, aw, aW, aA, cd, leC, ca, bP, cG, cS, bU, ay, aL, cK, au, cp, a7, a7.viewCs, bH, bH.flatCs, aR, aR.LensOks, Value.oneCell', ↓reduceIte, ite_true, ite_false, if_true, if_false, Nat.reduceAdd, Nat.reduceSub, Nat.reduceMul, Nat.reduceEqDiff, Nat.reduceLT, Nat.reduceLeDiff, reduceCtorEq, Int.reduceToNat, forall_const, implies_true, bm, Ent.mk3, bC, bu, bw, a5, a6, aZ, bK, bB, bI, bJ, bk, cD, bD, cQ, rn, bT, bT.renCs, aT, aU, aN, aN.viewOks, aI, a8, a8.flatBs, aG, ag, aH, ar, aQ, bv, bv.keysBs, aE, am, bp, bS, be, cC, af, af.passKs, aB, aO, ae, ae.lendKs, bV, cq, bW, bq, setInn, ai, cZ, cL, aC, bf, bZ, cc, aD, aP, Glob.gl, av, co, bL, b0, br, aj, bX, cM, cB, cV, bN, ap, ap.ptrOnlys, ak, aK, cz, aM, a4, bA, ce, aF, bh, cF, Nat.reduceBEq, undef]
    refine S_rangeFunc (f := 125) (first := [.agg (wireC w)]) (caps := []) (ich := []) (kr := 100000) (vals := outsW w) (N := N) (fin := false) [200007, 200003]
      (fun i => [(200007, .box [if i = 0 then .s (.slice none 0 0) else .isl 1 3 ((seqS w i).map cells)]), (200003, .box [.s (.int .i64 (N : Int))])])
      hcx.2.1 rfl (given_c w hok N (by omega)) ⟨⟨rfl, trivial⟩, trivial⟩ ⟨fun c hc => ?_, fun k c hc => by simp at hc⟩ ?_ (fun i hi => ?_) (fun k hk => ?_) (fun i hi => ?_) (fun i hi cx' _ hcx' => S_run [] 800 ?_) (fun h => by cases h)
    · simp only [List.append_nil, List.mem_singleton] at hc; subst hc; exact ⟨trivial, trivial, trivial, trivial⟩
    · simp (maxSteps := 4000000) -implicitDefEqProofs only [Ent.of0, Ent.of1, Ent.of2, Ent.of3, V, bO, bt, bE, cb, cN, cU, gt, lk, cJ, bQ, cm, cr, bM, cn, cn.subCs, cT, bg, a9, cg, az, a3, bn, aJ, bz, bo, aY, bF, ax, cu, cO, c6, aq, aX, bR, cI, cj, cY, cR, aV, an, bY, bj, zC, argS, bG, cH, cP, cW, ah, aw, aW, aA, cd, leC, ca, bP, cG, cS, bU, ay, aL, cK, au, cp, a7, a7.viewCs, bH, bH.flatCs, aR, aR.LensOks, Value.oneCell', ↓reduceIte, ite_true, ite_false, if_true, if_false, Nat.reduceAdd, Nat.reduceSub, Nat.reduceMul, Nat.reduceEqDiff, Nat.reduceLT, Nat.reduceLeDiff, reduceCtorEq, Int.reduceToNat, forall_const, implies_true, bm, Ent.mk3, bC, bu, bw, a5, a6, aZ, bK, bB, bI, bJ, bk, cD, bD, cQ, rn, bT, bT.renCs, aT, aU, aN, aN.viewOks, aI, a8, a8.flatBs, aG, ag, aH, ar, aQ, bv, bv.keysBs, aE, am, bp, bS, be, cC, af, af.passKs, aB, aO, ae, ae.lendKs, bV, cq, bW, bq, setInn, ai, cZ, cL, aC, bf, bZ, cc, aD, aP, Glob.gl, av, co, bL, b0, br, aj, bX, cM, cB, cV, bN, ap, ap.ptrOnlys, ak, aK, cz, aM, a4, bA, ce, aF, bh, cF, Nat.reduceBEq, undef]
    · simp (maxSteps := 4000000) -implicitDefEqProofs only [Ent.of0, Ent.of1, Ent.of2, Ent.of3, V, bO, bt, bE, cb, cN, cU, gt, lk, cJ, bQ, cm, cr, bM, cn, cn.subCs, cT, bg, a9, cg, az, a3, bn, aJ, bz, bo, aY, bF, ax, cu, cO, c6, aq, aX, bR, cI, cj, cY, cR, aV, an, bY, bj, zC, argS, bG, cH, cP, cW, ah, aw, aW, aA, cd, leC, ca, bP, cG, cS, bU, ay, aL, cK, au, cp, a7, a7.viewCs, bH, bH.flatCs, aR, aR.LensOks, Value.oneCell', ↓reduceIte, ite_true, ite_false, if_true, if_false, Nat.reduceAdd, Nat.reduceSub, Nat.reduceMul, Nat.reduceEqDiff, Nat.reduceLT, Nat.reduceLeDiff, reduceCtorEq, Int.reduceToNat, forall_const, implies_true, bm, Ent.mk3, bC, bu, bw, a5, a6, aZ, bK, bB, bI, bJ, bk, cD, bD, cQ, rn, bT, bT.renCs, aT, aU, aN, aN.viewOks, aI, a8, a8.flatBs, aG, ag, aH, ar, aQ, bv, bv.keysBs, aE, am, bp, bS, be, cC, af, af.passKs, aB, aO, ae, ae.lendKs, bV, cq, bW, bq, setInn, ai, cZ, cL, aC, bf, bZ, cc, aD, aP, Glob.gl, av, co, bL, b0, br, aj, bX, cM, cB, cV, bN, ap, ap.ptrOnlys, ak, aK, cz, aM, a4, bA, ce, aF, bh, cF, Nat.reduceBEq, undef]
      simp
    · rw [hcx.2.2]
      simp only [List.mem_cons, List.not_mem_nil, or_false] at hk
      omega
    · refine ⟨rfl, fun c hc => ?_⟩
      simp only [outsW, List.mem_singleton] at hc; subst hc; trivial
    · simp (maxSteps := 4000000) -implicitDefEqProofs only [outsW, Ent.of0, Ent.of1, Ent.of2, Ent.of3, V, bO, bt, bE, cb, cN, cU, gt, lk, cJ, bQ, cm, cr, bM, cn, cn.subCs, cT, bg, a9, cg, az, a3, bn, aJ, bz, bo, aY, bF, ax, cu, cO, c6, aq, aX, bR, cI, cj, cY, cR, aV, an, bY, bj, zC, argS, bG, cH, cP, cW, ah, aw, aW, aA, cd, leC, ca, bP, cG, cS, bU, ay, aL, cK, au, cp, a7, a7.viewCs, bH, bH.flatCs, aR, aR.LensOks, Value.oneCell', ↓reduceIte, ite_true, ite_false, if_true, if_false, Nat.reduceAdd, Nat.reduceSub, Nat.reduceMul, Nat.reduceEqDiff, Nat.reduceLT, Nat.reduceLeDiff, reduceCtorEq, Int.reduceToNat, forall_const, implies_true, bm, Ent.mk3, bC, bu, bw, a5, a6, aZ, bK, bB, bI, bJ, bk, cD, bD, cQ, rn, bT, bT.renCs, aT, aU, aN, aN.viewOks, aI, a8, a8.flatBs, aG, ag, aH, ar, aQ, bv, bv.keysBs, aE, am, bp, bS, be, cC, af, af.passKs, aB, aO, ae, ae.lendKs, bV, cq, bW, bq, setInn, ai, cZ, cL, aC, bf, bZ, cc, aD, aP, Glob.gl, av, co, bL, b0, br, aj, bX, cM, cB, cV, bN, ap, ap.ptrOnlys, ak, aK, cz, aM, a4, bA, ce, aF, bh, cF, Nat.reduceBEq, undef]
      intro cx'' _ _
      refine S_run [] 800 ?_
      have hlen : (seqS w i).length = i := by simp [seqS]
      have hNl : N ≤ 400 := by omega
      cases i with
      | zero =>
        have h1 : [[C.s (.int .i64 (outS (runW w 0) : Int))]] = (seqS w 1).map cells := by simp [seqS, List.range_succ, cells_int]
        delta c72r1
        simp (maxSteps := 4000000) -implicitDefEqProofs only [InR, Ent.of0, Ent.of1, Ent.of2, Ent.of3, V, bO, bt, bE, cb, cN, cU, gt, lk, cJ, bQ, cm, cr, bM, cn, cn.subCs, cT, bg, a9, cg, az, a3, bn, aJ, bz, bo, aY, bF, ax, cu, cO, c6, aq, aX, bR, cI, cj, cY, cR, aV, an, bY, bj, zC, argS, bG, cH, cP, cW, ah, aw, aW, aA, cd, leC, ca, bP, cG, cS, bU, ay, aL, cK, au, cp, a7, a7.viewCs, bH, bH.flatCs, aR, aR.LensOks, Value.oneCell', ↓reduceIte, ite_true, ite_false, if_true, if_false, Nat.reduceAdd, Nat.reduceSub, Nat.reduceMul, Nat.reduceEqDiff, Nat.reduceLT, Nat.reduceLeDiff, reduceCtorEq, Int.reduceToNat, forall_const, implies_true, bm, Ent.mk3, bC, bu, bw, a5, a6, aZ, bK, bB, bI, bJ, bk, cD, bD, cQ, rn, bT, bT.renCs, aT, aU, aN, aN.viewOks, aI, a8, a8.flatBs, aG, ag, aH, ar, aQ, bv, bv.keysBs, aE, am, bp, bS, be, cC, af, af.passKs, aB, aO, ae, ae.lendKs, bV, cq, bW, bq, setInn, ai, cZ, cL, aC, bf, bZ, cc, aD, aP, Glob.gl, av, co, bL, b0, br, aj, bX, cM, cB, cV, bN, ap, ap.ptrOnlys, ak, aK, cz, aM, a4, bA, ce, aF, bh, cF, Nat.reduceBEq, undef]
        refine ⟨by decide, ?_⟩
        rw [h1]
        split
        · rename_i hN
          have hN1 : N = 1 := by omega
          subst hN1
          refine ⟨.inr trivial, S_fzb 200007 rfl (S_run [] 800 ?_)⟩
          simp (maxSteps := 4000000) -implicitDefEqProofs only [rv72, he, Ent.of0, Ent.of1, Ent.of2, Ent.of3, V, bO, bt, bE, cb, cN, cU, gt, lk, cJ, bQ, cm, cr, bM, cn, cn.subCs, cT, bg, a9, cg, az, a3, bn, aJ, bz, bo, aY, bF, ax, cu, cO, c6, aq, aX, bR, cI, cj, cY, cR, aV, an, bY, bj, zC, argS, bG, cH, cP, cW, ah, aw, aW, aA, cd, leC, ca, bP, cG, cS, bU, ay, aL, cK, au, cp, a7, a7.viewCs, bH, bH.flatCs, aR, aR.LensOks, Value.oneCell', ↓reduceIte, ite_true, ite_false, if_true, if_false, Nat.reduceAdd, Nat.reduceSub, Nat.reduceMul, Nat.reduceEqDiff, Nat.reduceLT, Nat.reduceLeDiff, reduceCtorEq, Int.reduceToNat, forall_const, implies_true, bm, Ent.mk3, bC, bu, bw, a5, a6, aZ, bK, bB, bI, bJ, bk, cD, bD, cQ, rn, bT, bT.renCs, aT, aU, aN, aN.viewOks, aI, a8, a8.flatBs, aG, ag, aH, ar, aQ, bv, bv.keysBs, aE, am, bp, bS, be, cC, af, af.passKs, aB, aO, ae, ae.lendKs, bV, cq, bW, bq, setInn, ai, cZ, cL, aC, bf, bZ, cc, aD, aP, Glob.gl, av, co, bL, b0, br, aj, bX, cM, cB, cV, bN, ap, ap.ptrOnlys, ak, aK, cz, aM, a4, bA, ce, aF, bh, cF, Nat.reduceBEq, undef]
        · exact ⟨.inl (by omega), rfl⟩
      | succ i =>
        have h1 : (seqS w (i + 1)).map cells ++ [[C.s (.int .i64 (outS (runW w (i + 1)) : Int))]] = (seqS w (i + 1 + 1)).map cells := by rw [seqS_succ w (i + 1), List.map_append]; rfl
        have hl3 : (seqS w (i + 1 + 1)).length = i + 1 + 1 := by simp [seqS]
        delta c72r1
        simp (maxSteps := 4000000) -implicitDefEqProofs only [hlen, Nat.succ_ne_zero, InR, h1, Ent.of0, Ent.of1, Ent.of2, Ent.of3, V, bO, bt, bE, cb, cN, cU, gt, lk, cJ, bQ, cm, cr, bM, cn, cn.subCs, cT, bg, a9, cg, az, a3, bn, aJ, bz, bo, aY, bF, ax, cu, cO, c6, aq, aX, bR, cI, cj, cY, cR, aV, an, bY, bj, zC, argS, bG, cH, cP, cW, ah, aw, aW, aA, cd, leC, ca, bP, cG, cS, bU, ay, aL, cK, au, cp, a7, a7.viewCs, bH, bH.flatCs, aR, aR.LensOks, Value.oneCell', ↓reduceIte, ite_true, ite_false, if_true, if_false, Nat.reduceAdd, Nat.reduceSub, Nat.reduceMul, Nat.reduceEqDiff, Nat.reduceLT, Nat.reduceLeDiff, reduceCtorEq, Int.reduceToNat, forall_const, implies_true, bm, Ent.mk3, bC, bu, bw, a5, a6, aZ, bK, bB, bI, bJ, bk, cD, bD, cQ, rn, bT, bT.renCs, aT, aU, aN, aN.viewOks, aI, a8, a8.flatBs, aG, ag, aH, ar, aQ, bv, bv.keysBs, aE, am, bp, bS, be, cC, af, af.passKs, aB, aO, ae, ae.lendKs, bV, cq, bW, bq, setInn, ai, cZ, cL, aC, bf, bZ, cc, aD, aP, Glob.gl, av, co, bL, b0, br, aj, bX, cM, cB, cV, bN, ap, ap.ptrOnlys, ak, aK, cz, aM, a4, bA, ce, aF, bh, cF, Nat.reduceBEq, undef]
        refine ⟨⟨by decide, by omega, by omega⟩, by decide, ?_⟩
        split
        · rename_i hN
          have hN1 : N = i + 1 + 1 := by omega
          subst hN1
          refine ⟨.inr trivial, S_fzb 200007 rfl (S_run [] 800 ?_)⟩
          simp (maxSteps := 4000000) -implicitDefEqProofs only [rv72, he, Ent.of0, Ent.of1, Ent.of2, Ent.of3, V, bO, bt, bE, cb, cN, cU, gt, lk, cJ, bQ, cm, cr, bM, cn, cn.subCs, cT, bg, a9, cg, az, a3, bn, aJ, bz, bo, aY, bF, ax, cu, cO, c6, aq, aX, bR, cI, cj, cY, cR, aV, an, bY, bj, zC, argS, bG, cH, cP, cW, ah, aw, aW, aA, cd, leC, ca, bP, cG, cS, bU, ay, aL, cK, au, cp, a7, a7.viewCs, bH, bH.flatCs, aR, aR.LensOks, Value.oneCell', ↓reduceIte, ite_true, ite_false, if_true, if_false, Nat.reduceAdd, Nat.reduceSub, Nat.reduceMul, Nat.reduceEqDiff, Nat.reduceLT, Nat.reduceLeDiff, reduceCtorEq, Int.reduceToNat, forall_const, implies_true, bm, Ent.mk3, bC, bu, bw, a5, a6, aZ, bK, bB, bI, bJ, bk, cD, bD, cQ, rn, bT, bT.renCs, aT, aU, aN, aN.viewOks, aI, a8, a8.flatBs, aG, ag, aH, ar, aQ, bv, bv.keysBs, aE, am, bp, bS, be, cC, af, af.passKs, aB, aO, ae, ae.lendKs, bV, cq, bW, bq, setInn, ai, cZ, cL, aC, bf, bZ, cc, aD, aP, Glob.gl, av, co, bL, b0, br, aj, bX, cM, cB, cV, bN, ap, ap.ptrOnlys, ak, aK, cz, aM, a4, bA, ce, aF, bh, cF, Nat.reduceBEq, undef]
        · exact .inl (by omega)
  · rw [if_pos he, if_neg he]
    trivial
def e72 : Ent Try.prog := .of2 72 (fun _ _ => True) (fun (r : Reg) (n : Int) => .tup [enc (if sequenceErr r n = 0 then seqS (wireW r) n.toNat else []), enc (sequenceErr r n)]) (fun _ _ => ⟨trivial, trivial, trivial⟩) (fun r n _ => sequence_c r n)
end Go.Proofs.Ytfgpbmjmoobcnaa
end
section
open Go Go.Am
open Go.Am.Dat (cells)
namespace Go.Proofs.Ytfgpbmjmoobcnaa
set_option maxHeartbeats 4000000
set_option linter.unusedSimpArgs false
theorem wrap64 {a : Nat} (ha : a < 9223372036854775808) : IntKind.wrap .i64 (a : Int) = a := by
  show (if (true && decide ((a : Int) % 18446744073709551616 ≥ 9223372036854775808)) = true then (a : Int) % 18446744073709551616 - 18446744073709551616 else (a : Int) % 18446744073709551616) = a
  rw [if_neg (by simp; omega)]
  omega
theorem of64 {a : Nat} (ha : a < 18446744073709551616) : (BitVec.ofInt 64 (a : Int)).toNat = a := by
  rw [BitVec.ofInt_natCast, BitVec.toNat_ofNat]
  exact Nat.mod_eq_of_lt ha
theorem and64_1 {a : Nat} (ha : a < 9223372036854775808) : bitF .and .i64 (a : Int) 1 = ((a % 2 : Nat) : Int) := by
  show IntKind.wrap .i64 ((BitVec.ofInt 64 (a : Int) &&& BitVec.ofInt 64 ((1 : Nat) : Int)).toNat : Int) = _
  rw [BitVec.toNat_and, of64 (by omega), of64 (by decide), Nat.and_one_is_mod]
  exact wrap64 (by omega)
def bitsOfS (n c : Nat) : Nat → List Int
  | 0 => []
  | k + 1 => bitsOfS n c k ++ [((n / 2 ^ (c - 1 - k) % 2 : Nat) : Int)]
theorem bitsOfS_length (n c : Nat) : ∀ k, (bitsOfS n c k).length = k
  | 0 => rfl
  | k + 1 => by simp [bitsOfS, bitsOfS_length n c k]
theorem bitsOf_c (n c : Nat) (hn : n < 4096) (hc : c ≤ 12) : FC Try.prog 97 [enc (n : Int), enc (c : Int)] [] (enc (bitsOfS n c c)) [] := by
  refine fc_intro' is97 (by simp) (fun cx hl => S_run [] 800 ?_)
  delta c97
  simp (maxSteps := 4000000) -implicitDefEqProofs only [rv97, InR, Ent.of0, Ent.of1, Ent.of2, Ent.of3, V, bO, bt, bE, cb, cN, cU, gt, lk, cJ, bQ, cm, cr, bM, cn, cn.subCs, cT, bg, a9, cg, az, a3, bn, aJ, bz, bo, aY, bF, ax, cu, cO, c6, aq, aX, bR, cI, cj, cY, cR, aV, an, bY, bj, zC, argS, bG, cH, cP, cW, ah, aw, aW, aA, cd, leC, ca, bP, cG, cS, bU, ay, aL, cK, au, cp, a7, a7.viewCs, bH, bH.flatCs, aR, aR.LensOks, Value.oneCell', ↓reduceIte, ite_true, ite_false, if_true, if_false, Nat.reduceAdd, Nat.reduceSub, Nat.reduceMul, Nat.reduceEqDiff, Nat.reduceLT, Nat.reduceLeDiff, reduceCtorEq, Int.reduceToNat, forall_const, implies_true, bm, Ent.mk3, bC, bu, bw, a5, a6, aZ, bK, bB, bI, bJ, bk, cD, bD, cQ, rn, bT, bT.renCs, aT, aU, aN, aN.viewOks, aI, a8, a8.flatBs, aG, ag, aH, ar, aQ, bv, bv.keysBs, aE, am, bp, bS, be, cC, af, af.passKs, aB, aO, ae, ae.lendKs, bV, cq, bW, bq, setInn, ai, cZ, cL, aC, bf, bZ, cc, aD, aP, Glob.gl, av, co, bL, b0, br, aj, bX, cM, cB, cV, bN, ap, ap.ptrOnlys, ak, aK, cz, aM, a4, bA, ce, aF, bh, cF, Nat.reduceBEq, undef]
  refine ⟨by omega, ?_⟩
  refine S_forU c (fun k => [(6, .s (.int .i64 ((c : Int) - 1 - k)))]) (fun k => [(5, .row 1 3 ((bitsOfS n c k).map cells))]) (fun _ => True) trivial ?_ (fun k hk _ => S_run [] 800 ?_)
  · simp (maxSteps := 4000000) -implicitDefEqProofs only [bitsOfS, Ent.of0, Ent.of1, Ent.of2, Ent.of3, V, bO, bt, bE, cb, cN, cU, gt, lk, cJ, bQ, cm, cr, bM, cn, cn.subCs, cT, bg, a9, cg, az, a3, bn, aJ, bz, bo, aY, bF, ax, cu, cO, c6, aq, aX, bR, cI, cj, cY, cR, aV, an, bY, bj, zC, argS, bG, cH, cP, cW, ah, aw, aW, aA, cd, leC, ca, bP, cG, cS, bU, ay, aL, cK, au, cp, a7, a7.viewCs, bH, bH.flatCs, aR, aR.LensOks, Value.oneCell', ↓reduceIte, ite_true, ite_false, if_true, if_false, Nat.reduceAdd, Nat.reduceSub, Nat.reduceMul, Nat.reduceEqDiff, Nat.reduceLT, Nat.reduceLeDiff, reduceCtorEq, Int.reduceToNat, forall_const, implies_true, bm, Ent.mk3, bC, bu, bw, a5, a6, aZ, bK, bB, bI, bJ, bk, cD, bD, cQ, rn, bT, bT.renCs, aT, aU, aN, aN.viewOks, aI, a8, a8.flatBs, aG, ag, aH, ar, aQ, bv, bv.keysBs, aE, am, bp, bS, be, cC, af, af.passKs, aB, aO, ae, ae.lendKs, bV, cq, bW, bq, setInn, ai, cZ, cL, aC, bf, bZ, cc, aD, aP, Glob.gl, av, co, bL, b0, br, aj, bX, cM, cB, cV, bN, ap, ap.ptrOnlys, ak, aK, cz, aM, a4, bA, ce, aF, bh, cF, Nat.reduceBEq, undef]; simp
  · by_cases h : k < c
    · have hi : ((0 : Int) ≤ (c : Int) - 1 - k) := by omega
      have ht : ((c : Int) - 1 - k).toNat = c - 1 - k := by omega
      have hm : min (c - 1 - k) IntKind.i64.bits = c - 1 - k := Nat.min_eq_left (by show _ ≤ 64; omega)
      have hd : (n : Int).fdiv (2 ^ (c - 1 - k)) = ((n / 2 ^ (c - 1 - k) : Nat) : Int) := by
        rw [Int.fdiv_eq_ediv_of_nonneg _ (Int.le_of_lt (Int.pow_pos (by decide)))]; push_cast; rfl
      have hle : n / 2 ^ (c - 1 - k) ≤ n := Nat.div_le_self _ _
      have ha := and64_1 (a := n / 2 ^ (c - 1 - k)) (by omega)
      have hsucc : (bitsOfS n c k).map cells ++ [[C.s (.int .i64 ((n / 2 ^ (c - 1 - k) % 2 : Nat) : Int))]] = (bitsOfS n c (k + 1)).map cells := by rw [bitsOfS, List.map_append]; rfl
      have hlen := bitsOfS_length n c k
      delta c97l1
      simp (maxSteps := 4000000) -implicitDefEqProofs only [hi, ht, hm, hd, ha, hsucc, hlen, InR, Ent.of0, Ent.of1, Ent.of2, Ent.of3, V, bO, bt, bE, cb, cN, cU, gt, lk, cJ, bQ, cm, cr, bM, cn, cn.subCs, cT, bg, a9, cg, az, a3, bn, aJ, bz, bo, aY, bF, ax, cu, cO, c6, aq, aX, bR, cI, cj, cY, cR, aV, an, bY, bj, zC, argS, bG, cH, cP, cW, ah, aw, aW, aA, cd, leC, ca, bP, cG, cS, bU, ay, aL, cK, au, cp, a7, a7.viewCs, bH, bH.flatCs, aR, aR.LensOks, Value.oneCell', ↓reduceIte, ite_true, ite_false, if_true, if_false, Nat.reduceAdd, Nat.reduceSub, Nat.reduceMul, Nat.reduceEqDiff, Nat.reduceLT, Nat.reduceLeDiff, reduceCtorEq, Int.reduceToNat, forall_const, implies_true, bm, Ent.mk3, bC, bu, bw, a5, a6, aZ, bK, bB, bI, bJ, bk, cD, bD, cQ, rn, bT, bT.renCs, aT, aU, aN, aN.viewOks, aI, a8, a8.flatBs, aG, ag, aH, ar, aQ, bv, bv.keysBs, aE, am, bp, bS, be, cC, af, af.passKs, aB, aO, ae, ae.lendKs, bV, cq, bW, bq, setInn, ai, cZ, cL, aC, bf, bZ, cc, aD, aP, Glob.gl, av, co, bL, b0, br, aj, bX, cM, cB, cV, bN, ap, ap.ptrOnlys, ak, aK, cz, aM, a4, bA, ce, aF, bh, cF, Nat.reduceBEq, undef]
      exact ⟨by omega, by omega, h, by omega⟩
    · have hk2 : k = c := by omega
      subst hk2
      have hi : ¬ ((0 : Int) ≤ (k : Int) - 1 - k) := by omega
      delta c97l1
      simp (maxSteps := 4000000) -implicitDefEqProofs only [rv97, hi, InR, Ent.of0, Ent.of1, Ent.of2, Ent.of3, V, bO, bt, bE, cb, cN, cU, gt, lk, cJ, bQ, cm, cr, bM, cn, cn.subCs, cT, bg, a9, cg, az, a3, bn, aJ, bz, bo, aY, bF, ax, cu, cO, c6, aq, aX, bR, cI, cj, cY, cR, aV, an, bY, bj, zC, argS, bG, cH, cP, cW, ah, aw, aW, aA, cd, leC, ca, bP, cG, cS, bU, ay, aL, cK, au, cp, a7, a7.viewCs, bH, bH.flatCs, aR, aR.LensOks, Value.oneCell', ↓reduceIte, ite_true, ite_false, if_true, if_false, Nat.reduceAdd, Nat.reduceSub, Nat.reduceMul, Nat.reduceEqDiff, Nat.reduceLT, Nat.reduceLeDiff, reduceCtorEq, Int.reduceToNat, forall_const, implies_true, bm, Ent.mk3, bC, bu, bw, a5, a6, aZ, bK, bB, bI, bJ, bk, cD, bD, cQ, rn, bT, bT.renCs, aT, aU, aN, aN.viewOks, aI, a8, a8.flatBs, aG, ag, aH, ar, aQ, bv, bv.keysBs, aE, am, bp, bS, be, cC, af, af.passKs, aB, aO, ae, ae.lendKs, bV, cq, bW, bq, setInn, ai, cZ, cL, aC, bf, bZ, cc, aD, aP, Glob.gl, av, co, bL, b0, br, aj, bX, cM, cB, cV, bN, ap, ap.ptrOnlys, ak, aK, cz, aM, a4, bA, ce, aF, bh, cF, Nat.reduceBEq, undef]
def e97 : Ent Try.prog where
  id := 97
  sp := fun args chs => match args, chs with
    | [.s (.int .i64 n), .s (.int .i64 c)], [] => some (0 ≤ n ∧ n < 4096 ∧ 0 ≤ c ∧ c ≤ 12, enc (bitsOfS n.toNat c.toNat c.toNat), [], [])
    | _, _ => none
  ok := by
    intro args chs p r chs' nk hs hp
    split at hs
    · simp only [Option.some.injEq, Prod.mk.injEq] at hs
      obtain ⟨rfl, rfl, rfl, rfl⟩ := hs
      obtain ⟨h1, h2, h3, h4⟩ := hp
      rename_i n c
      have := bitsOf_c n.toNat c.toNat (by omega) (by omega)
      rw [Int.toNat_of_nonneg h1, Int.toNat_of_nonneg h3] at this
      exact ⟨this, .plain trivial⟩
    · cases hs
def levelS : List Int → Int
  | [] => 0
  | [b] => 1 - 2 * b
  | b :: l => (1 - 2 * b) * (2 ^ l.length - levelS l)
theorem levelS_le : ∀ l : List Int, (∀ b ∈ l, b = 0 ∨ b = 1) → -(2 ^ l.length) < levelS l ∧ levelS l < 2 ^ l.length
  | [], _ => by decide
  | [b], h => by rcases h b (by simp) with rfl | rfl <;> decide
  | b :: c :: l, h => by
    have ih := levelS_le (c :: l) (fun x hx => h x (List.mem_cons_of_mem _ hx))
    have hb := h b (by simp)
    simp only [levelS, List.length_cons] at ih ⊢
    generalize hq : levelS (c :: l) = q at *
    have e : (2 : Int) ^ (l.length + 1 + 1) = 2 * 2 ^ (l.length + 1) := by rw [Int.pow_succ]; omega
    rw [e]
    generalize (2 : Int) ^ (l.length + 1) = p at *
    rcases hb with rfl | rfl
    · constructor <;> omega
    · constructor <;> omega
theorem level_c : ∀ (m : Nat) (l : List Int), l.length ≤ m → 0 < l.length → l.length ≤ 6 → (∀ b ∈ l, b = 0 ∨ b = 1) → FC Try.prog 106 [enc l] [] (enc (levelS l)) [] := by
  intro m
  induction m with
  | zero => intro l h1 h2; omega
  | succ m ih =>
    intro l h1 h2 h3 hb
    obtain ⟨b, t, rfl⟩ : ∃ b t, l = b :: t := by cases l with | nil => simp at h2 | cons b t => exact ⟨b, t, rfl⟩
    simp only [List.length_cons] at h1 h3
    have hbb := hb b (by simp)
    have hbt : ∀ x ∈ t, x = 0 ∨ x = 1 := fun x hx => hb x (List.mem_cons_of_mem _ hx)
    have hll := levelS_le t hbt
    have hpp : (2 : Int) ^ t.length ≤ 32 := by
      have : 2 ^ t.length ≤ 2 ^ 5 := Nat.pow_le_pow_right (by decide) (by omega)
      exact_mod_cast this
    refine fc_intro' is106 (by simp) (fun cx hl => S_run [.of1 106 (fun a => a = t ∧ 0 < t.length) (fun a => enc (levelS a)) (fun _ => trivial) (fun a ha => by obtain ⟨rfl, h⟩ := ha; exact ih a (by omega) h (by omega) hbt)] 800 ?_)
    have htk : List.take t.length (List.map cells t) = List.map cells t := by rw [List.take_of_length_le (by simp)]
    have hmin : min t.length IntKind.i64.bits = t.length := Nat.min_eq_left (by show _ ≤ 64; omega)
    have hone : (((t.length + 1 : Nat) : Int) = 1) ↔ t.length = 0 := by omega
    delta c106
    simp (maxSteps := 4000000) -implicitDefEqProofs only [rv106, htk, hmin, hone, InR, Ent.of0, Ent.of1, Ent.of2, Ent.of3, V, bO, bt, bE, cb, cN, cU, gt, lk, cJ, bQ, cm, cr, bM, cn, cn.subCs, cT, bg, a9, cg, az, a3, bn, aJ, bz, bo, aY, bF, ax, cu, cO, c6, aq, aX, bR, cI, cj, cY, cR, aV, an, bY, bj, zC, argS, bG, cH, cP, cW, ah, aw, aW, aA, cd, leC, ca, bP, cG, cS, bU, ay, aL, cK, au, cp, a7, a7.viewCs, bH, bH.flatCs, aR, aR.LensOks, Value.oneCell', ↓reduceIte, ite_true, ite_false, if_true, if_false, Nat.reduceAdd, Nat.reduceSub, Nat.reduceMul, Nat.reduceEqDiff, Nat.reduceLT, Nat.reduceLeDiff, reduceCtorEq, Int.reduceToNat, forall_const, implies_true, bm, Ent.mk3, bC, bu, bw, a5, a6, aZ, bK, bB, bI, bJ, bk, cD, bD, cQ, rn, bT, bT.renCs, aT, aU, aN, aN.viewOks, aI, a8, a8.flatBs, aG, ag, aH, ar, aQ, bv, bv.keysBs, aE, am, bp, bS, be, cC, af, af.passKs, aB, aO, ae, ae.lendKs, bV, cq, bW, bq, setInn, ai, cZ, cL, aC, bf, bZ, cc, aD, aP, Glob.gl, av, co, bL, b0, br, aj, bX, cM, cB, cV, bN, ap, ap.ptrOnlys, ak, aK, cz, aM, a4, bA, ce, aF, bh, cF, Nat.reduceBEq, undef]
    refine ⟨by omega, by omega, by omega, ?_⟩
    split
    · rename_i h0
      have : t = [] := by simpa using h0
      subst this; rfl
    · rename_i h0
      obtain ⟨c, t', rfl⟩ : ∃ c t', t = c :: t' := by cases t with | nil => simp at h0 | cons c t' => exact ⟨c, t', rfl⟩
      have hpos : (0 : Int) < 2 ^ (c :: t').length := Int.pow_pos (by decide)
      simp only [levelS]
      generalize (2 : Int) ^ (c :: t').length = p at *
      generalize levelS (c :: t') = q at *
      simp only [List.length_cons] at *
      refine ⟨by omega, by omega, by omega, by omega, ?_, by rw [Int.one_mul]⟩
      rcases hbb with rfl | rfl <;> omega
def bitsOk (l : List Int) : Prop := ∀ b ∈ l, b = 0 ∨ b = 1
def e106 : Ent Try.prog := .of1 106 (fun l => 0 < l.length ∧ l.length ≤ 6 ∧ bitsOk l) (fun l : List Int => enc (levelS l)) (fun _ => trivial) (fun l h => level_c _ l (Nat.le_refl _) h.1 h.2.1 h.2.2)
theorem bitsOfS_ok (n c : Nat) : ∀ k, bitsOk (bitsOfS n c k)
  | 0 => fun b h => by simp [bitsOfS] at h
  | k + 1 => fun b h => by
    simp only [bitsOfS, List.mem_append, List.mem_singleton] at h
    rcases h with h | h
    · exact bitsOfS_ok n c k b h
    · omega
end Go.Proofs.Ytfgpbmjmoobcnaa
end
section
open Go Go.Am
open Go.Am.Dat (cells)
namespace Go.Proofs.Ytfgpbmjmoobcnaa
set_option maxHeartbeats 4000000
set_option maxRecDepth 100000
set_option linter.unusedSimpArgs false
def evens : List Int → List Int
  | a :: _ :: l => a :: evens l
  | [a] => [a]
  | [] => []
def odds : List Int → List Int
  | _ :: b :: l => b :: odds l
  | _ => []
def pointS (l : List Int) : Gs := ⟨levelS (evens l), levelS (odds l)⟩
theorem point2_c (a b : Int) (h : bitsOk [a, b]) : FC Try.prog 96 [enc [a, b]] [] (enc (pointS [a, b])) [] := by
  have h1 : bitsOk [a] := fun x hx => h x (by simp at hx; simp [hx])
  have h2 : bitsOk [b] := fun x hx => h x (by simp at hx; simp [hx])
  refine fc_intro' is96 (by simp) (fun cx hl => S_runU [e106] 400 ?_)
  delta c96 c96l1
  simp (maxSteps := 4000000) -implicitDefEqProofs only [rv96, e106, h1, h2, InR, pointS, evens, odds, Int.cast_ofNat_Int, Int.natCast_one, Int.natCast_zero, Int.reduceAdd, Int.reduceSub, Int.reduceMul, Int.reduceLT, Int.reduceLE, Int.reduceTMod, Int.reduceTDiv, Int.reduceNeg, Int.reduceEq, Nat.reducePow, Int.reducePow, ne_eq, not_false_eq_true, Ent.of0, Ent.of1, Ent.of2, Ent.of3, V, bO, bt, bE, cb, cN, cU, gt, lk, cJ, bQ, cm, cr, bM, cn, cn.subCs, cT, bg, a9, cg, az, a3, bn, aJ, bz, bo, aY, bF, ax, cu, cO, c6, aq, aX, bR, cI, cj, cY, cR, aV, an, bY, bj, zC, argS, bG, cH, cP, cW, ah, aw, aW, aA, cd, leC, ca, bP, cG, cS, bU, ay, aL, cK, au, cp, a7, a7.viewCs, bH, bH.flatCs, aR, aR.LensOks, Value.oneCell', ↓reduceIte, ite_true, ite_false, if_true, if_false, Nat.reduceAdd, Nat.reduceSub, Nat.reduceMul, Nat.reduceEqDiff, Nat.reduceLT, Nat.reduceLeDiff, reduceCtorEq, Int.reduceToNat, forall_const, implies_true, bm, Ent.mk3, bC, bu, bw, a5, a6, aZ, bK, bB, bI, bJ, bk, cD, bD, cQ, rn, bT, bT.renCs, aT, aU, aN, aN.viewOks, aI, a8, a8.flatBs, aG, ag, aH, ar, aQ, bv, bv.keysBs, aE, am, bp, bS, be, cC, af, af.passKs, aB, aO, ae, ae.lendKs, bV, cq, bW, bq, setInn, ai, cZ, cL, aC, bf, bZ, cc, aD, aP, Glob.gl, av, co, bL, b0, br, aj, bX, cM, cB, cV, bN, ap, ap.ptrOnlys, ak, aK, cz, aM, a4, bA, ce, aF, bh, cF, Nat.reduceBEq, undef]
theorem point4_c (a b c d : Int) (h : bitsOk [a, b, c, d]) : FC Try.prog 96 [enc [a, b, c, d]] [] (enc (pointS [a, b, c, d])) [] := by
  have h1 : bitsOk [a, c] := fun x hx => h x (by simp at hx ⊢; grind)
  have h2 : bitsOk [b, d] := fun x hx => h x (by simp at hx ⊢; grind)
  refine fc_intro' is96 (by simp) (fun cx hl => S_runU [e106] 600 ?_)
  delta c96 c96l1
  simp (maxSteps := 4000000) -implicitDefEqProofs only [rv96, e106, h1, h2, InR, pointS, evens, odds, Int.cast_ofNat_Int, Int.natCast_one, Int.natCast_zero, Int.reduceAdd, Int.reduceSub, Int.reduceMul, Int.reduceLT, Int.reduceLE, Int.reduceTMod, Int.reduceTDiv, Int.reduceNeg, Int.reduceEq, Nat.reducePow, Int.reducePow, ne_eq, not_false_eq_true, Ent.of0, Ent.of1, Ent.of2, Ent.of3, V, bO, bt, bE, cb, cN, cU, gt, lk, cJ, bQ, cm, cr, bM, cn, cn.subCs, cT, bg, a9, cg, az, a3, bn, aJ, bz, bo, aY, bF, ax, cu, cO, c6, aq, aX, bR, cI, cj, cY, cR, aV, an, bY, bj, zC, argS, bG, cH, cP, cW, ah, aw, aW, aA, cd, leC, ca, bP, cG, cS, bU, ay, aL, cK, au, cp, a7, a7.viewCs, bH, bH.flatCs, aR, aR.LensOks, Value.oneCell', ↓reduceIte, ite_true, ite_false, if_true, if_false, Nat.reduceAdd, Nat.reduceSub, Nat.reduceMul, Nat.reduceEqDiff, Nat.reduceLT, Nat.reduceLeDiff, reduceCtorEq, Int.reduceToNat, forall_const, implies_true, bm, Ent.mk3, bC, bu, bw, a5, a6, aZ, bK, bB, bI, bJ, bk, cD, bD, cQ, rn, bT, bT.renCs, aT, aU, aN, aN.viewOks, aI, a8, a8.flatBs, aG, ag, aH, ar, aQ, bv, bv.keysBs, aE, am, bp, bS, be, cC, af, af.passKs, aB, aO, ae, ae.lendKs, bV, cq, bW, bq, setInn, ai, cZ, cL, aC, bf, bZ, cc, aD, aP, Glob.gl, av, co, bL, b0, br, aj, bX, cM, cB, cV, bN, ap, ap.ptrOnlys, ak, aK, cz, aM, a4, bA, ce, aF, bh, cF, Nat.reduceBEq, undef]
theorem point6_c (a b c d e f : Int) (h : bitsOk [a, b, c, d, e, f]) : FC Try.prog 96 [enc [a, b, c, d, e, f]] [] (enc (pointS [a, b, c, d, e, f])) [] := by
  have h1 : bitsOk [a, c, e] := fun x hx => h x (by simp at hx ⊢; grind)
  have h2 : bitsOk [b, d, f] := fun x hx => h x (by simp at hx ⊢; grind)
  refine fc_intro' is96 (by simp) (fun cx hl => S_runU [e106] 800 ?_)
  delta c96 c96l1
  simp (maxSteps := 4000000) -implicitDefEqProofs only [rv96, e106, h1, h2, InR, pointS, evens, odds, Int.cast_ofNat_Int, Int.natCast_one, Int.natCast_zero, Int.reduceAdd, Int.reduceSub, Int.reduceMul, Int.reduceLT, Int.reduceLE, Int.reduceTMod, Int.reduceTDiv, Int.reduceNeg, Int.reduceEq, Nat.reducePow, Int.reducePow, ne_eq, not_false_eq_true, Ent.of0, Ent.of1, Ent.of2, Ent.of3, V, bO, bt, bE, cb, cN, cU, gt, lk, cJ, bQ, cm, cr, bM, cn, cn.subCs, cT, bg, a9, cg, az, a3, bn, aJ, bz, bo, aY, bF, ax, cu, cO, c6, aq, aX, bR, cI, cj, cY, cR, aV, an, bY, bj, zC, argS, bG, cH, cP, cW, ah, aw, aW, aA, cd, leC, ca, bP, cG, cS, bU, ay, aL, cK, au, cp, a7, a7.viewCs, bH, bH.flatCs, aR, aR.LensOks, Value.oneCell', ↓reduceIte, ite_true, ite_false, if_true, if_false, Nat.reduceAdd, Nat.reduceSub, Nat.reduceMul, Nat.reduceEqDiff, Nat.reduceLT, Nat.reduceLeDiff, reduceCtorEq, Int.reduceToNat, forall_const, implies_true, bm, Ent.mk3, bC, bu, bw, a5, a6, aZ, bK, bB, bI, bJ, bk, cD, bD, cQ, rn, bT, bT.renCs, aT, aU, aN, aN.viewOks, aI, a8, a8.flatBs, aG, ag, aH, ar, aQ, bv, bv.keysBs, aE, am, bp, bS, be, cC, af, af.passKs, aB, aO, ae, ae.lendKs, bV, cq, bW, bq, setInn, ai, cZ, cL, aC, bf, bZ, cc, aD, aP, Glob.gl, av, co, bL, b0, br, aj, bX, cM, cB, cV, bN, ap, ap.ptrOnlys, ak, aK, cz, aM, a4, bA, ce, aF, bh, cF, Nat.reduceBEq, undef]
theorem point_c (l : List Int) (hl : l.length = 2 ∨ l.length = 4 ∨ l.length = 6) (h : bitsOk l) : FC Try.prog 96 [enc l] [] (enc (pointS l)) [] := by
  match l, hl with
  | [a, b], _ => exact point2_c a b h
  | [a, b, c, d], _ => exact point4_c a b c d h
  | [a, b, c, d, e, f], _ => exact point6_c a b c d e f h
  | [], hl => simp at hl
  | [_], hl => simp at hl
  | [_, _, _], hl => simp at hl
  | [_, _, _, _, _], hl => simp at hl
  | _ :: _ :: _ :: _ :: _ :: _ :: _ :: _, hl => simp at hl
def e96 : Ent Try.prog := .of1 96 (fun l => (l.length = 2 ∨ l.length = 4 ∨ l.length = 6) ∧ bitsOk l) (fun l : List Int => enc (pointS l)) (fun l => ⟨trivial, trivial, trivial⟩) (fun l h => point_c l h.1 h.2)
end Go.Proofs.Ytfgpbmjmoobcnaa
end
section
open Go Go.Am
open Go.Am.Dat (cells)
namespace Go.Proofs.Ytfgpbmjmoobcnaa
set_option maxHeartbeats 4000000
set_option linter.unusedSimpArgs false
def chunkAt (l : List Int) (n j : Nat) : List Int := (l.drop (j * n)).take n
def chunkV (l : List Int) (n j : Nat) : List C := [.sl 1 ((chunkAt l n j).map cells)]
theorem chunk_c (l : List Int) (n N : Nat) (hn : 0 < n) (hN : 0 < N) (hl : l.length = N * n) (hle : l.length ≤ 1000000) : ItC Try.prog 130 [] [.ptr 200025 0, .ptr 201025 0] [(200025, .box [.sl 1 (l.map cells)]), (201025, .box [.s (.int .i64 (n : Int))])] 100000 (chunkV l n) N true := by
  intro yl R Rf hy
  refine fco_intro [] is130 (by simp) (by simp) (fun o ho k cs hm => by simp at ho; rcases ho with rfl | rfl <;> simp at hm) (fun cx _ _ _ => S_run [] 800 ?_)
  delta c130
  simp (maxSteps := 4000000) -implicitDefEqProofs only [rv130, List.append_nil, Ent.of0, Ent.of1, Ent.of2, Ent.of3, V, bO, bt, bE, cb, cN, cU, gt, lk, cJ, bQ, cm, cr, bM, cn, cn.subCs, cT, bg, a9, cg, az, a3, bn, aJ, bz, bo, aY, bF, ax, cu, cO, c6, aq, aX, bR, cI, cj, cY, cR, aV, an, bY, bj, zC, argS, bG, cH, cP, cW, ah, aw, aW, aA, cd, leC, ca, bP, cG, cS, bU, ay, aL, cK, au, cp, a7, a7.viewCs, bH, bH.flatCs, aR, aR.LensOks, Value.oneCell', ↓reduceIte, ite_true, ite_false, if_true, if_false, Nat.reduceAdd, Nat.reduceSub, Nat.reduceMul, Nat.reduceEqDiff, Nat.reduceLT, Nat.reduceLeDiff, reduceCtorEq, Int.reduceToNat, forall_const, implies_true, bm, Ent.mk3, bC, bu, bw, a5, a6, aZ, bK, bB, bI, bJ, bk, cD, bD, cQ, rn, bT, bT.renCs, aT, aU, aN, aN.viewOks, aI, a8, a8.flatBs, aG, ag, aH, ar, aQ, bv, bv.keysBs, aE, am, bp, bS, be, cC, af, af.passKs, aB, aO, ae, ae.lendKs, bV, cq, bW, bq, setInn, ai, cZ, cL, aC, bf, bZ, cc, aD, aP, Glob.gl, av, co, bL, b0, br, aj, bX, cM, cB, cV, bN, ap, ap.ptrOnlys, ak, aK, cz, aM, a4, bA, ce, aF, bh, cF, Nat.reduceBEq, undef]
  refine S_loopU (α := Nat) (fun j => [(4, .s (.int .i64 ((j * n : Nat) : Int)))]) (fun j => [(100000, .res (R j))]) (fun j => j ≤ N) (fun j => N - j) 0 (Nat.zero_le _) ?_ (fun j hj => S_run [] 800 ?_)
  · simp (maxSteps := 4000000) -implicitDefEqProofs only [Nat.zero_mul, Ent.of0, Ent.of1, Ent.of2, Ent.of3, V, bO, bt, bE, cb, cN, cU, gt, lk, cJ, bQ, cm, cr, bM, cn, cn.subCs, cT, bg, a9, cg, az, a3, bn, aJ, bz, bo, aY, bF, ax, cu, cO, c6, aq, aX, bR, cI, cj, cY, cR, aV, an, bY, bj, zC, argS, bG, cH, cP, cW, ah, aw, aW, aA, cd, leC, ca, bP, cG, cS, bU, ay, aL, cK, au, cp, a7, a7.viewCs, bH, bH.flatCs, aR, aR.LensOks, Value.oneCell', ↓reduceIte, ite_true, ite_false, if_true, if_false, Nat.reduceAdd, Nat.reduceSub, Nat.reduceMul, Nat.reduceEqDiff, Nat.reduceLT, Nat.reduceLeDiff, reduceCtorEq, Int.reduceToNat, forall_const, implies_true, bm, Ent.mk3, bC, bu, bw, a5, a6, aZ, bK, bB, bI, bJ, bk, cD, bD, cQ, rn, bT, bT.renCs, aT, aU, aN, aN.viewOks, aI, a8, a8.flatBs, aG, ag, aH, ar, aQ, bv, bv.keysBs, aE, am, bp, bS, be, cC, af, af.passKs, aB, aO, ae, ae.lendKs, bV, cq, bW, bq, setInn, ai, cZ, cL, aC, bf, bZ, cc, aD, aP, Glob.gl, av, co, bL, b0, br, aj, bX, cM, cB, cV, bN, ap, ap.ptrOnlys, ak, aK, cz, aM, a4, bA, ce, aF, bh, cF, Nat.reduceBEq, undef]
    simp
  · by_cases h : j < N
    · have hjn : j * n + n ≤ N * n := by
        have := Nat.mul_le_mul_right n (show j + 1 ≤ N by omega)
        rwa [Nat.add_mul, Nat.one_mul] at this
      have hi : ((j * n : Nat) : Int) < (l.length : Int) := by omega
      have htk : List.take l.length (List.map cells l) = List.map cells l := List.take_of_length_le (by simp)
      have hcmp : ((List.drop (j * n) (List.map cells l)).length : Int) < (n : Int) ↔ False := by
        rw [List.length_drop, List.length_map]; constructor
        · intro h; omega
        · exact fun h => h.elim
      have hnn : ((j * n : Nat) : Int) + (n : Int) = ((j * n + n : Nat) : Int) := by push_cast; rfl
      have hcc : List.drop (j * n) (List.take (j * n + n) (List.map cells l)) = (chunkAt l n j).map cells := by
        rw [chunkAt, ← List.map_take, ← List.map_drop, List.drop_take]
        congr 2; omega
      delta c130l1
      simp (maxSteps := 4000000) -implicitDefEqProofs only [hi, htk, hcmp, hnn, hcc, InR, Ent.of0, Ent.of1, Ent.of2, Ent.of3, V, bO, bt, bE, cb, cN, cU, gt, lk, cJ, bQ, cm, cr, bM, cn, cn.subCs, cT, bg, a9, cg, az, a3, bn, aJ, bz, bo, aY, bF, ax, cu, cO, c6, aq, aX, bR, cI, cj, cY, cR, aV, an, bY, bj, zC, argS, bG, cH, cP, cW, ah, aw, aW, aA, cd, leC, ca, bP, cG, cS, bU, ay, aL, cK, au, cp, a7, a7.viewCs, bH, bH.flatCs, aR, aR.LensOks, Value.oneCell', ↓reduceIte, ite_true, ite_false, if_true, if_false, Nat.reduceAdd, Nat.reduceSub, Nat.reduceMul, Nat.reduceEqDiff, Nat.reduceLT, Nat.reduceLeDiff, reduceCtorEq, Int.reduceToNat, forall_const, implies_true, bm, Ent.mk3, bC, bu, bw, a5, a6, aZ, bK, bB, bI, bJ, bk, cD, bD, cQ, rn, bT, bT.renCs, aT, aU, aN, aN.viewOks, aI, a8, a8.flatBs, aG, ag, aH, ar, aQ, bv, bv.keysBs, aE, am, bp, bS, be, cC, af, af.passKs, aB, aO, ae, ae.lendKs, bV, cq, bW, bq, setInn, ai, cZ, cL, aC, bf, bZ, cc, aD, aP, Glob.gl, av, co, bL, b0, br, aj, bX, cM, cB, cV, bN, ap, ap.ptrOnlys, ak, aK, cz, aM, a4, bA, ce, aF, bh, cF, Nat.reduceBEq, undef]
      refine ⟨by omega, by omega, by omega, by omega, ?_⟩
      refine D_outs rfl (OpM.yield (l := yl) (kr := 100000) (xs := chunkV l n j) (R := R j) rfl rfl rfl (hy j h)) (fun ef hef => ?_)
      rw [if_pos (.inr rfl)] at hef
      simp only [bA, List.mem_cons, List.not_mem_nil, or_false] at hef
      rcases hef with rfl | rfl
      · refine D_run [] 800 ?_
        simp (maxSteps := 4000000) -implicitDefEqProofs only [rv130, InR, hnn, Ent.of0, Ent.of1, Ent.of2, Ent.of3, V, bO, bt, bE, cb, cN, cU, gt, lk, cJ, bQ, cm, cr, bM, cn, cn.subCs, cT, bg, a9, cg, az, a3, bn, aJ, bz, bo, aY, bF, ax, cu, cO, c6, aq, aX, bR, cI, cj, cY, cR, aV, an, bY, bj, zC, argS, bG, cH, cP, cW, ah, aw, aW, aA, cd, leC, ca, bP, cG, cS, bU, ay, aL, cK, au, cp, a7, a7.viewCs, bH, bH.flatCs, aR, aR.LensOks, Value.oneCell', ↓reduceIte, ite_true, ite_false, if_true, if_false, Nat.reduceAdd, Nat.reduceSub, Nat.reduceMul, Nat.reduceEqDiff, Nat.reduceLT, Nat.reduceLeDiff, reduceCtorEq, Int.reduceToNat, forall_const, implies_true, bm, Ent.mk3, bC, bu, bw, a5, a6, aZ, bK, bB, bI, bJ, bk, cD, bD, cQ, rn, bT, bT.renCs, aT, aU, aN, aN.viewOks, aI, a8, a8.flatBs, aG, ag, aH, ar, aQ, bv, bv.keysBs, aE, am, bp, bS, be, cC, af, af.passKs, aB, aO, ae, ae.lendKs, bV, cq, bW, bq, setInn, ai, cZ, cL, aC, bf, bZ, cc, aD, aP, Glob.gl, av, co, bL, b0, br, aj, bX, cM, cB, cV, bN, ap, ap.ptrOnlys, ak, aK, cz, aM, a4, bA, ce, aF, bh, cF, Nat.reduceBEq, undef]
        refine ⟨by omega, j + 1, h, by omega, ?_⟩
        exact ⟨by rw [Nat.add_mul, Nat.one_mul], rfl⟩
      · refine D_run [] 800 ?_
        simp (maxSteps := 4000000) -implicitDefEqProofs only [rv130, Ent.of0, Ent.of1, Ent.of2, Ent.of3, V, bO, bt, bE, cb, cN, cU, gt, lk, cJ, bQ, cm, cr, bM, cn, cn.subCs, cT, bg, a9, cg, az, a3, bn, aJ, bz, bo, aY, bF, ax, cu, cO, c6, aq, aX, bR, cI, cj, cY, cR, aV, an, bY, bj, zC, argS, bG, cH, cP, cW, ah, aw, aW, aA, cd, leC, ca, bP, cG, cS, bU, ay, aL, cK, au, cp, a7, a7.viewCs, bH, bH.flatCs, aR, aR.LensOks, Value.oneCell', ↓reduceIte, ite_true, ite_false, if_true, if_false, Nat.reduceAdd, Nat.reduceSub, Nat.reduceMul, Nat.reduceEqDiff, Nat.reduceLT, Nat.reduceLeDiff, reduceCtorEq, Int.reduceToNat, forall_const, implies_true, bm, Ent.mk3, bC, bu, bw, a5, a6, aZ, bK, bB, bI, bJ, bk, cD, bD, cQ, rn, bT, bT.renCs, aT, aU, aN, aN.viewOks, aI, a8, a8.flatBs, aG, ag, aH, ar, aQ, bv, bv.keysBs, aE, am, bp, bS, be, cC, af, af.passKs, aB, aO, ae, ae.lendKs, bV, cq, bW, bq, setInn, ai, cZ, cL, aC, bf, bZ, cc, aD, aP, Glob.gl, av, co, bL, b0, br, aj, bX, cM, cB, cV, bN, ap, ap.ptrOnlys, ak, aK, cz, aM, a4, bA, ce, aF, bh, cF, Nat.reduceBEq, undef]
        exact ⟨_, List.mem_cons_self, trivial, rfl, trivial⟩
    · have hj2 : j = N := by omega
      subst hj2
      have hi : ¬ ((j * n : Nat) : Int) < (l.length : Int) := by omega
      delta c130l1
      simp (maxSteps := 4000000) -implicitDefEqProofs only [hi, rv130, InR, Ent.of0, Ent.of1, Ent.of2, Ent.of3, V, bO, bt, bE, cb, cN, cU, gt, lk, cJ, bQ, cm, cr, bM, cn, cn.subCs, cT, bg, a9, cg, az, a3, bn, aJ, bz, bo, aY, bF, ax, cu, cO, c6, aq, aX, bR, cI, cj, cY, cR, aV, an, bY, bj, zC, argS, bG, cH, cP, cW, ah, aw, aW, aA, cd, leC, ca, bP, cG, cS, bU, ay, aL, cK, au, cp, a7, a7.viewCs, bH, bH.flatCs, aR, aR.LensOks, Value.oneCell', ↓reduceIte, ite_true, ite_false, if_true, if_false, Nat.reduceAdd, Nat.reduceSub, Nat.reduceMul, Nat.reduceEqDiff, Nat.reduceLT, Nat.reduceLeDiff, reduceCtorEq, Int.reduceToNat, forall_const, implies_true, bm, Ent.mk3, bC, bu, bw, a5, a6, aZ, bK, bB, bI, bJ, bk, cD, bD, cQ, rn, bT, bT.renCs, aT, aU, aN, aN.viewOks, aI, a8, a8.flatBs, aG, ag, aH, ar, aQ, bv, bv.keysBs, aE, am, bp, bS, be, cC, af, af.passKs, aB, aO, ae, ae.lendKs, bV, cq, bW, bq, setInn, ai, cZ, cL, aC, bf, bZ, cc, aD, aP, Glob.gl, av, co, bL, b0, br, aj, bX, cM, cB, cV, bN, ap, ap.ptrOnlys, ak, aK, cz, aM, a4, bA, ce, aF, bh, cF, Nat.reduceBEq, undef]
      exact ⟨_, List.mem_cons_of_mem _ List.mem_cons_self, trivial, rfl, trivial⟩
theorem Chunk_c (l : List Int) (n : Nat) (hn : 0 < n) : FC Try.prog 99 [enc l, enc (n : Int)] [] (.fn (.func 130) [] [.ptr 2 0, .ptr 3 0]) [(2, .box [enc l]), (3, .box [enc (n : Int)])] := by
  refine fc_introC [] is99 (by simp) (by simp [bX]) (by simp [ay, aL, cg]) (by simp [ay, aL, cg]) (by simp [aj, lk]) (fun cx _ _ _ => S_run [] 800 ?_)
  have h1 : ¬ ((n : Int) < 1) := by omega
  delta c99
  simp (maxSteps := 4000000) -implicitDefEqProofs only [rv99, h1, Ent.of0, Ent.of1, Ent.of2, Ent.of3, V, bO, bt, bE, cb, cN, cU, gt, lk, cJ, bQ, cm, cr, bM, cn, cn.subCs, cT, bg, a9, cg, az, a3, bn, aJ, bz, bo, aY, bF, ax, cu, cO, c6, aq, aX, bR, cI, cj, cY, cR, aV, an, bY, bj, zC, argS, bG, cH, cP, cW, ah, aw, aW, aA, cd, leC, ca, bP, cG, cS, bU, ay, aL, cK, au, cp, a7, a7.viewCs, bH, bH.flatCs, aR, aR.LensOks, Value.oneCell', ↓reduceIte, ite_true, ite_false, if_true, if_false, Nat.reduceAdd, Nat.reduceSub, Nat.reduceMul, Nat.reduceEqDiff, Nat.reduceLT, Nat.reduceLeDiff, reduceCtorEq, Int.reduceToNat, forall_const, implies_true, bm, Ent.mk3, bC, bu, bw, a5, a6, aZ, bK, bB, bI, bJ, bk, cD, bD, cQ, rn, bT, bT.renCs, aT, aU, aN, aN.viewOks, aI, a8, a8.flatBs, aG, ag, aH, ar, aQ, bv, bv.keysBs, aE, am, bp, bS, be, cC, af, af.passKs, aB, aO, ae, ae.lendKs, bV, cq, bW, bq, setInn, ai, cZ, cL, aC, bf, bZ, cc, aD, aP, Glob.gl, av, co, bL, b0, br, aj, bX, cM, cB, cV, bN, ap, ap.ptrOnlys, ak, aK, cz, aM, a4, bA, ce, aF, bh, cF, Nat.reduceBEq, undef]
def e99 : Ent Try.prog where
  id := 99
  sp := fun args chs => match args, chs with
    | [x, .s (.int .i64 n)], [] => (decV x).bind fun l : List Int => some (0 < n, .fn (.func 130) [] [.ptr 2 0, .ptr 3 0], [(2, .box [.sl 1 (l.map cells)]), (3, .box [.s (.int .i64 n)])], [2, 3])
    | _, _ => none
  ok := by
    intro args chs p r chs' nk hs hp
    split at hs
    · simp only [Option.bind_eq_some_iff, Option.some.injEq, Prod.mk.injEq] at hs
      obtain ⟨l, hl, rfl, rfl, rfl, rfl⟩ := hs
      rename_i n
      have := Chunk_c l n.toNat (by omega)
      rw [Int.toNat_of_nonneg (by omega)] at this
      refine ⟨this.le (args' := [_, _]) ⟨decV_ok hl, leC1_refl _, trivial⟩, ⟨fun k c h => ?_, fun k cs h => by simp at h, ?_, fun k c h => ?_⟩⟩
      · simp only [List.mem_cons, Prod.mk.injEq, List.not_mem_nil, or_false] at h
        left; rcases h with h | h <;> rw [h.1] <;> simp
      · exact ⟨trivial, by simp [keysIn.keysIns, keysIn]⟩
      · simp only [List.mem_cons, Prod.mk.injEq, List.not_mem_nil, or_false] at h
        rcases h with h | h <;> rw [h.2] <;> exact ⟨trivial, trivial⟩
    · cases hs
theorem IndexI_c (l : List Int) (v : Int) : FC Try.prog 138 [enc l, enc v] [] (enc (idxOfI l fun x => decide (v = x))) [] := by
  refine fc_intro' is138 (by simp) (fun cx hl => S_run [] 800 ?_)
  simp only [V, bO, bt, bE, cb, cN, cU, gt, lk, cJ, bQ, cm, cr, bM, cn, cn.subCs, cT, bg, a9, cg, az, a3, bn, aJ, bz, bo, aY, bF, ax, cu, cO, c6, aq, aX, bR, cI, cj, cY, cR, aV, an, bY, bj, zC, argS, bG, cH, cP, cW, ah, aw, aW, aA, cd, leC, ca, bP, cG, cS, bU, ay, aL, cK, au, cp, a7, a7.viewCs, bH, bH.flatCs, aR, aR.LensOks, Value.oneCell', ↓reduceIte, ite_true, ite_false, if_true, if_false, Nat.reduceAdd, Nat.reduceSub, Nat.reduceMul, Nat.reduceEqDiff, Nat.reduceLT, Nat.reduceLeDiff, reduceCtorEq, Int.reduceToNat, forall_const, implies_true, bm, Ent.mk3, bC, bu, bw, a5, a6, aZ, bK, bB, bI, bJ, bk, cD, bD, cQ, rn, bT, bT.renCs, aT, aU, aN, aN.viewOks, aI, a8, a8.flatBs, aG, ag, aH, ar, aQ, bv, bv.keysBs, aE, am, bp, bS, be, cC, af, af.passKs, aB, aO, ae, ae.lendKs, bV, cq, bW, bq, setInn, ai, cZ, cL, aC, bf, bZ, cc, aD, aP, Glob.gl, av, co, bL, b0, br, aj, bX, cM, cB, cV, bN, ap, ap.ptrOnlys, ak, aK, cz, aM, a4, bA, ce, aF, bh, cF, Nat.reduceBEq, undef] at hl
  have hlen := hl.list
  delta c138
  simp (maxSteps := 4000000) -implicitDefEqProofs only [rv138, Ent.of0, Ent.of1, Ent.of2, Ent.of3, V, bO, bt, bE, cb, cN, cU, gt, lk, cJ, bQ, cm, cr, bM, cn, cn.subCs, cT, bg, a9, cg, az, a3, bn, aJ, bz, bo, aY, bF, ax, cu, cO, c6, aq, aX, bR, cI, cj, cY, cR, aV, an, bY, bj, zC, argS, bG, cH, cP, cW, ah, aw, aW, aA, cd, leC, ca, bP, cG, cS, bU, ay, aL, cK, au, cp, a7, a7.viewCs, bH, bH.flatCs, aR, aR.LensOks, Value.oneCell', ↓reduceIte, ite_true, ite_false, if_true, if_false, Nat.reduceAdd, Nat.reduceSub, Nat.reduceMul, Nat.reduceEqDiff, Nat.reduceLT, Nat.reduceLeDiff, reduceCtorEq, Int.reduceToNat, forall_const, implies_true, bm, Ent.mk3, bC, bu, bw, a5, a6, aZ, bK, bB, bI, bJ, bk, cD, bD, cQ, rn, bT, bT.renCs, aT, aU, aN, aN.viewOks, aI, a8, a8.flatBs, aG, ag, aH, ar, aQ, bv, bv.keysBs, aE, am, bp, bS, be, cC, af, af.passKs, aB, aO, ae, ae.lendKs, bV, cq, bW, bq, setInn, ai, cZ, cL, aC, bf, bZ, cc, aD, aP, Glob.gl, av, co, bL, b0, br, aj, bX, cM, cB, cV, bN, ap, ap.ptrOnlys, ak, aK, cz, aM, a4, bA, ce, aF, bh, cF, Nat.reduceBEq, undef]
  refine S_forU l.length (fun i => [(8, .s (.int .i64 i))]) (fun _ => []) (fun i => ∀ j, j < i → decide (v = l.getD j 0) = false) (by omega) ?_ (fun i hi hv => S_run [] 800 ?_)
  · simp (maxSteps := 4000000) -implicitDefEqProofs only [Ent.of0, Ent.of1, Ent.of2, Ent.of3, V, bO, bt, bE, cb, cN, cU, gt, lk, cJ, bQ, cm, cr, bM, cn, cn.subCs, cT, bg, a9, cg, az, a3, bn, aJ, bz, bo, aY, bF, ax, cu, cO, c6, aq, aX, bR, cI, cj, cY, cR, aV, an, bY, bj, zC, argS, bG, cH, cP, cW, ah, aw, aW, aA, cd, leC, ca, bP, cG, cS, bU, ay, aL, cK, au, cp, a7, a7.viewCs, bH, bH.flatCs, aR, aR.LensOks, Value.oneCell', ↓reduceIte, ite_true, ite_false, if_true, if_false, Nat.reduceAdd, Nat.reduceSub, Nat.reduceMul, Nat.reduceEqDiff, Nat.reduceLT, Nat.reduceLeDiff, reduceCtorEq, Int.reduceToNat, forall_const, implies_true, bm, Ent.mk3, bC, bu, bw, a5, a6, aZ, bK, bB, bI, bJ, bk, cD, bD, cQ, rn, bT, bT.renCs, aT, aU, aN, aN.viewOks, aI, a8, a8.flatBs, aG, ag, aH, ar, aQ, bv, bv.keysBs, aE, am, bp, bS, be, cC, af, af.passKs, aB, aO, ae, ae.lendKs, bV, cq, bW, bq, setInn, ai, cZ, cL, aC, bf, bZ, cc, aD, aP, Glob.gl, av, co, bL, b0, br, aj, bX, cM, cB, cV, bN, ap, ap.ptrOnlys, ak, aK, cz, aM, a4, bA, ce, aF, bh, cF, Nat.reduceBEq, undef]; simp
  · by_cases h : i < l.length
    · have hi2 : (i : Int) < (l.length : Int) := by omega
      delta c138l1
      simp (maxSteps := 4000000) -implicitDefEqProofs only [hi2, h, InR, Ent.of0, Ent.of1, Ent.of2, Ent.of3, V, bO, bt, bE, cb, cN, cU, gt, lk, cJ, bQ, cm, cr, bM, cn, cn.subCs, cT, bg, a9, cg, az, a3, bn, aJ, bz, bo, aY, bF, ax, cu, cO, c6, aq, aX, bR, cI, cj, cY, cR, aV, an, bY, bj, zC, argS, bG, cH, cP, cW, ah, aw, aW, aA, cd, leC, ca, bP, cG, cS, bU, ay, aL, cK, au, cp, a7, a7.viewCs, bH, bH.flatCs, aR, aR.LensOks, Value.oneCell', ↓reduceIte, ite_true, ite_false, if_true, if_false, Nat.reduceAdd, Nat.reduceSub, Nat.reduceMul, Nat.reduceEqDiff, Nat.reduceLT, Nat.reduceLeDiff, reduceCtorEq, Int.reduceToNat, forall_const, implies_true, bm, Ent.mk3, bC, bu, bw, a5, a6, aZ, bK, bB, bI, bJ, bk, cD, bD, cQ, rn, bT, bT.renCs, aT, aU, aN, aN.viewOks, aI, a8, a8.flatBs, aG, ag, aH, ar, aQ, bv, bv.keysBs, aE, am, bp, bS, be, cC, af, af.passKs, aB, aO, ae, ae.lendKs, bV, cq, bW, bq, setInn, ai, cZ, cL, aC, bf, bZ, cc, aD, aP, Glob.gl, av, co, bL, b0, br, aj, bX, cM, cB, cV, bN, ap, ap.ptrOnlys, ak, aK, cz, aM, a4, bA, ce, aF, bh, cF, Nat.reduceBEq, undef]
      refine ⟨by omega, ?_⟩
      split
      · rename_i hp
        have : l.findIdx? (fun x => decide (v = x)) = some i := by
          rw [List.findIdx?_eq_some_iff_getElem]
          rw [List.getD_eq_getElem?_getD, List.getElem?_eq_getElem h] at hp
          refine ⟨h, by simpa using hp, fun j hj => ?_⟩
          have := hv j hj
          rw [List.getD_eq_getElem?_getD, List.getElem?_eq_getElem (by omega)] at this
          simpa using this
        simp [idxOfI, this]
      · rename_i hp
        refine ⟨by omega, fun j hj => ?_, by push_cast; rfl⟩
        by_cases hj2 : j = i
        · rw [hj2]; exact hp
        · exact of_decide_eq_false (hv j (by omega))
    · have hi2 : ¬ (i : Int) < (l.length : Int) := by omega
      delta c138l1
      simp (maxSteps := 4000000) -implicitDefEqProofs only [hi2, rv138, InR, Ent.of0, Ent.of1, Ent.of2, Ent.of3, V, bO, bt, bE, cb, cN, cU, gt, lk, cJ, bQ, cm, cr, bM, cn, cn.subCs, cT, bg, a9, cg, az, a3, bn, aJ, bz, bo, aY, bF, ax, cu, cO, c6, aq, aX, bR, cI, cj, cY, cR, aV, an, bY, bj, zC, argS, bG, cH, cP, cW, ah, aw, aW, aA, cd, leC, ca, bP, cG, cS, bU, ay, aL, cK, au, cp, a7, a7.viewCs, bH, bH.flatCs, aR, aR.LensOks, Value.oneCell', ↓reduceIte, ite_true, ite_false, if_true, if_false, Nat.reduceAdd, Nat.reduceSub, Nat.reduceMul, Nat.reduceEqDiff, Nat.reduceLT, Nat.reduceLeDiff, reduceCtorEq, Int.reduceToNat, forall_const, implies_true, bm, Ent.mk3, bC, bu, bw, a5, a6, aZ, bK, bB, bI, bJ, bk, cD, bD, cQ, rn, bT, bT.renCs, aT, aU, aN, aN.viewOks, aI, a8, a8.flatBs, aG, ag, aH, ar, aQ, bv, bv.keysBs, aE, am, bp, bS, be, cC, af, af.passKs, aB, aO, ae, ae.lendKs, bV, cq, bW, bq, setInn, ai, cZ, cL, aC, bf, bZ, cc, aD, aP, Glob.gl, av, co, bL, b0, br, aj, bX, cM, cB, cV, bN, ap, ap.ptrOnlys, ak, aK, cz, aM, a4, bA, ce, aF, bh, cF, Nat.reduceBEq, undef]
      have : l.findIdx? (fun x => decide (v = x)) = none := by
        rw [List.findIdx?_eq_none_iff]
        intro x hx
        obtain ⟨j, hj, rfl⟩ := List.getElem_of_mem hx
        have := hv j (by omega)
        rwa [List.getD_eq_getElem?_getD, List.getElem?_eq_getElem hj] at this
      simp [idxOfI, this]
def e138 : Ent Try.prog := .of2 138 (fun _ _ => True) (fun (l : List Int) (v : Int) => enc (idxOfI l fun x => decide (v = x))) (fun _ _ => trivial) (fun l v _ => IndexI_c l v)
theorem idxOfI_any (l : List Int) (p : Int → Bool) : decide (0 ≤ idxOfI l p) = l.any p := by
  unfold idxOfI
  cases hq : l.findIdx? p with
  | none =>
    rw [List.findIdx?_eq_none_iff] at hq
    have : l.any p = false := by simpa using hq
    simp [this]
  | some i =>
    rw [List.findIdx?_eq_some_iff_getElem] at hq
    obtain ⟨h1, h2, _⟩ := hq
    have : l.any p = true := List.any_eq_true.2 ⟨_, List.getElem_mem h1, h2⟩
    simp [this]
theorem ContainsI_c (l : List Int) (v : Int) : FC Try.prog 129 [enc l, enc v] [] (enc (l.any fun x => decide (v = x))) [] := by
  refine fc_intro' is129 (by simp) (fun cx hl => S_run [e138] 800 ?_)
  delta c129
  simp (maxSteps := 4000000) -implicitDefEqProofs only [rv129, e138, idxOfI_any, Ent.of0, Ent.of1, Ent.of2, Ent.of3, V, bO, bt, bE, cb, cN, cU, gt, lk, cJ, bQ, cm, cr, bM, cn, cn.subCs, cT, bg, a9, cg, az, a3, bn, aJ, bz, bo, aY, bF, ax, cu, cO, c6, aq, aX, bR, cI, cj, cY, cR, aV, an, bY, bj, zC, argS, bG, cH, cP, cW, ah, aw, aW, aA, cd, leC, ca, bP, cG, cS, bU, ay, aL, cK, au, cp, a7, a7.viewCs, bH, bH.flatCs, aR, aR.LensOks, Value.oneCell', ↓reduceIte, ite_true, ite_false, if_true, if_false, Nat.reduceAdd, Nat.reduceSub, Nat.reduceMul, Nat.reduceEqDiff, Nat.reduceLT, Nat.reduceLeDiff, reduceCtorEq, Int.reduceToNat, forall_const, implies_true, bm, Ent.mk3, bC, bu, bw, a5, a6, aZ, bK, bB, bI, bJ, bk, cD, bD, cQ, rn, bT, bT.renCs, aT, aU, aN, aN.viewOks, aI, a8, a8.flatBs, aG, ag, aH, ar, aQ, bv, bv.keysBs, aE, am, bp, bS, be, cC, af, af.passKs, aB, aO, ae, ae.lendKs, bV, cq, bW, bq, setInn, ai, cZ, cL, aC, bf, bZ, cc, aD, aP, Glob.gl, av, co, bL, b0, br, aj, bX, cM, cB, cV, bN, ap, ap.ptrOnlys, ak, aK, cz, aM, a4, bA, ce, aF, bh, cF, Nat.reduceBEq, undef]
def e129 : Ent Try.prog := .of2 129 (fun _ _ => True) (fun (l : List Int) (v : Int) => enc (l.any fun x => decide (v = x))) (fun _ _ => trivial) (fun l v _ => ContainsI_c l v)
def orderErrS (n : Int) : Int := if n = 2 ∨ n = 4 ∨ n = 6 then 0 else 15
theorem orderErr_c (n : Int) : FC Try.prog 95 [enc n] [] (enc (orderErrS n)) [] := by
  refine fc_intro' is95 (by simp) (fun cx hl => S_run [e129, e82] 800 ?_)
  delta c95
  simp (maxSteps := 4000000) -implicitDefEqProofs only [rv95, e129, e82, Ent.of0, Ent.of1, Ent.of2, Ent.of3, V, bO, bt, bE, cb, cN, cU, gt, lk, cJ, bQ, cm, cr, bM, cn, cn.subCs, cT, bg, a9, cg, az, a3, bn, aJ, bz, bo, aY, bF, ax, cu, cO, c6, aq, aX, bR, cI, cj, cY, cR, aV, an, bY, bj, zC, argS, bG, cH, cP, cW, ah, aw, aW, aA, cd, leC, ca, bP, cG, cS, bU, ay, aL, cK, au, cp, a7, a7.viewCs, bH, bH.flatCs, aR, aR.LensOks, Value.oneCell', ↓reduceIte, ite_true, ite_false, if_true, if_false, Nat.reduceAdd, Nat.reduceSub, Nat.reduceMul, Nat.reduceEqDiff, Nat.reduceLT, Nat.reduceLeDiff, reduceCtorEq, Int.reduceToNat, forall_const, implies_true, bm, Ent.mk3, bC, bu, bw, a5, a6, aZ, bK, bB, bI, bJ, bk, cD, bD, cQ, rn, bT, bT.renCs, aT, aU, aN, aN.viewOks, aI, a8, a8.flatBs, aG, ag, aH, ar, aQ, bv, bv.keysBs, aE, am, bp, bS, be, cC, af, af.passKs, aB, aO, ae, ae.lendKs, bV, cq, bW, bq, setInn, ai, cZ, cL, aC, bf, bZ, cc, aD, aP, Glob.gl, av, co, bL, b0, br, aj, bX, cM, cB, cV, bN, ap, ap.ptrOnlys, ak, aK, cz, aM, a4, bA, ce, aF, bh, cF, Nat.reduceBEq, undef]
  unfold orderErrS
  simp only [List.any_cons, List.any_nil, Bool.or_false, Bool.or_eq_true, decide_eq_true_eq]
def e95 : Ent Try.prog := .of1 95 (fun _ => True) (fun n : Int => enc (orderErrS n)) (fun _ => trivial) (fun n _ => orderErr_c n)
end Go.Proofs.Ytfgpbmjmoobcnaa
end
section
open Go Go.Am
open Go.Am.Dat (cells)
namespace Go.Proofs.Ytfgpbmjmoobcnaa
set_option maxHeartbeats 4000000
set_option linter.unusedSimpArgs false
def modS (n : Nat) (l : List Int) (j : Nat) : List Gs := (List.range j).map fun i => pointS (chunkAt l n i)
theorem modS_succ (n : Nat) (l : List Int) (j : Nat) : modS n l (j + 1) = modS n l j ++ [pointS (chunkAt l n j)] := by simp [modS, List.range_succ]
def modErr (n : Int) (l : List Int) : Int := if orderErrS n ≠ 0 then orderErrS n else if bitsErrS l ≠ 0 then bitsErrS l else if (l.length : Int) % n ≠ 0 then 10 else 0
theorem chunk_ok {l : List Int} {m N j : Nat} (hl : l.length = N * m) (hb : bitsOk l) (hj : j < N) : (chunkAt l m j).length = m ∧ bitsOk (chunkAt l m j) := by
  have hjn : j * m + m ≤ N * m := by
    have := Nat.mul_le_mul_right m (show j + 1 ≤ N by omega)
    rwa [Nat.add_mul, Nat.one_mul] at this
  refine ⟨by unfold chunkAt; rw [List.length_take, List.length_drop]; omega, fun b h => hb b ?_⟩
  exact List.mem_of_mem_drop (List.mem_of_mem_take h)
theorem modS_length (n : Nat) (l : List Int) (j : Nat) : (modS n l j).length = j := by simp [modS]
theorem bitsErrS_ok {l : List Int} (h : bitsErrS l = 0) : 0 < l.length ∧ l.length ≤ 400 ∧ bitsOk l := by
  unfold bitsErrS at h
  split at h
  · cases h
  · split at h
    · cases h
    · split at h
      · rename_i h1 h2 h3
        exact ⟨by omega, by omega, fun b hb => by simpa using List.all_eq_true.1 h3 b hb⟩
      · cases h
end Go.Proofs.Ytfgpbmjmoobcnaa
end
