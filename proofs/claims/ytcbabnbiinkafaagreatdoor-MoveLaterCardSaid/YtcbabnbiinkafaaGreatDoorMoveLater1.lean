/- Part 1 of the proof of: MoveLater returns true for every input and never panics: a rule that is harder to meet never triggers earlier; conditions: those of the given statement, that the package variables it lists hold what their initialisers lay. -/
import Derived.Test.YtcbabnbiinkafaaGreatDoorProg
import Derived.KernelRfl
import Derived.Test.YtcbabnbiinkafaaGreatDoorRows
import Derived.Test.YtcbabnbiinkafaaGreatDoorTie
import Derived.Test.YtcbabnbiinkafaaGreatDoorCards
import Derived.SevenTiedAt
import Derived.ProofKit
import Derived.Lay
import Derived.LaidMore
import Derived.LaidOnce
import Derived.LaidHandle
import Derived.Stop.Joined
import Derived.ChangeMaps5
import Derived.Test.YtcbabnbiinkafaaGreatDoorBm22
set_option linter.all false
section
open Go Go.Am
open Go.Am.Dat (cells)
namespace Go.Proofs.YtcbabnbiinkafaaGreatDoor
set_option maxRecDepth 100000
def c22 : AC := oS (oR [oA 2 (.mv (.const (.bool false)))]) (oK [0] (oS (oR [oM 3 0, oA 4 (.len false (oO 3)), oA 5 (.bin .leq 3 (oO 4) (oN 62)), oM 2 5]) (oK [2] (.ret))))
def rv22 : List RV := [.tmp 2]
theorem is22 : FnIs Tryz.prog 22 6 c22 rv22 := ⟨⟨Tryz.f22, _, Tryz.func22, by kernel_rfl, rfl, rfl, by kernel_rfl, by kernel_rfl⟩, by decide⟩
def c24 : AC := oS (oR [oA 2 (.mv (.const (.slice none 0 0)))]) (oK [0] (oS (oR [oA 3 (.mkSl true 3 1 [.int .i64 0] 0 []), oM 4 0, oA 5 (.app 24 3 1 8 [.int .i64 0] (oO 3) (oO 4)), oM 2 5]) (oK [2] (.ret))))
def rv24 : List RV := [.tmp 2]
theorem is24 : FnIs Tryz.prog 24 6 c24 rv24 := ⟨⟨Tryz.f24, _, Tryz.func24, by kernel_rfl, rfl, rfl, by kernel_rfl, by kernel_rfl⟩, by decide⟩
def c27 : AC := oS (oR [oA 1 (.box (oO 0)), oA 2 (.mv (oN 0))]) (oK [1] (oS (oS (oR [oA 3 (.faddr 0 (oO 1)), oA 4 (.load false 1 (oO 3)), oA 5 (.call (.func 31) [(oO 4), (oN (-300)), (oN 300)]), oA 6 (.un .not (oO 5)), oM 7 6, oG 8 7 false (.faddr 1 (oO 1)), oG 9 7 false (.load false 1 (oO 8)), oG 10 7 false (.call (.func 31) [(oO 9), (oN 0), (oN 300)]), oG 11 7 false (.un .not (oO 10)), oA 12 (.pick (oO 7) (.const (.bool true)) (oO 11)), oM 13 12, oG 14 13 false (.faddr 2 (oO 1)), oG 15 13 false (.load false 1 (oO 14)), oG 16 13 false (.call (.func 31) [(oO 15), (oN 0), (oN 40)]), oG 17 13 false (.un .not (oO 16)), oA 18 (.pick (oO 13) (.const (.bool true)) (oO 17))]) (oK [18] (.cond (oO 18) (oS (oR [oA 2 (.mv (oN 2))]) (oK [2] (.ret))) (.skip)))) (oK [] (oS (oR [oA 2 (.mv (oN 0))]) (oK [2] (.ret))))))
def rv27 : List RV := [.tmp 2]
theorem is27 : FnIs Tryz.prog 27 19 c27 rv27 := ⟨⟨Tryz.f27, _, Tryz.func27, by kernel_rfl, rfl, rfl, by kernel_rfl, by kernel_rfl⟩, by decide⟩
def c28l1 : AC := oS (oS (oR [oM 14 5, oM 15 0, oA 16 (.len false (oO 15)), oA 17 (.bin .lss 3 (oO 14) (oO 16))]) (oK [0, 1, 5, 17] (.cond (oO 17) (.skip) (.exit 0)))) (oK [0, 1, 5] (oS (.block 1 (oS (oR [oM 20 0, oM 21 5, oA 22 (.iaddr 1 [.int .i64 0] (oO 20) (oO 21)), oA 23 (.load false 1 (oO 22)), oA 24 (.call (.func 31) [(oO 23), (oN (-2000)), (oN 1000)]), oA 25 (.un .not (oO 24)), oM 26 25, oG 27 26 false (.mv (oO 1)), oG 28 26 false (.mv (oO 5)), oG 29 26 false (.iaddr 1 [.int .i64 0] (oO 27) (oO 28)), oG 30 26 false (.load false 1 (oO 29)), oG 31 26 false (.call (.func 31) [(oO 30), (oN (-2000)), (oN 1000)]), oG 32 26 false (.un .not (oO 31)), oA 33 (.pick (oO 26) (.const (.bool true)) (oO 32))]) (oK [0, 1, 5, 33] (.cond (oO 33) (oS (oR [oA 4 (.mv (oN 2))]) (oK [4] (.ret))) (.skip))))) (oK [0, 1, 5] (oR [oM 18 5, oA 19 (.bin .add 3 (oO 18) (oN 1)), oM 5 19]))))
def c28 : AC := oS (oR [oA 4 (.mv (oN 0))]) (oK [0, 1] (oS (oS (oR [oM 6 1, oA 7 (.len false (oO 6)), oM 8 0, oA 9 (.len false (oO 8)), oA 10 (.bin .neq 3 (oO 7) (oO 9))]) (oK [0, 1, 10] (.cond (oO 10) (oS (oR [oA 4 (.mv (oN 10))]) (oK [4] (.ret))) (.skip)))) (oK [0, 1] (oS (oS (oR [oM 11 0, oA 12 (.len false (oO 11)), oA 13 (.bin .gtr 3 (oO 12) (oN 60))]) (oK [0, 1, 13] (.cond (oO 13) (oS (oR [oA 4 (.mv (oN 8))]) (oK [4] (.ret))) (.skip)))) (oK [0, 1] (oS (oS (oR [oA 5 (.mv (oN 0))]) (oK [0, 1, 5] (.block 0 (.loop c28l1)))) (oK [] (oS (oR [oA 4 (.mv (oN 0))]) (oK [4] (.ret))))))))))
def rv28 : List RV := [.tmp 4]
theorem is28 : FnIs Tryz.prog 28 34 c28 rv28 := ⟨⟨Tryz.f28, _, Tryz.func28, by kernel_rfl, rfl, rfl, by kernel_rfl, by kernel_rfl⟩, by decide⟩
def c32 : AC := oS (oR [oA 4 (.box (oO 0)), oA 8 (.mv (.const (.bool false)))]) (oK [1, 2, 3, 4] (oS (oQ [oM 9 2, oA 10 (.mvs (oO 3)), oA 11 (.iaddr 1 [.int .i64 0] (oO 9) (oO 10)), oA 12 (.load false 1 (oO 11)), oM 13 1, oA 14 (.mvs (oO 3)), oA 15 (.iaddr 1 [.int .i64 0] (oO 13) (oO 14)), oA 16 (.load false 1 (oO 15)), oA 17 (.faddr 0 (oO 4)), oA 18 (.load false 1 (oO 17)), oA 19 (.bin .add 3 (oO 16) (oO 18)), oA 20 (.faddr 1 (oO 4)), oA 21 (.load false 1 (oO 20)), oA 22 (.bin .add 3 (oO 19) (oO 21)), oT 23 (.bin .gtr 3 (oO 12) (oO 22)), oT 8 (.mv (oO 23))]) (oK [8] (.ret))))
def rv32 : List RV := [.tmp 8]
theorem is32 : FnIs Tryz.prog 32 24 c32 rv32 := ⟨⟨Tryz.f32, _, Tryz.func32, by kernel_rfl, rfl, rfl, by kernel_rfl, by kernel_rfl⟩, by decide⟩
def c33 : AC := oS (oR [oA 4 (.box (oO 0)), oA 8 (.mv (.const (.bool false)))]) (oK [1, 2, 3, 4] (oS (oQ [oM 9 2, oA 10 (.mvs (oO 3)), oA 11 (.iaddr 1 [.int .i64 0] (oO 9) (oO 10)), oA 12 (.load false 1 (oO 11)), oM 13 1, oA 14 (.mvs (oO 3)), oA 15 (.iaddr 1 [.int .i64 0] (oO 13) (oO 14)), oA 16 (.load false 1 (oO 15)), oA 17 (.faddr 0 (oO 4)), oA 18 (.load false 1 (oO 17)), oA 19 (.bin .add 3 (oO 16) (oO 18)), oA 20 (.faddr 1 (oO 4)), oA 21 (.load false 1 (oO 20)), oA 22 (.bin .sub 3 (oO 19) (oO 21)), oT 23 (.bin .lss 3 (oO 12) (oO 22)), oT 8 (.mv (oO 23))]) (oK [8] (.ret))))
def rv33 : List RV := [.tmp 8]
theorem is33 : FnIs Tryz.prog 33 24 c33 rv33 := ⟨⟨Tryz.f33, _, Tryz.func33, by kernel_rfl, rfl, rfl, by kernel_rfl, by kernel_rfl⟩, by decide⟩
end Go.Proofs.YtcbabnbiinkafaaGreatDoor
end
section
open Go Go.Am
open Go.Am.Dat (cells)
namespace Go.Proofs.YtcbabnbiinkafaaGreatDoor.D
set_option maxRecDepth 100000
def c4l1 : AC := oS (oS (oR [oM 89 12, oM 90 9, oM 91 11, oA 92 (.iaddr 1 [.int .i64 0] (oO 90) (oO 91)), oA 93 (.load false 1 (oO 92)), oA 94 (.bin .leq 3 (oO 89) (oO 93))]) (oK [3, 5, 7, 8, 9, 11, 12, 94] (.cond (oO 94) (.skip) (.exit 2)))) (oK [3, 5, 7, 8, 9, 11, 12] (oS (.block 3 (oS (oR [oA 97 (.load true 3 (oO 3)), oM 98 7, oM 99 8, oM 100 12, oA 101 (.call (.func 32) [(oO 97), (oO 98), (oO 99), (oO 100)]), oA 102 (.un .not (oO 101))]) (oK [3, 5, 7, 8, 9, 11, 12, 102] (.cond (oO 102) (oS (oR [oA 6 (.mv (.const (.bool false)))]) (oK [6] (.ret))) (.skip))))) (oK [3, 5, 7, 8, 9, 11, 12] (oR [oM 95 12, oA 96 (.bin .add 3 (oO 95) (oN 1)), oM 12 96]))))
def c4l2 : AC := oS (oS (oR [oM 111 14, oM 112 9, oM 113 11, oA 114 (.iaddr 1 [.int .i64 0] (oO 112) (oO 113)), oA 115 (.load false 1 (oO 114)), oA 116 (.bin .lss 3 (oO 111) (oO 115))]) (oK [3, 5, 7, 8, 9, 11, 13, 14, 116] (.cond (oO 116) (.skip) (.exit 4)))) (oK [3, 5, 7, 8, 9, 11, 13, 14] (oS (.block 5 (oR [oM 119 13, oM 120 119, oG 121 120 false (.load true 3 (oO 3)), oG 122 120 false (.mv (oO 7)), oG 123 120 false (.mv (oO 8)), oG 124 120 false (.mv (oO 14)), oG 125 120 false (.call (.func 33) [(oO 121), (oO 122), (oO 123), (oO 124)]), oA 126 (.pick (oO 120) (.const (.bool true)) (oO 125)), oM 13 126])) (oK [3, 5, 7, 8, 9, 11, 13, 14] (oR [oM 117 14, oA 118 (.bin .add 3 (oO 117) (oN 1)), oM 14 118]))))
def c4l3 : AC := oS (oS (oR [oM 49 11, oM 50 9, oA 51 (.len false (oO 50)), oA 52 (.bin .lss 3 (oO 49) (oO 51))]) (oK [3, 5, 7, 8, 9, 11, 52] (.cond (oO 52) (.skip) (.exit 0)))) (oK [3, 5, 7, 8, 9, 11] (oS (.block 1 (oS (oS (oQ [oM 55 9, oA 56 (.mvs (oO 11)), oA 57 (.iaddr 1 [.int .i64 0] (oO 55) (oO 56)), oA 58 (.load false 1 (oO 57)), oA 59 (.faddr 2 (oO 3)), oA 60 (.load false 1 (oO 59)), oM 61 7, oA 62 (.len false (oO 61)), oA 63 (.bin .sub 3 (oO 62) (oN 1)), oT 64 (.call (.func 31) [(oO 58), (oO 60), (oO 63)]), oT 65 (.un .not (oO 64)), oT 66 (.mv (oO 65)), ⟨some 67, some (66, false), .mv (oO 11), true⟩, ⟨some 68, some (66, false), .bin .gtr 3 (oO 67) (oN 0), true⟩, ⟨some 69, some (66, false), .mv (oO 68), true⟩, oG 70 69 true (.mv (oO 9)), oG 71 69 true (.mv (oO 11)), oG 72 69 true (.iaddr 1 [.int .i64 0] (oO 70) (oO 71)), oG 73 69 true (.load false 1 (oO 72)), oG 74 69 true (.mv (oO 9)), oG 75 69 true (.mv (oO 11)), oG 76 69 true (.bin .sub 3 (oO 75) (oN 1)), oG 77 69 true (.iaddr 1 [.int .i64 0] (oO 74) (oO 76)), oG 78 69 true (.load false 1 (oO 77)), ⟨some 79, some (69, true), .bin .leq 3 (oO 73) (oO 78), true⟩, ⟨some 80, some (66, false), .pick (oO 69) (oO 79) (.const (.bool false)), true⟩, oT 81 (.pick (oO 66) (.const (.bool true)) (oO 80))]) (oK [3, 5, 7, 8, 9, 11, 81] (.cond (oO 81) (oS (oR [oA 6 (.mv (.const (.bool false)))]) (oK [6] (.ret))) (.skip)))) (oK [3, 5, 7, 8, 9, 11] (oS (oS (oQ [oM 82 9, oA 83 (.mvs (oO 11)), oA 84 (.iaddr 1 [.int .i64 0] (oO 82) (oO 83)), oA 85 (.load false 1 (oO 84)), oA 86 (.faddr 2 (oO 3)), oA 87 (.load false 1 (oO 86)), oT 88 (.bin .sub 3 (oO 85) (oO 87)), oT 12 (.mv (oO 88))]) (oK [3, 5, 7, 8, 9, 11, 12] (.block 2 (.loop c4l1)))) (oK [3, 5, 7, 8, 9, 11] (oS (oR [oM 103 11, oA 104 (.bin .eql 3 (oO 103) (oN 0)), oM 13 104]) (oK [3, 5, 7, 8, 9, 11, 13] (oS (oS (oR [oM 105 9, oM 106 11, oA 107 (.bin .sub 3 (oO 106) (oN 1)), oA 108 (.ext (.mx true) [(oN 0), (oO 107)]), oA 109 (.iaddr 1 [.int .i64 0] (oO 105) (oO 108)), oA 110 (.load false 1 (oO 109)), oM 14 110]) (oK [3, 5, 7, 8, 9, 11, 13, 14] (.block 4 (.loop c4l2)))) (oK [3, 5, 7, 8, 9, 11, 13] (oS (oR [oM 127 13, oA 128 (.un .not (oO 127))]) (oK [3, 5, 7, 8, 9, 11, 128] (.cond (oO 128) (oS (oR [oA 6 (.mv (.const (.bool false)))]) (oK [6] (.ret))) (.skip))))))))))))) (oK [3, 5, 7, 8, 9, 11] (oR [oM 53 11, oA 54 (.bin .add 3 (oO 53) (oN 1)), oM 11 54]))))
def c4 : AC := oS (oR [oA 3 (.box (oO 0)), oA 4 (.box (oO 1)), oA 5 (.box (oO 2)), oA 6 (.mv (.const (.bool false)))]) (oK [3, 4, 5] (oS (oS (oR [oA 18 (.call (.func 21) []), oA 19 (.un .not (oO 18))]) (oK [3, 4, 5, 19] (.cond (oO 19) (oS (oR [oA 6 (.mv (.const (.bool false)))]) (oK [6] (.ret))) (.skip)))) (oK [3, 4, 5] (oS (oQ [oA 20 (.iarr 2 1 (oO 4) (oN 0)), oA 21 (.load false 1 (oO 20)), oA 22 (.iarr 2 1 (oO 4) (oN 1)), oA 23 (.load false 1 (oO 22)), oM 7 21, oT 8 (.mv (oO 23))]) (oK [3, 5, 7, 8] (oS (oS (oR [oM 24 7, oA 25 (.call (.func 22) [(oO 24)]), oA 26 (.un .not (oO 25)), oM 27 26, oG 28 27 false (.load true 3 (oO 3)), oG 29 27 false (.call (.func 27) [(oO 28)]), oG 30 27 false (.bin .neq 3 (oO 29) (oN 0)), oA 31 (.pick (oO 27) (.const (.bool true)) (oO 30)), oM 32 31, oG 33 32 false (.mv (oO 7)), oG 34 32 false (.mv (oO 8)), oG 35 32 false (.call (.func 28) [(oO 33), (oO 34)]), oG 36 32 false (.bin .neq 3 (oO 35) (oN 0)), oA 37 (.pick (oO 32) (.const (.bool true)) (oO 36))]) (oK [3, 5, 7, 8, 37] (.cond (oO 37) (oS (oR [oA 6 (.mv (.const (.bool true)))]) (oK [6] (.ret))) (.skip)))) (oK [3, 5, 7, 8] (oS (oQ [oA 39 (.load true 3 (oO 3)), oM 40 7, oA 41 (.call (.func 24) [(oO 40)]), oM 42 8, oA 43 (.call (.func 24) [(oO 42)]), oT 44 (.call (.func 23) [(oO 39), (oO 41), (oO 43)]), oT 38 (.mv (oO 44)), oA 45 (.extr (oO 38) 0), oA 46 (.extr (oO 38) 1), oM 9 45, oT 10 (.mv (oO 46))]) (oK [3, 5, 7, 8, 9, 10] (oS (oS (oR [oM 47 10, oA 48 (.bin .neq 27 (oO 47) (oN 0))]) (oK [3, 5, 7, 8, 9, 48] (.cond (oO 48) (oS (oR [oA 6 (.mv (.const (.bool false)))]) (oK [6] (.ret))) (.skip)))) (oK [3, 5, 7, 8, 9] (oS (oS (oR [oA 11 (.mv (oN 0))]) (oK [3, 5, 7, 8, 9, 11] (.block 0 (.loop c4l3)))) (oK [3, 5, 7, 8, 9] (oS (oR [oA 129 (.load true 3 (oO 3)), oA 15 (.alloc [.int .i64 0, .int .i64 0, .int .i64 0]), ⟨none, none, .store false 3 (oO 15) (oO 129), false⟩]) (oK [3, 5, 7, 8, 9, 15] (oS (oS (oR [oA 130 (.iarr 2 1 (oO 5) (oN 0)), oA 131 (.load false 1 (oO 130)), oA 132 (.call (.func 31) [(oO 131), (oN 0), (oN 20)]), oM 133 132, oG 134 133 true (.iarr 2 1 (oO 5) (oN 1)), oG 135 133 true (.load false 1 (oO 134)), oG 136 133 true (.call (.func 31) [(oO 135), (oN 0), (oN 100)]), oA 137 (.pick (oO 133) (oO 136) (.const (.bool false)))]) (oK [3, 5, 7, 8, 9, 15, 137] (.cond (oO 137) (.draw 11 [5, 6, 7, 8, 9] [oA 138 (.faddr 2 (oO 3)), oA 139 (.load false 1 (oO 138)), oA 140 (.iarr 2 1 (oO 5) (oN 0)), oA 141 (.load false 1 (oO 140)), oA 142 (.bin .add 3 (oO 139) (oO 141)), oA 143 (.faddr 0 (oO 3)), oA 144 (.load false 1 (oO 143)), oA 145 (.iarr 2 1 (oO 5) (oN 1)), oA 146 (.load false 1 (oO 145)), oA 147 (.bin .add 3 (oO 144) (oO 146)), oA 148 (.faddr 2 (oO 15)), ⟨none, none, .store false 1 (oO 148) (oO 142), true⟩, oT 149 (.faddr 0 (oO 15)), ⟨none, none, .store false 1 (oO 149) (oO 147), true⟩]) (.skip)))) (oK [7, 8, 9, 15] (oS (oS (oR [oA 150 (.load true 3 (oO 15)), oA 151 (.call (.func 27) [(oO 150)]), oA 152 (.bin .neq 3 (oO 151) (oN 0))]) (oK [7, 8, 9, 15, 152] (.cond (oO 152) (oS (oR [oA 6 (.mv (.const (.bool true)))]) (oK [6] (.ret))) (.skip)))) (oK [7, 8, 9, 15] (oS (oQ [oA 154 (.load true 3 (oO 15)), oM 155 7, oA 156 (.call (.func 24) [(oO 155)]), oM 157 8, oA 158 (.call (.func 24) [(oO 157)]), oT 159 (.call (.func 25) [(oO 154), (oO 156), (oO 158)]), oT 153 (.mv (oO 159)), oA 160 (.extr (oO 153) 0), oA 161 (.extr (oO 153) 1), oM 16 160, oT 17 (.mv (oO 161))]) (oK [9, 16, 17] (oS (oS (oR [oM 162 17, oA 163 (.bin .neq 27 (oO 162) (oN 0))]) (oK [9, 16, 17, 163] (.cond (oO 163) (oS (oR [oM 164 17, oA 165 (.bin .eql 27 (oO 164) (oN 12)), oM 166 165, oG 167 166 true (.mv (oO 16)), oG 168 166 true (.bin .eql 3 (oO 167) (oN 0)), oA 169 (.pick (oO 166) (oO 168) (.const (.bool false))), oM 6 169]) (oK [6] (.ret))) (.skip)))) (oK [9, 16] (oS (oR [oM 170 9, oA 171 (.len false (oO 170)), oA 172 (.bin .gtr 3 (oO 171) (oN 0)), oM 173 172, oG 174 173 true (.mv (oO 9)), oG 175 173 true (.iaddr 1 [.int .i64 0] (oO 174) (oN 0)), oG 176 173 true (.load false 1 (oO 175)), oG 177 173 true (.mv (oO 16)), oG 178 173 true (.bin .leq 3 (oO 176) (oO 177)), oA 179 (.pick (oO 173) (oO 178) (.const (.bool false))), oM 6 179]) (oK [6] (.ret))))))))))))))))))))))))))
def rv4 : List RV := [.tmp 6]
theorem is4 : FnIs Tryz.prog 4 180 c4 rv4 := ⟨⟨Tryz.f4, _, Tryz.func4, by kernel_rfl, rfl, rfl, by kernel_rfl, by kernel_rfl⟩, by decide⟩
end Go.Proofs.YtcbabnbiinkafaaGreatDoor.D
end
section
open Go Go.Am
open Go.Am.Dat (cells)
namespace Go.Proofs.YtcbabnbiinkafaaGreatDoor
set_option maxHeartbeats 4000000
set_option maxRecDepth 100000
theorem xb (l : List Int) (h : l.length ≤ 1000000) : FC Tryz.prog 24 [enc l] [] (enc l) [] := by
 refine eg is24 (by simp) (fun cx hl => dB [] 800 ?_)
 delta c24 oO oN oA oM oT oG oR oQ oS oK
 simp (maxSteps := 4000000) -implicitDefEqProofs only [rv24, Ent.of0, Ent.of1, Ent.of2, Ent.of3, Ent.of4, V, W3, ↓reduceIte, seval, reduceCtorEq]
 omega
def wJ : Ent Tryz.prog := .of1 24 (fun l => l.length ≤ 1000000) (fun l : List Int => enc l) (fun _ => trivial) (fun l h => xb l h)
theorem xe (r : Rul) : FC Tryz.prog 27 [enc r] [] (enc (kj r)) [] := by
 obtain ⟨a, b, c⟩ := r
 refine eg is27 (by simp) (fun cx hl => dB [n9] 800 ?_)
 delta c27 oO oN oA oM oT oG oR oQ oS oK
 simp (maxSteps := 4000000) -implicitDefEqProofs only [rv27, n9, iw, Ent.of0, Ent.of1, Ent.of2, Ent.of3, Ent.of4, V, W3, ↓reduceIte, seval, reduceCtorEq]
 unfold kj j3
 by_cases h1 : -300 ≤ a ∧ a ≤ 300 <;> by_cases h2 : 0 ≤ b ∧ b ≤ 300 <;> by_cases h3 : 0 ≤ c ∧ c ≤ 40 <;> simp [h1, h2, h3]
def wK : Ent Tryz.prog := .of1 27 (fun _ => True) (fun r : Rul => enc (kj r)) (fun _ => trivial) (fun r _ => xe r)
theorem wZ (s n : List Int) : FC Tryz.prog 28 [enc s, enc n] [] (enc (l9 s n)) [] := by
 refine eg is28 (by simp) (fun cx hl => dB [n9] 800 ?_)
 simp only [V, W3, ↓reduceIte, seval, reduceCtorEq] at hl
 have hl1 := hl.1.list
 have hl2 := hl.2.list
 unfold l9
 by_cases h1 : n.length = s.length
 · have h1' : (n.length : Int) = s.length := by omega
   rw [if_neg (by simp [h1])]
   by_cases h2 : s.length > 60
   · have h2' : (60 : Int) < s.length := by omega
     rw [if_pos h2]
     delta c28 oO oN oA oM oT oG oR oQ oS oK
     simp (maxSteps := 4000000) -implicitDefEqProofs only [rv28, h1', h2', WU, Ent.of0, Ent.of1, Ent.of2, Ent.of3, Ent.of4, V, W3, ↓reduceIte, seval, reduceCtorEq]
   · have h2' : ¬ (60 : Int) < s.length := by omega
     rw [if_neg h2]
     generalize hB : gO s n = B
     delta c28 oO oN oA oM oT oG oR oQ oS oK
     simp (maxSteps := 4000000) -implicitDefEqProofs only [rv28, h1', h2', WU, Ent.of0, Ent.of1, Ent.of2, Ent.of3, Ent.of4, V, W3, ↓reduceIte, seval, reduceCtorEq]
     refine eM s.length (fun i => [(5, .s (.int .i64 (i : Int)))]) (fun _ => []) (fun i => B = gO (s.drop i) (n.drop i)) (by simp [hB]) ?_ (fun i hi hv => dB [n9] 800 ?_)
     · simp (maxSteps := 4000000) -implicitDefEqProofs only [Ent.of0, Ent.of1, Ent.of2, Ent.of3, Ent.of4, V, W3, ↓reduceIte, seval, reduceCtorEq]
       all_goals simp
     · by_cases h : i < s.length
       · have hi2 : (i : Int) < (s.length : Int) := by omega
         have hi3 : (i : Int) < (n.length : Int) := by omega
         rw [ee 0 h, ee 0 (by omega : i < n.length), gO] at hv
         unfold kf at hv
         by_cases hx : -2000 ≤ s.getD i 0 ∧ s.getD i 0 ≤ 1000 <;> by_cases hy : -2000 ≤ n.getD i 0 ∧ n.getD i 0 ≤ 1000
         all_goals
          simp only [hx, hy, decide_true, decide_false, Bool.true_and, Bool.false_and, Bool.and_false] at hv
          delta c28l1 oO oN oA oM oT oG oR oQ oS oK
          simp (maxSteps := 4000000) -implicitDefEqProofs only [rv28, n9, hi2, hi3, h, hx, hy, InR, WU, Ent.of0, Ent.of1, Ent.of2, Ent.of3, Ent.of4, V, W3, ↓reduceIte, seval, reduceCtorEq]
          grind
       · have hi2 : ¬ (i : Int) < (s.length : Int) := by omega
         rw [List.drop_eq_nil_of_le (by omega)] at hv
         simp [gO] at hv
         delta c28l1 oO oN oA oM oT oG oR oQ oS oK
         simp (maxSteps := 4000000) -implicitDefEqProofs only [rv28, hi2, WU, Ent.of0, Ent.of1, Ent.of2, Ent.of3, Ent.of4, V, W3, ↓reduceIte, seval, reduceCtorEq]
         simp [hv]
 · have h1' : ¬ (n.length : Int) = s.length := by omega
   rw [if_pos h1]
   delta c28 oO oN oA oM oT oG oR oQ oS oK
   simp (maxSteps := 4000000) -implicitDefEqProofs only [rv28, h1', WU, Ent.of0, Ent.of1, Ent.of2, Ent.of3, Ent.of4, V, W3, ↓reduceIte, seval, reduceCtorEq]
def wS : Ent Tryz.prog := .of2 28 (fun _ _ => True) (fun s n : List Int => enc (l9 s n)) (fun _ _ => trivial) (fun s n _ => wZ s n)
def wM : Ent Tryz.prog := .of3 25 (fun _ _ _ => True) (fun (r : Rul) (s n : List Int) => .tup [enc (if ftE r s n = 0 then (iu r s n).getD 0 0 else 0), enc (ftE r s n)]) (fun r s n => ⟨trivial, trivial, trivial⟩) (fun r s n _ => o6 r s n)
def bett (r : Rul) (s n : List Int) (t : Int) : Bool := nF r (s.getD t.toNat 0) (n.getD t.toNat 0)
def ovr (r : Rul) (s n : List Int) (t : Int) : Bool := over r (s.getD t.toNat 0) (n.getD t.toNat 0)
theorem xh (r : Rul) (s n : List Int) (t : Int) (h : TickOk r s n t) : FC Tryz.prog 32 [enc r, enc s, enc n, enc t] [] (enc (bett r s n t)) [] := by
 obtain ⟨h, h0, h1⟩ := h
 have hi : t.toNat < s.length := by omega
 have hln := h.hln
 have h1' : t < n.length := by omega
 have hi2 : t.toNat < n.length := by omega
 have hb := h.get hi
 obtain ⟨off, hyst, trig⟩ := r
 simp only at hb
 refine dC [] is32 (by simp) trivial trivial trivial trivial (fun cx _ hl _ => dB [] 800 ?_)
 delta c32 oO oN oA oM oT oG oR oQ oS oK
 simp (maxSteps := 4000000) -implicitDefEqProofs only [rv32, iw, h0, h1, h1', hi, hi2, InR, bett, nF, WU, Ent.of0, Ent.of1, Ent.of2, Ent.of3, Ent.of4, V, W3, ↓reduceIte, seval, reduceCtorEq]
 omega
def wN : Ent Tryz.prog := .of4 32 (fun (r : Rul) (s n : List Int) (t : Int) => TickOk r s n t) (fun (r : Rul) (s n : List Int) (t : Int) => enc (bett r s n t)) (fun _ _ _ _ => trivial) (fun r s n t h => xh r s n t h)
theorem Over_c (r : Rul) (s n : List Int) (t : Int) (h : TickOk r s n t) : FC Tryz.prog 33 [enc r, enc s, enc n, enc t] [] (enc (ovr r s n t)) [] := by
 obtain ⟨h, h0, h1⟩ := h
 have hi : t.toNat < s.length := by omega
 have hln := h.hln
 have h1' : t < n.length := by omega
 have hi2 : t.toNat < n.length := by omega
 have hb := h.get hi
 obtain ⟨off, hyst, trig⟩ := r
 simp only at hb
 refine dC [] is33 (by simp) trivial trivial trivial trivial (fun cx _ hl _ => dB [] 800 ?_)
 delta c33 oO oN oA oM oT oG oR oQ oS oK
 simp (maxSteps := 4000000) -implicitDefEqProofs only [rv33, iw, h0, h1, h1', hi, hi2, InR, ovr, over, WU, Ent.of0, Ent.of1, Ent.of2, Ent.of3, Ent.of4, V, W3, ↓reduceIte, seval, reduceCtorEq]
 omega
def wO : Ent Tryz.prog := .of4 33 (fun (r : Rul) (s n : List Int) (t : Int) => TickOk r s n t) (fun (r : Rul) (s n : List Int) (t : Int) => enc (ovr r s n t)) (fun _ _ _ _ => trivial) (fun r s n t h => Over_c r s n t h)
def cnt (p : Nat → Bool) : Nat → Nat
 | 0 => 0
 | t + 1 => if p t then cnt p t + 1 else 0
theorem wP (p : Nat → Bool) : ∀ (t m : Nat), m < cnt p t ↔ (m < t ∧ ∀ k, k < t → t ≤ k + m + 1 → p k = true)
 | 0, m => by simp [cnt]
 | t + 1, m => by
  rw [cnt]
  cases hp : p t with
  | false =>
   simp only [Bool.false_eq_true, if_false, Nat.not_lt_zero, false_iff, not_and]
   intro h1 h2
   have := h2 t (by omega) (by omega)
   rw [hp] at this; cases this
  | true =>
   simp only [if_true]
   cases m with
   | zero =>
    constructor
    · intro _
      refine ⟨by omega, fun k h1 h2 => ?_⟩
      have : k = t := by omega
      rw [this]; exact hp
    · intro _; omega
   | succ m =>
    have ih := wP p t m
    constructor
    · intro h
      obtain ⟨g1, g2⟩ := ih.1 (by omega)
      refine ⟨by omega, fun k h1 h2 => ?_⟩
      by_cases hk : k = t
      · rw [hk]; exact hp
      · exact g2 k (by omega) (by omega)
    · intro h
      have := ih.2 ⟨by omega, fun k h1 h2 => h.2 k (by omega) (by omega)⟩
      omega
theorem wX (p : Nat → Bool) (t : Nat) : ((cnt p (t + 1) : Nat) : Int) = if p t then (cnt p t : Int) + 1 else 0 := by
 rw [cnt]; split <;> simp
theorem ticks_c (l : List Int) : FC Tryz.prog 22 [enc l] [] (enc (decide (l.length ≤ 62))) [] := by
 refine eg is22 (by simp) (fun cx hl => dB [] 800 ?_)
 have hle : ((l.length : Int) ≤ 62) = (l.length ≤ 62) := by simp; omega
 delta c22 oO oN oA oM oT oG oR oQ oS oK
 simp (maxSteps := 4000000) -implicitDefEqProofs only [rv22, hle, Ent.of0, Ent.of1, Ent.of2, Ent.of3, Ent.of4, V, W3, ↓reduceIte, seval, reduceCtorEq]
def wR : Ent Tryz.prog := .of1 22 (fun _ => True) (fun l : List Int => enc (decide (l.length ≤ 62))) (fun _ => trivial) (fun l _ => ticks_c l)
theorem xc (a b : Int) : dL [a, b] = if a ≠ 0 then a else b := by
 simp only [dL]
 by_cases h : a = 0 <;> by_cases g : b = 0 <;> simp [h, g]
def btr (r : Rul) (s n : List Int) (k : Nat) : Bool := nF r (s.getD k 0) (n.getD k 0)
def ovk (r : Rul) (s n : List Int) (k : Nat) : Bool := over r (s.getD k 0) (n.getD k 0)
def wU (r : Rul) (s n : List Int) : Option Int → List Int → Prop
 | _, [] => True
 | prev, v :: l => (r.trig ≤ v ∧ v ≤ (s.length : Int) - 1) ∧ (∀ k : Nat, v - r.trig ≤ (k : Int) → (k : Int) ≤ v → btr r s n k = true) ∧ (∀ u, prev = some u → u < v ∧ ∃ k : Nat, u ≤ (k : Int) ∧ (k : Int) < v ∧ ovk r s n k = true) ∧ wU r s n (some v) l
theorem cnt_gt {r : Rul} {s n : List Int} {t : Nat} {run : Int} (ht : 0 ≤ r.trig) (hrun : run = (cnt (btr r s n) (t + 1) : Int)) (h : r.trig < run) : r.trig ≤ t ∧ ∀ k : Nat, (t : Int) - r.trig ≤ k → (k : Int) ≤ t → btr r s n k = true := by
 obtain ⟨T, hT⟩ : ∃ T : Nat, r.trig = (T : Int) := ⟨r.trig.toNat, by omega⟩
 rw [hT] at h ⊢
 have h2 : T < cnt (btr r s n) (t + 1) := by omega
 rw [wP] at h2
 exact ⟨by omega, fun k h3 h4 => h2.2 k (by omega) (by omega)⟩
theorem goodT (r : Rul) (s n : List Int) (hl : n.length = s.length) (ht : 0 ≤ r.trig) (hh : 0 ≤ r.hyst) : ∀ (m t : Nat) (armed : Bool) (prev : Option Int), s.length - t = m →
 (∀ u, prev = some u → u < (t : Int) ∧ (armed = true → ∃ k : Nat, u ≤ (k : Int) ∧ (k : Int) < t ∧ ovk r s n k = true)) → wU r s n prev (trg r (s.drop t) (n.drop t) t (cnt (btr r s n) t) armed)
 | 0, t, armed, prev, hm, hp => by
  rw [List.drop_eq_nil_of_le (by omega : s.length ≤ t), sL]; trivial
 | m + 1, t, armed, prev, hm, hp => by
  have h1 : t < s.length := by omega
  have h2 : t < n.length := by omega
  rw [ee 0 h1, ee 0 h2, trg]
  have hc : (if nF r (s.getD t 0) (n.getD t 0) then (cnt (btr r s n) t : Int) + 1 else 0) = (cnt (btr r s n) (t + 1) : Int) := (wX (btr r s n) t).symm
  simp only [hc]
  by_cases hg : ((armed || over r (s.getD t 0) (n.getD t 0)) && decide (r.trig < (cnt (btr r s n) (t + 1) : Int))) = true
  · rw [if_pos hg]
    simp only [Bool.and_eq_true, Bool.or_eq_true, decide_eq_true_eq] at hg
    obtain ⟨g1, g2⟩ := hg
    obtain ⟨g3, g4⟩ := cnt_gt ht rfl g2
    have g5 := g4 t (by omega) (by omega)
    refine ⟨⟨g3, by omega⟩, g4, fun u hu => ?_, goodT r s n hl ht hh m (t + 1) false (some t) (by omega) (fun u hu => ?_)⟩
    · obtain ⟨q1, q2⟩ := hp u hu
      refine ⟨q1, ?_⟩
      rcases g1 with g1 | g1
      · exact q2 g1
      · exfalso
        simp only [btr, nF, decide_eq_true_eq] at g5
        simp only [over, decide_eq_true_eq] at g1
        omega
    · cases hu; exact ⟨by omega, fun h => by cases h⟩
  · rw [if_neg hg]
    refine goodT r s n hl ht hh m (t + 1) _ prev (by omega) (fun u hu => ?_)
    obtain ⟨q1, q2⟩ := hp u hu
    refine ⟨by omega, fun ha => ?_⟩
    simp only [Bool.or_eq_true] at ha
    rcases ha with ha | ha
    · obtain ⟨k, k1, k2, k3⟩ := q2 ha
      exact ⟨k, k1, by omega, k3⟩
    · exact ⟨t, by omega, by omega, ha⟩
theorem xf {r : Rul} {s n : List Int} (h : TrgOk r s n) : wU r s n none (iu r s n) := by
 have h2 := h.hr
 simp only [j3, Bool.and_eq_true, decide_eq_true_eq] at h2
 have := goodT r s n h.hln h2.2.1 h2.1.2.1 s.length 0 true none (by omega) (fun u hu => by cases hu)
 simpa [cnt, iu] using this
theorem wT (r : Rul) (s n : List Int) (hl : n.length = s.length) : ∀ (m t v : Nat), s.length - t = m → t ≤ v → v < s.length → r.trig < (cnt (btr r s n) (v + 1) : Int) →
 ∃ u l, trg r (s.drop t) (n.drop t) t (cnt (btr r s n) t) true = u :: l ∧ u ≤ (v : Int)
 | 0, t, v, hm, h1, h2, h3 => by omega
 | m + 1, t, v, hm, h1, h2, h3 => by
  have g1 : t < s.length := by omega
  have g2 : t < n.length := by omega
  rw [ee 0 g1, ee 0 g2, trg]
  have hc : (if nF r (s.getD t 0) (n.getD t 0) then (cnt (btr r s n) t : Int) + 1 else 0) = (cnt (btr r s n) (t + 1) : Int) := (wX (btr r s n) t).symm
  simp only [hc, Bool.true_or, Bool.true_and, decide_eq_true_eq]
  by_cases hg : r.trig < (cnt (btr r s n) (t + 1) : Int)
  · rw [if_pos hg]; exact ⟨_, _, rfl, by omega⟩
  · rw [if_neg hg]
    have : t ≠ v := fun e => hg (e ▸ h3)
    exact wT r s n hl m (t + 1) v (by omega) (by omega) h2 h3
theorem wW {p q : Nat → Bool} (h : ∀ k, p k = true → q k = true) : ∀ t, cnt p t ≤ cnt q t
 | 0 => Nat.le_refl _
 | t + 1 => by
  have := wW h t
  rw [cnt, cnt]
  cases hp : p t with
  | false => simp
  | true => rw [h t hp]; simp; omega
theorem later {r r' : Rul} {s n : List Int} (h : TrgOk r s n) (h' : TrgOk r' s n) (h1 : r.trig ≤ r'.trig) (h2 : r.off ≤ r'.off) (h3 : r.hyst = r'.hyst) (hne : iu r' s n ≠ []) :
 iu r s n ≠ [] ∧ (iu r s n).getD 0 0 ≤ (iu r' s n).getD 0 0 := by
 cases hL : iu r' s n with
 | nil => exact absurd hL hne
 | cons v l =>
  have hg := xf h'
  rw [hL] at hg
  obtain ⟨⟨g1, g2⟩, g3, _, _⟩ := hg
  have hr' := h'.hr
  simp only [j3, Bool.and_eq_true, decide_eq_true_eq] at hr'
  obtain ⟨V, rfl⟩ : ∃ V : Nat, v = (V : Int) := ⟨v.toNat, by omega⟩
  obtain ⟨T, hT⟩ : ∃ T : Nat, r'.trig = (T : Int) := ⟨r'.trig.toNat, by omega⟩
  have hc' : T < cnt (btr r' s n) (V + 1) := by
   rw [wP]
   exact ⟨by omega, fun k q1 q2 => g3 k (by omega) (by omega)⟩
  have hm := wW (p := btr r' s n) (q := btr r s n) (fun k hk => by
   simp only [btr, nF, decide_eq_true_eq] at hk ⊢
   omega) (V + 1)
  obtain ⟨u, l', e1, e2⟩ := wT r s n h.hln s.length 0 V (by omega) (by omega) (by omega) (by omega)
  have e3 : iu r s n = u :: l' := by simpa [cnt, iu] using e1
  rw [e3]
  exact ⟨by simp, by simpa using e2⟩
theorem wQ {r : Rul} {s n : List Int} : ∀ {V : List Int} {prev : Option Int}, wU r s n prev V → ∀ i, i < V.length → (r.trig ≤ V.getD i 0 ∧ V.getD i 0 ≤ (s.length : Int) - 1) ∧ (∀ k : Nat, V.getD i 0 - r.trig ≤ (k : Int) → (k : Int) ≤ V.getD i 0 → btr r s n k = true) ∧ (0 < i → V.getD (i - 1) 0 < V.getD i 0 ∧ ∃ k : Nat, V.getD (i - 1) 0 ≤ (k : Int) ∧ (k : Int) < V.getD i 0 ∧ ovk r s n k = true)
 | [], _, _, i, h => by cases h
 | v :: l, prev, hg, 0, h => ⟨hg.1, hg.2.1, fun h => by cases h⟩
 | v :: l, prev, hg, i + 1, h => by
  have ih := wQ hg.2.2.2 i (by simpa using h)
  refine ⟨ih.1, ih.2.1, fun _ => ?_⟩
  cases i with
  | zero =>
   cases l with
   | nil => simp at h
   | cons w l => exact hg.2.2.2.2.2.1 v rfl
  | succ i => exact ih.2.2 (by omega)
def ovA (r : Rul) (s n : List Int) (P : Int) (j : Nat) : Bool := (List.range j).any fun k => ovk r s n (P.toNat + k)
theorem wY (r : Rul) (s n : List Int) (P : Int) (j : Nat) : ovA r s n P (j + 1) = (ovA r s n P j || ovk r s n (P.toNat + j)) := by
 simp [ovA, List.range_succ]
theorem wL {r r' : Rul} {s n W : List Int} (hV : iu r s n = W) (h : TrgOk r s n) (hT : iX r' s n = 0) (h1 : r.trig ≤ r'.trig) (h2 : r.off ≤ r'.off) (h3 : r.hyst = r'.hyst) :
 if ¬ftE r' s n = 0 then if ftE r' s n = 12 then (if ftE r' s n = 0 then (iu r' s n).getD 0 0 else 0) = 0 else False
 else if 0 < (W.length : Int) then 0 < (W.length : Int) ∧ W.getD 0 0 ≤ if ftE r' s n = 0 then (iu r' s n).getD 0 0 else 0 else False := by
 have hF : ftE r' s n = if iX r' s n ≠ 0 then iX r' s n else if iu r' s n = [] then 12 else 0 := rfl
 rw [if_neg (fun g => g hT)] at hF
 by_cases hg : iu r' s n = []
 · rw [if_pos hg] at hF
   rw [hF, if_pos (by decide), if_pos rfl, if_neg (by decide)]
 · rw [if_neg hg] at hF
   obtain ⟨q1, q2⟩ := later h (rK hT) h1 h2 h3 hg
   rw [hV] at q1 q2
   have hW : 0 < (W.length : Int) := by have := List.length_pos_iff.2 q1; omega
   rw [hF, if_neg (by simp), if_pos hW, if_pos rfl]
   exact ⟨hW, q2⟩
theorem xa (haw : Awake) (r : Rul) (s n : List Int) (a b : Int) : FC Tryz.prog 4 [enc r, .agg [enc s, enc n], .agg [enc a, enc b]] [] (enc true) [] := by
 have hE : ∀ r, iX r s n = if kj r ≠ 0 then kj r else l9 s n := fun r => by rw [iX, xc]
 obtain ⟨off, hyst, trig⟩ := r
 refine dC [] D.is4 (by simp) trivial trivial trivial trivial (fun cx _ hl _ => dB [ent21 haw, wR, wJ, qm, wK, wS] 1500 ?_)
 by_cases h1 : s.length ≤ 62
 rotate_left
 · have d1 := decide_eq_false h1
   delta D.c4 oO oN oA oM oT oG oR oQ oS oK
   simp (maxSteps := 4000000) -implicitDefEqProofs only [D.rv4, ent21, wR, wJ, qm, wK, wS, iw, jT, d1, not_true_eq_false, WU, Ent.of0, Ent.of1, Ent.of2, Ent.of3, Ent.of4, V, W3, ↓reduceIte, seval, reduceCtorEq]
 have d1 := decide_eq_true h1
 by_cases h2 : kj ⟨off, hyst, trig⟩ = 0
 rotate_left
 · delta D.c4 oO oN oA oM oT oG oR oQ oS oK
   simp (maxSteps := 4000000) -implicitDefEqProofs only [D.rv4, ent21, wR, wJ, qm, wK, wS, iw, jT, d1, h2, not_true_eq_false, WU, Ent.of0, Ent.of1, Ent.of2, Ent.of3, Ent.of4, V, W3, ↓reduceIte, seval, reduceCtorEq]
 by_cases h3 : l9 s n = 0
 rotate_left
 · delta D.c4 oO oN oA oM oT oG oR oQ oS oK
   simp (maxSteps := 4000000) -implicitDefEqProofs only [D.rv4, ent21, wR, wJ, qm, wK, wS, iw, jT, d1, h2, h3, not_true_eq_false, WU, Ent.of0, Ent.of1, Ent.of2, Ent.of3, Ent.of4, V, W3, ↓reduceIte, seval, reduceCtorEq]
 have hT : iX ⟨off, hyst, trig⟩ s n = 0 := by rw [hE, if_neg (fun g => g h2)]; exact h3
 have hok := rK hT
 have hln := hok.hln
 have h60 := hok.h60
 have h1' : s.length ≤ 1000000 := by omega
 have h2' : n.length ≤ 1000000 := by omega
 delta D.c4 oO oN oA oM oT oG oR oQ oS oK
 simp (maxSteps := 4000000) -implicitDefEqProofs only [D.rv4, ent21, wR, wJ, qm, wK, wS, iw, jT, d1, h2, h3, hT, h1', h2', not_true_eq_false, WU, Ent.of0, Ent.of1, Ent.of2, Ent.of3, Ent.of4, V, W3, ↓reduceIte, seval, reduceCtorEq]
 have hgood := xf hok
 have hVl : (iu ⟨off, hyst, trig⟩ s n).length ≤ 60 := Nat.le_trans (mJ _ s n 0 0 true) h60
 have hro := hok.hr
 simp only [j3, Bool.and_eq_true, decide_eq_true_eq] at hro
 obtain ⟨T, rfl⟩ : ∃ T : Nat, trig = (T : Int) := ⟨trig.toNat, by omega⟩
 generalize hV : iu ⟨off, hyst, T⟩ s n = W at *
 refine eM W.length (fun i => [(11, .s (.int .i64 (i : Int)))]) (fun _ => []) (fun _ => True) trivial ?_ (fun i hi _ => dB [n9, wK, wJ, wM] 1500 ?_)
 · simp (maxSteps := 4000000) -implicitDefEqProofs only [Ent.of0, Ent.of1, Ent.of2, Ent.of3, Ent.of4, V, W3, ↓reduceIte, seval, reduceCtorEq]
   all_goals simp
 · by_cases h4 : i < W.length
   · have hi2 : (i : Int) < (W.length : Int) := by omega
     have hi0 : (0 : Int) ≤ i := by omega
     have hmx : (if (i : Int) - 1 > 0 then (i : Int) - 1 else 0) = ((i - 1 : Nat) : Int) := by omega
     have hm0 : (0 : Int) ≤ ((i - 1 : Nat) : Int) := by omega
     have hm1 : ((i - 1 : Nat) : Int) < (W.length : Int) := by omega
     have hm2 : i - 1 < W.length := by omega
     obtain ⟨⟨g1, g2⟩, g3, g4⟩ := wQ hgood i h4
     simp only at g1 g3
     delta D.c4l3 oO oN oA oM oT oG oR oQ oS oK
     simp (maxSteps := 4000000) -implicitDefEqProofs only [n9, wK, wJ, wM, hi2, hi0, h4, g1, g2, InR, not_true_eq_false, WU, Ent.of0, Ent.of1, Ent.of2, Ent.of3, Ent.of4, V, W3, ↓reduceIte, seval, reduceCtorEq]
     have hm4 : ((i : Int) - 1).toNat = i - 1 := by clear g4 g3 hmx; omega
     have hP0 : 0 ≤ W.getD (i - 1) 0 ∧ W.getD (i - 1) 0 ≤ (s.length : Int) - 1 := by
      obtain ⟨⟨q1, q2⟩, _⟩ := wQ hgood (i - 1) hm2
      simp only at q1
      exact ⟨by omega, q2⟩
     refine ⟨by omega, ?_⟩
     by_cases hgt : (0 : Int) < i
     · have hlt := (g4 (Int.natCast_pos.mp hgt)).1
       rw [if_pos hgt]
       refine ⟨by omega, by omega, ?_⟩
       rw [hm4, if_neg (Int.not_le.mpr hlt)]
       refine ⟨by omega, ?_⟩
       refine eM (T + 1) (fun j => [(12, .s (.int .i64 (W.getD i 0 - T + (j : Int))))]) (fun _ => []) (fun _ => True) trivial ?_ (fun j hj _ => dB [wN] 900 ?_)
       · simp (maxSteps := 4000000) -implicitDefEqProofs only [Ent.of0, Ent.of1, Ent.of2, Ent.of3, Ent.of4, V, W3, ↓reduceIte, seval, reduceCtorEq]
         all_goals simp
       by_cases h5 : j < T + 1
       · have e1 : W.getD i 0 - T + (j : Int) ≤ W.getD i 0 := by omega
         have htk : TickOk ⟨off, hyst, T⟩ s n (W.getD i 0 - T + (j : Int)) := ⟨hok, by omega, by omega⟩
         have hbt : bett ⟨off, hyst, T⟩ s n (W.getD i 0 - T + (j : Int)) = true := g3 (W.getD i 0 - T + (j : Int)).toNat (by omega) (by omega)
         delta D.c4l1 oO oN oA oM oT oG oR oQ oS oK
         simp (maxSteps := 4000000) -implicitDefEqProofs only [wN, jT, hi2, hi0, h4, e1, htk, hbt, InR, not_true_eq_false, WU, Ent.of0, Ent.of1, Ent.of2, Ent.of3, Ent.of4, V, W3, ↓reduceIte, seval, reduceCtorEq]
         omega
       · have e1 : ¬ W.getD i 0 - T + (j : Int) ≤ W.getD i 0 := by omega
         delta D.c4l1 oO oN oA oM oT oG oR oQ oS oK
         simp (maxSteps := 4000000) -implicitDefEqProofs only [wN, jT, hi2, hi0, h4, e1, hmx, hm0, hm1, hm2, InR, not_true_eq_false, WU, Ent.of0, Ent.of1, Ent.of2, Ent.of3, Ent.of4, V, W3, ↓reduceIte, seval, reduceCtorEq]
         refine ⟨by omega, ?_⟩
         refine eM (W.getD i 0 - W.getD (i - 1) 0).toNat (fun j => [(13, .s (.bool (decide ((i : Int) = 0) || ovA ⟨off, hyst, T⟩ s n (W.getD (i - 1) 0) j))), (14, .s (.int .i64 (W.getD (i - 1) 0 + (j : Int))))]) (fun _ => []) (fun _ => True) trivial ?_ (fun j hj _ => dB [wO] 900 ?_)
         · simp (maxSteps := 4000000) -implicitDefEqProofs only [Ent.of0, Ent.of1, Ent.of2, Ent.of3, Ent.of4, V, W3, ↓reduceIte, seval, reduceCtorEq]
           all_goals simp [ovA]
         by_cases h6 : j < (W.getD i 0 - W.getD (i - 1) 0).toNat
         · have e2 : W.getD (i - 1) 0 + (j : Int) < W.getD i 0 := by omega
           have htk : TickOk ⟨off, hyst, T⟩ s n (W.getD (i - 1) 0 + (j : Int)) := ⟨hok, by omega, by omega⟩
           have hbt : ovr ⟨off, hyst, T⟩ s n (W.getD (i - 1) 0 + (j : Int)) = ovk ⟨off, hyst, T⟩ s n ((W.getD (i - 1) 0).toNat + j) := by
            rw [ovr, ovk, show (W.getD (i - 1) 0 + (j : Int)).toNat = (W.getD (i - 1) 0).toNat + j by omega]
           have hsu := wY ⟨off, hyst, T⟩ s n (W.getD (i - 1) 0) j
           cases hz : decide ((i : Int) = 0) <;> cases ho : ovA ⟨off, hyst, T⟩ s n (W.getD (i - 1) 0) j
           all_goals
            rw [ho] at hsu
            delta D.c4l2 oO oN oA oM oT oG oR oQ oS oK
            simp (maxSteps := 4000000) -implicitDefEqProofs only [wO, jT, hi2, hi0, h4, e2, htk, hbt, hz, ho, hsu, Bool.or_true, Bool.or_false, Bool.true_or, Bool.false_or, InR, not_true_eq_false, WU, Ent.of0, Ent.of1, Ent.of2, Ent.of3, Ent.of4, V, W3, ↓reduceIte, seval, reduceCtorEq]
            omega
         · have e2 : ¬ W.getD (i - 1) 0 + (j : Int) < W.getD i 0 := by omega
           have hres : (decide ((i : Int) = 0) || ovA ⟨off, hyst, T⟩ s n (W.getD (i - 1) 0) j) = true := by
            by_cases hi3 : i = 0
            · subst hi3; rfl
            · obtain ⟨g5, k, k1, k2, k3⟩ := g4 (by omega)
              have : ovA ⟨off, hyst, T⟩ s n (W.getD (i - 1) 0) j = true := by
               rw [ovA, List.any_eq_true]
               refine ⟨k - (W.getD (i - 1) 0).toNat, List.mem_range.2 (by omega), ?_⟩
               rw [show (W.getD (i - 1) 0).toNat + (k - (W.getD (i - 1) 0).toNat) = k by omega]
               exact k3
              rw [this, Bool.or_true]
           delta D.c4l2 oO oN oA oM oT oG oR oQ oS oK
           simp (maxSteps := 4000000) -implicitDefEqProofs only [wO, e2, hres, InR, not_true_eq_false, WU, Ent.of0, Ent.of1, Ent.of2, Ent.of3, Ent.of4, V, W3, ↓reduceIte, seval, reduceCtorEq]
           omega
     · rw [if_neg hgt]
       have hi00 : i = 0 := by omega
       have hlt : W.getD (i - 1) 0 ≤ W.getD i 0 := by rw [hi00]; exact Int.le_refl _
       refine ⟨by omega, ?_⟩
       refine eM (T + 1) (fun j => [(12, .s (.int .i64 (W.getD i 0 - T + (j : Int))))]) (fun _ => []) (fun _ => True) trivial ?_ (fun j hj _ => dB [wN] 900 ?_)
       · simp (maxSteps := 4000000) -implicitDefEqProofs only [Ent.of0, Ent.of1, Ent.of2, Ent.of3, Ent.of4, V, W3, ↓reduceIte, seval, reduceCtorEq]
         all_goals simp
       by_cases h5 : j < T + 1
       · have e1 : W.getD i 0 - T + (j : Int) ≤ W.getD i 0 := by omega
         have htk : TickOk ⟨off, hyst, T⟩ s n (W.getD i 0 - T + (j : Int)) := ⟨hok, by omega, by omega⟩
         have hbt : bett ⟨off, hyst, T⟩ s n (W.getD i 0 - T + (j : Int)) = true := g3 (W.getD i 0 - T + (j : Int)).toNat (by omega) (by omega)
         delta D.c4l1 oO oN oA oM oT oG oR oQ oS oK
         simp (maxSteps := 4000000) -implicitDefEqProofs only [wN, jT, hi2, hi0, h4, e1, htk, hbt, InR, not_true_eq_false, WU, Ent.of0, Ent.of1, Ent.of2, Ent.of3, Ent.of4, V, W3, ↓reduceIte, seval, reduceCtorEq]
         omega
       · have e1 : ¬ W.getD i 0 - T + (j : Int) ≤ W.getD i 0 := by omega
         delta D.c4l1 oO oN oA oM oT oG oR oQ oS oK
         simp (maxSteps := 4000000) -implicitDefEqProofs only [wN, jT, hi2, hi0, h4, e1, hmx, hm0, hm1, hm2, InR, not_true_eq_false, WU, Ent.of0, Ent.of1, Ent.of2, Ent.of3, Ent.of4, V, W3, ↓reduceIte, seval, reduceCtorEq]
         refine ⟨by omega, ?_⟩
         refine eM (W.getD i 0 - W.getD (i - 1) 0).toNat (fun j => [(13, .s (.bool (decide ((i : Int) = 0) || ovA ⟨off, hyst, T⟩ s n (W.getD (i - 1) 0) j))), (14, .s (.int .i64 (W.getD (i - 1) 0 + (j : Int))))]) (fun _ => []) (fun _ => True) trivial ?_ (fun j hj _ => dB [wO] 900 ?_)
         · simp (maxSteps := 4000000) -implicitDefEqProofs only [Ent.of0, Ent.of1, Ent.of2, Ent.of3, Ent.of4, V, W3, ↓reduceIte, seval, reduceCtorEq]
           all_goals simp [ovA]
         by_cases h6 : j < (W.getD i 0 - W.getD (i - 1) 0).toNat
         · have e2 : W.getD (i - 1) 0 + (j : Int) < W.getD i 0 := by omega
           have htk : TickOk ⟨off, hyst, T⟩ s n (W.getD (i - 1) 0 + (j : Int)) := ⟨hok, by omega, by omega⟩
           have hbt : ovr ⟨off, hyst, T⟩ s n (W.getD (i - 1) 0 + (j : Int)) = ovk ⟨off, hyst, T⟩ s n ((W.getD (i - 1) 0).toNat + j) := by
            rw [ovr, ovk, show (W.getD (i - 1) 0 + (j : Int)).toNat = (W.getD (i - 1) 0).toNat + j by omega]
           have hsu := wY ⟨off, hyst, T⟩ s n (W.getD (i - 1) 0) j
           cases hz : decide ((i : Int) = 0) <;> cases ho : ovA ⟨off, hyst, T⟩ s n (W.getD (i - 1) 0) j
           all_goals
            rw [ho] at hsu
            delta D.c4l2 oO oN oA oM oT oG oR oQ oS oK
            simp (maxSteps := 4000000) -implicitDefEqProofs only [wO, jT, hi2, hi0, h4, e2, htk, hbt, hz, ho, hsu, Bool.or_true, Bool.or_false, Bool.true_or, Bool.false_or, InR, not_true_eq_false, WU, Ent.of0, Ent.of1, Ent.of2, Ent.of3, Ent.of4, V, W3, ↓reduceIte, seval, reduceCtorEq]
            omega
         · have e2 : ¬ W.getD (i - 1) 0 + (j : Int) < W.getD i 0 := by omega
           have hres : (decide ((i : Int) = 0) || ovA ⟨off, hyst, T⟩ s n (W.getD (i - 1) 0) j) = true := by
            by_cases hi3 : i = 0
            · subst hi3; rfl
            · obtain ⟨g5, k, k1, k2, k3⟩ := g4 (by omega)
              have : ovA ⟨off, hyst, T⟩ s n (W.getD (i - 1) 0) j = true := by
               rw [ovA, List.any_eq_true]
               refine ⟨k - (W.getD (i - 1) 0).toNat, List.mem_range.2 (by omega), ?_⟩
               rw [show (W.getD (i - 1) 0).toNat + (k - (W.getD (i - 1) 0).toNat) = k by omega]
               exact k3
              rw [this, Bool.or_true]
           delta D.c4l2 oO oN oA oM oT oG oR oQ oS oK
           simp (maxSteps := 4000000) -implicitDefEqProofs only [wO, e2, hres, InR, not_true_eq_false, WU, Ent.of0, Ent.of1, Ent.of2, Ent.of3, Ent.of4, V, W3, ↓reduceIte, seval, reduceCtorEq]
           omega
   · have hi2 : ¬ (i : Int) < (W.length : Int) := by omega
     delta D.c4l3 oO oN oA oM oT oG oR oQ oS oK
     simp (maxSteps := 4000000) -implicitDefEqProofs only [n9, wK, wJ, wM, jT, h2, h1', h2', hi2, not_true_eq_false, WU, Ent.of0, Ent.of1, Ent.of2, Ent.of3, Ent.of4, V, W3, ↓reduceIte, seval, reduceCtorEq]
     by_cases ha : 0 ≤ a ∧ a ≤ 20
     · rw [if_pos ha]
       by_cases hb : 0 ≤ b ∧ b ≤ 100
       · rw [if_pos hb]
         refine nB [] 400 ?_
         simp (maxSteps := 4000000) -implicitDefEqProofs only [drS, lB, robC, reC, fixS, eP, AOp.reads, true_or, or_true, false_or, InR, WU, Ent.of0, Ent.of1, Ent.of2, Ent.of3, Ent.of4, V, W3, ↓reduceIte, seval, reduceCtorEq]
         refine ⟨by omega, by omega, by omega, ?_⟩
         refine dB [wK, wJ, wM] 900 ?_
         by_cases hr' : kj ⟨off + b, hyst, T + a⟩ = 0
         · have hT' : iX ⟨off + b, hyst, T + a⟩ s n = 0 := by rw [hE, if_neg (fun g => g hr')]; exact h3
           simp (maxSteps := 4000000) -implicitDefEqProofs only [wK, wJ, wM, jT, h1', h2', hr', not_true_eq_false, WU, Ent.of0, Ent.of1, Ent.of2, Ent.of3, Ent.of4, V, W3, ↓reduceIte, seval, reduceCtorEq]
           exact wL hV hok hT' (by show (T : Int) ≤ T + a; omega) (by show off ≤ off + b; omega) rfl
         · simp (maxSteps := 4000000) -implicitDefEqProofs only [wK, wJ, wM, jT, h1', h2', hr', not_true_eq_false, WU, Ent.of0, Ent.of1, Ent.of2, Ent.of3, Ent.of4, V, W3, ↓reduceIte, seval, reduceCtorEq]
       · rw [if_neg hb]
         exact wL hV hok hT (Int.le_refl _) (Int.le_refl _) rfl
     · rw [if_neg ha]
       exact wL hV hok hT (Int.le_refl _) (Int.le_refl _) rfl
end Go.Proofs.YtcbabnbiinkafaaGreatDoor
end
section
open Go Go.Am
open Go.Am.Dat (cells)
namespace Go.Proofs.YtcbabnbiinkafaaGreatDoor
open Go.ChangeShapes Go.WideShapes Go.ChangeAt Go.RowKit
open Go.ChangeMaps (open_string shut_string)
set_option maxRecDepth 100000
theorem wV {ta te : TypeId} {α : Type} [DatL α] {p : α → Prop} (he : ReadsP Tryz.prog te α p) (hag : Dat.agg α = false) (h1 : Dat.sz α = 1) (ht : Tryz.prog.underlying ta = some (.array 2 te)) (hct : Tryz.prog.cellsOf ta = 2) {H : Type} {en : TypeId × Value → H} {W : World} {r : Reach} {base : Nat} {sp : Nat → Bool} {v : Value} {d : DataW H} {ps : List MemPlace}
 (hval : Value.okWide Tryz.prog W r base ta v) (hd : DataW.Trod en Tryz.prog W 0 sp true ta v d ps) : ∃ a b : α, (p a ∧ p b) ∧ ∀ E, Rep E (fun b => b < W.heap.size) W.heap (.agg [enc a, enc b]) v := by
 have hv2 : ∃ cs, v = .agg cs := by
  simp only [Value.okWide, ht] at hval
  obtain ⟨cs, h2, _⟩ := hval
  exact ⟨cs, h2⟩
 obtain ⟨vs, rfl⟩ := hv2
 obtain ⟨fuel, hf⟩ := hd
 have hc : (Value.agg vs).cells = vs := by simp [Value.cells]
 rw [hc] at hf
 obtain ⟨xs, m, _, _, hl, hlen, hel⟩ := DataW.trod_array ht hf
 rw [hct] at hl
 have hk : Tryz.prog.cellsOf te = 1 := he.sz.trans h1
 obtain ⟨l⟩ := vs
 match l, hl with
 | [b0, b1], _ =>
  match xs, hlen with
  | [y0, y1], _ =>
   have q0 : DataW.trod en Tryz.prog W 0 sp true m te (([b0, b1].drop (0 * Tryz.prog.cellsOf te)).take (Tryz.prog.cellsOf te)) = some y0 := hel 0 (by decide)
   have q1 : DataW.trod en Tryz.prog W 0 sp true m te (([b0, b1].drop (1 * Tryz.prog.cellsOf te)).take (Tryz.prog.cellsOf te)) = some y1 := hel 1 (by decide)
   rw [hk] at q0 q1
   obtain ⟨a, pa, la, _, ra⟩ := he.rd en W sp m _ _ q0
   obtain ⟨b, pb, lb, _, rb⟩ := he.rd en W sp m _ _ q1
   have enc1 : ∀ x : α, (cells x).length = Dat.sz α → (cells x)[0]? = some (enc x) := fun x hx => by
    rw [enc, if_neg (by rw [hag]; simp)]
    cases hcx : cells x with
    | nil => rw [hcx, h1] at hx; cases hx
    | cons y ys => rfl
   have ea := ra 0 _ (enc1 a la)
   have eb := rb 0 _ (enc1 b lb)
   refine ⟨a, b, ⟨pa, pb⟩, fun E => .agg _ _ rfl (fun j c hj => ?_) (fun j hj => ?_)⟩
   · match j, hj with
     | 0, hj => cases hj; exact .d ea.1
     | 1, hj => cases hj; exact .d eb.1
   · match j, hj with
     | 0, _ => exact ea.2
     | 1, _ => exact eb.2
theorem rRul : ReadsP Tryz.prog 23 Rul (fun _ => True) := by
 refine ⟨by kernel_rfl, by decide, fun en w sp fuel cs x h => ?_⟩
 obtain ⟨l, a0, p0, e0, h0⟩ := lX rInt Tryz.underlying23 h 0 rfl rfl
 obtain ⟨_, a1, p1, e1, h1⟩ := lX rInt Tryz.underlying23 h 1 rfl rfl
 obtain ⟨_, a2, p2, e2, h2⟩ := lX rInt Tryz.underlying23 h 2 rfl rfl
 refine ⟨⟨a0, a1, a2⟩, trivial, rfl, l.trans (by kernel_rfl), fun j c hj => ?_⟩
 match j, hj with
 | 0, hj => cases hj; exact h0 0 _ rfl
 | 1, hj => cases hj; exact h1 0 _ rfl
 | 2, hj => cases hj; exact h2 0 _ rfl
theorem lifted4 (os : Os) (started : os.Started) (H : Type) (en : TypeId × Value → H) :
 ReturnsInHanded {} Tryz.checked os 4 .any (fun w args => (Rows.moveLaterSpec.pre en Tryz.prog Tryz.f4 Rows.moveLaterRow.domain false w args ∧ laidMetH Tryz.prog Rows.moveLaterRow.laid w) ∧ sizedMet en Tryz.prog Tryz.f4 (OpenSpec.ofChange Rows.moveLaterSpec) false w args)
  (Rows.moveLaterSpec.post en Tryz.prog Tryz.f4 false true false false) := by
 refine returnsInHanded_of_change_and (C := Tryz.checked) (X := fun w _ => laidMetH Tryz.prog Rows.moveLaterRow.laid w) (fun _ _ _ hh h => h.of_heap hh) ownOk started (by kernel_rfl) Tryz.func4
  (ChangeSpec.witness_shaped (enc := en) (C := Tryz.checked) (os := os) (X := fun w _ => laidMetH Tryz.prog Rows.moveLaterRow.laid w) false (World.doorLaid Tryz.prog 89 os) #[.agg #[.int .i64 0, .int .i64 0, .int .i64 0], .agg #[.slice none 0 0, .slice none 0 0], .agg #[.int .i64 0, .int .i64 0]] 8 rfl (doorShaped os _) (by kernel_rfl) (by kernel_rfl) (by kernel_rfl) (door_met os _)) ?_
 intro W base args ds gs before hval0 hW hcnd hsz hL _
 have hval : ∀ (j : Nat) t v, Tryz.f4.params[j]? = some t → args[j]? = some v → Value.okWide Tryz.prog W .any base t v := hval0
 have hW' := hW
 obtain ⟨p, q, hA0, hV, rfl, hfz, hnd⟩ := hW
 have hA : DataW.TrodAll en Tryz.prog W 0 (fun _ => true) true Tryz.f4.params.toList args.toList ds p := hA0
 rw [Tryz.params4] at hA hval
 obtain ⟨v0, vs0, d0w, ds0, p0, q0, hargs, rfl, rfl, h0, r0w⟩ := trodAll_cons hA
 obtain ⟨v1, vs1, d1, ds1, p1, q1, rfl, rfl, rfl, h1, r1⟩ := trodAll_cons r0w
 obtain ⟨v2, vs2, d2, ds2, p2, q2, rfl, rfl, rfl, h2, r2⟩ := trodAll_cons r1
 obtain ⟨rfl, rfl, rfl⟩ := trodAll_nil r2
 obtain rfl : args = #[v0, v1, v2] := by cases args; simp_all
 obtain ⟨rfl, rfl⟩ := trodVars_none hV
 have lt0 : ∀ x ∈ p0, x.block < W.heap.size := by obtain ⟨m, hm⟩ := h0; exact DataW.trod_lt m _ _ _ hm
 have lt1 : ∀ x ∈ p1, x.block < W.heap.size := by obtain ⟨m, hm⟩ := h1; exact DataW.trod_lt m _ _ _ hm
 have lt2 : ∀ x ∈ p2, x.block < W.heap.size := by obtain ⟨m, hm⟩ := h2; exact DataW.trod_lt m _ _ _ hm
 obtain ⟨x0, g0, hx0⟩ := rRul.argS rfl Tryz.underlying23 (hval 0 23 v0 rfl rfl) h0
 obtain ⟨x1a, x1b, g1, hx1⟩ := wV rInts rfl rfl Tryz.underlying39 (by kernel_rfl) (hval 1 39 v1 rfl rfl) h1
 obtain ⟨x2a, x2b, g2, hx2⟩ := wV rInt rfl rfl Tryz.underlying40 (by kernel_rfl) (hval 2 40 v2 rfl rfl) h2
 clear hA0 hval0
 refine (law_walkG (xa awake_c x0 x1a x1b x2a x2b) (W := W) (vs := #[v0, v1, v2]) (glAll hL) rfl (fun j c hj E => ?_)).mono fun e W' ⟨he, bel⟩ => ?_
 · match j, hj with
   | 0, hj => cases hj; exact hx0 E
   | 1, hj => cases hj; exact hx1 E
   | 2, hj => cases hj; exact hx2 E
 · subst he
   exact ⟨_, rfl, _, _, _, [], _, [], hW', trodAll_mk1 (shut_bool Tryz.underlying4 _), (trodAll_cons_mk (Below.trod laidOut (by kernel_rfl) (of_decide_eq_true (by kernel_rfl)) h0 bel lt0) (trodAll_cons_mk (Below.trod laidOut (by kernel_rfl) (of_decide_eq_true (by kernel_rfl)) h1 bel lt1) (trodAll_cons_mk (Below.trod laidOut (by kernel_rfl) (of_decide_eq_true (by kernel_rfl)) h2 bel lt2) trodAll_mk0))), rfl, bel.frame _, fun h => by cases h⟩
theorem jPlace4 : (Rows.moveLaterRow.inPlace == Tryz.prog.inPlace 4) = true := by kernel_rfl
theorem jUnf4 : (Rows.moveLaterRow.unfollowed == Tryz.prog.unfollowed 4) = true := by kernel_rfl
theorem jRec4 : (Rows.moveLaterRow.recurses == Tryz.prog.recurses 4) = true := by kernel_rfl
theorem jNamed4 : (Rows.moveLaterRow.named == Tryz.prog.varsNamed 4) = true := by kernel_rfl
theorem jKeys4 : (Rows.moveLaterRow.plainKeys == Tryz.prog.plainKeys) = true := jKeys
theorem jLift4 : (Rows.moveLaterRow.lifted == Tryz.prog.liftsFinal) = true := jLift
theorem jMake4 : (Tryz.prog.make == some Rows.moveLaterRow.make) = true := jMake
theorem jVeil4 : Rows.moveLaterRow.veiledFits Tryz.prog Tryz.f4.params.toList (Tryz.f4.params.toList ++ Rows.moveLaterSpec.plain.varTypes Tryz.prog ++ Tryz.f4.resultTypes.toList) = true := by kernel_rfl
end Go.Proofs.YtcbabnbiinkafaaGreatDoor
end
