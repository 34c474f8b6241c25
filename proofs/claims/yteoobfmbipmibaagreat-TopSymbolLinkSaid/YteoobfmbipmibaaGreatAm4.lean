/- Part 4 of the proof of: TopSymbolLink returns true for every input and never panics: bits with their check, coded, scrambled, modulated, layered, with a matrix applied, are recovered behind equalizing by soft bits turned back by the register; conditions: none beyond the given statement. -/
import Derived.Test.YteoobfmbipmibaaGreatProg
import Derived.KernelRfl
import Derived.Test.YteoobfmbipmibaaGreatAm3
set_option linter.all false
section
open Go Go.Am
open Go.Am.Dat (cells)
namespace Go.Proofs.YteoobfmbipmibaaGreat
set_option maxRecDepth 100000
def c93 : AC := oS (oR [oA 1 (.box (oO 0)), oA 2 (.mv (oN 0))]) (oK [1] (oS (oS (oQ [oT 3 (.faddr 0 (oO 1)), oT 4 (.load false 1 (oO 3)), oT 5 (.call (.func 27) [(oO 4), (oN 1), (oN 16)]), oT 6 (.un .not (oO 5)), oT 7 (.mv (oO 6)), oG 8 7 false (.faddr 1 (oO 1)), oG 9 7 false (.load false 1 (oO 8)), oG 10 7 false (.faddr 0 (oO 1)), oG 11 7 false (.load false 1 (oO 10)), oG 12 7 false (.call (.func 44) [(oO 11)]), oG 13 7 false (.bin .sub 3 (oO 12) (oN 1)), ⟨some 14, some (7, false), .call (.func 27) [(oO 9), (oN 1), (oO 13)], true⟩, ⟨some 15, some (7, false), .un .not (oO 14), true⟩, oT 16 (.pick (oO 7) (.const (.bool true)) (oO 15))]) (oK [1, 16] (.cond (oO 16) (oS (oR [oA 2 (.mv (oN 2))]) (oK [2] (.ret))) (.skip)))) (oK [1] (oS (oS (oR [oA 17 (.faddr 1 (oO 1)), oA 18 (.load false 1 (oO 17)), oA 19 (.bin .rem 3 (oO 18) (oN 2)), oA 20 (.bin .eql 3 (oO 19) (oN 0))]) (oK [20] (.cond (oO 20) (oS (oR [oA 2 (.mv (oN 3))]) (oK [2] (.ret))) (.skip)))) (oK [] (oS (oR [oA 2 (.mv (oN 0))]) (oK [2] (.ret))))))))
def rv93 : List RV := [.tmp 2]
theorem is93 : FnIs Tryz.prog 93 21 c93 rv93 := ⟨⟨Tryz.f93, _, Tryz.func93, by kernel_rfl, rfl, rfl, by kernel_rfl, by kernel_rfl⟩, by decide⟩
def nN : AC := oS (oS (oR [oM 12 3, oA 13 (.faddr 1 (oO 1)), oA 14 (.load false 1 (oO 13)), oA 15 (.len false (oO 14)), oA 16 (.bin .lss 3 (oO 12) (oO 15))]) (oK [1, 3, 16] (.cond (oO 16) (.skip) (.exit 0)))) (oK [1, 3] (oS (.block 1 (oS (oS (oQ [oA 19 (.faddr 1 (oO 1)), oA 20 (.load false 1 (oO 19)), oA 21 (.mvs (oO 3)), oA 22 (.iaddr 1 [.int .i64 0] (oO 20) (oO 21)), oA 23 (.load false 1 (oO 22)), oA 24 (.faddr 0 (oO 1)), oA 25 (.load false 1 (oO 24)), oA 26 (.call (.func 44) [(oO 25)]), oA 27 (.bin .sub 3 (oO 26) (oN 1)), oT 28 (.call (.func 27) [(oO 23), (oN 0), (oO 27)]), oT 29 (.un .not (oO 28))]) (oK [1, 3, 29] (.cond (oO 29) (oS (oR [oA 2 (.mv (oN 2))]) (oK [2] (.ret))) (.skip)))) (oK [1, 3] (oS (oQ [oT 30 (.mv (oO 3)), oT 31 (.bin .gtr 3 (oO 30) (oN 0)), oT 32 (.mv (oO 31)), oG 33 32 true (.faddr 1 (oO 1)), oG 34 32 true (.load false 1 (oO 33)), oG 35 32 true (.mv (oO 3)), oG 36 32 true (.iaddr 1 [.int .i64 0] (oO 34) (oO 35)), oG 37 32 true (.load false 1 (oO 36)), oG 38 32 true (.faddr 1 (oO 1)), oG 39 32 true (.load false 1 (oO 38)), oG 40 32 true (.mv (oO 3)), oG 41 32 true (.bin .sub 3 (oO 40) (oN 1)), oG 42 32 true (.iaddr 1 [.int .i64 0] (oO 39) (oO 41)), oG 43 32 true (.load false 1 (oO 42)), ⟨some 44, some (32, true), .bin .leq 3 (oO 37) (oO 43), true⟩, oT 45 (.pick (oO 32) (oO 44) (.const (.bool false)))]) (oK [1, 3, 45] (.cond (oO 45) (oS (oR [oA 2 (.mv (oN 9))]) (oK [2] (.ret))) (.skip))))))) (oK [1, 3] (oR [oM 17 3, oA 18 (.bin .add 3 (oO 17) (oN 1)), oM 3 18]))))
def c94 : AC := oS (oR [oA 1 (.box (oO 0)), oA 2 (.mv (oN 0))]) (oK [1] (oS (oS (oR [oA 4 (.faddr 0 (oO 1)), oA 5 (.load false 1 (oO 4)), oA 6 (.call (.func 27) [(oO 5), (oN 0), (oN 6)]), oA 7 (.un .not (oO 6))]) (oK [1, 7] (.cond (oO 7) (oS (oR [oA 2 (.mv (oN 2))]) (oK [2] (.ret))) (.skip)))) (oK [1] (oS (oS (oR [oA 8 (.faddr 1 (oO 1)), oA 9 (.load false 1 (oO 8)), oA 10 (.len false (oO 9)), oA 11 (.bin .eql 3 (oO 10) (oN 0))]) (oK [1, 11] (.cond (oO 11) (oS (oR [oA 2 (.mv (oN 10))]) (oK [2] (.ret))) (.skip)))) (oK [1] (oS (oS (oR [oA 3 (.mv (oN 0))]) (oK [1, 3] (.block 0 (.loop nN)))) (oK [] (oS (oR [oA 2 (.mv (oN 0))]) (oK [2] (.ret))))))))))
def mF : List RV := [.tmp 2]
theorem is94 : FnIs Tryz.prog 94 46 c94 mF := ⟨⟨Tryz.f94, _, Tryz.func94, by kernel_rfl, rfl, rfl, by kernel_rfl, by kernel_rfl⟩, by decide⟩
def c95 : AC := oS (oR [oA 2 (.mv (oN 0))]) (oK [0] (oS (oS (oR [oM 3 0, oA 4 (.call (.func 27) [(oO 3), (oN 1), (oN 400)]), oA 5 (.un .not (oO 4))]) (oK [5] (.cond (oO 5) (oS (oR [oA 2 (.mv (oN 2))]) (oK [2] (.ret))) (.skip)))) (oK [] (oS (oR [oA 2 (.mv (oN 0))]) (oK [2] (.ret))))))
def rv95 : List RV := [.tmp 2]
theorem is95 : FnIs Tryz.prog 95 6 c95 rv95 := ⟨⟨Tryz.f95, _, Tryz.func95, by kernel_rfl, rfl, rfl, by kernel_rfl, by kernel_rfl⟩, by decide⟩
def c96 : AC := oS (oR [oA 2 (.mv (.const (.bool false)))]) (oK [0] (oS (oR [oM 3 0, oA 4 (.call (.func 99) [(oO 3), (oN 1), (oN 400)]), oM 2 4]) (oK [2] (.ret))))
def rv96 : List RV := [.tmp 2]
theorem is96 : FnIs Tryz.prog 96 5 c96 rv96 := ⟨⟨Tryz.f96, _, Tryz.func96, by kernel_rfl, rfl, rfl, by kernel_rfl, by kernel_rfl⟩, by decide⟩
def c97 : AC := oS (oR [oA 6 (.box (oO 2)), oA 8 (.mv (oN 0))]) (oK [0, 1, 3, 6] (oS (oR [oM 10 0, oA 11 (.mkFn (.func 124) [] [(oO 6)]), oA 12 (.call (.func 123) [(oO 10), (oO 11)]), oM 9 12]) (oK [0, 1, 3, 9] (oS (oR [oM 13 0, oA 14 (.len false (oO 13)), oA 15 (.bin .gtr 3 (oO 14) (oN 0)), oA 16 (.call (.func 49) [(oO 15), (oN 10)]), oM 17 0, oA 18 (.len false (oO 17)), oM 19 1, oA 20 (.bin .leq 3 (oO 18) (oO 19)), oA 21 (.call (.func 49) [(oO 20), (oN 8)]), oM 22 9, oA 23 (.un .not (oO 22)), oM 24 3, oA 25 (.call (.func 49) [(oO 23), (oO 24)]), oA 26 (.mkSl false 41 1 [.int .i64 0] 3 [(0, (oO 16)), (1, (oO 21)), (2, (oO 25))]), oA 27 (.call (.func 46) [(oO 26)]), oM 8 27]) (oK [8] (.ret))))))
def rv97 : List RV := [.tmp 8]
theorem is97 : FnIs Tryz.prog 97 28 c97 rv97 := ⟨⟨Tryz.f97, _, Tryz.func97, by kernel_rfl, rfl, rfl, by kernel_rfl, by kernel_rfl⟩, by decide⟩
def c98 : AC := oS (oR [oA 2 (.mv (.const (.bool false)))]) (oK [0] (oS (oR [oM 3 0, oA 4 (.bin .eql 3 (oO 3) (oN 0)), oM 5 4, oG 6 5 false (.mv (oO 0)), oG 7 5 false (.bin .eql 3 (oO 6) (oN 1)), oA 8 (.pick (oO 5) (.const (.bool true)) (oO 7)), oM 2 8]) (oK [2] (.ret))))
def rv98 : List RV := [.tmp 2]
theorem is98 : FnIs Tryz.prog 98 9 c98 rv98 := ⟨⟨Tryz.f98, _, Tryz.func98, by kernel_rfl, rfl, rfl, by kernel_rfl, by kernel_rfl⟩, by decide⟩
def c99 : AC := oS (oR [oA 6 (.mv (.const (.bool false)))]) (oK [0, 1, 2] (oS (oR [oM 7 1, oM 8 0, oA 9 (.bin .leq 3 (oO 7) (oO 8)), oM 10 9, oG 11 10 true (.mv (oO 0)), oG 12 10 true (.mv (oO 2)), oG 13 10 true (.bin .leq 3 (oO 11) (oO 12)), oA 14 (.pick (oO 10) (oO 13) (.const (.bool false))), oM 6 14]) (oK [6] (.ret))))
def rv99 : List RV := [.tmp 6]
theorem is99 : FnIs Tryz.prog 99 15 c99 rv99 := ⟨⟨Tryz.f99, _, Tryz.func99, by kernel_rfl, rfl, rfl, by kernel_rfl, by kernel_rfl⟩, by decide⟩
def c100 : AC := oS (oR [oA 3 (.box (oO 0)), oA 4 (.box (oO 1)), oA 5 (.box (oO 2)), oA 6 (.mv (.const (.nilFunc)))]) (oK [3, 4, 5] (oS (oR [oA 7 (.mkFn (.func 125) [] [(oO 4), (oO 3), (oO 5)]), oM 6 7]) (oK [6] (.ret))))
def rv100 : List RV := [.tmp 6]
theorem is100 : FnIs Tryz.prog 100 8 c100 rv100 := ⟨⟨Tryz.f100, _, Tryz.func100, by kernel_rfl, rfl, rfl, by kernel_rfl, by kernel_rfl⟩, by decide⟩
def qh : AC := oS (oR [oA 14 (.bin .lss 3 (oO 13) (oO 12))]) (oK [0, 3, 12, 13, 14] (oS (.cond (oO 14) (.skip) (.exit 2)) (oK [0, 3, 12, 13] (oS (.block 3 (oS (oR [oM 15 13, oM 4 15]) (oK [0, 3, 4, 12, 13] (oS (oR [oM 16 4, oM 17 3, oA 18 (.bin .and 3 (oO 16) (oO 17)), oA 19 (.bin .eql 3 (oO 18) (oN 0))]) (oK [0, 3, 4, 12, 13, 19] (.cond (oO 19) (oQ [oM 20 0, oA 21 (.mvs (oO 4)), oA 22 (.iaddr 1 [.int .i64 0] (oO 20) (oO 21)), oA 23 (.load false 1 (oO 22)), oM 24 0, oA 25 (.mvs (oO 4)), oM 26 3, oA 27 (.bin .add 3 (oO 25) (oO 26)), oA 28 (.iaddr 1 [.int .i64 0] (oO 24) (oO 27)), oA 29 (.load false 1 (oO 28)), oT 30 (.bin .xor 3 (oO 23) (oO 29)), oT 31 (.iaddr 1 [.int .i64 0] (oO 20) (oO 21)), ⟨none, none, .store false 1 (oO 31) (oO 30), true⟩]) (.skip))))))) (oK [0, 3, 12, 13] (oR [oA 32 (.bin .add 3 (oO 13) (oN 1)), oM 13 32]))))))
def s8 : AC := oS (oS (oR [oM 5 3, oM 6 0, oA 7 (.len false (oO 6)), oA 8 (.bin .lss 3 (oO 5) (oO 7))]) (oK [0, 3, 8] (.cond (oO 8) (.skip) (.exit 0)))) (oK [0, 3] (oS (.block 1 (oS (oR [oM 11 0, oA 12 (.len false (oO 11)), oA 13 (.mv (oN 0))]) (oK [0, 3, 12, 13] (.block 2 (.loop qh))))) (oK [0, 3] (oR [oM 9 3, oA 10 (.bin .mul 3 (oO 9) (oN 2)), oM 3 10]))))
def c101 : AC := oS (oR [oA 2 (.mv (.const (.slice none 0 0)))]) (oK [0] (oS (oS (oR [oA 3 (.mv (oN 1))]) (oK [0, 3] (.block 0 (.loop s8)))) (oK [0] (.fz [0] (oS (oR [oM 33 0, oM 2 33]) (oK [2] (.ret)))))))
def mG : List RV := [.tmp 2]
theorem is101 : FnIs Tryz.prog 101 34 c101 mG := ⟨⟨Tryz.f101, _, Tryz.func101, by kernel_rfl, rfl, rfl, by kernel_rfl, by kernel_rfl⟩, by decide⟩
def xU : AC := oS (oR [oA 12 (.bin .lss 3 (oO 11) (oO 10))]) (oK [0, 3, 9, 10, 11, 12] (oS (.cond (oO 12) (.skip) (.exit 0)) (oK [0, 3, 9, 10, 11] (oS (.block 1 (oS (oR [oA 13 (.iaddr 1 [.slice none 0 0] (oO 9) (oO 11)), oA 14 (.load false 1 (oO 13)), oM 5 14]) (oK [0, 3, 5, 9, 10, 11] (oS (oR [oM 15 3, oM 16 5, oA 17 (.len false (oO 16)), oA 18 (.bin .add 3 (oO 15) (oO 17)), oM 3 18]) (oK [0, 3, 9, 10, 11] (oS (oR [oM 19 3, oA 20 (.bin .lss 3 (oO 19) (oN 0))]) (oK [0, 3, 9, 10, 11, 20] (.cond (oO 20) (oR [⟨some 21, none, .opq (.makeInterface 9 (.const (.string ⟨#[108, 101, 110, 32, 111, 117, 116, 32, 111, 102, 32, 114, 97, 110, 103, 101]⟩))) 20, false⟩, ⟨none, none, .opq (.panic (oO 21)) 0, false⟩]) (.skip))))))))) (oK [0, 3, 9, 10, 11] (oR [oA 22 (.bin .add 3 (oO 11) (oN 1)), oM 11 22]))))))
def wo : AC := oS (oR [oA 28 (.bin .lss 3 (oO 27) (oO 26))]) (oK [6, 25, 26, 27, 28] (oS (.cond (oO 28) (.skip) (.exit 2)) (oK [6, 25, 26, 27] (oS (.block 3 (oS (oR [oA 29 (.iaddr 1 [.slice none 0 0] (oO 25) (oO 27)), oA 30 (.load false 1 (oO 29)), oM 8 30]) (oK [6, 8, 25, 26, 27] (oR [oM 31 6, oM 32 8, oA 33 (.app 24 3 1 8 [.int .i64 0] (oO 31) (oO 32)), oM 6 33])))) (oK [6, 25, 26, 27] (oR [oA 34 (.bin .add 3 (oO 27) (oN 1)), oM 27 34]))))))
def c102 : AC := oS (oR [oA 2 (.mv (.const (.slice none 0 0)))]) (oK [0] (oS (oR [oA 3 (.mv (oN 0))]) (oK [0, 3] (oS (oS (oR [oM 9 0, oA 10 (.len false (oO 9)), oA 11 (.mv (oN 0))]) (oK [0, 3, 9, 10, 11] (.block 0 (.loop xU)))) (oK [0, 3] (oS (oR [oM 23 3, oA 24 (.call (.func 126) [(.const (.slice none 0 0)), (oO 23)]), oM 6 24]) (oK [0, 6] (oS (oS (oR [oM 25 0, oA 26 (.len false (oO 25)), oA 27 (.mv (oN 0))]) (oK [6, 25, 26, 27] (.block 2 (.loop wo)))) (oK [6] (.fz [6] (oS (oR [oM 35 6, oM 2 35]) (oK [2] (.ret)))))))))))))
def rv102 : List RV := [.tmp 2]
theorem is102 : FnIs Tryz.prog 102 36 c102 rv102 := ⟨⟨Tryz.f102, _, Tryz.func102, by kernel_rfl, rfl, rfl, by kernel_rfl, by kernel_rfl⟩, by decide⟩
def c103 : AC := oS (oR [oA 2 (.mv (.const (.bool false)))]) (oK [0] (oS (oR [oM 3 0, oA 4 (.call (.func 123) [(oO 3), (.func 127)]), oA 5 (.un .not (oO 4)), oM 2 5]) (oK [2] (.ret))))
def rv103 : List RV := [.tmp 2]
theorem is103 : FnIs Tryz.prog 103 6 c103 rv103 := ⟨⟨Tryz.f103, _, Tryz.func103, by kernel_rfl, rfl, rfl, by kernel_rfl, by kernel_rfl⟩, by decide⟩
def c104 : AC := oS (oR [oA 4 (.mv (.const (.bool false)))]) (oK [0, 1] (oS (oR [oM 5 0, oM 6 1, oA 7 (.call (.func 128) [(oO 5), (oO 6)]), oA 8 (.bin .geq 3 (oO 7) (oN 0)), oM 4 8]) (oK [4] (.ret))))
def rv104 : List RV := [.tmp 4]
theorem is104 : FnIs Tryz.prog 104 9 c104 rv104 := ⟨⟨Tryz.f104, _, Tryz.func104, by kernel_rfl, rfl, rfl, by kernel_rfl, by kernel_rfl⟩, by decide⟩
def tz : AC := oS (oS (oR [oM 6 4, oA 7 (.load false 1 (oO 1)), oA 8 (.len false (oO 7)), oA 9 (.bin .lss 3 (oO 6) (oO 8))]) (oK [0, 1, 2, 4, 9] (.cond (oO 9) (.skip) (.exit 0)))) (oK [0, 1, 2, 4] (oS (.block 1 (oS (oQ [oA 13 (.load false 1 (oO 2)), oA 14 (.load false 1 (oO 1)), oM 15 4, oA 16 (.ssl 1 (oO 14) (some (oO 15)) none none), oA 17 (.len false (oO 16)), oT 18 (.ext (.mx false) [(oO 13), (oO 17)]), oT 5 (.mv (oO 18))]) (oK [0, 1, 2, 4, 5] (oS (oR [oM 19 0, oA 20 (.load false 1 (oO 1)), oM 21 4, oM 22 4, oM 23 5, oA 24 (.bin .add 3 (oO 22) (oO 23)), oM 25 4, oM 26 5, oA 27 (.bin .add 3 (oO 25) (oO 26)), oA 28 (.ssl 1 (oO 20) (some (oO 21)) (some (oO 24)) (some (oO 27))), oA 29 (.call (oO 19) [(oO 28)]), oA 30 (.un .not (oO 29))]) (oK [0, 1, 2, 4, 30] (.cond (oO 30) (.ret) (.skip))))))) (oK [0, 1, 2, 4] (oR [oM 10 4, oA 11 (.load false 1 (oO 2)), oA 12 (.bin .add 3 (oO 10) (oO 11)), oM 4 12]))))
def c105 : AC := oS (oR [oA 4 (.mv (oN 0))]) (oK [0, 1, 2, 4] (.block 0 (.loop tz)))
def pl : List RV := []
theorem is105 : FnIs Tryz.prog 105 31 c105 pl := ⟨⟨Tryz.f105, _, Tryz.func105, by kernel_rfl, rfl, rfl, by kernel_rfl, by kernel_rfl⟩, by decide⟩
def c106 : AC := oS (oR [oA 2 (.mv (oN 0))]) (oK [0] (oS (oR [oM 5 0, oA 6 (.iaddr 1 [.int .i64 0] (oO 5) (oN 0)), oA 7 (.load false 1 (oO 6)), oA 8 (.bin .mul 3 (oN 2) (oO 7)), oA 9 (.bin .sub 3 (oN 1) (oO 8)), oM 3 9]) (oK [0, 3] (oS (oS (oR [oM 10 0, oA 11 (.len false (oO 10)), oA 12 (.bin .eql 3 (oO 11) (oN 1))]) (oK [0, 3, 12] (.cond (oO 12) (oS (oR [oM 13 3, oM 2 13]) (oK [2] (.ret))) (.skip)))) (oK [0, 3] (oS (oR [oM 14 0, oA 15 (.ssl 1 (oO 14) (some (oN 1)) none none), oM 4 15]) (oK [3, 4] (oS (oQ [oA 16 (.mvs (oO 3)), oM 17 4, oA 18 (.len false (oO 17)), oA 19 (.bin .shl 3 (oN 1) (oO 18)), oM 20 4, oA 21 (.call (.func 106) [(oO 20)]), oT 22 (.bin .sub 3 (oO 19) (oO 21)), oT 23 (.bin .mul 3 (oO 16) (oO 22)), oT 2 (.mv (oO 23))]) (oK [2] (.ret))))))))))
def rv106 : List RV := [.tmp 2]
theorem is106 : FnIs Tryz.prog 106 24 c106 rv106 := ⟨⟨Tryz.f106, _, Tryz.func106, by kernel_rfl, rfl, rfl, by kernel_rfl, by kernel_rfl⟩, by decide⟩
def ny : AC := oS (oR [oA 9 (.bin .lss 3 (oO 8) (oO 7))]) (oK [0, 1, 7, 8, 9] (oS (.cond (oO 9) (.skip) (.exit 0)) (oK [0, 1, 7, 8] (oS (.block 1 (oS (oR [oM 10 8, oM 5 10]) (oK [0, 1, 5, 7, 8] (oS (oR [oM 11 1, oM 12 0, oM 13 5, oA 14 (.iaddr 2 [.int .i64 0, .int .i64 0] (oO 12) (oO 13)), oA 15 (.load true 2 (oO 14)), oA 16 (.call (oO 11) [(oO 15)])]) (oK [0, 1, 5, 7, 8, 16] (.cond (oO 16) (oS (oR [oM 17 5, oM 4 17]) (oK [4] (.ret))) (.skip))))))) (oK [0, 1, 7, 8] (oR [oA 18 (.bin .add 3 (oO 8) (oN 1)), oM 8 18]))))))
def c107 : AC := oS (oR [oA 4 (.mv (oN 0))]) (oK [0, 1] (oS (oS (oR [oM 6 0, oA 7 (.len false (oO 6)), oA 8 (.mv (oN 0))]) (oK [0, 1, 7, 8] (.block 0 (.loop ny)))) (oK [] (oS (oR [oA 4 (.mv (oN (-1)))]) (oK [4] (.ret))))))
def n8 : List RV := [.tmp 4]
theorem is107 : FnIs Tryz.prog 107 19 c107 n8 := ⟨⟨Tryz.f107, _, Tryz.func107, by kernel_rfl, rfl, rfl, by kernel_rfl, by kernel_rfl⟩, by decide⟩
def c108 : AC := oS (oR [oA 4 (.mv (.const (.bool false)))]) (oK [0, 1] (oS (oR [oM 5 0, oM 6 1, oA 7 (.un .neg (oO 6)), oM 8 1, oA 9 (.call (.func 65) [(oO 5), (oO 7), (oO 8)]), oM 4 9]) (oK [4] (.ret))))
def rv108 : List RV := [.tmp 4]
theorem is108 : FnIs Tryz.prog 108 10 c108 rv108 := ⟨⟨Tryz.f108, _, Tryz.func108, by kernel_rfl, rfl, rfl, by kernel_rfl, by kernel_rfl⟩, by decide⟩
def c109 : AC := oS (oR [oA 1 (.box (oO 0)), oA 2 (.mv (.const (.bool false)))]) (oK [1] (oS (oR [oA 3 (.load true 2 (oO 1)), oA 4 (.call (.func 68) [(oO 3), (oN 1000)]), oA 5 (.un .not (oO 4)), oM 2 5]) (oK [2] (.ret))))
def rv109 : List RV := [.tmp 2]
theorem is109 : FnIs Tryz.prog 109 6 c109 rv109 := ⟨⟨Tryz.f109, _, Tryz.func109, by kernel_rfl, rfl, rfl, by kernel_rfl, by kernel_rfl⟩, by decide⟩
def c110 : AC := oS (oR [oA 2 (.mv (oN 0))]) (oK [0] (oS (oR [oM 4 0, oA 5 (.call (.func 66) [(oO 4), (.func 129)]), oM 3 5]) (oK [0, 3] (oS (oR [oM 6 0, oA 7 (.len false (oO 6)), oA 8 (.bin .gtr 3 (oO 7) (oN 0)), oA 9 (.call (.func 69) [(oO 8), (oN 10)]), oM 10 0, oA 11 (.len false (oO 10)), oA 12 (.bin .leq 3 (oO 11) (oN 200)), oA 13 (.call (.func 69) [(oO 12), (oN 8)]), oM 14 3, oA 15 (.un .not (oO 14)), oA 16 (.call (.func 69) [(oO 15), (oN 2)]), oA 17 (.mkSl false 41 1 [.int .i64 0] 3 [(0, (oO 9)), (1, (oO 13)), (2, (oO 16))]), oA 18 (.call (.func 56) [(oO 17)]), oM 2 18]) (oK [2] (.ret))))))
def rv110 : List RV := [.tmp 2]
theorem is110 : FnIs Tryz.prog 110 19 c110 rv110 := ⟨⟨Tryz.f110, _, Tryz.func110, by kernel_rfl, rfl, rfl, by kernel_rfl, by kernel_rfl⟩, by decide⟩
def c111 : AC := oS (oR [oA 2 (.box (oO 0)), oA 3 (.mv (.const (.bool false)))]) (oK [1, 2] (oS (oR [oA 4 (.load true 2 (oO 2)), oA 5 (.load false 1 (oO 1)), oA 6 (.call (.func 68) [(oO 4), (oO 5)]), oA 7 (.un .not (oO 6)), oM 3 7]) (oK [3] (.ret))))
def rv111 : List RV := [.tmp 3]
theorem is111 : FnIs Tryz.prog 111 8 c111 rv111 := ⟨⟨Tryz.f111, _, Tryz.func111, by kernel_rfl, rfl, rfl, by kernel_rfl, by kernel_rfl⟩, by decide⟩
def c112 : AC := oS (oR [oA 2 (.box (oO 0)), oA 3 (.box (oO 1)), oA 4 (.alloc [.int .i64 0, .int .i64 0])]) (oK [2, 3, 4] (oS (oR [oA 5 (.faddr 0 (oO 2)), oA 6 (.load false 1 (oO 5)), oA 7 (.faddr 0 (oO 3)), oA 8 (.load false 1 (oO 7)), oA 9 (.bin .sub 3 (oO 6) (oO 8)), oA 10 (.faddr 1 (oO 2)), oA 11 (.load false 1 (oO 10)), oA 12 (.faddr 1 (oO 3)), oA 13 (.load false 1 (oO 12)), oA 14 (.bin .sub 3 (oO 11) (oO 13)), oA 15 (.build [.int .i64 0, .int .i64 0] [(0, 1, (oO 9)), (1, 1, (oO 14))]), ⟨none, none, .store false 2 (oO 4) (oO 15), false⟩]) (oK [4] (.ret))))
def rv112 : List RV := [.cell 4 true 2]
theorem is112 : FnIs Tryz.prog 112 16 c112 rv112 := ⟨⟨Tryz.f112, _, Tryz.func112, by kernel_rfl, rfl, rfl, by kernel_rfl, by kernel_rfl⟩, by decide⟩
def t8 : AC := oS (oR [oA 12 (.bin .lss 3 (oO 11) (oO 10))]) (oK [0, 1, 2, 3, 6, 9, 10, 11, 12] (oS (.cond (oO 12) (.skip) (.exit 0)) (oK [0, 1, 2, 3, 6, 9, 10, 11] (oS (.block 1 (oS (oR [oA 13 (.iaddr 1 [.int .i64 0] (oO 9) (oO 11)), oA 14 (.load false 1 (oO 13)), oM 8 14]) (oK [0, 1, 2, 3, 6, 8, 9, 10, 11] (oR [oM 15 6, oM 16 0, oM 17 8, oA 18 (.faddr 1 (oO 2)), oA 19 (.load false 1 (oO 18)), oA 20 (.bin .mul 3 (oO 17) (oO 19)), oA 21 (.bin .sub 3 (oO 16) (oO 20)), oM 22 0, oM 23 8, oA 24 (.faddr 1 (oO 2)), oA 25 (.load false 1 (oO 24)), oA 26 (.bin .mul 3 (oO 23) (oO 25)), oA 27 (.bin .sub 3 (oO 22) (oO 26)), oA 28 (.bin .mul 3 (oO 21) (oO 27)), oA 29 (.mkSl false 3 1 [.int .i64 0] 1 [(0, (oO 28))]), oA 30 (.app 24 3 1 8 [.int .i64 0] (oO 15) (oO 29)), oM 6 30])))) (oK [0, 1, 2, 3, 6, 9, 10, 11] (oR [oA 31 (.bin .add 3 (oO 11) (oN 1)), oM 11 31]))))))
def c113 : AC := oS (oR [oA 5 (.mv (.const (.slice none 0 0)))]) (oK [0, 1, 2, 3] (oS (oR [oA 6 (.mv (.const (.slice none 0 0)))]) (oK [0, 1, 2, 3, 6] (.nilrow 6 1 3 (oS (oS (oR [oA 9 (.load false 1 (oO 1)), oA 10 (.len false (oO 9)), oA 11 (.mv (oN 0))]) (oK [0, 1, 2, 3, 6, 9, 10, 11] (.block 0 (.loop t8)))) (oK [1, 3, 6] (.fz [6] (oS (oR [oA 32 (.load false 1 (oO 3)), oA 33 (.load false 1 (oO 1)), oM 34 6, oA 35 (.call (oO 32) [(oO 33), (oO 34)]), oM 5 35]) (oK [5] (.ret))))))))))
def rv113 : List RV := [.tmp 5]
theorem is113 : FnIs Tryz.prog 113 36 c113 rv113 := ⟨⟨Tryz.f113, _, Tryz.func113, by kernel_rfl, rfl, rfl, by kernel_rfl, by kernel_rfl⟩, by decide⟩
def wD : AC := oS (oS (oR [oM 4 3, oA 5 (.bin .shl 3 (oN 1) (oO 4)), oM 6 0, oA 7 (.len false (oO 6)), oA 8 (.bin .lss 3 (oO 5) (oO 7))]) (oK [0, 3, 8] (.cond (oO 8) (.skip) (.exit 0)))) (oK [0, 3] (.block 1 (oR [oM 9 3, oA 10 (.bin .add 3 (oO 9) (oN 1)), oM 3 10])))
def c114 : AC := oS (oR [oA 2 (.mv (oN 0))]) (oK [0] (oS (oR [oA 3 (.mv (oN 0))]) (oK [0, 3] (oS (.block 0 (.loop wD)) (oK [3] (oS (oR [oM 11 3, oM 2 11]) (oK [2] (.ret))))))))
def rv114 : List RV := [.tmp 2]
theorem is114 : FnIs Tryz.prog 114 12 c114 rv114 := ⟨⟨Tryz.f114, _, Tryz.func114, by kernel_rfl, rfl, rfl, by kernel_rfl, by kernel_rfl⟩, by decide⟩
def t7 : AC := oS (oR [oA 10 (.bin .lss 3 (oO 9) (oO 8))]) (oK [0, 1, 8, 9, 10] (oS (.cond (oO 10) (.skip) (.exit 0)) (oK [0, 1, 8, 9] (oS (.block 1 (oS (oR [oM 11 9, oM 5 11]) (oK [0, 1, 5, 8, 9] (oS (oR [oM 12 5, oM 13 0, oA 14 (.call (.func 130) [(oO 12), (oO 13)]), oM 6 14]) (oK [0, 1, 6, 8, 9] (oS (oR [oM 15 6, oA 16 (.call (.func 106) [(oO 15)]), oM 17 1, oA 18 (.bin .eql 3 (oO 16) (oO 17))]) (oK [0, 1, 6, 8, 9, 18] (.cond (oO 18) (oS (oR [oM 19 6, oM 4 19]) (oK [4] (.ret))) (.skip))))))))) (oK [0, 1, 8, 9] (oR [oA 20 (.bin .add 3 (oO 9) (oN 1)), oM 9 20]))))))
def c115 : AC := oS (oR [oA 4 (.mv (.const (.slice none 0 0)))]) (oK [0, 1] (oS (oS (oR [oM 7 0, oA 8 (.bin .shl 3 (oN 1) (oO 7)), oA 9 (.mv (oN 0))]) (oK [0, 1, 8, 9] (.block 0 (.loop t7)))) (oK [] (oS (oR [oA 4 (.mv (.const (.slice none 0 0)))]) (oK [4] (.ret))))))
def rP : List RV := [.tmp 4]
theorem is115 : FnIs Tryz.prog 115 21 c115 rP := ⟨⟨Tryz.f115, _, Tryz.func115, by kernel_rfl, rfl, rfl, by kernel_rfl, by kernel_rfl⟩, by decide⟩
def th : AC := oS (oS (oR [oM 12 4, oM 13 0, oA 14 (.len false (oO 13)), oA 15 (.bin .lss 3 (oO 12) (oO 14))]) (oK [0, 3, 4, 15] (.cond (oO 15) (.skip) (.exit 0)))) (oK [0, 3, 4] (oS (.block 1 (oR [oM 18 3, oM 19 0, oM 20 4, oA 21 (.iaddr 1 [.int .i64 0] (oO 19) (oO 20)), oA 22 (.load false 1 (oO 21)), oA 23 (.ext (.mx false) [(oO 18), (oO 22)]), oM 3 23])) (oK [0, 3, 4] (oR [oM 16 4, oA 17 (.bin .add 3 (oO 16) (oN 1)), oM 4 17]))))
def c116 : AC := oS (oR [oA 2 (.mv (oN 0))]) (oK [0] (oS (oS (oR [oM 5 0, oA 6 (.len false (oO 5)), oA 7 (.bin .lss 3 (oO 6) (oN 1))]) (oK [0, 7] (.cond (oO 7) (oR [⟨some 8, none, .opq (.makeInterface 9 (.const (.string ⟨#[115, 108, 105, 99, 101, 115, 46, 77, 105, 110, 58, 32, 101, 109, 112, 116, 121, 32, 108, 105, 115, 116]⟩))) 20, false⟩, ⟨none, none, .opq (.panic (oO 8)) 0, false⟩]) (.skip)))) (oK [0] (oS (oR [oM 9 0, oA 10 (.iaddr 1 [.int .i64 0] (oO 9) (oN 0)), oA 11 (.load false 1 (oO 10)), oM 3 11]) (oK [0, 3] (oS (oS (oR [oA 4 (.mv (oN 1))]) (oK [0, 3, 4] (.block 0 (.loop th)))) (oK [3] (oS (oR [oM 24 3, oM 2 24]) (oK [2] (.ret))))))))))
def sn : List RV := [.tmp 2]
theorem is116 : FnIs Tryz.prog 116 25 c116 sn := ⟨⟨Tryz.f116, _, Tryz.func116, by kernel_rfl, rfl, rfl, by kernel_rfl, by kernel_rfl⟩, by decide⟩
def c119 : AC := oS (oR [oA 3 (.mv (.const (.bool false)))]) (oK [0, 1] (oS (oR [oA 7 (.faddr 1 (oO 1)), oA 8 (.load false 1 (oO 7)), oM 9 0, oA 10 (.call (.func 120) [(oO 8), (oO 9)]), oM 6 10, oA 11 (.extr (oO 6) 0), oA 12 (.extr (oO 6) 1), oM 4 11, oM 5 12]) (oK [5] (oS (oR [oM 13 5, oM 3 13]) (oK [3] (.ret))))))
def rv119 : List RV := [.tmp 3]
theorem is119 : FnIs Tryz.prog 119 14 c119 rv119 := ⟨⟨Tryz.f119, _, Tryz.func119, by kernel_rfl, rfl, rfl, by kernel_rfl, by kernel_rfl⟩, by decide⟩
def m5 : AC := oS (oS (oR [oM 13 7, oM 14 8, oA 15 (.bin .lss 3 (oO 13) (oO 14))]) (oK [0, 1, 6, 7, 8, 15] (.cond (oO 15) (.skip) (.exit 0)))) (oK [0, 1, 6, 7, 8] (.block 1 (oS (oR [oM 16 7, oM 17 8, oA 18 (.bin .add 3 (oO 16) (oO 17)), oA 19 (.cvi .u64 (oO 18)), oA 20 (.bin .shr 128 (oO 19) (.const (.int .u64 1))), oA 21 (.cvi .i64 (oO 20)), oM 9 21]) (oK [0, 1, 6, 7, 8, 9] (oS (oR [oM 22 0, oM 23 9, oA 24 (.iaddr 1 [.int .i64 0] (oO 22) (oO 23)), oA 25 (.load false 1 (oO 24)), oM 26 1, oA 27 (.call (.func 134) [(oO 25), (oO 26)])]) (oK [0, 1, 6, 7, 8, 9, 27] (.cond (oO 27) (oR [oM 28 9, oA 29 (.bin .add 3 (oO 28) (oN 1)), oM 7 29]) (oR [oM 30 9, oM 8 30]))))))))
def c120 : AC := oS (oR [oA 4 (.mv (oN 0)), oA 5 (.mv (.const (.bool false)))]) (oK [0, 1] (oS (oR [oM 10 0, oA 11 (.len false (oO 10)), oM 6 11]) (oK [0, 1, 6] (oS (oR [oM 12 6, oA 7 (.mv (oN 0)), oM 8 12]) (oK [0, 1, 6, 7, 8] (oS (.block 0 (.loop m5)) (oK [0, 1, 6, 7] (oS (oR [oM 31 7, oM 32 7, oM 33 6, oA 34 (.bin .lss 3 (oO 32) (oO 33)), oM 35 34, oG 36 35 true (.mv (oO 0)), oG 37 35 true (.mv (oO 7)), oG 38 35 true (.iaddr 1 [.int .i64 0] (oO 36) (oO 37)), oG 39 35 true (.load false 1 (oO 38)), oG 40 35 true (.mv (oO 1)), oG 41 35 true (.bin .eql 3 (oO 39) (oO 40)), oG 42 35 true (.mv (oO 41)), oG 43 42 false (.mv (oO 0)), oG 44 42 false (.mv (oO 7)), oG 45 42 false (.iaddr 1 [.int .i64 0] (oO 43) (oO 44)), oG 46 42 false (.load false 1 (oO 45)), oG 47 42 false (.call (.func 135) [(oO 46)]), oG 48 42 false (.mv (oO 47)), oG 49 48 true (.mv (oO 1)), oG 50 48 true (.call (.func 135) [(oO 49)]), oG 51 42 false (.pick (oO 48) (oO 50) (.const (.bool false))), oG 52 35 true (.pick (oO 42) (.const (.bool true)) (oO 51)), oA 53 (.pick (oO 35) (oO 52) (.const (.bool false))), oM 4 31, oM 5 53]) (oK [4, 5] (.ret))))))))))
def nR : List RV := [.tmp 4, .tmp 5]
theorem is120 : FnIs Tryz.prog 120 54 c120 nR := ⟨⟨Tryz.f120, _, Tryz.func120, by kernel_rfl, rfl, rfl, by kernel_rfl, by kernel_rfl⟩, by decide⟩
def pQ : AC := oS (oR [oA 14 (.bin .lss 3 (oO 13) (oO 12))]) (oK [0, 1, 12, 13, 14] (oS (.cond (oO 14) (.skip) (.exit 0)) (oK [0, 1, 12, 13] (oS (.block 1 (oS (oR [oM 15 13, oM 5 15]) (oK [0, 1, 5, 12, 13] (oS (oQ [oM 16 0, oA 17 (.mvs (oO 5)), oA 18 (.iaddr 1 [.int .i64 0] (oO 16) (oO 17)), oA 19 (.load false 1 (oO 18)), oM 20 1, oM 21 5, oA 22 (.iaddr 1 [.int .i64 0] (oO 20) (oO 21)), oA 23 (.load false 1 (oO 22)), oT 24 (.bin .neq 3 (oO 19) (oO 23))]) (oK [0, 1, 12, 13, 24] (.cond (oO 24) (oS (oR [oA 4 (.mv (.const (.bool false)))]) (oK [4] (.ret))) (.skip))))))) (oK [0, 1, 12, 13] (oR [oA 25 (.bin .add 3 (oO 13) (oN 1)), oM 13 25]))))))
def c121 : AC := oS (oR [oA 4 (.mv (.const (.bool false)))]) (oK [0, 1] (oS (oS (oR [oM 6 0, oA 7 (.len false (oO 6)), oM 8 1, oA 9 (.len false (oO 8)), oA 10 (.bin .neq 3 (oO 7) (oO 9))]) (oK [0, 1, 10] (.cond (oO 10) (oS (oR [oA 4 (.mv (.const (.bool false)))]) (oK [4] (.ret))) (.skip)))) (oK [0, 1] (oS (oS (oR [oM 11 0, oA 12 (.len false (oO 11)), oA 13 (.mv (oN 0))]) (oK [0, 1, 12, 13] (.block 0 (.loop pQ)))) (oK [] (oS (oR [oA 4 (.mv (.const (.bool true)))]) (oK [4] (.ret))))))))
def nH : List RV := [.tmp 4]
theorem is121 : FnIs Tryz.prog 121 26 c121 nH := ⟨⟨Tryz.f121, _, Tryz.func121, by kernel_rfl, rfl, rfl, by kernel_rfl, by kernel_rfl⟩, by decide⟩
def c122 : AC := oS (oR [oA 2 (.mv (.const (.bool false)))]) (oK [0] (oS (oR [oM 3 0, oA 4 (.call (.func 99) [(oO 3), (oN 0), (oN 6)]), oM 2 4]) (oK [2] (.ret))))
def rv122 : List RV := [.tmp 2]
theorem is122 : FnIs Tryz.prog 122 5 c122 rv122 := ⟨⟨Tryz.f122, _, Tryz.func122, by kernel_rfl, rfl, rfl, by kernel_rfl, by kernel_rfl⟩, by decide⟩
def c123 : AC := oS (oR [oA 4 (.mv (.const (.bool false)))]) (oK [0, 1] (oS (oR [oM 5 0, oM 6 1, oA 7 (.call (.func 136) [(oO 5), (oO 6)]), oA 8 (.bin .geq 3 (oO 7) (oN 0)), oM 4 8]) (oK [4] (.ret))))
def rY : List RV := [.tmp 4]
theorem is123 : FnIs Tryz.prog 123 9 c123 rY := ⟨⟨Tryz.f123, _, Tryz.func123, by kernel_rfl, rfl, rfl, by kernel_rfl, by kernel_rfl⟩, by decide⟩
def c124 : AC := oS (oR [oA 3 (.mv (.const (.bool false)))]) (oK [0, 1] (oS (oR [oA 4 (.load false 1 (oO 1)), oM 5 0, oA 6 (.call (oO 4) [(oO 5)]), oA 7 (.un .not (oO 6)), oM 3 7]) (oK [3] (.ret))))
def rv124 : List RV := [.tmp 3]
theorem is124 : FnIs Tryz.prog 124 8 c124 rv124 := ⟨⟨Tryz.f124, _, Tryz.func124, by kernel_rfl, rfl, rfl, by kernel_rfl, by kernel_rfl⟩, by decide⟩
def m6 : AC := oS (oR [oA 13 (.bin .lss 3 (oO 12) (oO 11))]) (oK [0, 2, 5, 11, 12, 13] (oS (.cond (oO 13) (.skip) (.exit 0)) (oK [0, 2, 5, 11, 12] (oS (.block 1 (oS (oR [oM 14 12, oM 6 14]) (oK [0, 2, 5, 6, 11, 12] (oS (oR [oM 15 0, oM 16 6, oM 17 5, oM 18 6, oA 19 (.bin .add 3 (oO 17) (oO 18)), oA 20 (.load false 1 (oO 2)), oA 21 (.bin .rem 3 (oO 19) (oO 20)), oA 22 (.call (oO 15) [(oO 16), (oO 21)]), oA 23 (.un .not (oO 22))]) (oK [0, 2, 5, 11, 12, 23] (.cond (oO 23) (.ret) (.skip))))))) (oK [0, 2, 5, 11, 12] (oR [oA 24 (.bin .add 3 (oO 12) (oN 1)), oM 12 24]))))))
def c125 : AC := oS (oR [oA 7 (.load false 1 (oO 1)), oA 8 (.load false 1 (oO 2)), oA 9 (.bin .mul 3 (oO 7) (oO 8)), oA 10 (.bin .quo 3 (oO 9) (oN 4)), oM 5 10]) (oK [0, 2, 3, 5] (oS (oR [oA 11 (.load false 1 (oO 3)), oA 12 (.mv (oN 0))]) (oK [0, 2, 5, 11, 12] (.block 0 (.loop m6)))))
def kG : List RV := []
theorem is125 : FnIs Tryz.prog 125 25 c125 kG := ⟨⟨Tryz.f125, _, Tryz.func125, by kernel_rfl, rfl, rfl, by kernel_rfl, by kernel_rfl⟩, by decide⟩
def c127 : AC := oS (oR [oA 2 (.mv (.const (.bool false)))]) (oK [0] (oS (oR [oM 3 0, oA 4 (.call (.func 65) [(oO 3), (oN 0), (oN 1)]), oA 5 (.un .not (oO 4)), oM 2 5]) (oK [2] (.ret))))
def rv127 : List RV := [.tmp 2]
theorem is127 : FnIs Tryz.prog 127 6 c127 rv127 := ⟨⟨Tryz.f127, _, Tryz.func127, by kernel_rfl, rfl, rfl, by kernel_rfl, by kernel_rfl⟩, by decide⟩
def t9 : AC := oS (oR [oA 9 (.bin .lss 3 (oO 8) (oO 7))]) (oK [0, 1, 7, 8, 9] (oS (.cond (oO 9) (.skip) (.exit 0)) (oK [0, 1, 7, 8] (oS (.block 1 (oS (oR [oM 10 8, oM 5 10]) (oK [0, 1, 5, 7, 8] (oS (oR [oM 11 1, oM 12 0, oM 13 5, oA 14 (.iaddr 1 [.int .i64 0] (oO 12) (oO 13)), oA 15 (.load false 1 (oO 14)), oA 16 (.bin .eql 3 (oO 11) (oO 15))]) (oK [0, 1, 5, 7, 8, 16] (.cond (oO 16) (oS (oR [oM 17 5, oM 4 17]) (oK [4] (.ret))) (.skip))))))) (oK [0, 1, 7, 8] (oR [oA 18 (.bin .add 3 (oO 8) (oN 1)), oM 8 18]))))))
def c128 : AC := oS (oR [oA 4 (.mv (oN 0))]) (oK [0, 1] (oS (oS (oR [oM 6 0, oA 7 (.len false (oO 6)), oA 8 (.mv (oN 0))]) (oK [0, 1, 7, 8] (.block 0 (.loop t9)))) (oK [] (oS (oR [oA 4 (.mv (oN (-1)))]) (oK [4] (.ret))))))
def rv128 : List RV := [.tmp 4]
theorem is128 : FnIs Tryz.prog 128 19 c128 rv128 := ⟨⟨Tryz.f128, _, Tryz.func128, by kernel_rfl, rfl, rfl, by kernel_rfl, by kernel_rfl⟩, by decide⟩
def c129 : AC := oS (oR [oA 1 (.box (oO 0)), oA 2 (.mv (.const (.bool false)))]) (oK [1] (oS (oR [oA 3 (.load true 2 (oO 1)), oA 4 (.call (.func 68) [(oO 3), (oN 100000000)]), oA 5 (.un .not (oO 4)), oM 2 5]) (oK [2] (.ret))))
def rv129 : List RV := [.tmp 2]
theorem is129 : FnIs Tryz.prog 129 6 c129 rv129 := ⟨⟨Tryz.f129, _, Tryz.func129, by kernel_rfl, rfl, rfl, by kernel_rfl, by kernel_rfl⟩, by decide⟩
def sV : AC := oS (oS (oR [oM 9 6, oA 10 (.bin .geq 3 (oO 9) (oN 0))]) (oK [0, 5, 6, 10] (.cond (oO 10) (.skip) (.exit 0)))) (oK [0, 5, 6] (oS (.block 1 (oR [oM 13 5, oM 14 0, oM 15 6, oA 16 (.bin .shr 3 (oO 14) (oO 15)), oA 17 (.bin .and 3 (oO 16) (oN 1)), oA 18 (.mkSl false 3 1 [.int .i64 0] 1 [(0, (oO 17))]), oA 19 (.app 24 3 1 8 [.int .i64 0] (oO 13) (oO 18)), oM 5 19])) (oK [0, 5, 6] (oR [oM 11 6, oA 12 (.bin .sub 3 (oO 11) (oN 1)), oM 6 12]))))
def c130 : AC := oS (oR [oA 4 (.mv (.const (.slice none 0 0)))]) (oK [0, 1] (oS (oR [oA 5 (.mv (.const (.slice none 0 0)))]) (oK [0, 1, 5] (.nilrow 5 1 3 (oS (oS (oR [oM 7 1, oA 8 (.bin .sub 3 (oO 7) (oN 1)), oM 6 8]) (oK [0, 5, 6] (.block 0 (.loop sV)))) (oK [5] (.fz [5] (oS (oR [oM 20 5, oM 4 20]) (oK [4] (.ret))))))))))
def rv130 : List RV := [.tmp 4]
theorem is130 : FnIs Tryz.prog 130 21 c130 rv130 := ⟨⟨Tryz.f130, _, Tryz.func130, by kernel_rfl, rfl, rfl, by kernel_rfl, by kernel_rfl⟩, by decide⟩
def c131 : AC := oS (oR [oA 3 (.mv (.const (.bool false)))]) (oK [0, 1] (oS (oR [oM 4 0, oA 5 (.load false 1 (oO 1)), oA 6 (.un .neg (oO 5)), oA 7 (.load false 1 (oO 1)), oA 8 (.call (.func 99) [(oO 4), (oO 6), (oO 7)]), oM 3 8]) (oK [3] (.ret))))
def rv131 : List RV := [.tmp 3]
theorem is131 : FnIs Tryz.prog 131 9 c131 rv131 := ⟨⟨Tryz.f131, _, Tryz.func131, by kernel_rfl, rfl, rfl, by kernel_rfl, by kernel_rfl⟩, by decide⟩
def c132 : AC := oS (oR [oA 2 (.mv (oN 0))]) (oK [0] (oS (oR [oM 3 0, oM 4 0, oA 5 (.un .neg (oO 4)), oA 6 (.ext (.mx true) [(oO 3), (oO 5)]), oM 2 6]) (oK [2] (.ret))))
def rv132 : List RV := [.tmp 2]
theorem is132 : FnIs Tryz.prog 132 7 c132 rv132 := ⟨⟨Tryz.f132, _, Tryz.func132, by kernel_rfl, rfl, rfl, by kernel_rfl, by kernel_rfl⟩, by decide⟩
def c133 : AC := oS (oR [oA 2 (.mv (oN 0))]) (oK [0] (oS (oR [oM 3 0, oA 4 (.call (.func 137) [(oO 3), (oN 0)]), oM 2 4]) (oK [2] (.ret))))
def rv133 : List RV := [.tmp 2]
theorem is133 : FnIs Tryz.prog 133 5 c133 rv133 := ⟨⟨Tryz.f133, _, Tryz.func133, by kernel_rfl, rfl, rfl, by kernel_rfl, by kernel_rfl⟩, by decide⟩
def c134 : AC := oS (oR [oA 4 (.mv (.const (.bool false)))]) (oK [0, 1] (oS (oR [oM 5 0, oA 6 (.call (.func 138) [(oO 5)]), oM 7 6, oG 8 7 true (.mv (oO 1)), oG 9 7 true (.call (.func 138) [(oO 8)]), oG 10 7 true (.un .not (oO 9)), oA 11 (.pick (oO 7) (oO 10) (.const (.bool false))), oM 12 11, oG 13 12 false (.mv (oO 0)), oG 14 12 false (.mv (oO 1)), oG 15 12 false (.bin .lss 3 (oO 13) (oO 14)), oA 16 (.pick (oO 12) (.const (.bool true)) (oO 15)), oM 4 16]) (oK [4] (.ret))))
def rv134 : List RV := [.tmp 4]
theorem is134 : FnIs Tryz.prog 134 17 c134 rv134 := ⟨⟨Tryz.f134, _, Tryz.func134, by kernel_rfl, rfl, rfl, by kernel_rfl, by kernel_rfl⟩, by decide⟩
def c135 : AC := oS (oR [oA 2 (.mv (.const (.bool false)))]) (oK [0] (oS (oR [oM 3 0, oM 4 0, oA 5 (.bin .neq 3 (oO 3) (oO 4)), oM 2 5]) (oK [2] (.ret))))
def rv135 : List RV := [.tmp 2]
theorem is135 : FnIs Tryz.prog 135 6 c135 rv135 := ⟨⟨Tryz.f135, _, Tryz.func135, by kernel_rfl, rfl, rfl, by kernel_rfl, by kernel_rfl⟩, by decide⟩
def ku : AC := oS (oR [oA 9 (.bin .lss 3 (oO 8) (oO 7))]) (oK [0, 1, 7, 8, 9] (oS (.cond (oO 9) (.skip) (.exit 0)) (oK [0, 1, 7, 8] (oS (.block 1 (oS (oR [oM 10 8, oM 5 10]) (oK [0, 1, 5, 7, 8] (oS (oR [oM 11 1, oM 12 0, oM 13 5, oA 14 (.iaddr 1 [.int .i64 0] (oO 12) (oO 13)), oA 15 (.load false 1 (oO 14)), oA 16 (.call (oO 11) [(oO 15)])]) (oK [0, 1, 5, 7, 8, 16] (.cond (oO 16) (oS (oR [oM 17 5, oM 4 17]) (oK [4] (.ret))) (.skip))))))) (oK [0, 1, 7, 8] (oR [oA 18 (.bin .add 3 (oO 8) (oN 1)), oM 8 18]))))))
def c136 : AC := oS (oR [oA 4 (.mv (oN 0))]) (oK [0, 1] (oS (oS (oR [oM 6 0, oA 7 (.len false (oO 6)), oA 8 (.mv (oN 0))]) (oK [0, 1, 7, 8] (.block 0 (.loop ku)))) (oK [] (oS (oR [oA 4 (.mv (oN (-1)))]) (oK [4] (.ret))))))
def j7 : List RV := [.tmp 4]
theorem is136 : FnIs Tryz.prog 136 19 c136 j7 := ⟨⟨Tryz.f136, _, Tryz.func136, by kernel_rfl, rfl, rfl, by kernel_rfl, by kernel_rfl⟩, by decide⟩
def c137 : AC := oS (oR [oA 4 (.mv (oN 0))]) (oK [0, 1] (oS (oR [oM 7 0, oA 8 (.call (.func 138) [(oO 7)]), oM 5 8]) (oK [0, 1, 5] (oS (oR [oM 9 1, oA 10 (.call (.func 138) [(oO 9)]), oM 6 10]) (oK [0, 1, 5, 6] (oS (oS (oR [oM 11 5]) (oK [0, 1, 6, 11] (.cond (oO 11) (oS (oS (oR [oM 12 6]) (oK [12] (.cond (oO 12) (oS (oR [oA 4 (.mv (oN 0))]) (oK [4] (.ret))) (.skip)))) (oK [] (oS (oR [oA 4 (.mv (oN (-1)))]) (oK [4] (.ret))))) (.skip)))) (oK [0, 1, 6] (oS (oS (oR [oM 13 6]) (oK [0, 1, 13] (.cond (oO 13) (oS (oR [oA 4 (.mv (oN 1))]) (oK [4] (.ret))) (.skip)))) (oK [0, 1] (oS (oS (oR [oM 14 0, oM 15 1, oA 16 (.bin .lss 3 (oO 14) (oO 15))]) (oK [0, 1, 16] (.cond (oO 16) (oS (oR [oA 4 (.mv (oN (-1)))]) (oK [4] (.ret))) (.skip)))) (oK [0, 1] (oS (oS (oR [oM 17 0, oM 18 1, oA 19 (.bin .gtr 3 (oO 17) (oO 18))]) (oK [19] (.cond (oO 19) (oS (oR [oA 4 (.mv (oN 1))]) (oK [4] (.ret))) (.skip)))) (oK [] (oS (oR [oA 4 (.mv (oN 0))]) (oK [4] (.ret))))))))))))))))
def sf : List RV := [.tmp 4]
theorem is137 : FnIs Tryz.prog 137 20 c137 sf := ⟨⟨Tryz.f137, _, Tryz.func137, by kernel_rfl, rfl, rfl, by kernel_rfl, by kernel_rfl⟩, by decide⟩
def c138 : AC := oS (oR [oA 2 (.mv (.const (.bool false)))]) (oK [0] (oS (oR [oM 3 0, oM 4 0, oA 5 (.bin .neq 3 (oO 3) (oO 4)), oM 2 5]) (oK [2] (.ret))))
def rv138 : List RV := [.tmp 2]
theorem is138 : FnIs Tryz.prog 138 6 c138 rv138 := ⟨⟨Tryz.f138, _, Tryz.func138, by kernel_rfl, rfl, rfl, by kernel_rfl, by kernel_rfl⟩, by decide⟩
end Go.Proofs.YteoobfmbipmibaaGreat
end
section
open Go Go.Am
open Go.Am.Dat (cells)
namespace Go.Proofs.YteoobfmbipmibaaGreat.D
set_option maxRecDepth 100000
def c78l1 : AC := oS (oR [oA 18 (.bin .lss 3 (oO 17) (oO 16))]) (oK [3, 6, 9, 10, 11, 15, 16, 17, 18] (oS (.cond (oO 18) (.skip) (.exit 2)) (oK [3, 6, 9, 10, 11, 15, 16, 17] (oS (.block 3 (oS (oR [oA 19 (.iaddr 1 [.complex .f64 0 0] (oO 15) (oO 17)), oA 20 (.load false 1 (oO 19)), oM 8 20]) (oK [3, 6, 8, 9, 10, 11, 15, 16, 17] (oR [oM 21 6, oM 22 8, oA 23 (.ext .re [(oO 22)]), oA 24 (.ext (.f2i .i64) [(oO 23)]), oM 25 8, oA 26 (.ext .im [(oO 25)]), oA 27 (.ext (.f2i .i64) [(oO 26)]), oA 28 (.build [.int .i64 0, .int .i64 0] [(0, 1, (oO 24)), (1, 1, (oO 27))]), oA 29 (.mkSl false 62 2 [.int .i64 0, .int .i64 0] 1 [(0, (oO 28))]), oA 30 (.app 32 62 2 16 [.int .i64 0, .int .i64 0] (oO 21) (oO 29)), oM 6 30])))) (oK [3, 6, 9, 10, 11, 15, 16, 17] (oR [oA 31 (.bin .add 3 (oO 17) (oN 1)), oM 17 31]))))))
def c78l2 : AC := oS (oR [oA 12 (.bin .lss 3 (oO 11) (oO 10))]) (oK [3, 9, 10, 11, 12] (oS (.cond (oO 12) (.skip) (.exit 0)) (oK [3, 9, 10, 11] (oS (.block 1 (oS (oR [oA 13 (.iaddr 1 [.slice none 0 0] (oO 9) (oO 11)), oA 14 (.load false 1 (oO 13)), oM 5 14]) (oK [3, 5, 9, 10, 11] (oS (oR [oA 6 (.mv (.const (.slice none 0 0)))]) (oK [3, 5, 6, 9, 10, 11] (.nilrow 6 2 62 (oS (oS (oR [oM 15 5, oA 16 (.len false (oO 15)), oA 17 (.mv (oN 0))]) (oK [3, 6, 9, 10, 11, 15, 16, 17] (.block 2 (.loop c78l1)))) (oK [3, 6, 9, 10, 11] (oR [oM 32 3, oM 33 6, oA 34 (.mkSl true 32 1 [.slice none 0 0] 1 [(0, (oO 33))]), oA 35 (.app 31 32 1 24 [.slice none 0 0] (oO 32) (oO 34)), oM 3 35]))))))))) (oK [3, 9, 10, 11] (oR [oA 36 (.bin .add 3 (oO 11) (oN 1)), oM 11 36]))))))
def c78 : AC := oS (oR [oA 2 (.mv (.const (.slice none 0 0)))]) (oK [0] (oS (oR [oA 3 (.mv (.const (.slice none 0 0)))]) (oK [0, 3] (.nilrow 3 1 32 (.deepen 3 2 62 (oS (oS (oR [oM 9 0, oA 10 (.len false (oO 9)), oA 11 (.mv (oN 0))]) (oK [3, 9, 10, 11] (.block 0 (.loop c78l2)))) (oK [3] (oS (oR [oM 37 3, oM 2 37]) (oK [2] (.ret))))))))))
def rv78 : List RV := [.tmp 2]
theorem is78 : FnIs Tryz.prog 78 38 c78 rv78 := ⟨⟨Tryz.f78, _, Tryz.func78, by kernel_rfl, rfl, rfl, by kernel_rfl, by kernel_rfl⟩, by decide⟩
def c26l1 : AC := oS (oR [oA 67 (.bin .lss 3 (oO 66) (oO 65))]) (oK [9, 10, 11, 13, 58, 59, 60, 64, 65, 66, 67] (oS (.cond (oO 67) (.skip) (.exit 2)) (oK [9, 10, 11, 13, 58, 59, 60, 64, 65, 66] (oS (.block 3 (oS (oR [oM 68 66, oA 69 (.iaddr 2 [.int .i64 0, .int .i64 0] (oO 64) (oO 66)), oA 70 (.load true 2 (oO 69)), oA 15 (.alloc [.int .i64 0, .int .i64 0]), oM 14 68, ⟨none, none, .store false 2 (oO 15) (oO 70), false⟩]) (oK [9, 10, 11, 13, 14, 15, 58, 59, 60, 64, 65, 66] (oS (oR [oM 71 13, oM 72 14, oA 73 (.load true 2 (oO 9)), oA 74 (.load true 2 (oO 15)), oA 75 (.call (.func 74) [(oO 73), (oO 74)]), oA 76 (.iaddr 2 [.int .i64 0, .int .i64 0] (oO 71) (oO 72)), ⟨none, none, .store false 2 (oO 76) (oO 75), false⟩]) (oK [9, 10, 11, 13, 14, 58, 59, 60, 64, 65, 66] (oS (oR [oM 77 13, oM 78 14, oA 79 (.iaddr 2 [.int .i64 0, .int .i64 0] (oO 77) (oO 78)), oA 80 (.load true 2 (oO 79)), oA 81 (.call (.func 68) [(oO 80), (oN 100000000)]), oA 82 (.un .not (oO 81))]) (oK [9, 10, 11, 13, 58, 59, 60, 64, 65, 66, 82] (.cond (oO 82) (oS (oR [oA 4 (.mv (.const (.slice none 0 0))), oA 5 (.mv (oN 0)), oA 6 (.mv (oN 8))]) (oK [4, 5, 6] (.ret))) (.skip))))))))) (oK [9, 10, 11, 13, 58, 59, 60, 64, 65, 66] (oR [oA 83 (.bin .add 3 (oO 66) (oN 1)), oM 66 83]))))))
def c26l2 : AC := oS (oR [oA 61 (.bin .lss 3 (oO 60) (oO 59))]) (oK [9, 10, 11, 58, 59, 60, 61] (oS (.cond (oO 61) (.skip) (.exit 0)) (oK [9, 10, 11, 58, 59, 60] (oS (.block 1 (oS (oR [oA 62 (.iaddr 1 [.slice none 0 0] (oO 58) (oO 60)), oA 63 (.load false 1 (oO 62)), oM 13 63]) (oK [9, 10, 11, 13, 58, 59, 60] (oS (oR [oM 64 13, oA 65 (.len false (oO 64)), oA 66 (.mv (oN 0))]) (oK [9, 10, 11, 13, 58, 59, 60, 64, 65, 66] (.block 2 (.loop c26l1))))))) (oK [9, 10, 11, 58, 59, 60] (oR [oA 84 (.bin .add 3 (oO 60) (oN 1)), oM 60 84]))))))
def c26 : AC := oS (oR [oA 4 (.mv (.const (.slice none 0 0))), oA 5 (.mv (oN 0)), oA 6 (.mv (oN 0))]) (oK [0, 1] (oS (oR [oM 17 0, oA 18 (.call (.func 73) [(oO 17)]), oM 16 18, oA 19 (.extr (oO 16) 0), oA 20 (.extr (oO 16) 1), oA 7 (.alloc [.int .i64 0, .int .i64 0]), ⟨none, none, .store false 2 (oO 7) (oO 19), false⟩, oM 8 20]) (oK [0, 1, 7, 8] (oS (oS (oQ [oA 21 (.mvs (oO 8)), oM 22 1, oA 23 (.call (.func 71) [(oO 22)]), oM 24 1, oA 25 (.len false (oO 24)), oM 26 0, oA 27 (.len false (oO 26)), oA 28 (.bin .eql 3 (oO 25) (oO 27)), oA 29 (.call (.func 69) [(oO 28), (oN 13)]), oA 30 (.load true 2 (oO 7)), oA 31 (.build [.int .i64 0, .int .i64 0] []), oA 32 (.ext (.eqs true [0, 0]) [(oO 30), (oO 31)]), oT 33 (.call (.func 69) [(oO 32), (oN 27)]), oT 34 (.mkSl false 41 1 [.int .i64 0] 4 [(0, (oO 21)), (1, (oO 23)), (2, (oO 29)), (3, (oO 33))]), oT 35 (.call (.func 56) [(oO 34)]), oT 8 (.mv (oO 35))]) (oK [0, 1, 7, 8] (oS (oR [oM 36 8, oA 37 (.bin .neq 41 (oO 36) (oN 0))]) (oK [0, 1, 7, 8, 37] (.cond (oO 37) (oS (oR [oM 38 8, oA 4 (.mv (.const (.slice none 0 0))), oA 5 (.mv (oN 0)), oM 6 38]) (oK [4, 5, 6] (.ret))) (.skip)))))) (oK [0, 1, 7] (oS (oR [oA 39 (.faddr 0 (oO 7)), oA 40 (.load false 1 (oO 39)), oA 41 (.faddr 1 (oO 7)), oA 42 (.load false 1 (oO 41)), oA 43 (.un .neg (oO 42)), oA 44 (.build [.int .i64 0, .int .i64 0] [(0, 1, (oO 40)), (1, 1, (oO 43))]), oA 9 (.alloc [.int .i64 0, .int .i64 0]), ⟨none, none, .store false 2 (oO 9) (oO 44), false⟩]) (oK [0, 1, 7, 9] (oS (oR [oA 45 (.load true 2 (oO 7)), oA 46 (.load true 2 (oO 9)), oA 47 (.call (.func 74) [(oO 45), (oO 46)]), oA 48 (.field false 1 0 (oO 47)), oM 10 48]) (oK [0, 1, 9, 10] (oS (oS (oR [oM 49 10, oA 50 (.bin .gtr 3 (oO 49) (oN 10000000))]) (oK [0, 1, 9, 10, 50] (.cond (oO 50) (oS (oR [oA 4 (.mv (.const (.slice none 0 0))), oA 5 (.mv (oN 0)), oA 6 (.mv (oN 8))]) (oK [4, 5, 6] (.ret))) (.skip)))) (oK [0, 1, 9, 10] (oS (oR [oM 51 0, oA 52 (.call (.func 76) [(oO 51)]), oA 53 (.call (.func 75) [(oO 52)]), oM 54 1, oA 55 (.call (.func 75) [(oO 54)]), oA 56 (.call (.func 77) [(oO 53), (oO 55)]), oA 57 (.call (.func 78) [(oO 56)]), oM 11 57]) (oK [9, 10, 11] (oS (oS (oR [oM 58 11, oA 59 (.len false (oO 58)), oA 60 (.mv (oN 0))]) (oK [9, 10, 11, 58, 59, 60] (.block 0 (.loop c26l2)))) (oK [10, 11] (.fz [11] (oS (oR [oM 85 11, oM 86 10, oM 4 85, oM 5 86, oA 6 (.mv (oN 0))]) (oK [4, 5, 6] (.ret)))))))))))))))))))
def rv26 : List RV := [.tmp 4, .tmp 5, .tmp 6]
theorem is26 : FnIs Tryz.prog 26 87 c26 rv26 := ⟨⟨Tryz.f26, _, Tryz.func26, by kernel_rfl, rfl, rfl, by kernel_rfl, by kernel_rfl⟩, by decide⟩
end Go.Proofs.YteoobfmbipmibaaGreat.D
end
section
open Go Go.Am
open Go.Am.Dat (cells)
namespace Go.Proofs.YteoobfmbipmibaaGreat.D
set_option maxRecDepth 100000
def c16l1 : AC := oS (oR [oA 26 (.bin .lss 3 (oO 25) (oO 24))]) (oK [7, 8, 24, 25, 26] (oS (.cond (oO 26) (.skip) (.exit 0)) (oK [7, 8, 24, 25] (oS (.block 1 (oS (oR [oM 27 25, oM 9 27]) (oK [7, 8, 9, 24, 25] (.draw 4 [0, 1, 2, 3] [oM 28 7, oA 29 (.mvs (oO 9)), oA 30 (.iaddr 1 [.int .i64 0] (oO 28) (oO 29)), oA 31 (.load false 1 (oO 30)), oT 32 (.call (.func 61) [(oO 8)]), oT 33 (.bin .xor 3 (oO 31) (oO 32)), oT 34 (.iaddr 1 [.int .i64 0] (oO 28) (oO 29)), ⟨none, none, .store false 1 (oO 34) (oO 33), true⟩])))) (oK [7, 8, 24, 25] (oR [oA 35 (.bin .add 3 (oO 25) (oN 1)), oM 25 35]))))))
def c16 : AC := oS (oR [oA 2 (.box (oO 0)), oA 4 (.mv (.const (.slice none 0 0))), oA 5 (.mv (oN 0))]) (oK [1, 2] (oS (oS (oR [oA 10 (.load true 3 (oO 2)), oA 11 (.call (.func 57) [(oO 10)]), oM 12 1, oA 13 (.call (.func 58) [(oO 12)]), oA 14 (.mkSl false 41 1 [.int .i64 0] 2 [(0, (oO 11)), (1, (oO 13))]), oA 15 (.call (.func 56) [(oO 14)]), oM 6 15]) (oK [1, 2, 6] (oS (oR [oM 16 6, oA 17 (.bin .neq 41 (oO 16) (oN 0))]) (oK [1, 2, 6, 17] (.cond (oO 17) (oS (oR [oM 18 6, oA 4 (.mv (.const (.slice none 0 0))), oM 5 18]) (oK [4, 5] (.ret))) (.skip)))))) (oK [1, 2] (oS (.draw 999 [1, 3, 5, 6, 103, 105, 106, 203, 205, 206, 305, 306, 405, 406, 506] [oM 19 1, oA 20 (.call (.func 59) [(oO 19)]), oA 21 (.load true 3 (oO 2)), oA 22 (.call (.func 60) [(oO 21)]), oA 8 (.alloc [.int .u16 0, .int .u16 0, .int .i64 0]), oT 7 (.mv (oO 20)), ⟨none, none, .store false 3 (oO 8) (oO 22), true⟩]) (oK [7, 8] (oS (oS (oR [oM 23 7, oA 24 (.len false (oO 23)), oA 25 (.mv (oN 0))]) (oK [7, 8, 24, 25] (.block 0 (.loop c16l1)))) (oK [7] (.fz [7] (oS (oR [oM 36 7, oM 4 36, oA 5 (.mv (oN 0))]) (oK [4, 5] (.ret)))))))))))
def rv16 : List RV := [.tmp 4, .tmp 5]
theorem is16 : FnIs Tryz.prog 16 37 c16 rv16 := ⟨⟨Tryz.f16, _, Tryz.func16, by kernel_rfl, rfl, rfl, by kernel_rfl, by kernel_rfl⟩, by decide⟩
def c21l1 : AC := oS (oR [oA 46 (.bin .lss 3 (oO 45) (oO 44))]) (oK [0, 8, 43, 44, 45, 46] (oS (.cond (oO 46) (.skip) (.exit 0)) (oK [0, 8, 43, 44, 45] (oS (.block 1 (oS (oR [oM 47 45, oA 48 (.iaddr 2 [.int .i64 0, .int .i64 0] (oO 43) (oO 45)), oA 49 (.load true 2 (oO 48)), oA 10 (.alloc [.int .i64 0, .int .i64 0]), oM 9 47, ⟨none, none, .store false 2 (oO 10) (oO 49), false⟩]) (oK [0, 8, 9, 10, 43, 44, 45] (.draw 12 [0, 1, 2, 3] [oM 50 8, oA 51 (.mvs (oO 9)), oA 52 (.mvs (oO 0)), oA 53 (.bin .rem 3 (oO 51) (oO 52)), oM 54 8, oA 55 (.mvs (oO 9)), oA 56 (.mvs (oO 0)), oA 57 (.bin .rem 3 (oO 55) (oO 56)), oA 58 (.iaddr 1 [.slice none 0 0] (oO 54) (oO 57)), oA 59 (.load false 1 (oO 58)), oA 60 (.load true 2 (oO 10)), oA 61 (.mkSl false 62 2 [.int .i64 0, .int .i64 0] 1 [(0, (oO 60))]), oT 62 (.app 32 62 2 16 [.int .i64 0, .int .i64 0] (oO 59) (oO 61)), oT 63 (.iaddr 1 [.slice none 0 0] (oO 50) (oO 53)), ⟨none, none, .store true 1 (oO 63) (oO 62), true⟩])))) (oK [0, 8, 43, 44, 45] (oR [oA 64 (.bin .add 3 (oO 45) (oN 1)), oM 45 64]))))))
def c21 : AC := oS (oR [oA 4 (.mv (.const (.slice none 0 0))), oA 5 (.mv (oN 0))]) (oK [0, 1] (oS (oS (oR [oM 11 0, oA 12 (.call (.func 65) [(oO 11), (oN 1), (oN 4)]), oA 13 (.un .not (oO 12))]) (oK [0, 1, 13] (.cond (oO 13) (oS (oR [oA 4 (.mv (.const (.slice none 0 0))), oA 5 (.mv (oN 2))]) (oK [4, 5] (.ret))) (.skip)))) (oK [0, 1] (oS (oR [oM 14 1, oA 15 (.call (.func 66) [(oO 14), (.func 67)]), oM 6 15]) (oK [0, 1, 6] (oS (oS (oQ [oM 16 1, oA 17 (.len false (oO 16)), oA 18 (.bin .gtr 3 (oO 17) (oN 0)), oA 19 (.mvs (oO 18)), oG 20 19 true (.mv (oO 1)), oG 21 19 true (.len false (oO 20)), oG 22 19 true (.mv (oO 0)), oG 23 19 true (.bin .rem 3 (oO 21) (oO 22)), oG 24 19 true (.bin .eql 3 (oO 23) (oN 0)), oA 25 (.pick (oO 19) (oO 24) (.const (.bool false))), oA 26 (.call (.func 69) [(oO 25), (oN 10)]), oM 27 1, oA 28 (.len false (oO 27)), oA 29 (.mvs (oO 0)), oA 30 (.bin .quo 3 (oO 28) (oO 29)), oA 31 (.bin .leq 3 (oO 30) (oN 200)), oA 32 (.call (.func 69) [(oO 31), (oN 8)]), oM 33 6, oA 34 (.un .not (oO 33)), oT 35 (.call (.func 69) [(oO 34), (oN 2)]), oT 36 (.mkSl false 41 1 [.int .i64 0] 3 [(0, (oO 26)), (1, (oO 32)), (2, (oO 35))]), oT 37 (.call (.func 56) [(oO 36)]), oT 7 (.mv (oO 37))]) (oK [0, 1, 7] (oS (oR [oM 38 7, oA 39 (.bin .neq 41 (oO 38) (oN 0))]) (oK [0, 1, 7, 39] (.cond (oO 39) (oS (oR [oM 40 7, oA 4 (.mv (.const (.slice none 0 0))), oM 5 40]) (oK [4, 5] (.ret))) (.skip)))))) (oK [0, 1] (oS (oR [oM 41 0, oA 42 (.makeSl 32 1 24 [.slice none 0 0] (oO 41) (oO 41)), oM 8 42]) (oK [0, 1, 8] (.deepen 8 2 62 (oS (oS (oR [oM 43 1, oA 44 (.len false (oO 43)), oA 45 (.mv (oN 0))]) (oK [0, 8, 43, 44, 45] (.block 0 (.loop c21l1)))) (oK [8] (.fz [8] (oS (oR [oM 65 8, oM 4 65, oA 5 (.mv (oN 0))]) (oK [4, 5] (.ret))))))))))))))))
def rv21 : List RV := [.tmp 4, .tmp 5]
theorem is21 : FnIs Tryz.prog 21 66 c21 rv21 := ⟨⟨Tryz.f21, _, Tryz.func21, by kernel_rfl, rfl, rfl, by kernel_rfl, by kernel_rfl⟩, by decide⟩
def c52l1 : AC := oS (oR [oA 16 (.bin .lss 3 (oO 15) (oO 14))]) (oK [1, 5, 13, 14, 15, 16] (oS (.cond (oO 16) (.skip) (.exit 0)) (oK [1, 5, 13, 14, 15] (oS (.block 1 (oS (oR [oM 17 15, oA 18 (.iaddr 1 [.int .i64 0] (oO 13) (oO 15)), oA 19 (.load false 1 (oO 18)), oM 6 17, oM 7 19]) (oK [1, 5, 6, 7, 13, 14, 15] (oR [oM 20 5, oM 21 7, oM 22 1, oM 23 6, oA 24 (.iaddr 1 [.int .i64 0] (oO 22) (oO 23)), oA 25 (.load false 1 (oO 24)), oA 26 (.iaddr 1 [.int .i64 0] (oO 20) (oO 21)), ⟨none, none, .store false 1 (oO 26) (oO 25), false⟩])))) (oK [1, 5, 13, 14, 15] (oR [oA 27 (.bin .add 3 (oO 15) (oN 1)), oM 15 27]))))))
def c52k2 : AC := oS (oR [oM 28 5, oA 29 (.call (.func 101) [(oO 28)]), oM 4 29]) (oK [4] (.ret))
def c52 : AC := oS (oR [oA 2 (.box (oO 0)), oA 4 (.mv (.const (.slice none 0 0)))]) (oK [1, 2] (oS (oR [oA 8 (.faddr 0 (oO 2)), oA 9 (.load false 1 (oO 8)), oA 10 (.bin .shl 3 (oN 1) (oO 9)), oA 11 (.makeSl 3 1 8 [.int .i64 0] (oO 10) (oO 10)), oM 5 11]) (oK [1, 2, 5] (oS (oS (oR [oA 12 (.faddr 1 (oO 2)), oA 13 (.load false 1 (oO 12)), oA 14 (.len false (oO 13)), oA 15 (.mv (oN 0))]) (oK [1, 5, 13, 14, 15] (.block 0 (.loop c52l1)))) (oK [5] (.cut c52k2))))))
def rv52 : List RV := [.tmp 4]
theorem is52 : FnIs Tryz.prog 52 30 c52 rv52 := ⟨⟨Tryz.f52, _, Tryz.func52, by kernel_rfl, rfl, rfl, by kernel_rfl, by kernel_rfl⟩, by decide⟩
def c118l1 : AC := oS (oR [oA 41 (.bin .lss 3 (oO 40) (oO 39))]) (oK [1, 2, 7, 8, 9, 10, 39, 40, 41] (oS (.cond (oO 41) (.skip) (.exit 0)) (oK [1, 2, 7, 8, 9, 10, 39, 40] (oS (.block 1 (oS (oR [oM 42 40, oM 11 42]) (oK [1, 2, 7, 8, 9, 10, 11, 39, 40] (oQ [oM 43 10, oA 44 (.mvs (oO 11)), oM 45 8, oA 46 (.mvs (oO 11)), oA 47 (.iaddr 1 [.int .i64 0] (oO 45) (oO 46)), oA 48 (.load false 1 (oO 47)), oA 49 (.call (.func 132) [(oO 48)]), oM 50 9, oA 51 (.mvs (oO 11)), oA 52 (.iaddr 1 [.int .i64 0] (oO 50) (oO 51)), oA 53 (.load false 1 (oO 52)), oA 54 (.call (.func 132) [(oO 53)]), oA 55 (.ext (.mx false) [(oO 49), (oO 54)]), oM 56 8, oA 57 (.mvs (oO 11)), oA 58 (.iaddr 1 [.int .i64 0] (oO 56) (oO 57)), oA 59 (.load false 1 (oO 58)), oA 60 (.call (.func 133) [(oO 59)]), oA 61 (.bin .mul 3 (oO 55) (oO 60)), oM 62 9, oM 63 11, oA 64 (.iaddr 1 [.int .i64 0] (oO 62) (oO 63)), oA 65 (.load false 1 (oO 64)), oA 66 (.call (.func 133) [(oO 65)]), oA 67 (.bin .mul 3 (oO 61) (oO 66)), oT 68 (.iaddr 1 [.int .i64 0] (oO 43) (oO 44)), ⟨none, none, .store false 1 (oO 68) (oO 67), true⟩])))) (oK [1, 2, 7, 8, 9, 10, 39, 40] (oR [oA 69 (.bin .add 3 (oO 40) (oN 1)), oM 40 69]))))))
def c118l2 : AC := oS (oR [oA 79 (.bin .lss 3 (oO 78) (oO 77))]) (oK [1, 2, 7, 8, 9, 10, 12, 76, 77, 78, 79] (oS (.cond (oO 79) (.skip) (.exit 2)) (oK [1, 2, 7, 8, 9, 10, 12, 76, 77, 78] (oS (.block 3 (oS (oR [oM 80 78, oA 81 (.iaddr 1 [.int .i64 0] (oO 76) (oO 78)), oA 82 (.load false 1 (oO 81)), oM 13 80, oM 14 82]) (oK [1, 2, 7, 8, 9, 10, 12, 13, 14, 76, 77, 78] (oS (oQ [oM 83 10, oA 84 (.mvs (oO 13)), oM 85 9, oA 86 (.mvs (oO 13)), oA 87 (.iaddr 1 [.int .i64 0] (oO 85) (oO 86)), oA 88 (.load false 1 (oO 87)), oM 89 8, oM 90 13, oA 91 (.iaddr 1 [.int .i64 0] (oO 89) (oO 90)), oA 92 (.load false 1 (oO 91)), oA 93 (.bin .add 3 (oO 88) (oO 92)), oT 94 (.iaddr 1 [.int .i64 0] (oO 83) (oO 84)), ⟨none, none, .store false 1 (oO 94) (oO 93), true⟩]) (oK [1, 2, 7, 8, 9, 10, 12, 13, 14, 76, 77, 78] (oS (oR [oM 95 14, oA 96 (.bin .eql 3 (oO 95) (oN 1))]) (oK [1, 2, 7, 8, 9, 10, 12, 13, 76, 77, 78, 96] (.cond (oO 96) (oQ [oM 97 10, oA 98 (.mvs (oO 13)), oM 99 9, oA 100 (.mvs (oO 13)), oA 101 (.iaddr 1 [.int .i64 0] (oO 99) (oO 100)), oA 102 (.load false 1 (oO 101)), oM 103 8, oM 104 13, oA 105 (.iaddr 1 [.int .i64 0] (oO 103) (oO 104)), oA 106 (.load false 1 (oO 105)), oA 107 (.bin .sub 3 (oO 102) (oO 106)), oT 108 (.iaddr 1 [.int .i64 0] (oO 97) (oO 98)), ⟨none, none, .store false 1 (oO 108) (oO 107), true⟩]) (.skip))))))))) (oK [1, 2, 7, 8, 9, 10, 12, 76, 77, 78] (oR [oA 109 (.bin .add 3 (oO 78) (oN 1)), oM 78 109]))))))
def c118k3 : AC := oS (oS (oR [oM 74 12, oA 75 (.call (.func 59) [(oO 74)]), oA 76 (.call (.func 101) [(oO 75)]), oA 77 (.len false (oO 76)), oA 78 (.mv (oN 0))]) (oK [1, 2, 7, 8, 9, 10, 12, 76, 77, 78] (.block 2 (.loop c118l2)))) (oK [1, 2, 7, 10, 12] (.fz [10] (oS (oR [oM 110 12, oM 111 10, oM 112 1, oM 113 7, oA 114 (.bin .add 3 (oO 112) (oO 113)), oM 115 2, oA 116 (.call (.func 118) [(oO 111), (oO 114), (oO 115)]), oA 117 (.app 24 3 1 8 [.int .i64 0] (oO 110) (oO 116)), oM 6 117]) (oK [6] (.ret)))))
def c118 : AC := oS (oR [oA 6 (.mv (.const (.slice none 0 0)))]) (oK [0, 1, 2] (oS (oR [oM 15 0, oA 16 (.len false (oO 15)), oA 17 (.bin .quo 3 (oO 16) (oN 2)), oM 7 17]) (oK [0, 1, 2, 7] (oS (oS (oR [oM 18 7, oA 19 (.bin .eql 3 (oO 18) (oN 0))]) (oK [0, 1, 2, 7, 19] (.cond (oO 19) (oS (oS (oR [oM 20 2, oM 21 1, oA 22 (.call (oO 20) [(oO 21)]), oM 23 22, oG 24 23 true (.mv (oO 0)), oG 25 23 true (.iaddr 1 [.int .i64 0] (oO 24) (oN 0)), oG 26 23 true (.load false 1 (oO 25)), oG 27 23 true (.bin .lss 3 (oO 26) (oN 0)), oA 28 (.pick (oO 23) (oO 27) (.const (.bool false)))]) (oK [28] (.cond (oO 28) (oS (oR [oA 29 (.mkSl true 3 1 [.int .i64 0] 1 [(0, (oN 1))]), oM 6 29]) (oK [6] (.ret))) (.skip)))) (oK [] (oS (oR [oA 30 (.mkSl true 3 1 [.int .i64 0] 1 [(0, (oN 0))]), oM 6 30]) (oK [6] (.ret))))) (.skip)))) (oK [0, 1, 2, 7] (oS (oQ [oM 31 0, oA 32 (.mvs (oO 7)), oA 33 (.ssl 1 (oO 31) none (some (oO 32)) none), oM 34 0, oA 35 (.mvs (oO 7)), oA 36 (.ssl 1 (oO 34) (some (oO 35)) none none), oM 8 33, oT 9 (.mv (oO 36))]) (oK [1, 2, 7, 8, 9] (oS (oR [oM 37 7, oA 38 (.makeSl 3 1 8 [.int .i64 0] (oO 37) (oO 37)), oM 10 38]) (oK [1, 2, 7, 8, 9, 10] (oS (oS (oR [oM 39 7, oA 40 (.mv (oN 0))]) (oK [1, 2, 7, 8, 9, 10, 39, 40] (.block 0 (.loop c118l1)))) (oK [1, 2, 7, 8, 9, 10] (oS (oR [oM 70 10, oM 71 1, oM 72 2, oA 73 (.call (.func 118) [(oO 70), (oO 71), (oO 72)]), oM 12 73]) (oK [1, 2, 7, 8, 9, 10, 12] (.cut c118k3))))))))))))))
def rv118 : List RV := [.tmp 6]
theorem is118 : FnIs Tryz.prog 118 118 c118 rv118 := ⟨⟨Tryz.f118, _, Tryz.func118, by kernel_rfl, rfl, rfl, by kernel_rfl, by kernel_rfl⟩, by decide⟩
def c88l1 : AC := oS (oR [oA 16 (.bin .lss 3 (oO 15) (oO 14))]) (oK [5, 6, 13, 14, 15, 16] (oS (.cond (oO 16) (.skip) (.exit 0)) (oK [5, 6, 13, 14, 15] (oS (.block 1 (oS (oR [oA 17 (.iaddr 1 [.int .i64 0] (oO 13) (oO 15)), oA 18 (.load false 1 (oO 17)), oM 8 18]) (oK [5, 6, 8, 13, 14, 15] (oR [oM 19 6, oM 20 5, oM 21 8, oA 22 (.iaddr 1 [.int .i64 0] (oO 20) (oO 21)), oA 23 (.load false 1 (oO 22)), oA 24 (.mkSl false 3 1 [.int .i64 0] 1 [(0, (oO 23))]), oA 25 (.app 24 3 1 8 [.int .i64 0] (oO 19) (oO 24)), oM 6 25])))) (oK [5, 6, 13, 14, 15] (oR [oA 26 (.bin .add 3 (oO 15) (oN 1)), oM 15 26]))))))
def c88k2 : AC := oS (oR [oM 9 1, oA 10 (.mkFn (.func 119) [] [(oO 2)]), oA 11 (.call (.func 118) [(oO 9), (oN 0), (oO 10)]), oM 5 11]) (oK [2, 5] (oS (oR [oA 6 (.mv (.const (.slice none 0 0)))]) (oK [2, 5, 6] (.nilrow 6 1 3 (oS (oS (oR [oA 12 (.faddr 1 (oO 2)), oA 13 (.load false 1 (oO 12)), oA 14 (.len false (oO 13)), oA 15 (.mv (oN 0))]) (oK [5, 6, 13, 14, 15] (.block 0 (.loop c88l1)))) (oK [6] (.fz [6] (oS (oR [oM 27 6, oM 4 27]) (oK [4] (.ret))))))))))
def c88 : AC := oS (oR [oA 2 (.box (oO 0)), oA 4 (.mv (.const (.slice none 0 0)))]) (oK [1, 2] (.cut c88k2))
def rv88 : List RV := [.tmp 4]
theorem is88 : FnIs Tryz.prog 88 28 c88 rv88 := ⟨⟨Tryz.f88, _, Tryz.func88, by kernel_rfl, rfl, rfl, by kernel_rfl, by kernel_rfl⟩, by decide⟩
end Go.Proofs.YteoobfmbipmibaaGreat.D
end
section
open Go Go.Am
open Go.Am.Dat (cells)
namespace Go.Proofs.YteoobfmbipmibaaGreat.D
set_option maxRecDepth 100000
def c3l1 : AC := oS (oS (oR [oM 284 22, oM 285 21, oA 286 (.len false (oO 285)), oA 287 (.bin .lss 3 (oO 284) (oO 286)), oM 288 287, oG 289 288 true (.faddr 11 (oO 2)), oG 290 288 true (.load false 1 (oO 289)), oG 291 288 true (.len false (oO 290)), oG 292 288 true (.bin .gtr 3 (oO 291) (oN 0)), oA 293 (.pick (oO 288) (oO 292) (.const (.bool false)))]) (oK [1, 2, 5, 17, 21, 22, 293] (.cond (oO 293) (.skip) (.exit 0)))) (oK [1, 2, 5, 17, 21, 22] (oS (.block 1 (oS (.draw 9 [0, 1, 2, 3, 4, 5, 6, 7, 8] [oA 296 (.faddr 11 (oO 2)), oA 297 (.load false 1 (oO 296)), oA 298 (.mvs (oO 22)), oA 299 (.faddr 11 (oO 2)), oA 300 (.load false 1 (oO 299)), oA 301 (.len false (oO 300)), oA 302 (.bin .rem 3 (oO 298) (oO 301)), oA 303 (.iaddr 2 [.int .i64 0, .int .i64 0] (oO 297) (oO 302)), oA 304 (.load true 2 (oO 303)), oT 23 (.alloc [.int .i64 0, .int .i64 0]), ⟨none, none, .store false 2 (oO 23) (oO 304), true⟩]) (oK [1, 2, 5, 17, 21, 22, 23] (oQ [oM 305 21, oA 306 (.mvs (oO 22)), oM 307 21, oA 308 (.mvs (oO 22)), oA 309 (.iaddr 2 [.int .i64 0, .int .i64 0] (oO 307) (oO 308)), oA 310 (.load true 2 (oO 309)), oA 311 (.faddr 0 (oO 23)), oA 312 (.load false 1 (oO 311)), oA 313 (.mvs (oO 17)), oA 314 (.bin .mul 3 (oN 2) (oO 313)), oA 315 (.bin .sub 3 (oO 314) (oN 1)), oA 316 (.call (.func 30) [(oO 312), (oO 315)]), oA 317 (.mvs (oO 17)), oA 318 (.bin .sub 3 (oO 316) (oO 317)), oA 319 (.bin .add 3 (oO 318) (oN 1)), oA 320 (.faddr 1 (oO 23)), oA 321 (.load false 1 (oO 320)), oA 322 (.mvs (oO 17)), oA 323 (.bin .mul 3 (oN 2) (oO 322)), oA 324 (.bin .sub 3 (oO 323) (oN 1)), oA 325 (.call (.func 30) [(oO 321), (oO 324)]), oM 326 17, oA 327 (.bin .sub 3 (oO 325) (oO 326)), oA 328 (.bin .add 3 (oO 327) (oN 1)), oA 329 (.build [.int .i64 0, .int .i64 0] [(0, 1, (oO 319)), (1, 1, (oO 328))]), oA 330 (.call (.func 29) [(oO 310), (oO 329)]), oT 331 (.iaddr 2 [.int .i64 0, .int .i64 0] (oO 305) (oO 306)), ⟨none, none, .store false 2 (oO 331) (oO 330), true⟩])))) (oK [1, 2, 5, 17, 21, 22] (oR [oM 294 22, oA 295 (.bin .add 3 (oO 294) (oN 1)), oM 22 295]))))
def c3l2 : AC := oS (oS (oR [oM 380 30, oA 381 (.faddr 4 (oO 5)), oA 382 (.load false 1 (oO 381)), oA 383 (.bin .lss 3 (oO 380) (oO 382))]) (oK [1, 2, 5, 25, 27, 29, 30, 383] (.cond (oO 383) (.skip) (.exit 2)))) (oK [1, 2, 5, 25, 27, 29, 30] (oS (.block 3 (oQ [oM 386 29, oM 387 27, oA 388 (.mvs (oO 30)), oA 389 (.iaddr 1 [.int .i64 0] (oO 387) (oO 388)), oA 390 (.load false 1 (oO 389)), oA 391 (.bin .mul 3 (oN 2) (oO 390)), oA 392 (.bin .sub 3 (oN 1) (oO 391)), oM 393 25, oM 394 30, oA 395 (.iaddr 1 [.int .i64 0] (oO 393) (oO 394)), oA 396 (.load false 1 (oO 395)), oA 397 (.ext (.mx true) [(oN (-1000)), (oO 396)]), oA 398 (.ext (.mx false) [(oN 1000), (oO 397)]), oA 399 (.bin .mul 3 (oO 392) (oO 398)), oA 400 (.mkSl false 3 1 [.int .i64 0] 1 [(0, (oO 399))]), oT 401 (.app 24 3 1 8 [.int .i64 0] (oO 386) (oO 400)), oT 29 (.mv (oO 401))])) (oK [1, 2, 5, 25, 27, 29, 30] (oR [oM 384 30, oA 385 (.bin .add 3 (oO 384) (oN 1)), oM 30 385]))))
def c3k3 : AC := oS (oQ [oM 403 29, oA 404 (.faddr 5 (oO 2)), oA 405 (.load false 1 (oO 404)), oA 406 (.faddr 2 (oO 5)), oA 407 (.load true 2 (oO 406)), oA 408 (.call (.func 7) [(oO 407)]), oT 409 (.call (.func 36) [(oO 403), (oO 405), (oO 408)]), oT 402 (.mv (oO 409)), oA 410 (.extr (oO 402) 0), oA 411 (.extr (oO 402) 1), oM 31 410, oT 32 (.mv (oO 411))]) (oK [1, 5, 31, 32] (oS (oS (oR [oM 412 32, oA 413 (.bin .neq 41 (oO 412) (oN 0)), oM 414 413, oG 415 414 false (.mv (oO 31)), oG 416 414 false (.call (.func 37) [(oO 415)]), oG 417 414 false (.bin .neq 3 (oO 416) (oN 0)), oA 418 (.pick (oO 414) (.const (.bool true)) (oO 417))]) (oK [1, 5, 31, 418] (.cond (oO 418) (oS (oR [oA 4 (.mv (.const (.bool false)))]) (oK [4] (.ret))) (.skip)))) (oK [1, 5, 31] (oS (oR [oA 420 (.load true 5 (oO 5)), oA 421 (.call (.func 13) [(oO 420)]), oM 422 31, oA 423 (.call (.func 38) [(oO 421), (oO 422)]), oM 419 423, oA 424 (.extr (oO 419) 0), oA 425 (.extr (oO 419) 1), oM 33 424, oM 34 425]) (oK [1, 33, 34] (oS (oR [oM 426 34, oA 427 (.bin .eql 41 (oO 426) (oN 0)), oM 428 427, oG 429 428 true (.mv (oO 33)), oG 430 428 true (.mv (oO 1)), oG 431 428 true (.call (.func 39) [(oO 429), (oO 430)]), oA 432 (.pick (oO 428) (oO 431) (.const (.bool false))), oM 4 432]) (oK [4] (.ret))))))))
def c3k4 : AC := oS (oR [oA 341 (.load true 3 (oO 24)), oA 342 (.call (.func 33) [(oO 341)]), oA 343 (.call (.func 32) [(oO 342)]), oM 340 343, oA 344 (.extr (oO 340) 0), oA 345 (.extr (oO 340) 1), oM 25 344, oM 26 345]) (oK [1, 2, 5, 25, 26] (oS (oQ [oA 347 (.faddr 6 (oO 2)), oA 348 (.load true 3 (oO 347)), oA 349 (.call (.func 17) [(oO 348)]), oA 350 (.faddr 4 (oO 5)), oA 351 (.load false 1 (oO 350)), oT 352 (.call (.func 34) [(oO 349), (oO 351)]), oT 346 (.mv (oO 352)), oA 353 (.extr (oO 346) 0), oA 354 (.extr (oO 346) 1), oM 27 353, oT 28 (.mv (oO 354))]) (oK [1, 2, 5, 25, 26, 27, 28] (oS (oS (oR [oM 355 26, oA 356 (.bin .neq 41 (oO 355) (oN 0)), oM 357 356, oG 358 357 false (.mv (oO 28)), oG 359 357 false (.bin .neq 41 (oO 358) (oN 0)), oA 360 (.pick (oO 357) (.const (.bool true)) (oO 359)), oM 361 360, oG 362 361 false (.mv (oO 25)), oG 363 361 false (.len false (oO 362)), oG 364 361 false (.faddr 4 (oO 5)), oG 365 361 false (.load false 1 (oO 364)), oG 366 361 false (.bin .neq 3 (oO 363) (oO 365)), oA 367 (.pick (oO 361) (.const (.bool true)) (oO 366)), oM 368 367, oG 369 368 false (.mv (oO 27)), oG 370 368 false (.len false (oO 369)), oG 371 368 false (.faddr 4 (oO 5)), oG 372 368 false (.load false 1 (oO 371)), oG 373 368 false (.bin .neq 3 (oO 370) (oO 372)), oA 374 (.pick (oO 368) (.const (.bool true)) (oO 373)), oM 375 374, oG 376 375 false (.mv (oO 27)), oG 377 375 false (.call (.func 35) [(oO 376)]), oG 378 375 false (.un .not (oO 377)), oA 379 (.pick (oO 375) (.const (.bool true)) (oO 378))]) (oK [1, 2, 5, 25, 27, 379] (.cond (oO 379) (oS (oR [oA 4 (.mv (.const (.bool false)))]) (oK [4] (.ret))) (.skip)))) (oK [1, 2, 5, 25, 27] (oS (oR [oA 29 (.mv (.const (.slice none 0 0)))]) (oK [1, 2, 5, 25, 27, 29] (.nilrow 29 1 3 (oS (oS (oR [oA 30 (.mv (oN 0))]) (oK [1, 2, 5, 25, 27, 29, 30] (.block 2 (.loop c3l2)))) (oK [1, 2, 5, 29] (.fz [29] (.cut c3k3))))))))))))
def c3k5 : AC := oS (oR [oM 282 19, oA 283 (.call (.func 22) [(oO 282)]), oM 21 283]) (oK [1, 2, 5, 17, 21] (oS (oS (oR [oA 22 (.mv (oN 0))]) (oK [1, 2, 5, 17, 21, 22] (.block 0 (.loop c3l1)))) (oK [1, 2, 5, 17, 21] (.fz [21] (oS (oR [oA 332 (.faddr 9 (oO 2)), oA 333 (.load false 1 (oO 332)), oM 334 17, oM 335 21, oA 336 (.build [.int .i64 0, .int .i64 0, .slice none 0 0] [(0, 1, (oO 333)), (1, 1, (oO 334)), (2, 1, (oO 335))]), oA 24 (.alloc [.int .i64 0, .int .i64 0, .slice none 0 0]), ⟨none, none, .store false 3 (oO 24) (oO 336), false⟩]) (oK [1, 2, 5, 24] (oS (oS (oR [oA 337 (.load true 3 (oO 24)), oA 338 (.call (.func 31) [(oO 337)]), oA 339 (.bin .neq 3 (oO 338) (oN 0))]) (oK [1, 2, 5, 24, 339] (.cond (oO 339) (oS (oR [oA 4 (.mv (.const (.bool true)))]) (oK [4] (.ret))) (.skip)))) (oK [1, 2, 5, 24] (.cut c3k4)))))))))
def c3k6 : AC := oS (oR [oM 268 16, oA 269 (.call (.func 25) [(oO 268)]), oA 270 (.call (.func 28) [(oO 269)]), oM 267 270, oA 271 (.extr (oO 267) 0), oA 272 (.extr (oO 267) 1), oM 19 271, oM 20 272]) (oK [1, 2, 5, 10, 17, 19, 20] (oS (oS (oR [oM 273 20, oA 274 (.bin .neq 41 (oO 273) (oN 0)), oM 275 274, oG 276 275 false (.mv (oO 19)), oG 277 275 false (.len false (oO 276)), oG 278 275 false (.mv (oO 10)), oG 279 275 false (.len false (oO 278)), oG 280 275 false (.bin .neq 3 (oO 277) (oO 279)), oA 281 (.pick (oO 275) (.const (.bool true)) (oO 280))]) (oK [1, 2, 5, 17, 19, 281] (.cond (oO 281) (oS (oR [oA 4 (.mv (.const (.bool false)))]) (oK [4] (.ret))) (.skip)))) (oK [1, 2, 5, 17, 19] (.cut c3k5))))
def c3k7 : AC := oS (oR [oA 217 (.faddr 10 (oO 2)), oA 218 (.load false 1 (oO 217)), oA 219 (.call (.func 25) [(oO 218)]), oM 220 12, oA 221 (.call (.func 25) [(oO 220)]), oA 222 (.call (.func 24) [(oO 219), (oO 221)]), oM 216 222, oA 223 (.extr (oO 216) 0), oA 224 (.extr (oO 216) 1), oM 14 223, oM 15 224]) (oK [1, 2, 5, 10, 12, 14, 15] (oS (oS (oR [oM 225 15, oA 226 (.bin .neq 41 (oO 225) (oN 0)), oM 227 226, oG 228 227 false (.mv (oO 14)), oG 229 227 false (.call (.func 23) [(oO 228)]), oG 230 227 false (.bin .neq 3 (oO 229) (oN 0)), oA 231 (.pick (oO 227) (.const (.bool true)) (oO 230))]) (oK [1, 2, 5, 10, 12, 14, 15, 231] (.cond (oO 231) (oS (oR [oM 232 15, oA 233 (.bin .eql 41 (oO 232) (oN 8)), oM 4 233]) (oK [4] (.ret))) (.skip)))) (oK [1, 2, 5, 10, 12, 14] (oS (oR [oA 235 (.faddr 10 (oO 2)), oA 236 (.load false 1 (oO 235)), oA 237 (.call (.func 25) [(oO 236)]), oM 238 14, oA 239 (.call (.func 25) [(oO 238)]), oA 240 (.call (.func 26) [(oO 237), (oO 239)]), oM 234 240, oA 241 (.extr (oO 234) 0), oA 242 (.extr (oO 234) 1), oA 243 (.extr (oO 234) 2), oM 16 241, oM 17 242, oM 18 243]) (oK [1, 2, 5, 10, 12, 16, 17, 18] (oS (oS (oR [oM 244 18, oA 245 (.bin .neq 41 (oO 244) (oN 0))]) (oK [1, 2, 5, 10, 12, 16, 17, 18, 245] (.cond (oO 245) (oS (oR [oM 246 18, oA 247 (.bin .eql 41 (oO 246) (oN 27)), oM 248 247, oG 249 248 false (.mv (oO 18)), oG 250 248 false (.bin .eql 41 (oO 249) (oN 8)), oA 251 (.pick (oO 248) (.const (.bool true)) (oO 250)), oM 4 251]) (oK [4] (.ret))) (.skip)))) (oK [1, 2, 5, 10, 12, 16, 17] (oS (oS (oR [oM 252 16, oA 253 (.call (.func 23) [(oO 252)]), oA 254 (.bin .neq 3 (oO 253) (oN 0)), oM 255 254, oG 256 255 false (.mv (oO 16)), oG 257 255 false (.len false (oO 256)), oG 258 255 false (.mv (oO 12)), oG 259 255 false (.len false (oO 258)), oG 260 255 false (.bin .neq 3 (oO 257) (oO 259)), oA 261 (.pick (oO 255) (.const (.bool true)) (oO 260)), oM 262 261, oG 263 262 false (.mv (oO 17)), oG 264 262 false (.call (.func 27) [(oO 263), (oN 1), (oN 10000000)]), oG 265 262 false (.un .not (oO 264)), oA 266 (.pick (oO 262) (.const (.bool true)) (oO 265))]) (oK [1, 2, 5, 10, 16, 17, 266] (.cond (oO 266) (oS (oR [oA 4 (.mv (.const (.bool false)))]) (oK [4] (.ret))) (.skip)))) (oK [1, 2, 5, 10, 16, 17] (.cut c3k6))))))))))
def c3k8 : AC := oS (oQ [oA 121 (.load true 5 (oO 5)), oA 122 (.call (.func 13) [(oO 121)]), oM 123 1, oA 124 (.call (.func 14) [(oO 123)]), oA 125 (.faddr 5 (oO 2)), oA 126 (.load false 1 (oO 125)), oT 127 (.call (.func 12) [(oO 122), (oO 124), (oO 126)]), oT 120 (.mv (oO 127)), oA 128 (.extr (oO 120) 0), oA 129 (.extr (oO 120) 1), oM 6 128, oT 7 (.mv (oO 129))]) (oK [1, 2, 5, 6, 7] (oS (oS (oR [oM 130 7, oA 131 (.bin .neq 41 (oO 130) (oN 0)), oM 132 131, oG 133 132 false (.mv (oO 6)), oG 134 132 false (.call (.func 15) [(oO 133)]), oG 135 132 false (.bin .neq 3 (oO 134) (oN 0)), oA 136 (.pick (oO 132) (.const (.bool true)) (oO 135)), oM 137 136, oG 138 137 false (.mv (oO 6)), oG 139 137 false (.len false (oO 138)), oG 140 137 false (.faddr 4 (oO 5)), oG 141 137 false (.load false 1 (oO 140)), oG 142 137 false (.bin .neq 3 (oO 139) (oO 141)), oA 143 (.pick (oO 137) (.const (.bool true)) (oO 142))]) (oK [1, 2, 5, 6, 143] (.cond (oO 143) (oS (oR [oA 4 (.mv (.const (.bool false)))]) (oK [4] (.ret))) (.skip)))) (oK [1, 2, 5, 6] (oS (oR [oA 145 (.faddr 6 (oO 2)), oA 146 (.load true 3 (oO 145)), oA 147 (.call (.func 17) [(oO 146)]), oM 148 6, oA 149 (.call (.func 14) [(oO 148)]), oA 150 (.call (.func 16) [(oO 147), (oO 149)]), oM 144 150, oA 151 (.extr (oO 144) 0), oA 152 (.extr (oO 144) 1), oM 8 151, oM 9 152]) (oK [1, 2, 5, 8, 9] (oS (oS (oR [oM 153 9, oA 154 (.bin .neq 41 (oO 153) (oN 0)), oM 155 154, oG 156 155 false (.mv (oO 8)), oG 157 155 false (.call (.func 18) [(oO 156)]), oG 158 155 false (.bin .neq 3 (oO 157) (oN 0)), oA 159 (.pick (oO 155) (.const (.bool true)) (oO 158)), oM 160 159, oG 161 160 false (.mv (oO 8)), oG 162 160 false (.len false (oO 161)), oG 163 160 false (.faddr 4 (oO 5)), oG 164 160 false (.load false 1 (oO 163)), oG 165 160 false (.bin .neq 3 (oO 162) (oO 164)), oA 166 (.pick (oO 160) (.const (.bool true)) (oO 165))]) (oK [1, 2, 5, 8, 166] (.cond (oO 166) (oS (oR [oA 4 (.mv (.const (.bool false)))]) (oK [4] (.ret))) (.skip)))) (oK [1, 2, 5, 8] (oS (oQ [oA 168 (.faddr 9 (oO 2)), oA 169 (.load false 1 (oO 168)), oM 170 8, oA 171 (.call (.func 14) [(oO 170)]), oT 172 (.call (.func 19) [(oO 169), (oO 171)]), oT 167 (.mv (oO 172)), oA 173 (.extr (oO 167) 0), oA 174 (.extr (oO 167) 1), oM 10 173, oT 11 (.mv (oO 174))]) (oK [1, 2, 5, 10, 11] (oS (oS (oR [oM 175 11, oA 176 (.bin .neq 41 (oO 175) (oN 0)), oM 177 176, oG 178 177 false (.mv (oO 10)), oG 179 177 false (.call (.func 20) [(oO 178)]), oG 180 177 false (.bin .neq 3 (oO 179) (oN 0)), oA 181 (.pick (oO 177) (.const (.bool true)) (oO 180)), oM 182 181, oG 183 182 false (.mv (oO 10)), oG 184 182 false (.len false (oO 183)), oG 185 182 false (.faddr 4 (oO 5)), oG 186 182 false (.load false 1 (oO 185)), oG 187 182 false (.faddr 9 (oO 2)), oG 188 182 false (.load false 1 (oO 187)), oG 189 182 false (.bin .quo 3 (oO 186) (oO 188)), oG 190 182 false (.bin .neq 3 (oO 184) (oO 189)), oA 191 (.pick (oO 182) (.const (.bool true)) (oO 190))]) (oK [1, 2, 5, 10, 191] (.cond (oO 191) (oS (oR [oA 4 (.mv (.const (.bool false)))]) (oK [4] (.ret))) (.skip)))) (oK [1, 2, 5, 10] (oS (oQ [oA 193 (.faddr 10 (oO 2)), oA 194 (.load false 1 (oO 193)), oA 195 (.len false (oO 194)), oM 196 10, oA 197 (.call (.func 22) [(oO 196)]), oT 198 (.call (.func 21) [(oO 195), (oO 197)]), oT 192 (.mv (oO 198)), oA 199 (.extr (oO 192) 0), oA 200 (.extr (oO 192) 1), oM 12 199, oT 13 (.mv (oO 200))]) (oK [1, 2, 5, 10, 12, 13] (oS (oS (oR [oM 201 13, oA 202 (.bin .neq 41 (oO 201) (oN 0)), oM 203 202, oG 204 203 false (.mv (oO 12)), oG 205 203 false (.call (.func 23) [(oO 204)]), oG 206 203 false (.bin .neq 3 (oO 205) (oN 0)), oA 207 (.pick (oO 203) (.const (.bool true)) (oO 206)), oM 208 207, oG 209 208 false (.mv (oO 12)), oG 210 208 false (.len false (oO 209)), oG 211 208 false (.faddr 10 (oO 2)), oG 212 208 false (.load false 1 (oO 211)), oG 213 208 false (.len false (oO 212)), oG 214 208 false (.bin .neq 3 (oO 210) (oO 213)), oA 215 (.pick (oO 208) (.const (.bool true)) (oO 214))]) (oK [1, 2, 5, 10, 12, 215] (.cond (oO 215) (oS (oR [oA 4 (.mv (.const (.bool false)))]) (oK [4] (.ret))) (.skip)))) (oK [1, 2, 5, 10, 12] (.cut c3k7))))))))))))))))
def c3 : AC := oS (oR [oA 2 (.box (oO 0)), oA 4 (.mv (.const (.bool false)))]) (oK [1, 2] (oS (oS (oR [oA 35 (.call (.func 4) []), oA 36 (.un .not (oO 35)), oM 37 36, oG 38 37 false (.call (.func 5) []), oG 39 37 false (.un .not (oO 38)), oA 40 (.pick (oO 37) (.const (.bool true)) (oO 39))]) (oK [1, 2, 40] (.cond (oO 40) (oS (oR [oA 4 (.mv (.const (.bool false)))]) (oK [4] (.ret))) (.skip)))) (oK [1, 2] (oS (oR [oA 41 (.faddr 0 (oO 2)), oA 42 (.load true 5 (oO 41)), oA 5 (.alloc [.int .i64 0, .int .i64 0, .int .i64 0, .slice none 0 0, .int .i64 0]), ⟨none, none, .store false 5 (oO 5) (oO 42), false⟩]) (oK [1, 2, 5] (oS (oS (oQ [oA 43 (.load true 5 (oO 5)), oM 44 1, oT 45 (.call (.func 6) [(oO 43), (oO 44)]), oT 46 (.un .not (oO 45)), oT 47 (.mv (oO 46)), oG 48 47 false (.faddr 4 (oO 5)), oG 49 47 false (.load false 1 (oO 48)), oG 50 47 false (.faddr 2 (oO 5)), oG 51 47 false (.load true 2 (oO 50)), oG 52 47 false (.call (.func 7) [(oO 51)]), ⟨some 53, some (47, false), .bin .lss 3 (oO 49) (oO 52), true⟩, oT 54 (.pick (oO 47) (.const (.bool true)) (oO 53)), oT 55 (.mv (oO 54)), ⟨some 56, some (55, false), .faddr 5 (oO 2), true⟩, ⟨some 57, some (55, false), .load false 1 (oO 56), true⟩, ⟨some 58, some (55, false), .call (.func 8) [(oO 57)], true⟩, ⟨some 59, some (55, false), .bin .neq 3 (oO 58) (oN 0), true⟩, oT 60 (.pick (oO 55) (.const (.bool true)) (oO 59)), oT 61 (.mv (oO 60)), ⟨some 62, some (61, false), .faddr 6 (oO 2), true⟩, ⟨some 63, some (61, false), .faddr 1 (oO 62), true⟩, ⟨some 64, some (61, false), .load false 1 (oO 63), true⟩, ⟨some 65, some (61, false), .len false (oO 64), true⟩, ⟨some 66, some (61, false), .bin .gtr 3 (oO 65) (oN 12), true⟩, oT 67 (.pick (oO 61) (.const (.bool true)) (oO 66)), oT 68 (.mv (oO 67)), ⟨some 69, some (68, false), .faddr 6 (oO 2), true⟩, ⟨some 70, some (68, false), .faddr 2 (oO 69), true⟩, ⟨some 71, some (68, false), .load false 1 (oO 70), true⟩, ⟨some 72, some (68, false), .len false (oO 71), true⟩, ⟨some 73, some (68, false), .bin .gtr 3 (oO 72) (oN 12), true⟩, oT 74 (.pick (oO 68) (.const (.bool true)) (oO 73)), oT 75 (.mv (oO 74)), ⟨some 76, some (75, false), .faddr 6 (oO 2), true⟩, ⟨some 77, some (75, false), .load true 3 (oO 76), true⟩, ⟨some 78, some (75, false), .call (.func 9) [(oO 77)], true⟩, ⟨some 79, some (75, false), .bin .neq 3 (oO 78) (oN 0), true⟩, oT 80 (.pick (oO 75) (.const (.bool true)) (oO 79)), oT 81 (.mv (oO 80)), ⟨some 82, some (81, false), .faddr 9 (oO 2), true⟩, ⟨some 83, some (81, false), .load false 1 (oO 82), true⟩, ⟨some 84, some (81, false), .call (.func 10) [(oO 83)], true⟩, ⟨some 85, some (81, false), .bin .neq 3 (oO 84) (oN 0), true⟩, oT 86 (.pick (oO 81) (.const (.bool true)) (oO 85))]) (oK [1, 2, 5, 86] (.cond (oO 86) (oS (oR [oA 4 (.mv (.const (.bool true)))]) (oK [4] (.ret))) (.skip)))) (oK [1, 2, 5] (oS (oS (oQ [oT 87 (.faddr 10 (oO 2)), oT 88 (.load false 1 (oO 87)), oT 89 (.len false (oO 88)), oT 90 (.bin .gtr 3 (oO 89) (oN 2)), oT 91 (.mv (oO 90)), ⟨some 92, some (91, false), .faddr 10 (oO 2), true⟩, ⟨some 93, some (91, false), .load false 1 (oO 92), true⟩, ⟨some 94, some (91, false), .call (.func 11) [(oO 93)], true⟩, ⟨some 95, some (91, false), .bin .neq 3 (oO 94) (oN 0), true⟩, oT 96 (.pick (oO 91) (.const (.bool true)) (oO 95)), oT 97 (.mv (oO 96)), oG 98 97 false (.faddr 10 (oO 2)), oG 99 97 false (.load false 1 (oO 98)), oG 100 97 false (.len false (oO 99)), oG 101 97 false (.faddr 10 (oO 2)), oG 102 97 false (.load false 1 (oO 101)), oG 103 97 false (.iaddr 1 [.slice none 0 0] (oO 102) (oN 0)), oG 104 97 false (.load false 1 (oO 103)), oG 105 97 false (.len false (oO 104)), ⟨some 106, some (97, false), .bin .neq 3 (oO 100) (oO 105), true⟩, oT 107 (.pick (oO 97) (.const (.bool true)) (oO 106)), oT 108 (.mv (oO 107)), oG 109 108 false (.faddr 4 (oO 5)), oG 110 108 false (.load false 1 (oO 109)), oG 111 108 false (.faddr 9 (oO 2)), oG 112 108 false (.load false 1 (oO 111)), oG 113 108 false (.faddr 10 (oO 2)), oG 114 108 false (.load false 1 (oO 113)), oG 115 108 false (.len false (oO 114)), oG 116 108 false (.bin .mul 3 (oO 112) (oO 115)), ⟨some 117, some (108, false), .bin .rem 3 (oO 110) (oO 116), true⟩, ⟨some 118, some (108, false), .bin .neq 3 (oO 117) (oN 0), true⟩, oT 119 (.pick (oO 108) (.const (.bool true)) (oO 118))]) (oK [1, 2, 5, 119] (.cond (oO 119) (oS (oR [oA 4 (.mv (.const (.bool true)))]) (oK [4] (.ret))) (.skip)))) (oK [1, 2, 5] (.cut c3k8))))))))))
def rv3 : List RV := [.tmp 4]
theorem is3 : FnIs Tryz.prog 3 433 c3 rv3 := ⟨⟨Tryz.f3, _, Tryz.func3, by kernel_rfl, rfl, rfl, by kernel_rfl, by kernel_rfl⟩, by decide⟩
end Go.Proofs.YteoobfmbipmibaaGreat.D
end
section
open Go Go.Am
open Go.Am.Dat (cells)
namespace Go.Proofs.YteoobfmbipmibaaGreat
set_option maxHeartbeats 400000
theorem yv (n lo hi : Int) : FC Tryz.prog 65 [enc n, enc lo, enc hi] [] (enc (decide (lo ≤ n ∧ n ≤ hi))) [] := by
 refine dk is65 (by simp) (fun cx hl => dj [] 800 ?_)
 delta c65 oO oN oA oM oT oG oR oQ oS oK
 simp (maxSteps := 4000000) -implicitDefEqProofs only [rv65, Ent.of0, Ent.of1, Ent.of2, Ent.of3, V, W3, ↓reduceIte, Nat.reduceAdd, Nat.reduceSub, Nat.reduceMul, Nat.reduceEqDiff, Nat.reduceLT, Nat.reduceLeDiff, reduceCtorEq, Int.reduceToNat, Nat.reduceBEq]
 by_cases h : lo ≤ n <;> simp [h]
def fR : Ent Tryz.prog := .of3 65 (fun _ _ _ => True) (fun n lo hi : Int => enc (decide (lo ≤ n ∧ n ≤ hi))) (fun _ _ _ => trivial) (fun n lo hi _ => yv n lo hi)
theorem y8 (n lo hi : Int) : FC Tryz.prog 27 [enc n, enc lo, enc hi] [] (enc (decide (lo ≤ n ∧ n ≤ hi))) [] := by
 refine dk is27 (by simp) (fun cx hl => dj [] 800 ?_)
 delta c27 oO oN oA oM oT oG oR oQ oS oK
 simp (maxSteps := 4000000) -implicitDefEqProofs only [rv27, Ent.of0, Ent.of1, Ent.of2, Ent.of3, V, W3, ↓reduceIte, Nat.reduceAdd, Nat.reduceSub, Nat.reduceMul, Nat.reduceEqDiff, Nat.reduceLT, Nat.reduceLeDiff, reduceCtorEq, Int.reduceToNat, Nat.reduceBEq]
 by_cases h : lo ≤ n <;> simp [h]
def dJ : Ent Tryz.prog := .of3 27 (fun _ _ _ => True) (fun n lo hi : Int => enc (decide (lo ≤ n ∧ n ≤ hi))) (fun _ _ _ => trivial) (fun n lo hi _ => y8 n lo hi)
theorem zF (b : Bool) (e : Int) : FC Tryz.prog 69 [enc b, enc e] [] (enc (if b then 0 else e)) [] := by
 refine dk is69 (by simp) (fun cx hl => dj [] 800 ?_)
 delta c69 oO oN oA oM oT oG oR oQ oS oK
 simp (maxSteps := 4000000) -implicitDefEqProofs only [rv69, Ent.of0, Ent.of1, Ent.of2, Ent.of3, V, W3, ↓reduceIte, Nat.reduceAdd, Nat.reduceSub, Nat.reduceMul, Nat.reduceEqDiff, Nat.reduceLT, Nat.reduceLeDiff, reduceCtorEq, Int.reduceToNat, Nat.reduceBEq]
 cases b <;> simp
def ew : Ent Tryz.prog := .of2 69 (fun _ _ => True) (fun (b : Bool) (e : Int) => enc (if b then 0 else e)) (fun _ _ => trivial) (fun b e _ => zF b e)
theorem small_c (n most : Int) (h : InR .i64 (-most)) : FC Tryz.prog 108 [enc n, enc most] [] (enc (decide (-most ≤ n ∧ n ≤ most))) [] := by
 refine dk is108 (by simp) (fun cx hl => dj [fR] 800 ?_)
 delta c108 oO oN oA oM oT oG oR oQ oS oK
 simp (maxSteps := 4000000) -implicitDefEqProofs only [rv108, fR, h, Ent.of0, Ent.of1, Ent.of2, Ent.of3, V, W3, ↓reduceIte, Nat.reduceAdd, Nat.reduceSub, Nat.reduceMul, Nat.reduceEqDiff, Nat.reduceLT, Nat.reduceLeDiff, reduceCtorEq, Int.reduceToNat, Nat.reduceBEq]
def xE : Ent Tryz.prog := .of2 108 (fun _ most => InR .i64 (-most)) (fun n most : Int => enc (decide (-most ≤ n ∧ n ≤ most))) (fun _ _ => trivial) (fun n most h => small_c n most h)
def dl : List Int → Int
 | [] => 0
 | e :: l => if e ≠ 0 then e else dl l
theorem first_c (l : List Int) : FC Tryz.prog 56 [enc l] [] (enc (dl l)) [] := by
 refine dk is56 (by simp) (fun cx hl => dj [] 800 ?_)
 simp only [V, W3, ↓reduceIte, Nat.reduceAdd, Nat.reduceSub, Nat.reduceMul, Nat.reduceEqDiff, Nat.reduceLT, Nat.reduceLeDiff, reduceCtorEq, Int.reduceToNat, Nat.reduceBEq] at hl
 have hlen := hl.list
 delta c56 oO oN oA oM oT oG oR oQ oS oK
 simp (maxSteps := 4000000) -implicitDefEqProofs only [rv56, Ent.of0, Ent.of1, Ent.of2, Ent.of3, V, W3, ↓reduceIte, Nat.reduceAdd, Nat.reduceSub, Nat.reduceMul, Nat.reduceEqDiff, Nat.reduceLT, Nat.reduceLeDiff, reduceCtorEq, Int.reduceToNat, Nat.reduceBEq]
 refine hM l.length (fun i => ⟨[(5, enc l), (6, .s (.int .i64 l.length)), (7, .s (.int .i64 i))], []⟩) (fun i => dl l = dl (l.drop i)) rfl ?_ (fun i hi hv => dj [] 800 ?_)
 · simp only [V, W3, ↓reduceIte, Nat.reduceAdd, Nat.reduceSub, Nat.reduceMul, Nat.reduceEqDiff, Nat.reduceLT, Nat.reduceLeDiff, reduceCtorEq, Int.reduceToNat, Nat.reduceBEq]; simp
 · delta c56l1 oO oN oA oM oT oG oR oQ oS oK
   simp (maxSteps := 4000000) -implicitDefEqProofs only [Ent.of0, Ent.of1, Ent.of2, Ent.of3, V, W3, ↓reduceIte, Nat.reduceAdd, Nat.reduceSub, Nat.reduceMul, Nat.reduceEqDiff, Nat.reduceLT, Nat.reduceLeDiff, reduceCtorEq, Int.reduceToNat, Nat.reduceBEq]
   by_cases h : i < l.length
   · rw [dT 0 h, dl] at hv
     rw [if_pos (by omega)]
     refine ⟨by omega, ?_⟩
     split
     · rename_i hc; rw [hv, if_pos hc]
     · rename_i hc; exact ⟨by simp only [InR]; omega, h, by rw [hv, if_neg hc], by omega⟩
   · rw [if_neg (by omega), hv, List.drop_eq_nil_of_le (by omega)]; rfl
def dQ : Ent Tryz.prog := .of1 56 (fun _ => True) (fun l : List Int => enc (dl l)) (fun _ => trivial) (fun l _ => first_c l)
def dw (g : Gs) (most : Int) : Bool := decide (-most ≤ g.re ∧ g.re ≤ most) && decide (-most ≤ g.im ∧ g.im ≤ most)
theorem sZ (g : Gs) (most : Int) (h : InR .i64 (-most)) : FC Tryz.prog 68 [enc g, enc most] [] (enc (dw g most)) [] := by
 refine dk is68 (by simp) (fun cx hl => dj [xE] 800 ?_)
 delta c68 oO oN oA oM oT oG oR oQ oS oK
 simp (maxSteps := 4000000) -implicitDefEqProofs only [rv68, xE, h, Ent.of0, Ent.of1, Ent.of2, Ent.of3, V, W3, ↓reduceIte, Nat.reduceAdd, Nat.reduceSub, Nat.reduceMul, Nat.reduceEqDiff, Nat.reduceLT, Nat.reduceLeDiff, reduceCtorEq, Int.reduceToNat, Nat.reduceBEq]
 unfold dw
 by_cases h2 : (-most ≤ g.re ∧ g.re ≤ most) <;> simp [h2]
def jp : Ent Tryz.prog := .of2 68 (fun _ most => InR .i64 (-most)) (fun (g : Gs) (most : Int) => enc (dw g most)) (fun _ _ => trivial) (fun g most h => sZ g most h)
theorem sized_c (g : Gs) (most : Int) (h : InR .i64 (-most)) : FC Tryz.prog 45 [enc g, enc most] [] (enc (dw g most)) [] := by
 refine dk is45 (by simp) (fun cx hl => dj [dJ] 800 ?_)
 delta c45 oO oN oA oM oT oG oR oQ oS oK
 simp (maxSteps := 4000000) -implicitDefEqProofs only [rv45, dJ, h, Ent.of0, Ent.of1, Ent.of2, Ent.of3, V, W3, ↓reduceIte, Nat.reduceAdd, Nat.reduceSub, Nat.reduceMul, Nat.reduceEqDiff, Nat.reduceLT, Nat.reduceLeDiff, reduceCtorEq, Int.reduceToNat, Nat.reduceBEq]
 unfold dw
 by_cases h2 : (-most ≤ g.re ∧ g.re ≤ most) <;> simp [h2]
def rH : Ent Tryz.prog := .of2 45 (fun _ most => InR .i64 (-most)) (fun (g : Gs) (most : Int) => enc (dw g most)) (fun _ _ => trivial) (fun g most h => sized_c g most h)
theorem Ints_c (a b : List Int) : FC Tryz.prog 39 [enc a, enc b] [] (enc (decide (a = b))) [] := by
 refine dk is39 (by simp) (fun cx hl => dj [] 800 ?_)
 simp only [V, W3, ↓reduceIte, Nat.reduceAdd, Nat.reduceSub, Nat.reduceMul, Nat.reduceEqDiff, Nat.reduceLT, Nat.reduceLeDiff, reduceCtorEq, Int.reduceToNat, Nat.reduceBEq] at hl
 have hlen := hl.1.list
 delta c39 oO oN oA oM oT oG oR oQ oS oK
 simp (maxSteps := 4000000) -implicitDefEqProofs only [rv39, Ent.of0, Ent.of1, Ent.of2, Ent.of3, V, W3, ↓reduceIte, Nat.reduceAdd, Nat.reduceSub, Nat.reduceMul, Nat.reduceEqDiff, Nat.reduceLT, Nat.reduceLeDiff, reduceCtorEq, Int.reduceToNat, Nat.reduceBEq]
 by_cases hab : a.length = b.length
 · rw [if_neg (by simp [hab])]
   refine hM a.length (fun i => ⟨[(0, enc a), (1, enc b), (5, .s (.int .i64 i))], []⟩) (fun i => decide (a = b) = decide (a.drop i = b.drop i)) (by simp) ?_ (fun i hi hv => dj [] 800 ?_)
   · simp only [V, W3, ↓reduceIte, Nat.reduceAdd, Nat.reduceSub, Nat.reduceMul, Nat.reduceEqDiff, Nat.reduceLT, Nat.reduceLeDiff, reduceCtorEq, Int.reduceToNat, Nat.reduceBEq]; simp
   · delta c39l1 oO oN oA oM oT oG oR oQ oS oK
     simp (maxSteps := 4000000) -implicitDefEqProofs only [Ent.of0, Ent.of1, Ent.of2, Ent.of3, V, W3, ↓reduceIte, Nat.reduceAdd, Nat.reduceSub, Nat.reduceMul, Nat.reduceEqDiff, Nat.reduceLT, Nat.reduceLeDiff, reduceCtorEq, Int.reduceToNat, Nat.reduceBEq]
     by_cases h : i < a.length
     · rw [dT 0 h, dT 0 (by omega : i < b.length)] at hv
       rw [if_pos (by omega)]
       refine ⟨⟨by omega, by omega⟩, ⟨by omega, by omega⟩, ?_⟩
       simp only [InR]
       grind
     · rw [if_neg (by omega), hv, List.drop_eq_nil_of_le (by omega), List.drop_eq_nil_of_le (by omega)]; simp
 · rw [if_pos (by omega)]
   grind
def nX : Ent Tryz.prog := .of2 39 (fun _ _ => True) (fun a b : List Int => enc (decide (a = b))) (fun _ _ => trivial) (fun a b _ => Ints_c a b)
theorem xu (a b : List Gs) : FC Tryz.prog 42 [enc a, enc b] [] (enc (decide (a = b))) [] := by
 refine dk is42 (by simp) (fun cx hl => dj [] 800 ?_)
 simp only [V, W3, ↓reduceIte, Nat.reduceAdd, Nat.reduceSub, Nat.reduceMul, Nat.reduceEqDiff, Nat.reduceLT, Nat.reduceLeDiff, reduceCtorEq, Int.reduceToNat, Nat.reduceBEq] at hl
 have hlen := hl.1.list
 delta c42 oO oN oA oM oT oG oR oQ oS oK
 simp (maxSteps := 4000000) -implicitDefEqProofs only [rv42, Ent.of0, Ent.of1, Ent.of2, Ent.of3, V, W3, ↓reduceIte, Nat.reduceAdd, Nat.reduceSub, Nat.reduceMul, Nat.reduceEqDiff, Nat.reduceLT, Nat.reduceLeDiff, reduceCtorEq, Int.reduceToNat, Nat.reduceBEq]
 by_cases hab : a.length = b.length
 · rw [if_neg (by simp [hab])]
   refine hM a.length (fun i => ⟨[(0, enc a), (1, enc b), (5, .s (.int .i64 i))], []⟩) (fun i => decide (a = b) = decide (a.drop i = b.drop i)) (by simp) ?_ (fun i hi hv => dj [] 800 ?_)
   · simp only [V, W3, ↓reduceIte, Nat.reduceAdd, Nat.reduceSub, Nat.reduceMul, Nat.reduceEqDiff, Nat.reduceLT, Nat.reduceLeDiff, reduceCtorEq, Int.reduceToNat, Nat.reduceBEq]; simp
   · delta c42l1 oO oN oA oM oT oG oR oQ oS oK
     simp (maxSteps := 4000000) -implicitDefEqProofs only [InR, Ent.of0, Ent.of1, Ent.of2, Ent.of3, V, W3, ↓reduceIte, Nat.reduceAdd, Nat.reduceSub, Nat.reduceMul, Nat.reduceEqDiff, Nat.reduceLT, Nat.reduceLeDiff, reduceCtorEq, Int.reduceToNat, Nat.reduceBEq]
     by_cases h : i < a.length
     · rw [dT ⟨0, 0⟩ h, dT ⟨0, 0⟩ (by omega : i < b.length)] at hv
       have e : ∀ x y : Gs, x = y ↔ x.re = y.re ∧ x.im = y.im := fun x y => by cases x; cases y; simp
       grind
     · rw [if_neg (by omega), hv, List.drop_eq_nil_of_le (by omega), List.drop_eq_nil_of_le (by omega)]; simp
 · rw [if_pos (by omega)]
   grind
theorem we (l : List Int) : FC Tryz.prog 35 [enc l] [] (enc (l.all fun b => decide (b = 0 ∨ b = 1))) [] := by
 refine dk is35 (by simp) (fun cx hl => dj [] 800 ?_)
 simp only [V, W3, ↓reduceIte, Nat.reduceAdd, Nat.reduceSub, Nat.reduceMul, Nat.reduceEqDiff, Nat.reduceLT, Nat.reduceLeDiff, reduceCtorEq, Int.reduceToNat, Nat.reduceBEq] at hl
 have hlen := hl.list
 delta c35 oO oN oA oM oT oG oR oQ oS oK
 simp (maxSteps := 4000000) -implicitDefEqProofs only [rv35, Ent.of0, Ent.of1, Ent.of2, Ent.of3, V, W3, ↓reduceIte, Nat.reduceAdd, Nat.reduceSub, Nat.reduceMul, Nat.reduceEqDiff, Nat.reduceLT, Nat.reduceLeDiff, reduceCtorEq, Int.reduceToNat, Nat.reduceBEq]
 refine hM l.length (fun i => ⟨[(0, enc l), (3, .s (.int .i64 i))], []⟩) (fun i => (l.all fun b => decide (b = 0 ∨ b = 1)) = (l.drop i).all fun b => decide (b = 0 ∨ b = 1)) rfl ?_ (fun i hi hv => dj [] 800 ?_)
 · simp only [V, W3, ↓reduceIte, Nat.reduceAdd, Nat.reduceSub, Nat.reduceMul, Nat.reduceEqDiff, Nat.reduceLT, Nat.reduceLeDiff, reduceCtorEq, Int.reduceToNat, Nat.reduceBEq]; simp
 · delta c35l1 oO oN oA oM oT oG oR oQ oS oK
   simp (maxSteps := 4000000) -implicitDefEqProofs only [InR, Ent.of0, Ent.of1, Ent.of2, Ent.of3, V, W3, ↓reduceIte, Nat.reduceAdd, Nat.reduceSub, Nat.reduceMul, Nat.reduceEqDiff, Nat.reduceLT, Nat.reduceLeDiff, reduceCtorEq, Int.reduceToNat, Nat.reduceBEq]
   by_cases h : i < l.length
   · rw [dT 0 h, List.all_cons] at hv
     grind
   · rw [if_neg (by omega), hv, List.drop_eq_nil_of_le (by omega)]; rfl
def ent42 : Ent Tryz.prog := .of2 42 (fun _ _ => True) (fun a b : List Gs => enc (decide (a = b))) (fun _ _ => trivial) (fun a b _ => xu a b)
def iX : Ent Tryz.prog := .of1 35 (fun _ => True) (fun l : List Int => enc (l.all fun b => decide (b = 0 ∨ b = 1))) (fun _ => trivial) (fun l _ => we l)
end Go.Proofs.YteoobfmbipmibaaGreat
end
section
open Go Go.Am
open Go.Am.Dat (cells)
namespace Go.Proofs.YteoobfmbipmibaaGreat
set_option maxHeartbeats 1000000
def eb (l : List Int) : Int := if l.length = 0 then 10 else if l.length > 400 then 8 else if l.all (fun b => decide (b = 0 ∨ b = 1)) then 0 else 15
theorem wQ (l : List Int) : FC Tryz.prog 18 [enc l] [] (enc (eb l)) [] := by
 refine dk is18 (by simp) (fun cx hl => dj [iX] 800 ?_)
 delta c18 oO oN oA oM oT oG oR oQ oS oK
 simp (maxSteps := 4000000) -implicitDefEqProofs only [rv18, iX, Ent.of0, Ent.of1, Ent.of2, Ent.of3, V, W3, ↓reduceIte, Nat.reduceAdd, Nat.reduceSub, Nat.reduceMul, Nat.reduceEqDiff, Nat.reduceLT, Nat.reduceLeDiff, reduceCtorEq, Int.reduceToNat, Nat.reduceBEq]
 unfold eb
 grind
def ent18 : Ent Tryz.prog := .of1 18 (fun _ => True) (fun l : List Int => enc (eb l)) (fun _ => trivial) (fun l _ => wQ l)
def tO (m : List (List Gs)) : Bool := decide (m.length ≤ 5) && m.all fun r => decide (r.length ≤ 8)
theorem vx (l : List Int) (h : l.length ≤ 1000000) : FC Tryz.prog 14 [enc l] [] (enc l) [] := by
 refine dk is14 (by simp) (fun cx hl => dj [] 800 ?_)
 delta c14 oO oN oA oM oT oG oR oQ oS oK
 simp (maxSteps := 4000000) -implicitDefEqProofs only [rv14, Ent.of0, Ent.of1, Ent.of2, Ent.of3, V, W3, ↓reduceIte, Nat.reduceAdd, Nat.reduceSub, Nat.reduceMul, Nat.reduceEqDiff, Nat.reduceLT, Nat.reduceLeDiff, reduceCtorEq, Int.reduceToNat, Nat.reduceBEq]
 omega
def nI : Ent Tryz.prog := .of1 14 (fun l => l.length ≤ 1000000) (fun l : List Int => enc l) (fun _ => trivial) (fun l h => vx l h)
theorem ru (l : List Gs) (h : l.length ≤ 1000000) : FC Tryz.prog 22 [enc l] [] (enc l) [] := by
 refine dk is22 (by simp) (fun cx hl => dj [] 800 ?_)
 delta c22 oO oN oA oM oT oG oR oQ oS oK
 simp (maxSteps := 4000000) -implicitDefEqProofs only [rv22, Ent.of0, Ent.of1, Ent.of2, Ent.of3, V, W3, ↓reduceIte, Nat.reduceAdd, Nat.reduceSub, Nat.reduceMul, Nat.reduceEqDiff, Nat.reduceLT, Nat.reduceLeDiff, reduceCtorEq, Int.reduceToNat, Nat.reduceBEq]
 omega
def nV : Ent Tryz.prog := .of1 22 (fun l => l.length ≤ 1000000) (fun l : List Gs => enc l) (fun _ => trivial) (fun l h => ru l h)
def gi (m : List (List Gs)) : Prop := m.length ≤ 1000000 ∧ ∀ r ∈ m, r.length ≤ 1000000
theorem wF (m : List (List Gs)) (hb : gi m) : FC Tryz.prog 25 [enc m] [] (enc m) [] := by
 refine dk is25 (by simp) (fun cx hl => dj [] 800 ?_)
 delta c25 oO oN oA oM oT oG oR oQ oS oK
 simp (maxSteps := 4000000) -implicitDefEqProofs only [rv25, Ent.of0, Ent.of1, Ent.of2, Ent.of3, V, W3, ↓reduceIte, Nat.reduceAdd, Nat.reduceSub, Nat.reduceMul, Nat.reduceEqDiff, Nat.reduceLT, Nat.reduceLeDiff, reduceCtorEq, Int.reduceToNat, Nat.reduceBEq]
 refine hM m.length (fun i => ⟨[(0, enc m), (3, .own 3), (4, .s (.int .i64 i))], [(3, .row 1 32 ((m.take i).map cells))]⟩) (fun i => True) trivial ?_ (fun i hi hv => dj [nV] 800 ?_)
 · simp (maxSteps := 4000000) -implicitDefEqProofs only [Ent.of0, Ent.of1, Ent.of2, Ent.of3, V, W3, ↓reduceIte, Nat.reduceAdd, Nat.reduceSub, Nat.reduceMul, Nat.reduceEqDiff, Nat.reduceLT, Nat.reduceLeDiff, reduceCtorEq, Int.reduceToNat, Nat.reduceBEq]; simp
 · have h1 := hb.1
   by_cases h : i < m.length
   · have h2 := hb.2 _ (List.getElem_mem h)
     delta c25l1 oO oN oA oM oT oG oR oQ oS oK
     simp (maxSteps := 4000000) -implicitDefEqProofs only [rv25, dM, h, nV, List.length_take, InR, eL [] h, List.map_append, Ent.of0, Ent.of1, Ent.of2, Ent.of3, V, W3, ↓reduceIte, Nat.reduceAdd, Nat.reduceSub, Nat.reduceMul, Nat.reduceEqDiff, Nat.reduceLT, Nat.reduceLeDiff, reduceCtorEq, Int.reduceToNat, Nat.reduceBEq]
     simp [h]
     omega
   · have : i = m.length := by omega
     subst this
     delta c25l1 oO oN oA oM oT oG oR oQ oS oK
     simp (maxSteps := 4000000) -implicitDefEqProofs only [rv25, Ent.of0, Ent.of1, Ent.of2, Ent.of3, V, W3, ↓reduceIte, Nat.reduceAdd, Nat.reduceSub, Nat.reduceMul, Nat.reduceEqDiff, Nat.reduceLT, Nat.reduceLeDiff, reduceCtorEq, Int.reduceToNat, Nat.reduceBEq]
     simp
def kC : Ent Tryz.prog := .of1 25 gi (fun m : List (List Gs) => enc m) (fun _ => trivial) (fun m h => wF m h)
end Go.Proofs.YteoobfmbipmibaaGreat
end
section
open Go Go.Am
open Go.Am.Dat (cells)
namespace Go.Proofs.YteoobfmbipmibaaGreat
set_option maxHeartbeats 1000000
def d8 (l : List Gs) : Int := if l.length = 0 then 10 else if l.length > 200 then 8 else if l.all (dw · 100000000) then 0 else 2
theorem tL (l : List Gs) : FC Tryz.prog 20 [enc l] [] (enc (d8 l)) [] := by
 refine dk is20 (by simp) (fun cx hl => dj [] 800 ?_)
 simp only [V, W3, ↓reduceIte, Nat.reduceAdd, Nat.reduceSub, Nat.reduceMul, Nat.reduceEqDiff, Nat.reduceLT, Nat.reduceLeDiff, reduceCtorEq, Int.reduceToNat, Nat.reduceBEq] at hl
 have hlen := hl.list
 delta c20 oO oN oA oM oT oG oR oQ oS oK
 simp (maxSteps := 4000000) -implicitDefEqProofs only [rv20, Ent.of0, Ent.of1, Ent.of2, Ent.of3, V, W3, ↓reduceIte, Nat.reduceAdd, Nat.reduceSub, Nat.reduceMul, Nat.reduceEqDiff, Nat.reduceLT, Nat.reduceLeDiff, reduceCtorEq, Int.reduceToNat, Nat.reduceBEq]
 unfold d8
 by_cases h0 : l.length = 0
 · simp [h0]
 by_cases h1 : l.length > 200
 · simp [h0, h1]; omega
 rw [if_neg (by omega), if_neg (by omega), if_neg h0, if_neg h1]
 refine hM l.length (fun i => ⟨[(0, enc l), (3, .s (.int .i64 i))], []⟩) (fun i => l.all (dw · 100000000) = (l.drop i).all (dw · 100000000)) (by simp) ?_ (fun i hi hv => dj [rH] 800 ?_)
 · simp (maxSteps := 4000000) -implicitDefEqProofs only [Ent.of0, Ent.of1, Ent.of2, Ent.of3, V, W3, ↓reduceIte, Nat.reduceAdd, Nat.reduceSub, Nat.reduceMul, Nat.reduceEqDiff, Nat.reduceLT, Nat.reduceLeDiff, reduceCtorEq, Int.reduceToNat, Nat.reduceBEq]; simp
 · delta c20l1 oO oN oA oM oT oG oR oQ oS oK
   simp (maxSteps := 4000000) -implicitDefEqProofs only [rH, InR, Ent.of0, Ent.of1, Ent.of2, Ent.of3, V, W3, ↓reduceIte, Nat.reduceAdd, Nat.reduceSub, Nat.reduceMul, Nat.reduceEqDiff, Nat.reduceLT, Nat.reduceLeDiff, reduceCtorEq, Int.reduceToNat, Nat.reduceBEq]
   by_cases h : i < l.length
   · rw [dT ⟨0, 0⟩ h, List.all_cons] at hv
     grind
   · rw [List.drop_eq_nil_of_le (by omega)] at hv
     grind
def lx : Ent Tryz.prog := .of1 20 (fun _ => True) (fun l : List Gs => enc (d8 l)) (fun _ => trivial) (fun l _ => tL l)
def jF (l : List Gs) (p : Gs → Bool) : Int := match l.findIdx? p with | some i => (i : Int) | none => -1
theorem tP (f : FuncId) (p : Gs → Bool) (hf : ∀ g, FC Tryz.prog f [enc g] [] (enc (p g)) []) (l : List Gs) : FC Tryz.prog 107 [enc l, .fn (.func f) [] []] [] (enc (jF l p)) [] := by
 refine dk is107 (by simp) (fun cx hl => dj [] 800 ?_)
 simp only [V, W3, ↓reduceIte, Nat.reduceAdd, Nat.reduceSub, Nat.reduceMul, Nat.reduceEqDiff, Nat.reduceLT, Nat.reduceLeDiff, reduceCtorEq, Int.reduceToNat, Nat.reduceBEq] at hl
 have hlen := hl.list
 delta c107 oO oN oA oM oT oG oR oQ oS oK
 simp (maxSteps := 4000000) -implicitDefEqProofs only [n8, Ent.of0, Ent.of1, Ent.of2, Ent.of3, V, W3, ↓reduceIte, Nat.reduceAdd, Nat.reduceSub, Nat.reduceMul, Nat.reduceEqDiff, Nat.reduceLT, Nat.reduceLeDiff, reduceCtorEq, Int.reduceToNat, Nat.reduceBEq]
 refine hM l.length (fun i => ⟨[(0, enc l), (1, .fn (.func f) [] []), (7, .s (.int .i64 l.length)), (8, .s (.int .i64 i))], []⟩) (fun i => ∀ j, j < i → p (l.getD j ⟨0, 0⟩) = false) (by omega) ?_
  (fun i hi hv => dj [.of1 f (fun _ => True) (fun g => enc (p g)) (fun _ => trivial) (fun g _ => hf g)] 800 ?_)
 · simp (maxSteps := 4000000) -implicitDefEqProofs only [Ent.of0, Ent.of1, Ent.of2, Ent.of3, V, W3, ↓reduceIte, Nat.reduceAdd, Nat.reduceSub, Nat.reduceMul, Nat.reduceEqDiff, Nat.reduceLT, Nat.reduceLeDiff, reduceCtorEq, Int.reduceToNat, Nat.reduceBEq]; simp
 · delta ny oO oN oA oM oT oG oR oQ oS oK
   simp (maxSteps := 4000000) -implicitDefEqProofs only [InR, Ent.of0, Ent.of1, Ent.of2, Ent.of3, V, W3, ↓reduceIte, Nat.reduceAdd, Nat.reduceSub, Nat.reduceMul, Nat.reduceEqDiff, Nat.reduceLT, Nat.reduceLeDiff, reduceCtorEq, Int.reduceToNat, Nat.reduceBEq]
   by_cases h : i < l.length
   · rw [if_pos (by omega)]
     refine ⟨by omega, ?_⟩
     cases hp : p (l.getD i ⟨0, 0⟩) with
     | true =>
      simp only [if_true]
      have : l.findIdx? p = some i := by
       rw [List.findIdx?_eq_some_iff_getElem]
       rw [List.getD_eq_getElem?_getD, List.getElem?_eq_getElem h] at hp
       refine ⟨h, hp, fun j hj => ?_⟩
       have := hv j hj
       rw [List.getD_eq_getElem?_getD, List.getElem?_eq_getElem (by omega)] at this
       simpa using this
      simp [jF, this]
     | false =>
      simp only [Bool.false_eq_true, if_false]
      refine ⟨by omega, h, fun j hj => ?_, by omega⟩
      by_cases hj2 : j = i
      · rw [hj2]; exact hp
      · exact hv j (by omega)
   · rw [if_neg (by omega)]
     have : l.findIdx? p = none := by
      rw [List.findIdx?_eq_none_iff]
      intro x hx
      obtain ⟨j, hj, rfl⟩ := List.getElem_of_mem hx
      have := hv j (by omega)
      rwa [List.getD_eq_getElem?_getD, List.getElem?_eq_getElem hj] at this
     simp [jF, this]
theorem p7 (f : FuncId) (p : Gs → Bool) (hf : ∀ g, FC Tryz.prog f [enc g] [] (enc (p g)) []) (l : List Gs) : FC Tryz.prog 66 [enc l, .fn (.func f) [] []] [] (enc (l.any p)) [] := by
 let e : Ent Tryz.prog := .mk3 107 (fun args chs => match args, chs with | [x, .fn (.func g) [] []], [] => if g = f then (eW x).bind fun l => some (True, enc (jF l p), [], []) else none | _, _ => none) (by
  intro args chs q r chs' nk h1 h2
  split at h1
  · split at h1
    · rename_i hg; subst hg
      simp only [Option.bind_eq_some_iff, Option.some.injEq, Prod.mk.injEq] at h1
      obtain ⟨a, ha, rfl, rfl, rfl, rfl⟩ := h1
      exact ⟨(tP _ p hf a).le (args' := [_, _]) ⟨eB ha, et _, trivial⟩, .plain trivial⟩
    · cases h1
  · cases h1)
 refine dk is66 (by simp) (fun cx hl => dj [e] 800 ?_)
 delta c66 oO oN oA oM oT oG oR oQ oS oK
 simp (maxSteps := 4000000) -implicitDefEqProofs only [rv66, e, Ent.of0, Ent.of1, Ent.of2, Ent.of3, V, W3, ↓reduceIte, Nat.reduceAdd, Nat.reduceSub, Nat.reduceMul, Nat.reduceEqDiff, Nat.reduceLT, Nat.reduceLeDiff, reduceCtorEq, Int.reduceToNat, Nat.reduceBEq]
 unfold jF
 cases hq : l.findIdx? p with
 | none =>
  rw [List.findIdx?_eq_none_iff] at hq
  have : l.any p = false := by simpa using hq
  simp [this]
 | some i =>
  rw [List.findIdx?_eq_some_iff_getElem] at hq
  obtain ⟨h1, h2, _⟩ := hq
  have : l.any p = true := List.any_eq_true.2 ⟨_, List.getElem_mem h1, h2⟩
  simp [this]
def li (f : FuncId) (p : Gs → Bool) (hf : ∀ g, FC Tryz.prog f [enc g] [] (enc (p g)) []) : Ent Tryz.prog := .mk3 66 (fun args chs => match args, chs with | [x, .fn (.func g) [] []], [] => if g = f then (eW x).bind fun l => some (True, enc (List.any l p), [], []) else none | _, _ => none) (by
 intro args chs q r chs' nk h1 h2
 split at h1
 · split at h1
   · rename_i hg; subst hg
     simp only [Option.bind_eq_some_iff, Option.some.injEq, Prod.mk.injEq] at h1
     obtain ⟨a, ha, rfl, rfl, rfl, rfl⟩ := h1
     exact ⟨(p7 _ p hf a).le (args' := [_, _]) ⟨eB ha, et _, trivial⟩, .plain trivial⟩
   · cases h1
 · cases h1)
theorem tS (g : Gs) : FC Tryz.prog 129 [enc g] [] (enc (!dw g 100000000)) [] := by
 refine dk is129 (by simp) (fun cx hl => dj [jp] 800 ?_)
 delta c129 oO oN oA oM oT oG oR oQ oS oK
 simp (maxSteps := 4000000) -implicitDefEqProofs only [rv129, jp, InR, Ent.of0, Ent.of1, Ent.of2, Ent.of3, V, W3, ↓reduceIte, Nat.reduceAdd, Nat.reduceSub, Nat.reduceMul, Nat.reduceEqDiff, Nat.reduceLT, Nat.reduceLeDiff, reduceCtorEq, Int.reduceToNat, Nat.reduceBEq]
 simp
theorem sT (g : Gs) : FC Tryz.prog 109 [enc g] [] (enc (!dw g 1000)) [] := by
 refine dk is109 (by simp) (fun cx hl => dj [jp] 800 ?_)
 delta c109 oO oN oA oM oT oG oR oQ oS oK
 simp (maxSteps := 4000000) -implicitDefEqProofs only [rv109, jp, InR, Ent.of0, Ent.of1, Ent.of2, Ent.of3, V, W3, ↓reduceIte, Nat.reduceAdd, Nat.reduceSub, Nat.reduceMul, Nat.reduceEqDiff, Nat.reduceLT, Nat.reduceLeDiff, reduceCtorEq, Int.reduceToNat, Nat.reduceBEq]
 simp
theorem sE (l : List Gs) : FC Tryz.prog 110 [enc l] [] (enc (d8 l)) [] := by
 refine dk is110 (by simp) (fun cx hl => dj [li 129 _ tS, dQ, ew] 800 ?_)
 delta c110 oO oN oA oM oT oG oR oQ oS oK
 simp (maxSteps := 4000000) -implicitDefEqProofs only [rv110, li, dQ, ew, Ent.of0, Ent.of1, Ent.of2, Ent.of3, V, W3, ↓reduceIte, Nat.reduceAdd, Nat.reduceSub, Nat.reduceMul, Nat.reduceEqDiff, Nat.reduceLT, Nat.reduceLeDiff, reduceCtorEq, Int.reduceToNat, Nat.reduceBEq]
 have h : (List.any l fun g => !dw g 100000000) = !(l.all (dw · 100000000)) := by rw [List.not_all_eq_any_not]
 unfold d8
 simp only [dl, h]
 grind
def pu : Ent Tryz.prog := .of1 110 (fun _ => True) (fun l : List Gs => enc (d8 l)) (fun _ => trivial) (fun l _ => sE l)
end Go.Proofs.YteoobfmbipmibaaGreat
end
section
open Go Go.Am
open Go.Am.Dat (cells)
namespace Go.Proofs.YteoobfmbipmibaaGreat
set_option maxHeartbeats 4000000
set_option maxRecDepth 20000
def dG (m : List (List Gs)) : Int :=
 if m.length = 0 then 10 else if m.length > 4 then 8 else dl (m.map fun r => if d8 r ≠ 0 then d8 r else if r.length ≠ (m.getD 0 []).length then 13 else 0)
theorem uL (m : List (List Gs)) : FC Tryz.prog 23 [enc m] [] (enc (dG m)) [] := by
 refine dk is23 (by simp) (fun cx hl => dj [] 800 ?_)
 delta c23 oO oN oA oM oT oG oR oQ oS oK
 simp (maxSteps := 4000000) -implicitDefEqProofs only [rv23, Ent.of0, Ent.of1, Ent.of2, Ent.of3, V, W3, ↓reduceIte, Nat.reduceAdd, Nat.reduceSub, Nat.reduceMul, Nat.reduceEqDiff, Nat.reduceLT, Nat.reduceLeDiff, reduceCtorEq, Int.reduceToNat, Nat.reduceBEq]
 unfold dG
 by_cases h0 : m.length = 0
 · simp [h0]
 by_cases h1 : m.length > 4
 · simp [h0, h1]; omega
 rw [if_neg (by omega), if_neg (by omega), if_neg h0, if_neg h1]
 generalize hf : (fun r : List Gs => if d8 r ≠ 0 then d8 r else if r.length ≠ (m.getD 0 []).length then 13 else 0) = f
 refine hM m.length (fun i => ⟨[(0, enc m), (3, .s (.int .i64 i))], []⟩) (fun i => dl (m.map f) = dl ((m.drop i).map f)) (by simp) ?_ (fun i hi hv => dj [lx] 800 ?_)
 · simp (maxSteps := 4000000) -implicitDefEqProofs only [Ent.of0, Ent.of1, Ent.of2, Ent.of3, V, W3, ↓reduceIte, Nat.reduceAdd, Nat.reduceSub, Nat.reduceMul, Nat.reduceEqDiff, Nat.reduceLT, Nat.reduceLeDiff, reduceCtorEq, Int.reduceToNat, Nat.reduceBEq]; simp
 · by_cases h : i < m.length
   · have h3 : 0 < m.length := by omega
     delta c23l1 oO oN oA oM oT oG oR oQ oS oK
     simp (maxSteps := 4000000) -implicitDefEqProofs only [lx, InR, dM, h, h3, Ent.of0, Ent.of1, Ent.of2, Ent.of3, V, W3, ↓reduceIte, Nat.reduceAdd, Nat.reduceSub, Nat.reduceMul, Nat.reduceEqDiff, Nat.reduceLT, Nat.reduceLeDiff, reduceCtorEq, Int.reduceToNat, Nat.reduceBEq]
     rw [dT [] h, List.map_cons, dl] at hv
     subst hf
     grind
   · have : i = m.length := by omega
     subst this
     delta c23l1 oO oN oA oM oT oG oR oQ oS oK
     simp (maxSteps := 4000000) -implicitDefEqProofs only [Ent.of0, Ent.of1, Ent.of2, Ent.of3, V, W3, ↓reduceIte, Nat.reduceAdd, Nat.reduceSub, Nat.reduceMul, Nat.reduceEqDiff, Nat.reduceLT, Nat.reduceLeDiff, reduceCtorEq, Int.reduceToNat, Nat.reduceBEq]
     simp [dl] at hv ⊢
     exact hv.symm
def kL : Ent Tryz.prog := .of1 23 (fun _ => True) (fun l : List (List Gs) => enc (dG l)) (fun _ => trivial) (fun l _ => uL l)
theorem uM (m : List (List Gs)) : FC Tryz.prog 71 [enc m] [] (enc (dG m)) [] := by
 refine dk is71 (by simp) (fun cx hl => dj [dQ, ew] 800 ?_)
 delta c71 oO oN oA oM oT oG oR oQ oS oK
 simp (maxSteps := 4000000) -implicitDefEqProofs only [rv71, dQ, ew, Ent.of0, Ent.of1, Ent.of2, Ent.of3, V, W3, ↓reduceIte, Nat.reduceAdd, Nat.reduceSub, Nat.reduceMul, Nat.reduceEqDiff, Nat.reduceLT, Nat.reduceLeDiff, reduceCtorEq, Int.reduceToNat, Nat.reduceBEq]
 unfold dG
 by_cases h0 : m.length = 0
 · simp [h0, dl]
 by_cases h1 : m.length > 4
 · have : ¬ m.length ≤ 4 := by omega
   simp only [dl]
   grind
 have h2 : m.length ≤ 4 := by omega
 rw [if_neg (by simp [dl]; omega), if_neg h0, if_neg h1]
 generalize hf : (fun r : List Gs => if d8 r ≠ 0 then d8 r else if r.length ≠ (m.getD 0 []).length then 13 else 0) = f
 refine hM m.length (fun i => ⟨[(0, enc m), (20, enc m), (21, .s (.int .i64 m.length)), (22, .s (.int .i64 i))], []⟩) (fun i => dl (m.map f) = dl ((m.drop i).map f)) (by simp) ?_ (fun i hi hv => dj [dQ, ew, pu] 800 ?_)
 · simp (maxSteps := 4000000) -implicitDefEqProofs only [Ent.of0, Ent.of1, Ent.of2, Ent.of3, V, W3, ↓reduceIte, Nat.reduceAdd, Nat.reduceSub, Nat.reduceMul, Nat.reduceEqDiff, Nat.reduceLT, Nat.reduceLeDiff, reduceCtorEq, Int.reduceToNat, Nat.reduceBEq]; simp
 · by_cases h : i < m.length
   · have h3 : 0 < m.length := by omega
     delta c71l1 oO oN oA oM oT oG oR oQ oS oK
     simp (maxSteps := 4000000) -implicitDefEqProofs only [dQ, ew, pu, InR, dM, h, h3, dl, Ent.of0, Ent.of1, Ent.of2, Ent.of3, V, W3, ↓reduceIte, Nat.reduceAdd, Nat.reduceSub, Nat.reduceMul, Nat.reduceEqDiff, Nat.reduceLT, Nat.reduceLeDiff, reduceCtorEq, Int.reduceToNat, Nat.reduceBEq]
     rw [dT [] h, List.map_cons, dl] at hv
     subst hf
     grind
   · have : i = m.length := by omega
     subst this
     delta c71l1 oO oN oA oM oT oG oR oQ oS oK
     simp (maxSteps := 4000000) -implicitDefEqProofs only [Ent.of0, Ent.of1, Ent.of2, Ent.of3, V, W3, ↓reduceIte, Nat.reduceAdd, Nat.reduceSub, Nat.reduceMul, Nat.reduceEqDiff, Nat.reduceLT, Nat.reduceLeDiff, reduceCtorEq, Int.reduceToNat, Nat.reduceBEq]
     simp [dl] at hv ⊢
     exact hv.symm
def jV : Ent Tryz.prog := .of1 71 (fun _ => True) (fun l : List (List Gs) => enc (dG l)) (fun _ => trivial) (fun l _ => uM l)
def km (n0 : Nat) (r : List Gs) : Int := if r.length = 0 ∨ r.length ≠ n0 then 10 else if r.length > 4 then 8 else if r.all (dw · 1000) then 0 else 2
def dI (m : List (List Gs)) : Int := if m.length = 0 then 10 else if m.length > 4 then 8 else dl (m.map (km (m.getD 0 []).length))
theorem rp (m : List (List Gs)) : FC Tryz.prog 11 [enc m] [] (enc (dI m)) [] := by
 refine dk is11 (by simp) (fun cx hl => dj [] 800 ?_)
 simp only [V, W3, ↓reduceIte, Nat.reduceAdd, Nat.reduceSub, Nat.reduceMul, Nat.reduceEqDiff, Nat.reduceLT, Nat.reduceLeDiff, reduceCtorEq, Int.reduceToNat, Nat.reduceBEq] at hl
 delta c11 oO oN oA oM oT oG oR oQ oS oK
 simp (maxSteps := 4000000) -implicitDefEqProofs only [rv11, Ent.of0, Ent.of1, Ent.of2, Ent.of3, V, W3, ↓reduceIte, Nat.reduceAdd, Nat.reduceSub, Nat.reduceMul, Nat.reduceEqDiff, Nat.reduceLT, Nat.reduceLeDiff, reduceCtorEq, Int.reduceToNat, Nat.reduceBEq]
 unfold dI
 by_cases h0 : m.length = 0
 · simp [h0]
 by_cases h1 : m.length > 4
 · simp [h0, h1]; omega
 rw [if_neg (by omega), if_neg (by omega), if_neg h0, if_neg h1]
 generalize hf : km (m.getD 0 []).length = f
 refine hM m.length (fun i => ⟨[(0, enc m), (3, .s (.int .i64 i))], []⟩) (fun i => dl (m.map f) = dl ((m.drop i).map f)) (by simp) ?_ (fun i hi hv => dj [] 800 ?_)
 · simp (maxSteps := 4000000) -implicitDefEqProofs only [Ent.of0, Ent.of1, Ent.of2, Ent.of3, V, W3, ↓reduceIte, Nat.reduceAdd, Nat.reduceSub, Nat.reduceMul, Nat.reduceEqDiff, Nat.reduceLT, Nat.reduceLeDiff, reduceCtorEq, Int.reduceToNat, Nat.reduceBEq]; simp
 · by_cases h : i < m.length
   · have h3 : 0 < m.length := by omega
     have hin := hl.inner i h
     delta c11l2 oO oN oA oM oT oG oR oQ oS oK
     simp (maxSteps := 4000000) -implicitDefEqProofs only [InR, dM, h, h3, Ent.of0, Ent.of1, Ent.of2, Ent.of3, V, W3, ↓reduceIte, Nat.reduceAdd, Nat.reduceSub, Nat.reduceMul, Nat.reduceEqDiff, Nat.reduceLT, Nat.reduceLeDiff, reduceCtorEq, Int.reduceToNat, Nat.reduceBEq]
     rw [dT [] h, List.map_cons, dl] at hv
     have hfr : f (m.getD i []) = km (m.getD 0 []).length (m.getD i []) := by rw [hf]
     unfold km at hfr
     by_cases a1 : (m.getD i []).length = 0
     · rw [if_pos (.inl a1)] at hfr
       grind
     by_cases a2 : (m.getD i []).length = (m.getD 0 []).length
     rotate_left
     · rw [if_pos (.inr a2)] at hfr
       grind
     have a12 : ¬((m.getD i []).length = 0 ∨ (m.getD i []).length ≠ (m.getD 0 []).length) := by omega
     by_cases a3 : (m.getD i []).length > 4
     · rw [if_neg a12, if_pos a3] at hfr
       grind
     rw [if_neg a12, if_neg a3] at hfr
     rw [if_pos (by omega)]
     refine ⟨by omega, ?_⟩
     rw [if_pos (by omega)]
     refine ⟨by omega, by omega, ?_⟩
     rw [if_neg (by omega)]
     refine ⟨by omega, ?_⟩
     rw [if_neg (by omega)]
     refine hM (m.getD i []).length (fun k => ⟨[(0, enc m), (3, .s (.int .i64 i)), (4, .s (.int .i64 k))], []⟩) (fun k => (m.getD i []).all (dw · 1000) = ((m.getD i []).drop k).all (dw · 1000)) (by simp) ?_ (fun k hk hw => dj [rH] 800 ?_)
     · simp (maxSteps := 4000000) -implicitDefEqProofs only [Ent.of0, Ent.of1, Ent.of2, Ent.of3, V, W3, ↓reduceIte, Nat.reduceAdd, Nat.reduceSub, Nat.reduceMul, Nat.reduceEqDiff, Nat.reduceLT, Nat.reduceLeDiff, reduceCtorEq, Int.reduceToNat, Nat.reduceBEq]; simp
     · delta c11l1 oO oN oA oM oT oG oR oQ oS oK
       simp (maxSteps := 4000000) -implicitDefEqProofs only [InR, dM, h, h3, rH, Ent.of0, Ent.of1, Ent.of2, Ent.of3, V, W3, ↓reduceIte, Nat.reduceAdd, Nat.reduceSub, Nat.reduceMul, Nat.reduceEqDiff, Nat.reduceLT, Nat.reduceLeDiff, reduceCtorEq, Int.reduceToNat, Nat.reduceBEq]
       by_cases hkl : k < (m.getD i []).length
       · rw [dT ⟨0, 0⟩ hkl, List.all_cons] at hw
         grind
       · rw [List.drop_eq_nil_of_le (by omega)] at hw
         grind
   · have : i = m.length := by omega
     subst this
     delta c11l2 oO oN oA oM oT oG oR oQ oS oK
     simp (maxSteps := 4000000) -implicitDefEqProofs only [Ent.of0, Ent.of1, Ent.of2, Ent.of3, V, W3, ↓reduceIte, Nat.reduceAdd, Nat.reduceSub, Nat.reduceMul, Nat.reduceEqDiff, Nat.reduceLT, Nat.reduceLeDiff, reduceCtorEq, Int.reduceToNat, Nat.reduceBEq]
     simp [dl] at hv ⊢
     exact hv.symm
def pn : Ent Tryz.prog := .of1 11 (fun _ => True) (fun l : List (List Gs) => enc (dI l)) (fun _ => trivial) (fun l _ => rp l)
end Go.Proofs.YteoobfmbipmibaaGreat
end
section
open Go Go.Am
open Go.Am.Dat (cells)
namespace Go.Proofs.YteoobfmbipmibaaGreat
set_option maxHeartbeats 4000000
set_option maxRecDepth 20000
theorem rA (m : List (List Gs)) : FC Tryz.prog 70 [enc m] [] (enc (dI m)) [] := by
 refine dk is70 (by simp) (fun cx hl => dj [dQ, ew] 800 ?_)
 delta c70 oO oN oA oM oT oG oR oQ oS oK
 simp (maxSteps := 4000000) -implicitDefEqProofs only [rv70, dQ, ew, Ent.of0, Ent.of1, Ent.of2, Ent.of3, V, W3, ↓reduceIte, Nat.reduceAdd, Nat.reduceSub, Nat.reduceMul, Nat.reduceEqDiff, Nat.reduceLT, Nat.reduceLeDiff, reduceCtorEq, Int.reduceToNat, Nat.reduceBEq]
 unfold dI
 by_cases h0 : m.length = 0
 · simp [h0, dl]
 by_cases h1 : m.length > 4
 · have : ¬ m.length ≤ 4 := by omega
   simp only [dl]
   grind
 have h2 : m.length ≤ 4 := by omega
 rw [if_neg (by simp [dl]; omega), if_neg h0, if_neg h1]
 generalize hf : km (m.getD 0 []).length = f
 refine hM m.length (fun i => ⟨[(0, enc m), (21, enc m), (22, .s (.int .i64 m.length)), (23, .s (.int .i64 i))], []⟩) (fun i => dl (m.map f) = dl ((m.drop i).map f)) (by simp) ?_ (fun i hi hv => dj [dQ, ew, li 109 _ sT] 800 ?_)
 · simp (maxSteps := 4000000) -implicitDefEqProofs only [Ent.of0, Ent.of1, Ent.of2, Ent.of3, V, W3, ↓reduceIte, Nat.reduceAdd, Nat.reduceSub, Nat.reduceMul, Nat.reduceEqDiff, Nat.reduceLT, Nat.reduceLeDiff, reduceCtorEq, Int.reduceToNat, Nat.reduceBEq]; simp
 · by_cases h : i < m.length
   · have h3 : 0 < m.length := by omega
     rw [dT [] h, List.map_cons, dl] at hv
     have hfr : f (m.getD i []) = km (m.getD 0 []).length (m.getD i []) := by rw [hf]
     unfold km at hfr
     have ha : (List.any (m.getD i []) fun g => !dw g 1000) = !((m.getD i []).all (dw · 1000)) := by rw [List.not_all_eq_any_not]
     have hi2 : (i : Int) < (m.length : Int) := by omega
     by_cases hz : (0 : Int) < ((m.getD i []).length : Int)
     · delta rN oO oN oA oM oT oG oR oQ oS oK
       simp (maxSteps := 4000000) -implicitDefEqProofs only [dQ, ew, li, InR, dM, h, h3, hz, hi2, dl, Ent.of0, Ent.of1, Ent.of2, Ent.of3, V, W3, ↓reduceIte, Nat.reduceAdd, Nat.reduceSub, Nat.reduceMul, Nat.reduceEqDiff, Nat.reduceLT, Nat.reduceLeDiff, reduceCtorEq, Int.reduceToNat, Nat.reduceBEq]
       simp only [ha]
       grind
     · delta rN oO oN oA oM oT oG oR oQ oS oK
       simp (maxSteps := 4000000) -implicitDefEqProofs only [dQ, ew, li, InR, dM, h, h3, hz, hi2, dl, Ent.of0, Ent.of1, Ent.of2, Ent.of3, V, W3, ↓reduceIte, Nat.reduceAdd, Nat.reduceSub, Nat.reduceMul, Nat.reduceEqDiff, Nat.reduceLT, Nat.reduceLeDiff, reduceCtorEq, Int.reduceToNat, Nat.reduceBEq]
       simp only [ha]
       grind
   · have : i = m.length := by omega
     subst this
     delta rN oO oN oA oM oT oG oR oQ oS oK
     simp (maxSteps := 4000000) -implicitDefEqProofs only [Ent.of0, Ent.of1, Ent.of2, Ent.of3, V, W3, ↓reduceIte, Nat.reduceAdd, Nat.reduceSub, Nat.reduceMul, Nat.reduceEqDiff, Nat.reduceLT, Nat.reduceLeDiff, reduceCtorEq, Int.reduceToNat, Nat.reduceBEq]
     simp [dl] at hv ⊢
     exact hv.symm
def jY : Ent Tryz.prog := .of1 70 (fun _ => True) (fun l : List (List Gs) => enc (dI l)) (fun _ => trivial) (fun l _ => rA l)
end Go.Proofs.YteoobfmbipmibaaGreat
end
section
open Go Go.Am
open Go.Am.Dat (cells)
namespace Go.Proofs.YteoobfmbipmibaaGreat
set_option maxHeartbeats 4000000
set_option maxRecDepth 20000
def fW (a b : Gs) : Gs := ⟨a.re * b.re - a.im * b.im, a.re * b.im + a.im * b.re⟩
def lS (a b : Gs) : Gs := ⟨a.re - b.re, a.im - b.im⟩
def k6 (a b : Gs) : Gs := ⟨a.re + b.re, a.im + b.im⟩
def jl (a : Gs) : Gs := ⟨a.re, -a.im⟩
def bd (g : Gs) (n : Nat) : Prop := g.re.natAbs ≤ n ∧ g.im.natAbs ≤ n
theorem kh {a b : Int} {A B : Nat} (ha : a.natAbs ≤ A) (hb : b.natAbs ≤ B) : (a * b).natAbs ≤ A * B := by
 rw [Int.natAbs_mul]; exact Nat.mul_le_mul ha hb
theorem kO {a b : Gs} {A B : Nat} (ha : bd a A) (hb : bd b B) : bd (fW a b) (2 * (A * B)) := by
 have h1 := kh ha.1 hb.1
 have h2 := kh ha.2 hb.2
 have h3 := kh ha.1 hb.2
 have h4 := kh ha.2 hb.1
 unfold fW
 generalize A * B = N at *
 constructor <;> simp only <;> omega
def nK (a b : Gs) : Prop := ∃ A B, bd a A ∧ bd b B ∧ 2 * (A * B) ≤ 9223372036854775807
theorem ya {a b : Gs} (h : nK a b) : InR .i64 (a.re * b.re) ∧ InR .i64 (a.im * b.im) ∧ InR .i64 (a.re * b.im) ∧ InR .i64 (a.im * b.re) ∧ InR .i64 (a.re * b.re - a.im * b.im) ∧ InR .i64 (a.re * b.im + a.im * b.re) := by
 obtain ⟨A, B, ha, hb, h⟩ := h
 have h1 := kh ha.1 hb.1
 have h2 := kh ha.2 hb.2
 have h3 := kh ha.1 hb.2
 have h4 := kh ha.2 hb.1
 generalize A * B = N at *
 simp only [InR]
 omega
theorem times_c (a b : Gs) (h : nK a b) : FC Tryz.prog 74 [enc a, enc b] [] (enc (fW a b)) [] := by
 obtain ⟨h1, h2, h3, h4, h5, h6⟩ := ya h
 refine dk is74 (by simp) (fun cx hl => dj [] 800 ?_)
 delta c74 oO oN oA oM oT oG oR oQ oS oK
 simp (maxSteps := 4000000) -implicitDefEqProofs only [rv74, h1, h2, h3, h4, h5, h6, fW, Ent.of0, Ent.of1, Ent.of2, Ent.of3, V, W3, ↓reduceIte, Nat.reduceAdd, Nat.reduceSub, Nat.reduceMul, Nat.reduceEqDiff, Nat.reduceLT, Nat.reduceLeDiff, reduceCtorEq, Int.reduceToNat, Nat.reduceBEq]
def lu : Ent Tryz.prog := .of2 74 nK (fun a b => enc (fW a b)) (fun _ _ => by simp [nb, dm, dm.keysIns]) (fun a b h => times_c a b h)
def lF (a b : Gs) : Prop := ∃ A B, bd a A ∧ bd b B ∧ A + B ≤ 9223372036854775807
theorem tu {a b : Gs} (h : lF a b) : InR .i64 (a.re + b.re) ∧ InR .i64 (a.im + b.im) ∧ InR .i64 (a.re - b.re) ∧ InR .i64 (a.im - b.im) := by
 obtain ⟨A, B, ha, hb, h⟩ := h
 simp only [bd] at ha hb
 simp only [InR]
 omega
theorem less_c (a b : Gs) (h : lF a b) : FC Tryz.prog 112 [enc a, enc b] [] (enc (lS a b)) [] := by
 obtain ⟨h1, h2, h3, h4⟩ := tu h
 refine dk is112 (by simp) (fun cx hl => dj [] 800 ?_)
 delta c112 oO oN oA oM oT oG oR oQ oS oK
 simp (maxSteps := 4000000) -implicitDefEqProofs only [rv112, h1, h2, h3, h4, lS, Ent.of0, Ent.of1, Ent.of2, Ent.of3, V, W3, ↓reduceIte, Nat.reduceAdd, Nat.reduceSub, Nat.reduceMul, Nat.reduceEqDiff, Nat.reduceLT, Nat.reduceLeDiff, reduceCtorEq, Int.reduceToNat, Nat.reduceBEq]
def mc : Ent Tryz.prog := .of2 112 lF (fun a b => enc (lS a b)) (fun _ _ => by simp [nb, dm, dm.keysIns]) (fun a b h => less_c a b h)
theorem GAdd_c (a b : Gs) (h : lF a b) : FC Tryz.prog 29 [enc a, enc b] [] (enc (k6 a b)) [] := by
 obtain ⟨h1, h2, h3, h4⟩ := tu h
 refine dk is29 (by simp) (fun cx hl => dj [] 800 ?_)
 delta c29 oO oN oA oM oT oG oR oQ oS oK
 simp (maxSteps := 4000000) -implicitDefEqProofs only [rv29, h1, h2, h3, h4, k6, Ent.of0, Ent.of1, Ent.of2, Ent.of3, V, W3, ↓reduceIte, Nat.reduceAdd, Nat.reduceSub, Nat.reduceMul, Nat.reduceEqDiff, Nat.reduceLT, Nat.reduceLeDiff, reduceCtorEq, Int.reduceToNat, Nat.reduceBEq]
def pk : Ent Tryz.prog := .of2 29 lF (fun a b => enc (k6 a b)) (fun _ _ => by simp [nb, dm, dm.keysIns]) (fun a b h => GAdd_c a b h)
end Go.Proofs.YteoobfmbipmibaaGreat
end
section
open Go Go.Am
open Go.Am.Dat (cells)
namespace Go.Proofs.YteoobfmbipmibaaGreat
set_option maxHeartbeats 4000000
set_option maxRecDepth 20000
theorem ig : ∀ {l : List Int}, dl l = 0 → ∀ e ∈ l, e = 0
 | [], _, e, h => by simp at h
 | x :: l, h, e, he => by
  simp only [dl] at h
  split at h
  · rename_i hx; exact absurd h hx
  · rename_i hx
    rcases List.mem_cons.1 he with rfl | he
    · omega
    · exact ig h e he
structure Right (m : List (List Gs)) : Prop where
 pos : 0 < m.length
 le : m.length ≤ 4
 row : ∀ r ∈ m, r.length = (m.getD 0 []).length ∧ 0 < r.length ∧ r.length ≤ 4 ∧ ∀ g ∈ r, dw g 1000 = true
theorem i7 {m : List (List Gs)} (h : dI m = 0) : Right m := by
 unfold dI at h
 split at h
 · cases h
 · split at h
   · cases h
   · refine ⟨by omega, by omega, fun r hr => ?_⟩
     have := ig h _ (List.mem_map.2 ⟨r, hr, rfl⟩)
     unfold km at this
     split at this
     · cases this
     · split at this
       · cases this
       · split at this
         · rename_i h1 h2 h3
           exact ⟨by omega, by omega, by omega, fun g hg => by simpa using List.all_eq_true.1 h3 g hg⟩
         · cases this
theorem jj {g : Gs} {n : Nat} (h : dw g n = true) : bd g n := by
 simp only [dw, Bool.and_eq_true, decide_eq_true_eq] at h
 constructor <;> omega
def eT (m : List (List Gs)) : Gs :=
 match m with
 | [[a]] => a
 | [[a, b], [c, d]] => lS (fW a d) (fW b c)
 | _ => ⟨0, 0⟩
def kW (m : List (List Gs)) : Int := if m.length ≠ (m.getD 0 []).length then 13 else if m.length > 2 then 8 else 0
theorem pA {a b : Gs} (ha : bd a 1000) (hb : bd b 1000) : nK a b := ⟨1000, 1000, ha, hb, by omega⟩
theorem det_add {a b c d : Gs} (ha : bd a 1000) (hb : bd b 1000) (hc : bd c 1000) (hd : bd d 1000) : lF (fW a d) (fW b c) :=
 ⟨_, _, kO ha hd, kO hb hc, by omega⟩
def eC (m : List (List Gs)) : Int := if dI m ≠ 0 then dI m else kW m
def dt (m : List (List Gs)) : Gs := if dI m ≠ 0 then ⟨0, 0⟩ else eT m
theorem SDet_c (m : List (List Gs)) : FC Tryz.prog 73 [enc m] [] (.tup [enc (dt m), enc (eC m)]) [] := by
 refine dk is73 (by simp) (fun cx hl => dj [jY, lu, mc] 800 ?_)
 by_cases h0 : dI m = 0
 rotate_left
 · have hs : dt m = ⟨0, 0⟩ := by unfold dt; rw [if_pos h0]
   have he : eC m = dI m := by unfold eC; rw [if_pos h0]
   delta c73 oO oN oA oM oT oG oR oQ oS oK
   simp (maxSteps := 4000000) -implicitDefEqProofs only [rv73, jY, h0, hs, he, Ent.of0, Ent.of1, Ent.of2, Ent.of3, V, W3, ↓reduceIte, Nat.reduceAdd, Nat.reduceSub, Nat.reduceMul, Nat.reduceEqDiff, Nat.reduceLT, Nat.reduceLeDiff, reduceCtorEq, Int.reduceToNat, Nat.reduceBEq]
 have hs : dt m = eT m := by unfold dt; rw [if_neg (by simp [h0])]
 have he0 : eC m = kW m := by unfold eC; rw [if_neg (by simp [h0])]
 have h := i7 h0
 have h3 := h.pos
 by_cases h1 : m.length ≠ (m.getD 0 []).length
 · have hd : eT m = ⟨0, 0⟩ := by
    unfold eT; split
    · simp at h1
    · simp at h1
    · rfl
   have he : kW m = 13 := by unfold kW; rw [if_pos h1]
   have h1' : ¬ ((m.length : Int) = ((m.getD 0 []).length : Int)) := by omega
   delta c73 oO oN oA oM oT oG oR oQ oS oK
   simp (maxSteps := 4000000) -implicitDefEqProofs only [rv73, jY, h0, hs, he0, dM, h3, hd, he, h1', Ent.of0, Ent.of1, Ent.of2, Ent.of3, V, W3, ↓reduceIte, Nat.reduceAdd, Nat.reduceSub, Nat.reduceMul, Nat.reduceEqDiff, Nat.reduceLT, Nat.reduceLeDiff, reduceCtorEq, Int.reduceToNat, Nat.reduceBEq]
   simp; omega
 by_cases h2 : m.length > 2
 · have hd : eT m = ⟨0, 0⟩ := by
    unfold eT; split
    · simp at h2
    · simp at h2
    · rfl
   have he : kW m = 8 := by unfold kW; rw [if_neg h1, if_pos h2]
   have h1' : (m.length : Int) = ((m.getD 0 []).length : Int) := by omega
   have h2' : ¬ ((m.getD 0 []).length : Int) = 2 := by omega
   have h2'' : ¬ ((m.getD 0 []).length : Int) = 1 := by omega
   have h3' : 0 < (m.getD 0 []).length := by omega
   delta c73 oO oN oA oM oT oG oR oQ oS oK
   simp (maxSteps := 4000000) -implicitDefEqProofs only [rv73, jY, h0, hs, he0, dM, h3, hd, he, h1', h2', h2'', Ent.of0, Ent.of1, Ent.of2, Ent.of3, V, W3, ↓reduceIte, Nat.reduceAdd, Nat.reduceSub, Nat.reduceMul, Nat.reduceEqDiff, Nat.reduceLT, Nat.reduceLeDiff, reduceCtorEq, Int.reduceToNat, Nat.reduceBEq]
   simp at h3' ⊢; exact h3'
 have he : kW m = 0 := by unfold kW; rw [if_neg h1, if_neg h2]
 match m, h, h1, h2, h3 with
 | [r], h, h1, h2, h3 =>
  simp at h1
  match r, h1 with
  | [a], _ =>
   delta c73 oO oN oA oM oT oG oR oQ oS oK
   simp (maxSteps := 4000000) -implicitDefEqProofs only [rv73, jY, h0, hs, he0, he, eT, Ent.of0, Ent.of1, Ent.of2, Ent.of3, V, W3, ↓reduceIte, Nat.reduceAdd, Nat.reduceSub, Nat.reduceMul, Nat.reduceEqDiff, Nat.reduceLT, Nat.reduceLeDiff, reduceCtorEq, Int.reduceToNat, Nat.reduceBEq]
   simp
 | [r, s], h, h1, h2, h3 =>
  simp at h1
  have hs' := (h.row s (by simp)).1
  simp at hs'
  match r, s, h1, hs' with
  | [a, b], [c, d], _, _ =>
   have hb : ∀ g, g ∈ [a, b] ∨ g ∈ [c, d] → bd g 1000 := fun g hg => by
    rcases hg with hg | hg
    · exact jj ((h.row [a, b] (by simp)).2.2.2 g hg)
    · exact jj ((h.row [c, d] (by simp)).2.2.2 g hg)
   have ba := hb a (by simp); have bb := hb b (by simp); have bc := hb c (by simp); have b_d := hb d (by simp)
   have m1 := pA ba b_d
   have m2 := pA bb bc
   have m3 := det_add ba bb bc b_d
   delta c73 oO oN oA oM oT oG oR oQ oS oK
   simp (maxSteps := 4000000) -implicitDefEqProofs only [rv73, jY, lu, mc, h0, hs, he0, he, eT, m1, m2, m3, Ent.of0, Ent.of1, Ent.of2, Ent.of3, V, W3, ↓reduceIte, Nat.reduceAdd, Nat.reduceSub, Nat.reduceMul, Nat.reduceEqDiff, Nat.reduceLT, Nat.reduceLeDiff, reduceCtorEq, Int.reduceToNat, Nat.reduceBEq]
   simp
 | a :: b :: c :: l, h, h1, h2, h3 => exact absurd (by simp) h2
def ent73 : Ent Tryz.prog := .of1 73 (fun _ => True) (fun m => .tup [enc (dt m), enc (eC m)]) (fun _ => by simp [nb, u7, dm, dm.keysIns]) (fun m _ => SDet_c m)
end Go.Proofs.YteoobfmbipmibaaGreat
end
section
open Go Go.Am
open Go.Am.Dat (cells)
namespace Go.Proofs.YteoobfmbipmibaaGreat
set_option maxHeartbeats 4000000
set_option maxRecDepth 20000
def iP (l : List (List Gs)) (most : Int) : Bool := !(l.all fun r => r.all (dw · most))
end Go.Proofs.YteoobfmbipmibaaGreat
end
section
open Go Go.Am
open Go.Am.Dat (cells)
namespace Go.Proofs.YteoobfmbipmibaaGreat
set_option maxHeartbeats 4000000
set_option maxRecDepth 20000
def jx (row : List Gs) (ls : List (List Gs)) (i : Nat) : Nat → Gs
 | 0 => ⟨0, 0⟩
 | k + 1 => k6 (jx row ls i k) (fW (row.getD k ⟨0, 0⟩) ((ls.getD k []).getD i ⟨0, 0⟩))
def iG (ls : List (List Gs)) (row : List Gs) : List Gs := (List.range (ls.getD 0 []).length).map fun i => jx row ls i ls.length
def dA (m ls : List (List Gs)) : List (List Gs) := m.map (iG ls)
structure Fits (m ls : List (List Gs)) (A B : Nat) : Prop where
 pos : 0 < ls.length
 le : ls.length ≤ 4
 mle : m.length ≤ 1000
 len : ∀ r ∈ ls, r.length = (ls.getD 0 []).length
 short : (ls.getD 0 []).length ≤ 1000000
 cols : ∀ r ∈ m, r.length = ls.length
 ma : ∀ r ∈ m, ∀ g ∈ r, bd g A
 mb : ∀ r ∈ ls, ∀ g ∈ r, bd g B
 small : 8 * (A * B) ≤ 9223372036854775807
theorem dD {α : Type} {l : List α} {i : Nat} (d : α) (h : i < l.length) : l.getD i d ∈ l := by
 rw [List.getD_eq_getElem?_getD, List.getElem?_eq_getElem h]; exact List.getElem_mem h
theorem p9 {m ls : List (List Gs)} {A B : Nat} (hf : Fits m ls A B) {row : List Gs} (hr : row ∈ m) {i : Nat} (hi : i < (ls.getD 0 []).length) : ∀ k, k ≤ ls.length → bd (jx row ls i k) (k * (2 * (A * B)))
 | 0, _ => by constructor <;> simp [jx]
 | k + 1, hk => by
  have h1 := p9 hf hr hi k (by omega)
  have hc := hf.cols row hr
  have hl := hf.len (ls.getD k []) (dD [] (by omega))
  have h2 := kO (hf.ma row hr _ (dD ⟨0, 0⟩ (by omega : k < row.length))) (hf.mb _ (dD [] (by omega)) _ (dD ⟨0, 0⟩ (by omega : i < (ls.getD k []).length)))
  have e : (k + 1) * (2 * (A * B)) = k * (2 * (A * B)) + 2 * (A * B) := Nat.succ_mul _ _
  rw [e]
  simp only [jx, k6]
  generalize k * (2 * (A * B)) = X at *
  generalize 2 * (A * B) = Y at *
  obtain ⟨p1, p2⟩ := h1
  obtain ⟨q1, q2⟩ := h2
  constructor <;> simp only <;> omega
end Go.Proofs.YteoobfmbipmibaaGreat
end
section
open Go Go.Am
open Go.Am.Dat (cells)
namespace Go.Proofs.YteoobfmbipmibaaGreat
set_option maxHeartbeats 4000000
set_option maxRecDepth 20000
def kq (n : Int) : Int := if n ≠ 2 ∧ n ≠ 4 ∧ n ≠ 6 then 15 else 0
theorem vp (n : Int) : FC Tryz.prog 10 [enc n] [] (enc (kq n)) [] := by
 refine dk is10 (by simp) (fun cx hl => dj [] 800 ?_)
 delta c10 oO oN oA oM oT oG oR oQ oS oK
 simp (maxSteps := 4000000) -implicitDefEqProofs only [rv10, Ent.of0, Ent.of1, Ent.of2, Ent.of3, V, W3, ↓reduceIte, Nat.reduceAdd, Nat.reduceSub, Nat.reduceMul, Nat.reduceEqDiff, Nat.reduceLT, Nat.reduceLeDiff, reduceCtorEq, Int.reduceToNat, Nat.reduceBEq]
 unfold kq
 grind
def js : Ent Tryz.prog := .of1 10 (fun _ => True) (fun n : Int => enc (kq n)) (fun _ => trivial) (fun n _ => vp n)
end Go.Proofs.YteoobfmbipmibaaGreat
end
section
open Go Go.Am
open Go.Am.Dat (cells)
namespace Go.Proofs.YteoobfmbipmibaaGreat
set_option maxHeartbeats 4000000
set_option maxRecDepth 100000
theorem tk {a : Nat} (ha : a < 65536) : IntKind.wrap .u16 (a : Int) = a := by
 show (if (false && decide ((a : Int) % 65536 ≥ 32768)) = true then (a : Int) % 65536 - 65536 else (a : Int) % 65536) = a
 rw [if_neg (by simp)]
 omega
theorem of16 {a : Nat} (ha : a < 65536) : (BitVec.ofInt 16 (a : Int)).toNat = a := by
 rw [BitVec.ofInt_natCast, BitVec.toNat_ofNat]
 exact Nat.mod_eq_of_lt ha
theorem and16 {a b : Nat} (ha : a < 65536) (hb : b < 65536) : gD .and .u16 (a : Int) (b : Int) = ((a &&& b : Nat) : Int) := by
 show IntKind.wrap .u16 ((BitVec.ofInt 16 (a : Int) &&& BitVec.ofInt 16 (b : Int)).toNat : Int) = _
 rw [BitVec.toNat_and, of16 ha, of16 hb]
 exact tk (Nat.lt_of_le_of_lt Nat.and_le_left ha)
theorem or16 {a b : Nat} (ha : a < 65536) (hb : b < 65536) : gD .or .u16 (a : Int) (b : Int) = ((a ||| b : Nat) : Int) := by
 show IntKind.wrap .u16 ((BitVec.ofInt 16 (a : Int) ||| BitVec.ofInt 16 (b : Int)).toNat : Int) = _
 rw [BitVec.toNat_or, of16 ha, of16 hb]
 exact tk (Nat.or_lt_two_pow (n := 16) ha hb)
theorem xor16 {a b : Nat} (ha : a < 65536) (hb : b < 65536) : gD .xor .u16 (a : Int) (b : Int) = ((a ^^^ b : Nat) : Int) := by
 show IntKind.wrap .u16 ((BitVec.ofInt 16 (a : Int) ^^^ BitVec.ofInt 16 (b : Int)).toNat : Int) = _
 rw [BitVec.toNat_xor, of16 ha, of16 hb]
 exact tk (Nat.xor_lt_two_pow (n := 16) ha hb)
theorem inR16 {a : Int} (h : 0 ≤ a ∧ a < 65536) : InR .u16 a := by
 show (0 : Int) ≤ a ∧ a ≤ 65535
 omega
structure Wire where
 bits : Nat
 taps : Nat
 top : Nat
structure Wire.Ok (w : Wire) : Prop where
 top : w.top < 15
 bits : w.bits < 2 ^ (w.top + 1)
 taps : w.taps < 65536
def eq (w : Wire) : List C := [.s (.int .u16 w.bits), .s (.int .u16 w.taps), .s (.int .i64 w.top)]
def k8 : Nat → Nat → Nat → Nat
 | 0, _, f => f
 | j + 1, n, f => if n = 0 then f else k8 j (n &&& (n - 1)) (f ^^^ 1)
def kA (n : Nat) : Nat := k8 n n 0
def hY (w : Wire) : Wire := { w with bits := (w.bits / 2) ||| (kA (w.bits &&& w.taps) * 2 ^ w.top) }
def k7 (w : Wire) : Nat := w.bits % 2
theorem oC {n : Nat} (h : n ≠ 0) : n &&& (n - 1) < n := Nat.lt_of_le_of_lt Nat.and_le_right (by omega)
theorem xn : ∀ (j k n f : Nat), n ≤ j → n ≤ k → k8 j n f = k8 k n f := by
 intro j
 induction j with
 | zero =>
  intro k n f h1 h2
  have : n = 0 := by omega
  subst this
  cases k <;> simp [k8]
 | succ j ih =>
  intro k n f h1 h2
  cases k with
  | zero =>
   have : n = 0 := by omega
   subst this
   simp [k8]
  | succ k =>
   simp only [k8]
   by_cases hn : n = 0
   · rw [if_pos hn, if_pos hn]
   · rw [if_neg hn, if_neg hn]
     have := oC hn
     exact ih k _ _ (by omega) (by omega)
theorem qD : ∀ (j n f : Nat), f ≤ 1 → k8 j n f ≤ 1
 | 0, _, f, h => h
 | j + 1, n, f, h => by
  simp only [k8]
  split
  · exact h
  · refine qD j _ _ ?_
    have : f = 0 ∨ f = 1 := by omega
    rcases this with rfl | rfl <;> decide
theorem step_c (w : Wire) (hw : w.Ok) : FC Tryz.prog 61 [.ptr 100000 0] [(100000, .box (eq w))] (enc (k7 w : Int)) [(100000, .box (eq (hY w)))] := by
 obtain ⟨b, tp, top⟩ := w
 obtain ⟨h1, h2, h3⟩ := hw
 simp only at h1 h2 h3
 have hb : b < 65536 := Nat.lt_of_lt_of_le h2 (Nat.pow_le_pow_right (by decide) (by omega : top + 1 ≤ 16))
 have hone : ((1 : Nat) : Int) = 1 := rfl
 have hand1 := and16 hb (show 1 < 65536 by decide)
 have hand2 := and16 hb h3
 refine dF [] is61 (by simp) (by simp [bf]) (by simp [an, ae, aq]) (by simp [an, ae, aq]) (by simp [aF, lk]) (fun cx _ _ _ => dj [] 800 ?_)
 simp only [hone] at hand1
 delta c61 oO oN oA oM oT oG oR oQ oS oK
 simp (maxSteps := 4000000) -implicitDefEqProofs only [rv61, eq, hand1, hand2, InR, Ent.of0, Ent.of1, Ent.of2, Ent.of3, V, W3, ↓reduceIte, Nat.reduceAdd, Nat.reduceSub, Nat.reduceMul, Nat.reduceEqDiff, Nat.reduceLT, Nat.reduceLeDiff, reduceCtorEq, Int.reduceToNat, Nat.reduceBEq]
 have hle : b &&& 1 ≤ 1 := Nat.and_le_right
 refine ⟨by omega, ?_⟩
 have hr : b &&& tp < 65536 := Nat.lt_of_le_of_lt Nat.and_le_left hb
 refine iD (α := Nat × Nat) (fun v => [(5, .s (.int .u16 (v.1 : Int))), (4, .s (.int .u16 (v.2 : Int)))]) (fun _ => []) (fun v => k8 v.1 v.1 v.2 = kA (b &&& tp) ∧ v.1 < 65536 ∧ v.2 ≤ 1) (fun v => v.1) (b &&& tp, 0) ⟨rfl, hr, by omega⟩ ?_ (fun v hv => dj [] 800 ?_)
 · simp only [V, W3, ↓reduceIte, Nat.reduceAdd, Nat.reduceSub, Nat.reduceMul, Nat.reduceEqDiff, Nat.reduceLT, Nat.reduceLeDiff, reduceCtorEq, Int.reduceToNat, Nat.reduceBEq]; simp
 · obtain ⟨n, f⟩ := v
   obtain ⟨hv1, hv2, hv3⟩ := hv
   simp only at hv1 hv2 hv3
   have hx : gD .xor .u16 (f : Int) 1 = ((f ^^^ 1 : Nat) : Int) := xor16 (by omega) (show 1 < 65536 by decide)
   have hf : f = 0 ∨ f = 1 := by omega
   by_cases hn : n = 0
   · have hn' : ((n : Int) = 0) := by omega
     have hp : kA (b &&& tp) = f := by rw [← hv1, hn]; rfl
     have hsh : min (1 : Nat) 16 = 1 := rfl
     have hmt : min (top : Nat) 16 = top := Nat.min_eq_left (by omega)
     have hpow : 2 ^ top ≤ 2 ^ 14 := Nat.pow_le_pow_right (by decide) (by omega)
     have hlt : f * 2 ^ top < 65536 := by rcases hf with rfl | rfl <;> omega
     have hor := or16 (a := b / 2) (b := f * 2 ^ top) (by omega) hlt
     have hdiv : (b : Int).fdiv (2 ^ 1) = ((b / 2 : Nat) : Int) := by
      rw [Int.fdiv_eq_ediv_of_nonneg _ (by decide)]; omega
     have hmul : (f : Int) * 2 ^ top = ((f * 2 ^ top : Nat) : Int) := by push_cast; rfl
     delta c61l1 oO oN oA oM oT oG oR oQ oS oK
     simp (maxSteps := 4000000) -implicitDefEqProofs only [hn', rv61, IntKind.bits, hsh, hmt, hdiv, hmul, hor, Ent.of0, Ent.of1, Ent.of2, Ent.of3, V, W3, ↓reduceIte, Nat.reduceAdd, Nat.reduceSub, Nat.reduceMul, Nat.reduceEqDiff, Nat.reduceLT, Nat.reduceLeDiff, reduceCtorEq, Int.reduceToNat, Nat.reduceBEq]
     simp only [k7, hY, hp]
     exact ⟨by omega, ⟨by omega, inR16 (by omega)⟩, by rw [Nat.and_one_is_mod], trivial⟩
   · have hn' : ¬ ((n : Int) = 0) := by omega
     delta c61l1 oO oN oA oM oT oG oR oQ oS oK
     simp (maxSteps := 4000000) -implicitDefEqProofs only [hn', hx, Ent.of0, Ent.of1, Ent.of2, Ent.of3, V, W3, ↓reduceIte, Nat.reduceAdd, Nat.reduceSub, Nat.reduceMul, Nat.reduceEqDiff, Nat.reduceLT, Nat.reduceLeDiff, reduceCtorEq, Int.reduceToNat, Nat.reduceBEq]
     have hpl := oC hn
     have hand : gD .and .u16 (n : Int) ((n : Int) - 1) = ((n &&& (n - 1) : Nat) : Int) := by
      have := and16 hv2 (show n - 1 < 65536 by omega)
      rwa [show ((n - 1 : Nat) : Int) = (n : Int) - 1 by omega] at this
     refine ⟨inR16 (by omega), (n &&& (n - 1), f ^^^ 1), ⟨?_, by omega, ?_⟩, hpl, rfl, hand⟩
     · rw [← hv1]
       obtain ⟨m, rfl⟩ : ∃ m, n = m + 1 := ⟨n - 1, by omega⟩
       simp only [k8]
       exact xn _ _ _ _ (Nat.le_refl _) (by omega)
     · rcases hf with rfl | rfl
       · show (0 ^^^ 1 : Nat) ≤ 1; decide
       · show (1 ^^^ 1 : Nat) ≤ 1; decide
theorem yf {w : Wire} (hw : w.Ok) : (hY w).Ok := by
 obtain ⟨h1, h2, h3⟩ := hw
 refine ⟨h1, ?_, h3⟩
 show (w.bits / 2) ||| (kA (w.bits &&& w.taps) * 2 ^ w.top) < 2 ^ (w.top + 1)
 have e : 2 ^ (w.top + 1) = 2 * 2 ^ w.top := by rw [Nat.pow_succ]; omega
 refine Nat.or_lt_two_pow (by omega) ?_
 have := qD (w.bits &&& w.taps) (w.bits &&& w.taps) 0 (by omega)
 have hp : kA (w.bits &&& w.taps) ≤ 1 := this
 have hpos : 0 < 2 ^ w.top := Nat.pow_pos (by decide)
 have := Nat.mul_le_mul_right (2 ^ w.top) hp
 omega
def jB (b t p : Int) : Wire := ⟨b.toNat, t.toNat, p.toNat⟩
def rI : Ent Tryz.prog where
 id := 61
 sp := fun args chs => match args, chs with
  | [.ptr k o], [(k', .box [.s (.int .u16 b), .s (.int .u16 t), .s (.int .i64 p)])] => some ((k = 100000 ∧ o = 0 ∧ k' = 100000) ∧ (0 ≤ b ∧ 0 ≤ t ∧ 0 ≤ p) ∧ (jB b t p).Ok, .s (.int .i64 (k7 (jB b t p))), [(100000, .box [.s (.int .u16 ((hY (jB b t p)).bits)), .s (.int .u16 t), .s (.int .i64 p)])], [])
  | _, _ => none
 ok := by
  intro args chs p r chs' nk hs hp
  split at hs
  · simp only [Option.some.injEq, Prod.mk.injEq] at hs
    obtain ⟨rfl, rfl, rfl, rfl⟩ := hs
    obtain ⟨⟨rfl, rfl, rfl⟩, ⟨h1, h2, h3⟩, hw⟩ := hp
    rename_i b t p
    have hc : eq (jB b t p) = [.s (.int .u16 b), .s (.int .u16 t), .s (.int .i64 p)] := by
     simp only [eq, jB, Int.toNat_of_nonneg h1, Int.toNat_of_nonneg h2, Int.toNat_of_nonneg h3]
    have hc' : eq (hY (jB b t p)) = [.s (.int .u16 ((hY (jB b t p)).bits)), .s (.int .u16 t), .s (.int .i64 p)] := by
     simp only [eq, hY, jB, Int.toNat_of_nonneg h2, Int.toNat_of_nonneg h3]
    have := step_c (jB b t p) hw
    rw [hc, hc'] at this
    refine ⟨this, ⟨fun k c h => ?_, fun k cs h => ?_, trivial, fun k c h => ?_⟩⟩
    · simp only [List.mem_singleton, Prod.mk.injEq] at h; exact .inr ⟨_, by rw [h.1]; exact List.mem_singleton.2 rfl⟩
    · simp only [List.mem_singleton, Prod.mk.injEq] at h; exact ⟨_, by rw [h.1]; exact List.mem_singleton.2 rfl⟩
    · simp only [List.mem_singleton, Prod.mk.injEq] at h; rw [h.2]; exact ⟨trivial, trivial, trivial, trivial⟩
  · cases hs
end Go.Proofs.YteoobfmbipmibaaGreat
end
section
open Go Go.Am
open Go.Am.Dat (cells)
namespace Go.Proofs.YteoobfmbipmibaaGreat
set_option maxHeartbeats 4000000
set_option maxRecDepth 100000
def eH (w : Wire) : Nat → Wire
 | 0 => w
 | i + 1 => hY (eH w i)
theorem qx {w : Wire} (h : w.Ok) : ∀ i, (eH w i).Ok
 | 0 => h
 | i + 1 => yf (qx h i)
theorem nj (w : Wire) : ∀ i, (eH w i).taps = w.taps ∧ (eH w i).top = w.top
 | 0 => ⟨rfl, rfl⟩
 | i + 1 => nj w i
def qk (w : Wire) (i : Nat) : List C := [.s (.int .i64 (k7 (eH w i)))]
theorem given_c (w : Wire) (hw : w.Ok) (N : Nat) (hN : 0 < N) : ItC Tryz.prog 82 [.agg (eq w)] [] [] 100000 (qk w) N false := by
 intro l R Rf hy
 refine kn [] is82 (by simp) (by simp) (fun o ho k cs hm => by simp at ho; rw [ho] at hm; simp at hm) (fun cx _ _ _ => dj [] 800 ?_)
 delta c82 oO oN oA oM oT oG oR oQ oS oK
 simp (maxSteps := 4000000) -implicitDefEqProofs only [rv82, eq, List.append_nil, Ent.of0, Ent.of1, Ent.of2, Ent.of3, V, W3, ↓reduceIte, Nat.reduceAdd, Nat.reduceSub, Nat.reduceMul, Nat.reduceEqDiff, Nat.reduceLT, Nat.reduceLeDiff, reduceCtorEq, Int.reduceToNat, Nat.reduceBEq]
 refine iD (α := Nat) (fun i => []) (fun i => [(2, .box (eq (eH w i))), (100000, .res (R i))]) (fun i => i < N) (fun i => N - i) 0 hN ?_ (fun i hi => dj [rI] 800 ?_)
 · simp (maxSteps := 4000000) -implicitDefEqProofs only [eq, eH, Ent.of0, Ent.of1, Ent.of2, Ent.of3, V, W3, ↓reduceIte, Nat.reduceAdd, Nat.reduceSub, Nat.reduceMul, Nat.reduceEqDiff, Nat.reduceLT, Nat.reduceLeDiff, reduceCtorEq, Int.reduceToNat, Nat.reduceBEq]
 · have hok := qx hw i
   have heta : ({ bits := (eH w i).bits, taps := (eH w i).taps, top := (eH w i).top } : Wire) = eH w i := rfl
   delta c82l1 oO oN oA oM oT oG oR oQ oS oK
   simp (maxSteps := 4000000) -implicitDefEqProofs only [rv82, eq, rI, jB, heta, Ent.of0, Ent.of1, Ent.of2, Ent.of3, V, W3, ↓reduceIte, Nat.reduceAdd, Nat.reduceSub, Nat.reduceMul, Nat.reduceEqDiff, Nat.reduceLT, Nat.reduceLeDiff, reduceCtorEq, Int.reduceToNat, Nat.reduceBEq]
   refine ⟨⟨by omega, hok⟩, m8 rfl (OpM.yield (l := l) (kr := 100000) (xs := qk w i) (R := R i) rfl rfl rfl (hy i hi)) (fun ef hef => ?_)⟩
   have hno : ef = cd [(2, .box [.s (.int .u16 (hY (eH w i)).bits), .s (.int .u16 (eH w i).taps), .s (.int .i64 (eH w i).top)]), (100000, .res (R i))] 100000 false Rf ∨
    (i + 1 < N ∧ ef = cd [(2, .box [.s (.int .u16 (hY (eH w i)).bits), .s (.int .u16 (eH w i).taps), .s (.int .i64 (eH w i).top)]), (100000, .res (R i))] 100000 true (R (i + 1))) := by
    by_cases h2 : i + 1 < N
    · rw [if_pos (.inl h2)] at hef
      simp only [bE, List.mem_cons, List.not_mem_nil, or_false] at hef
      rcases hef with h | h
      · exact .inr ⟨h2, h⟩
      · exact .inl h
    · rw [if_neg (by simp [h2])] at hef
      simp only [bE, List.mem_cons, List.not_mem_nil, or_false] at hef
      exact .inl hef
   have hs := nj w i
   rcases hno with rfl | ⟨h2, rfl⟩
   · refine iC [] 800 ?_
     simp (maxSteps := 4000000) -implicitDefEqProofs only [rv82, Ent.of0, Ent.of1, Ent.of2, Ent.of3, V, W3, ↓reduceIte, Nat.reduceAdd, Nat.reduceSub, Nat.reduceMul, Nat.reduceEqDiff, Nat.reduceLT, Nat.reduceLeDiff, reduceCtorEq, Int.reduceToNat, Nat.reduceBEq]
     exact ⟨_, List.mem_cons_self, trivial, rfl, trivial⟩
   · refine iC [] 800 ?_
     simp (maxSteps := 4000000) -implicitDefEqProofs only [rv82, eq, eH, Ent.of0, Ent.of1, Ent.of2, Ent.of3, V, W3, ↓reduceIte, Nat.reduceAdd, Nat.reduceSub, Nat.reduceMul, Nat.reduceEqDiff, Nat.reduceLT, Nat.reduceLeDiff, reduceCtorEq, Int.reduceToNat, Nat.reduceBEq]
     exact ⟨i + 1, h2, by omega, rfl, rfl⟩
end Go.Proofs.YteoobfmbipmibaaGreat
end
section
open Go Go.Am
open Go.Am.Dat (cells)
namespace Go.Proofs.YteoobfmbipmibaaGreat
set_option maxHeartbeats 4000000
set_option maxRecDepth 100000
def eX (l : List Int) (p : Int → Bool) : Int := match l.findIdx? p with | some i => (i : Int) | none => -1
theorem sI (f : FuncId) (p : Int → Bool) (hf : ∀ g, FC Tryz.prog f [enc g] [] (enc (p g)) []) (l : List Int) : FC Tryz.prog 136 [enc l, .fn (.func f) [] []] [] (enc (eX l p)) [] := by
 refine dk is136 (by simp) (fun cx hl => dj [] 800 ?_)
 simp only [V, W3, ↓reduceIte, Nat.reduceAdd, Nat.reduceSub, Nat.reduceMul, Nat.reduceEqDiff, Nat.reduceLT, Nat.reduceLeDiff, reduceCtorEq, Int.reduceToNat, Nat.reduceBEq] at hl
 have hlen := hl.list
 delta c136 oO oN oA oM oT oG oR oQ oS oK
 simp (maxSteps := 4000000) -implicitDefEqProofs only [j7, Ent.of0, Ent.of1, Ent.of2, Ent.of3, V, W3, ↓reduceIte, Nat.reduceAdd, Nat.reduceSub, Nat.reduceMul, Nat.reduceEqDiff, Nat.reduceLT, Nat.reduceLeDiff, reduceCtorEq, Int.reduceToNat, Nat.reduceBEq]
 refine hM l.length (fun i => ⟨[(0, enc l), (1, .fn (.func f) [] []), (7, .s (.int .i64 l.length)), (8, .s (.int .i64 i))], []⟩) (fun i => ∀ j, j < i → p (l.getD j 0) = false) (by omega) ?_
  (fun i hi hv => dj [.of1 f (fun _ => True) (fun g => enc (p g)) (fun _ => trivial) (fun g _ => hf g)] 800 ?_)
 · simp (maxSteps := 4000000) -implicitDefEqProofs only [Ent.of0, Ent.of1, Ent.of2, Ent.of3, V, W3, ↓reduceIte, Nat.reduceAdd, Nat.reduceSub, Nat.reduceMul, Nat.reduceEqDiff, Nat.reduceLT, Nat.reduceLeDiff, reduceCtorEq, Int.reduceToNat, Nat.reduceBEq]; simp
 · delta ku oO oN oA oM oT oG oR oQ oS oK
   simp (maxSteps := 4000000) -implicitDefEqProofs only [InR, Ent.of0, Ent.of1, Ent.of2, Ent.of3, V, W3, ↓reduceIte, Nat.reduceAdd, Nat.reduceSub, Nat.reduceMul, Nat.reduceEqDiff, Nat.reduceLT, Nat.reduceLeDiff, reduceCtorEq, Int.reduceToNat, Nat.reduceBEq]
   by_cases h : i < l.length
   · rw [if_pos (by omega)]
     refine ⟨by omega, ?_⟩
     cases hp : p (l.getD i 0) with
     | true =>
      simp only [if_true]
      have : l.findIdx? p = some i := by
       rw [List.findIdx?_eq_some_iff_getElem]
       rw [List.getD_eq_getElem?_getD, List.getElem?_eq_getElem h] at hp
       refine ⟨h, hp, fun j hj => ?_⟩
       have := hv j hj
       rw [List.getD_eq_getElem?_getD, List.getElem?_eq_getElem (by omega)] at this
       simpa using this
      simp [eX, this]
     | false =>
      simp only [Bool.false_eq_true, if_false]
      refine ⟨by omega, h, fun j hj => ?_, by omega⟩
      by_cases hj2 : j = i
      · rw [hj2]; exact hp
      · exact hv j (by omega)
   · rw [if_neg (by omega)]
     have : l.findIdx? p = none := by
      rw [List.findIdx?_eq_none_iff]
      intro x hx
      obtain ⟨j, hj, rfl⟩ := List.getElem_of_mem hx
      have := hv j (by omega)
      rwa [List.getD_eq_getElem?_getD, List.getElem?_eq_getElem hj] at this
     simp [eX, this]
theorem ql (f : FuncId) (p : Int → Bool) (hf : ∀ g, FC Tryz.prog f [enc g] [] (enc (p g)) []) (l : List Int) : FC Tryz.prog 123 [enc l, .fn (.func f) [] []] [] (enc (l.any p)) [] := by
 let e : Ent Tryz.prog := .mk3 136 (fun args chs => match args, chs with | [x, .fn (.func g) [] []], [] => if g = f then (eW x).bind fun l => some (True, enc (eX l p), [], []) else none | _, _ => none) (by
  intro args chs q r chs' nk h1 h2
  split at h1
  · split at h1
    · rename_i hg; subst hg
      simp only [Option.bind_eq_some_iff, Option.some.injEq, Prod.mk.injEq] at h1
      obtain ⟨a, ha, rfl, rfl, rfl, rfl⟩ := h1
      exact ⟨(sI _ p hf a).le (args' := [_, _]) ⟨eB ha, et _, trivial⟩, .plain trivial⟩
    · cases h1
  · cases h1)
 refine dk is123 (by simp) (fun cx hl => dj [e] 800 ?_)
 delta c123 oO oN oA oM oT oG oR oQ oS oK
 simp (maxSteps := 4000000) -implicitDefEqProofs only [rY, e, Ent.of0, Ent.of1, Ent.of2, Ent.of3, V, W3, ↓reduceIte, Nat.reduceAdd, Nat.reduceSub, Nat.reduceMul, Nat.reduceEqDiff, Nat.reduceLT, Nat.reduceLeDiff, reduceCtorEq, Int.reduceToNat, Nat.reduceBEq]
 unfold eX
 cases hq : l.findIdx? p with
 | none =>
  rw [List.findIdx?_eq_none_iff] at hq
  have : l.any p = false := by simpa using hq
  simp [this]
 | some i =>
  rw [List.findIdx?_eq_some_iff_getElem] at hq
  obtain ⟨h1, h2, _⟩ := hq
  have : l.any p = true := List.any_eq_true.2 ⟨_, List.getElem_mem h1, h2⟩
  simp [this]
def eAnyI (f : FuncId) (p : Int → Bool) (hf : ∀ g, FC Tryz.prog f [enc g] [] (enc (p g)) []) : Ent Tryz.prog := .mk3 123 (fun args chs => match args, chs with | [x, .fn (.func g) [] []], [] => if g = f then (eW x).bind fun l => some (True, enc (List.any l p), [], []) else none | _, _ => none) (by
 intro args chs q r chs' nk h1 h2
 split at h1
 · split at h1
   · rename_i hg; subst hg
     simp only [Option.bind_eq_some_iff, Option.some.injEq, Prod.mk.injEq] at h1
     obtain ⟨a, ha, rfl, rfl, rfl, rfl⟩ := h1
     exact ⟨(ql _ p hf a).le (args' := [_, _]) ⟨eB ha, et _, trivial⟩, .plain trivial⟩
   · cases h1
 · cases h1)
def iY (b : Int) : Bool := decide (0 ≤ b ∧ b ≤ 1)
theorem sX (b : Int) : FC Tryz.prog 127 [enc b] [] (enc (!iY b)) [] := by
 refine dk is127 (by simp) (fun cx hl => dj [fR] 800 ?_)
 delta c127 oO oN oA oM oT oG oR oQ oS oK
 simp (maxSteps := 4000000) -implicitDefEqProofs only [rv127, fR, InR, Ent.of0, Ent.of1, Ent.of2, Ent.of3, V, W3, ↓reduceIte, Nat.reduceAdd, Nat.reduceSub, Nat.reduceMul, Nat.reduceEqDiff, Nat.reduceLT, Nat.reduceLeDiff, reduceCtorEq, Int.reduceToNat, Nat.reduceBEq]
 rfl
theorem wB (l : List Int) : FC Tryz.prog 103 [enc l] [] (enc (l.all iY)) [] := by
 refine dk is103 (by simp) (fun cx hl => dj [eAnyI 127 _ sX] 800 ?_)
 delta c103 oO oN oA oM oT oG oR oQ oS oK
 simp (maxSteps := 4000000) -implicitDefEqProofs only [rv103, eAnyI, Ent.of0, Ent.of1, Ent.of2, Ent.of3, V, W3, ↓reduceIte, Nat.reduceAdd, Nat.reduceSub, Nat.reduceMul, Nat.reduceEqDiff, Nat.reduceLT, Nat.reduceLeDiff, reduceCtorEq, Int.reduceToNat, Nat.reduceBEq]
 rw [List.not_any_eq_all_not]
 simp
def p6 : Ent Tryz.prog := .of1 103 (fun _ => True) (fun l : List Int => enc (l.all iY)) (fun _ => trivial) (fun l _ => wB l)
theorem xL (l : List Int) : FC Tryz.prog 58 [enc l] [] (enc (eb l)) [] := by
 refine dk is58 (by simp) (fun cx hl => dj [p6, dQ, ew] 800 ?_)
 delta c58 oO oN oA oM oT oG oR oQ oS oK
 simp (maxSteps := 4000000) -implicitDefEqProofs only [rv58, p6, dQ, ew, Ent.of0, Ent.of1, Ent.of2, Ent.of3, V, W3, ↓reduceIte, Nat.reduceAdd, Nat.reduceSub, Nat.reduceMul, Nat.reduceEqDiff, Nat.reduceLT, Nat.reduceLeDiff, reduceCtorEq, Int.reduceToNat, Nat.reduceBEq]
 have hb : l.all iY = l.all fun b => decide (b = 0 ∨ b = 1) := by
  congr 1; funext b; unfold iY; grind
 rw [hb]
 unfold eb
 simp only [dl]
 grind
def n7 : Ent Tryz.prog := .of1 58 (fun _ => True) (fun l : List Int => enc (eb l)) (fun _ => trivial) (fun l _ => xL l)
structure Reg where
 length : Int
 taps : List Int
 state : List Int
instance : DatL Reg where
 sz := 3
 agg := true
 cells g := [.s (.int .i64 g.length), .sl 1 (g.taps.map cells), .sl 1 (g.state.map cells)]
 dec | [.s (.int .i64 a), .sl 1 t, .sl 1 s] => (eo t).bind fun t' => (eo s).map fun s' => ⟨a, t', s'⟩ | _ => none
 ok := by
  intro l a h
  split at h
  · simp only [Option.bind_eq_some_iff, Option.map_eq_some_iff] at h
    obtain ⟨t', h1, s', h2, rfl⟩ := h
    rw [dV h1, dV h2]
  · cases h
 data := fun a => rfl
 one := fun h => by cases h
 dec_cells := fun a => by simp [g0]
theorem gk (g : Reg) : enc g = .agg [.s (.int .i64 g.length), .sl 1 (g.taps.map cells), .sl 1 (g.state.map cells)] := rfl
theorem fX (a : Int) (t s : List (List C)) : eW (.agg [C.s (.int .i64 a), .sl 1 t, .sl 1 s]) = (eo t).bind fun t' => (eo s).map fun s' => (⟨a, t', s'⟩ : Reg) := rfl
def dO (len : Int) (last : Int) : List Int → Int
 | [] => 0
 | t :: l => if ¬ (0 ≤ t ∧ t ≤ len - 1) then 2 else if ¬ (last < t) then 9 else dO len t l
def eA (r : Reg) : Int :=
 if ¬ (2 ≤ r.length ∧ r.length ≤ 10) then 2 else if r.taps.length = 0 then 10 else
 if dO r.length (-1) r.taps ≠ 0 then dO r.length (-1) r.taps else
 if r.taps.getD 0 0 ≠ 0 then 3 else if (r.state.length : Int) ≠ r.length then 10 else if r.state.all iY then 0 else 15
theorem pr (r : Reg) : FC Tryz.prog 57 [enc r] [] (enc (eA r)) [] := by
 obtain ⟨len, taps, state⟩ := r
 refine dk is57 (by simp) (fun cx hl => dj [fR, ew, dQ] 800 ?_)
 simp only [gk, V, W3, ↓reduceIte, Nat.reduceAdd, Nat.reduceSub, Nat.reduceMul, Nat.reduceEqDiff, Nat.reduceLT, Nat.reduceLeDiff, reduceCtorEq, Int.reduceToNat, Nat.reduceBEq] at hl
 have hlen := hl.1.list
 have hlen2 := hl.2.list
 delta c57 oO oN oA oM oT oG oR oQ oS oK
 simp (maxSteps := 4000000) -implicitDefEqProofs only [rv57, fR, ew, dQ, gk, Ent.of0, Ent.of1, Ent.of2, Ent.of3, V, W3, ↓reduceIte, Nat.reduceAdd, Nat.reduceSub, Nat.reduceMul, Nat.reduceEqDiff, Nat.reduceLT, Nat.reduceLeDiff, reduceCtorEq, Int.reduceToNat, Nat.reduceBEq]
 by_cases h0 : 2 ≤ len ∧ len ≤ 10
 · by_cases h1 : 0 < taps.length
   · have h1' : (0 : Int) < (taps.length : Int) := by omega
     simp only [h0, h1', and_self, if_true, dl, ne_eq, not_true, if_false]
     have hr : eA ⟨len, taps, state⟩ = if dO len (-1) taps ≠ 0 then dO len (-1) taps else if taps.getD 0 0 ≠ 0 then 3 else if (state.length : Int) ≠ len then 10 else if state.all iY then 0 else 15 := by
      unfold eA
      simp only
      rw [if_neg (fun h => h h0), if_neg (by omega)]
     rw [hr]
     refine iD (α := Nat × Int) (fun v => [(25, .s (.int .i64 (v.1 : Int))), (4, .s (.int .i64 v.2))]) (fun _ => []) (fun v => v.1 ≤ taps.length ∧ dO len (-1) taps = dO len v.2 (taps.drop v.1)) (fun v => taps.length - v.1) (0, -1) ⟨by omega, rfl⟩ ?_ (fun v hv => dj [fR, ew, dQ, p6] 800 ?_)
     · simp (maxSteps := 4000000) -implicitDefEqProofs only [Ent.of0, Ent.of1, Ent.of2, Ent.of3, V, W3, ↓reduceIte, Nat.reduceAdd, Nat.reduceSub, Nat.reduceMul, Nat.reduceEqDiff, Nat.reduceLT, Nat.reduceLeDiff, reduceCtorEq, Int.reduceToNat, Nat.reduceBEq]; simp
     · obtain ⟨i, last⟩ := v
       obtain ⟨hv1, hv2⟩ := hv
       simp only at hv1 hv2
       by_cases h : i < taps.length
       · have hi : ((i : Int) < (taps.length : Int)) := by omega
         rw [dT 0 h, dO] at hv2
         delta c57l1 oO oN oA oM oT oG oR oQ oS oK
         simp (maxSteps := 4000000) -implicitDefEqProofs only [rv57, hi, h, fR, ew, dQ, InR, Ent.of0, Ent.of1, Ent.of2, Ent.of3, V, W3, ↓reduceIte, Nat.reduceAdd, Nat.reduceSub, Nat.reduceMul, Nat.reduceEqDiff, Nat.reduceLT, Nat.reduceLeDiff, reduceCtorEq, Int.reduceToNat, Nat.reduceBEq]
         generalize taps.getD i 0 = t at *
         refine ⟨by omega, by omega, ?_⟩
         by_cases ht : 0 ≤ t ∧ t ≤ len - 1
         · by_cases hlt : last < t
           · simp only [ht, hlt, and_self, if_true, not_true, if_false] at hv2 ⊢
             simp only [dl, ne_eq, not_true, if_false]
             exact ⟨by omega, (i + 1, t), ⟨h, hv2⟩, by simp only; omega, rfl, by push_cast; rfl⟩
           · simp only [ht, hlt, and_self, if_true, not_true, not_false_eq_true, if_false] at hv2 ⊢
             simp [dl, hv2]
         · simp only [ht, if_true, not_false_eq_true, if_false] at hv2 ⊢
           simp [dl, hv2]
       · have hi : ¬ ((i : Int) < (taps.length : Int)) := by omega
         rw [List.drop_eq_nil_of_le (by omega), dO] at hv2
         delta c57l1 oO oN oA oM oT oG oR oQ oS oK
         simp (maxSteps := 4000000) -implicitDefEqProofs only [rv57, hi, h1, fR, ew, dQ, p6, InR, Ent.of0, Ent.of1, Ent.of2, Ent.of3, V, W3, ↓reduceIte, Nat.reduceAdd, Nat.reduceSub, Nat.reduceMul, Nat.reduceEqDiff, Nat.reduceLT, Nat.reduceLeDiff, reduceCtorEq, Int.reduceToNat, Nat.reduceBEq]
         refine ⟨by omega, ?_⟩
         rw [hv2]
         simp only [dl]
         grind
   · have h1' : ¬ (0 : Int) < (taps.length : Int) := by omega
     simp only [h0, h1', and_self, if_true, dl, ne_eq, not_true, if_false]
     unfold eA
     simp [h0, show taps = [] by simpa using h1]
 · simp only [h0, if_false, dl, ne_eq]
   unfold eA
   simp [h0]
def sc : Ent Tryz.prog := .of1 57 (fun _ => True) (fun r : Reg => enc (eA r)) (fun _ => trivial) (fun r _ => pr r)
end Go.Proofs.YteoobfmbipmibaaGreat
end
section
open Go Go.Am
open Go.Am.Dat (cells)
namespace Go.Proofs.YteoobfmbipmibaaGreat
set_option maxHeartbeats 4000000
set_option maxRecDepth 100000
structure RegOk (r : Reg) : Prop where
 len : 2 ≤ r.length ∧ r.length ≤ 10
 ne : 0 < r.taps.length
 taps : ∀ t ∈ r.taps, 0 ≤ t ∧ t ≤ r.length - 1
 inc : r.taps.Pairwise (· < ·)
 zero : r.taps.getD 0 0 = 0
 stl : (r.state.length : Int) = r.length
 bits : ∀ b ∈ r.state, b = 0 ∨ b = 1
theorem mN {len : Int} : ∀ {l : List Int} {last : Int}, dO len last l = 0 → (∀ t ∈ l, (0 ≤ t ∧ t ≤ len - 1) ∧ last < t) ∧ l.Pairwise (· < ·)
 | [], _, _ => ⟨fun t h => by simp at h, .nil⟩
 | t :: l, last, h => by
  simp only [dO] at h
  split at h
  · cases h
  · split at h
    · cases h
    · rename_i h1 h2
      obtain ⟨g1, g2⟩ := mN h
      refine ⟨fun x hx => ?_, List.pairwise_cons.2 ⟨fun x hx => (g1 x hx).2, g2⟩⟩
      rcases List.mem_cons.1 hx with e | e
      · rw [e]; exact ⟨by simpa using h1, by simpa using h2⟩
      · have := g1 x e
        exact ⟨this.1, by have h3 : last < t := by simpa using h2
                          omega⟩
theorem lh {r : Reg} (h : eA r = 0) : RegOk r := by
 unfold eA at h
 split at h
 · cases h
 · split at h
   · cases h
   · split at h
     · contradiction
     · split at h
       · cases h
       · split at h
         · cases h
         · split at h
           · rename_i h1 h2 h3 h4 h5 h6
             have g := mN (by simpa using h3 : dO r.length (-1) r.taps = 0)
             refine ⟨by simpa using h1, by omega, fun t ht => (g.1 t ht).1, g.2, by simpa using h4, by simpa using h5, fun b hb => ?_⟩
             have := List.all_eq_true.1 h6 b hb
             simp only [iY, decide_eq_true_eq] at this
             omega
           · cases h
def fw (l : List Int) : Nat → Nat
 | 0 => 0
 | i + 1 => fw l i ||| ((l.getD i 0).toNat * 2 ^ i)
def fT (l : List Int) : Nat → Nat
 | 0 => 0
 | i + 1 => fT l i ||| 2 ^ (l.getD i 0).toNat
def eh (r : Reg) : Wire := ⟨fw r.state r.state.length, fT r.taps r.taps.length, (r.length - 1).toNat⟩
theorem gU {l : List Int} (h : ∀ b ∈ l, b = 0 ∨ b = 1) (i : Nat) : l.getD i 0 = 0 ∨ l.getD i 0 = 1 := by
 rw [List.getD_eq_getElem?_getD]
 cases hi : l[i]? with
 | none => left; rfl
 | some b => exact h b (List.mem_of_getElem? hi)
theorem pa {l : List Int} (h : ∀ b ∈ l, b = 0 ∨ b = 1) : ∀ i, fw l i < 2 ^ i
 | 0 => by simp [fw]
 | i + 1 => by
  have h1 := pa h i
  have e : 2 ^ (i + 1) = 2 * 2 ^ i := by rw [Nat.pow_succ]; omega
  refine Nat.or_lt_two_pow (by omega) ?_
  have hp : 0 < 2 ^ i := Nat.pow_pos (by decide)
  rcases gU h i with g | g <;> rw [g] <;> simp <;> omega
theorem o4 {l : List Int} {m : Nat} (h : ∀ t ∈ l, 0 ≤ t ∧ t < (m : Int)) : ∀ i, i ≤ l.length → fT l i < 2 ^ m
 | 0, _ => by simp [fT]; exact Nat.pow_pos (by decide)
 | i + 1, hi => by
  refine Nat.or_lt_two_pow (o4 h i (by omega)) ?_
  have hm : l.getD i 0 ∈ l := by rw [List.getD_eq_getElem?_getD, List.getElem?_eq_getElem (by omega)]; exact List.getElem_mem _
  have := h _ hm
  exact Nat.pow_lt_pow_right (by decide) (by omega)
theorem pe {r : Reg} (h : RegOk r) : (eh r).Ok := by
 have hl := h.len
 have hs := h.stl
 refine ⟨by show (r.length - 1).toNat < 15; omega, ?_, ?_⟩
 · show fw r.state r.state.length < 2 ^ ((r.length - 1).toNat + 1)
   rw [show (r.length - 1).toNat + 1 = r.state.length by omega]
   exact pa h.bits _
 · show fT r.taps r.taps.length < 65536
   refine Nat.lt_of_lt_of_le (o4 (m := 10) (fun t ht => ?_) _ (Nat.le_refl _)) (by decide)
   have := h.taps t ht
   omega
theorem zG (r : Reg) (hr : RegOk r) : FC Tryz.prog 60 [enc r] [] (.agg (eq (eh r))) [] := by
 have hw := pe hr
 have hbits := hr.bits
 have htaps := hr.taps
 have hlen0 := hr.len
 have hst := hr.stl
 obtain ⟨len, taps, state⟩ := r
 simp only at hbits htaps hlen0 hst
 refine dk is60 (by simp) (fun cx hl => dj [] 800 ?_)
 simp only [gk, V, W3, ↓reduceIte, Nat.reduceAdd, Nat.reduceSub, Nat.reduceMul, Nat.reduceEqDiff, Nat.reduceLT, Nat.reduceLeDiff, reduceCtorEq, Int.reduceToNat, Nat.reduceBEq] at hl
 have hlen := hl.1.list
 have hlen2 := hl.2.list
 delta c60 oO oN oA oM oT oG oR oQ oS oK
 simp (maxSteps := 4000000) -implicitDefEqProofs only [rv60, gk, InR, Ent.of0, Ent.of1, Ent.of2, Ent.of3, V, W3, ↓reduceIte, Nat.reduceAdd, Nat.reduceSub, Nat.reduceMul, Nat.reduceEqDiff, Nat.reduceLT, Nat.reduceLeDiff, reduceCtorEq, Int.reduceToNat, Nat.reduceBEq]
 refine ⟨by omega, ?_⟩
 refine dE state.length (fun i => [(15, .s (.int .i64 (i : Int)))]) (fun i => [(3, .box [.s (.int .u16 (fw state i : Int)), .s (.int .u16 0), .s (.int .i64 (len - 1))])]) (fun i => True) trivial ?_ (fun i hi _ => dj [] 800 ?_)
 · simp (maxSteps := 4000000) -implicitDefEqProofs only [fw, Ent.of0, Ent.of1, Ent.of2, Ent.of3, V, W3, ↓reduceIte, Nat.reduceAdd, Nat.reduceSub, Nat.reduceMul, Nat.reduceEqDiff, Nat.reduceLT, Nat.reduceLeDiff, reduceCtorEq, Int.reduceToNat, Nat.reduceBEq]; simp
 · by_cases h : i < state.length
   · have hi : ((i : Int) < (state.length : Int)) := by omega
     have hb := gU hbits i
     have hpl : 2 ^ i ≤ 2 ^ 10 := Nat.pow_le_pow_right (by decide) (by omega)
     have hbl := pa hbits i
     have hmin : min i IntKind.u16.bits = i := Nat.min_eq_left (by show i ≤ 16; omega)
     have hbit : gD .or .u16 (fw state i : Int) (state.getD i 0 * 2 ^ i) = (fw state (i + 1) : Int) := by
      have := or16 (a := fw state i) (b := (state.getD i 0).toNat * 2 ^ i) (by omega) (by rcases hb with g | g <;> rw [g] <;> simp <;> omega)
      rw [fw, ← this]
      congr 1
      rcases hb with g | g <;> rw [g] <;> simp
     have hmul : 0 ≤ state.getD i 0 * 2 ^ i ∧ state.getD i 0 * 2 ^ i ≤ 65535 := by
      have : ((2 ^ i : Nat) : Int) = (2 : Int) ^ i := by push_cast; rfl
      rcases hb with g | g <;> rw [g] <;> omega
     delta c60l1 oO oN oA oM oT oG oR oQ oS oK
     simp (maxSteps := 4000000) -implicitDefEqProofs only [rv60, hi, h, hmin, hbit, InR, Ent.of0, Ent.of1, Ent.of2, Ent.of3, V, W3, ↓reduceIte, Nat.reduceAdd, Nat.reduceSub, Nat.reduceMul, Nat.reduceEqDiff, Nat.reduceLT, Nat.reduceLeDiff, reduceCtorEq, Int.reduceToNat, Nat.reduceBEq]
     exact ⟨by omega, by omega, ⟨by omega, hmul⟩, by omega, by push_cast; rfl⟩
   · have hi : ¬ ((i : Int) < (state.length : Int)) := by omega
     have hie : i = state.length := by omega
     delta c60l1 oO oN oA oM oT oG oR oQ oS oK
     simp (maxSteps := 4000000) -implicitDefEqProofs only [rv60, hi, InR, Ent.of0, Ent.of1, Ent.of2, Ent.of3, V, W3, ↓reduceIte, Nat.reduceAdd, Nat.reduceSub, Nat.reduceMul, Nat.reduceEqDiff, Nat.reduceLT, Nat.reduceLeDiff, reduceCtorEq, Int.reduceToNat, Nat.reduceBEq]
     subst hie
     refine dE taps.length (fun i => [(32, .s (.int .i64 (i : Int)))]) (fun i => [(3, .box [.s (.int .u16 (fw state state.length : Int)), .s (.int .u16 (fT taps i : Int)), .s (.int .i64 (len - 1))])]) (fun i => True) trivial ?_ (fun i hi _ => dj [] 800 ?_)
     · simp (maxSteps := 4000000) -implicitDefEqProofs only [fT, Ent.of0, Ent.of1, Ent.of2, Ent.of3, V, W3, ↓reduceIte, Nat.reduceAdd, Nat.reduceSub, Nat.reduceMul, Nat.reduceEqDiff, Nat.reduceLT, Nat.reduceLeDiff, reduceCtorEq, Int.reduceToNat, Nat.reduceBEq]; simp
     · by_cases h : i < taps.length
       · have hi : ((i : Int) < (taps.length : Int)) := by omega
         have htm : taps.getD i 0 ∈ taps := by rw [List.getD_eq_getElem?_getD, List.getElem?_eq_getElem h]; exact List.getElem_mem _
         have ht := htaps _ htm
         have htl := o4 (l := taps) (m := 10) (fun t ht => by have := htaps t ht; omega) i (by omega)
         have hmin : min (taps.getD i 0).toNat IntKind.u16.bits = (taps.getD i 0).toNat := Nat.min_eq_left (by show _ ≤ 16; omega)
         have hpl : 2 ^ (taps.getD i 0).toNat ≤ 2 ^ 9 := Nat.pow_le_pow_right (by decide) (by omega)
         have hpc : ((2 ^ (taps.getD i 0).toNat : Nat) : Int) = (2 : Int) ^ (taps.getD i 0).toNat := by push_cast; rfl
         have hbit : gD .or .u16 (fT taps i : Int) (1 * 2 ^ (taps.getD i 0).toNat) = (fT taps (i + 1) : Int) := by
          have := or16 (a := fT taps i) (b := 2 ^ (taps.getD i 0).toNat) (by omega) (by omega)
          rw [fT, ← this, hpc, Int.one_mul]
         delta c60l2 oO oN oA oM oT oG oR oQ oS oK
         simp (maxSteps := 4000000) -implicitDefEqProofs only [rv60, hi, h, hmin, hbit, InR, Ent.of0, Ent.of1, Ent.of2, Ent.of3, V, W3, ↓reduceIte, Nat.reduceAdd, Nat.reduceSub, Nat.reduceMul, Nat.reduceEqDiff, Nat.reduceLT, Nat.reduceLeDiff, reduceCtorEq, Int.reduceToNat, Nat.reduceBEq]
         obtain ⟨q, hq⟩ : ∃ q : Nat, 2 ^ (taps.getD i 0).toNat = q := ⟨_, rfl⟩
         rw [hq] at hpc hpl
         rw [← hpc]
         exact ⟨by omega, ⟨by omega, by omega, by omega⟩, by omega, by push_cast; rfl⟩
       · have hi : ¬ ((i : Int) < (taps.length : Int)) := by omega
         have hie : i = taps.length := by omega
         subst hie
         have htop : ((len - 1).toNat : Int) = len - 1 := Int.toNat_of_nonneg (by omega)
         delta c60l2 oO oN oA oM oT oG oR oQ oS oK
         simp (maxSteps := 4000000) -implicitDefEqProofs only [rv60, hi, eq, eh, htop, InR, Ent.of0, Ent.of1, Ent.of2, Ent.of3, V, W3, ↓reduceIte, Nat.reduceAdd, Nat.reduceSub, Nat.reduceMul, Nat.reduceEqDiff, Nat.reduceLT, Nat.reduceLeDiff, reduceCtorEq, Int.reduceToNat, Nat.reduceBEq]
def rU : Ent Tryz.prog := .of1 60 RegOk (fun r : Reg => .agg [.s (.int .u16 (eh r).bits), .s (.int .u16 (eh r).taps), .s (.int .i64 (eh r).top)]) (fun _ => ⟨trivial, trivial, trivial, trivial⟩) (fun r h => zG r h)
end Go.Proofs.YteoobfmbipmibaaGreat
end
section
open Go Go.Am
open Go.Am.Dat (cells)
namespace Go.Proofs.YteoobfmbipmibaaGreat
set_option maxHeartbeats 4000000
set_option maxRecDepth 100000
def jc (w : Wire) (n : Nat) : List Int := (List.range n).map fun i => (k7 (eH w i) : Int)
theorem xV (w : Wire) (n : Nat) : jc w (n + 1) = jc w n ++ [(k7 (eH w n) : Int)] := by simp [jc, List.range_succ]
def fb (r : Reg) (n : Int) : Int := if eA r ≠ 0 then eA r else if 1 ≤ n ∧ n ≤ 400 then 0 else 2
theorem vE (r : Reg) (n : Int) : FC Tryz.prog 34 [enc r, enc n] [] (.tup [enc (if fb r n = 0 then jc (eh r) n.toNat else []), enc (fb r n)]) [] := by
 refine dF [] is34 (by simp) trivial trivial trivial trivial (fun cx hcx hl _ => dj [sc, fR, ew, dQ, rU] 800 ?_)
 obtain ⟨len, taps, state⟩ := r
 have hfs : dl [eA ⟨len, taps, state⟩, if 1 ≤ n ∧ n ≤ 400 then 0 else 2] = fb ⟨len, taps, state⟩ n := by
  unfold fb
  simp only [dl]
  grind
 delta c34 oO oN oA oM oT oG oR oQ oS oK
 simp (maxSteps := 4000000) -implicitDefEqProofs only [rv34, sc, fR, ew, dQ, rU, gk, fX, hfs, InR, Ent.of0, Ent.of1, Ent.of2, Ent.of3, V, W3, ↓reduceIte, Nat.reduceAdd, Nat.reduceSub, Nat.reduceMul, Nat.reduceEqDiff, Nat.reduceLT, Nat.reduceLeDiff, reduceCtorEq, Int.reduceToNat, Nat.reduceBEq]
 by_cases he : fb ⟨len, taps, state⟩ n = 0
 · have hre : eA ⟨len, taps, state⟩ = 0 := by
    unfold fb at he
    split at he
    · contradiction
    · rename_i h; simpa using h
   have hn : 1 ≤ n ∧ n ≤ 400 := by
    unfold fb at he
    rw [if_neg (by simpa using hre)] at he
    split at he
    · assumption
    · cases he
   have hok := pe (lh hre)
   rw [if_neg (fun h => h he), if_pos he]
   refine ⟨lh hre, ?_⟩
   generalize eh ⟨len, taps, state⟩ = w at hok
   obtain ⟨N, rfl⟩ : ∃ N : Nat, n = (N : Int) := ⟨n.toNat, by omega⟩
   refine S_sh 200000 (by rw [hcx.2.2]; exact Nat.le_refl _) (by rfl) ?_
   simp (maxSteps := 4000000) -implicitDefEqProofs only [Ent.of0, Ent.of1, Ent.of2, Ent.of3, V, W3, ↓reduceIte, Nat.reduceAdd, Nat.reduceSub, Nat.reduceMul, Nat.reduceEqDiff, Nat.reduceLT, Nat.reduceLeDiff, reduceCtorEq, Int.reduceToNat, Nat.reduceBEq]
   refine j5 (f := 82) (first := [.agg (eq w)]) (caps := []) (ich := []) (kr := 100000) (vals := qk w) (N := N) (fin := false) [200007, 200003]
    (fun i => [(200007, .box [if i = 0 then .s (.slice none 0 0) else .isl 1 3 ((jc w i).map cells)]), (200003, .box [.s (.int .i64 (N : Int))])])
    hcx.2.1 rfl (given_c w hok N (by omega)) ⟨⟨rfl, trivial⟩, trivial⟩ ⟨fun c hc => ?_, fun k c hc => by simp at hc⟩ ?_ (fun i hi => ?_) (fun k hk => ?_) (fun i hi => ?_) (fun i hi cx' _ hcx' => dj [] 800 ?_) (fun h => by cases h)
   · simp only [List.append_nil, List.mem_singleton] at hc; subst hc; exact ⟨trivial, trivial, trivial, trivial⟩
   · simp (maxSteps := 4000000) -implicitDefEqProofs only [Ent.of0, Ent.of1, Ent.of2, Ent.of3, V, W3, ↓reduceIte, Nat.reduceAdd, Nat.reduceSub, Nat.reduceMul, Nat.reduceEqDiff, Nat.reduceLT, Nat.reduceLeDiff, reduceCtorEq, Int.reduceToNat, Nat.reduceBEq]
   · simp (maxSteps := 4000000) -implicitDefEqProofs only [Ent.of0, Ent.of1, Ent.of2, Ent.of3, V, W3, ↓reduceIte, Nat.reduceAdd, Nat.reduceSub, Nat.reduceMul, Nat.reduceEqDiff, Nat.reduceLT, Nat.reduceLeDiff, reduceCtorEq, Int.reduceToNat, Nat.reduceBEq]
     simp
   · rw [hcx.2.2]
     simp only [List.mem_cons, List.not_mem_nil, or_false] at hk
     omega
   · refine ⟨rfl, fun c hc => ?_⟩
     simp only [qk, List.mem_singleton] at hc; subst hc; trivial
   · simp (maxSteps := 4000000) -implicitDefEqProofs only [qk, Ent.of0, Ent.of1, Ent.of2, Ent.of3, V, W3, ↓reduceIte, Nat.reduceAdd, Nat.reduceSub, Nat.reduceMul, Nat.reduceEqDiff, Nat.reduceLT, Nat.reduceLeDiff, reduceCtorEq, Int.reduceToNat, Nat.reduceBEq]
     intro cx'' _ _
     refine dj [] 800 ?_
     have hlen : (jc w i).length = i := by simp [jc]
     have hNl : N ≤ 400 := by omega
     cases i with
     | zero =>
      have h1 : [[C.s (.int .i64 (k7 (eH w 0) : Int))]] = (jc w 1).map cells := by simp [jc, List.range_succ, ko]
      delta c34r1 oO oN oA oM oT oG oR oQ oS oK
      simp (maxSteps := 4000000) -implicitDefEqProofs only [InR, Ent.of0, Ent.of1, Ent.of2, Ent.of3, V, W3, ↓reduceIte, Nat.reduceAdd, Nat.reduceSub, Nat.reduceMul, Nat.reduceEqDiff, Nat.reduceLT, Nat.reduceLeDiff, reduceCtorEq, Int.reduceToNat, Nat.reduceBEq]
      refine ⟨by decide, ?_⟩
      rw [h1]
      split
      · rename_i hN
        have hN1 : N = 1 := by omega
        subst hN1
        refine ⟨.inr trivial, nZ 200007 rfl (dj [] 800 ?_)⟩
        simp (maxSteps := 4000000) -implicitDefEqProofs only [rv34, he, Ent.of0, Ent.of1, Ent.of2, Ent.of3, V, W3, ↓reduceIte, Nat.reduceAdd, Nat.reduceSub, Nat.reduceMul, Nat.reduceEqDiff, Nat.reduceLT, Nat.reduceLeDiff, reduceCtorEq, Int.reduceToNat, Nat.reduceBEq]
      · exact ⟨.inl (by omega), rfl⟩
     | succ i =>
      have h1 : (jc w (i + 1)).map cells ++ [[C.s (.int .i64 (k7 (eH w (i + 1)) : Int))]] = (jc w (i + 1 + 1)).map cells := by rw [xV w (i + 1), List.map_append]; rfl
      have hl3 : (jc w (i + 1 + 1)).length = i + 1 + 1 := by simp [jc]
      delta c34r1 oO oN oA oM oT oG oR oQ oS oK
      simp (maxSteps := 4000000) -implicitDefEqProofs only [hlen, Nat.succ_ne_zero, InR, h1, Ent.of0, Ent.of1, Ent.of2, Ent.of3, V, W3, ↓reduceIte, Nat.reduceAdd, Nat.reduceSub, Nat.reduceMul, Nat.reduceEqDiff, Nat.reduceLT, Nat.reduceLeDiff, reduceCtorEq, Int.reduceToNat, Nat.reduceBEq]
      refine ⟨⟨by decide, by omega, by omega⟩, by decide, ?_⟩
      split
      · rename_i hN
        have hN1 : N = i + 1 + 1 := by omega
        subst hN1
        refine ⟨.inr trivial, nZ 200007 rfl (dj [] 800 ?_)⟩
        simp (maxSteps := 4000000) -implicitDefEqProofs only [rv34, he, Ent.of0, Ent.of1, Ent.of2, Ent.of3, V, W3, ↓reduceIte, Nat.reduceAdd, Nat.reduceSub, Nat.reduceMul, Nat.reduceEqDiff, Nat.reduceLT, Nat.reduceLeDiff, reduceCtorEq, Int.reduceToNat, Nat.reduceBEq]
      · exact .inl (by omega)
 · rw [if_pos he, if_neg he]
   trivial
def ent34 : Ent Tryz.prog := .of2 34 (fun _ _ => True) (fun (r : Reg) (n : Int) => .tup [enc (if fb r n = 0 then jc (eh r) n.toNat else []), enc (fb r n)]) (fun _ _ => ⟨trivial, trivial, trivial⟩) (fun r n _ => vE r n)
end Go.Proofs.YteoobfmbipmibaaGreat
end
section
open Go Go.Am
open Go.Am.Dat (cells)
namespace Go.Proofs.YteoobfmbipmibaaGreat
set_option maxHeartbeats 4000000
set_option maxRecDepth 100000
theorem tV {a : Nat} (ha : a < 9223372036854775808) : IntKind.wrap .i64 (a : Int) = a := by
 show (if (true && decide ((a : Int) % 18446744073709551616 ≥ 9223372036854775808)) = true then (a : Int) % 18446744073709551616 - 18446744073709551616 else (a : Int) % 18446744073709551616) = a
 rw [if_neg (by simp; omega)]
 omega
theorem of64 {a : Nat} (ha : a < 18446744073709551616) : (BitVec.ofInt 64 (a : Int)).toNat = a := by
 rw [BitVec.ofInt_natCast, BitVec.toNat_ofNat]
 exact Nat.mod_eq_of_lt ha
theorem and64_1 {a : Nat} (ha : a < 9223372036854775808) : gD .and .i64 (a : Int) 1 = ((a % 2 : Nat) : Int) := by
 show IntKind.wrap .i64 ((BitVec.ofInt 64 (a : Int) &&& BitVec.ofInt 64 ((1 : Nat) : Int)).toNat : Int) = _
 rw [BitVec.toNat_and, of64 (by omega), of64 (by decide), Nat.and_one_is_mod]
 exact tV (by omega)
def dZ (n c : Nat) : Nat → List Int
 | 0 => []
 | k + 1 => dZ n c k ++ [((n / 2 ^ (c - 1 - k) % 2 : Nat) : Int)]
theorem jQ (n c : Nat) : ∀ k, (dZ n c k).length = k
 | 0 => rfl
 | k + 1 => by simp [dZ, jQ n c k]
theorem zf (n c : Nat) (hn : n < 4096) (hc : c ≤ 12) : FC Tryz.prog 130 [enc (n : Int), enc (c : Int)] [] (enc (dZ n c c)) [] := by
 refine dk is130 (by simp) (fun cx hl => dj [] 800 ?_)
 delta c130 oO oN oA oM oT oG oR oQ oS oK
 simp (maxSteps := 4000000) -implicitDefEqProofs only [rv130, InR, Ent.of0, Ent.of1, Ent.of2, Ent.of3, V, W3, ↓reduceIte, Nat.reduceAdd, Nat.reduceSub, Nat.reduceMul, Nat.reduceEqDiff, Nat.reduceLT, Nat.reduceLeDiff, reduceCtorEq, Int.reduceToNat, Nat.reduceBEq]
 refine ⟨by omega, ?_⟩
 refine dE c (fun k => [(6, .s (.int .i64 ((c : Int) - 1 - k)))]) (fun k => [(5, .row 1 3 ((dZ n c k).map cells))]) (fun _ => True) trivial ?_ (fun k hk _ => dj [] 800 ?_)
 · simp (maxSteps := 4000000) -implicitDefEqProofs only [dZ, Ent.of0, Ent.of1, Ent.of2, Ent.of3, V, W3, ↓reduceIte, Nat.reduceAdd, Nat.reduceSub, Nat.reduceMul, Nat.reduceEqDiff, Nat.reduceLT, Nat.reduceLeDiff, reduceCtorEq, Int.reduceToNat, Nat.reduceBEq]; simp
 · by_cases h : k < c
   · have hi : ((0 : Int) ≤ (c : Int) - 1 - k) := by omega
     have ht : ((c : Int) - 1 - k).toNat = c - 1 - k := by omega
     have hm : min (c - 1 - k) IntKind.i64.bits = c - 1 - k := Nat.min_eq_left (by show _ ≤ 64; omega)
     have hd : (n : Int).fdiv (2 ^ (c - 1 - k)) = ((n / 2 ^ (c - 1 - k) : Nat) : Int) := by
      rw [Int.fdiv_eq_ediv_of_nonneg _ (Int.le_of_lt (Int.pow_pos (by decide)))]; push_cast; rfl
     have hle : n / 2 ^ (c - 1 - k) ≤ n := Nat.div_le_self _ _
     have ha := and64_1 (a := n / 2 ^ (c - 1 - k)) (by omega)
     have hsucc : (dZ n c k).map cells ++ [[C.s (.int .i64 ((n / 2 ^ (c - 1 - k) % 2 : Nat) : Int))]] = (dZ n c (k + 1)).map cells := by rw [dZ, List.map_append]; rfl
     have hlen := jQ n c k
     delta sV oO oN oA oM oT oG oR oQ oS oK
     simp (maxSteps := 4000000) -implicitDefEqProofs only [hi, ht, hm, hd, ha, hsucc, hlen, InR, Ent.of0, Ent.of1, Ent.of2, Ent.of3, V, W3, ↓reduceIte, Nat.reduceAdd, Nat.reduceSub, Nat.reduceMul, Nat.reduceEqDiff, Nat.reduceLT, Nat.reduceLeDiff, reduceCtorEq, Int.reduceToNat, Nat.reduceBEq]
     exact ⟨by omega, by omega, h, by omega⟩
   · have hk2 : k = c := by omega
     subst hk2
     have hi : ¬ ((0 : Int) ≤ (k : Int) - 1 - k) := by omega
     delta sV oO oN oA oM oT oG oR oQ oS oK
     simp (maxSteps := 4000000) -implicitDefEqProofs only [rv130, hi, InR, Ent.of0, Ent.of1, Ent.of2, Ent.of3, V, W3, ↓reduceIte, Nat.reduceAdd, Nat.reduceSub, Nat.reduceMul, Nat.reduceEqDiff, Nat.reduceLT, Nat.reduceLeDiff, reduceCtorEq, Int.reduceToNat, Nat.reduceBEq]
def wj : Ent Tryz.prog where
 id := 130
 sp := fun args chs => match args, chs with
  | [.s (.int .i64 n), .s (.int .i64 c)], [] => some (0 ≤ n ∧ n < 4096 ∧ 0 ≤ c ∧ c ≤ 12, enc (dZ n.toNat c.toNat c.toNat), [], [])
  | _, _ => none
 ok := by
  intro args chs p r chs' nk hs hp
  split at hs
  · simp only [Option.some.injEq, Prod.mk.injEq] at hs
    obtain ⟨rfl, rfl, rfl, rfl⟩ := hs
    obtain ⟨h1, h2, h3, h4⟩ := hp
    rename_i n c
    have := zf n.toNat c.toNat (by omega) (by omega)
    rw [Int.toNat_of_nonneg h1, Int.toNat_of_nonneg h3] at this
    exact ⟨this, .plain trivial⟩
  · cases hs
def eI : List Int → Int
 | [] => 0
 | [b] => 1 - 2 * b
 | b :: l => (1 - 2 * b) * (2 ^ l.length - eI l)
theorem nE : ∀ l : List Int, (∀ b ∈ l, b = 0 ∨ b = 1) → -(2 ^ l.length) < eI l ∧ eI l < 2 ^ l.length
 | [], _ => by decide
 | [b], h => by rcases h b (by simp) with rfl | rfl <;> decide
 | b :: c :: l, h => by
  have ih := nE (c :: l) (fun x hx => h x (List.mem_cons_of_mem _ hx))
  have hb := h b (by simp)
  simp only [eI, List.length_cons] at ih ⊢
  generalize hq : eI (c :: l) = q at *
  have e : (2 : Int) ^ (l.length + 1 + 1) = 2 * 2 ^ (l.length + 1) := by rw [Int.pow_succ]; omega
  rw [e]
  generalize (2 : Int) ^ (l.length + 1) = p at *
  rcases hb with rfl | rfl
  · constructor <;> omega
  · constructor <;> omega
theorem level_c : ∀ (m : Nat) (l : List Int), l.length ≤ m → 0 < l.length → l.length ≤ 6 → (∀ b ∈ l, b = 0 ∨ b = 1) → FC Tryz.prog 106 [enc l] [] (enc (eI l)) [] := by
 intro m
 induction m with
 | zero => intro l h1 h2; omega
 | succ m ih =>
  intro l h1 h2 h3 hb
  obtain ⟨b, t, rfl⟩ : ∃ b t, l = b :: t := by cases l with | nil => simp at h2 | cons b t => exact ⟨b, t, rfl⟩
  simp only [List.length_cons] at h1 h3
  have hbb := hb b (by simp)
  have hbt : ∀ x ∈ t, x = 0 ∨ x = 1 := fun x hx => hb x (List.mem_cons_of_mem _ hx)
  have hll := nE t hbt
  have hpp : (2 : Int) ^ t.length ≤ 32 := by
   have : 2 ^ t.length ≤ 2 ^ 5 := Nat.pow_le_pow_right (by decide) (by omega)
   exact_mod_cast this
  refine dk is106 (by simp) (fun cx hl => dj [.of1 106 (fun a => a = t ∧ 0 < t.length) (fun a => enc (eI a)) (fun _ => trivial) (fun a ha => by obtain ⟨rfl, h⟩ := ha; exact ih a (by omega) h (by omega) hbt)] 800 ?_)
  have htk : List.take t.length (List.map cells t) = List.map cells t := by rw [List.take_of_length_le (by simp)]
  have hmin : min t.length IntKind.i64.bits = t.length := Nat.min_eq_left (by show _ ≤ 64; omega)
  have hone : (((t.length + 1 : Nat) : Int) = 1) ↔ t.length = 0 := by omega
  delta c106 oO oN oA oM oT oG oR oQ oS oK
  simp (maxSteps := 4000000) -implicitDefEqProofs only [rv106, htk, hmin, hone, InR, Ent.of0, Ent.of1, Ent.of2, Ent.of3, V, W3, ↓reduceIte, Nat.reduceAdd, Nat.reduceSub, Nat.reduceMul, Nat.reduceEqDiff, Nat.reduceLT, Nat.reduceLeDiff, reduceCtorEq, Int.reduceToNat, Nat.reduceBEq]
  refine ⟨by omega, by omega, by omega, ?_⟩
  split
  · rename_i h0
    have : t = [] := by simpa using h0
    subst this; rfl
  · rename_i h0
    obtain ⟨c, t', rfl⟩ : ∃ c t', t = c :: t' := by cases t with | nil => simp at h0 | cons c t' => exact ⟨c, t', rfl⟩
    have hpos : (0 : Int) < 2 ^ (c :: t').length := Int.pow_pos (by decide)
    simp only [eI]
    generalize (2 : Int) ^ (c :: t').length = p at *
    generalize eI (c :: t') = q at *
    simp only [List.length_cons] at *
    refine ⟨by omega, by omega, by omega, by omega, ?_, by rw [Int.one_mul]⟩
    rcases hbb with rfl | rfl <;> omega
def eg (l : List Int) : Prop := ∀ b ∈ l, b = 0 ∨ b = 1
def kb : Ent Tryz.prog := .of1 106 (fun l => 0 < l.length ∧ l.length ≤ 6 ∧ eg l) (fun l : List Int => enc (eI l)) (fun _ => trivial) (fun l h => level_c _ l (Nat.le_refl _) h.1 h.2.1 h.2.2)
theorem pI (n c : Nat) : ∀ k, eg (dZ n c k)
 | 0 => fun b h => by simp [dZ] at h
 | k + 1 => fun b h => by
  simp only [dZ, List.mem_append, List.mem_singleton] at h
  rcases h with h | h
  · exact pI n c k b h
  · omega
end Go.Proofs.YteoobfmbipmibaaGreat
end
section
open Go Go.Am
open Go.Am.Dat (cells)
namespace Go.Proofs.YteoobfmbipmibaaGreat
set_option maxHeartbeats 4000000
set_option maxRecDepth 100000
def jD : List Int → List Int
 | a :: _ :: l => a :: jD l
 | [a] => [a]
 | [] => []
def k4 : List Int → List Int
 | _ :: b :: l => b :: k4 l
 | _ => []
def fM (l : List Int) : Gs := ⟨eI (jD l), eI (k4 l)⟩
theorem yR (a b : Int) (h : eg [a, b]) : FC Tryz.prog 64 [enc [a, b]] [] (enc (fM [a, b])) [] := by
 have h1 : eg [a] := fun x hx => h x (by simp at hx; simp [hx])
 have h2 : eg [b] := fun x hx => h x (by simp at hx; simp [hx])
 refine dk is64 (by simp) (fun cx hl => gK [kb] 400 ?_)
 delta c64 rC oO oN oA oM oT oG oR oQ oS oK
 simp (maxSteps := 4000000) -implicitDefEqProofs only [rv64, kb, h1, h2, InR, fM, jD, k4, WU, Int.reduceAdd, Int.reduceSub, Int.reduceMul, Int.reduceLT, Int.reduceLE, Int.reduceTMod, Int.reduceTDiv, Int.reduceNeg, Int.reduceEq, Nat.reducePow, Int.reducePow, Ent.of0, Ent.of1, Ent.of2, Ent.of3, V, W3, ↓reduceIte, Nat.reduceAdd, Nat.reduceSub, Nat.reduceMul, Nat.reduceEqDiff, Nat.reduceLT, Nat.reduceLeDiff, reduceCtorEq, Int.reduceToNat, Nat.reduceBEq]
theorem zz (a b c d : Int) (h : eg [a, b, c, d]) : FC Tryz.prog 64 [enc [a, b, c, d]] [] (enc (fM [a, b, c, d])) [] := by
 have h1 : eg [a, c] := fun x hx => h x (by simp at hx ⊢; grind)
 have h2 : eg [b, d] := fun x hx => h x (by simp at hx ⊢; grind)
 refine dk is64 (by simp) (fun cx hl => gK [kb] 600 ?_)
 delta c64 rC oO oN oA oM oT oG oR oQ oS oK
 simp (maxSteps := 4000000) -implicitDefEqProofs only [rv64, kb, h1, h2, InR, fM, jD, k4, WU, Int.reduceAdd, Int.reduceSub, Int.reduceMul, Int.reduceLT, Int.reduceLE, Int.reduceTMod, Int.reduceTDiv, Int.reduceNeg, Int.reduceEq, Nat.reducePow, Int.reducePow, Ent.of0, Ent.of1, Ent.of2, Ent.of3, V, W3, ↓reduceIte, Nat.reduceAdd, Nat.reduceSub, Nat.reduceMul, Nat.reduceEqDiff, Nat.reduceLT, Nat.reduceLeDiff, reduceCtorEq, Int.reduceToNat, Nat.reduceBEq]
theorem yN (a b c d e f : Int) (h : eg [a, b, c, d, e, f]) : FC Tryz.prog 64 [enc [a, b, c, d, e, f]] [] (enc (fM [a, b, c, d, e, f])) [] := by
 have h1 : eg [a, c, e] := fun x hx => h x (by simp at hx ⊢; grind)
 have h2 : eg [b, d, f] := fun x hx => h x (by simp at hx ⊢; grind)
 refine dk is64 (by simp) (fun cx hl => gK [kb] 800 ?_)
 delta c64 rC oO oN oA oM oT oG oR oQ oS oK
 simp (maxSteps := 4000000) -implicitDefEqProofs only [rv64, kb, h1, h2, InR, fM, jD, k4, WU, Int.reduceAdd, Int.reduceSub, Int.reduceMul, Int.reduceLT, Int.reduceLE, Int.reduceTMod, Int.reduceTDiv, Int.reduceNeg, Int.reduceEq, Nat.reducePow, Int.reducePow, Ent.of0, Ent.of1, Ent.of2, Ent.of3, V, W3, ↓reduceIte, Nat.reduceAdd, Nat.reduceSub, Nat.reduceMul, Nat.reduceEqDiff, Nat.reduceLT, Nat.reduceLeDiff, reduceCtorEq, Int.reduceToNat, Nat.reduceBEq]
theorem point_c (l : List Int) (hl : l.length = 2 ∨ l.length = 4 ∨ l.length = 6) (h : eg l) : FC Tryz.prog 64 [enc l] [] (enc (fM l)) [] := by
 match l, hl with
 | [a, b], _ => exact yR a b h
 | [a, b, c, d], _ => exact zz a b c d h
 | [a, b, c, d, e, f], _ => exact yN a b c d e f h
 | [], hl => simp at hl
 | [_], hl => simp at hl
 | [_, _, _], hl => simp at hl
 | [_, _, _, _, _], hl => simp at hl
 | _ :: _ :: _ :: _ :: _ :: _ :: _ :: _, hl => simp at hl
def ent64 : Ent Tryz.prog := .of1 64 (fun l => (l.length = 2 ∨ l.length = 4 ∨ l.length = 6) ∧ eg l) (fun l : List Int => enc (fM l)) (fun l => ⟨trivial, trivial, trivial⟩) (fun l h => point_c l h.1 h.2)
end Go.Proofs.YteoobfmbipmibaaGreat
end
section
open Go Go.Am
open Go.Am.Dat (cells)
namespace Go.Proofs.YteoobfmbipmibaaGreat
set_option maxHeartbeats 4000000
set_option maxRecDepth 100000
def fj (l : List Int) (n j : Nat) : List Int := (l.drop (j * n)).take n
def nn (l : List Int) (n j : Nat) : List C := [.sl 1 ((fj l n j).map cells)]
theorem chunk_c (l : List Int) (n N : Nat) (hn : 0 < n) (hN : 0 < N) (hl : l.length = N * n) (hle : l.length ≤ 1000000) : ItC Tryz.prog 105 [] [.ptr 200025 0, .ptr 201025 0] [(200025, .box [.sl 1 (l.map cells)]), (201025, .box [.s (.int .i64 (n : Int))])] 100000 (nn l n) N true := by
 intro yl R Rf hy
 refine kn [] is105 (by simp) (by simp) (fun o ho k cs hm => by simp at ho; rcases ho with rfl | rfl <;> simp at hm) (fun cx _ _ _ => dj [] 800 ?_)
 delta c105 oO oN oA oM oT oG oR oQ oS oK
 simp (maxSteps := 4000000) -implicitDefEqProofs only [pl, List.append_nil, Ent.of0, Ent.of1, Ent.of2, Ent.of3, V, W3, ↓reduceIte, Nat.reduceAdd, Nat.reduceSub, Nat.reduceMul, Nat.reduceEqDiff, Nat.reduceLT, Nat.reduceLeDiff, reduceCtorEq, Int.reduceToNat, Nat.reduceBEq]
 refine iD (α := Nat) (fun j => [(4, .s (.int .i64 ((j * n : Nat) : Int)))]) (fun j => [(100000, .res (R j))]) (fun j => j ≤ N) (fun j => N - j) 0 (Nat.zero_le _) ?_ (fun j hj => dj [] 800 ?_)
 · simp (maxSteps := 4000000) -implicitDefEqProofs only [Nat.zero_mul, Ent.of0, Ent.of1, Ent.of2, Ent.of3, V, W3, ↓reduceIte, Nat.reduceAdd, Nat.reduceSub, Nat.reduceMul, Nat.reduceEqDiff, Nat.reduceLT, Nat.reduceLeDiff, reduceCtorEq, Int.reduceToNat, Nat.reduceBEq]
   simp
 · by_cases h : j < N
   · have hjn : j * n + n ≤ N * n := by
      have := Nat.mul_le_mul_right n (show j + 1 ≤ N by omega)
      rwa [Nat.add_mul, Nat.one_mul] at this
     have hi : ((j * n : Nat) : Int) < (l.length : Int) := by omega
     have htk : List.take l.length (List.map cells l) = List.map cells l := List.take_of_length_le (by simp)
     have hcmp : ((List.drop (j * n) (List.map cells l)).length : Int) < (n : Int) ↔ False := by
      rw [List.length_drop, List.length_map]; constructor
      · intro h; omega
      · exact fun h => h.elim
     have hnn : ((j * n : Nat) : Int) + (n : Int) = ((j * n + n : Nat) : Int) := by push_cast; rfl
     have hcc : List.drop (j * n) (List.take (j * n + n) (List.map cells l)) = (fj l n j).map cells := by
      rw [fj, ← List.map_take, ← List.map_drop, List.drop_take]
      congr 2; omega
     delta tz oO oN oA oM oT oG oR oQ oS oK
     simp (maxSteps := 4000000) -implicitDefEqProofs only [hi, htk, hcmp, hnn, hcc, InR, Ent.of0, Ent.of1, Ent.of2, Ent.of3, V, W3, ↓reduceIte, Nat.reduceAdd, Nat.reduceSub, Nat.reduceMul, Nat.reduceEqDiff, Nat.reduceLT, Nat.reduceLeDiff, reduceCtorEq, Int.reduceToNat, Nat.reduceBEq]
     refine ⟨by omega, by omega, by omega, by omega, ?_⟩
     refine m8 rfl (OpM.yield (l := yl) (kr := 100000) (xs := nn l n j) (R := R j) rfl rfl rfl (hy j h)) (fun ef hef => ?_)
     rw [if_pos (.inr rfl)] at hef
     simp only [bE, List.mem_cons, List.not_mem_nil, or_false] at hef
     rcases hef with rfl | rfl
     · refine iC [] 800 ?_
       simp (maxSteps := 4000000) -implicitDefEqProofs only [pl, InR, hnn, Ent.of0, Ent.of1, Ent.of2, Ent.of3, V, W3, ↓reduceIte, Nat.reduceAdd, Nat.reduceSub, Nat.reduceMul, Nat.reduceEqDiff, Nat.reduceLT, Nat.reduceLeDiff, reduceCtorEq, Int.reduceToNat, Nat.reduceBEq]
       refine ⟨by omega, j + 1, h, by omega, ?_⟩
       exact ⟨by rw [Nat.add_mul, Nat.one_mul], rfl⟩
     · refine iC [] 800 ?_
       simp (maxSteps := 4000000) -implicitDefEqProofs only [pl, Ent.of0, Ent.of1, Ent.of2, Ent.of3, V, W3, ↓reduceIte, Nat.reduceAdd, Nat.reduceSub, Nat.reduceMul, Nat.reduceEqDiff, Nat.reduceLT, Nat.reduceLeDiff, reduceCtorEq, Int.reduceToNat, Nat.reduceBEq]
       exact ⟨_, List.mem_cons_self, trivial, rfl, trivial⟩
   · have hj2 : j = N := by omega
     subst hj2
     have hi : ¬ ((j * n : Nat) : Int) < (l.length : Int) := by omega
     delta tz oO oN oA oM oT oG oR oQ oS oK
     simp (maxSteps := 4000000) -implicitDefEqProofs only [hi, pl, InR, Ent.of0, Ent.of1, Ent.of2, Ent.of3, V, W3, ↓reduceIte, Nat.reduceAdd, Nat.reduceSub, Nat.reduceMul, Nat.reduceEqDiff, Nat.reduceLT, Nat.reduceLeDiff, reduceCtorEq, Int.reduceToNat, Nat.reduceBEq]
     exact ⟨_, List.mem_cons_of_mem _ List.mem_cons_self, trivial, rfl, trivial⟩
theorem Chunk_c (l : List Int) (n : Nat) (hn : 0 < n) : FC Tryz.prog 63 [enc l, enc (n : Int)] [] (.fn (.func 105) [] [.ptr 2 0, .ptr 3 0]) [(2, .box [enc l]), (3, .box [enc (n : Int)])] := by
 refine dF [] is63 (by simp) (by simp [bf]) (by simp [an, ae, aq]) (by simp [an, ae, aq]) (by simp [aF, lk]) (fun cx _ _ _ => dj [] 800 ?_)
 have h1 : ¬ ((n : Int) < 1) := by omega
 delta c63 oO oN oA oM oT oG oR oQ oS oK
 simp (maxSteps := 4000000) -implicitDefEqProofs only [rv63, h1, Ent.of0, Ent.of1, Ent.of2, Ent.of3, V, W3, ↓reduceIte, Nat.reduceAdd, Nat.reduceSub, Nat.reduceMul, Nat.reduceEqDiff, Nat.reduceLT, Nat.reduceLeDiff, reduceCtorEq, Int.reduceToNat, Nat.reduceBEq]
def sm : Ent Tryz.prog where
 id := 63
 sp := fun args chs => match args, chs with
  | [x, .s (.int .i64 n)], [] => (eW x).bind fun l : List Int => some (0 < n, .fn (.func 105) [] [.ptr 2 0, .ptr 3 0], [(2, .box [.sl 1 (l.map cells)]), (3, .box [.s (.int .i64 n)])], [2, 3])
  | _, _ => none
 ok := by
  intro args chs p r chs' nk hs hp
  split at hs
  · simp only [Option.bind_eq_some_iff, Option.some.injEq, Prod.mk.injEq] at hs
    obtain ⟨l, hl, rfl, rfl, rfl, rfl⟩ := hs
    rename_i n
    have := Chunk_c l n.toNat (by omega)
    rw [Int.toNat_of_nonneg (by omega)] at this
    refine ⟨this.le (args' := [_, _]) ⟨eB hl, et _, trivial⟩, ⟨fun k c h => ?_, fun k cs h => by simp at h, ?_, fun k c h => ?_⟩⟩
    · simp only [List.mem_cons, Prod.mk.injEq, List.not_mem_nil, or_false] at h
      left; rcases h with h | h <;> rw [h.1] <;> simp
    · exact ⟨trivial, by simp [dm.keysIns, dm]⟩
    · simp only [List.mem_cons, Prod.mk.injEq, List.not_mem_nil, or_false] at h
      rcases h with h | h <;> rw [h.2] <;> exact ⟨trivial, trivial⟩
  · cases hs
theorem zO (l : List Int) (v : Int) : FC Tryz.prog 128 [enc l, enc v] [] (enc (eX l fun x => decide (v = x))) [] := by
 refine dk is128 (by simp) (fun cx hl => dj [] 800 ?_)
 simp only [V, W3, ↓reduceIte, Nat.reduceAdd, Nat.reduceSub, Nat.reduceMul, Nat.reduceEqDiff, Nat.reduceLT, Nat.reduceLeDiff, reduceCtorEq, Int.reduceToNat, Nat.reduceBEq] at hl
 have hlen := hl.list
 delta c128 oO oN oA oM oT oG oR oQ oS oK
 simp (maxSteps := 4000000) -implicitDefEqProofs only [rv128, Ent.of0, Ent.of1, Ent.of2, Ent.of3, V, W3, ↓reduceIte, Nat.reduceAdd, Nat.reduceSub, Nat.reduceMul, Nat.reduceEqDiff, Nat.reduceLT, Nat.reduceLeDiff, reduceCtorEq, Int.reduceToNat, Nat.reduceBEq]
 refine dE l.length (fun i => [(8, .s (.int .i64 i))]) (fun _ => []) (fun i => ∀ j, j < i → decide (v = l.getD j 0) = false) (by omega) ?_ (fun i hi hv => dj [] 800 ?_)
 · simp (maxSteps := 4000000) -implicitDefEqProofs only [Ent.of0, Ent.of1, Ent.of2, Ent.of3, V, W3, ↓reduceIte, Nat.reduceAdd, Nat.reduceSub, Nat.reduceMul, Nat.reduceEqDiff, Nat.reduceLT, Nat.reduceLeDiff, reduceCtorEq, Int.reduceToNat, Nat.reduceBEq]; simp
 · by_cases h : i < l.length
   · have hi2 : (i : Int) < (l.length : Int) := by omega
     delta t9 oO oN oA oM oT oG oR oQ oS oK
     simp (maxSteps := 4000000) -implicitDefEqProofs only [hi2, h, InR, Ent.of0, Ent.of1, Ent.of2, Ent.of3, V, W3, ↓reduceIte, Nat.reduceAdd, Nat.reduceSub, Nat.reduceMul, Nat.reduceEqDiff, Nat.reduceLT, Nat.reduceLeDiff, reduceCtorEq, Int.reduceToNat, Nat.reduceBEq]
     refine ⟨by omega, ?_⟩
     split
     · rename_i hp
       have : l.findIdx? (fun x => decide (v = x)) = some i := by
        rw [List.findIdx?_eq_some_iff_getElem]
        rw [List.getD_eq_getElem?_getD, List.getElem?_eq_getElem h] at hp
        refine ⟨h, by simpa using hp, fun j hj => ?_⟩
        have := hv j hj
        rw [List.getD_eq_getElem?_getD, List.getElem?_eq_getElem (by omega)] at this
        simpa using this
       simp [eX, this]
     · rename_i hp
       refine ⟨by omega, fun j hj => ?_, by push_cast; rfl⟩
       by_cases hj2 : j = i
       · rw [hj2]; exact hp
       · exact of_decide_eq_false (hv j (by omega))
   · have hi2 : ¬ (i : Int) < (l.length : Int) := by omega
     delta t9 oO oN oA oM oT oG oR oQ oS oK
     simp (maxSteps := 4000000) -implicitDefEqProofs only [hi2, rv128, InR, Ent.of0, Ent.of1, Ent.of2, Ent.of3, V, W3, ↓reduceIte, Nat.reduceAdd, Nat.reduceSub, Nat.reduceMul, Nat.reduceEqDiff, Nat.reduceLT, Nat.reduceLeDiff, reduceCtorEq, Int.reduceToNat, Nat.reduceBEq]
     have : l.findIdx? (fun x => decide (v = x)) = none := by
      rw [List.findIdx?_eq_none_iff]
      intro x hx
      obtain ⟨j, hj, rfl⟩ := List.getElem_of_mem hx
      have := hv j (by omega)
      rwa [List.getD_eq_getElem?_getD, List.getElem?_eq_getElem hj] at this
     simp [eX, this]
def wv : Ent Tryz.prog := .of2 128 (fun _ _ => True) (fun (l : List Int) (v : Int) => enc (eX l fun x => decide (v = x))) (fun _ _ => trivial) (fun l v _ => zO l v)
theorem mL (l : List Int) (p : Int → Bool) : decide (0 ≤ eX l p) = l.any p := by
 unfold eX
 cases hq : l.findIdx? p with
 | none =>
  rw [List.findIdx?_eq_none_iff] at hq
  have : l.any p = false := by simpa using hq
  simp [this]
 | some i =>
  rw [List.findIdx?_eq_some_iff_getElem] at hq
  obtain ⟨h1, h2, _⟩ := hq
  have : l.any p = true := List.any_eq_true.2 ⟨_, List.getElem_mem h1, h2⟩
  simp [this]
theorem uI (l : List Int) (v : Int) : FC Tryz.prog 104 [enc l, enc v] [] (enc (l.any fun x => decide (v = x))) [] := by
 refine dk is104 (by simp) (fun cx hl => dj [wv] 800 ?_)
 delta c104 oO oN oA oM oT oG oR oQ oS oK
 simp (maxSteps := 4000000) -implicitDefEqProofs only [rv104, wv, mL, Ent.of0, Ent.of1, Ent.of2, Ent.of3, V, W3, ↓reduceIte, Nat.reduceAdd, Nat.reduceSub, Nat.reduceMul, Nat.reduceEqDiff, Nat.reduceLT, Nat.reduceLeDiff, reduceCtorEq, Int.reduceToNat, Nat.reduceBEq]
def ww : Ent Tryz.prog := .of2 104 (fun _ _ => True) (fun (l : List Int) (v : Int) => enc (l.any fun x => decide (v = x))) (fun _ _ => trivial) (fun l v _ => uI l v)
def eu (n : Int) : Int := if n = 2 ∨ n = 4 ∨ n = 6 then 0 else 15
theorem vG (n : Int) : FC Tryz.prog 62 [enc n] [] (enc (eu n)) [] := by
 refine dk is62 (by simp) (fun cx hl => dj [ww, ew] 800 ?_)
 delta c62 oO oN oA oM oT oG oR oQ oS oK
 simp (maxSteps := 4000000) -implicitDefEqProofs only [rv62, ww, ew, Ent.of0, Ent.of1, Ent.of2, Ent.of3, V, W3, ↓reduceIte, Nat.reduceAdd, Nat.reduceSub, Nat.reduceMul, Nat.reduceEqDiff, Nat.reduceLT, Nat.reduceLeDiff, reduceCtorEq, Int.reduceToNat, Nat.reduceBEq]
 unfold eu
 simp only [List.any_cons, List.any_nil, Bool.or_false, Bool.or_eq_true, decide_eq_true_eq]
def nQ : Ent Tryz.prog := .of1 62 (fun _ => True) (fun n : Int => enc (eu n)) (fun _ => trivial) (fun n _ => vG n)
end Go.Proofs.YteoobfmbipmibaaGreat
end
section
open Go Go.Am
open Go.Am.Dat (cells)
namespace Go.Proofs.YteoobfmbipmibaaGreat
set_option maxHeartbeats 4000000
set_option maxRecDepth 100000
def fB (n : Nat) (l : List Int) (j : Nat) : List Gs := (List.range j).map fun i => fM (fj l n i)
theorem xK (n : Nat) (l : List Int) (j : Nat) : fB n l (j + 1) = fB n l j ++ [fM (fj l n j)] := by simp [fB, List.range_succ]
def gz (n : Int) (l : List Int) : Int := if eu n ≠ 0 then eu n else if eb l ≠ 0 then eb l else if (l.length : Int) % n ≠ 0 then 10 else 0
theorem oP {l : List Int} {m N j : Nat} (hl : l.length = N * m) (hb : eg l) (hj : j < N) : (fj l m j).length = m ∧ eg (fj l m j) := by
 have hjn : j * m + m ≤ N * m := by
  have := Nat.mul_le_mul_right m (show j + 1 ≤ N by omega)
  rwa [Nat.add_mul, Nat.one_mul] at this
 refine ⟨by unfold fj; rw [List.length_take, List.length_drop]; omega, fun b h => hb b ?_⟩
 exact List.mem_of_mem_drop (List.mem_of_mem_take h)
theorem lM (n : Nat) (l : List Int) (j : Nat) : (fB n l j).length = j := by simp [fB]
theorem um {l : List Int} (h : eb l = 0) : 0 < l.length ∧ l.length ≤ 400 ∧ eg l := by
 unfold eb at h
 split at h
 · cases h
 · split at h
   · cases h
   · split at h
     · rename_i h1 h2 h3
       exact ⟨by omega, by omega, fun b hb => by simpa using List.all_eq_true.1 h3 b hb⟩
     · cases h
theorem uH (n : Int) (l : List Int) : FC Tryz.prog 19 [enc n, enc l] [] (.tup [enc (if gz n l = 0 then fB n.toNat l (l.length / n.toNat) else []), enc (gz n l)]) [] := by
 refine dF [] is19 (by simp) trivial trivial trivial trivial (fun cx hcx hl _ => dj [nQ, n7, dQ, sm] 800 ?_)
 by_cases hf : dl [eu n, eb l] = 0
 · have ho : eu n = 0 := by simp only [dl] at hf; grind
   have hbe : eb l = 0 := by simp only [dl] at hf; grind
   have hn : n = 2 ∨ n = 4 ∨ n = 6 := by unfold eu at ho; grind
   obtain ⟨m, rfl⟩ : ∃ m : Nat, n = (m : Int) := ⟨n.toNat, by omega⟩
   have hm : 0 < m := by omega
   have hmne : ¬ (m : Int) = 0 := by omega
   obtain ⟨hl0, hl4, hbits⟩ := um hbe
   have htm : (l.length : Int).tmod (m : Int) = ((l.length % m : Nat) : Int) := by
    rw [Int.tmod_eq_emod_of_nonneg (by omega)]; push_cast; rfl
   have hem : (l.length : Int) % (m : Int) = ((l.length % m : Nat) : Int) := by push_cast; rfl
   by_cases hr : l.length % m = 0
   · have hr2 : ((l.length % m : Nat) : Int) = 0 := by omega
     have hme : gz m l = 0 := by unfold gz; rw [if_neg (fun h => h ho), if_neg (fun h => h hbe), hem, if_neg (fun h => h hr2)]
     delta c19 oO oN oA oM oT oG oR oQ oS oK
     simp (maxSteps := 4000000) -implicitDefEqProofs only [rv19, nQ, n7, dQ, sm, hf, htm, hr2, hme, Int.toNat_natCast, InR, Ent.of0, Ent.of1, Ent.of2, Ent.of3, V, W3, ↓reduceIte, Nat.reduceAdd, Nat.reduceSub, Nat.reduceMul, Nat.reduceEqDiff, Nat.reduceLT, Nat.reduceLeDiff, reduceCtorEq, Int.reduceToNat, Nat.reduceBEq]
     refine ⟨hmne, by omega, ?_⟩
     obtain ⟨N, hN⟩ : ∃ N, l.length / m = N := ⟨_, rfl⟩
     have hlN : l.length = N * m := by rw [← hN]; exact (Nat.div_mul_cancel (Nat.dvd_of_mod_eq_zero hr)).symm
     have hN0 : 0 < N := by rcases Nat.eq_zero_or_pos N with e | e; (rw [e, Nat.zero_mul] at hlN; omega); exact e
     have hNl : N ≤ 400 := by
      have := Nat.le_mul_of_pos_right N hm
      omega
     rw [hN]
     refine S_sh 200000 (by rw [hcx.2.2]; exact Nat.le_refl _) (by rfl) ?_
     simp (maxSteps := 4000000) -implicitDefEqProofs only [Ent.of0, Ent.of1, Ent.of2, Ent.of3, V, W3, ↓reduceIte, Nat.reduceAdd, Nat.reduceSub, Nat.reduceMul, Nat.reduceEqDiff, Nat.reduceLT, Nat.reduceLeDiff, reduceCtorEq, Int.reduceToNat, Nat.reduceBEq]
     have hcells : ∀ i, i ≠ 0 → (if i = 0 then C.s (.slice none 0 0) else C.isl 2 62 ((fB m l i).map cells)) = C.isl 2 62 ((fB m l i).map cells) := fun i hi => if_neg hi
     refine j5 (f := 105) (first := []) (caps := [.ptr 200025 0, .ptr 201025 0]) (ich := [(200025, .box [.sl 1 (l.map cells)]), (201025, .box [.s (.int .i64 (m : Int))])]) (kr := 100000) (vals := nn l m) (N := N) (fin := true) [200007]
      (fun i => [(200007, .box [if i = 0 then .s (.slice none 0 0) else .isl 2 62 ((fB m l i).map cells)])])
      hcx.2.1 rfl (chunk_c l m N hm hN0 hlN (by omega)) ⟨?_, ?_⟩ ⟨fun c hc => ?_, fun k c hc => ?_⟩ ?_ (fun i hi => ?_) (fun k hk => ?_) (fun i hi => ?_) (fun i hi cx' _ hcx' => dj [] 800 ?_) (fun _ => ?_)
     · simp (maxSteps := 4000000) -implicitDefEqProofs only [Ent.of0, Ent.of1, Ent.of2, Ent.of3, V, W3, ↓reduceIte, Nat.reduceAdd, Nat.reduceSub, Nat.reduceMul, Nat.reduceEqDiff, Nat.reduceLT, Nat.reduceLeDiff, reduceCtorEq, Int.reduceToNat, Nat.reduceBEq]
     · simp (maxSteps := 4000000) -implicitDefEqProofs only [Ent.of0, Ent.of1, Ent.of2, Ent.of3, V, W3, ↓reduceIte, Nat.reduceAdd, Nat.reduceSub, Nat.reduceMul, Nat.reduceEqDiff, Nat.reduceLT, Nat.reduceLeDiff, reduceCtorEq, Int.reduceToNat, Nat.reduceBEq]
     · simp only [List.nil_append, List.mem_cons, List.not_mem_nil, or_false] at hc
       rcases hc with rfl | rfl <;> simp [dm, ae]
     · simp only [List.mem_cons, Prod.mk.injEq, List.not_mem_nil, or_false] at hc
       rcases hc with ⟨rfl, rfl⟩ | ⟨rfl, rfl⟩ <;> exact ⟨trivial, trivial⟩
     · simp (maxSteps := 4000000) -implicitDefEqProofs only [Ent.of0, Ent.of1, Ent.of2, Ent.of3, V, W3, ↓reduceIte, Nat.reduceAdd, Nat.reduceSub, Nat.reduceMul, Nat.reduceEqDiff, Nat.reduceLT, Nat.reduceLeDiff, reduceCtorEq, Int.reduceToNat, Nat.reduceBEq]
     · simp (maxSteps := 4000000) -implicitDefEqProofs only [Ent.of0, Ent.of1, Ent.of2, Ent.of3, V, W3, ↓reduceIte, Nat.reduceAdd, Nat.reduceSub, Nat.reduceMul, Nat.reduceEqDiff, Nat.reduceLT, Nat.reduceLeDiff, reduceCtorEq, Int.reduceToNat, Nat.reduceBEq]
       simp
     · rw [hcx.2.2]
       simp only [List.mem_cons, List.not_mem_nil, or_false] at hk
       omega
     · refine ⟨rfl, fun c hc => ?_⟩
       simp only [nn, List.mem_singleton] at hc; subst hc; trivial
     · simp (maxSteps := 4000000) -implicitDefEqProofs only [nn, Ent.of0, Ent.of1, Ent.of2, Ent.of3, V, W3, ↓reduceIte, Nat.reduceAdd, Nat.reduceSub, Nat.reduceMul, Nat.reduceEqDiff, Nat.reduceLT, Nat.reduceLeDiff, reduceCtorEq, Int.reduceToNat, Nat.reduceBEq]
       intro cx'' _ _
       refine dj [ent64] 800 ?_
       obtain ⟨g1, g2⟩ := oP hlN hbits hi
       have g3 : (fj l m i).length = 2 ∨ (fj l m i).length = 4 ∨ (fj l m i).length = 6 := by omega
       cases i with
       | zero =>
        have h1 : [[C.s (.int .i64 (fM (fj l m 0)).re), C.s (.int .i64 (fM (fj l m 0)).im)]] = (fB m l 1).map cells := by simp [fB, List.range_succ, sB]
        have hl1 := lM m l 1
        delta c19r1 oO oN oA oM oT oG oR oQ oS oK
        simp (maxSteps := 4000000) -implicitDefEqProofs only [ent64, g2, g3, h1, InR, Ent.of0, Ent.of1, Ent.of2, Ent.of3, V, W3, ↓reduceIte, Nat.reduceAdd, Nat.reduceSub, Nat.reduceMul, Nat.reduceEqDiff, Nat.reduceLT, Nat.reduceLeDiff, reduceCtorEq, Int.reduceToNat, Nat.reduceBEq]
        exact ⟨⟨by omega, by omega⟩, by decide, .inr trivial⟩
       | succ i =>
        have h1 : (fB m l (i + 1)).map cells ++ [[C.s (.int .i64 (fM (fj l m (i + 1))).re), C.s (.int .i64 (fM (fj l m (i + 1))).im)]] = (fB m l (i + 1 + 1)).map cells := by rw [xK m l (i + 1), List.map_append]; rfl
        have h2 := lM m l (i + 1)
        delta c19r1 oO oN oA oM oT oG oR oQ oS oK
        simp (maxSteps := 4000000) -implicitDefEqProofs only [ent64, g2, g3, h1, h2, Nat.succ_ne_zero, InR, Ent.of0, Ent.of1, Ent.of2, Ent.of3, V, W3, ↓reduceIte, Nat.reduceAdd, Nat.reduceSub, Nat.reduceMul, Nat.reduceEqDiff, Nat.reduceLT, Nat.reduceLeDiff, reduceCtorEq, Int.reduceToNat, Nat.reduceBEq]
        exact ⟨⟨by decide, by omega, by omega⟩, by decide, .inr trivial⟩
     · rw [if_neg (by omega : ¬ N = 0)]
       refine nZ 200007 rfl (dj [] 800 ?_)
       simp (maxSteps := 4000000) -implicitDefEqProofs only [rv19, hme, Ent.of0, Ent.of1, Ent.of2, Ent.of3, V, W3, ↓reduceIte, Nat.reduceAdd, Nat.reduceSub, Nat.reduceMul, Nat.reduceEqDiff, Nat.reduceLT, Nat.reduceLeDiff, reduceCtorEq, Int.reduceToNat, Nat.reduceBEq]
   · have hr2 : ¬ ((l.length % m : Nat) : Int) = 0 := by omega
     have hme : gz m l = 10 := by unfold gz; rw [if_neg (fun h => h ho), if_neg (fun h => h hbe), hem, if_pos hr2]
     have h10 : ¬ (10 : Int) = 0 := by decide
     delta c19 oO oN oA oM oT oG oR oQ oS oK
     simp (maxSteps := 4000000) -implicitDefEqProofs only [rv19, nQ, n7, dQ, sm, hf, htm, hr2, hme, h10, InR, Ent.of0, Ent.of1, Ent.of2, Ent.of3, V, W3, ↓reduceIte, Nat.reduceAdd, Nat.reduceSub, Nat.reduceMul, Nat.reduceEqDiff, Nat.reduceLT, Nat.reduceLeDiff, reduceCtorEq, Int.reduceToNat, Nat.reduceBEq]
     exact hmne
 · have hme : gz n l = dl [eu n, eb l] := by
    unfold gz; simp only [dl] at hf ⊢; grind
   delta c19 oO oN oA oM oT oG oR oQ oS oK
   simp (maxSteps := 4000000) -implicitDefEqProofs only [rv19, nQ, n7, dQ, sm, hf, hme, InR, Ent.of0, Ent.of1, Ent.of2, Ent.of3, V, W3, ↓reduceIte, Nat.reduceAdd, Nat.reduceSub, Nat.reduceMul, Nat.reduceEqDiff, Nat.reduceLT, Nat.reduceLeDiff, reduceCtorEq, Int.reduceToNat, Nat.reduceBEq]
def rL : Ent Tryz.prog := .of2 19 (fun _ _ => True) (fun (n : Int) (l : List Int) => .tup [enc (if gz n l = 0 then fB n.toNat l (l.length / n.toNat) else []), enc (gz n l)]) (fun _ _ => ⟨trivial, trivial, trivial⟩) (fun n l _ => uH n l)
end Go.Proofs.YteoobfmbipmibaaGreat
end
section
open Go Go.Am
open Go.Am.Dat (cells)
namespace Go.Proofs.YteoobfmbipmibaaGreat
set_option maxHeartbeats 4000000
set_option maxRecDepth 100000
def fG (c : Nat) (n : Int) : Option Nat := (List.range (2 ^ c)).find? fun i => decide (eI (dZ i c c) = n)
def eD (c : Nat) (n : Int) : C := match fG c n with | some i => enc (dZ i c c) | none => .s (.slice none 0 0)
theorem wR (c : Nat) (n : Int) (hc : 1 ≤ c ∧ c ≤ 6) : FC Tryz.prog 115 [enc (c : Int), enc n] [] (eD c n) [] := by
 have hp : 2 ^ c ≤ 2 ^ 6 := Nat.pow_le_pow_right (by decide) hc.2
 refine dk is115 (by simp) (fun cx hl => dj [] 800 ?_)
 have hm : min c IntKind.i64.bits = c := Nat.min_eq_left (by show c ≤ 64; omega)
 have hpc : (1 : Int) * 2 ^ c = ((2 ^ c : Nat) : Int) := by push_cast; rw [Int.one_mul]
 have hq1 : (0 : Int) < 2 ^ c := Int.pow_pos (by decide)
 have hq2 : (2 : Int) ^ c ≤ 64 := by exact_mod_cast hp
 delta c115 oO oN oA oM oT oG oR oQ oS oK
 simp (maxSteps := 4000000) -implicitDefEqProofs only [rP, hm, hpc, InR, Ent.of0, Ent.of1, Ent.of2, Ent.of3, V, W3, ↓reduceIte, Nat.reduceAdd, Nat.reduceSub, Nat.reduceMul, Nat.reduceEqDiff, Nat.reduceLT, Nat.reduceLeDiff, reduceCtorEq, Int.reduceToNat, Nat.reduceBEq]
 refine ⟨by omega, ?_⟩
 refine dE (2 ^ c) (fun i => [(9, .s (.int .i64 (i : Int)))]) (fun _ => []) (fun i => ∀ j, j < i → ¬ eI (dZ j c c) = n) (by omega) ?_ (fun i hi hv => dj [wj, kb] 800 ?_)
 · simp (maxSteps := 4000000) -implicitDefEqProofs only [Ent.of0, Ent.of1, Ent.of2, Ent.of3, V, W3, ↓reduceIte, Nat.reduceAdd, Nat.reduceSub, Nat.reduceMul, Nat.reduceEqDiff, Nat.reduceLT, Nat.reduceLeDiff, reduceCtorEq, Int.reduceToNat, Nat.reduceBEq]; simp
 · by_cases h : i < 2 ^ c
   · have hi2 : (i : Int) < ((2 ^ c : Nat) : Int) := by omega
     have hlen := jQ i c c
     have hok := pI i c c
     delta t7 oO oN oA oM oT oG oR oQ oS oK
     simp (maxSteps := 4000000) -implicitDefEqProofs only [rP, hi2, h, wj, kb, Int.toNat_natCast, hlen, hok, InR, Ent.of0, Ent.of1, Ent.of2, Ent.of3, V, W3, ↓reduceIte, Nat.reduceAdd, Nat.reduceSub, Nat.reduceMul, Nat.reduceEqDiff, Nat.reduceLT, Nat.reduceLeDiff, reduceCtorEq, Int.reduceToNat, Nat.reduceBEq]
     refine ⟨by omega, by omega, ?_⟩
     split
     · rename_i he
       have hn : fG c n = some i := by
        unfold fG
        rw [List.find?_range_eq_some]
        exact ⟨by simpa using he, List.mem_range.2 h, fun j hj => by simpa using hv j hj⟩
       simp only [eD, hn, sN, wH]
       try exact zK _
     · rename_i he
       refine ⟨by omega, fun j hj => ?_, by push_cast; rfl⟩
       by_cases hj2 : j = i
       · rw [hj2]; exact he
       · exact hv j (by omega)
   · have hi2 : ¬ (i : Int) < ((2 ^ c : Nat) : Int) := by omega
     have hn : fG c n = none := by
      unfold fG
      rw [List.find?_eq_none]
      intro x hx
      simpa using hv x (by have := List.mem_range.1 hx; omega)
     delta t7 oO oN oA oM oT oG oR oQ oS oK
     simp (maxSteps := 4000000) -implicitDefEqProofs only [rP, hi2, eD, hn, InR, Ent.of0, Ent.of1, Ent.of2, Ent.of3, V, W3, ↓reduceIte, Nat.reduceAdd, Nat.reduceSub, Nat.reduceMul, Nat.reduceEqDiff, Nat.reduceLT, Nat.reduceLeDiff, reduceCtorEq, Int.reduceToNat, Nat.reduceBEq]
def fa : List Int → Int
 | [] => 0
 | x :: l => l.foldl (fun a b => if b < a then b else a) x
theorem min_c (l : List Int) (h0 : 0 < l.length) : FC Tryz.prog 116 [enc l] [] (enc (fa l)) [] := by
 obtain ⟨x, t, rfl⟩ : ∃ x t, l = x :: t := by cases l with | nil => simp at h0 | cons x t => exact ⟨x, t, rfl⟩
 refine dk is116 (by simp) (fun cx hl => dj [] 800 ?_)
 simp only [V, W3, ↓reduceIte, Nat.reduceAdd, Nat.reduceSub, Nat.reduceMul, Nat.reduceEqDiff, Nat.reduceLT, Nat.reduceLeDiff, reduceCtorEq, Int.reduceToNat, Nat.reduceBEq] at hl
 have hlen := hl.list (l := x :: t)
 have h1 : ¬ ((t.length + 1 : Nat) : Int) < 1 := by omega
 delta c116 oO oN oA oM oT oG oR oQ oS oK
 simp (maxSteps := 4000000) -implicitDefEqProofs only [sn, h1, Ent.of0, Ent.of1, Ent.of2, Ent.of3, V, W3, ↓reduceIte, Nat.reduceAdd, Nat.reduceSub, Nat.reduceMul, Nat.reduceEqDiff, Nat.reduceLT, Nat.reduceLeDiff, reduceCtorEq, Int.reduceToNat, Nat.reduceBEq]
 refine ⟨by omega, ?_⟩
 refine iD (α := Nat × Int) (fun v => [(4, .s (.int .i64 ((v.1 : Int) + 1))), (3, .s (.int .i64 v.2))]) (fun _ => []) (fun v => v.1 ≤ t.length ∧ fa (x :: t) = (t.drop v.1).foldl (fun a b => if b < a then b else a) v.2) (fun v => t.length - v.1) (0, x) ⟨Nat.zero_le _, rfl⟩ ?_ (fun v hv => dj [] 800 ?_)
 · simp (maxSteps := 4000000) -implicitDefEqProofs only [Ent.of0, Ent.of1, Ent.of2, Ent.of3, V, W3, ↓reduceIte, Nat.reduceAdd, Nat.reduceSub, Nat.reduceMul, Nat.reduceEqDiff, Nat.reduceLT, Nat.reduceLeDiff, reduceCtorEq, Int.reduceToNat, Nat.reduceBEq]; simp
 · obtain ⟨i, m⟩ := v
   obtain ⟨hv1, hv2⟩ := hv
   simp only at hv1 hv2
   have ht : ((i : Int) + 1).toNat = i + 1 := by omega
   by_cases h : i < t.length
   · have hi2 : (i : Int) + 1 < ((t.length + 1 : Nat) : Int) := by omega
     rw [dT 0 h, List.foldl_cons] at hv2
     delta th oO oN oA oM oT oG oR oQ oS oK
     simp (maxSteps := 4000000) -implicitDefEqProofs only [sn, hi2, h, ht, cr, cB, InR, Ent.of0, Ent.of1, Ent.of2, Ent.of3, V, W3, ↓reduceIte, Nat.reduceAdd, Nat.reduceSub, Nat.reduceMul, Nat.reduceEqDiff, Nat.reduceLT, Nat.reduceLeDiff, reduceCtorEq, Int.reduceToNat, Nat.reduceBEq]
     simp only [List.length_cons] at hlen
     exact ⟨by omega, by omega, (i + 1, if t.getD i 0 < m then t.getD i 0 else m), ⟨h, hv2⟩, by simp only; omega, rfl, by push_cast; rfl⟩
   · have hi2 : ¬ (i : Int) + 1 < ((t.length + 1 : Nat) : Int) := by omega
     rw [List.drop_eq_nil_of_le (by omega)] at hv2
     delta th oO oN oA oM oT oG oR oQ oS oK
     simp (maxSteps := 4000000) -implicitDefEqProofs only [sn, hi2, ht, InR, Ent.of0, Ent.of1, Ent.of2, Ent.of3, V, W3, ↓reduceIte, Nat.reduceAdd, Nat.reduceSub, Nat.reduceMul, Nat.reduceEqDiff, Nat.reduceLT, Nat.reduceLeDiff, reduceCtorEq, Int.reduceToNat, Nat.reduceBEq]
     rw [hv2]; rfl
def lX : Ent Tryz.prog := .of1 116 (fun l => 0 < l.length) (fun l : List Int => enc (fa l)) (fun _ => trivial) (fun l h => min_c l h)
theorem xf (l : List Int) (c : Nat) (hc : 1 ≤ c ∧ c ≤ 3) (hl : l.length = 2 ^ c) : FC Tryz.prog 114 [enc l] [] (enc (c : Int)) [] := by
 have : c = 1 ∨ c = 2 ∨ c = 3 := by omega
 rcases this with rfl | rfl | rfl
 all_goals
  have m0 : min 0 64 = 0 := rfl
  have m1 : min 1 64 = 1 := rfl
  have m2 : min 2 64 = 2 := rfl
  have m3 : min 3 64 = 3 := rfl
  refine dk is114 (by simp) (fun cx _ => gK [] 300 ?_)
  delta c114 wD oO oN oA oM oT oG oR oQ oS oK
  simp (maxSteps := 4000000) -implicitDefEqProofs only [rv114, hl, IntKind.bits, m0, m1, m2, m3, InR, WU, Int.reduceAdd, Int.reduceSub, Int.reduceMul, Int.reduceLT, Int.reduceLE, Int.reduceTMod, Int.reduceTDiv, Int.reduceNeg, Int.reduceEq, Nat.reducePow, Int.reducePow, Ent.of0, Ent.of1, Ent.of2, Ent.of3, V, W3, ↓reduceIte, Nat.reduceAdd, Nat.reduceSub, Nat.reduceMul, Nat.reduceEqDiff, Nat.reduceLT, Nat.reduceLeDiff, reduceCtorEq, Int.reduceToNat, Nat.reduceBEq]
end Go.Proofs.YteoobfmbipmibaaGreat
end
section
open Go Go.Am
open Go.Am.Dat (cells)
namespace Go.Proofs.YteoobfmbipmibaaGreat
set_option maxHeartbeats 4000000
set_option maxRecDepth 100000
def md : Ent Tryz.prog where
 id := 115
 sp := fun args chs => match args, chs with
  | [.s (.int .i64 c), .s (.int .i64 n)], [] => some (1 ≤ c ∧ c ≤ 6, eD c.toNat n, [], [])
  | _, _ => none
 ok := by
  intro args chs p r chs' nk hs hp
  split at hs
  · simp only [Option.some.injEq, Prod.mk.injEq] at hs
    obtain ⟨rfl, rfl, rfl, rfl⟩ := hs
    rename_i c n
    have := wR c.toNat n (by omega)
    rw [Int.toNat_of_nonneg (by omega)] at this
    refine ⟨this, .plain ?_⟩
    unfold eD
    split <;> trivial
  · cases hs
def eV (c : Nat) : List Int := (List.range (2 ^ c)).map fun (k : Nat) => 2 * (k : Int) - (2 ^ c - 1)
def kJ (c i : Nat) (b : Int) (sq : List Int) : List Int :=
 ((List.range (2 ^ c)).filter fun (k : Nat) => decide (((fG c (2 * (k : Int) - (2 ^ c - 1))).map fun m => (dZ m c c).getD i 0) = some b)).map fun k => sq.getD k 0
def fm (c : Nat) (sq : List Int) : List Int := (List.range c).map fun i => fa (kJ c i 1 sq) - fa (kJ c i 0 sq)
theorem mA : ∀ (l : List Int) (x : Int), l.foldl (fun a b => if b < a then b else a) x ∈ x :: l
 | [], x => by simp
 | y :: l, x => by
  simp only [List.foldl_cons]
  have := mA l (if y < x then y else x)
  rcases List.mem_cons.1 this with h | h
  · rw [h]; split <;> simp
  · exact List.mem_cons_of_mem _ (List.mem_cons_of_mem _ h)
theorem gr {l : List Int} {B : Int} (h0 : 0 < l.length) (h : ∀ x ∈ l, 0 ≤ x ∧ x ≤ B) : 0 ≤ fa l ∧ fa l ≤ B := by
 cases l with
 | nil => simp at h0
 | cons x t => exact h _ (mA t x)
def ctE (c : Nat) (hc : 1 ≤ c ∧ c ≤ 3) : Ent Tryz.prog := .of1 114 (fun l => l.length = 2 ^ c) (fun _ : List Int => enc (c : Int)) (fun _ => trivial) (fun l h => xf l c hc h)
end Go.Proofs.YteoobfmbipmibaaGreat
end
section
open Go Go.Am
open Go.Am.Dat (cells)
namespace Go.Proofs.YteoobfmbipmibaaGreat
set_option maxHeartbeats 4000000
set_option maxRecDepth 100000
theorem Mod_c (n by_ : Int) (h : 0 < by_ ∧ by_ ≤ 4611686018427387903) : FC Tryz.prog 30 [enc n, enc by_] [] (enc (n % by_)) [] := by
 refine dk is30 (by simp) (fun cx hl => dj [] 800 ?_)
 delta c30 oO oN oA oM oT oG oR oQ oS oK
 simp (maxSteps := 4000000) -implicitDefEqProofs only [rv30, InR, Ent.of0, Ent.of1, Ent.of2, Ent.of3, V, W3, ↓reduceIte, Nat.reduceAdd, Nat.reduceSub, Nat.reduceMul, Nat.reduceEqDiff, Nat.reduceLT, Nat.reduceLeDiff, reduceCtorEq, Int.reduceToNat, Nat.reduceBEq]
 have h1 : n.tmod by_ < by_ := Int.tmod_lt_of_pos n h.1
 have h2 : -by_ < n.tmod by_ := Int.lt_tmod_of_pos n h.1
 have h3 := Int.emod_nonneg n (show by_ ≠ 0 by omega)
 have h4 := Int.emod_lt_of_pos n h.1
 refine ⟨by omega, ?_⟩
 have e : n % by_ = if n.tmod by_ < 0 then n.tmod by_ + by_ else n.tmod by_ := by
  have hk : (n.tmod by_) % by_ = n % by_ := by
   conv => rhs; rw [← Int.mul_tdiv_add_tmod n by_]
   rw [Int.mul_add_emod_self_left]
  split
  · rw [← hk, ← Int.add_emod_right, Int.emod_eq_of_lt (by omega) (by omega)]
  · rw [← hk, Int.emod_eq_of_lt (by omega) (by omega)]
 rw [e]
 split
 · exact ⟨by omega, rfl⟩
 · rfl
def pY : Ent Tryz.prog := .of2 30 (fun _ b => 0 < b ∧ b ≤ 4611686018427387903) (fun n b : Int => enc (n % b)) (fun _ _ => trivial) (fun n b h => Mod_c n b h)
end Go.Proofs.YteoobfmbipmibaaGreat
end
section
open Go Go.Am
open Go.Am.Dat (cells)
namespace Go.Proofs.YteoobfmbipmibaaGreat
set_option maxHeartbeats 4000000
set_option maxRecDepth 100000
theorem soft1_c (s0 s1 : Int) (h : ∀ s ∈ [s0, s1], 0 ≤ s ∧ s ≤ 4611686018427387903) : FC Tryz.prog 81 [enc (eV 1), enc [s0, s1]] [] (enc (fm 1 [s0, s1])) [] := by
 have l0 : eD 1 (-1) = .sl 1 [[.s (.int .i64 1)]] := by rfl
 have l1 : eD 1 1 = .sl 1 [[.s (.int .i64 0)]] := by rfl
 have hl : eV 1 = [-1, 1] := by decide
 have ht : Int.toNat 1 = 1 := rfl
 have hs : fm 1 [s0, s1] = [fa [s0] - fa [s1]] := by rfl
 have q00 := gr (l := [s1]) (by simp) (fun x hx => h x (by simp at hx ⊢; grind))
 have q01 := gr (l := [s0]) (by simp) (fun x hx => h x (by simp at hx ⊢; grind))
 rw [hl, hs]
 refine dk is81 (by simp) (fun cx _ => gK [ctE 1 (by decide), md, lX] 4000 ?_)
 delta c81 r8 rE oO oN oA oM oT oG oR oQ oS oK
 simp (maxSteps := 4000000) -implicitDefEqProofs only [rv81, ctE, md, lX, ht, l0, l1, InR, WU, Int.reduceAdd, Int.reduceSub, Int.reduceMul, Int.reduceLT, Int.reduceLE, Int.reduceTMod, Int.reduceTDiv, Int.reduceNeg, Int.reduceEq, Nat.reducePow, Int.reducePow, Ent.of0, Ent.of1, Ent.of2, Ent.of3, V, W3, ↓reduceIte, Nat.reduceAdd, Nat.reduceSub, Nat.reduceMul, Nat.reduceEqDiff, Nat.reduceLT, Nat.reduceLeDiff, reduceCtorEq, Int.reduceToNat, Nat.reduceBEq]
 omega
theorem soft2_c (s0 s1 s2 s3 : Int) (h : ∀ s ∈ [s0, s1, s2, s3], 0 ≤ s ∧ s ≤ 4611686018427387903) : FC Tryz.prog 81 [enc (eV 2), enc [s0, s1, s2, s3]] [] (enc (fm 2 [s0, s1, s2, s3])) [] := by
 have l0 : eD 2 (-3) = .sl 1 [[.s (.int .i64 1)], [.s (.int .i64 1)]] := by rfl
 have l1 : eD 2 (-1) = .sl 1 [[.s (.int .i64 1)], [.s (.int .i64 0)]] := by rfl
 have l2 : eD 2 1 = .sl 1 [[.s (.int .i64 0)], [.s (.int .i64 0)]] := by rfl
 have l3 : eD 2 3 = .sl 1 [[.s (.int .i64 0)], [.s (.int .i64 1)]] := by rfl
 have hl : eV 2 = [-3, -1, 1, 3] := by decide
 have ht : Int.toNat 2 = 2 := rfl
 have hs : fm 2 [s0, s1, s2, s3] = [fa [s0, s1] - fa [s2, s3], fa [s0, s3] - fa [s1, s2]] := by rfl
 have q00 := gr (l := [s2, s3]) (by simp) (fun x hx => h x (by simp at hx ⊢; grind))
 have q01 := gr (l := [s0, s1]) (by simp) (fun x hx => h x (by simp at hx ⊢; grind))
 have q10 := gr (l := [s1, s2]) (by simp) (fun x hx => h x (by simp at hx ⊢; grind))
 have q11 := gr (l := [s0, s3]) (by simp) (fun x hx => h x (by simp at hx ⊢; grind))
 rw [hl, hs]
 refine dk is81 (by simp) (fun cx _ => gK [ctE 2 (by decide), md, lX] 4000 ?_)
 delta c81 r8 rE oO oN oA oM oT oG oR oQ oS oK
 simp (maxSteps := 4000000) -implicitDefEqProofs only [rv81, ctE, md, lX, ht, l0, l1, l2, l3, InR, WU, Int.reduceAdd, Int.reduceSub, Int.reduceMul, Int.reduceLT, Int.reduceLE, Int.reduceTMod, Int.reduceTDiv, Int.reduceNeg, Int.reduceEq, Nat.reducePow, Int.reducePow, Ent.of0, Ent.of1, Ent.of2, Ent.of3, V, W3, ↓reduceIte, Nat.reduceAdd, Nat.reduceSub, Nat.reduceMul, Nat.reduceEqDiff, Nat.reduceLT, Nat.reduceLeDiff, reduceCtorEq, Int.reduceToNat, Nat.reduceBEq]
 omega
theorem soft3_c (s0 s1 s2 s3 s4 s5 s6 s7 : Int) (h : ∀ s ∈ [s0, s1, s2, s3, s4, s5, s6, s7], 0 ≤ s ∧ s ≤ 4611686018427387903) : FC Tryz.prog 81 [enc (eV 3), enc [s0, s1, s2, s3, s4, s5, s6, s7]] [] (enc (fm 3 [s0, s1, s2, s3, s4, s5, s6, s7])) [] := by
 have l0 : eD 3 (-7) = .sl 1 [[.s (.int .i64 1)], [.s (.int .i64 1)], [.s (.int .i64 1)]] := by rfl
 have l1 : eD 3 (-5) = .sl 1 [[.s (.int .i64 1)], [.s (.int .i64 1)], [.s (.int .i64 0)]] := by rfl
 have l2 : eD 3 (-3) = .sl 1 [[.s (.int .i64 1)], [.s (.int .i64 0)], [.s (.int .i64 0)]] := by rfl
 have l3 : eD 3 (-1) = .sl 1 [[.s (.int .i64 1)], [.s (.int .i64 0)], [.s (.int .i64 1)]] := by rfl
 have l4 : eD 3 1 = .sl 1 [[.s (.int .i64 0)], [.s (.int .i64 0)], [.s (.int .i64 1)]] := by rfl
 have l5 : eD 3 3 = .sl 1 [[.s (.int .i64 0)], [.s (.int .i64 0)], [.s (.int .i64 0)]] := by rfl
 have l6 : eD 3 5 = .sl 1 [[.s (.int .i64 0)], [.s (.int .i64 1)], [.s (.int .i64 0)]] := by rfl
 have l7 : eD 3 7 = .sl 1 [[.s (.int .i64 0)], [.s (.int .i64 1)], [.s (.int .i64 1)]] := by rfl
 have hl : eV 3 = [-7, -5, -3, -1, 1, 3, 5, 7] := by decide
 have ht : Int.toNat 3 = 3 := rfl
 have hs : fm 3 [s0, s1, s2, s3, s4, s5, s6, s7] = [fa [s0, s1, s2, s3] - fa [s4, s5, s6, s7], fa [s0, s1, s6, s7] - fa [s2, s3, s4, s5], fa [s0, s3, s4, s7] - fa [s1, s2, s5, s6]] := by rfl
 have q00 := gr (l := [s4, s5, s6, s7]) (by simp) (fun x hx => h x (by simp at hx ⊢; grind))
 have q01 := gr (l := [s0, s1, s2, s3]) (by simp) (fun x hx => h x (by simp at hx ⊢; grind))
 have q10 := gr (l := [s2, s3, s4, s5]) (by simp) (fun x hx => h x (by simp at hx ⊢; grind))
 have q11 := gr (l := [s0, s1, s6, s7]) (by simp) (fun x hx => h x (by simp at hx ⊢; grind))
 have q20 := gr (l := [s1, s2, s5, s6]) (by simp) (fun x hx => h x (by simp at hx ⊢; grind))
 have q21 := gr (l := [s0, s3, s4, s7]) (by simp) (fun x hx => h x (by simp at hx ⊢; grind))
 rw [hl, hs]
 refine dk is81 (by simp) (fun cx _ => gK [ctE 3 (by decide), md, lX] 4000 ?_)
 delta c81 r8 rE oO oN oA oM oT oG oR oQ oS oK
 simp (maxSteps := 4000000) -implicitDefEqProofs only [rv81, ctE, md, lX, ht, l0, l1, l2, l3, l4, l5, l6, l7, InR, WU, Int.reduceAdd, Int.reduceSub, Int.reduceMul, Int.reduceLT, Int.reduceLE, Int.reduceTMod, Int.reduceTDiv, Int.reduceNeg, Int.reduceEq, Nat.reducePow, Int.reducePow, Ent.of0, Ent.of1, Ent.of2, Ent.of3, V, W3, ↓reduceIte, Nat.reduceAdd, Nat.reduceSub, Nat.reduceMul, Nat.reduceEqDiff, Nat.reduceLT, Nat.reduceLeDiff, reduceCtorEq, Int.reduceToNat, Nat.reduceBEq]
 omega
theorem soft_c (c : Nat) (hc : c = 1 ∨ c = 2 ∨ c = 3) (sq : List Int) (hl : sq.length = 2 ^ c) (hb : ∀ s ∈ sq, 0 ≤ s ∧ s ≤ 4611686018427387903) : FC Tryz.prog 81 [enc (eV c), enc sq] [] (enc (fm c sq)) [] := by
 rcases hc with rfl | rfl | rfl
 · match sq, hl with
   | [a, b], _ => exact soft1_c a b hb
 · match sq, hl with
   | [a, b, c, d], _ => exact soft2_c a b c d hb
 · match sq, hl with
   | [a, b, c, d, e, f, g, h], _ => exact soft3_c a b c d e f g h hb
end Go.Proofs.YteoobfmbipmibaaGreat
end
section
open Go Go.Am
open Go.Am.Dat (cells)
namespace Go.Proofs.YteoobfmbipmibaaGreat
set_option maxHeartbeats 4000000
set_option maxRecDepth 100000
structure Recv where
 order : Int
 gain : Int
 symbols : List Gs
instance : DatL Recv where
 sz := 3
 agg := true
 cells g := [.s (.int .i64 g.order), .s (.int .i64 g.gain), .sl 2 (g.symbols.map cells)]
 dec | [.s (.int .i64 a), .s (.int .i64 b), .sl 2 t] => (eo t).map fun t' => ⟨a, b, t'⟩ | _ => none
 ok := by
  intro l a h
  split at h
  · simp only [Option.map_eq_some_iff] at h
    obtain ⟨t', h1, rfl⟩ := h
    rw [dV h1]
  · cases h
 data := fun a => rfl
 one := fun h => by cases h
 dec_cells := fun a => by simp [g0]
theorem it (g : Recv) : enc g = .agg [.s (.int .i64 g.order), .s (.int .i64 g.gain), .sl 2 (g.symbols.map cells)] := rfl
theorem iA (a b : Int) (t : List (List C)) : eW (.agg [C.s (.int .i64 a), .s (.int .i64 b), .sl 2 t]) = (eo t).map fun t' => (⟨a, b, t'⟩ : Recv) := rfl
def e9 (x : Recv) : Int := dl [eu x.order, if 1 ≤ x.gain ∧ x.gain ≤ 10000000 then 0 else 2, d8 x.symbols]
theorem rz (x : Recv) : FC Tryz.prog 79 [enc x] [] (enc (e9 x)) [] := by
 obtain ⟨o, g, l⟩ := x
 refine dk is79 (by simp) (fun cx hl => dj [nQ, fR, ew, pu, dQ] 800 ?_)
 delta c79 oO oN oA oM oT oG oR oQ oS oK
 simp (maxSteps := 4000000) -implicitDefEqProofs only [rv79, nQ, fR, ew, pu, dQ, it, Ent.of0, Ent.of1, Ent.of2, Ent.of3, V, W3, ↓reduceIte, Nat.reduceAdd, Nat.reduceSub, Nat.reduceMul, Nat.reduceEqDiff, Nat.reduceLT, Nat.reduceLeDiff, reduceCtorEq, Int.reduceToNat, Nat.reduceBEq]
 rfl
def ent79 : Ent Tryz.prog := .of1 79 (fun _ => True) (fun x : Recv => enc (e9 x)) (fun _ => trivial) (fun x _ => rz x)
def sqS (c : Nat) (gain n : Int) : List Int := (eV c).map fun l => (n - l * gain) * (n - l * gain)
end Go.Proofs.YteoobfmbipmibaaGreat
end
section
open Go Go.Am
open Go.Am.Dat (cells)
namespace Go.Proofs.YteoobfmbipmibaaGreat
set_option maxHeartbeats 4000000
set_option maxRecDepth 100000
theorem lvls_bd {c : Nat} (hc : c = 1 ∨ c = 2 ∨ c = 3) : ∀ l ∈ eV c, -7 ≤ l ∧ l ≤ 7 := by
 rcases hc with rfl | rfl | rfl <;> decide
theorem iV (c : Nat) : (eV c).length = 2 ^ c := by simp [eV]
theorem sq_bd {d B : Int} (h : -B ≤ d ∧ d ≤ B) : 0 ≤ d * d ∧ d * d ≤ B * B := by
 have h1 := Int.mul_nonneg (show 0 ≤ B - d by omega) (show 0 ≤ B + d by omega)
 rw [Int.sub_mul, Int.mul_add, Int.mul_add, Int.mul_comm d B] at h1
 refine ⟨?_, by omega⟩
 rcases Int.le_total 0 d with h0 | h0
 · exact Int.mul_nonneg h0 h0
 · exact Int.mul_nonneg_of_nonpos_of_nonpos h0 h0
theorem lg_bd {t g : Int} (ht : -7 ≤ t ∧ t ≤ 7) (hg : 1 ≤ g ∧ g ≤ 10000000) : -70000000 ≤ t * g ∧ t * g ≤ 70000000 := by
 have : t = -7 ∨ t = -6 ∨ t = -5 ∨ t = -4 ∨ t = -3 ∨ t = -2 ∨ t = -1 ∨ t = 0 ∨ t = 1 ∨ t = 2 ∨ t = 3 ∨ t = 4 ∨ t = 5 ∨ t = 6 ∨ t = 7 := by omega
 rcases this with rfl | rfl | rfl | rfl | rfl | rfl | rfl | rfl | rfl | rfl | rfl | rfl | rfl | rfl | rfl <;> omega
theorem part_c (f : FuncId) (T : List Int → List Int) (c : Nat) (hc : c = 1 ∨ c = 2 ∨ c = 3) (hf : ∀ sq : List Int, sq.length = 2 ^ c → (∀ s ∈ sq, 0 ≤ s ∧ s ≤ 4611686018427387903) → FC Tryz.prog f [enc (eV c), enc sq] [] (enc (T sq)) [])
 (x : Recv) (n : Int) (hg : 1 ≤ x.gain ∧ x.gain ≤ 10000000) (hn : -100000000 ≤ n ∧ n ≤ 100000000) :
 FC Tryz.prog 113 [enc n, .ptr 100000 0, .ptr 100001 0, .ptr 100002 0] [(100000, .box [enc (eV c)]), (100001, .box (cells x)), (100002, .box [.fn (.func f) [] []])] (enc (T (sqS c x.gain n))) [(100000, .box [enc (eV c)]), (100001, .box (cells x)), (100002, .box [.fn (.func f) [] []])] := by
 obtain ⟨o, g, l⟩ := x
 simp only at hg
 have hcl : cells (⟨o, g, l⟩ : Recv) = [.s (.int .i64 o), .s (.int .i64 g), .sl 2 (l.map cells)] := rfl
 rw [hcl]
 have hll := iV c
 have hlb := lvls_bd hc
 have hp : 2 ^ c ≤ 8 := by rcases hc with rfl | rfl | rfl <;> decide
 have hsq : sqS c g n = (eV c).map fun l => (n - l * g) * (n - l * g) := rfl
 generalize eV c = L at *
 refine dF [] is113 (by simp) (by simp [bf]) (by simp [an, ae, aq]) (by simp [an, ae, aq]) (by simp [aF, lk]) (fun cx _ _ _ => dj [] 800 ?_)
 delta c113 oO oN oA oM oT oG oR oQ oS oK
 simp (maxSteps := 4000000) -implicitDefEqProofs only [rv113, InR, Ent.of0, Ent.of1, Ent.of2, Ent.of3, V, W3, ↓reduceIte, Nat.reduceAdd, Nat.reduceSub, Nat.reduceMul, Nat.reduceEqDiff, Nat.reduceLT, Nat.reduceLeDiff, reduceCtorEq, Int.reduceToNat, Nat.reduceBEq]
 refine dE L.length (fun i => [(11, .s (.int .i64 (i : Int)))]) (fun i => [(6, .row 1 3 (((L.take i).map fun l => (n - l * g) * (n - l * g)).map cells))]) (fun _ => True) trivial ?_ (fun i hi _ => dj [.of2 f (fun a b => a = L ∧ b.length = 2 ^ c ∧ ∀ s ∈ b, 0 ≤ s ∧ s ≤ 4611686018427387903) (fun _ b => enc (T b)) (fun _ _ => trivial) (fun a b h => by obtain ⟨rfl, h1, h2⟩ := h; exact hf b h1 h2)] 800 ?_)
 · simp (maxSteps := 4000000) -implicitDefEqProofs only [Ent.of0, Ent.of1, Ent.of2, Ent.of3, V, W3, ↓reduceIte, Nat.reduceAdd, Nat.reduceSub, Nat.reduceMul, Nat.reduceEqDiff, Nat.reduceLT, Nat.reduceLeDiff, reduceCtorEq, Int.reduceToNat, Nat.reduceBEq]; simp
 · by_cases h : i < L.length
   · have hi2 : (i : Int) < (L.length : Int) := by omega
     have hm : L.getD i 0 ∈ L := by rw [List.getD_eq_getElem?_getD, List.getElem?_eq_getElem h]; exact List.getElem_mem _
     have b1 := lg_bd (hlb _ hm) hg
     have b2 := sq_bd (d := n - L.getD i 0 * g) (B := 170000000) (by omega)
     have htk : ((L.take i).map fun l => (n - l * g) * (n - l * g)).map cells ++ [[C.s (.int .i64 ((n - L.getD i 0 * g) * (n - L.getD i 0 * g)))]] = ((L.take (i + 1)).map fun l => (n - l * g) * (n - l * g)).map cells := by
      rw [eL 0 h, List.map_append, List.map_append]; rfl
     have htl : (L.take i).length = i := by rw [List.length_take]; omega
     delta t8 oO oN oA oM oT oG oR oQ oS oK
     simp (maxSteps := 4000000) -implicitDefEqProofs only [hi2, h, htk, InR, Ent.of0, Ent.of1, Ent.of2, Ent.of3, V, W3, ↓reduceIte, Nat.reduceAdd, Nat.reduceSub, Nat.reduceMul, Nat.reduceEqDiff, Nat.reduceLT, Nat.reduceLeDiff, reduceCtorEq, Int.reduceToNat, Nat.reduceBEq]
     exact ⟨by omega, by omega, by omega, by omega, by omega, by omega, by omega, by omega, by push_cast; rfl⟩
   · have hi2 : ¬ (i : Int) < (L.length : Int) := by omega
     have hie : i = L.length := by omega
     subst hie
     have htk : L.take L.length = L := List.take_length
     delta t8 oO oN oA oM oT oG oR oQ oS oK
     simp (maxSteps := 4000000) -implicitDefEqProofs only [hi2, rv113, htk, hsq, InR, Ent.of0, Ent.of1, Ent.of2, Ent.of3, V, W3, ↓reduceIte, Nat.reduceAdd, Nat.reduceSub, Nat.reduceMul, Nat.reduceEqDiff, Nat.reduceLT, Nat.reduceLeDiff, reduceCtorEq, Int.reduceToNat, Nat.reduceBEq]
     refine ⟨hll, fun s hs => ?_⟩
     obtain ⟨t, ht, rfl⟩ := List.mem_map.1 hs
     have b1 := lg_bd (hlb _ ht) hg
     have b2 := sq_bd (d := n - t * g) (B := 170000000) (by omega)
     omega
end Go.Proofs.YteoobfmbipmibaaGreat
end
section
open Go Go.Am
open Go.Am.Dat (cells)
namespace Go.Proofs.YteoobfmbipmibaaGreat
set_option maxHeartbeats 4000000
set_option maxRecDepth 100000
def fi (c : Nat) (a b : List Int) : List Int := (List.range c).flatMap fun i => [a.getD i 0, b.getD i 0]
theorem oo (c : Nat) (a b : List Int) : fi (c + 1) a b = fi c a b ++ [a.getD c 0, b.getD c 0] := by simp [fi, List.range_succ]
theorem mW (a b : List Int) : ∀ c, (fi c a b).length = 2 * c
 | 0 => rfl
 | c + 1 => by rw [oo, List.length_append, mW a b c]; simp; omega
def ec (c : Nat) (T : List Int → List Int) (gain : Int) (l : List Gs) : List Int := l.flatMap fun g => fi c (T (sqS c gain g.re)) (T (sqS c gain g.im))
def xW (f : FuncId) (T : List Int → List Int) (c : Nat) (hc : c = 1 ∨ c = 2 ∨ c = 3) (hf : ∀ sq : List Int, sq.length = 2 ^ c → (∀ s ∈ sq, 0 ≤ s ∧ s ≤ 4611686018427387903) → FC Tryz.prog f [enc (eV c), enc sq] [] (enc (T sq)) []) : Ent Tryz.prog where
 id := 113
 sp := fun _ _ => none
 ok := by intro _ _ _ _ _ _ h; cases h
 kp := fun args chs => match args, chs with
  | [.s (.int .i64 n), .ptr k1 o1, .ptr k2 o2, .ptr k3 o3], [(k1', .box [.sl 1 L]), (k2', .box [.s (.int .i64 o), .s (.int .i64 g), .sl 2 l]), (k3', .box [.fn (.func f') [] []])] =>
   some ((k1 = 100000 ∧ o1 = 0 ∧ k2 = 100001 ∧ o2 = 0 ∧ k3 = 100002 ∧ o3 = 0 ∧ k1' = 100000 ∧ k2' = 100001 ∧ k3' = 100002 ∧ f' = f ∧ L = (eV c).map cells ∧ ∃ l' : List Gs, l = l'.map cells) ∧ (1 ≤ g ∧ g ≤ 10000000) ∧ -100000000 ≤ n ∧ n ≤ 100000000, enc (T (sqS c g n)))
  | _, _ => none
 kpok := by
  intro args chs p r hs hp
  split at hs
  · rename_i n k1 o1 k2 o2 k3 o3 k1' L k2' o g l k3' f'
    simp only [Option.some.injEq, Prod.mk.injEq] at hs
    obtain ⟨rfl, rfl⟩ := hs
    obtain ⟨⟨rfl, rfl, rfl, rfl, rfl, rfl, rfl, rfl, rfl, hff, rfl, l', rfl⟩, hg, hn⟩ := hp
    subst hff
    exact ⟨part_c f' T c hc hf ⟨o, g, l'⟩ n hg hn, rfl, trivial⟩
  · cases hs
theorem yx (f : FuncId) (T : List Int → List Int) (c : Nat) (hc : c = 1 ∨ c = 2 ∨ c = 3) (hf : ∀ sq : List Int, sq.length = 2 ^ c → (∀ s ∈ sq, 0 ≤ s ∧ s ≤ 4611686018427387903) → FC Tryz.prog f [enc (eV c), enc sq] [] (enc (T sq)) [])
 (hT : ∀ sq : List Int, sq.length = 2 ^ c → (T sq).length = c) (g : Int) (l : List Gs) (hg : 1 ≤ g ∧ g ≤ 10000000) (hn : ∀ s ∈ l, (-100000000 ≤ s.re ∧ s.re ≤ 100000000) ∧ -100000000 ≤ s.im ∧ s.im ≤ 100000000) (hll : l.length ≤ 1000) :
 FC Tryz.prog 80 [enc (⟨2 * (c : Int), g, l⟩ : Recv), .fn (.func f) [] []] [] (enc (ec c T g l)) [] := by
 have hlc := iV c
 have hq : (2 * (c : Int)).tdiv 2 = (c : Int) := by rw [Int.mul_comm]; exact Int.mul_tdiv_cancel _ (by decide)
 have hmin : min c IntKind.i64.bits = c := by rcases hc with rfl | rfl | rfl <;> decide
 have hP : (2 : Int) ^ c = ((2 ^ c : Nat) : Int) := by push_cast; rfl
 have hPb : 2 ≤ 2 ^ c ∧ 2 ^ c ≤ 8 := by rcases hc with rfl | rfl | rfl <;> decide
 have hget : ∀ i, i < 2 ^ c → (eV c).getD i 0 = 2 * (i : Int) - ((2 ^ c : Nat) - 1) := fun i hi => by
  have hi' : i < (eV c).length := by omega
  rw [List.getD_eq_getElem?_getD, List.getElem?_eq_getElem hi']
  simp [eV]
 refine dF [] is80 (by simp) trivial trivial trivial trivial (fun cx hcx hl _ => dj [] 800 ?_)
 delta c80 oO oN oA oM oT oG oR oQ oS oK
 simp (maxSteps := 4000000) -implicitDefEqProofs only [rv80, it, hq, hmin, hP, Int.one_mul, InR, Ent.of0, Ent.of1, Ent.of2, Ent.of3, V, W3, ↓reduceIte, Nat.reduceAdd, Nat.reduceSub, Nat.reduceMul, Nat.reduceEqDiff, Nat.reduceLT, Nat.reduceLeDiff, reduceCtorEq, Int.reduceToNat, Nat.reduceBEq]
 refine ⟨by omega, by omega, by omega, ?_⟩
 refine dE (2 ^ c) (fun i => [(7, .s (.int .i64 (2 * (i : Int) - ((2 ^ c : Nat) - 1))))]) (fun i => [(6, .box [if i = 0 then .s (.slice none 0 0) else .isl 1 3 (((eV c).take i).map cells)])]) (fun _ => True) trivial ?_ (fun i hi _ => ?_)
 · simp (maxSteps := 4000000) -implicitDefEqProofs only [Ent.of0, Ent.of1, Ent.of2, Ent.of3, V, W3, ↓reduceIte, Nat.reduceAdd, Nat.reduceSub, Nat.reduceMul, Nat.reduceEqDiff, Nat.reduceLT, Nat.reduceLeDiff, reduceCtorEq, Int.reduceToNat, Nat.reduceBEq]; omega
 · by_cases h : i < 2 ^ c
   · have htk : ((eV c).take i).map cells ++ [[C.s (.int .i64 (2 * (i : Int) - ((2 ^ c : Nat) - 1)))]] = ((eV c).take (i + 1)).map cells := by
      rw [eL 0 (by omega : i < (eV c).length), List.map_append, hget i h]; rfl
     have hlt : ((eV c).take i).length = i := by rw [List.length_take]; omega
     have hlt2 : 2 * (i : Int) - (((2 ^ c : Nat) : Int) - 1) < ((2 ^ c : Nat) : Int) := by omega
     refine dj [] 800 ?_
     cases i with
     | zero =>
      delta sg oO oN oA oM oT oG oR oQ oS oK
      simp (maxSteps := 4000000) -implicitDefEqProofs only [hq, hmin, hP, Int.one_mul, hlt2, h, InR, Ent.of0, Ent.of1, Ent.of2, Ent.of3, V, W3, ↓reduceIte, Nat.reduceAdd, Nat.reduceSub, Nat.reduceMul, Nat.reduceEqDiff, Nat.reduceLT, Nat.reduceLeDiff, reduceCtorEq, Int.reduceToNat, Nat.reduceBEq]
      refine ⟨by omega, by omega, by omega, by push_cast; omega, ?_⟩
      rw [← htk]; rfl
     | succ i =>
      delta sg oO oN oA oM oT oG oR oQ oS oK
      simp (maxSteps := 4000000) -implicitDefEqProofs only [hq, hmin, hP, Int.one_mul, hlt, hlt2, h, htk, Nat.succ_ne_zero, InR, Ent.of0, Ent.of1, Ent.of2, Ent.of3, V, W3, ↓reduceIte, Nat.reduceAdd, Nat.reduceSub, Nat.reduceMul, Nat.reduceEqDiff, Nat.reduceLT, Nat.reduceLeDiff, reduceCtorEq, Int.reduceToNat, Nat.reduceBEq]
      exact ⟨by omega, by omega, by omega, by omega, by push_cast; omega⟩
   · have hlt2 : ¬ 2 * (i : Int) - (((2 ^ c : Nat) : Int) - 1) < ((2 ^ c : Nat) : Int) := by omega
     have hie : i = 2 ^ c := by omega
     subst hie
     have hi0 : 2 ^ c ≠ 0 := by omega
     have htk : (eV c).take (2 ^ c) = eV c := by rw [← hlc]; exact List.take_length
     refine dj [] 800 ?_
     delta sg oO oN oA oM oT oG oR oQ oS oK
     simp (maxSteps := 4000000) -implicitDefEqProofs only [hq, hmin, hP, Int.one_mul, hlt2, hi0, htk, InR, Ent.of0, Ent.of1, Ent.of2, Ent.of3, V, W3, ↓reduceIte, Nat.reduceAdd, Nat.reduceSub, Nat.reduceMul, Nat.reduceEqDiff, Nat.reduceLT, Nat.reduceLeDiff, reduceCtorEq, Int.reduceToNat, Nat.reduceBEq]
     refine ⟨by omega, nZ 6 rfl ?_⟩
     simp (maxSteps := 4000000) -implicitDefEqProofs only [Ent.of0, Ent.of1, Ent.of2, Ent.of3, V, W3, ↓reduceIte, Nat.reduceAdd, Nat.reduceSub, Nat.reduceMul, Nat.reduceEqDiff, Nat.reduceLT, Nat.reduceLeDiff, reduceCtorEq, Int.reduceToNat, Nat.reduceBEq]
     refine dE l.length (fun i => [(35, .s (.int .i64 (i : Int)))]) (fun i => [(9, .row 1 3 ((ec c T g (l.take i)).map cells))]) (fun _ => True) trivial ?_ (fun i hi _ => dj [xW f T c hc hf] 800 ?_)
     · simp (maxSteps := 4000000) -implicitDefEqProofs only [ec, Ent.of0, Ent.of1, Ent.of2, Ent.of3, V, W3, ↓reduceIte, Nat.reduceAdd, Nat.reduceSub, Nat.reduceMul, Nat.reduceEqDiff, Nat.reduceLT, Nat.reduceLeDiff, reduceCtorEq, Int.reduceToNat, Nat.reduceBEq]
       exact ⟨rfl, rfl⟩
     · by_cases h : i < l.length
       · have hi2 : (i : Int) < (l.length : Int) := by omega
         have hgm : l.getD i ⟨0, 0⟩ ∈ l := dD _ h
         have hn1 := hn _ hgm
         have hsql : ∀ n, (sqS c g n).length = 2 ^ c := fun n => by rw [sqS, List.length_map, hlc]
         have hT1 := hT _ (hsql (l.getD i ⟨0, 0⟩).re)
         have hT2 := hT _ (hsql (l.getD i ⟨0, 0⟩).im)
         delta c80l3 oO oN oA oM oT oG oR oQ oS oK
         simp (maxSteps := 4000000) -implicitDefEqProofs only [hi2, h, xW, hT1, InR, Ent.of0, Ent.of1, Ent.of2, Ent.of3, V, W3, ↓reduceIte, Nat.reduceAdd, Nat.reduceSub, Nat.reduceMul, Nat.reduceEqDiff, Nat.reduceLT, Nat.reduceLeDiff, reduceCtorEq, Int.reduceToNat, Nat.reduceBEq]
         refine ⟨by omega, ⟨⟨l, rfl⟩, hg, hn1.1⟩, ⟨⟨l, rfl⟩, hg, hn1.2⟩, ?_⟩
         have hjs : ec c T g (l.take (i + 1)) = ec c T g (l.take i) ++ fi c (T (sqS c g (l.getD i ⟨0, 0⟩).re)) (T (sqS c g (l.getD i ⟨0, 0⟩).im)) := by
          rw [eL ⟨0, 0⟩ h, ec, ec, List.flatMap_append]; simp
         have hjl : (ec c T g (l.take i)).length ≤ 6000 := by
          have e : ∀ (m : List Gs), (ec c T g m).length ≤ 6 * m.length := fun m => by
           induction m with
           | nil => simp [ec]
           | cons x m ih =>
            have : ec c T g (x :: m) = fi c (T (sqS c g x.re)) (T (sqS c g x.im)) ++ ec c T g m := by simp [ec]
            rw [this, List.length_append, List.length_cons]
            have h2 : (fi c (T (sqS c g x.re)) (T (sqS c g x.im))).length ≤ 6 := by
             rcases hc with rfl | rfl | rfl <;> simp [fi, List.range_succ]
            omega
          have := e (l.take i)
          rw [List.length_take] at this
          omega
         generalize T (sqS c g (l.getD i ⟨0, 0⟩).re) = X at *
         generalize T (sqS c g (l.getD i ⟨0, 0⟩).im) = Y at *
         generalize ec c T g (l.take i) = J at *
         refine dE c (fun j => [(49, .s (.int .i64 (j : Int)))]) (fun j => [(9, .row 1 3 ((J ++ fi j X Y).map cells))]) (fun _ => True) trivial ?_ (fun j hj _ => dj [] 800 ?_)
         · simp (maxSteps := 4000000) -implicitDefEqProofs only [Ent.of0, Ent.of1, Ent.of2, Ent.of3, V, W3, ↓reduceIte, Nat.reduceAdd, Nat.reduceSub, Nat.reduceMul, Nat.reduceEqDiff, Nat.reduceLT, Nat.reduceLeDiff, reduceCtorEq, Int.reduceToNat, Nat.reduceBEq]
           exact ⟨rfl, by simp [fi]⟩
         · have htl := mW X Y j
           by_cases hjc : j < c
           · have hj2 : (j : Int) < (c : Int) := by omega
             have hj3 : j < X.length := by omega
             have hj4 : j < Y.length := by omega
             have htk : (J ++ fi j X Y).map cells ++ [[C.s (.int .i64 (X.getD j 0))], [C.s (.int .i64 (Y.getD j 0))]] = (J ++ fi (j + 1) X Y).map cells := by
              rw [oo, ← List.append_assoc, List.map_append (l₁ := J ++ fi j X Y)]; rfl
             have hll : (J ++ fi j X Y).length ≤ 6012 := by rw [List.length_append]; omega
             delta c80l2 oO oN oA oM oT oG oR oQ oS oK
             simp (maxSteps := 4000000) -implicitDefEqProofs only [hj2, hj3, hj4, htk, InR, Ent.of0, Ent.of1, Ent.of2, Ent.of3, V, W3, ↓reduceIte, Nat.reduceAdd, Nat.reduceSub, Nat.reduceMul, Nat.reduceEqDiff, Nat.reduceLT, Nat.reduceLeDiff, reduceCtorEq, Int.reduceToNat, Nat.reduceBEq]
             and_intros <;> first | omega | rfl | trivial
           · have hj2 : ¬ (j : Int) < (c : Int) := by omega
             have hjc : j = c := by omega
             subst hjc
             delta c80l2 oO oN oA oM oT oG oR oQ oS oK
             simp (maxSteps := 4000000) -implicitDefEqProofs only [hj2, hjs, InR, Ent.of0, Ent.of1, Ent.of2, Ent.of3, V, W3, ↓reduceIte, Nat.reduceAdd, Nat.reduceSub, Nat.reduceMul, Nat.reduceEqDiff, Nat.reduceLT, Nat.reduceLeDiff, reduceCtorEq, Int.reduceToNat, Nat.reduceBEq]
             and_intros <;> first | omega | rfl | trivial
       · have hi2 : ¬ (i : Int) < (l.length : Int) := by omega
         have hie : i = l.length := by omega
         subst hie
         delta c80l3 oO oN oA oM oT oG oR oQ oS oK
         simp (maxSteps := 4000000) -implicitDefEqProofs only [hi2, rv80, List.take_length, InR, Ent.of0, Ent.of1, Ent.of2, Ent.of3, V, W3, ↓reduceIte, Nat.reduceAdd, Nat.reduceSub, Nat.reduceMul, Nat.reduceEqDiff, Nat.reduceLT, Nat.reduceLeDiff, reduceCtorEq, Int.reduceToNat, Nat.reduceBEq]
end Go.Proofs.YteoobfmbipmibaaGreat
end
section
open Go Go.Am
open Go.Am.Dat (cells)
namespace Go.Proofs.YteoobfmbipmibaaGreat
set_option maxHeartbeats 4000000
set_option maxRecDepth 20000
def RepR (a : List Fz) (r : List Gs) : Prop := a.length = r.length ∧ ∀ i, i < r.length → IsC (a.getD i ⟨0, 0⟩) (r.getD i ⟨0, 0⟩)
def ik (a : List (List Fz)) (m : List (List Gs)) : Prop := a.length = m.length ∧ ∀ i, i < m.length → RepR (a.getD i []) (m.getD i [])
def fL (m : List (List Gs)) : List (List Fz) := m.map fun r => r.map toW
theorem e6 {α β : Type} (f : α → β) (l : List α) (i : Nat) (d : α) (e : β) (h : i < l.length) : (l.map f).getD i e = f (l.getD i d) := by
 rw [List.getD_eq_getElem?_getD, List.getD_eq_getElem?_getD, List.getElem?_map, List.getElem?_eq_getElem h]; rfl
theorem mU {m : List (List Gs)} (h : ∀ r ∈ m, ∀ g ∈ r, bd g 9007199254740991) : ik (fL m) m := by
 refine ⟨by simp [fL], fun i hi => ?_⟩
 rw [fL, e6 _ m i [] [] hi]
 refine ⟨by simp, fun j hj => ?_⟩
 rw [e6 _ _ j ⟨0, 0⟩ _ hj]
 exact isC_toW (h _ (dD [] hi) _ (dD _ hj))
theorem zE (m : List (List Gs)) (hm : m.length ≤ 1000) (hr : ∀ r ∈ m, r.length ≤ 1000000) : FC Tryz.prog 75 [enc m] [] (enc (fL m)) [] := by
 refine dk is75 (by simp) (fun cx hl => dj [] 800 ?_)
 delta c75 oO oN oA oM oT oG oR oQ oS oK
 simp (maxSteps := 4000000) -implicitDefEqProofs only [rv75, Ent.of0, Ent.of1, Ent.of2, Ent.of3, V, W3, ↓reduceIte, Nat.reduceAdd, Nat.reduceSub, Nat.reduceMul, Nat.reduceEqDiff, Nat.reduceLT, Nat.reduceLeDiff, reduceCtorEq, Int.reduceToNat, Nat.reduceBEq]
 refine dE m.length (fun i => [(11, .s (.int .i64 i))]) (fun i => [(3, .row 1 134 ((fL (m.take i)).map cells))]) (fun _ => True) trivial ?_ (fun i hi _ => dj [] 800 ?_)
 · simp (maxSteps := 4000000) -implicitDefEqProofs only [fL, Ent.of0, Ent.of1, Ent.of2, Ent.of3, V, W3, ↓reduceIte, Nat.reduceAdd, Nat.reduceSub, Nat.reduceMul, Nat.reduceEqDiff, Nat.reduceLT, Nat.reduceLeDiff, reduceCtorEq, Int.reduceToNat, Nat.reduceBEq]; simp
 · by_cases h : i < m.length
   · have hi2 : (i : Int) < (m.length : Int) := by omega
     have hrl := hr _ (dD [] h)
     delta c75l2 oO oN oA oM oT oG oR oQ oS oK
     simp (maxSteps := 4000000) -implicitDefEqProofs only [hi2, dM, h, Ent.of0, Ent.of1, Ent.of2, Ent.of3, V, W3, ↓reduceIte, Nat.reduceAdd, Nat.reduceSub, Nat.reduceMul, Nat.reduceEqDiff, Nat.reduceLT, Nat.reduceLeDiff, reduceCtorEq, Int.reduceToNat, Nat.reduceBEq]
     refine ⟨by omega, ?_⟩
     generalize hR : m.getD i [] = R at *
     refine dE R.length (fun j => [(17, .s (.int .i64 j))]) (fun j => [(6, .row 1 135 (((R.take j).map toW).map cells))]) (fun _ => True) trivial ?_ (fun j hj _ => dj [] 800 ?_)
     · simp (maxSteps := 4000000) -implicitDefEqProofs only [Ent.of0, Ent.of1, Ent.of2, Ent.of3, V, W3, ↓reduceIte, Nat.reduceAdd, Nat.reduceSub, Nat.reduceMul, Nat.reduceEqDiff, Nat.reduceLT, Nat.reduceLeDiff, reduceCtorEq, Int.reduceToNat, Nat.reduceBEq]; simp
     · by_cases hjl : j < R.length
       · have hj2 : (j : Int) < (R.length : Int) := by omega
         have htk : ((R.take j).map toW).map cells ++ [[C.s (.complex .f64 (FloatKind.f64.nearest (R.getD j ⟨0, 0⟩).re) (FloatKind.f64.nearest (R.getD j ⟨0, 0⟩).im))]] = ((R.take (j + 1)).map toW).map cells := by
          rw [eL ⟨0, 0⟩ hjl, List.map_append, List.map_append]; rfl
         have htl : (R.take j).length = j := by rw [List.length_take]; omega
         delta c75l1 oO oN oA oM oT oG oR oQ oS oK
         simp (maxSteps := 4000000) -implicitDefEqProofs only [hj2, hjl, aB, htk, htl, InR, Ent.of0, Ent.of1, Ent.of2, Ent.of3, V, W3, ↓reduceIte, Nat.reduceAdd, Nat.reduceSub, Nat.reduceMul, Nat.reduceEqDiff, Nat.reduceLT, Nat.reduceLeDiff, reduceCtorEq, Int.reduceToNat, Nat.reduceBEq]
         and_intros <;> first | omega | rfl | trivial
       · have : j = R.length := by omega
         subst this
         have hj2 : ¬ (R.length : Int) < (R.length : Int) := by omega
         have htk : (fL (m.take i)).map cells ++ [[C.sl 1 ((R.map toW).map cells)]] = (fL (m.take (i + 1))).map cells := by
          rw [eL [] h, hR, fL, fL, List.map_append, List.map_append]; rfl
         have htl : (fL (m.take i)).length = i := by rw [fL, List.length_map, List.length_take]; omega
         delta c75l1 oO oN oA oM oT oG oR oQ oS oK
         simp (maxSteps := 4000000) -implicitDefEqProofs only [hj2, List.take_length, htk, htl, InR, Ent.of0, Ent.of1, Ent.of2, Ent.of3, V, W3, ↓reduceIte, Nat.reduceAdd, Nat.reduceSub, Nat.reduceMul, Nat.reduceEqDiff, Nat.reduceLT, Nat.reduceLeDiff, reduceCtorEq, Int.reduceToNat, Nat.reduceBEq]
         and_intros <;> first | omega | rfl | trivial
   · have : i = m.length := by omega
     subst this
     have hi2 : ¬ (m.length : Int) < (m.length : Int) := by omega
     delta c75l2 oO oN oA oM oT oG oR oQ oS oK
     simp (maxSteps := 4000000) -implicitDefEqProofs only [hi2, rv75, List.take_length, Ent.of0, Ent.of1, Ent.of2, Ent.of3, V, W3, ↓reduceIte, Nat.reduceAdd, Nat.reduceSub, Nat.reduceMul, Nat.reduceEqDiff, Nat.reduceLT, Nat.reduceLeDiff, reduceCtorEq, Int.reduceToNat, Nat.reduceBEq]
def si : Ent Tryz.prog := .of1 75 (fun m => m.length ≤ 1000 ∧ ∀ r ∈ m, r.length ≤ 1000000) (fun m : List (List Gs) => enc (fL m)) (fun _ => trivial) (fun m h => zE m h.1 h.2)
end Go.Proofs.YteoobfmbipmibaaGreat
end
section
open Go Go.Am
open Go.Am.Dat (cells)
namespace Go.Proofs.YteoobfmbipmibaaGreat
set_option maxHeartbeats 4000000
set_option maxRecDepth 20000
def fO (row : List Fz) (o : List (List Fz)) (i : Nat) : Nat → Fz
 | 0 => ⟨0, 0⟩
 | k + 1 => addW (fO row o i k) (jq (row.getD k ⟨0, 0⟩) ((o.getD k []).getD i ⟨0, 0⟩))
def rowW (o : List (List Fz)) (row : List Fz) : List Fz := (List.range (o.getD 0 []).length).map fun i => fO row o i o.length
def gy (a o : List (List Fz)) : List (List Fz) := a.map (rowW o)
def io (row : List Fz) (o : List (List Fz)) (n k j : Nat) : List Fz := (List.range n).map fun i => if i < j then fO row o i (k + 1) else fO row o i k
theorem yT {row : List Fz} {o : List (List Fz)} {n k j : Nat} (h : j < n) : (io row o n k j).getD j ⟨0, 0⟩ = fO row o j k := by
 simp [io, h]
theorem yh {row : List Fz} {o : List (List Fz)} {n k j : Nat} (h : j < n) : ((io row o n k j).map cells).set j [C.s (.complex .f64 (fO row o j (k + 1)).x (fO row o j (k + 1)).y)] = (io row o n k (j + 1)).map cells := by
 have e : [C.s (.complex .f64 (fO row o j (k + 1)).x (fO row o j (k + 1)).y)] = cells (fO row o j (k + 1)) := rfl
 rw [e, ← List.map_set]
 congr 1
 apply List.ext_getElem?
 intro i
 simp only [io, List.getElem?_set, List.getElem?_map, List.length_map, List.length_range]
 by_cases hi : j = i
 · subst hi; simp [h]
 · rw [if_neg hi]
   by_cases hin : i < n
   · simp only [List.getElem?_range hin, Option.map_some, Option.some.injEq]
     have : (i < j + 1) = (i < j) := by apply propext; omega
     simp only [this]
   · rw [List.getElem?_eq_none (by simpa using hin)]; rfl
theorem wg (row : List Fz) (o : List (List Fz)) (n k : Nat) : io row o n k n = io row o n (k + 1) 0 := by
 unfold io
 refine List.map_congr_left fun i hi => ?_
 have : i < n := by simpa using hi
 simp [this]
theorem eM {α : Type} {n i : Nat} (f : Nat → α) (d : α) (h : i < n) : ((List.range n).map f).getD i d = f i := by
 rw [List.getD_eq_getElem?_getD, List.getElem?_map, List.getElem?_range h]; rfl
theorem wN (row : List Fz) (o : List (List Fz)) (n : Nat) : (io row o n 0 0).map cells = List.replicate n [C.s (.complex .f64 0 0)] := by
 unfold io
 rw [List.map_map, List.eq_replicate_iff]
 refine ⟨by simp, fun b hb => ?_⟩
 obtain ⟨i, _, rfl⟩ := List.mem_map.1 hb
 simp [fO, x3]
theorem dot_c {a o : List (List Fz)} {m ls : List (List Gs)} {A B : Nat} (hf : Fits m ls A B) (hs : 8 * (A * B) ≤ 9007199254740991) (ha : ik a m) (ho : ik o ls) {r i : Nat} (hr : r < m.length) (hi : i < (ls.getD 0 []).length) : ∀ k, k ≤ ls.length → IsC (fO (a.getD r []) o i k) (jx (m.getD r []) ls i k) ∧
 (k < ls.length → aN .mul ((a.getD r []).getD k ⟨0, 0⟩).x ((a.getD r []).getD k ⟨0, 0⟩).y ((o.getD k []).getD i ⟨0, 0⟩).x ((o.getD k []).getD i ⟨0, 0⟩).y = some ((jq ((a.getD r []).getD k ⟨0, 0⟩) ((o.getD k []).getD i ⟨0, 0⟩)).x, (jq ((a.getD r []).getD k ⟨0, 0⟩) ((o.getD k []).getD i ⟨0, 0⟩)).y) ∧
  aN .add (fO (a.getD r []) o i k).x (fO (a.getD r []) o i k).y (jq ((a.getD r []).getD k ⟨0, 0⟩) ((o.getD k []).getD i ⟨0, 0⟩)).x (jq ((a.getD r []).getD k ⟨0, 0⟩) ((o.getD k []).getD i ⟨0, 0⟩)).y = some ((fO (a.getD r []) o i (k + 1)).x, (fO (a.getD r []) o i (k + 1)).y) ∧
  IsC (fO (a.getD r []) o i (k + 1)) (jx (m.getD r []) ls i (k + 1))) := by
 have hrm : m.getD r [] ∈ m := dD [] hr
 have hcol := hf.cols _ hrm
 have step : ∀ k, k < ls.length → IsC (fO (a.getD r []) o i k) (jx (m.getD r []) ls i k) → (aN .mul ((a.getD r []).getD k ⟨0, 0⟩).x ((a.getD r []).getD k ⟨0, 0⟩).y ((o.getD k []).getD i ⟨0, 0⟩).x ((o.getD k []).getD i ⟨0, 0⟩).y = some ((jq ((a.getD r []).getD k ⟨0, 0⟩) ((o.getD k []).getD i ⟨0, 0⟩)).x, (jq ((a.getD r []).getD k ⟨0, 0⟩) ((o.getD k []).getD i ⟨0, 0⟩)).y) ∧
  aN .add (fO (a.getD r []) o i k).x (fO (a.getD r []) o i k).y (jq ((a.getD r []).getD k ⟨0, 0⟩) ((o.getD k []).getD i ⟨0, 0⟩)).x (jq ((a.getD r []).getD k ⟨0, 0⟩) ((o.getD k []).getD i ⟨0, 0⟩)).y = some ((fO (a.getD r []) o i (k + 1)).x, (fO (a.getD r []) o i (k + 1)).y) ∧
  IsC (fO (a.getD r []) o i (k + 1)) (jx (m.getD r []) ls i (k + 1))) := fun k hk hd => by
  have hik : i < (ls.getD k []).length := by rw [hf.len _ (dD [] hk)]; exact hi
  have b1 := hf.ma _ hrm _ (dD ⟨0, 0⟩ (by omega : k < (m.getD r []).length))
  have b2 := hf.mb _ (dD [] hk) _ (dD ⟨0, 0⟩ hik)
  have b3 := p9 hf hrm hi k (by omega)
  have hle := hf.le
  obtain ⟨m1, m2⟩ := mulW_c ((ha.2 r hr).2 k (by omega)) ((ho.2 k hk).2 i hik) b1 b2 (by omega)
  have b4 := kO b1 b2
  obtain ⟨a1, a2⟩ := addW_c hd m2 b3 b4 (by
   have : k * (2 * (A * B)) ≤ 3 * (2 * (A * B)) := Nat.mul_le_mul_right _ (by omega)
   omega)
  exact ⟨m1, a1, a2⟩
 intro k
 induction k with
 | zero => intro _; exact ⟨tI, fun h => step 0 h tI⟩
 | succ k ih =>
  intro hk
  have := ((ih (by omega)).2 (by omega)).2.2
  exact ⟨this, fun h => step (k + 1) h this⟩
theorem qS {a o : List (List Fz)} {m ls : List (List Gs)} {A B : Nat} (hf : Fits m ls A B) (hs : 8 * (A * B) ≤ 9007199254740991) (ha : ik a m) (ho : ik o ls) : ik (gy a o) (dA m ls) := by
 have hp := hf.pos
 refine ⟨by simp [gy, dA, ha.1], fun r hr => ?_⟩
 have hr' : r < m.length := by simpa [dA] using hr
 rw [gy, dA, e6 _ a r [] [] (by rw [ha.1]; exact hr'), e6 _ m r [] [] hr']
 have hl : (o.getD 0 []).length = (ls.getD 0 []).length := (ho.2 0 hp).1
 refine ⟨by simp only [rowW, iG, List.length_map, List.length_range, hl], fun i hi => ?_⟩
 have hi' : i < (ls.getD 0 []).length := by simpa [iG] using hi
 have := (dot_c hf hs ha ho hr' hi' ls.length (Nat.le_refl _)).1
 have e1 : (rowW o (a.getD r [])).getD i ⟨0, 0⟩ = fO (a.getD r []) o i ls.length := by rw [rowW, hl, ho.1, eM _ _ hi']
 have e2 : (iG ls (m.getD r [])).getD i ⟨0, 0⟩ = jx (m.getD r []) ls i ls.length := by rw [iG, eM _ _ hi']
 rw [e1, e2]; exact this
theorem uc (a o : List (List Fz)) (m ls : List (List Gs)) (A B : Nat) (hf : Fits m ls A B) (hs : 8 * (A * B) ≤ 9007199254740991) (ha : ik a m) (ho : ik o ls) : FC Tryz.prog 77 [enc a, enc o] [] (enc (gy a o)) [] := by
 refine dk is77 (by simp) (fun cx hl => dj [] 800 ?_)
 have hp := hf.pos
 have hle := hf.le
 have hmle := hf.mle
 have hsh := hf.short
 have hoL := ho.1
 have haL := ha.1
 have hn0 : (o.getD 0 []).length = (ls.getD 0 []).length := (ho.2 0 hp).1
 generalize hn : (ls.getD 0 []).length = n at *
 have ho0 : 0 < o.length := by omega
 delta c77 oO oN oA oM oT oG oR oQ oS oK
 simp (maxSteps := 4000000) -implicitDefEqProofs only [rv77, Ent.of0, Ent.of1, Ent.of2, Ent.of3, V, W3, ↓reduceIte, Nat.reduceAdd, Nat.reduceSub, Nat.reduceMul, Nat.reduceEqDiff, Nat.reduceLT, Nat.reduceLeDiff, reduceCtorEq, Int.reduceToNat, Nat.reduceBEq]
 refine dE a.length (fun i => [(15, .s (.int .i64 i))]) (fun i => [(5, .row 1 134 ((gy (a.take i) o).map cells))]) (fun _ => True) trivial ?_ (fun i hi _ => dj [] 800 ?_)
 · simp (maxSteps := 4000000) -implicitDefEqProofs only [gy, Ent.of0, Ent.of1, Ent.of2, Ent.of3, V, W3, ↓reduceIte, Nat.reduceAdd, Nat.reduceSub, Nat.reduceMul, Nat.reduceEqDiff, Nat.reduceLT, Nat.reduceLeDiff, reduceCtorEq, Int.reduceToNat, Nat.reduceBEq]; simp
 · by_cases h : i < a.length
   · have hi2 : (i : Int) < (a.length : Int) := by omega
     have him : i < m.length := by omega
     have hcol : (a.getD i []).length = ls.length := by rw [(ha.2 i him).1]; exact hf.cols _ (dD [] him)
     delta c77l3 oO oN oA oM oT oG oR oQ oS oK
     simp (maxSteps := 4000000) -implicitDefEqProofs only [pD, hi2, dM, h, ho0, hn0, Int.toNat_natCast, InR, Ent.of0, Ent.of1, Ent.of2, Ent.of3, V, W3, ↓reduceIte, Nat.reduceAdd, Nat.reduceSub, Nat.reduceMul, Nat.reduceEqDiff, Nat.reduceLT, Nat.reduceLeDiff, reduceCtorEq, Int.reduceToNat, Nat.reduceBEq]
     refine ⟨by omega, by omega, by omega, ?_⟩
     generalize hR : a.getD i [] = R at *
     refine dE R.length (fun k => [(26, .s (.int .i64 k))]) (fun k => [(23, .row 1 135 ((io R o n k 0).map cells))]) (fun _ => True) trivial ?_ (fun k hk _ => dj [] 800 ?_)
     · simp (maxSteps := 4000000) -implicitDefEqProofs only [wN, Ent.of0, Ent.of1, Ent.of2, Ent.of3, V, W3, ↓reduceIte, Nat.reduceAdd, Nat.reduceSub, Nat.reduceMul, Nat.reduceEqDiff, Nat.reduceLT, Nat.reduceLeDiff, reduceCtorEq, Int.reduceToNat, Nat.reduceBEq]; simp
     · by_cases hkl : k < R.length
       · have hk2 : (k : Int) < (R.length : Int) := by omega
         have hko : k < o.length := by omega
         have hkn : (o.getD k []).length = n := by rw [(ho.2 k (by omega)).1, ← hn]; exact hf.len _ (dD [] (by omega))
         delta c77l2 oO oN oA oM oT oG oR oQ oS oK
         simp (maxSteps := 4000000) -implicitDefEqProofs only [hk2, hkl, hko, dM, n5, pD, Ent.of0, Ent.of1, Ent.of2, Ent.of3, V, W3, ↓reduceIte, Nat.reduceAdd, Nat.reduceSub, Nat.reduceMul, Nat.reduceEqDiff, Nat.reduceLT, Nat.reduceLeDiff, reduceCtorEq, Int.reduceToNat, Nat.reduceBEq]
         refine ⟨by omega, by omega, ?_⟩
         refine dE n (fun j => [(36, .s (.int .i64 j))]) (fun j => [(23, .row 1 135 ((io R o n k j).map cells))]) (fun _ => True) trivial ?_ (fun j hj _ => dj [] 800 ?_)
         · simp (maxSteps := 4000000) -implicitDefEqProofs only [Ent.of0, Ent.of1, Ent.of2, Ent.of3, V, W3, ↓reduceIte, Nat.reduceAdd, Nat.reduceSub, Nat.reduceMul, Nat.reduceEqDiff, Nat.reduceLT, Nat.reduceLeDiff, reduceCtorEq, Int.reduceToNat, Nat.reduceBEq]; simp
         · by_cases hjl : j < n
           · have hj2 : (j : Int) < (n : Int) := by omega
             have hjk : j < (o.getD k []).length := by omega
             obtain ⟨d1, d2⟩ := dot_c hf hs ha ho him (by omega : j < (ls.getD 0 []).length) k (by omega)
             rw [hR] at d1 d2
             obtain ⟨d3, d4, d5⟩ := d2 (by omega)
             have hsl : (io R o n k j).length = n := by simp [io]
             have hsg := yT (row := R) (o := o) (k := k) hjl
             have hsg' : ((io R o n k j).map cells).getD j [] = [C.s (.complex .f64 (fO R o j k).x (fO R o j k).y)] := by rw [e6 cells _ j ⟨0, 0⟩ _ (by omega), hsg]; rfl
             have hss := yh (row := R) (o := o) (k := k) hjl
             simp only [aN] at d3 d4
             delta c77l1 oO oN oA oM oT oG oR oQ oS oK
             simp (maxSteps := 4000000) -implicitDefEqProofs only [pD, hj2, hjl, hjk, hkn, aB, n5, hsg, d3, d4, hsl, hsg', hss, ay, InR, Ent.of0, Ent.of1, Ent.of2, Ent.of3, V, W3, ↓reduceIte, Nat.reduceAdd, Nat.reduceSub, Nat.reduceMul, Nat.reduceEqDiff, Nat.reduceLT, Nat.reduceLeDiff, reduceCtorEq, Int.reduceToNat, Nat.reduceBEq]
             and_intros <;> first | omega | rfl | trivial
           · have : j = n := by omega
             subst this
             have hj2 : ¬ (j : Int) < (j : Int) := by omega
             have hsn := wg R o j k
             delta c77l1 oO oN oA oM oT oG oR oQ oS oK
             simp (maxSteps := 4000000) -implicitDefEqProofs only [hj2, hkn, hsn, InR, Ent.of0, Ent.of1, Ent.of2, Ent.of3, V, W3, ↓reduceIte, Nat.reduceAdd, Nat.reduceSub, Nat.reduceMul, Nat.reduceEqDiff, Nat.reduceLT, Nat.reduceLeDiff, reduceCtorEq, Int.reduceToNat, Nat.reduceBEq]
             and_intros <;> first | omega | rfl | trivial
       · have : k = R.length := by omega
         subst this
         have hk2 : ¬ (R.length : Int) < (R.length : Int) := by omega
         have hrow : rowW o R = io R o n R.length 0 := by
          rw [rowW, hn0, hcol, ← hoL, io]
          refine List.map_congr_left fun i _ => ?_
          simp
         have htk : (gy (a.take i) o).map cells ++ [[C.sl 1 ((io R o n R.length 0).map cells)]] = (gy (a.take (i + 1)) o).map cells := by
          rw [eL [] h, hR, gy, gy, List.map_append, List.map_append, ← hrow]; rfl
         have htl : (gy (a.take i) o).length = i := by rw [gy, List.length_map, List.length_take]; omega
         delta c77l2 oO oN oA oM oT oG oR oQ oS oK
         simp (maxSteps := 4000000) -implicitDefEqProofs only [hk2, htk, htl, InR, Ent.of0, Ent.of1, Ent.of2, Ent.of3, V, W3, ↓reduceIte, Nat.reduceAdd, Nat.reduceSub, Nat.reduceMul, Nat.reduceEqDiff, Nat.reduceLT, Nat.reduceLeDiff, reduceCtorEq, Int.reduceToNat, Nat.reduceBEq]
         and_intros <;> first | omega | rfl | trivial
   · have : i = a.length := by omega
     subst this
     have hi2 : ¬ (a.length : Int) < (a.length : Int) := by omega
     delta c77l3 oO oN oA oM oT oG oR oQ oS oK
     simp (maxSteps := 4000000) -implicitDefEqProofs only [hi2, rv77, List.take_length, Ent.of0, Ent.of1, Ent.of2, Ent.of3, V, W3, ↓reduceIte, Nat.reduceAdd, Nat.reduceSub, Nat.reduceMul, Nat.reduceEqDiff, Nat.reduceLT, Nat.reduceLeDiff, reduceCtorEq, Int.reduceToNat, Nat.reduceBEq]
theorem ik.len {a : List (List Fz)} {m : List (List Gs)} (h : ik a m) : a.length = m.length := h.1
end Go.Proofs.YteoobfmbipmibaaGreat
end
section
open Go Go.Am
open Go.Am.Dat (cells)
namespace Go.Proofs.YteoobfmbipmibaaGreat
set_option maxHeartbeats 4000000
set_option maxRecDepth 20000
def ofM (w : List (List Fz)) : List (List Gs) := w.map fun r => r.map ofW
theorem ofW_c {z : Fz} {g : Gs} (h : IsC z g) : ofW z = g := by
 unfold ofW
 rw [(ofF_c h.1).2, (ofF_c h.2).2]
theorem ofM_c {w : List (List Fz)} {m : List (List Gs)} (h : ik w m) : ofM w = m := by
 apply List.ext_getElem
 · simpa [ofM] using h.1
 · intro i h1 h2
   have h3 := h.2 i h2
   have hw : i < w.length := by rw [h.1]; exact h2
   have e1 : (ofM w)[i] = (w.getD i []).map ofW := by simp [ofM, List.getD_eq_getElem?_getD, List.getElem?_eq_getElem hw]
   have e2 : m[i] = m.getD i [] := by rw [List.getD_eq_getElem?_getD, List.getElem?_eq_getElem h2]; rfl
   rw [e1, e2]
   apply List.ext_getElem
   · simpa using h3.1
   · intro j j1 j2
     have h4 := h3.2 j j2
     have hwj : j < (w.getD i []).length := by rw [h3.1]; exact j2
     have e3 : ((w.getD i []).map ofW)[j] = ofW ((w.getD i []).getD j ⟨0, 0⟩) := by
      rw [List.getElem_map]; congr 1
      rw [List.getD_eq_getElem?_getD (l := w.getD i []), List.getElem?_eq_getElem hwj]; rfl
     have e4 : (m.getD i [])[j] = (m.getD i []).getD j ⟨0, 0⟩ := by rw [List.getD_eq_getElem?_getD (l := m.getD i []), List.getElem?_eq_getElem j2]; rfl
     rw [e3, e4]; exact ofW_c h4
structure RowsOk (w : List (List Fz)) (m : List (List Gs)) : Prop where
 rep : ik w m
 short : m.length ≤ 1000
 shorts : ∀ r ∈ m, r.length ≤ 1000000
 small : ∀ r ∈ m, ∀ g ∈ r, bd g 9007199254740991
theorem rows_c (w : List (List Fz)) (m : List (List Gs)) (h : RowsOk w m) : FC Tryz.prog 78 [enc w] [] (enc m) [] := by
 refine dk is78 (by simp) (fun cx hl => dj [] 800 ?_)
 obtain ⟨hrep, hm, hr, hb⟩ := h
 have hwm := hrep.1
 delta c78 oO oN oA oM oT oG oR oQ oS oK
 simp (maxSteps := 4000000) -implicitDefEqProofs only [rv78, Ent.of0, Ent.of1, Ent.of2, Ent.of3, V, W3, ↓reduceIte, Nat.reduceAdd, Nat.reduceSub, Nat.reduceMul, Nat.reduceEqDiff, Nat.reduceLT, Nat.reduceLeDiff, reduceCtorEq, Int.reduceToNat, Nat.reduceBEq]
 refine dE w.length (fun i => [(11, .s (.int .i64 i))]) (fun i => [(3, .row 1 32 ((m.take i).map cells))]) (fun _ => True) trivial ?_ (fun i hi _ => dj [] 800 ?_)
 · simp (maxSteps := 4000000) -implicitDefEqProofs only [Ent.of0, Ent.of1, Ent.of2, Ent.of3, V, W3, ↓reduceIte, Nat.reduceAdd, Nat.reduceSub, Nat.reduceMul, Nat.reduceEqDiff, Nat.reduceLT, Nat.reduceLeDiff, reduceCtorEq, Int.reduceToNat, Nat.reduceBEq]; simp
 · by_cases h : i < w.length
   · have hi2 : (i : Int) < (w.length : Int) := by omega
     have him : i < m.length := by omega
     have hrl := hr _ (dD [] him)
     have hbl := hb _ (dD [] him)
     obtain ⟨q1, q2⟩ := hrep.2 i him
     have htkm : (m.take i).map cells ++ [[C.sl 2 ((m.getD i []).map cells)]] = (m.take (i + 1)).map cells := by
      rw [eL [] him, List.map_append]; rfl
     have htlm : (m.take i).length = i := by rw [List.length_take]; omega
     delta c78l2 oO oN oA oM oT oG oR oQ oS oK
     simp (maxSteps := 4000000) -implicitDefEqProofs only [pD, hi2, dM, h, Ent.of0, Ent.of1, Ent.of2, Ent.of3, V, W3, ↓reduceIte, Nat.reduceAdd, Nat.reduceSub, Nat.reduceMul, Nat.reduceEqDiff, Nat.reduceLT, Nat.reduceLeDiff, reduceCtorEq, Int.reduceToNat, Nat.reduceBEq]
     refine ⟨by omega, ?_⟩
     generalize hR : w.getD i [] = R at *
     generalize hG : m.getD i [] = G at *
     refine dE R.length (fun j => [(17, .s (.int .i64 j))]) (fun j => [(6, .row 2 62 ((G.take j).map cells))]) (fun _ => True) trivial ?_ (fun j hj _ => dj [] 800 ?_)
     · simp (maxSteps := 4000000) -implicitDefEqProofs only [Ent.of0, Ent.of1, Ent.of2, Ent.of3, V, W3, ↓reduceIte, Nat.reduceAdd, Nat.reduceSub, Nat.reduceMul, Nat.reduceEqDiff, Nat.reduceLT, Nat.reduceLeDiff, reduceCtorEq, Int.reduceToNat, Nat.reduceBEq]; simp
     · by_cases hjl : j < R.length
       · have hj2 : (j : Int) < (R.length : Int) := by omega
         have hjG : j < G.length := by omega
         have htk : (G.take j).map cells ++ [[C.s (.int .i64 (G.getD j ⟨0, 0⟩).re), C.s (.int .i64 (G.getD j ⟨0, 0⟩).im)]] = (G.take (j + 1)).map cells := by
          rw [eL ⟨0, 0⟩ hjG, List.map_append]; rfl
         have htl : (G.take j).length = j := by rw [List.length_take]; omega
         obtain ⟨z1, z2⟩ := q2 j hjG
         have t1 := lV z1
         have t2 := lV z2
         obtain ⟨b1, b2⟩ := hbl _ (dD ⟨0, 0⟩ hjG)
         delta c78l1 oO oN oA oM oT oG oR oQ oS oK
         simp (maxSteps := 4000000) -implicitDefEqProofs only [hj2, hjl, aB, n5, t1, t2, htk, htl, IntKind.min, IntKind.max, IntKind.signed, IntKind.bits, InR, Ent.of0, Ent.of1, Ent.of2, Ent.of3, V, W3, ↓reduceIte, Nat.reduceAdd, Nat.reduceSub, Nat.reduceMul, Nat.reduceEqDiff, Nat.reduceLT, Nat.reduceLeDiff, reduceCtorEq, Int.reduceToNat, Nat.reduceBEq]
         simp only [Int.reducePow] at *
         and_intros <;> first | omega | rfl | trivial
       · have : j = R.length := by omega
         subst this
         have hj2 : ¬ (R.length : Int) < (R.length : Int) := by omega
         have hG2 : G.take R.length = G := by rw [q1]; exact List.take_length
         delta c78l1 oO oN oA oM oT oG oR oQ oS oK
         simp (maxSteps := 4000000) -implicitDefEqProofs only [hj2, hG2, htkm, htlm, InR, Ent.of0, Ent.of1, Ent.of2, Ent.of3, V, W3, ↓reduceIte, Nat.reduceAdd, Nat.reduceSub, Nat.reduceMul, Nat.reduceEqDiff, Nat.reduceLT, Nat.reduceLeDiff, reduceCtorEq, Int.reduceToNat, Nat.reduceBEq]
         and_intros <;> first | omega | rfl | trivial
   · have : i = w.length := by omega
     subst this
     have hi2 : ¬ (w.length : Int) < (w.length : Int) := by omega
     have hm2 : m.take w.length = m := by rw [hwm]; exact List.take_length
     delta c78l2 oO oN oA oM oT oG oR oQ oS oK
     simp (maxSteps := 4000000) -implicitDefEqProofs only [hi2, rv78, hm2, Ent.of0, Ent.of1, Ent.of2, Ent.of3, V, W3, ↓reduceIte, Nat.reduceAdd, Nat.reduceSub, Nat.reduceMul, Nat.reduceEqDiff, Nat.reduceLT, Nat.reduceLeDiff, reduceCtorEq, Int.reduceToNat, Nat.reduceBEq]
end Go.Proofs.YteoobfmbipmibaaGreat
end
section
open Go Go.Am
open Go.Am.Dat (cells)
namespace Go.Proofs.YteoobfmbipmibaaGreat
set_option maxHeartbeats 4000000
set_option maxRecDepth 100000
theorem tD (c : Nat) (sq : List Int) : (fm c sq).length = c := by simp [fm]
def hardS (c : Nat) (sq : List Int) : List Int := match fG c ((eV c).getD (eX sq fun x => decide (fa sq = x)).toNat 0) with | some i => dZ i c c | none => []
theorem minS_in (l : List Int) (h : 0 < l.length) : fa l ∈ l := by
 cases l with
 | nil => simp at h
 | cons x t => exact mA t x
def ent80 (f : FuncId) (T : Nat → List Int → List Int) (hj : ∀ (c : Nat) (g : Int) (l : List Gs), (c = 1 ∨ c = 2 ∨ c = 3) → 1 ≤ g ∧ g ≤ 10000000 → (∀ s ∈ l, (-100000000 ≤ s.re ∧ s.re ≤ 100000000) ∧ -100000000 ≤ s.im ∧ s.im ≤ 100000000) → l.length ≤ 1000 →
 FC Tryz.prog 80 [enc (⟨2 * (c : Int), g, l⟩ : Recv), .fn (.func f) [] []] [] (enc (ec c (T c) g l)) []) : Ent Tryz.prog := .mk3 80 (fun args chs => match args, chs with
 | [.agg [.s (.int .i64 o), .s (.int .i64 g), .sl 2 t], .fn (.func f') [] []], [] => (eo t : Option (List Gs)).bind fun l => some (f' = f ∧ e9 ⟨o, g, l⟩ = 0, enc (ec (o.toNat / 2) (T (o.toNat / 2)) g l), [], [])
 | _, _ => none) (by
 intro args chs p r chs' nk hs hp
 split at hs
 · rename_i o g t f'
   simp only [Option.bind_eq_some_iff, Option.some.injEq, Prod.mk.injEq] at hs
   obtain ⟨l, hl, rfl, rfl, rfl, rfl⟩ := hs
   obtain ⟨hff, hr⟩ := hp
   have := dV hl
   subst this
   have hz := ig hr
   have z1 : eu o = 0 := hz _ (by simp [e9])
   have z2 : (if 1 ≤ g ∧ g ≤ 10000000 then (0 : Int) else 2) = 0 := hz _ (by simp)
   have z3 : d8 l = 0 := hz _ (by simp)
   have ho : o = 2 ∨ o = 4 ∨ o = 6 := by
    unfold eu at z1
    split at z1
    · assumption
    · cases z1
   have hg : 1 ≤ g ∧ g ≤ 10000000 := by
    split at z2
    · assumption
    · cases z2
   have hl2 : l.length ≤ 1000 := by
    unfold d8 at z3
    grind
   have hn : ∀ s ∈ l, (-100000000 ≤ s.re ∧ s.re ≤ 100000000) ∧ -100000000 ≤ s.im ∧ s.im ≤ 100000000 := by
    have : l.all (dw · 100000000) = true := by
     unfold d8 at z3
     grind
    intro s hs
    have := List.all_eq_true.1 this s hs
    simpa [dw] using this
   have e : o = 2 * ((o.toNat / 2 : Nat) : Int) := by rcases ho with rfl | rfl | rfl <;> rfl
   have := hj (o.toNat / 2) g l (by rcases ho with rfl | rfl | rfl <;> simp) hg hn hl2
   rw [← e] at this
   subst hff
   exact ⟨this, .plain trivial⟩
 · cases hs)
def gC (T : Nat → List Int → List Int) (x : Recv) : List Int := ec (x.order.toNat / 2) (T (x.order.toNat / 2)) x.gain x.symbols
theorem Soft_c (x : Recv) : FC Tryz.prog 32 [enc x] [] (.tup [enc (if e9 x = 0 then gC fm x else []), enc (e9 x)]) [] := by
 refine dk is32 (by simp) (fun cx hl => dj [ent79, ent80 81 fm (fun c g l hc hg hn hl => yx 81 (fm c) c hc (fun sq h1 h2 => soft_c c hc sq h1 h2) (fun sq _ => tD c sq) g l hg hn hl)] 800 ?_)
 obtain ⟨o, g, l⟩ := x
 delta c32 oO oN oA oM oT oG oR oQ oS oK
 simp (maxSteps := 4000000) -implicitDefEqProofs only [rv32, ent79, ent80, it, iA, Ent.of0, Ent.of1, Ent.of2, Ent.of3, V, W3, ↓reduceIte, Nat.reduceAdd, Nat.reduceSub, Nat.reduceMul, Nat.reduceEqDiff, Nat.reduceLT, Nat.reduceLeDiff, reduceCtorEq, Int.reduceToNat, Nat.reduceBEq]
 by_cases h : e9 ⟨o, g, l⟩ = 0
 · simp only [h, if_true, decide_true, gC, Bool.false_eq_true, if_false, not_true_eq_false, decide_false, true_and]
 · rw [if_pos h, if_neg h]; trivial
def sa : Ent Tryz.prog := .of1 32 (fun _ => True) (fun x : Recv => .tup [enc (if e9 x = 0 then gC fm x else []), enc (e9 x)]) (fun _ => ⟨trivial, trivial, trivial⟩) (fun x _ => Soft_c x)
end Go.Proofs.YteoobfmbipmibaaGreat
end
section
open Go Go.Am
open Go.Am.Dat (cells)
namespace Go.Proofs.YteoobfmbipmibaaGreat
set_option maxHeartbeats 4000000
set_option maxRecDepth 20000
theorem rowsD_c (w : List (List Fz)) (m : List (List Gs)) (h : RowsOk w m) : FC Tryz.prog 78 [enc w] [] (.own 3) [(3, .deep 2 62 32 none (m.map fun r => r.map cells))] := by
 refine dF [3] D.is78 (by simp) trivial trivial (by simp [an, ae, aq]) trivial (fun cx _ hl _ => dj [] 800 ?_)
 obtain ⟨hrep, hm, hr, hb⟩ := h
 have hwm := hrep.1
 delta D.c78 oO oN oA oM oT oG oR oQ oS oK
 simp (maxSteps := 4000000) -implicitDefEqProofs only [D.rv78, Ent.of0, Ent.of1, Ent.of2, Ent.of3, V, W3, ↓reduceIte, Nat.reduceAdd, Nat.reduceSub, Nat.reduceMul, Nat.reduceEqDiff, Nat.reduceLT, Nat.reduceLeDiff, reduceCtorEq, Int.reduceToNat, Nat.reduceBEq]
 refine ⟨by simp, ?_⟩
 refine dE w.length (fun i => [(11, .s (.int .i64 i))]) (fun i => [(3, .deep 2 62 32 none ((m.take i).map fun r => r.map cells))]) (fun _ => True) trivial ?_ (fun i hi _ => dj [] 800 ?_)
 · simp (maxSteps := 4000000) -implicitDefEqProofs only [Ent.of0, Ent.of1, Ent.of2, Ent.of3, V, W3, ↓reduceIte, Nat.reduceAdd, Nat.reduceSub, Nat.reduceMul, Nat.reduceEqDiff, Nat.reduceLT, Nat.reduceLeDiff, reduceCtorEq, Int.reduceToNat, Nat.reduceBEq]; simp
 · delta D.c78l2 oO oN oA oM oT oG oR oQ oS oK
   by_cases h : i < w.length
   · have hi2 : (i : Int) < (w.length : Int) := by omega
     have him : i < m.length := by omega
     have hrl := hr _ (dD [] him)
     have hbl := hb _ (dD [] him)
     obtain ⟨q1, q2⟩ := hrep.2 i him
     have htkm : ((m.take i).map fun r => r.map cells) ++ [(m.getD i []).map cells] = (m.take (i + 1)).map fun r => r.map cells := by
      rw [eL [] him, List.map_append]; rfl
     have htlm : (m.take i).length = i := by rw [List.length_take]; omega
     simp (maxSteps := 4000000) -implicitDefEqProofs only [pD, hi2, dM, h, Ent.of0, Ent.of1, Ent.of2, Ent.of3, V, W3, ↓reduceIte, Nat.reduceAdd, Nat.reduceSub, Nat.reduceMul, Nat.reduceEqDiff, Nat.reduceLT, Nat.reduceLeDiff, reduceCtorEq, Int.reduceToNat, Nat.reduceBEq]
     refine ⟨by omega, ?_⟩
     generalize hR : w.getD i [] = R at *
     generalize hG : m.getD i [] = G at *
     refine dE R.length (fun j => [(17, .s (.int .i64 j))]) (fun j => [(6, .row 2 62 ((G.take j).map cells))]) (fun _ => True) trivial ?_ (fun j hj _ => dj [] 800 ?_)
     · simp (maxSteps := 4000000) -implicitDefEqProofs only [Ent.of0, Ent.of1, Ent.of2, Ent.of3, V, W3, ↓reduceIte, Nat.reduceAdd, Nat.reduceSub, Nat.reduceMul, Nat.reduceEqDiff, Nat.reduceLT, Nat.reduceLeDiff, reduceCtorEq, Int.reduceToNat, Nat.reduceBEq]; simp
     · delta D.c78l1 oO oN oA oM oT oG oR oQ oS oK
       by_cases hjl : j < R.length
       · have hj2 : (j : Int) < (R.length : Int) := by omega
         have hjG : j < G.length := by omega
         have htk : (G.take j).map cells ++ [[C.s (.int .i64 (G.getD j ⟨0, 0⟩).re), C.s (.int .i64 (G.getD j ⟨0, 0⟩).im)]] = (G.take (j + 1)).map cells := by
          rw [eL ⟨0, 0⟩ hjG, List.map_append]; rfl
         have htl : (G.take j).length = j := by rw [List.length_take]; omega
         obtain ⟨z1, z2⟩ := q2 j hjG
         have t1 := lV z1
         have t2 := lV z2
         obtain ⟨b1, b2⟩ := hbl _ (dD ⟨0, 0⟩ hjG)
         simp (maxSteps := 4000000) -implicitDefEqProofs only [hj2, hjl, aB, n5, t1, t2, htk, htl, IntKind.min, IntKind.max, IntKind.signed, IntKind.bits, InR, Ent.of0, Ent.of1, Ent.of2, Ent.of3, V, W3, ↓reduceIte, Nat.reduceAdd, Nat.reduceSub, Nat.reduceMul, Nat.reduceEqDiff, Nat.reduceLT, Nat.reduceLeDiff, reduceCtorEq, Int.reduceToNat, Nat.reduceBEq]
         simp only [Int.reducePow] at *
         and_intros <;> first | omega | rfl | trivial
       · have : j = R.length := by omega
         subst this
         have hj2 : ¬ (R.length : Int) < (R.length : Int) := by omega
         have hG2 : G.take R.length = G := by rw [q1]; exact List.take_length
         simp (maxSteps := 4000000) -implicitDefEqProofs only [hj2, hG2, htkm, htlm, InR, Ent.of0, Ent.of1, Ent.of2, Ent.of3, V, W3, ↓reduceIte, Nat.reduceAdd, Nat.reduceSub, Nat.reduceMul, Nat.reduceEqDiff, Nat.reduceLT, Nat.reduceLeDiff, reduceCtorEq, Int.reduceToNat, Nat.reduceBEq]
         and_intros <;> first | omega | rfl | trivial
   · have : i = w.length := by omega
     subst this
     have hi2 : ¬ (w.length : Int) < (w.length : Int) := by omega
     have hm2 : m.take w.length = m := by rw [hwm]; exact List.take_length
     simp (maxSteps := 4000000) -implicitDefEqProofs only [hi2, D.rv78, hm2, Ent.of0, Ent.of1, Ent.of2, Ent.of3, V, W3, ↓reduceIte, Nat.reduceAdd, Nat.reduceSub, Nat.reduceMul, Nat.reduceEqDiff, Nat.reduceLT, Nat.reduceLeDiff, reduceCtorEq, Int.reduceToNat, Nat.reduceBEq]
def gR (m : List (List Gs)) : List (List Gs) :=
 match m with
 | [[_]] => [[⟨1, 0⟩]]
 | [[a, b], [c, d]] => [[d, lS ⟨0, 0⟩ b], [lS ⟨0, 0⟩ c, a]]
 | _ => []
theorem zadd {b : Gs} (hb : bd b 1000) : lF ⟨0, 0⟩ b := ⟨0, 1000, ⟨by simp, by simp⟩, hb, by omega⟩
theorem adj1_c (a : Gs) : FC Tryz.prog 76 [enc [[a]]] [] (enc (gR [[a]])) [] := by
 refine dk is76 (by simp) (fun cx hl => dj [mc] 800 ?_)
 delta c76 oO oN oA oM oT oG oR oQ oS oK
 simp (maxSteps := 4000000) -implicitDefEqProofs only [rv76, mc, gR, WU, Int.reduceAdd, Int.reduceSub, Int.reduceMul, Int.reduceLT, Int.reduceLE, Int.reduceTMod, Int.reduceTDiv, Int.reduceNeg, Int.reduceEq, Nat.reducePow, Int.reducePow, Ent.of0, Ent.of1, Ent.of2, Ent.of3, V, W3, ↓reduceIte, Nat.reduceAdd, Nat.reduceSub, Nat.reduceMul, Nat.reduceEqDiff, Nat.reduceLT, Nat.reduceLeDiff, reduceCtorEq, Int.reduceToNat, Nat.reduceBEq]
theorem adj2_c (a b c d : Gs) (h1 : bd b 1000) (h2 : bd c 1000) : FC Tryz.prog 76 [enc [[a, b], [c, d]]] [] (enc (gR [[a, b], [c, d]])) [] := by
 have m1 := zadd h1
 have m2 := zadd h2
 refine dk is76 (by simp) (fun cx hl => dj [mc] 800 ?_)
 delta c76 oO oN oA oM oT oG oR oQ oS oK
 simp (maxSteps := 4000000) -implicitDefEqProofs only [rv76, mc, gR, m1, m2, sP, WU, Int.reduceAdd, Int.reduceSub, Int.reduceMul, Int.reduceLT, Int.reduceLE, Int.reduceTMod, Int.reduceTDiv, Int.reduceNeg, Int.reduceEq, Nat.reducePow, Int.reducePow, Ent.of0, Ent.of1, Ent.of2, Ent.of3, V, W3, ↓reduceIte, Nat.reduceAdd, Nat.reduceSub, Nat.reduceMul, Nat.reduceEqDiff, Nat.reduceLT, Nat.reduceLeDiff, reduceCtorEq, Int.reduceToNat, Nat.reduceBEq]
end Go.Proofs.YteoobfmbipmibaaGreat
end
section
open Go Go.Am
open Go.Am.Dat (cells)
namespace Go.Proofs.YteoobfmbipmibaaGreat
set_option maxHeartbeats 4000000
set_option maxRecDepth 20000
def xjC (F : Gs → Gs) (x : List Gs) (j : Nat) : List (List C) := ((x.take j).map F ++ x.drop j).map cells
def riC (F : Gs → Gs) (O : List (List Gs)) (i : Nat) : List (List (List C)) := ((O.take i).map (fun x => x.map F) ++ O.drop i).map fun r => r.map cells
def rjC (F : Gs → Gs) (O : List (List Gs)) (i j : Nat) : List (List (List C)) := ((O.take i).map fun x => (x.map F).map cells) ++ xjC F (O.getD i []) j :: (O.drop (i + 1)).map fun r => r.map cells
variable {F : Gs → Gs} {O : List (List Gs)} {x : List Gs} {i j : Nat}
theorem kF (h : j ≤ x.length) : (xjC F x j).length = x.length := by
 simp [xjC]; omega
theorem xjC_get (h : j < x.length) (d : List C) : (xjC F x j).getD j d = cells (x.getD j ⟨0, 0⟩) := by
 have e : x.drop j = x.getD j ⟨0, 0⟩ :: x.drop (j + 1) := dT _ h
 have hl : ((x.take j).map F).length = j := by simp; omega
 rw [xjC, e, List.map_append, List.getD_eq_getElem?_getD, List.getElem?_append_right (by simp; omega)]
 simp [Nat.min_eq_left (Nat.le_of_lt h)]
theorem u3 (h : j < x.length) : (xjC F x j).set j (cells (F (x.getD j ⟨0, 0⟩))) = xjC F x (j + 1) := by
 have e : x.drop j = x.getD j ⟨0, 0⟩ :: x.drop (j + 1) := dT _ h
 have hl : ((x.take j).map F).length = j := by simp; omega
 rw [xjC, xjC, e, eL ⟨0, 0⟩ h]
 simp only [List.map_append, List.map_cons, List.map_nil, List.append_assoc, List.cons_append, List.nil_append]
 rw [List.set_append_right _ _ (by simp; omega)]
 simp [Nat.min_eq_left (Nat.le_of_lt h)]
theorem yZ (h : j < x.length) (d : List C) : (xjC F x (j + 1)).getD j d = cells (F (x.getD j ⟨0, 0⟩)) := by
 rw [← u3 h, List.getD_eq_getElem?_getD, List.getElem?_set_self (by rw [kF (by omega)]; exact h)]; rfl
theorem pN (h : i < O.length) : (rjC F O i j).length = O.length := by
 simp [rjC]; omega
theorem uQ (h : i < O.length) (d : List (List C)) : (rjC F O i j).getD i d = xjC F (O.getD i []) j := by
 rw [rjC, List.getD_eq_getElem?_getD, List.getElem?_append_right (by simp; omega)]
 simp [Nat.min_eq_left (Nat.le_of_lt h)]
theorem rjC_set (h : i < O.length) : (rjC F O i j).set i (xjC F (O.getD i []) (j + 1)) = rjC F O i (j + 1) := by
 rw [rjC, rjC, List.set_append_right _ _ (by simp; omega)]
 simp [Nat.min_eq_left (Nat.le_of_lt h)]
theorem riC_rj (h : i < O.length) : riC F O i = rjC F O i 0 := by
 have e : O.drop i = O.getD i [] :: O.drop (i + 1) := dT _ h
 rw [riC, rjC, e, List.map_append, List.map_map]
 simp [xjC, Function.comp_def]
theorem rjC_ri (h : i < O.length) : rjC F O i (O.getD i []).length = riC F O (i + 1) := by
 rw [riC, rjC, eL [] h]
 simp [xjC, Function.comp_def]
theorem yK : riC F O 0 = O.map fun r => r.map cells := by simp [riC]
theorem riC_all : riC F O O.length = (O.map fun x => x.map F).map fun r => r.map cells := by simp [riC]
end Go.Proofs.YteoobfmbipmibaaGreat
end
section
open Go Go.Am
open Go.Am.Dat (cells)
namespace Go.Proofs.YteoobfmbipmibaaGreat
set_option maxHeartbeats 4000000
set_option maxRecDepth 20000
def rD (m : List (List Gs)) : Prop := (∃ a, m = [[a]]) ∨ ∃ a b c d, m = [[a, b], [c, d]] ∧ bd b 1000 ∧ bd c 1000
def ent76 : Ent Tryz.prog := .of1 76 rD (fun m : List (List Gs) => enc (gR m)) (fun _ => trivial) (fun m h => by
 rcases h with ⟨a, rfl⟩ | ⟨a, b, c, d, rfl, h1, h2⟩
 · exact adj1_c a
 · exact adj2_c a b c d h1 h2)
def u9 (a o : List (List Fz)) : Prop := ∃ m ls A B, Fits m ls A B ∧ 8 * (A * B) ≤ 9007199254740991 ∧ ik a m ∧ ik o ls
def rG : Ent Tryz.prog := .of2 77 u9 (fun a o : List (List Fz) => enc (gy a o)) (fun _ _ => trivial) (fun a o h => by
 obtain ⟨m, ls, A, B, h1, h2, h3, h4⟩ := h
 exact uc a o m ls A B h1 h2 h3 h4)
def ent78 : Ent Tryz.prog := .of1 78 (fun w => RowsOk w (ofM w)) (fun w : List (List Fz) => enc (ofM w)) (fun _ => trivial) (fun w h => rows_c w _ h)
def xy : Ent Tryz.prog := .mk3 78 (fun args chs => match args, chs with
 | [.sl 1 t], [] => (eo t : Option (List (List Fz))).bind fun w => some (RowsOk w (ofM w), .own 3, [(3, .deep 2 62 32 none ((ofM w).map fun r => r.map cells))], [3])
 | _, _ => none) (by
 intro args chs p r chs' nk hs hp
 split at hs
 · simp only [Option.bind_eq_some_iff, Option.some.injEq, Prod.mk.injEq] at hs
   obtain ⟨w, hw, rfl, rfl, rfl, rfl⟩ := hs
   have := dV hw
   subst this
   refine ⟨rowsD_c w _ hp, ⟨fun k c h => .inl ?_, fun k cs h => by simp at h, by simp [dm], fun k c h => ?_⟩⟩
   · simp only [List.mem_singleton, Prod.mk.injEq] at h; rw [h.1]; exact List.mem_singleton.2 rfl
   · simp only [List.mem_singleton, Prod.mk.injEq] at h; rw [h.2]; trivial
 · cases hs)
theorem sym_of {l : List Gs} (h : d8 l = 0) : 0 < l.length ∧ l.length ≤ 200 ∧ ∀ g ∈ l, bd g 100000000 := by
 unfold d8 at h
 split at h
 · cases h
 · split at h
   · cases h
   · split at h
     · rename_i h1 h2 h3
       exact ⟨by omega, by omega, fun g hg => jj (by simpa using List.all_eq_true.1 h3 g hg)⟩
     · cases h
theorem jv {r : List (List Gs)} (h : dG r = 0) : 0 < r.length ∧ r.length ≤ 4 ∧ ∀ x ∈ r, x.length = (r.getD 0 []).length ∧ 0 < x.length ∧ x.length ≤ 200 ∧ ∀ g ∈ x, bd g 100000000 := by
 unfold dG at h
 split at h
 · cases h
 · split at h
   · cases h
   · refine ⟨by omega, by omega, fun x hx => ?_⟩
     have := ig h _ (List.mem_map.2 ⟨x, hx, rfl⟩)
     by_cases h1 : d8 x = 0
     · rw [if_neg (by simpa using h1)] at this
       obtain ⟨q1, q2, q3⟩ := sym_of h1
       refine ⟨?_, q1, q2, q3⟩
       split at this
       · cases this
       · omega
     · rw [if_pos h1] at this; exact absurd this h1
theorem xv {m : List (List Gs)} (h : eC m = 0) : rD m ∧ (∀ x ∈ m, x.length = m.length ∧ ∀ g ∈ x, bd g 1000) ∧ 0 < m.length ∧ m.length ≤ 2 := by
 unfold eC at h
 by_cases h1 : dI m = 0
 · rw [if_neg (by simpa using h1)] at h
   have hr := i7 h1
   unfold kW at h
   split at h
   · cases h
   · split at h
     · cases h
     · rename_i h2 h3
       have hb : ∀ x ∈ m, x.length = m.length ∧ ∀ g ∈ x, bd g 1000 := fun x hx => ⟨by have := (hr.row x hx).1; omega, fun g hg => jj ((hr.row x hx).2.2.2 g hg)⟩
       refine ⟨?_, hb, hr.pos, by omega⟩
       match m, hb, hr.pos, h3 with
       | [x], hb, _, _ =>
        obtain ⟨q1, q2⟩ := hb x (by simp)
        match x, q1 with
        | [a], _ => exact .inl ⟨a, rfl⟩
       | [x, y], hb, _, _ =>
        obtain ⟨q1, q2⟩ := hb x (by simp)
        obtain ⟨q3, q4⟩ := hb y (by simp)
        match x, y, q1, q3, q2, q4 with
        | [a, b], [c, d], _, _, q2, q4 => exact .inr ⟨a, b, c, d, rfl, q2 b (by simp), q4 c (by simp)⟩
       | _ :: _ :: _ :: _, _, _, h3 => simp at h3
 · rw [if_pos h1] at h; exact absurd h h1
theorem lR {m : List (List Gs)} (ha : rD m) : (gR m).length = m.length ∧ ∀ x ∈ gR m, x.length = m.length := by
 rcases ha with ⟨a, rfl⟩ | ⟨a, b, c, d, rfl, _, _⟩ <;> simp [gR]
theorem za {m r : List (List Gs)} (ha : rD m) (hm : ∀ x ∈ m, x.length = m.length ∧ ∀ g ∈ x, bd g 1000) (hl : dG r = 0) (hrm : r.length = m.length) : Fits (gR m) r 1000 100000000 := by
 obtain ⟨h1, h2, h3⟩ := jv hl
 obtain ⟨g1, g2⟩ := lR ha
 refine ⟨h1, h2, by omega, fun x hx => (h3 x hx).1, ?_, fun x hx => by rw [g2 x hx, hrm], ?_, fun x hx g hg => (h3 x hx).2.2.2 g hg, by omega⟩
 · have := (h3 _ (dD [] h1)).2.2.1; omega
 · rcases ha with ⟨a, rfl⟩ | ⟨a, b, c, d, rfl, h1, h2⟩
   · intro x hx g hg
     simp [gR] at hx; subst hx; simp at hg; subst hg
     constructor <;> simp
   · have ha := (hm [a, b] (by simp)).2 a (by simp)
     have hd := (hm [c, d] (by simp)).2 d (by simp)
     intro x hx g hg
     simp only [bd] at *
     simp only [gR, List.mem_cons, List.not_mem_nil, or_false] at hx
     rcases hx with rfl | rfl <;> simp only [List.mem_cons, List.not_mem_nil, or_false] at hg <;> rcases hg with rfl | rfl <;> (try simp only [lS]) <;> omega
def lz (m r : List (List Gs)) : Int := dl [eC m, dG r, if r.length = m.length then 0 else 13, if dt m = ⟨0, 0⟩ then 27 else 0]
def gA (m : List (List Gs)) : Int := (fW (dt m) (jl (dt m))).re
def i3 (m r : List (List Gs)) : List (List Gs) := (dA (gR m) r).map fun x => x.map (fW (jl (dt m)))
def eqE (m r : List (List Gs)) : Int := if lz m r ≠ 0 then lz m r else if gA m > 10000000 then 8 else if (i3 m r).all fun x => x.all (dw · 100000000) then 0 else 8
end Go.Proofs.YteoobfmbipmibaaGreat
end
