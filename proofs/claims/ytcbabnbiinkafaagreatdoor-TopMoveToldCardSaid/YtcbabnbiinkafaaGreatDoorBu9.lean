/- Part 9 of the proof of: the statements about chapter 8 -/
import Derived.Test.YtcbabnbiinkafaaGreatDoorProg
import Derived.KernelRfl
import Derived.Shelf.Sort.Plain
import Derived.Shelf.Slices.In.SortNone
import Derived.Shelf.Slices.SearchI
import Derived.Ground.Names2Prog
import Derived.Ground.SlgfProg
import Derived.Shelf.SlicesE.DeleteFunc
import Derived.Shelf.Spec.SlicesInsertGrow
import Derived.Shelf.Spec.SlicesInsert
import Derived.Shelf.Strconv.Itoa3
import Derived.Shelf.Strings.OnBuilder
import Derived.Ground.NamesProg
import Derived.Test.YtcbabnbiinkafaaGreatDoorBu8
set_option linter.all false
set_option maxHeartbeats 8000000
set_option maxRecDepth 100000
section
open Go Go.Am
open Go.Am.Dat (cells)
namespace Go.Proofs.YtcbabnbiinkafaaGreatDoor
def c30l1 : AC:=oS (oX [oM 11 5,oM 12 0,o4 13 12,oB 14 .lss 3 11 (oO 13)] [0,1,5,14] (.cond (oO 14) .skip (.exit 0))) (oK [0,1,5] (oS (.block 1 (oS (oQ [oM 17 0,oA 18 (.mvs (oO 5)),oA 19 (.iaddr 1 o1 (oO 17) (oO 18)),oL 20 19,oM 21 1,oM 22 5,oA 23 (.iaddr 1 o1 (oO 21) (oO 22)),oL 24 23,oT 25 (.bin .neq 3 (oO 20) (oO 24))]) (oK [0,1,5,25] (oI 25 (oX [o9 4 false] [4] .ret))))) (oK [0,1,5] (oR [oM 15 5,oB 16 .add 3 15 (oN 1),oM 5 16]))))
def c30 : AC:=oX [o9 4 false] [0,1] (oS (oX [oM 6 0,o4 7 6,oM 8 1,o4 9 8,oB 10 .neq 3 7 (oO 9)] [0,1,10] (oI 10 (oX [o9 4 false] [4] .ret))) (oK [0,1] (oS (oX [oV 5 0] [0,1,5] (.block 0 (.loop c30l1))) (oK [] (oX [o9 4 true] [4] .ret)))))
def rv30 : List RV:=[.tmp 4]
theorem is30 : FnIs Tryz.prog 30 26 c30 rv30:=⟨⟨Tryz.f30,_,Tryz.func30,by kernel_rfl,rfl,rfl,by kernel_rfl,by kernel_rfl⟩,by decide⟩
def pX : AC:=oS (oX [oM 14 3,oF 15 0 1,oL 16 15,o4 17 16,oB 18 .lss 3 14 (oO 17)] [1,3,18] (.cond (oO 18) .skip (.exit 0))) (oK [1,3] (oS (.block 1 (oX [oF 21 0 1,oL 22 21,oM 23 3,⟨some 24,none,.iaddr 1 [.string ⟨#[]⟩] (oO 22) (oO 23),false⟩,oL 25 24,oA 26 (.len true (oO 25)),oB 27 .gtr 3 26 (oN 20)] [1,3,27] (oI 27 (oX [o9 2 false] [2] .ret)))) (oK [1,3] (oR [oM 19 3,oB 20 .add 3 19 (oN 1),oM 3 20]))))
def c34 : AC:=oX [o7 1 0,o9 2 false] [1] (oS (oX [oF 4 0 1,oL 5 4,o4 6 5,oB 7 .gtr 3 6 (oN 8),oM 8 7,oE 9 8 false 1 1,oJ 10 8 false 9,oG 11 8 false (.len false (oO 10)),oG 12 8 false (.bin .gtr 3 (oO 11) (oN 20)),oH 13 8 12] [1,13] (oI 13 (oX [o9 2 false] [2] .ret))) (oK [1] (oS (oX [oV 3 0] [1,3] (.block 0 (.loop pX))) (oK [] (oX [o9 2 true] [2] .ret)))))
def rv34 : List RV:=[.tmp 2]
theorem is34 : FnIs Tryz.prog 34 28 c34 rv34:=⟨⟨Tryz.f34,_,Tryz.func34,by kernel_rfl,rfl,rfl,by kernel_rfl,by kernel_rfl⟩,by decide⟩
def c36 : AC:=oX [o7 3 0,oA 6 (.alloc oZ),oV 7 0,oV 8 0] [1,2,3,6] (oX [o5 13 3 3,oM 14 1,oM 15 2,oC 16 97 [oO 13,oO 14,oO 15],oM 12 16,o8 17 12 0,o8 18 12 1,o8 19 12 2,oM 9 17,oM 10 18,oM 11 19] [6,9,10,11] (oS (oX [oM 20 11,oB 21 .neq 27 20 (oN 0)] [6,9,10,11,21] (oI 21 (oX [oA 22 (.build oZ []),oM 23 10,oM 24 11,oW 10 6 22,oM 7 23,oM 8 24] [6,7,8] .ret))) (oK [6,9] (oX [oM 25 9,o6 26 25,oF 27 0 26,o5 28 10 27,oW 10 6 28,oV 7 0,oV 8 0] [6,7,8] .ret))))
def rv36 : List RV:=[.cell 6 true 10,.tmp 7,.tmp 8]
theorem is36 : FnIs Tryz.prog 36 29 c36 rv36:=⟨⟨Tryz.f36,_,Tryz.func36,by kernel_rfl,rfl,rfl,by kernel_rfl,by kernel_rfl⟩,by decide⟩
def c49l1 : AC:=oX [oB 31 .lss 3 30 (oO 29)] [1,28,29,30,31] (oS (.cond (oO 31) .skip (.exit 0)) (oK [1,28,29,30] (oS (.block 1 (oX [oM 32 30,⟨some 33,none,.iaddr 1 [.string ⟨#[]⟩] (oO 28) (oO 30),false⟩,oL 34 33,oM 5 32,oM 6 34] [1,5,6,28,29,30] (oS (oQ [oA 35 (.mvs (oO 6)),oC 36 103 [oO 35],oC 37 95 [oO 36,oN 4],oF 38 0 1,oL 39 38,oA 40 (.mvs (oO 5)),oA 41 (.ssl 1 (oO 39) none (some (oO 40)) none),oM 42 6,oT 43 (.call (.func 104) [oO 41,oO 42]),oT 44 (.un .not (oO 43)),oT 45 (.call (.func 95) [oO 44,oN 5]),oT 46 (.mkSl false 27 1 o1 2 [(0,oO 37),(1,oO 45)]),oT 47 (.call (.func 91) [oO 46]),oT 7 (.mv (oO 47))]) (oK [1,5,7,28,29,30] (oX [oM 48 7,oB 49 .neq 27 48 (oN 0)] [1,5,7,28,29,30,49] (oI 49 (oX [oM 50 5,oM 51 7,oM 2 50,oM 3 51] [2,3] .ret))))))) (oK [1,28,29,30] (oR [oB 52 .add 3 30 (oN 1),oM 30 52])))))
def c49l2 : AC:=oX [oB 58 .lss 3 57 (oO 56)] [1,8,55,56,57,58] (oS (.cond (oO 58) .skip (.exit 2)) (oK [1,8,55,56,57] (oS (.block 3 (oX [oM 59 57,oA 60 (.iaddr 2 o2 (oO 55) (oO 57)),o5 61 2 60,oA 10 (.alloc o2),oM 9 59,oW 2 10 61] [1,8,9,10,55,56,57] (oS (oQ [oM 62 8,oA 63 (.iarr 2 1 (oO 10) (oN 0)),oL 64 63,oA 65 (.call (oO 62) [oO 64]),oA 66 (.mvs (oO 65)),oD 67 66 true 8,oG 68 66 true (.iarr 2 1 (oO 10) (oN 1)),oJ 69 66 true 68,oG 70 66 true (.call (oO 67) [oO 69]),oP 71 66 70,oC 72 95 [oO 71,oN 6],oA 73 (.iarr 2 1 (oO 10) (oN 0)),oL 74 73,oA 75 (.iarr 2 1 (oO 10) (oN 1)),oL 76 75,oB 77 .lss 3 74 (oO 76),oC 78 95 [oO 77,oN 9],oF 79 1 1,oL 80 79,oA 81 (.mvs (oO 9)),oA 82 (.ssl 2 (oO 80) none (some (oO 81)) none),o5 83 2 10,oT 84 (.call (.func 106) [oO 82,oO 83]),oT 85 (.un .not (oO 84)),oT 86 (.call (.func 95) [oO 85,oN 26]),oT 87 (.mkSl false 27 1 o1 3 [(0,oO 72),(1,oO 78),(2,oO 86)]),oT 88 (.call (.func 91) [oO 87]),oT 11 (.mv (oO 88))]) (oK [1,8,9,11,55,56,57] (oX [oM 89 11,oB 90 .neq 27 89 (oN 0)] [1,8,9,11,55,56,57,90] (oI 90 (oX [oM 91 9,oM 92 11,oM 2 91,oM 3 92] [2,3] .ret))))))) (oK [1,8,55,56,57] (oR [oB 93 .add 3 57 (oN 1),oM 57 93])))))
def c49 : AC:=oX [o7 1 0,oV 2 0,oV 3 0] [1] (oS (oS (oQ [oF 12 0 1,oL 13 12,o4 14 13,oB 15 .gtr 3 14 (oN 0),oC 16 95 [oO 15,oN 10],oF 17 0 1,oL 18 17,o4 19 18,oB 20 .leq 3 19 (oN 6),oT 21 (.call (.func 95) [oO 20,oN 8]),oT 22 (.mkSl false 27 1 o1 2 [(0,oO 16),(1,oO 21)]),oT 23 (.call (.func 91) [oO 22]),oT 4 (.mv (oO 23))]) (oK [1,4] (oX [oM 24 4,oB 25 .neq 27 24 (oN 0)] [1,4,25] (oI 25 (oX [oM 26 4,oV 2 0,oM 3 26] [2,3] .ret))))) (oK [1] (oS (oX [oF 27 0 1,oL 28 27,o4 29 28,oV 30 0] [1,28,29,30] (.block 0 (.loop c49l1))) (oK [1] (oX [oA 53 (.mkFn (.func 105) [] [oO 1]),oM 8 53] [1,8] (oS (oX [oF 54 1 1,oL 55 54,o4 56 55,oV 57 0] [1,8,55,56,57] (.block 2 (.loop c49l2))) (oK [1] (oX [oF 94 2 1,oL 95 94,oC 96 96 [oO 95,oN 1,oN 100000],oC 97 95 [oO 96,oN 2],oV 2 0,oM 3 97] [2,3] .ret))))))))
def rv49 : List RV:=[.tmp 2,.tmp 3]
theorem is49 : FnIs Tryz.prog 49 98 c49 rv49:=⟨⟨Tryz.f49,_,Tryz.func49,by kernel_rfl,rfl,rfl,by kernel_rfl,by kernel_rfl⟩,by decide⟩
def c91l1 : AC:=oX [oB 8 .lss 3 7 (oO 6)] [5,6,7,8] (oS (.cond (oO 8) .skip (.exit 0)) (oK [5,6,7] (oS (.block 1 (oX [oA 9 (.iaddr 1 o1 (oO 5) (oO 7)),oL 10 9,oM 4 10] [4,5,6,7] (oX [oM 11 4,oB 12 .neq 27 11 (oN 0)] [4,5,6,7,12] (oI 12 (oX [oM 13 4,oM 2 13] [2] .ret))))) (oK [5,6,7] (oR [oB 14 .add 3 7 (oN 1),oM 7 14])))))
def c91 : AC:=oX [oV 2 0] [0] (oS (oX [oM 5 0,o4 6 5,oV 7 0] [5,6,7] (.block 0 (.loop c91l1))) (oK [] (oX [oV 2 0] [2] .ret)))
def rv91 : List RV:=[.tmp 2]
theorem is91 : FnIs Tryz.prog 91 15 c91 rv91:=⟨⟨Tryz.f91,_,Tryz.func91,by kernel_rfl,rfl,rfl,by kernel_rfl,by kernel_rfl⟩,by decide⟩
def c93 : AC:=oX [oA 2 (.mv (.const (.slice none 0 0)))] [0] (oX [oM 3 0,oC 4 137 [(.const (.slice none 0 0)),oO 3],oM 2 4] [2] .ret)
def rv93 : List RV:=[.tmp 2]
theorem is93 : FnIs Tryz.prog 93 5 c93 rv93:=⟨⟨Tryz.f93,_,Tryz.func93,by kernel_rfl,rfl,rfl,by kernel_rfl,by kernel_rfl⟩,by decide⟩
def c95 : AC:=oX [oV 4 0] [0,1] (oS (oX [oM 5 0] [1,5] (oI 5 (oX [oV 4 0] [4] .ret))) (oK [1] (oX [oM 6 1,oM 4 6] [4] .ret)))
def rv95 : List RV:=[.tmp 4]
theorem is95 : FnIs Tryz.prog 95 7 c95 rv95:=⟨⟨Tryz.f95,_,Tryz.func95,by kernel_rfl,rfl,rfl,by kernel_rfl,by kernel_rfl⟩,by decide⟩
def c96 : AC:=oX [o9 6 false] [0,1,2] (oX [oM 7 1,oM 8 0,oB 9 .leq 3 7 (oO 8),oM 10 9,oD 11 10 true 0,oD 12 10 true 2,oG 13 10 true (.bin .leq 3 (oO 11) (oO 12)),oP 14 10 13,oM 6 14] [6] .ret)
def rv96 : List RV:=[.tmp 6]
theorem is96 : FnIs Tryz.prog 96 15 c96 rv96:=⟨⟨Tryz.f96,_,Tryz.func96,by kernel_rfl,rfl,rfl,by kernel_rfl,by kernel_rfl⟩,by decide⟩
def pY : AC:=oX [oB 38 .lss 3 37 (oO 36)] [10,35,36,37,38] (oS (.cond (oO 38) .skip (.exit 0)) (oK [10,35,36,37] (oS (.block 1 (oX [oM 39 37,oA 40 (.iaddr 3 o3 (oO 35) (oO 37)),o5 41 3 40,oA 12 (.alloc o3),oM 11 39,oW 3 12 41] [10,11,12,35,36,37] (oX [oM 42 10,o5 43 3 12,oC 44 118 [oO 42,oO 43],oM 13 44] [10,11,13,35,36,37] (oX [oM 45 13,oB 46 .neq 27 45 (oN 0)] [10,11,13,35,36,37,46] (oI 46 (oX [oM 47 11,oM 48 13,oA 6 (.mv (.const (.pointer none))),oM 7 47,oM 8 48] [6,7,8] .ret)))))) (oK [10,35,36,37] (oR [oB 49 .add 3 37 (oN 1),oM 37 49])))))
def c97 : AC:=oX [o7 3 0,oA 6 (.mv (.const (.pointer none))),oV 7 0,oV 8 0] [1,2,3] (oS (oQ [o5 14 3 3,oC 15 101 [oO 14],oA 16 (.mvs (oO 1)),oF 17 0 3,oL 18 17,o4 19 18,oB 20 .sub 3 19 (oN 1),oC 21 96 [oO 16,oN 0,oO 20],oC 22 95 [oO 21,oN 6],oM 23 2,o4 24 23,oB 25 .leq 3 24 (oN 200),oT 26 (.call (.func 95) [oO 25,oN 8]),oT 27 (.mkSl false 27 1 o1 3 [(0,oO 15),(1,oO 22),(2,oO 26)]),oT 28 (.call (.func 91) [oO 27]),oT 9 (.mv (oO 28))]) (oK [1,2,3,9] (oS (oX [oM 29 9,oB 30 .neq 27 29 (oN 0)] [1,2,3,9,30] (oI 30 (oX [oM 31 9,oA 6 (.mv (.const (.pointer none))),oV 7 0,oM 8 31] [6,7,8] .ret))) (oK [1,2,3] (oX [o5 32 3 3,oM 33 1,oC 34 107 [oO 32,oO 33],oM 10 34] [2,10] (oS (oX [oM 35 2,o4 36 35,oV 37 0] [10,35,36,37] (.block 0 (.loop pY))) (oK [10] (oS (oQ [oM 50 10,o6 51 50,oF 52 14 51,oL 53 52,oM 54 10,o6 55 54,oF 56 14 55,oL 57 56,o4 58 57,oB 59 .sub 3 58 (oN 1),oM 60 10,o6 61 60,oF 62 0 61,oF 63 0 62,oL 64 63,oT 65 (.iaddr 3 o3 (oO 53) (oO 59)),oT 66 (.faddr 2 (oO 65)),⟨none,none,.store false 1 (oO 66) (oO 64),true⟩]) (oK [10] (oX [oM 67 10,oM 68 10,o6 69 68,oF 70 0 69,oF 71 0 70,oL 72 71,oC 73 139 [oO 67,oO 72]] [10] (oX [oM 74 10,oM 6 74,oV 7 0,oV 8 0] [6,7,8] .ret)))))))))))
def rv97 : List RV:=[.tmp 6,.tmp 7,.tmp 8]
theorem is97 : FnIs Tryz.prog 97 75 c97 rv97:=⟨⟨Tryz.f97,_,Tryz.func97,by kernel_rfl,rfl,rfl,by kernel_rfl,by kernel_rfl⟩,by decide⟩
def c98 : AC:=oX [oA 2 (.mv (.const (.slice none 0 0)))] [0] (oX [⟨some 3,none,.mkSl true 9 1 [.string ⟨#[]⟩] 0 [],false⟩,oM 4 0,⟨some 5,none,.app 44 9 1 16 [.string ⟨#[]⟩] (oO 3) (oO 4),false⟩,oM 2 5] [2] .ret)
def rv98 : List RV:=[.tmp 2]
theorem is98 : FnIs Tryz.prog 98 6 c98 rv98:=⟨⟨Tryz.f98,_,Tryz.func98,by kernel_rfl,rfl,rfl,by kernel_rfl,by kernel_rfl⟩,by decide⟩
def c101 : AC:=oX [o7 1 0,oV 2 0] [1] (oX [o5 6 3 1,oC 7 49 [oO 6],oM 5 7,o8 8 5 0,o8 9 5 1,oM 3 8,oM 4 9] [4] (oX [oM 10 4,oM 2 10] [2] .ret))
def rv101 : List RV:=[.tmp 2]
theorem is101 : FnIs Tryz.prog 101 11 c101 rv101:=⟨⟨Tryz.f101,_,Tryz.func101,by kernel_rfl,rfl,rfl,by kernel_rfl,by kernel_rfl⟩,by decide⟩
def c102 : AC:=oX [o9 2 false] [0] (oX [oM 3 0,oC 4 96 [oO 3,oN 0,oN 1000000000],oM 2 4] [2] .ret)
def rv102 : List RV:=[.tmp 2]
theorem is102 : FnIs Tryz.prog 102 5 c102 rv102:=⟨⟨Tryz.f102,_,Tryz.func102,by kernel_rfl,rfl,rfl,by kernel_rfl,by kernel_rfl⟩,by decide⟩
def mZ : AC:=oX [oB 10 .lss 3 9 (oO 8)] [0,7,8,9,10] (oS (.cond (oO 10) .skip (.exit 0)) (oK [0,7,8,9] (oS (.block 1 (oX [oM 11 9,oA 12 (.iaddr 1 [.int .u8 0] (oO 7) (oO 9)),oL 13 12,oM 3 11,oM 4 13] [0,3,4,7,8,9] (oX [oM 14 4,oA 15 (.bin .geq 5 (oO 14) (.const (.int .u8 97))),oM 16 15,oD 17 16 true 4,oG 18 16 true (.bin .leq 5 (oO 17) (.const (.int .u8 122))),oP 19 16 18,oM 20 19,oD 21 20 false 4,oG 22 20 false (.bin .geq 5 (oO 21) (.const (.int .u8 65))),oD 23 20 false 22,oD 24 23 true 4,oG 25 23 true (.bin .leq 5 (oO 24) (.const (.int .u8 90))),oG 26 20 false (.pick (oO 23) (oO 25) (.const (.bool false))),oH 27 20 26,oM 5 27] [0,3,4,5,7,8,9] (oX [oM 28 5,oA 29 (.un .not (oO 28)),oM 30 29,oD 31 30 true 3,oG 32 30 true (.bin .eql 3 (oO 31) (oN 0)),oD 33 30 true 32,oD 34 33 false 4,oG 35 33 false (.bin .neq 5 (oO 34) (.const (.int .u8 45))),oD 36 33 false 35,oD 37 36 true 4,oG 38 36 true (.bin .lss 5 (oO 37) (.const (.int .u8 48))),oD 39 36 true 38,oD 40 39 false 4,oG 41 39 false (.bin .gtr 5 (oO 40) (.const (.int .u8 57))),oG 42 36 true (.pick (oO 39) (.const (.bool true)) (oO 41)),oG 43 33 false (.pick (oO 36) (oO 42) (.const (.bool false))),oG 44 30 true (.pick (oO 33) (.const (.bool true)) (oO 43)),oP 45 30 44] [0,7,8,9,45] (oI 45 (oX [o9 2 false] [2] .ret)))))) (oK [0,7,8,9] (oR [oB 46 .add 3 9 (oN 1),oM 9 46])))))
def c103 : AC:=oX [o9 2 false] [0] (oS (oX [oM 6 0,oA 7 (.ext .s2b [oO 6]),o4 8 7,oV 9 0] [0,7,8,9] (.block 0 (.loop mZ))) (oK [0] (oX [oM 47 0,⟨some 48,none,.bin .neq 9 (oO 47) (.const (.string ⟨#[]⟩)),false⟩,oM 49 48,oD 50 49 true 0,oG 51 49 true (.len true (oO 50)),oG 52 49 true (.bin .leq 3 (oO 51) (oN 12)),oP 53 49 52,oM 2 53] [2] .ret)))
def nV : List RV:=[.tmp 2]
theorem is103 : FnIs Tryz.prog 103 54 c103 nV:=⟨⟨Tryz.f103,_,Tryz.func103,by kernel_rfl,rfl,rfl,by kernel_rfl,by kernel_rfl⟩,by decide⟩
def c104 : AC:=oX [o9 4 false] [0,1] (oX [oM 5 0,oM 6 1,oC 7 140 [oO 5,oO 6],oB 8 .geq 3 7 (oN 0),oM 4 8] [4] .ret)
def rv104 : List RV:=[.tmp 4]
theorem is104 : FnIs Tryz.prog 104 9 c104 rv104:=⟨⟨Tryz.f104,_,Tryz.func104,by kernel_rfl,rfl,rfl,by kernel_rfl,by kernel_rfl⟩,by decide⟩
def c105 : AC:=oX [o9 3 false] [0,1] (oX [oM 4 0,oF 5 0 1,oL 6 5,o4 7 6,oB 8 .sub 3 7 (oN 1),oC 9 96 [oO 4,oN 0,oO 8],oM 3 9] [3] .ret)
def rv105 : List RV:=[.tmp 3]
theorem is105 : FnIs Tryz.prog 105 10 c105 rv105:=⟨⟨Tryz.f105,_,Tryz.func105,by kernel_rfl,rfl,rfl,by kernel_rfl,by kernel_rfl⟩,by decide⟩
def c106 : AC:=oX [o7 3 1,o9 4 false] [0,3] (oX [oM 5 0,o5 6 2 3,oC 7 141 [oO 5,oO 6],oB 8 .geq 3 7 (oN 0),oM 4 8] [4] .ret)
def rv106 : List RV:=[.tmp 4]
theorem is106 : FnIs Tryz.prog 106 9 c106 rv106:=⟨⟨Tryz.f106,_,Tryz.func106,by kernel_rfl,rfl,rfl,by kernel_rfl,by kernel_rfl⟩,by decide⟩
def c114 : AC:=oX [o7 2 0,o7 3 1,oV 4 0] [2,3] (oS (oS (oQ [oF 6 0 3,oL 7 6,oC 8 96 [oO 7,oN 0,oN 11],oC 9 95 [oO 8,oN 15],oF 10 1 3,oL 11 10,oT 12 (.call (.func 102) [oO 11]),oT 13 (.call (.func 95) [oO 12,oN 2]),oT 14 (.mkSl false 27 1 o1 2 [(0,oO 9),(1,oO 13)]),oT 15 (.call (.func 91) [oO 14]),oT 5 (.mv (oO 15))]) (oK [2,3,5] (oX [oM 16 5,oB 17 .neq 27 16 (oN 0)] [2,3,5,17] (oI 17 (oX [oM 18 5,oM 4 18] [4] .ret))))) (oK [2,3] (oS (oX [oF 19 0 3,oL 20 19,oA 21 (.iarr 12 3 (.global 0) (oO 20)),oF 22 1 21,oL 23 22] [2,3,23] (oI 23 (oX [oF 24 2 3,oL 25 24,oF 26 0 2,oL 27 26,o4 28 27,oB 29 .sub 3 28 (oN 1),oC 30 96 [oO 25,oN 0,oO 29],oC 31 95 [oO 30,oN 6],oM 4 31] [4] .ret))) (oK [3] (oX [oF 32 2 3,oL 33 32,oB 34 .eql 3 33 (oN 0),oC 35 95 [oO 34,oN 3],oM 4 35] [4] .ret)))))
def nW : List RV:=[.tmp 4]
theorem is114 : FnIs Tryz.prog 114 36 c114 nW:=⟨⟨Tryz.f114,_,Tryz.func114,by kernel_rfl,rfl,rfl,by kernel_rfl,by kernel_rfl⟩,by decide⟩
def c118 : AC:=oX [o7 3 1,oV 4 0] [0,3] (oS (oS (oQ [oM 7 0,o6 8 7,oF 9 10 8,o5 10 3 9,o5 11 3 3,oC 12 114 [oO 10,oO 11],oF 13 1 3,oL 14 13,oM 15 0,o6 16 15,oF 17 0 16,oF 18 0 17,oL 19 18,oB 20 .geq 3 14 (oO 19),oT 21 (.call (.func 95) [oO 20,oN 9]),oT 22 (.mkSl false 27 1 o1 2 [(0,oO 12),(1,oO 21)]),oT 23 (.call (.func 91) [oO 22]),oT 5 (.mv (oO 23))]) (oK [0,3,5] (oX [oM 24 5,oB 25 .neq 27 24 (oN 0)] [0,3,5,25] (oI 25 (oX [oM 26 5,oM 4 26] [4] .ret))))) (oK [0,3] (oX [oM 27 0,oF 28 1 3,oL 29 28,oC 30 151 [oO 27,oO 29]] [0,3] (oS (oS (oQ [oF 31 0 3,oL 32 31,oA 33 (.iarr 12 3 (.global 0) (oO 32)),oF 34 2 33,oL 35 34,oM 36 0,o5 37 3 3,oT 38 (.call (oO 35) [oO 36,oO 37]),oT 6 (.mv (oO 38))]) (oK [0,3,6] (oX [oM 39 6,oB 40 .neq 27 39 (oN 0)] [0,3,6,40] (oI 40 (oX [oM 41 6,oM 4 41] [4] .ret))))) (oK [0,3] (oX [oM 42 0,oF 43 1 3,oL 44 43,o6 45 42,oF 46 0 45,oF 47 0 46,oW 1 47 44] [] (oX [oV 4 0] [4] .ret)))))))
def rv118 : List RV:=[.tmp 4]
theorem is118 : FnIs Tryz.prog 118 48 c118 rv118:=⟨⟨Tryz.f118,_,Tryz.func118,by kernel_rfl,rfl,rfl,by kernel_rfl,by kernel_rfl⟩,by decide⟩
def c120 : AC:=oX [o9 2 false] [0] (oX [oM 3 0,o6 4 3,oF 5 0 4,oF 6 1 5,oL 7 6,oB 8 .eql 3 7 (oN 2),oM 9 8,oD 10 9 false 0,oG 11 9 false (.nilc (oO 10)),oE 12 9 false 0 11,oE 13 9 false 1 12,oJ 14 9 false 13,oG 15 9 false (.bin .eql 3 (oO 14) (oN 3)),oH 16 9 15,oM 2 16] [2] .ret)
def rv120 : List RV:=[.tmp 2]
theorem is120 : FnIs Tryz.prog 120 17 c120 rv120:=⟨⟨Tryz.f120,_,Tryz.func120,by kernel_rfl,rfl,rfl,by kernel_rfl,by kernel_rfl⟩,by decide⟩
def c121 : AC:=oX [oV 2 0] [0] (oS (oQ [oM 3 0,o6 4 3,oF 5 0 4,oF 6 2 5,oL 7 6,oM 8 0,o6 9 8,oF 10 10 9,oF 11 2 10,oL 12 11,oT 13 (.bin .add 3 (oO 7) (oO 12)),oT 2 (.mv (oO 13))]) (oK [2] .ret))
def rv121 : List RV:=[.tmp 2]
theorem is121 : FnIs Tryz.prog 121 14 c121 rv121:=⟨⟨Tryz.f121,_,Tryz.func121,by kernel_rfl,rfl,rfl,by kernel_rfl,by kernel_rfl⟩,by decide⟩
def c139 : AC:=oS (oX [oM 4 0,o6 5 4,oF 6 15 5,oL 7 6,oB 8 .neq 3 7 (oN (-1))] [0,1,8] (oI 8 (oQ [oM 9 0,oM 10 0,o6 11 10,oF 12 16 11,oL 13 12,oA 14 (.mvs (oO 1)),oM 15 0,o6 16 15,oF 17 15 16,oL 18 17,oB 19 .sub 3 14 (oO 18),oA 20 (.ext (.mx true) [oO 13,oO 19]),oT 21 (.nilc (oO 9)),oT 22 (.faddr 16 (oO 21)),⟨none,none,.store false 1 (oO 22) (oO 20),true⟩]))) (oK [0] (oR [oM 23 0,o6 24 23,oF 25 15 24,oY false 1 (oO 25) (oN (-1))]))
def rv139 : List RV:=[]
theorem is139 : FnIs Tryz.prog 139 26 c139 rv139:=⟨⟨Tryz.f139,_,Tryz.func139,by kernel_rfl,rfl,rfl,by kernel_rfl,by kernel_rfl⟩,by decide⟩
def m5 : AC:=oX [oB 9 .lss 3 8 (oO 7)] [0,1,7,8,9] (oS (.cond (oO 9) .skip (.exit 0)) (oK [0,1,7,8] (oS (.block 1 (oX [oM 10 8,oM 5 10] [0,1,5,7,8] (oX [oM 11 1,oM 12 0,oM 13 5,⟨some 14,none,.iaddr 1 [.string ⟨#[]⟩] (oO 12) (oO 13),false⟩,oL 15 14,oB 16 .eql 9 11 (oO 15)] [0,1,5,7,8,16] (oI 16 (oX [oM 17 5,oM 4 17] [4] .ret))))) (oK [0,1,7,8] (oR [oB 18 .add 3 8 (oN 1),oM 8 18])))))
def c140 : AC:=oX [oV 4 0] [0,1] (oS (oX [oM 6 0,o4 7 6,oV 8 0] [0,1,7,8] (.block 0 (.loop m5))) (oK [] (oX [oV 4 (-1)] [4] .ret)))
def nX : List RV:=[.tmp 4]
theorem is140 : FnIs Tryz.prog 140 19 c140 nX:=⟨⟨Tryz.f140,_,Tryz.func140,by kernel_rfl,rfl,rfl,by kernel_rfl,by kernel_rfl⟩,by decide⟩
def m6 : AC:=oX [oB 9 .lss 3 8 (oO 7)] [0,3,7,8,9] (oS (.cond (oO 9) .skip (.exit 0)) (oK [0,3,7,8] (oS (.block 1 (oX [oM 10 8,oM 5 10] [0,3,5,7,8] (oS (oQ [o5 11 2 3,oM 12 0,oM 13 5,oA 14 (.iaddr 2 o2 (oO 12) (oO 13)),o5 15 2 14,oT 16 (.ext (.eqs false [0,0]) [oO 11,oO 15])]) (oK [0,3,5,7,8,16] (oI 16 (oX [oM 17 5,oM 4 17] [4] .ret)))))) (oK [0,3,7,8] (oR [oB 18 .add 3 8 (oN 1),oM 8 18])))))
def c141 : AC:=oX [o7 3 1,oV 4 0] [0,3] (oS (oX [oM 6 0,o4 7 6,oV 8 0] [0,3,7,8] (.block 0 (.loop m6))) (oK [] (oX [oV 4 (-1)] [4] .ret)))
def nY : List RV:=[.tmp 4]
theorem is141 : FnIs Tryz.prog 141 19 c141 nY:=⟨⟨Tryz.f141,_,Tryz.func141,by kernel_rfl,rfl,rfl,by kernel_rfl,by kernel_rfl⟩,by decide⟩
def c148 : AC:=oX [o9 4 false] [0,1] (oS (oQ [oM 5 0,o6 6 5,oF 7 10 6,oF 8 1 7,oL 9 8,oA 10 (.mvs (oO 1)),oM 11 0,o6 12 11,oF 13 0 12,oF 14 3 13,oL 15 14,oA 16 (.ext (.mx false) [oO 10,oO 15]),oA 17 (.mvs (oO 1)),oM 18 0,o6 19 18,oF 20 0 19,oF 21 3 20,oL 22 21,oA 23 (.ext (.mx true) [oO 17,oO 22]),oA 24 (.build o2 [(0,1,oO 16),(1,1,oO 23)]),oT 25 (.call (.func 106) [oO 9,oO 24]),oT 4 (.mv (oO 25))]) (oK [4] .ret))
def rv148 : List RV:=[.tmp 4]
theorem is148 : FnIs Tryz.prog 148 26 c148 rv148:=⟨⟨Tryz.f148,_,Tryz.func148,by kernel_rfl,rfl,rfl,by kernel_rfl,by kernel_rfl⟩,by decide⟩
def c149 : AC:=oX [o9 2 false] [0] (oS (oQ [oT 3 (.mv (oO 0)),oT 4 (.nilc (oO 3)),oT 5 (.faddr 0 (oO 4)),oT 6 (.faddr 5 (oO 5)),oT 7 (.load false 1 (oO 6)),oT 8 (.bin .neq 3 (oO 7) (oN (-1))),oT 9 (.mv (oO 8)),oD 10 9 true 0,oG 11 9 true (.nilc (oO 10)),oE 12 9 true 0 11,oE 13 9 true 6 12,oJ 14 9 true 13,oD 15 9 true 0,oG 16 9 true (.nilc (oO 15)),oE 17 9 true 0 16,oE 18 9 true 3 17,oJ 19 9 true 18,⟨some 20,some (9,true),.bin .eql 3 (oO 14) (oO 19),true⟩,oT 21 (.pick (oO 9) (oO 20) (.const (.bool false))),oT 22 (.mv (oO 21)),oD 23 22 true 0,oG 24 22 true (.nilc (oO 23)),oE 25 22 true 0 24,oE 26 22 true 9 25,oJ 27 22 true 26,oD 28 22 true 0,oG 29 22 true (.nilc (oO 28)),oE 30 22 true 0 29,oE 31 22 true 5 30,oJ 32 22 true 31,⟨some 33,some (22,true),.iaddr 1 o0 (oO 27) (oO 32),true⟩,⟨some 34,some (22,true),.load false 1 (oO 33),true⟩,⟨some 35,some (22,true),.len false (oO 34),true⟩,⟨some 36,some (22,true),.bin .eql 3 (oO 35) (oN 0),true⟩,oT 37 (.pick (oO 22) (oO 36) (.const (.bool false))),oT 2 (.mv (oO 37))]) (oK [2] .ret))
def nZ : List RV:=[.tmp 2]
theorem is149 : FnIs Tryz.prog 149 38 c149 nZ:=⟨⟨Tryz.f149,_,Tryz.func149,by kernel_rfl,rfl,rfl,by kernel_rfl,by kernel_rfl⟩,by decide⟩
def c151 : AC:=oX [oM 4 0,oC 5 120 [oO 4],oM 6 5,oD 7 6 true 0,oG 8 6 true (.call (.func 121) [oO 7]),oD 9 6 true 1,oG 10 6 true (.bin .leq 3 (oO 8) (oO 9)),oP 11 6 10] [0,11] (oI 11 (oR [oM 12 0,oM 13 0,oC 14 121 [oO 13],oC 15 166 [oO 12,oN 0,oO 14]]))
def rv151 : List RV:=[]
theorem is151 : FnIs Tryz.prog 151 16 c151 rv151:=⟨⟨Tryz.f151,_,Tryz.func151,by kernel_rfl,rfl,rfl,by kernel_rfl,by kernel_rfl⟩,by decide⟩
def qH : AC:=oX [oB 13 .lss 3 12 (oO 11)] [3,10,11,12,13] (oS (.cond (oO 13) .skip (.exit 0)) (oK [3,10,11,12] (oS (.block 1 (oX [oA 14 (.iaddr 1 o0 (oO 10) (oO 12)),oL 15 14,oM 5 15] [3,5,10,11,12] (oR [oM 16 3,oM 17 5,o4 18 17,oB 19 .add 3 16 (oO 18),oM 3 19]))) (oK [3,10,11,12] (oR [oB 20 .add 3 12 (oN 1),oM 12 20])))))
def c165 : AC:=oX [oV 2 0] [0] (oX [oV 3 0] [0,3] (oS (oX [oM 6 0,o6 7 6,oF 8 0 7,oF 9 9 8,oL 10 9,o4 11 10,oV 12 0] [3,10,11,12] (.block 0 (.loop qH))) (oK [3] (oX [oM 21 3,oM 2 21] [2] .ret))))
def qt : List RV:=[.tmp 2]
theorem is165 : FnIs Tryz.prog 165 22 c165 qt:=⟨⟨Tryz.f165,_,Tryz.func165,by kernel_rfl,rfl,rfl,by kernel_rfl,by kernel_rfl⟩,by decide⟩
def c167 : AC:=oX [o7 1 0,oV 2 0,oV 3 0] [1] (oS (oX [oF 4 1 1,oL 5 4,oB 6 .eql 3 5 (oN 2)] [1,6] (oI 6 (oS (oQ [oF 7 3 1,oL 8 7,oF 9 4 1,oL 10 9,oM 2 8,oT 3 (.mv (oO 10))]) (oK [2,3] .ret)))) (oK [1] (oS (oQ [oF 11 5 1,oL 12 11,oF 13 3 1,oL 14 13,oM 2 12,oT 3 (.mv (oO 14))]) (oK [2,3] .ret))))
def m7 : AC:=oX [oB 12 .lss 3 11 (oO 10)] [0,3,9,10,11,12] (oS (.cond (oO 12) .skip (.exit 0)) (oK [0,3,9,10,11] (oS (.block 1 (oX [oA 13 (.iaddr 1 o0 (oO 9) (oO 11)),oL 14 13,oM 5 14] [0,3,5,9,10,11] (oX [oM 15 3,oM 16 5,o4 17 16,oB 18 .add 3 15 (oO 17),oM 3 18] [0,3,9,10,11] (oX [oM 19 3,oB 20 .lss 3 19 (oN 0)] [0,3,9,10,11,20] (oI 20 (oR [⟨some 21,none,.opq (.makeInterface 9 (.const (.string ⟨#[108,101,110,32,111,117,116,32,111,102,32,114,97,110,103,101]⟩))) 20,false⟩,⟨none,none,.opq (.panic (oO 21)) 0,false⟩])))))) (oK [0,3,9,10,11] (oR [oB 22 .add 3 11 (oN 1),oM 11 22])))))
def ll : AC:=oX [oB 28 .lss 3 27 (oO 26)] [6,25,26,27,28] (oS (.cond (oO 28) .skip (.exit 2)) (oK [6,25,26,27] (oS (.block 3 (oX [oA 29 (.iaddr 1 o0 (oO 25) (oO 27)),oL 30 29,oM 8 30] [6,8,25,26,27] (oR [oM 31 6,oM 32 8,oA 33 (.app 24 3 1 8 o1 (oO 31) (oO 32)),oM 6 33]))) (oK [6,25,26,27] (oR [oB 34 .add 3 27 (oN 1),oM 27 34])))))
def c181 : AC:=oX [oA 2 (.mv (.const (.slice none 0 0)))] [0] (oX [oV 3 0] [0,3] (oS (oX [oM 9 0,o4 10 9,oV 11 0] [0,3,9,10,11] (.block 0 (.loop m7))) (oK [0,3] (oX [oM 23 3,oC 24 201 [(.const (.slice none 0 0)),oO 23],oM 6 24] [0,6] (oS (oX [oM 25 0,o4 26 25,oV 27 0] [6,25,26,27] (.block 2 (.loop ll))) (oK [6] (.fz [6] (oX [oM 35 6,oM 2 35] [2] .ret))))))))
def ju : List RV:=[.tmp 2]
theorem is181 : FnIs Tryz.prog 181 36 c181 ju:=⟨⟨Tryz.f181,_,Tryz.func181,by kernel_rfl,rfl,rfl,by kernel_rfl,by kernel_rfl⟩,by decide⟩
def c184 : AC:=oS (oX [oM 6 1,oM 7 0,o6 8 7,oF 9 0 8,oF 10 3 9,oL 11 10,oB 12 .eql 3 6 (oO 11)] [0,1,2,12] (oI 12 .ret)) (oK [0,1,2] (oS (oQ [oM 13 0,o6 14 13,oF 15 14 14,oL 16 15,oM 17 0,o6 18 17,oF 19 14 18,oL 20 19,o4 21 20,oB 22 .sub 3 21 (oN 1),oM 23 2,oT 24 (.iaddr 3 o3 (oO 16) (oO 22)),oT 25 (.faddr 2 (oO 24)),⟨none,none,.store false 1 (oO 25) (oO 23),true⟩]) (oK [0,1,2] (oX [oM 26 0,oM 27 0,o6 28 27,oF 29 14 28,oL 30 29,oM 31 1,oM 32 2,oA 33 (.build o3 [(0,1,oO 31),(1,1,oO 32)]),oA 34 (.mkSl false 138 3 o3 1 [(0,oO 33)]),oA 35 (.app 65 138 3 24 o3 (oO 30) (oO 34)),o6 36 26,oF 37 14 36,oY true 1 (oO 37) (oO 35)] [0,1] (oR [oM 38 0,oM 39 1,o6 40 38,oF 41 0 40,oF 42 3 41,oW 1 42 39])))))
def rv184 : List RV:=[]
theorem is184 : FnIs Tryz.prog 184 43 c184 rv184:=⟨⟨Tryz.f184,_,Tryz.func184,by kernel_rfl,rfl,rfl,by kernel_rfl,by kernel_rfl⟩,by decide⟩
def qI : AC:=oX [oB 8 .lss 3 7 (oO 6)] [0,5,6,7,8] (oS (.cond (oO 8) .skip (.exit 0)) (oK [0,5,6,7] (oS (.block 1 (oX [oA 9 (.iaddr 1 o1 (oO 5) (oO 7)),oL 10 9,oM 4 10] [0,4,5,6,7] (oX [oM 11 0,oM 12 4,oA 13 (.call (oO 11) [oO 12]),oA 14 (.un .not (oO 13))] [0,5,6,7,14] (oI 14 .ret)))) (oK [0,5,6,7] (oR [oB 15 .add 3 7 (oN 1),oM 7 15])))))
def c200 : AC:=oX [oL 5 1,o4 6 5,oV 7 0] [0,5,6,7] (.block 0 (.loop qI))
def l7 : List RV:=[]
theorem is200 : FnIs Tryz.prog 200 16 c200 l7:=⟨⟨Tryz.f200,_,Tryz.func200,by kernel_rfl,rfl,rfl,by kernel_rfl,by kernel_rfl⟩,by decide⟩
def c262 : AC:=oX [oM 2 0,oC 3 149 [oO 2]] [0,3] (oI 3 (oR [oM 4 0,o6 5 4,oF 6 0 5,oF 7 5 6,oY false 1 (oO 7) (oN (-1))]))
def rv262 : List RV:=[]
theorem is262 : FnIs Tryz.prog 262 8 c262 rv262:=⟨⟨Tryz.f262,_,Tryz.func262,by kernel_rfl,rfl,rfl,by kernel_rfl,by kernel_rfl⟩,by decide⟩
def c269 : AC:=oX [o7 3 1,oV 4 0] [0] (oS (oX [oM 7 0,oC 8 120 [oO 7]] [0,8] (oI 8 (oX [oV 4 22] [4] .ret))) (oK [0] (oS (oQ [oM 9 0,o6 10 9,oF 11 0 10,oF 12 9 11,oL 13 12,oM 14 0,o6 15 14,oF 16 0 15,oF 17 3 16,oL 18 17,oT 19 (.iaddr 1 o0 (oO 13) (oO 18)),oT 20 (.load false 1 (oO 19)),oT 5 (.mv (oO 20))]) (oK [0,5] (oS (oX [oM 21 5,o4 22 21,oB 23 .eql 3 22 (oN 0)] [0,5,23] (oI 23 (oX [oV 4 12] [4] .ret))) (oK [0,5] (oS (oX [oM 24 5,oA 25 (.iaddr 1 o1 (oO 24) (oN 0)),oL 26 25,oM 6 26] [0,6] (.block 0 (oX [oM 28 6,oM 29 0,o6 30 29,oF 31 0 30,oF 32 8 31,oL 33 32,oB 34 .gtr 3 28 (oO 33),oM 27 34] [0,6,27] (.cond (oO 27) (oX [oV 4 14] [4] .ret) (oX [oM 36 6,oM 37 0,o6 38 37,oF 39 0 38,oF 40 8 39,oL 41 40,oB 42 .eql 3 36 (oO 41),oM 35 42] [0,6,35] (oI 35 (oX [oM 43 0,oM 44 0,o6 45 44,oF 46 13 45,oL 47 46,oM 48 6,oA 49 (.mkSl false 3 1 o1 1 [(0,oO 48)]),oA 50 (.app 24 3 1 8 o1 (oO 47) (oO 49)),o6 51 43,oF 52 13 51,oY true 1 (oO 52) (oO 50)] [0] (oR [oM 53 0,o6 54 53,oF 55 0 54,oF 56 8 55,oL 57 56,oB 58 .add 3 57 (oN 1),o6 59 53,oF 60 0 59,oF 61 8 60,oW 1 61 58])))))))) (oK [] (oX [oV 4 0] [4] .ret)))))))))
def l8 : List RV:=[.tmp 4]
theorem nF : FnIs Tryz.prog 269 62 c269 l8:=⟨⟨Tryz.f269,_,Tryz.func269,by kernel_rfl,rfl,rfl,by kernel_rfl,by kernel_rfl⟩,by decide⟩
def c270 : AC:=oX [o7 2 0,o7 3 1,oV 4 0] [2] (oS (oX [oL 6 2,oC 7 120 [oO 6]] [2,7] (oI 7 (oX [oV 4 22] [4] .ret))) (oK [2] (oS (oQ [oL 8 2,o6 9 8,oF 10 0 9,oF 11 9 10,oL 12 11,oL 13 2,o6 14 13,oF 15 0 14,oF 16 3 15,oL 17 16,oT 18 (.iaddr 1 o0 (oO 12) (oO 17)),oT 5 (.mv (oO 18))]) (oK [2,5] (oX [oM 19 5,oM 20 5,o6 21 20,oL 22 21,oA 23 (.mkFn (.func 280) [] [oO 2]),oC 24 182 [oO 22,oO 23],o6 25 19,oW 1 25 24] [] (oX [oV 4 0] [4] .ret))))))
def qu : List RV:=[.tmp 4]
theorem is270 : FnIs Tryz.prog 270 26 c270 qu:=⟨⟨Tryz.f270,_,Tryz.func270,by kernel_rfl,rfl,rfl,by kernel_rfl,by kernel_rfl⟩,by decide⟩
def c276 : AC:=oX [o7 3 1,oV 4 0] [0] (oS (oQ [oM 6 0,o6 7 6,oF 8 0 7,oF 9 5 8,oL 10 9,oB 11 .neq 3 10 (oN (-1)),oC 12 95 [oO 11,oN 12],oM 13 0,o6 14 13,oF 15 0 14,oF 16 1 15,oL 17 16,oB 18 .neq 3 17 (oN 3),oC 19 95 [oO 18,oN 22],oM 20 0,o6 21 20,oF 22 0 21,oF 23 6 22,oL 24 23,oM 25 0,o6 26 25,oF 27 0 26,oF 28 3 27,oL 29 28,oB 30 .neq 3 24 (oO 29),oT 31 (.call (.func 95) [oO 30,oN 26]),oT 32 (.mkSl false 27 1 o1 3 [(0,oO 12),(1,oO 19),(2,oO 31)]),oT 33 (.call (.func 91) [oO 32]),oT 5 (.mv (oO 33))]) (oK [0,5] (oS (oX [oM 34 5,oB 35 .eql 27 34 (oN 0)] [0,5,35] (oI 35 (oX [oM 36 0,oM 37 0,o6 38 37,oF 39 0 38,oF 40 3 39,oL 41 40,o6 42 36,oF 43 0 42,oF 44 6 43,oW 1 44 41] [0,5] (oR [oM 45 0,oC 46 262 [oO 45]])))) (oK [5] (oX [oM 47 5,oM 4 47] [4] .ret)))))
def n5 : List RV:=[.tmp 4]
theorem p5 : FnIs Tryz.prog 276 48 c276 n5:=⟨⟨Tryz.f276,_,Tryz.func276,by kernel_rfl,rfl,rfl,by kernel_rfl,by kernel_rfl⟩,by decide⟩
def c277 : AC:=oX [o7 3 1,oV 4 0] [0,3] (oS (oX [oM 5 0,o6 6 5,oF 7 0 6,oF 8 1 7,oL 9 8] [0,3,9] (.block 0 (oX [oB 17 .eql 3 9 (oN 3),oM 16 17] [0,3,9,16] (.cond (oO 16) (oX [oV 4 22] [4] .ret) (oX [oB 19 .eql 3 9 (oN 2),oM 18 19] [0,3,18] (.cond (oO 18) .skip (oR [oM 10 0,oF 11 1 3,oL 12 11,o6 13 10,oF 14 0 13,oF 15 2 14,oW 1 15 12]))))))) (oK [0,3] (oX [oM 20 0,o6 21 20,oF 22 0 21,oF 23 1 22,oY false 1 (oO 23) (oN 3)] [0,3] (oX [oM 24 0,oF 25 1 3,oL 26 25,oC 27 281 [oO 24,oO 26]] [] (oX [oV 4 0] [4] .ret)))))
def qv : List RV:=[.tmp 4]
theorem is277 : FnIs Tryz.prog 277 28 c277 qv:=⟨⟨Tryz.f277,_,Tryz.func277,by kernel_rfl,rfl,rfl,by kernel_rfl,by kernel_rfl⟩,by decide⟩
def c278 : AC:=oX [o7 3 1,oV 4 0] [0,3] (oS (oQ [oM 7 0,o6 8 7,oF 9 0 8,oF 10 3 9,oL 11 10,oM 12 0,o6 13 12,oF 14 0 13,oF 15 4 14,oL 16 15,oM 17 0,o6 18 17,oF 19 0 18,oF 20 5 19,oL 21 20,oA 22 (.mkSl false 3 1 o1 3 [(0,oO 11),(1,oO 16),(2,oO 21)]),oF 23 2 3,oL 24 23,oT 25 (.call (.func 284) [oO 22,oO 24]),oT 5 (.mv (oO 25))]) (oK [0,3,5] (oX [oM 26 0,o6 27 26,oF 28 0 27,oF 29 1 28,oL 30 29,oB 31 .eql 3 30 (oN 3),oC 32 95 [oO 31,oN 22],oM 33 5,oC 34 95 [oO 33,oN 6],oA 35 (.mkSl false 27 1 o1 2 [(0,oO 32),(1,oO 34)]),oC 36 91 [oO 35],oM 6 36] [0,3,6] (oS (oX [oM 37 6,oB 38 .eql 27 37 (oN 0)] [0,3,6,38] (oI 38 (oR [oM 39 0,oF 40 2 3,oL 41 40,oF 42 1 3,oL 43 42,oC 44 166 [oO 39,oO 41,oO 43]]))) (oK [6] (oX [oM 45 6,oM 4 45] [4] .ret))))))
def rv278 : List RV:=[.tmp 4]
theorem is278 : FnIs Tryz.prog 278 46 c278 rv278:=⟨⟨Tryz.f278,_,Tryz.func278,by kernel_rfl,rfl,rfl,by kernel_rfl,by kernel_rfl⟩,by decide⟩
def c279 : AC:=oX [o7 3 1,oV 4 0] [] (oX [oV 4 0] [4] .ret)
def rv279 : List RV:=[.tmp 4]
theorem is279 : FnIs Tryz.prog 279 5 c279 rv279:=⟨⟨Tryz.f279,_,Tryz.func279,by kernel_rfl,rfl,rfl,by kernel_rfl,by kernel_rfl⟩,by decide⟩
def c281 : AC:=oX [oM 4 0,o6 5 4,oF 6 15 5,oL 7 6,oB 8 .eql 3 7 (oN (-1))] [0,1,8] (oI 8 (oR [oM 9 0,oM 10 1,o6 11 9,oF 12 15 11,oW 1 12 10]))
def rv281 : List RV:=[]
theorem is281 : FnIs Tryz.prog 281 13 c281 rv281:=⟨⟨Tryz.f281,_,Tryz.func281,by kernel_rfl,rfl,rfl,by kernel_rfl,by kernel_rfl⟩,by decide⟩
def c284 : AC:=oX [o9 4 false] [0,1] (oX [oM 5 0,oM 6 1,oC 7 288 [oO 5,oO 6],oB 8 .geq 3 7 (oN 0),oM 4 8] [4] .ret)
def rv284 : List RV:=[.tmp 4]
theorem is284 : FnIs Tryz.prog 284 9 c284 rv284:=⟨⟨Tryz.f284,_,Tryz.func284,by kernel_rfl,rfl,rfl,by kernel_rfl,by kernel_rfl⟩,by decide⟩
def m8 : AC:=oX [oB 9 .lss 3 8 (oO 7)] [0,1,7,8,9] (oS (.cond (oO 9) .skip (.exit 0)) (oK [0,1,7,8] (oS (.block 1 (oX [oM 10 8,oM 5 10] [0,1,5,7,8] (oX [oM 11 1,oM 12 0,oM 13 5,oA 14 (.iaddr 1 o1 (oO 12) (oO 13)),oL 15 14,oB 16 .eql 3 11 (oO 15)] [0,1,5,7,8,16] (oI 16 (oX [oM 17 5,oM 4 17] [4] .ret))))) (oK [0,1,7,8] (oR [oB 18 .add 3 8 (oN 1),oM 8 18])))))
def c288 : AC:=oX [oV 4 0] [0,1] (oS (oX [oM 6 0,o4 7 6,oV 8 0] [0,1,7,8] (.block 0 (.loop m8))) (oK [] (oX [oV 4 (-1)] [4] .ret)))
def n6 : List RV:=[.tmp 4]
theorem is288 : FnIs Tryz.prog 288 19 c288 n6:=⟨⟨Tryz.f288,_,Tryz.func288,by kernel_rfl,rfl,rfl,by kernel_rfl,by kernel_rfl⟩,by decide⟩
end Go.Proofs.YtcbabnbiinkafaaGreatDoor
end
section
open Go Go.Am
open Go.Am.Dat (cells)
namespace Go.Proofs.YtcbabnbiinkafaaGreatDoor.D2
def c37 : AC:=oX [o7 1 0,oA 2 (.alloc [.slice none 0 0,.slice none 0 0,.int .i64 0])] [1,2] (oS (.draw 999 [1,2,6,9,10,102,106,109,110,206,209,210,306,309,310,405,406,409,410,506,509,510,609,610,708,709,710,809,810,910] [oF 3 0 1,oL 4 3,oC 5 98 [oO 4],oA 6 (.mkSl true 40 2 o2 0 []),oF 7 1 1,oL 8 7,oA 9 (.app 45 40 2 16 o2 (oO 6) (oO 8)),oF 10 2 1,oL 11 10,oT 12 (.build [.slice none 0 0,.slice none 0 0,.int .i64 0] [(0,1,oO 5),(1,1,oO 9),(2,1,oO 11)]),⟨none,none,.store false 3 (oO 2) (oO 12),true⟩]) (oK [2] .ret))
def rv37 : List RV:=[.cell 2 true 3]
theorem is37 : FnIs Tryz.prog 37 13 c37 rv37:=⟨⟨Tryz.f37,_,Tryz.func37,by kernel_rfl,rfl,rfl,by kernel_rfl,by kernel_rfl⟩,by decide⟩
end Go.Proofs.YtcbabnbiinkafaaGreatDoor.D2
end
section
open Go Go.Am
open Go.Am.Dat (cells)
namespace Go.Proofs.YtcbabnbiinkafaaGreatDoor.D3
def c107k1 : AC:=oX [oM 22 5,oM 4 22] [4] .ret
def c107 : AC:=oX [o7 2 0,oA 4 (.mv (.const (.pointer none)))] [1,2] (oX [o5 6 3 2,oM 7 1,oA 8 (.build o3 [(0,1,oO 7)]),oA 9 (.mkSl true 138 3 o3 1 [(0,oO 8)]),oA 10 (.build [.int .i64 0,.int .i64 0,.int .i64 0,.int .i64 0,.int .i64 0,.int .i64 0,.int .i64 0,.int .i64 0,.int .i64 0,.slice none 0 0,.slice none 0 0,.slice none 0 0,.int .i64 0,.slice none 0 0,.slice none 0 0,.int .i64 0,.int .i64 0] [(10,3,oO 6),(15,1,oN (-1)),(14,1,oO 9)]),o7 11 10,oM 5 11] [1,2,5] (oX [oM 12 5,oM 13 1,oM 14 1,oF 15 0 2,oL 16 15,o4 17 16,oA 18 (.makeSl 24 1 24 o0 (oO 17) (oO 17)),oA 19 (.build oZ [(3,1,oO 13),(6,1,oO 14),(4,1,oN (-1)),(5,1,oN (-1)),(9,1,oO 18)]),o6 20 12,oF 21 0 20,oW 10 21 19] [5] (.cut c107k1)))
def rv107 : List RV:=[.tmp 4]
theorem is107 : FnIs Tryz.prog 107 23 c107 rv107:=⟨⟨Tryz.f107,_,Tryz.func107,by kernel_rfl,rfl,rfl,by kernel_rfl,by kernel_rfl⟩,by decide⟩
def c137r1 : AC:=.block 1 (oR [oL 8 2,oM 9 5,oA 10 (.mkSl false 3 1 o1 1 [(0,oO 9)]),oA 11 (.app 24 3 1 8 o1 (oO 8) (oO 10)),oY true 1 (oO 2) (oO 11)])
def c137k2 : AC:=.ret
def c137 : AC:=oX [o7 2 0,oA 4 (.mv (.const (.slice none 0 0)))] [1,2] (oS (oX [oM 6 1] [2,6] (.block 0 (.rangeFunc (oO 6) [7] (oR [oM 5 7]) c137r1))) (oK [2] (oX [oL 12 2,oM 4 12] [4] (.cut c137k2))))
def rv137 : List RV:=[.tmp 4]
theorem is137 : FnIs Tryz.prog 137 13 c137 rv137:=⟨⟨Tryz.f137,_,Tryz.func137,by kernel_rfl,rfl,rfl,by kernel_rfl,by kernel_rfl⟩,by decide⟩
def c180k1 : AC:=oX [oA 3 (.mkFn (.func 200) [] [oO 1]),oM 2 3] [2] .ret
def c180 : AC:=oX [o7 1 0,oA 2 (.mv (.const (.nilFunc)))] [1] (.cut c180k1)
def rv180 : List RV:=[.tmp 2]
theorem is180 : FnIs Tryz.prog 180 4 c180 rv180:=⟨⟨Tryz.f180,_,Tryz.func180,by kernel_rfl,rfl,rfl,by kernel_rfl,by kernel_rfl⟩,by decide⟩
def c166 : AC:=oX [o7 3 0] [1,2,3] (oX [oL 7 3,o6 8 7,oF 9 0 8,oF 10 9 9,oL 11 10,oC 12 181 [oO 11],oC 13 180 [oO 12],oC 14 179 [oO 13],oM 6 14] [1,2,3,6] (oX [oM 15 6,oA 16 (.mkFn (.func 183) [] [oO 3]),oC 17 182 [oO 15,oO 16],oM 6 17] [1,2,3,6] (oS (.draw 7 [0] [oL 18 3,oL 19 3,o6 20 19,oF 21 10 20,oF 22 0 21,oL 23 22,o4 24 23,oT 25 (.makeSl 24 1 24 o0 (oO 24) (oO 24)),oT 26 (.nilc (oO 18)),oT 27 (.faddr 0 (oO 26)),oT 28 (.faddr 9 (oO 27)),⟨none,none,.store false 1 (oO 28) (oO 25),true⟩]) (oK [1,2,3,6] (oX [oL 29 3,o6 30 29,oF 31 0 30,oF 32 9 31,oL 33 32,oM 34 1,oM 35 6,oA 36 (.iaddr 1 o0 (oO 33) (oO 34)),oW 1 36 35] [1,2,3] (oX [oL 37 3,oM 38 1,oM 39 2,oC 40 184 [oO 37,oO 38,oO 39]] [1,2,3] (oX [oL 41 3,oM 42 2,oC 43 139 [oO 41,oO 42]] [1,2,3] (.draw 999 [7,8,9,10,11,12,13,14,15,16,17,18,19,20,21,22,23,24,25,26,111,112,113,114,115,116,117,118,119,120,121,122,123,124,125,126,215,216,217,218,219,220,221,222,223,224,225,226,319,320,321,322,323,324,325,326,423,424,425,426,511,512,513,514,515,516,517,518,519,520,521,522,523,524,525,526,615,616,617,618,619,620,621,622,623,624,625,626,708,709,710,711,712,713,714,715,716,717,718,719,720,721,722,723,724,725,726,809,810,811,812,813,814,815,816,817,818,819,820,821,822,823,824,825,826,910,911,912,913,914,915,916,917,918,919,920,921,922,923,924,925,926,1011,1012,1013,1014,1015,1016,1017,1018,1019,1020,1021,1022,1023,1024,1025,1026,1112,1113,1114,1115,1116,1117,1118,1119,1120,1121,1122,1123,1124,1125,1126,1213,1214,1215,1216,1217,1218,1219,1220,1221,1222,1223,1224,1225,1226,1314,1315,1316,1317,1318,1319,1320,1321,1322,1323,1324,1325,1326,1415,1416,1417,1418,1419,1420,1421,1422,1423,1424,1425,1426,1516,1517,1518,1519,1520,1521,1522,1523,1524,1525,1526,1617,1618,1619,1620,1621,1622,1623,1624,1625,1626,1718,1719,1720,1721,1722,1723,1724,1725,1726,1819,1820,1821,1822,1823,1824,1825,1826,1920,1921,1922,1923,1924,1925,1926,2021,2022,2023,2024,2025,2026,2122,2123,2124,2125,2126,2223,2224,2225,2226,2324,2325,2326,2425,2426,2526] [oL 44 3,oL 45 3,oL 46 3,oL 47 3,oL 48 3,oA 49 (.mvs (oO 2)),oA 50 (.mvs (oO 1)),o6 51 44,oF 52 0 51,oF 53 1 52,oY false 1 (oO 53) (oN 0),o6 54 45,oF 55 0 54,oF 56 2 55,oW 1 56 49,o6 57 46,oF 58 0 57,oF 59 6 58,oW 1 59 50,o6 60 47,oF 61 0 60,oF 62 4 61,oY false 1 (oO 62) (oN (-1)),oT 63 (.nilc (oO 48)),oT 64 (.faddr 0 (oO 63)),oT 65 (.faddr 5 (oO 64)),⟨none,none,.store false 1 (oO 65) (oN (-1)),true⟩]))))))))
def rv166 : List RV:=[]
theorem is166 : FnIs Tryz.prog 166 66 c166 rv166:=⟨⟨Tryz.f166,_,Tryz.func166,by kernel_rfl,rfl,rfl,by kernel_rfl,by kernel_rfl⟩,by decide⟩
def c268 : AC:=oX [o7 3 1,oV 4 0] [0] (oS (oX [oM 5 0,oC 6 165 [oO 5],oB 7 .geq 3 6 (oN 60),oM 8 7,oD 9 8 false 0,oG 10 8 false (.nilc (oO 9)),oE 11 8 false 0 10,oE 12 8 false 7 11,oJ 13 8 false 12,oG 14 8 false (.bin .geq 3 (oO 13) (oN 1000000)),oH 15 8 14] [0,15] (oI 15 (oX [oV 4 16] [4] .ret))) (oK [0] (oS (.draw 28 [0,1,2,3,4,5,6,7,8,9] [oM 16 0,o6 17 16,oF 18 0 17,oF 19 9 18,oL 20 19,oM 21 0,o6 22 21,oF 23 0 22,oF 24 6 23,oL 25 24,oM 26 0,o6 27 26,oF 28 0 27,oF 29 9 28,oL 30 29,oM 31 0,o6 32 31,oF 33 0 32,oF 34 6 33,oL 35 34,oA 36 (.iaddr 1 o0 (oO 30) (oO 35)),oL 37 36,oM 38 0,o6 39 38,oF 40 0 39,oF 41 7 40,oL 42 41,oA 43 (.mkSl false 3 1 o1 1 [(0,oO 42)]),oT 44 (.app 24 3 1 8 o1 (oO 37) (oO 43)),oT 45 (.iaddr 1 o0 (oO 20) (oO 25)),⟨none,none,.store true 1 (oO 45) (oO 44),true⟩]) (oK [0] (oX [oM 46 0,o6 47 46,oF 48 0 47,oF 49 7 48,oL 50 49,oB 51 .add 3 50 (oN 1),o6 52 46,oF 53 0 52,oF 54 7 53,oW 1 54 51] [] (oX [oV 4 0] [4] .ret))))))
def rv268 : List RV:=[.tmp 4]
theorem is268 : FnIs Tryz.prog 268 55 c268 rv268:=⟨⟨Tryz.f268,_,Tryz.func268,by kernel_rfl,rfl,rfl,by kernel_rfl,by kernel_rfl⟩,by decide⟩
def c271 : AC:=oX [o7 3 1,oV 4 0] [0,3] (oS (oQ [oM 6 0,o6 7 6,oF 8 0 7,oF 9 1 8,oL 10 9,oB 11 .eql 3 10 (oN 0),oC 12 95 [oO 11,oN 22],oM 13 0,o6 14 13,oF 15 0 14,oF 16 5 15,oL 17 16,oB 18 .eql 3 17 (oN (-1)),oC 19 95 [oO 18,oN 17],oM 20 0,oF 21 2 3,oL 22 21,oT 23 (.call (.func 148) [oO 20,oO 22]),oT 24 (.call (.func 95) [oO 23,oN 6]),oT 25 (.mkSl false 27 1 o1 3 [(0,oO 12),(1,oO 19),(2,oO 24)]),oT 26 (.call (.func 91) [oO 25]),oT 5 (.mv (oO 26))]) (oK [0,3,5] (oS (oX [oM 27 5,oB 28 .eql 27 27 (oN 0)] [0,3,5,28] (oI 28 (.draw 999 [7,8,9,10,11,12,13,14,15,16,17,18,111,112,113,114,115,116,117,118,215,216,217,218,304,307,308,309,310,311,312,313,314,315,316,317,318,407,408,409,410,411,412,413,414,415,416,417,418,506,515,516,517,518,615,616,617,618,708,709,710,711,712,713,714,715,716,717,718,809,810,811,812,813,814,815,816,817,818,910,911,912,913,914,915,916,917,918,1011,1012,1013,1014,1015,1016,1017,1018,1112,1113,1114,1115,1116,1117,1118,1213,1214,1215,1216,1217,1218,1314,1315,1316,1317,1318,1415,1416,1417,1418,1516,1517,1518,1617,1618,1718] [oM 29 0,oM 30 0,oM 31 0,oF 32 2 3,oL 33 32,oF 34 1 3,oL 35 34,o6 36 29,oF 37 0 36,oF 38 4 37,oW 1 38 33,o6 39 30,oF 40 0 39,oF 41 1 40,oY false 1 (oO 41) (oN 1),oT 42 (.nilc (oO 31)),oT 43 (.faddr 0 (oO 42)),oT 44 (.faddr 2 (oO 43)),⟨none,none,.store false 1 (oO 44) (oO 35),true⟩]))) (oK [5] (oX [oM 45 5,oM 4 45] [4] .ret)))))
def rv271 : List RV:=[.tmp 4]
theorem is271 : FnIs Tryz.prog 271 46 c271 rv271:=⟨⟨Tryz.f271,_,Tryz.func271,by kernel_rfl,rfl,rfl,by kernel_rfl,by kernel_rfl⟩,by decide⟩
def c272 : AC:=oX [o7 3 1,oV 4 0] [0,3] (oS (oX [oM 5 0,o6 6 5,oF 7 0 6,oF 8 1 7,oL 9 8,oB 10 .neq 3 9 (oN 1)] [0,3,10] (oI 10 (oX [oV 4 22] [4] .ret))) (oK [0,3] (oS (.draw 999 [5,6,7,8,9,10,11,12,13,14,15,16,109,110,111,112,113,114,115,116,213,214,215,216,304,313,314,315,316,413,414,415,416,506,507,508,509,510,511,512,513,514,515,516,607,608,609,610,611,612,613,614,615,616,708,709,710,711,712,713,714,715,716,809,810,811,812,813,814,815,816,910,911,912,913,914,915,916,1011,1012,1013,1014,1015,1016,1112,1113,1114,1115,1116,1213,1214,1215,1216,1314,1315,1316,1415,1416,1516] [oM 11 0,oM 12 0,oM 13 0,oF 14 1 3,oL 15 14,o6 16 11,oF 17 0 16,oF 18 4 17,oY false 1 (oO 18) (oN (-1)),o6 19 12,oF 20 0 19,oF 21 1 20,oY false 1 (oO 21) (oN 0),oT 22 (.nilc (oO 13)),oT 23 (.faddr 0 (oO 22)),oT 24 (.faddr 2 (oO 23)),⟨none,none,.store false 1 (oO 24) (oO 15),true⟩]) (oK [] (oX [oV 4 0] [4] .ret)))))
def rv272 : List RV:=[.tmp 4]
theorem is272 : FnIs Tryz.prog 272 25 c272 rv272:=⟨⟨Tryz.f272,_,Tryz.func272,by kernel_rfl,rfl,rfl,by kernel_rfl,by kernel_rfl⟩,by decide⟩
def c273 : AC:=oX [o7 3 1,oV 4 0] [0,3] (oS (oX [oM 5 0,o6 6 5,oF 7 0 6,oF 8 1 7,oL 9 8,oB 10 .neq 3 9 (oN 1)] [0,3,10] (oI 10 (oX [oV 4 22] [4] .ret))) (oK [0,3] (oS (.draw 999 [4,5,6,7,8,9,10,11,108,109,110,111,203,208,209,210,211,308,309,310,311,405,406,407,408,409,410,411,506,507,508,509,510,511,607,608,609,610,611,708,709,710,711,809,810,811,910,911,1011] [oM 11 0,oM 12 0,oF 13 1 3,oL 14 13,o6 15 11,oF 16 0 15,oF 17 1 16,oY false 1 (oO 17) (oN 2),oT 18 (.nilc (oO 12)),oT 19 (.faddr 0 (oO 18)),oT 20 (.faddr 2 (oO 19)),⟨none,none,.store false 1 (oO 20) (oO 14),true⟩]) (oK [0,3] (oX [oM 21 0,oF 22 1 3,oL 23 22,oC 24 281 [oO 21,oO 23]] [] (oX [oV 4 0] [4] .ret))))))
def rv273 : List RV:=[.tmp 4]
theorem is273 : FnIs Tryz.prog 273 25 c273 rv273:=⟨⟨Tryz.f273,_,Tryz.func273,by kernel_rfl,rfl,rfl,by kernel_rfl,by kernel_rfl⟩,by decide⟩
def c274 : AC:=oX [o7 3 1,oV 4 0] [0,3] (oS (oX [oM 5 0,o6 6 5,oF 7 0 6,oF 8 1 7,oL 9 8,oB 10 .neq 3 9 (oN 2)] [0,3,10] (oI 10 (oX [oV 4 22] [4] .ret))) (oK [0,3] (oX [oM 11 0,oM 12 0,o6 13 12,oF 14 0 13,oF 15 3 14,oL 16 15,o6 17 11,oF 18 0 17,oF 19 5 18,oW 1 19 16] [0,3] (oS (oQ [oM 20 0,oM 21 0,o6 22 21,oF 23 0 22,oF 24 4 23,oL 25 24,oF 26 1 3,oL 27 26,oT 28 (.call (.func 184) [oO 20,oO 25,oO 27])]) (oK [0,3] (oX [oM 29 0,oF 30 1 3,oL 31 30,oC 32 139 [oO 29,oO 31]] [0,3] (oS (.draw 999 [5,6,7,8,9,10,11,12,13,14,15,16,109,110,111,112,113,114,115,116,213,214,215,216,304,313,314,315,316,413,414,415,416,506,507,508,509,510,511,512,513,514,515,516,607,608,609,610,611,612,613,614,615,616,708,709,710,711,712,713,714,715,716,809,810,811,812,813,814,815,816,910,911,912,913,914,915,916,1011,1012,1013,1014,1015,1016,1112,1113,1114,1115,1116,1213,1214,1215,1216,1314,1315,1316,1415,1416,1516] [oM 33 0,oM 34 0,oM 35 0,oF 36 1 3,oL 37 36,o6 38 33,oF 39 0 38,oF 40 4 39,oY false 1 (oO 40) (oN (-1)),o6 41 34,oF 42 0 41,oF 43 1 42,oY false 1 (oO 43) (oN 0),oT 44 (.nilc (oO 35)),oT 45 (.faddr 0 (oO 44)),oT 46 (.faddr 2 (oO 45)),⟨none,none,.store false 1 (oO 46) (oO 37),true⟩]) (oK [] (oX [oV 4 0] [4] .ret)))))))))
def rv274 : List RV:=[.tmp 4]
theorem is274 : FnIs Tryz.prog 274 47 c274 rv274:=⟨⟨Tryz.f274,_,Tryz.func274,by kernel_rfl,rfl,rfl,by kernel_rfl,by kernel_rfl⟩,by decide⟩
def c275 : AC:=oX [o7 3 1,oV 4 0] [0] (oS (oQ [oM 10 0,o6 11 10,oF 12 0 11,oF 13 3 12,oL 14 13,oM 15 0,o6 16 15,oF 17 0 16,oF 18 4 17,oL 19 18,oM 5 14,oT 6 (.mv (oO 19))]) (oK [0,5,6] (oS (oX [oM 20 0,o6 21 20,oF 22 0 21,oF 23 1 22,oL 24 23,oB 25 .neq 3 24 (oN 2)] [0,5,6,25] (oI 25 (oS (oX [oM 26 0,o6 27 26,oF 28 0 27,oF 29 1 28,oL 30 29,oB 31 .neq 3 30 (oN 0),oM 32 31,oD 33 32 false 0,oG 34 32 false (.nilc (oO 33)),oE 35 32 false 0 34,oE 36 32 false 5 35,oJ 37 32 false 36,oG 38 32 false (.bin .eql 3 (oO 37) (oN (-1))),oH 39 32 38] [0,39] (oI 39 (oX [oV 4 22] [4] .ret))) (oK [0] (oQ [oM 40 0,o6 41 40,oF 42 0 41,oF 43 5 42,oL 44 43,oM 45 0,o6 46 45,oF 47 0 46,oF 48 3 47,oL 49 48,oM 5 44,oT 6 (.mv (oO 49))]))))) (oK [0,5,6] (oS (oX [oM 50 0,o6 51 50,oF 52 0 51,oF 53 9 52,oL 54 53,oM 55 5,oA 56 (.iaddr 1 o0 (oO 54) (oO 55)),oL 57 56,o4 58 57,oB 59 .eql 3 58 (oN 0)] [0,5,6,59] (oI 59 (oX [oV 4 12] [4] .ret))) (oK [0,5,6] (oX [oM 60 0,o6 61 60,oF 62 0 61,oF 63 9 62,oL 64 63,oM 65 5,oA 66 (.iaddr 1 o0 (oO 64) (oO 65)),oL 67 66,oA 68 (.iaddr 1 o1 (oO 67) (oN 0)),oL 69 68,oM 7 69] [0,5,6,7] (oS (.draw 14 [0,1,2,3,4,5] [oM 70 0,o6 71 70,oF 72 0 71,oF 73 9 72,oL 74 73,oA 75 (.mvs (oO 5)),oM 76 0,o6 77 76,oF 78 0 77,oF 79 9 78,oL 80 79,oM 81 5,oA 82 (.iaddr 1 o0 (oO 80) (oO 81)),oL 83 82,oT 84 (.ssl 1 (oO 83) (some (oN 1)) none none),oT 85 (.iaddr 1 o0 (oO 74) (oO 75)),⟨none,none,.store false 1 (oO 85) (oO 84),true⟩]) (oK [0,6,7] (oX [oM 87 0,o6 88 87,oF 89 0 88,oF 90 9 89,oL 91 90,oM 92 6,oA 93 (.iaddr 1 o0 (oO 91) (oO 92)),oL 94 93,oM 95 7,oC 96 282 [oO 94,oO 95],oM 86 96,o8 97 86 0,o8 98 86 1,oM 8 97,oM 9 98] [0,6,7,8] (oS (.draw 999 [1,2,3,4,18,19,102,103,104,118,119,203,204,218,219,304,318,319,418,419,518,519,607,608,609,610,612,613,617,618,619,708,709,710,712,713,717,718,719,809,810,812,813,817,818,819,910,912,913,917,918,919,1012,1013,1017,1018,1019,1112,1113,1117,1118,1119,1213,1217,1218,1219,1317,1318,1319,1417,1418,1419,1516,1517,1518,1519,1617,1618,1619,1718,1719,1819] [oM 99 0,o6 100 99,oF 101 0 100,oF 102 9 101,oL 103 102,oA 104 (.mvs (oO 6)),oM 105 0,o6 106 105,oF 107 0 106,oF 108 9 107,oL 109 108,oA 110 (.mvs (oO 6)),oA 111 (.iaddr 1 o0 (oO 109) (oO 110)),oL 112 111,oA 113 (.mvs (oO 8)),oM 114 7,oA 115 (.mkSl true 3 1 o1 1 [(0,oO 114)]),oC 116 283 [oO 112,oO 113,oO 115],oT 117 (.iaddr 1 o0 (oO 103) (oO 104)),⟨none,none,.store false 1 (oO 117) (oO 116),true⟩]) (oK [0] (oX [oM 118 0,oC 119 262 [oO 118]] [] (oX [oV 4 0] [4] .ret))))))))))))))
def rv275 : List RV:=[.tmp 4]
theorem is275 : FnIs Tryz.prog 275 120 c275 rv275:=⟨⟨Tryz.f275,_,Tryz.func275,by kernel_rfl,rfl,rfl,by kernel_rfl,by kernel_rfl⟩,by decide⟩
end Go.Proofs.YtcbabnbiinkafaaGreatDoor.D3
end
section
open Go Go.Am
open Go.Am.Dat (cells)
namespace Go.Proofs.YtcbabnbiinkafaaGreatDoor.D4
def c118k1 : AC:=oS (oS (oQ [oF 31 0 3,oL 32 31,oA 33 (.iarr 12 3 (.global 0) (oO 32)),oF 34 2 33,oL 35 34,oM 36 0,o5 37 3 3,oT 38 (.call (oO 35) [oO 36,oO 37]),oT 6 (.mv (oO 38))]) (oK [0,3,6] (oX [oM 39 6,oB 40 .neq 27 39 (oN 0)] [0,3,6,40] (oI 40 (oX [oM 41 6,oM 4 41] [4] .ret))))) (oK [0,3] (oX [oM 42 0,oF 43 1 3,oL 44 43,o6 45 42,oF 46 0 45,oF 47 0 46,oW 1 47 44] [] (oX [oV 4 0] [4] .ret)))
def c118 : AC:=oX [o7 3 1,oV 4 0] [0,3] (oS (oS (oQ [oM 7 0,o6 8 7,oF 9 10 8,o5 10 3 9,o5 11 3 3,oC 12 114 [oO 10,oO 11],oF 13 1 3,oL 14 13,oM 15 0,o6 16 15,oF 17 0 16,oF 18 0 17,oL 19 18,oB 20 .geq 3 14 (oO 19),oT 21 (.call (.func 95) [oO 20,oN 9]),oT 22 (.mkSl false 27 1 o1 2 [(0,oO 12),(1,oO 21)]),oT 23 (.call (.func 91) [oO 22]),oT 5 (.mv (oO 23))]) (oK [0,3,5] (oX [oM 24 5,oB 25 .neq 27 24 (oN 0)] [0,3,5,25] (oI 25 (oX [oM 26 5,oM 4 26] [4] .ret))))) (oK [0,3] (oX [oM 27 0,oF 28 1 3,oL 29 28,oC 30 151 [oO 27,oO 29]] [0,3] (.cut c118k1))))
def rv118 : List RV:=[.tmp 4]
theorem is118 : FnIs Tryz.prog 118 48 c118 rv118:=⟨⟨Tryz.f118,_,Tryz.func118,by kernel_rfl,rfl,rfl,by kernel_rfl,by kernel_rfl⟩,by decide⟩
end Go.Proofs.YtcbabnbiinkafaaGreatDoor.D4
end
section
open Go Go.Am
open Go.Am.Dat (cells)
namespace Go.Proofs.YtcbabnbiinkafaaGreatDoor.D5
def c39k1 : AC:=.ret
def c39k2 : AC:=.ret
def c39 : AC:=oX [o7 3 0,oA 6 (.mv (.const (.slice none 0 0))),oV 7 0] [1,2,3] (oX [o5 12 3 3,oM 13 1,oM 14 2,oC 15 97 [oO 12,oO 13,oO 14],oM 11 15,o8 16 11 0,o8 17 11 1,o8 18 11 2,oM 8 16,oM 9 17,oM 10 18] [8,10] (oS (oX [oM 19 10,oB 20 .neq 27 19 (oN 0)] [8,10,20] (oI 20 (oX [oM 21 10,oA 6 (.mv (.const (.slice none 0 0))),oM 7 21] [6,7] (.cut c39k1)))) (oK [8] (oX [oM 22 8,o6 23 22,oF 24 13 23,oL 25 24,oM 6 25,oV 7 0] [6,7] (.cut c39k2)))))
def rv39 : List RV:=[.tmp 6,.tmp 7]
theorem is39 : FnIs Tryz.prog 39 26 c39 rv39:=⟨⟨Tryz.f39,_,Tryz.func39,by kernel_rfl,rfl,rfl,by kernel_rfl,by kernel_rfl⟩,by decide⟩
end Go.Proofs.YtcbabnbiinkafaaGreatDoor.D5
end
section
open Go Go.Am
open Go.Am.Dat (cells)
namespace Go.Proofs.YtcbabnbiinkafaaGreatDoor.D6
def c122l1 : AC:=oX [oB 9 .lss 3 8 (oO 7)] [3,6,7,8,9] (oS (.cond (oO 9) .skip (.exit 0)) (oK [3,6,7,8] (oS (.block 1 (oX [oA 10 (.iaddr 1 o1 (oO 6) (oO 8)),oL 11 10,oM 5 11] [3,5,6,7,8] (oR [oM 12 3,oM 13 5,oC 14 154 [oO 13],⟨some 15,none,.mkSl false 9 1 [.string ⟨#[]⟩] 1 [(0,oO 14)],false⟩,⟨some 16,none,.app 44 9 1 16 [.string ⟨#[]⟩] (oO 12) (oO 15),false⟩,oM 3 16]))) (oK [3,6,7,8] (oR [oB 17 .add 3 8 (oN 1),oM 8 17])))))
def c122 : AC:=oX [⟨some 2,none,.mv (.const (.string ⟨#[]⟩)),false⟩] [0] (oX [oA 3 (.mv (.const (.slice none 0 0)))] [0,3] (.nilrow 3 1 9 (oS (oX [oM 6 0,o4 7 6,oV 8 0] [3,6,7,8] (.block 0 (.loop c122l1))) (oK [3] (.fz [3] (oX [oM 18 3,⟨some 19,none,.call (.func 123) [oO 18,(.const (.string ⟨#[32]⟩))],false⟩,oM 2 19] [2] .ret))))))
def rv122 : List RV:=[.tmp 2]
theorem is122 : FnIs Tryz.prog 122 20 c122 rv122:=⟨⟨Tryz.f122,_,Tryz.func122,by kernel_rfl,rfl,rfl,by kernel_rfl,by kernel_rfl⟩,by decide⟩
def c80l1 : AC:=oX [oB 31 .lss 3 30 (oO 29)] [3,28,29,30,31] (oS (.cond (oO 31) .skip (.exit 0)) (oK [3,28,29,30] (oS (.block 1 (oX [oA 32 (.iaddr 1 o0 (oO 28) (oO 30)),oL 33 32,oM 5 33] [3,5,28,29,30] (oR [oM 34 3,oM 35 5,oC 36 122 [oO 35],⟨some 37,none,.mkSl false 9 1 [.string ⟨#[]⟩] 1 [(0,oO 36)],false⟩,⟨some 38,none,.app 44 9 1 16 [.string ⟨#[]⟩] (oO 34) (oO 37),false⟩,oM 3 38]))) (oK [3,28,29,30] (oR [oB 39 .add 3 30 (oN 1),oM 30 39])))))
def c80 : AC:=oX [o7 1 0,⟨some 2,none,.mv (.const (.string ⟨#[]⟩)),false⟩] [1] (oX [oF 6 0 1,oL 7 6,oF 8 1 1,oL 9 8,oF 10 2 1,oL 11 10,oF 12 3 1,oL 13 12,oF 14 4 1,oL 15 14,oF 16 5 1,oL 17 16,oF 18 6 1,oL 19 18,oF 20 7 1,oL 21 20,oF 22 8 1,oL 23 22,oA 24 (.mkSl false 3 1 o1 9 [(0,oO 7),(1,oO 9),(2,oO 11),(3,oO 13),(4,oO 15),(5,oO 17),(6,oO 19),(7,oO 21),(8,oO 23)]),oC 25 122 [oO 24],⟨some 26,none,.mkSl true 9 1 [.string ⟨#[]⟩] 1 [(0,oO 25)],false⟩,oM 3 26] [1,3] (oS (oX [oF 27 9 1,oL 28 27,o4 29 28,oV 30 0] [3,28,29,30] (.block 0 (.loop c80l1))) (oK [3] (.fz [3] (oX [oM 40 3,⟨some 41,none,.call (.func 123) [oO 40,(.const (.string ⟨#[124]⟩))],false⟩,oM 2 41] [2] .ret)))))
def rv80 : List RV:=[.tmp 2]
theorem is80 : FnIs Tryz.prog 80 42 c80 rv80:=⟨⟨Tryz.f80,_,Tryz.func80,by kernel_rfl,rfl,rfl,by kernel_rfl,by kernel_rfl⟩,by decide⟩
end Go.Proofs.YtcbabnbiinkafaaGreatDoor.D6
end
section
namespace Go.Proofs
open Go.Shelf
def Tryz.lays189_ren : Go.Shelf.Ren:=⟨fun | 189=>199 | 125=>217 | 257=>216 | 128=>235 | 129=>219 | 294=>226 | 295=>227 | 296=>228 | 297=>229 | 298=>230 | 299=>231 | 216=>232 | 300=>233 | 301=>234 | 328=>240 | 329=>241 | 330=>242 | 331=>243 | 332=>244 | 215=>245 | 343=>246 | n=>n,fun | 28=>24 | 3=>3 | 46=>230 | 0=>0 | 51=>243 | 53=>238 | 4=>4 | 183=>270 | 182=>269 | 131=>185 | 5=>5 | 9=>9 | 218=>281 | 222=>181 | 228=>288 | 229=>75 | n=>n,fun | n=>n⟩
theorem Tryz.lays189 : Go.Proofs.Lays.n189 Tryz.prog Tryz.lays189_ren:={
 mixed:=by kernel_rfl
 f125:=Tryz.func217.trans (congrArg some (by kernel_rfl))
 f128:=Tryz.func235.trans (congrArg some (by kernel_rfl))
 f129:=Tryz.func219.trans (congrArg some (by kernel_rfl))
 f189:=Tryz.func199.trans (congrArg some (by kernel_rfl))
 f215:=Tryz.func245.trans (congrArg some (by kernel_rfl))
 f216:=Tryz.func232.trans (congrArg some (by kernel_rfl))
 f257:=Tryz.func216.trans (congrArg some (by kernel_rfl))
 f294:=Tryz.func226.trans (congrArg some (by kernel_rfl))
 f295:=Tryz.func227.trans (congrArg some (by kernel_rfl))
 f296:=Tryz.func228.trans (congrArg some (by kernel_rfl))
 f297:=Tryz.func229.trans (congrArg some (by kernel_rfl))
 f298:=Tryz.func230.trans (congrArg some (by kernel_rfl))
 f299:=Tryz.func231.trans (congrArg some (by kernel_rfl))
 f300:=Tryz.func233.trans (congrArg some (by kernel_rfl))
 f301:=Tryz.func234.trans (congrArg some (by kernel_rfl))
 f328:=Tryz.func240.trans (congrArg some (by kernel_rfl))
 f329:=Tryz.func241.trans (congrArg some (by kernel_rfl))
 f330:=Tryz.func242.trans (congrArg some (by kernel_rfl))
 f331:=Tryz.func243.trans (congrArg some (by kernel_rfl))
 f332:=Tryz.func244.trans (congrArg some (by kernel_rfl))
 f343:=Tryz.func246.trans (congrArg some (by kernel_rfl))
 t0:=Tryz.underlying0
 a0:=Tryz.isAgg0
 z0:=Tryz.sizeOf0
 v0:=Tryz.zeroValue0
 t3:=Tryz.underlying3
 a3:=Tryz.isAgg3
 z3:=Tryz.sizeOf3
 v3:=Tryz.zeroValue3
 t4:=Tryz.underlying4
 a4:=Tryz.isAgg4
 z4:=Tryz.sizeOf4
 v4:=Tryz.zeroValue4
 t5:=Tryz.underlying5
 a5:=Tryz.isAgg5
 z5:=Tryz.sizeOf5
 v5:=Tryz.zeroValue5
 t9:=Tryz.underlying9
 a9:=Tryz.isAgg9
 z9:=Tryz.sizeOf9
 v9:=Tryz.zeroValue9
 t28:=Tryz.underlying24
 a28:=Tryz.isAgg24
 z28:=Tryz.sizeOf24
 v28:=Tryz.zeroValue24
 t46:=Tryz.underlying230
 a46:=Tryz.isAgg230
 z46:=Tryz.sizeOf230
 v46:=Tryz.zeroValue230
 t51:=Tryz.underlying243
 a51:=Tryz.isAgg243
 z51:=Tryz.sizeOf243
 v51:=Tryz.zeroValue243
 t53:=Tryz.underlying238
 a53:=Tryz.isAgg238
 z53:=Tryz.sizeOf238
 v53:=Tryz.zeroValue238
 t131:=Tryz.underlying185
 a131:=Tryz.isAgg185
 z131:=Tryz.sizeOf185
 v131:=Tryz.zeroValue185
 t182:=Tryz.underlying269
 a182:=Tryz.isAgg269
 z182:=Tryz.sizeOf269
 v182:=Tryz.zeroValue269
 t183:=Tryz.underlying270
 a183:=Tryz.isAgg270
 z183:=Tryz.sizeOf270
 v183:=Tryz.zeroValue270
 t218:=Tryz.underlying281
 a218:=Tryz.isAgg281
 z218:=Tryz.sizeOf281
 v218:=Tryz.zeroValue281
 t222:=Tryz.underlying181
 a222:=Tryz.isAgg181
 z222:=Tryz.sizeOf181
 v222:=Tryz.zeroValue181
 t228:=Tryz.underlying288
 a228:=Tryz.isAgg288
 z228:=Tryz.sizeOf288
 v228:=Tryz.zeroValue288
 t229:=Tryz.underlying75
 a229:=Tryz.isAgg75
 z229:=Tryz.sizeOf75
 v229:=Tryz.zeroValue75 }
def Tryz.laysNm225_ren : Go.Shelf.Ren:=⟨fun | 25=>282 | 31=>232 | 32=>285 | 37=>245 | n=>n,fun | 22=>24 | 3=>3 | 4=>4 | 40=>230 | 0=>0 | n=>n,fun | n=>n⟩
theorem Tryz.laysNm225 : Go.Proofs.Lays2.n25 Tryz.prog Tryz.laysNm225_ren:={
 mixed:=by kernel_rfl
 f25:=Tryz.func282.trans (congrArg some (by kernel_rfl))
 f31:=Tryz.func232.trans (congrArg some (by kernel_rfl))
 f32:=Tryz.func285.trans (congrArg some (by kernel_rfl))
 f37:=Tryz.func245.trans (congrArg some (by kernel_rfl))
 t0:=Tryz.underlying0
 a0:=Tryz.isAgg0
 z0:=Tryz.sizeOf0
 v0:=Tryz.zeroValue0
 t3:=Tryz.underlying3
 a3:=Tryz.isAgg3
 z3:=Tryz.sizeOf3
 v3:=Tryz.zeroValue3
 t4:=Tryz.underlying4
 a4:=Tryz.isAgg4
 z4:=Tryz.sizeOf4
 v4:=Tryz.zeroValue4
 t22:=Tryz.underlying24
 a22:=Tryz.isAgg24
 z22:=Tryz.sizeOf24
 v22:=Tryz.zeroValue24
 t40:=Tryz.underlying230
 a40:=Tryz.isAgg230
 z40:=Tryz.sizeOf230
 v40:=Tryz.zeroValue230 }
def Tryz.laysNm221_ren : Go.Shelf.Ren:=⟨fun | 21=>283 | 27=>286 | 28=>287 | 35=>289 | 39=>290 | n=>n,fun | 22=>24 | 3=>3 | 4=>4 | 0=>0 | n=>n,fun | n=>n⟩
theorem Tryz.laysNm221 : Go.Proofs.Lays2.n21 Tryz.prog Tryz.laysNm221_ren:={
 mixed:=by kernel_rfl
 f21:=Tryz.func283.trans (congrArg some (by kernel_rfl))
 f27:=Tryz.func286.trans (congrArg some (by kernel_rfl))
 f28:=Tryz.func287.trans (congrArg some (by kernel_rfl))
 f35:=Tryz.func289.trans (congrArg some (by kernel_rfl))
 f39:=Tryz.func290.trans (congrArg some (by kernel_rfl))
 t0:=Tryz.underlying0
 a0:=Tryz.isAgg0
 z0:=Tryz.sizeOf0
 v0:=Tryz.zeroValue0
 t3:=Tryz.underlying3
 a3:=Tryz.isAgg3
 z3:=Tryz.sizeOf3
 v3:=Tryz.zeroValue3
 t4:=Tryz.underlying4
 a4:=Tryz.isAgg4
 z4:=Tryz.sizeOf4
 v4:=Tryz.zeroValue4
 t22:=Tryz.underlying24
 a22:=Tryz.isAgg24
 z22:=Tryz.sizeOf24
 v22:=Tryz.zeroValue24
 i3:=by kernel_rfl }
def Tryz.laysSlH10_f182_ren : Go.Shelf.Ren:=⟨fun | 10=>182 | 6=>202 | n=>n,fun | 22=>24 | 23=>3 | 25=>153 | 3=>3 | 4=>4 | 0=>0 | n=>n,fun | n=>n⟩
theorem Tryz.laysSlH10_f182 : Go.Proofs.SlLaysH.n10 Tryz.prog Tryz.laysSlH10_f182_ren:={
 mixed:=by kernel_rfl
 f6:=⟨Tryz.f202.name,by decide,Tryz.func202.trans (congrArg some (by kernel_rfl))⟩
 f10:=⟨Tryz.f182.name,by decide,Tryz.func182.trans (congrArg some (by kernel_rfl))⟩
 t0:=Tryz.underlying0
 a0:=Tryz.isAgg0
 z0:=Tryz.sizeOf0
 v0:=Tryz.zeroValue0
 t3:=Tryz.underlying3
 a3:=Tryz.isAgg3
 z3:=Tryz.sizeOf3
 v3:=Tryz.zeroValue3
 t4:=Tryz.underlying4
 a4:=Tryz.isAgg4
 z4:=Tryz.sizeOf4
 v4:=Tryz.zeroValue4
 t22:=Tryz.underlying24
 a22:=Tryz.isAgg24
 z22:=Tryz.sizeOf24
 v22:=Tryz.zeroValue24
 a23:=Tryz.isAgg3
 z23:=Tryz.sizeOf3
 t25:=Tryz.underlying153
 a25:=Tryz.isAgg153
 z25:=Tryz.sizeOf153
 v25:=Tryz.zeroValue153 }
def Tryz.lays156_ren : Go.Shelf.Ren:=⟨fun | 156=>123 | 165=>155 | 166=>156 | 169=>157 | 240=>170 | 241=>171 | 276=>186 | 277=>187 | n=>n,fun | 31=>44 | 9=>9 | 3=>3 | 4=>4 | 0=>0 | 20=>20 | 72=>201 | 76=>204 | 70=>199 | 37=>192 | 75=>203 | 127=>217 | 164=>226 | 5=>5 | 80=>206 | n=>n,fun | n=>n⟩
theorem Tryz.lays156 : Go.Proofs.Lays.n156 Tryz.prog Tryz.lays156_ren:={
 mixed:=by kernel_rfl
 f156:=Tryz.func123.trans (congrArg some (by kernel_rfl))
 f165:=Tryz.func155.trans (congrArg some (by kernel_rfl))
 f166:=Tryz.func156.trans (congrArg some (by kernel_rfl))
 f169:=Tryz.func157.trans (congrArg some (by kernel_rfl))
 f240:=Tryz.func170.trans (congrArg some (by kernel_rfl))
 f241:=Tryz.func171.trans (congrArg some (by kernel_rfl))
 f276:=Tryz.func186.trans (congrArg some (by kernel_rfl))
 f277:=Tryz.func187.trans (congrArg some (by kernel_rfl))
 t0:=Tryz.underlying0
 a0:=Tryz.isAgg0
 z0:=Tryz.sizeOf0
 v0:=Tryz.zeroValue0
 t3:=Tryz.underlying3
 a3:=Tryz.isAgg3
 z3:=Tryz.sizeOf3
 v3:=Tryz.zeroValue3
 t4:=Tryz.underlying4
 a4:=Tryz.isAgg4
 z4:=Tryz.sizeOf4
 v4:=Tryz.zeroValue4
 t9:=Tryz.underlying9
 a9:=Tryz.isAgg9
 z9:=Tryz.sizeOf9
 v9:=Tryz.zeroValue9
 t20:=Tryz.underlying20
 a20:=Tryz.isAgg20
 z20:=Tryz.sizeOf20
 v20:=Tryz.zeroValue20
 t31:=Tryz.underlying44
 a31:=Tryz.isAgg44
 z31:=Tryz.sizeOf44
 v31:=Tryz.zeroValue44
 t37:=Tryz.underlying192
 a37:=Tryz.isAgg192
 z37:=Tryz.sizeOf192
 v37:=Tryz.zeroValue192
 t70:=Tryz.underlying199
 a70:=Tryz.isAgg199
 z70:=Tryz.sizeOf199
 v70:=Tryz.zeroValue199
 t72:=Tryz.underlying201
 a72:=Tryz.isAgg201
 z72:=Tryz.sizeOf201
 v72:=Tryz.zeroValue201
 t75:=Tryz.underlying203
 a75:=Tryz.isAgg203
 z75:=Tryz.sizeOf203
 v75:=Tryz.zeroValue203
 t76:=Tryz.underlying204
 a76:=Tryz.isAgg204
 z76:=Tryz.sizeOf204
 v76:=Tryz.zeroValue204
 t127:=Tryz.underlying217
 a127:=Tryz.isAgg217
 z127:=Tryz.sizeOf217
 v127:=Tryz.zeroValue217
 t164:=Tryz.underlying226
 a164:=Tryz.isAgg226
 z164:=Tryz.sizeOf226
 v164:=Tryz.zeroValue226 }
def Tryz.laysM171_ren : Go.Shelf.Ren:=⟨fun | 171=>154 | 243=>169 | 246=>185 | 283=>203 | 284=>204 | 285=>205 | 286=>206 | 129=>219 | 317=>218 | 318=>220 | 319=>221 | 320=>222 | 337=>236 | 338=>237 | n=>n,fun | 3=>3 | 9=>9 | 2=>2 | 4=>4 | 171=>237 | 0=>0 | 53=>238 | 37=>192 | 5=>5 | 173=>241 | 212=>256 | 51=>243 | 20=>20 | 213=>257 | 46=>230 | 232=>286 | 233=>287 | n=>n,fun | 17=>2 | 18=>7 | 19=>8 | n=>n⟩
theorem Tryz.laysM171 : Go.Proofs.LaysM.n171 Tryz.prog Tryz.laysM171_ren:={
 mixed:=by kernel_rfl
 f129:=Tryz.func219.trans (congrArg some (by kernel_rfl))
 f171:=Tryz.func154.trans (congrArg some (by kernel_rfl))
 f243:=Tryz.func169.trans (congrArg some (by kernel_rfl))
 f246:=Tryz.func185.trans (congrArg some (by kernel_rfl))
 f283:=Tryz.func203.trans (congrArg some (by kernel_rfl))
 f284:=Tryz.func204.trans (congrArg some (by kernel_rfl))
 f285:=Tryz.func205.trans (congrArg some (by kernel_rfl))
 f286:=Tryz.func206.trans (congrArg some (by kernel_rfl))
 f317:=Tryz.func218.trans (congrArg some (by kernel_rfl))
 f318:=Tryz.func220.trans (congrArg some (by kernel_rfl))
 f319:=Tryz.func221.trans (congrArg some (by kernel_rfl))
 f320:=Tryz.func222.trans (congrArg some (by kernel_rfl))
 f337:=Tryz.func236.trans (congrArg some (by kernel_rfl))
 f338:=Tryz.func237.trans (congrArg some (by kernel_rfl))
 t0:=Tryz.underlying0
 a0:=Tryz.isAgg0
 z0:=Tryz.sizeOf0
 v0:=Tryz.zeroValue0
 t2:=Tryz.underlying2
 a2:=Tryz.isAgg2
 z2:=Tryz.sizeOf2
 v2:=Tryz.zeroValue2
 t3:=Tryz.underlying3
 a3:=Tryz.isAgg3
 z3:=Tryz.sizeOf3
 v3:=Tryz.zeroValue3
 t4:=Tryz.underlying4
 a4:=Tryz.isAgg4
 z4:=Tryz.sizeOf4
 v4:=Tryz.zeroValue4
 t5:=Tryz.underlying5
 a5:=Tryz.isAgg5
 z5:=Tryz.sizeOf5
 v5:=Tryz.zeroValue5
 t9:=Tryz.underlying9
 a9:=Tryz.isAgg9
 z9:=Tryz.sizeOf9
 v9:=Tryz.zeroValue9
 t20:=Tryz.underlying20
 a20:=Tryz.isAgg20
 z20:=Tryz.sizeOf20
 v20:=Tryz.zeroValue20
 t37:=Tryz.underlying192
 a37:=Tryz.isAgg192
 z37:=Tryz.sizeOf192
 v37:=Tryz.zeroValue192
 t46:=Tryz.underlying230
 a46:=Tryz.isAgg230
 z46:=Tryz.sizeOf230
 v46:=Tryz.zeroValue230
 t51:=Tryz.underlying243
 a51:=Tryz.isAgg243
 z51:=Tryz.sizeOf243
 v51:=Tryz.zeroValue243
 t53:=Tryz.underlying238
 a53:=Tryz.isAgg238
 z53:=Tryz.sizeOf238
 v53:=Tryz.zeroValue238
 t171:=Tryz.underlying237
 a171:=Tryz.isAgg237
 z171:=Tryz.sizeOf237
 v171:=Tryz.zeroValue237
 t173:=Tryz.underlying241
 a173:=Tryz.isAgg241
 z173:=Tryz.sizeOf241
 v173:=Tryz.zeroValue241
 t212:=Tryz.underlying256
 a212:=Tryz.isAgg256
 z212:=Tryz.sizeOf256
 v212:=Tryz.zeroValue256
 t213:=Tryz.underlying257
 a213:=Tryz.isAgg257
 z213:=Tryz.sizeOf257
 t232:=Tryz.underlying286
 a232:=Tryz.isAgg286
 z232:=Tryz.sizeOf286
 v232:=Tryz.zeroValue286
 t233:=Tryz.underlying287
 a233:=Tryz.isAgg287
 z233:=Tryz.sizeOf287
 v233:=Tryz.zeroValue287
 g17:=by kernel_rfl
 g18:=by kernel_rfl
 g19:=by kernel_rfl
 i0:=by kernel_rfl
 i2:=by kernel_rfl
 i3:=by kernel_rfl
 i4:=by kernel_rfl
 i5:=by kernel_rfl
 i9:=by kernel_rfl
 i20:=by kernel_rfl
 i37:=by kernel_rfl
 i46:=by kernel_rfl
 i51:=by kernel_rfl
 i53:=by kernel_rfl
 i171:=by kernel_rfl
 i173:=by kernel_rfl
 i212:=by kernel_rfl
 i232:=by kernel_rfl
 i233:=by kernel_rfl
 m17:=by kernel_rfl
 m18:=by kernel_rfl
 m19:=by kernel_rfl }
theorem Tryz.Builder_Extra_156 : Builder.Extra Tryz.prog Tryz.lays156_ren:={
 sizeBuilder:=by kernel_rfl
 liesBuilder:=by kernel_rfl
 t5:=Tryz.underlying5
 a5:=Tryz.isAgg5
 z5:=Tryz.sizeOf5
 v5:=Tryz.zeroValue5
 infoByte:=by kernel_rfl
 cellsByte:=by kernel_rfl
 sizeByte:=by kernel_rfl
 neB5:=by decide }
end Go.Proofs
end
section
open Go Go.Am
open Go.Am.Dat (cells)
namespace Go.Proofs.YtcbabnbiinkafaaGreatDoor
theorem wg (n lo hi:Int):FC Tryz.prog 96 [enc n,enc lo,enc hi] [] (enc (decide (lo<=n/\n<=hi))) []:=by
 refine eP is96 (by simp) (fun cx hl=>dC [] 800 ?_);delta c96 oO oM oG oX oP oB oD o9;simp only[rv96,V,W3,seval];by_cases h:lo<=n <;> simp[h]
def gi : Ent Tryz.prog:=.of3 96 (fun _ _ _=>True) (fun n lo hi:Int=>enc (decide (lo<=n/\n<=hi))) (fun _ _ _=>trivial) (fun n lo hi _=>wg n lo hi)
theorem wd (b:Bool) (e:Int):FC Tryz.prog 95 [enc b,enc e] [] (enc (if b then 0 else e)) []:=by
 refine eP is95 (by simp) (fun cx hl=>dC [] 800 ?_);delta c95 oM oS oK oV oI oX;simp only[rv95,V,W3,seval];cases b <;> simp
def eg : Ent Tryz.prog:=.of2 95 (fun _ _=>True) (fun (b:Bool) (e:Int)=>enc (if b then 0 else e)) (fun _ _=>trivial) (fun b e _=>wd b e)
def dS : List Int->Int
 |[]=>0
 | e :: l=>if e≠0 then e else dS l
theorem first_c (l:List Int):FC Tryz.prog 91 [enc l] [] (enc (dS l)) []:=by
 refine eP is91 (by simp) (fun cx hl=>dC [] 800 ?_);simp only[V,W3,seval]at hl;have hlen:=hl.list;delta c91 oM oS oK oV oX o4;simp only[rv91,V,W3,seval];refine S_for l.length (fun i=>⟨[(5,enc l),(6,.s (.int .i64 l.length)),(7,.s (.int .i64 i))],[]⟩) (fun i=>dS l=dS (l.drop i)) rfl ?_ (fun i hi hv=>dC [] 800 ?_)
 . simp only[V,W3,seval] <;> simp
 . delta c91l1 oO oN oA oM oR oS oK oL oI oX oB o1;simp only[V,W3,seval];by_cases h:i < l.length
   . rw[fI 0 h,dS]at hv;rw[qb (by omega)];refine⟨by omega,?_⟩;split
     . rename_i hc;rw[hv,qb hc]
     . rename_i hc;exact⟨by simp only[InR];omega,h,by rw[hv,qa hc],by omega⟩
   . rw[qa (by omega),hv,zv (by omega)];rfl
def ee : Ent Tryz.prog:=.of1 91 (fun _=>True) (fun l:List Int=>enc (dS l)) (fun _=>trivial) (fun l _=>first_c l)
theorem Ints_c (a b:List Int):FC Tryz.prog 30 [enc a,enc b] [] (enc (decide (a=b))) []:=by
 refine eP is30 (by simp) (fun cx hl=>dC [] 800 ?_);simp only[V,W3,seval]at hl;have hlen:=hl.1.list;delta c30 oO oM oS oK oV oI oX oB o4 o9;simp only[rv30,V,W3,seval];by_cases hab:a.length=b.length
 . rw[qa (by simp[hab])];refine S_for a.length (fun i=>⟨[(0,enc a),(1,enc b),(5,.s (.int .i64 i))],[]⟩) (fun i=>decide (a=b)=decide (a.drop i=b.drop i)) (by simp) ?_ (fun i hi hv=>dC [] 800 ?_)
   . simp only[V,W3,seval] <;> simp
   . delta c30l1 oO oN oA oM oT oR oQ oS oK oL oI oX oB o1 o4 o9;simp only[V,W3,seval];by_cases h:i < a.length
     . rw[fI 0 h,fI 0 (by omega:i < b.length)]at hv;rw[qb (by omega)];refine⟨⟨by omega,by omega⟩,⟨by omega,by omega⟩,?_⟩;simp only[InR];grind
     . rw[qa (by omega),hv,zv (by omega),zv (by omega)];simp
 . rw[qb (by omega)];grind
def ent30 : Ent Tryz.prog:=.of2 30 (fun _ _=>True) (fun a b:List Int=>enc (decide (a=b))) (fun _ _=>trivial) (fun a b _=>Ints_c a b)
structure Rul where
 off:Int
 hyst:Int
 trig:Int
instance : DatL Rul where
 sz:=3
 agg:=true
 cells r:=[.s (.int .i64 r.off),.s (.int .i64 r.hyst),.s (.int .i64 r.trig)]
 dec | [.s (.int .i64 a),.s (.int .i64 b),.s (.int .i64 c)]=>some ⟨a,b,c⟩ | _=>none
 ok:=by intro l a h;split at h <;> cases h;rfl
 data:=fun a=>rfl
 one:=fun h=>by cases h
 dec_cells:=fun a=>rfl
def uE (r:Rul):Bool:=decide (-300<=r.off/\r.off<=300) && decide (0<=r.hyst/\r.hyst<=300) && decide (0<=r.trig/\r.trig<=40)
def gc (n:Int):Bool:=decide (0<=n/\n<=1000000000)
theorem vy (n:Int):FC Tryz.prog 102 [enc n] [] (enc (gc n)) []:=by
 refine eP is102 (by simp) (fun cx hl=>dC [gi] 800 ?_);delta c102 oO oN oM oC oX o9;simp only[rv102,gi,Ent.of3,V,W3,seval];simp[gc]
def lv : Ent Tryz.prog:=.of1 102 (fun _=>True) (fun n:Int=>enc (gc n)) (fun _=>trivial) (fun n _=>vy n)
def isLev (n:Int):Bool:=decide (-2000<=n/\n<=1000)
def nK : List Int->List Int->Bool
 | a :: l,b :: m=>isLev a && isLev b && nK l m
 |_,_=>true
def n9 (V:List Int) (i:Nat):List C:=[.s (.int .i64 (V.getD i 0))]
theorem lev_get {s n:List Int} (h:nK s n=true) (hl:n.length=s.length):∀ i,i < s.length->(-2000<=s.getD i 0/\s.getD i 0<=1000)/\(-2000<=n.getD i 0/\n.getD i 0<=1000):=by
 induction s generalizing n with
 | nil=>intro i hi;simp at hi
 | cons a s ih=>
  cases n with
  | nil=>simp at hl
  | cons b n=>
   simp only[nK,zm]at h;intro i hi;cases i with
   | zero=>simpa[isLev]using h.1
   | succ i=>simpa using ih h.2 (by simpa using hl) i (by simpa using hi)
structure TrgOk (r:Rul) (s n:List Int):Prop where
 hr:uE r=true
 hl:nK s n=true
 hln:n.length=s.length
 h60:s.length<=60
theorem uH {V:List Int} {i:Nat} (h:i < V.length):(V.take i).map cells++[[C.s (.int .i64 (V.getD i 0))]]=(V.take (i+1)).map cells:=by
 rw[pM 0 h,yg];rfl
theorem TrgOk.get {r:Rul} {s n:List Int} (h:TrgOk r s n) {i:Nat} (hi:i < s.length):(-2000<=s.getD i 0/\s.getD i 0<=1000)/\(-2000<=n.getD i 0/\n.getD i 0<=1000)/\(-300<=r.off/\r.off<=300)/\(0<=r.hyst/\r.hyst<=300)/\(0<=r.trig/\r.trig<=40):=by
 have h1:=lev_get h.hl h.hln i hi;have h2:=h.hr;simp only[uE,zm,qf]at h2;exact⟨h1.1,h1.2,h2.1.1,h2.1.2,h2.2⟩
structure TickOk (r:Rul) (s n:List Int) (t:Int):Prop where
 ok:TrgOk r s n
 h0:0<=t
 h1:t < s.length
def si (c:Int):Bool:=decide (97<=c/\c<=122) || decide (65<=c/\c<=90)
def badB (first:Bool) (c:Int):Bool:=!si c && (first || (decide (c≠45) && (decide (c < 48) || decide (57 < c))))
def iZ : Bool->List Int->Bool
 |_,[]=>true
 | first,c :: l=>!badB first c && iZ false l
def byI (s:ByteArray):List Int:=s.data.toList.map fun b=>(b.toNat:Int)
def l0 (s:ByteArray):Bool:=iZ true (byI s) && decide (0 < s.size) && decide (s.size<=12)
theorem lR (s:ByteArray):(byI s).length=s.size:=by rw[byI,zy,Array.length_toList];rfl
theorem qG (s:ByteArray):iT s=(byI s).map fun n=>[C.s (.int .u8 n)]:=by simp[iT,byI]
theorem pe (s:ByteArray):(iT s).length=s.size:=by rw[qG,zy,lR]
theorem tj {s:ByteArray} {i:Nat} (h:i < s.size) (d:List C):(iT s).getD i d=[.s (.int .u8 ((byI s).getD i 0))]:=by
 rw[qG,zb,zb,zh];have:i < (byI s).length:=by rw[lR];exact h
 rw[ze this];rfl
theorem vx (s:ByteArray) (hs:s.size<=9223372036854775807):FC Tryz.prog 103 [enc s] [] (enc (l0 s)) []:=by
 refine eP is103 (by simp) (fun cx hl=>dC [] 800 ?_);have h0:decide (s=⟨#[]⟩)=decide (s.size=0):=by
  rw[yH];simp only[qf];constructor
  . intro h;rw[h];rfl
  . intro h;obtain⟨d⟩:=s;have:d=#[]:=yL.1 h;rw[this]
 delta c103 oO oN oA oM oG oS oK oV oX oP oD o4 o9;simp (maxSteps:=9^7) only[nV,hs,pe,WU,V,W3,seval];have hnb:l0 s=(iZ true (byI s) && (decide (¬ s.size=0) && decide (s.size<=12))):=by
  unfold l0;by_cases g:s.size=0
  . simp[g]
  . have:0 < s.size:=by omega
    simp[g,this]
 rw[hnb];generalize hB:iZ true (byI s)=B;refine fH s.size (fun i=>[(9,.s (.int .i64 (i:Int)))]) (fun _=>[]) (fun i=>B=iZ (decide (i=0)) ((byI s).drop i)) (by simp[hB]) ?_ (fun i hi hv=>dC [] 800 ?_)
 . simp (maxSteps:=9^7) only[V,W3,seval]
   all_goals simp
 . by_cases h:i < s.size
   . have hi2:(i:Int) < (s.size:Int):=by omega
     have hg:=tj h [C.s (.int .u8 0)];have hi3:(decide ((i:Int)=0))=decide (i=0):=by simp
     rw[fI 0 (by rw[lR];exact h:i < (byI s).length),iZ]at hv;generalize (byI s).getD i 0=c at *;have hnx:iZ (decide (i+1=0)) ((byI s).drop (i+1))=iZ false ((byI s).drop (i+1)):=by simp
     delta mZ oO oN oA oM oG oR oS oK oL oI oX oP oH oB oD o9;simp (maxSteps:=9^7) only[nV,hi2,h,pe,hg,InR,WU,V,W3,seval];clear h0 hnb hg hi3;have hb2:badB (decide (i=0)) c=decide (¬ ((97<=c/\c<=122)\/(65<=c/\c<=90))/\(i=0\/(c≠45/\(c < 48\/57 < c)))):=by
      rw[yH];simp only[badB,si,zm,zV,yC,Bool.or_eq_false_iff,qf,ql];omega
     rw[hb2]at hv;have hvt:(¬ ((97<=c/\c<=122)\/(65<=c/\c<=90))/\(i=0\/(c≠45/\(c < 48\/57 < c))))->B=false:=fun hb=>by rw[hv,decide_eq_true hb];rfl
     have hvf:¬ (¬ ((97<=c/\c<=122)\/(65<=c/\c<=90))/\(i=0\/(c≠45/\(c < 48\/57 < c))))->B=iZ false ((byI s).drop (i+1)):=fun hb=>by rw[hv,decide_eq_false hb];simp
     refine⟨by omega,?_⟩
     repeat' split
     all_goals first
      | (rw[hvt (by omega)];rfl)
      | exact⟨by omega,hvf (by omega),by omega⟩
   . have hi2:¬ (i:Int) < (s.size:Int):=by omega
     rw[zv (by rw[lR];omega)]at hv;simp only[iZ]at hv;subst hv;by_cases g0:s.size=0
     . have g1:decide (s=⟨#[]⟩)=true:=by rw[h0];simp[g0]
       delta mZ oO oN oA oM oG oR oS oK oL oI oX oP oH oB oD o9;simp (maxSteps:=9^7) only[nV,hi2,g1,WU,V,W3,seval];simp[g0]
     . have g1:decide (s=⟨#[]⟩)=false:=by rw[h0];simp[g0]
       delta mZ oO oN oA oM oG oR oS oK oL oI oX oP oH oB oD o9;simp (maxSteps:=9^7) only[nV,hi2,g1,WU,V,W3,seval];simp[g0];omega
def tH : Ent Tryz.prog:=.of1 103 (fun s=>s.size<=9223372036854775807) (fun s:ByteArray=>enc (l0 s)) (fun _=>trivial) (fun s h=>vx s h)
theorem rG (l:List ByteArray) (h:l.length<=1000000):FC Tryz.prog 98 [enc l] [] (enc l) []:=by
 refine eP is98 (by simp) (fun cx hl=>dC [] 800 ?_);delta c98 oO oA oM oX;simp only[rv98,V,W3,seval];omega
def ent98 : Ent Tryz.prog:=.of1 98 (fun l=>l.length<=1000000) (fun l:List ByteArray=>enc l) (fun _=>trivial) (fun l h=>rG l h)
def iM {α:Type} (p:α->Bool) (l:List α):Int:=match l.findIdx? p with | some i=>(i:Int) | none=>-1
theorem mE {α:Type} (p:α->Bool) (l:List α):decide (0<=iM p l)=l.any p:=by
 unfold iM;cases hq:l.findIdx? p with
 | none=>
  rw[List.findIdx?_eq_none_iff]at hq;have:l.any p=false:=by simpa using hq
  simp[this]
 | some i=>
  rw[List.findIdx?_eq_some_iff_getElem]at hq;obtain⟨h1,h2,_⟩:=hq;have:l.any p=true:=List.any_eq_true.2 ⟨_,yy h1,h2⟩;simp[this]
theorem mF {α:Type} {p:α->Bool} {l:List α} {i:Nat} (d:α) (h:i < l.length) (hp:p (l.getD i d)=true) (hb:∀ j,j < i->p (l.getD j d)=false):iM p l=i:=by
 have:l.findIdx? p=some i:=by
  rw[List.findIdx?_eq_some_iff_getElem];rw[zb,ze h]at hp;refine⟨h,by simpa using hp,fun j hj=>?_⟩;have:=hb j hj;rw[zb,ze (by omega)]at this;simpa using this
 simp[iM,this]
theorem lG {α:Type} {p:α->Bool} {l:List α} (d:α) (hb:∀ j,j < l.length->p (l.getD j d)=false):iM p l=-1:=by
 have:l.findIdx? p=none:=by
  rw[List.findIdx?_eq_none_iff];intro x hx;obtain⟨j,hj,rfl⟩:=List.getElem_of_mem hx;have:=hb j hj;rwa[zb,ze hj]at this
 simp[iM,this]
theorem uM (l:List ByteArray) (v:ByteArray):FC Tryz.prog 140 [enc l,enc v] [] (enc (iM (fun x=>decide (v=x)) l)) []:=by
 refine eP is140 (by simp) (fun cx hl=>dC [] 800 ?_);simp only[V,W3,seval]at hl;have hl1:=hl.list;delta c140 oM oS oK oV oX o4;simp only[nX,V,W3,seval];refine fH l.length (fun i=>[(8,.s (.int .i64 (i:Int)))]) (fun _=>[]) (fun i=>∀ j,j < i->decide (v=l.getD j ⟨#[]⟩)=false) (by omega) ?_ (fun i hi hv=>dC [] 800 ?_)
 . simp only[V,W3,seval]
   all_goals simp
 . by_cases h:i < l.length
   . have hi2:(i:Int) < (l.length:Int):=by omega
     cases hx:decide (v=l.getD i ⟨#[]⟩)
     . delta m5 oO oN oM oR oS oK oL oI oX oB;simp only[nX,hi2,h,hx,InR,WU,V,W3,seval];refine⟨by omega,by omega,fun j hj=>?_,by omega⟩;by_cases hj2:j=i
       . rw[hj2];simpa using hx
       . simpa using hv j (by omega)
     . have:=mF (p:=fun x=>decide (v=x)) ⟨#[]⟩ h hx hv;delta m5 oO oN oM oR oS oK oL oI oX oB;simp only[nX,hi2,h,hx,InR,WU,V,W3,seval];simp[this]
   . have hi2:¬ (i:Int) < (l.length:Int):=by omega
     have:=lG (p:=fun x=>decide (v=x)) (l:=l) ⟨#[]⟩ (fun j hj=>hv j (by omega));delta m5 oO oN oM oR oS oK oL oI oX oB;simp only[nX,hi2,WU,V,W3,seval];simp[this]
def tK : Ent Tryz.prog:=.of2 140 (fun _ _=>True) (fun (l:List ByteArray) (v:ByteArray)=>enc (iM (fun x=>decide (v=x)) l)) (fun _ _=>trivial) (fun l v _=>uM l v)
theorem rF (l:List ByteArray) (v:ByteArray):FC Tryz.prog 104 [enc l,enc v] [] (enc (l.any fun x=>decide (v=x))) []:=by
 refine eP is104 (by simp) (fun cx hl=>dC [tK] 800 ?_);rw[<- mE];delta c104 oO oN oM oC oX oB o9;simp only[rv104,tK,Ent.of2,V,W3,seval]
def tI : Ent Tryz.prog:=.of2 104 (fun _ _=>True) (fun (l:List ByteArray) (v:ByteArray)=>enc (l.any fun x=>decide (v=x))) (fun _ _=>trivial) (fun l v _=>rF l v)
theorem tX (a b:Gs):(decide (a.re=b.re) && decide (a.im=b.im))=decide (a=b):=by
 rw[yH];cases a;cases b;simp
theorem uK (l:List Gs) (v:Gs):FC Tryz.prog 141 [enc l,enc v] [] (enc (iM (fun x=>decide (v=x)) l)) []:=by
 refine eP is141 (by simp) (fun cx hl=>dC [] 800 ?_);simp only[V,W3,seval]at hl;have hl1:=hl.list;delta c141 oM oS oK oV oX o4 o7;simp only[nY,V,W3,seval];refine fH l.length (fun i=>[(8,.s (.int .i64 (i:Int)))]) (fun _=>[]) (fun i=>∀ j,j < i->decide (v=l.getD j ⟨0,0⟩)=false) (by omega) ?_ (fun i hi hv=>dC [] 800 ?_)
 . simp only[V,W3,seval]
   all_goals simp
 . by_cases h:i < l.length
   . have hi2:(i:Int) < (l.length:Int):=by omega
     have hgd:=tX v (l.getD i ⟨0,0⟩);cases hx:decide (v=l.getD i ⟨0,0⟩)
     . rw[hx]at hgd;delta m6 oO oN oA oM oT oR oQ oS oK oI oX oB o2 o5;simp only[nY,hi2,h,hx,hgd,zZ,InR,WU,V,W3,seval];refine⟨by omega,by omega,fun j hj=>?_,by omega⟩;by_cases hj2:j=i
       . rw[hj2];simpa using hx
       . simpa using hv j (by omega)
     . rw[hx]at hgd;have:=mF (p:=fun x=>decide (v=x)) ⟨0,0⟩ h hx hv;delta m6 oO oN oA oM oT oR oQ oS oK oI oX oB o2 o5;simp only[nY,hi2,h,hx,hgd,zZ,InR,WU,V,W3,seval];simp[this]
   . have hi2:¬ (i:Int) < (l.length:Int):=by omega
     have:=lG (p:=fun x=>decide (v=x)) (l:=l) ⟨0,0⟩ (fun j hj=>hv j (by omega));delta m6 oO oN oA oM oT oR oQ oS oK oI oX oB o2 o5;simp only[nY,hi2,WU,V,W3,seval];simp[this]
def tL : Ent Tryz.prog:=.of2 141 (fun _ _=>True) (fun (l:List Gs) (v:Gs)=>enc (iM (fun x=>decide (v=x)) l)) (fun _ _=>trivial) (fun l v _=>uK l v)
theorem rD (l:List Gs) (v:Gs):FC Tryz.prog 106 [enc l,enc v] [] (enc (l.any fun x=>decide (v=x))) []:=by
 refine eP is106 (by simp) (fun cx hl=>dC [tL] 800 ?_);rw[<- mE];delta c106 oO oN oM oC oX oB o5 o7 o9;simp only[rv106,tL,Ent.of2,V,W3,seval]
def lw : Ent Tryz.prog:=.of2 106 (fun _ _=>True) (fun (l:List Gs) (v:Gs)=>enc (l.any fun x=>decide (v=x))) (fun _ _=>trivial) (fun l v _=>rD l v)
structure Nw where
 cells:List ByteArray
 nb:List Gs
 limit:Int
instance : DatL Nw where
 sz:=3
 agg:=true
 cells n:=[.sl 1 (n.cells.map Dat.cells),.sl 2 (n.nb.map Dat.cells),.s (.int .i64 n.limit)]
 dec | [.sl 1 a,.sl 2 b,.s (.int .i64 c)]=>(fC a).bind fun a'=>(fC b).map fun b'=>⟨a',b',c⟩ | _=>none
 ok:=by
  intro l a h;split at h
  . simp only[zk,za]at h;obtain⟨t',h1,s',h2,rfl⟩:=h;rw[iK h1,iK h2]
  . cases h
 data:=fun a=>rfl
 one:=fun h=>by cases h
 dec_cells:=fun a=>by simp[fM]
theorem eO (n:Nw):enc n=.agg [.sl 1 (n.cells.map Dat.cells),.sl 2 (n.nb.map Dat.cells),.s (.int .i64 n.limit)]:=rfl
theorem uY (n:Nw):Dat.cells n=[.sl 1 (n.cells.map Dat.cells),.sl 2 (n.nb.map Dat.cells),.s (.int .i64 n.limit)]:=rfl
theorem decV_nw (a:List (List C)) (b:List (List C)) (c:Int):gx (.agg [C.sl 1 a,.sl 2 b,.s (.int .i64 c)])=(fC a).bind fun a'=>(fC b).map fun b'=>(⟨a',b',c⟩:Nw):=by
 unfold gx;have:Dat.dec (α:=Nw) [C.sl 1 a,.sl 2 b,.s (.int .i64 c)]=(fC a).bind fun a'=>(fC b).map fun b'=>(⟨a',b',c⟩:Nw):=rfl
 simp only[this];rw[qb (show (Dat.agg Nw)=true from rfl)];cases (fC a).bind fun a'=>(fC b).map fun b'=>(⟨a',b',c⟩:Nw) <;> rfl
structure NwS (n:Nw):Prop where
 c:n.cells.length<=1000000
 b:n.nb.length<=1000000
 s:∀ x∈n.cells,x.size<=1000000
theorem NwS.get {n:Nw} (h:NwS n) {i:Nat} (hi:i < n.cells.length):(n.cells.getD i ⟨#[]⟩).size<=9223372036854775807:=by
 rw[zb,ze hi];have:=h.s _ (yy hi);simp only[zN];omega
def isC (n:Nw) (c:Int):Bool:=decide (0<=c/\c<=(n.cells.length:Int) - 1)
theorem vw (n:Nw) (c:Int) (h:NwS n):FC Tryz.prog 105 [enc c,.ptr 100000 0] [(100000,.box (Dat.cells n))] (enc (isC n c)) [(100000,.box (Dat.cells n))]:=by
 have hb:=h.c;obtain⟨cs,nb,lim⟩:=n;simp only at hb;refine dD [] is105 (by simp) (by simp[bn]) (by simp[ap,ag,av]) (by simp[ap,ag,av]) (by simp[aC,lk]) (fun cx _ _ _=>dC [gi] 800 ?_);delta c105 oO oN oM oF oL oC oX oB o4 o9;simp only[rv105,gi,uY,InR,isC,Ent.of3,V,W3,seval];omega
def nn (n:Nw) (h:NwS n):Ent Tryz.prog where
 id:=105
 sp:=fun _ _=>none
 ok:=by intro _ _ _ _ _ _ h;cases h
 kp:=fun args chs=>match args,chs with
  |[.s (.int .i64 c),.ptr k o],[(k',.box [.sl 1 a,.sl 2 b,.s (.int .i64 l)])]=>some (k=100000/\o=0/\k'=100000/\a=n.cells.map Dat.cells/\b=n.nb.map Dat.cells/\l=n.limit,enc (isC n c))
  |_,_=>none
 kpok:=by
  intro args chs p r hs hp;split at hs
  . cases hs;obtain⟨rfl,rfl,rfl,rfl,rfl,rfl⟩:=hp;exact⟨vw n _ h,rfl,trivial⟩
  . cases hs
def gR (all:List ByteArray):Nat->List ByteArray->Option (Nat×Int)
 |_,[]=>none
 | i,c :: l=>if l0 c=false then some (i,4)else if ((all.take i).any fun x=>decide (c=x))=true then some (i,5)else gR all (i+1) l
def nbE (n:Nw):Nat->List Gs->Option (Nat×Int)
 |_,[]=>none
 | i,p :: l=>if (isC n p.re && isC n p.im)=false then some (i,6)else if ¬ p.re < p.im then some (i,9)else if ((n.nb.take i).any fun x=>decide (p=x))=true then some (i,26)else nbE n (i+1) l
def limE (n:Nw):Int:=if 1<=n.limit/\n.limit<=100000 then 0 else 2
def gO (n:Nw):Nat×Int:=
 if n.cells.length=0 then (0,10)else if 6 < n.cells.length then (0,8)else
 match gR n.cells 0 n.cells with
 | some q=>q
 | none=>match nbE n 0 n.nb with
  | some q=>q
  | none=>(0,limE n)
def netI (n:Nw):Int:=((gO n).1:Int)
def netR (n:Nw):C:=.tup [enc (netI n),enc (gO n).2]
theorem of (n:Nw) (h:NwS n):FC Tryz.prog 49 [enc n] [] (netR n) []:=by
 have hbc:=h.c;have hbb:=h.b;have hgs:=fun i hi=>h.get (i:=i) hi
 have hcell:=nn n h;generalize hR:gO n=R;have hrR:netR n=.tup [.s (.int .i64 (R.1:Int)),.s (.int .i64 R.2)]:=by rw[<- hR];rfl
 rw[hrR];obtain⟨cs,nb,lim⟩:=n;simp only at hbc hbb hgs;refine dD [] is49 (by simp) trivial trivial trivial trivial (fun cx _ hl _=>dC [eg,ee] 800 ?_);by_cases h1:0 < cs.length
 rotate_left
 . have h1':¬ (0:Int) < cs.length:=by omega
   have h0:cs.length=0:=by omega
   have hRe:R=(0,10):=by rw[<- hR,gO];simp[h0]
   by_cases h2:(cs.length:Int)<=6
   . delta c49 oO oN oA oM oT oQ oS oK oF oL oV oC oI oX oB o1 o4 o7;simp only[rv49,eg,ee,dS,eO,h1',h2,hRe,WU,Ent.of1,Ent.of2,V,W3,seval]
     try simp
   . omega
 have h1':(0:Int) < cs.length:=by omega
 have h0:¬ cs.length=0:=by omega
 by_cases h2:cs.length<=6
 rotate_left
 . have h2':¬ (cs.length:Int)<=6:=by omega
   have h3:6 < cs.length:=by omega
   have hRe:R=(0,8):=by rw[<- hR,gO];simp[h0,h3]
   delta c49 oO oN oA oM oT oQ oS oK oF oL oV oC oI oX oB o1 o4 o7;simp only[rv49,eg,ee,dS,eO,h1',h2',hRe,WU,Ent.of1,Ent.of2,V,W3,seval]
   try simp
 have h2':(cs.length:Int)<=6:=by omega
 have h3:¬ 6 < cs.length:=by omega
 have hRe:R=(match gR cs 0 cs with | some q=>q | none=>match nbE ⟨cs,nb,lim⟩ 0 nb with | some q=>q | none=>(0,limE ⟨cs,nb,lim⟩)):=by rw[<- hR,gO];simp only[h0,h3,qi]
 clear hR;delta c49 oO oN oA oM oT oQ oS oK oF oL oV oC oI oX oB o1 o4 o7;simp only[rv49,eg,ee,dS,eO,h1',h2',qc,WU,Ent.of1,Ent.of2,V,W3,seval];generalize hN:(⟨cs,nb,lim⟩:Nw)=n at *;have hNc:n.cells=cs/\n.nb=nb/\n.limit=lim:=by rw[<- hN];exact⟨rfl,rfl,rfl⟩
 have hmt:∀ i,List.take i (List.map Dat.cells cs)=List.map Dat.cells (cs.take i):=fun i=>List.map_take.symm
 have hmt2:∀ i,List.take i (List.map Dat.cells nb)=List.map Dat.cells (nb.take i):=fun i=>List.map_take.symm
 refine fH cs.length (fun i=>[(30,.s (.int .i64 (i:Int)))]) (fun _=>[]) (fun i=>gR cs 0 cs=gR cs i (cs.drop i)) rfl ?_ (fun i hi hv=>dC [tH,eg,ee,tI] 800 ?_)
 . simp only[V,W3,seval]
   all_goals simp
 . by_cases h4:i < cs.length
   . have hi2:(i:Int) < (cs.length:Int):=by omega
     have hname:=hgs i h4;have hi0:(0:Int)<=i:=by omega
     have hi5:(i:Int)<=cs.length:=by omega
     rw[fI ⟨#[]⟩ h4,gR]at hv;cases hx:l0 (cs.getD i ⟨#[]⟩) <;> cases hy:((cs.take i).any fun x=>decide (cs.getD i ⟨#[]⟩=x))
     all_goals
      simp only[hx,hy,qj,qi,zr,ym]at hv;have hRe2:=hRe;rw[hv]at hRe2
      try simp only at hRe2
      delta c49l1 oO oN oA oM oT oR oQ oS oK oF oL oC oI oX oB o1;simp only[tH,eg,ee,tI,dS,hi2,hi0,hi5,h4,hname,hmt,hx,hy,z5,Int.toNat_zero,yB,InR,qc,WU,Ent.of1,Ent.of2,V,W3,seval]
      first | (rw[hRe2];done) | (rw[hRe2];simp;done) | exact⟨by omega,hv,by omega⟩
   . have hi2:¬ (i:Int) < (cs.length:Int):=by omega
     rw[zv (by omega),gR]at hv;rw[hv]at hRe;simp only at hRe;delta c49l1 oO oN oA oM oT oR oQ oS oK oF oL oC oI oX oB o1;simp only[hi2,WU,V,W3,seval];refine fH nb.length (fun i=>[(57,.s (.int .i64 (i:Int)))]) (fun _=>[]) (fun i=>nbE n 0 nb=nbE n i (nb.drop i)) rfl ?_ (fun i hi hw=>dC [nn n h,eg,ee,lw,gi] 800 ?_)
     . simp only[V,W3,seval]
       all_goals simp
     . by_cases h5:i < nb.length
       . have hi2:(i:Int) < (nb.length:Int):=by omega
         have hi0:(0:Int)<=i:=by omega
         have hi5:(i:Int)<=nb.length:=by omega
         have hi6:i<=nb.length:=by omega
         rw[fI ⟨0,0⟩ h5,nbE,hNc.2.1]at hw;delta c49l2 oO oN oA oM oT oG oR oQ oS oK oF oL oC oW oI oX oP oB oD oJ o1 o2 o5;simp only[nn,eg,ee,lw,dS,hi2,hi0,hi5,hi6,h5,hmt,hmt2,hNc,z5,Int.toNat_zero,yB,InR,qc,WU,Ent.of1,Ent.of2,V,W3,seval];cases hx:isC n (nb.getD i ⟨0,0⟩).re <;> cases hy:isC n (nb.getD i ⟨0,0⟩).im <;> by_cases hq:(nb.getD i ⟨0,0⟩).re < (nb.getD i ⟨0,0⟩).im <;> cases hz:((nb.take i).any fun x=>decide (nb.getD i ⟨0,0⟩=x))
         all_goals
          simp only[hx,hy,hz,hq,zZ,yd,zY,z7,qj,qi,qc,qd,zr,ym]at hw;have hRe2:=hRe;rw[hw]at hRe2
          try simp only at hRe2
          simp only[hx,hy,hz,hq,qj,qi,qc,qd,zr,ym]
          first | (rw[hRe2];simp;done) | exact⟨by omega,hw,by omega⟩ | (simp;exact⟨by omega,hw⟩)
       . have hi2:¬ (i:Int) < (nb.length:Int):=by omega
         rw[zv (by omega),nbE]at hw;rw[hw]at hRe;simp only at hRe;delta c49l2 oO oN oA oM oT oG oR oQ oS oK oF oL oC oW oI oX oP oB oD oJ o1 o2 o5;simp only[nn,ee,lw,gi,eg,hi2,WU,Ent.of1,Ent.of2,Ent.of3,V,W3,seval];rw[hRe,limE,hNc.2.2];by_cases h6:1<=lim/\lim<=100000 <;> simp[h6]
def ent49 : Ent Tryz.prog:=.of1 49 NwS netR (fun _=>⟨trivial,trivial,trivial⟩) of
theorem jd (n:Nw):gx (.agg [C.sl 1 (n.cells.map Dat.cells),.sl 2 (n.nb.map Dat.cells),.s (.int .i64 n.limit)])=some n:=by
 rw[decV_nw,fM,fM];rfl
theorem rp (n:Nw) (h:NwS n):FC Tryz.prog 101 [enc n] [] (enc (gO n).2) []:=by
 have hdn:=jd n;refine dD [] is101 (by simp) trivial trivial trivial trivial (fun cx _ hl _=>dC [ent49] 800 ?_);delta c101 oO oM oV oC oX o5 o7 o8;simp only[rv101,ent49,eO,hdn,h,netR,Ent.of1,V,W3,seval]
def nj : Ent Tryz.prog:=.of1 101 NwS (fun n=>enc (gO n).2) (fun _=>trivial) rp
def nbr (n:Nw) (a b:Int):Bool:=n.nb.any fun x=>decide (x=⟨min a b,max a b⟩)
def few (n:Nw):Bool:=decide (n.cells.length<=8) && decide (n.nb.length<=20) && n.cells.all fun x=>decide (x.size<=20)
theorem Few_c (n:Nw):FC Tryz.prog 34 [enc n] [] (enc (few n)) []:=by
 refine dD [] is34 (by simp) trivial trivial trivial trivial (fun cx _ hl _=>dC [] 800 ?_);generalize hB:few n=B;by_cases h1:8 < n.cells.length
 . have h1':(8:Int) < n.cells.length:=by omega
   have:B=false:=by rw[<- hB,few];simp;omega
   rw[this];delta c34 oO oN oM oG oS oK oF oL oV oI oX oH oB oE oJ o4 o7 o9;simp only[rv34,eO,h1',WU,V,W3,seval]
 have h1':¬ (8:Int) < n.cells.length:=by omega
 by_cases h2:20 < n.nb.length
 . have h2':(20:Int) < n.nb.length:=by omega
   have:B=false:=by rw[<- hB,few];simp;omega
   rw[this];delta c34 oO oN oM oG oS oK oF oL oV oI oX oH oB oE oJ o4 o7 o9;simp only[rv34,eO,h1',h2',WU,V,W3,seval]
 have h2':¬ (20:Int) < n.nb.length:=by omega
 have hBB:B=n.cells.all fun x=>decide (x.size<=20):=by
  have e1:n.cells.length<=8:=by omega
  have e2:n.nb.length<=20:=by omega
  rw[<- hB,few,decide_eq_true e1,decide_eq_true e2];rfl
 clear hB;delta c34 oO oN oM oG oS oK oF oL oV oI oX oH oB oE oJ o4 o7 o9;simp only[rv34,eO,h1',h2',WU,V,W3,seval];refine fH n.cells.length (fun i=>[(3,.s (.int .i64 (i:Int)))]) (fun _=>[]) (fun i=>B=(n.cells.drop i).all fun x=>decide (x.size<=20)) (by rw[hBB];rfl) ?_ (fun i hi hv=>dC [] 800 ?_)
 . simp only[V,W3,seval]
   all_goals simp
 . by_cases h5:i < n.cells.length
   . have hi2:(i:Int) < (n.cells.length:Int):=by omega
     have hi0:(0:Int)<=i:=by omega
     rw[fI ⟨#[]⟩ h5,List.all_cons]at hv;by_cases hx:20 < (n.cells.getD i ⟨#[]⟩).size
     . have hx2:(20:Int) < ((n.cells.getD i ⟨#[]⟩).size:Int):=by omega
       rw[decide_eq_false (by omega),z7]at hv;delta pX oO oN oA oM oR oS oK oF oL oI oX oB o4 o9;simp only[rv34,hi2,hi0,h5,hx2,InR,qc,WU,V,W3,seval]
       try simp[hv]
     . have hx2:¬ (20:Int) < ((n.cells.getD i ⟨#[]⟩).size:Int):=by omega
       rw[decide_eq_true (by omega),zY]at hv;delta pX oO oN oA oM oR oS oK oF oL oI oX oB o4 o9;simp only[rv34,hi2,hi0,h5,hx2,InR,qc,WU,V,W3,seval];exact⟨by omega,hv,by omega⟩
   . have hi2:¬ (i:Int) < (n.cells.length:Int):=by omega
     rw[zv (by omega)]at hv;delta pX oO oN oA oM oR oS oK oF oL oI oX oB o4 o9;simp only[rv34,hi2,WU,V,W3,seval]
     try simp[hv]
def ent34 : Ent Tryz.prog:=.of1 34 (fun _=>True) (fun n=>enc (few n)) (fun _=>trivial) (fun n _=>Few_c n)
structure T3 where
 x:Int
 y:Int
 z:Int
 deriving DecidableEq
instance : DatL T3 where
 sz:=3
 agg:=true
 cells r:=[.s (.int .i64 r.x),.s (.int .i64 r.y),.s (.int .i64 r.z)]
 dec | [.s (.int .i64 a),.s (.int .i64 b),.s (.int .i64 c)]=>some ⟨a,b,c⟩ | _=>none
 ok:=by intro l a h;split at h <;> cases h;rfl
 data:=fun a=>rfl
 one:=fun h=>by cases h
 dec_cells:=fun a=>rfl
theorem dV (r:T3):enc r=.agg [.s (.int .i64 r.x),.s (.int .i64 r.y),.s (.int .i64 r.z)]:=rfl
theorem qJ (r:T3):Dat.cells r=[.s (.int .i64 r.x),.s (.int .i64 r.y),.s (.int .i64 r.z)]:=rfl
theorem lV (a b c:Int):gx (.agg [C.s (.int .i64 a),.s (.int .i64 b),.s (.int .i64 c)])=some (⟨a,b,c⟩:T3):=rfl
theorem qx : Dat.sz T3=3:=rfl
theorem sb (xs:List T3) (n:Nat):List.getD (xs.map Dat.cells) n [C.s (.int .i64 0),.s (.int .i64 0),.s (.int .i64 0)]=[.s (.int .i64 (xs.getD n ⟨0,0,0⟩).x),.s (.int .i64 (xs.getD n ⟨0,0,0⟩).y),.s (.int .i64 (xs.getD n ⟨0,0,0⟩).z)]:=by
 rw[zb,zb,zh];cases xs[n]? <;> rfl
def stay1 (n:Nw) (i:Nat) (p s:T3):Int:=
 if isC n s.x=false then 6 else if (gc s.y && gc s.z)=false then 2 else if ¬ (s.y<=s.z/\(i=0\/s.y=p.z))then 9 else if i=0\/s.x≠p.x then 0 else 26
def stE (n:Nw) (all:List T3):Nat->List T3->Int
 |_,[]=>0
 | i,s :: l=>if stay1 n i (all.getD (i - 1) ⟨0,0,0⟩) s≠0 then stay1 n i (all.getD (i - 1) ⟨0,0,0⟩) s else stE n all (i+1) l
def pp (l:List T3) (w:Int) (i:Nat):Bool:=decide ((l.getD i ⟨0,0,0⟩).z - (l.getD i ⟨0,0,0⟩).y<=w) && decide ((l.getD (i - 1) ⟨0,0,0⟩).x=(l.getD (i+1) ⟨0,0,0⟩).x)
structure PpOk (n:Nw) (l:List T3):Prop where
 e:stE n l 0 l=0
 len:l.length<=200
def cnA (S:Nat->Bool) (j:Nat) (c:C):C:=if S j=true then c else .any
def cnT (cs:List (List C)) (nb:List (List C)) (lim:Int) (S:Nat->Bool):ASt:=
 ⟨[(3,cnA S 0 (.ptr 1 0)),(4,cnA S 1 (.sl 1 cs)),(5,cnA S 2 (.sl 1 cs)),(6,if S 6=true then .any else cnA S 3 (.own 6)),(7,cnA S 4 (.ptr 1 1)),(8,cnA S 5 (.sl 2 nb)),(9,cnA S 6 (.sl 2 nb)),(10,cnA S 7 (.ptr 1 2)),(11,cnA S 8 (.s (.int .i64 lim))),(12,cnA S 9 (.agg [.sl 1 cs,.sl 2 nb,.s (.int .i64 lim)])),(1,.ptr 1 0),(2,.ptr 2 0)],
  (if S 3=true/\S 6=false then [(6,.row 2 40 [])]else [])++[(2,.box (if S 10=true then [.sl 1 cs,.sl 2 nb,.s (.int .i64 lim)]else [.s (.slice none 0 0),.s (.slice none 0 0),.s (.int .i64 0)])),(1,.box [.sl 1 cs,.sl 2 nb,.s (.int .i64 lim)])]⟩
theorem eU (cs nb:List (List C)) (lim:Int) (S:Nat->Bool):(cnT cs nb lim S).t=[(3,cnA S 0 (.ptr 1 0)),(4,cnA S 1 (.sl 1 cs)),(5,cnA S 2 (.sl 1 cs)),(6,if S 6=true then .any else cnA S 3 (.own 6)),(7,cnA S 4 (.ptr 1 1)),(8,cnA S 5 (.sl 2 nb)),(9,cnA S 6 (.sl 2 nb)),(10,cnA S 7 (.ptr 1 2)),(11,cnA S 8 (.s (.int .i64 lim))),(12,cnA S 9 (.agg [.sl 1 cs,.sl 2 nb,.s (.int .i64 lim)])),(1,.ptr 1 0),(2,.ptr 2 0)]:=rfl
theorem jE (cs nb:List (List C)) (lim:Int) (S:Nat->Bool):lk (cnT cs nb lim S).ch 1=some (.box [.sl 1 cs,.sl 2 nb,.s (.int .i64 lim)]):=by
 simp only[cnT];split <;> simp[lk]
theorem sv {m:List (Nat×Sb)} {p:Prop} [Decidable p] {a b:C}:ah m (if p then a else b)=if p then ah m a else ah m b:=by split <;> rfl
theorem lS (cs nb:List (List C)) (lim:Int) (S:Nat->Bool):((cnT cs nb lim S).ch.map (·.1)).Nodup:=by
 simp only[cnT];split <;> simp
theorem jS {P:Program} [Glob P] {cx:Cx} {cs nb:List (List C)} {lim:Int} {S:Nat->Bool} {j d:Nat} {v:C} {p:Prop} (hch:(cnT cs nb lim (fun i=>i == j || S i)).ch=(cnT cs nb lim S).ch)
 (ht:∀ x,gt (cnT cs nb lim (fun i=>i == j || S i)).t x=.any\/(if d=x then v else gt (cnT cs nb lim S).t x)=gt (cnT cs nb lim (fun i=>i == j || S i)).t x) :
 dW P cx (aw (some d) ⟨p,v,(cnT cs nb lim S).ch,[]⟩ (cnT cs nb lim S)) (cnT cs nb lim (fun i=>i == j || S i)):=.of_le ⟨fun x=>by
  show _\/gt (aU (some d) [] v (cnT cs nb lim S).t) x=_
  rw[fm,eC];have:=ht x;by_cases hx:d=x
  . subst hx;simpa using this
  . have hx2:¬ (some d=some x):=fun e=>hx (Option.some.inj e)
    rw[qa hx]at this;simpa[hx]using this,lS _ _ _ _,fun p hp=>by
  rw[hch]at hp
  exact eR (lS _ _ _ _) hp⟩
def cnRb : List Nat:=[1,2,6,9,10,102,106,109,110,206,209,210,306,309,310,405,406,409,410,506,509,510,609,610,708,709,710,809,810,910]
end Go.Proofs.YtcbabnbiinkafaaGreatDoor
end
