/- Part 9 of the proof of: the statements about chapter 8 -/
import Derived.Test.YtcbabnbiinkafaaGreatDoorProg
import Derived.KernelRfl
import Derived.Shelf.Sort.Plain
import Derived.Shelf.Slices.In.SortNone
import Derived.Shelf.Slices.SearchI
import Derived.Ground.Names2Prog
import Derived.Ground.SlgfProg
import Derived.Shelf.SlicesE.DeleteFunc
import Derived.Shelf.Spec.SlicesInsertGrow
import Derived.Shelf.Spec.SlicesInsert
import Derived.Shelf.Strconv.Itoa3
import Derived.Shelf.Strings.OnBuilder
import Derived.Ground.NamesProg
import Derived.Test.YtcbabnbiinkafaaGreatDoorBq8
set_option linter.all false
section
open Go Go.Am
open Go.Am.Dat (cells)
namespace Go.Proofs.YtcbabnbiinkafaaGreatDoor
set_option maxRecDepth 100000
def c9 : AC:=oX [o7 3 0,o9 6 false] [1,2,3] (oS (oX [oC 16 21 [],oA 17 (.un .not (oO 16))] [1,2,3,17] (oI 17 (oX [o9 6 false] [6] .ret))) (oK [1,2,3] (oS (oX [o5 18 3 3,oC 19 34 [oO 18],oA 20 (.un .not (oO 19)),oM 21 20,oD 22 21 false 2,oG 23 21 false (.call (.func 35) [oO 22]),oG 24 21 false (.un .not (oO 23)),oH 25 21 24] [1,2,3,25] (oI 25 (oX [o9 6 true] [6] .ret))) (oK [1,2,3] (oX [o5 27 3 3,oC 28 37 [oO 27],oM 29 1,oM 30 2,oC 31 38 [oO 30],oC 32 55 [oO 28,oO 29,oO 31],oM 26 32,o8 33 26 0,o8 34 26 1,oM 7 33,oM 8 34] [1,2,3,7,8] (oX [o5 36 3 3,oC 37 37 [oO 36],oM 38 1,oM 39 2,oC 40 38 [oO 39],oC 41 56 [oO 37,oO 38,oO 40],oM 35 41,o8 42 35 0,o8 43 35 1,oM 9 42,oM 10 43] [1,2,3,7,8,9,10] (oS (oX [o5 44 3 3,oM 45 1,oM 46 2,oC 47 53 [oO 44,oO 45,oO 46],oM 11 47] [1,2,3,7,8,9,10,11] (oX [oM 48 11,oB 49 .neq 3 48 (oN 0)] [1,2,3,7,8,9,10,11,49] (oI 49 (oX [oM 50 8,oM 51 11,oB 52 .eql 3 50 (oO 51),oM 53 52,oD 54 53 true 10,oD 55 53 true 11,oG 56 53 true (.bin .eql 3 (oO 54) (oO 55)),oP 57 53 56,oM 58 57,oD 59 58 true 7,oG 60 58 true (.len false (oO 59)),oG 61 58 true (.bin .eql 3 (oO 60) (oN 0)),oP 62 58 61,oM 63 62,oD 64 63 true 9,oG 65 63 true (.bin .eql 3 (oO 64) (oN 0)),oP 66 63 65,oM 6 66] [6] .ret)))) (oK [1,2,3,7,8,9,10] (oX [o5 68 3 3,oM 69 1,oM 70 2,oC 71 58 [oO 68,oO 69,oO 70],oM 67 71,o8 72 67 0,o8 73 67 1,oM 12 72,oM 13 73] [3,7,8,9,10,12,13] (oX [oV 14 0] [3,7,8,9,10,12,13,14] (oS (oX [oV 15 0] [3,7,8,9,10,12,13,14,15] (.block 0 (.loop c9l1))) (oK [3,7,8,9,10,12,14] (oX [oM 93 8,oB 94 .eql 27 93 (oN 0),oM 95 94,oD 96 95 true 7,oD 97 95 true 12,oG 98 95 true (.call (.func 57) [oO 96,oO 97]),oP 99 95 98,oM 100 99,oG 101 100 true (.load true 3 (oO 3)),oD 102 100 true 7,oG 103 100 true (.call (.func 47) [oO 101,oO 102]),oG 104 100 true (.bin .eql 3 (oO 103) (oN 0)),oP 105 100 104,oM 106 105,oD 107 106 true 10,oG 108 106 true (.bin .eql 27 (oO 107) (oN 0)),oP 109 106 108,oM 110 109,oD 111 110 true 9,oD 112 110 true 14,oG 113 110 true (.bin .eql 3 (oO 111) (oO 112)),oP 114 110 113,oM 115 114,oD 116 115 true 9,oE 117 115 true 2 3,oJ 118 115 true 117,oG 119 115 true (.bin .leq 3 (oO 116) (oO 118)),oP 120 115 119,oM 6 120] [6] .ret)))))))))))))
def c21 : AC:=oX [o9 0 false] [] (oX [oC 11 88 [],oA 12 (.mkSl false 3 1 o1 5 [(0,oN (-900)),(1,oN (-900)),(2,oN (-900)),(3,oN (-900)),(4,oN (-900))]),oA 13 (.mkSl false 3 1 o1 5 [(0,oN (-870)),(1,oN (-855)),(2,oN (-850)),(3,oN (-855)),(4,oN (-840))]),oC 14 25 [oO 11,oO 12,oO 13],oM 10 14,o8 15 10 0,o8 16 10 1,oM 1 15,oM 2 16] [1,2] (oX [oC 18 89 [],oC 19 90 [],oC 20 39 [oO 18,oN 0,oO 19],oM 17 20,o8 21 17 0,o8 22 17 1,oM 3 21,oM 4 22] [1,2,3,4] (oX [oC 24 89 [],oC 25 90 [],oA 26 (.ssl 3 (oO 25) none (some (oN 3)) none),oC 27 36 [oO 24,oN 0,oO 26],oM 23 27,o8 28 23 0,o8 29 23 1,o8 30 23 2,oA 5 (.alloc oZ),oW 10 5 28,oM 6 29,oM 7 30] [1,2,3,4,5,7] (oX [oC 32 89 [],oA 33 (.build o3 [(2,1,oN 10)]),oA 34 (.build o3 [(0,1,oN 1),(1,1,oN 10),(2,1,oN 14)]),oA 35 (.build o3 [(1,1,oN 14),(2,1,oN 30)]),oA 36 (.mkSl false 138 3 o3 3 [(0,oO 33),(1,oO 34),(2,oO 35)]),oC 37 44 [oO 32,oO 36,oN 4],oM 31 37,o8 38 31 0,o8 39 31 1,oM 8 38,oM 9 39] [1,2,3,4,5,7,8,9] (oX [oM 40 2,oB 41 .eql 27 40 (oN 0),oM 42 41,oD 43 42 true 1,oG 44 42 true (.bin .eql 3 (oO 43) (oN 3)),oP 45 42 44,oM 46 45,oD 47 46 true 4,oG 48 46 true (.bin .eql 27 (oO 47) (oN 0)),oP 49 46 48,oM 50 49,oD 51 50 true 3,oG 52 50 true (.mkSl false 3 1 o1 2 [(0,oN 0),(1,oN 1)]),oG 53 50 true (.call (.func 30) [oO 51,oO 52]),oP 54 50 53,oM 55 54,oD 56 55 true 7,oG 57 55 true (.bin .eql 27 (oO 56) (oN 0)),oP 58 55 57,oM 59 58,oG 60 59 true (.load true 10 (oO 5)),oG 61 59 true (.call (.func 80) [oO 60]),⟨some 62,some (59,true),.bin .eql 9 (oO 61) (.const (.string ⟨#[51,32,48,32,48,32,48,32,45,49,32,45,49,32,48,32,50,32,49,124,48,32,49,124,124]⟩)),false⟩,oP 63 59 62,oM 64 63,oD 65 64 true 9,oG 66 64 true (.bin .eql 27 (oO 65) (oN 0)),oP 67 64 66,oM 68 67,oD 69 68 true 8,oG 70 68 true (.bin .eql 3 (oO 69) (oN 1)),oP 71 68 70,oM 0 71] [0] .ret)))))
def rv21 : List RV:=[.tmp 0]
theorem is21 : FnIs Tryz.prog 21 72 c21 rv21:=⟨⟨Tryz.f21,_,Tryz.func21,by kernel_rfl,rfl,rfl,by kernel_rfl,by kernel_rfl⟩,by decide⟩
def c23 : AC:=oX [o7 3 0,oA 6 (.mv (.const (.slice none 0 0))),oV 7 0] [1,2,3] (oS (oX [o5 9 3 3,oC 10 26 [oO 9],oM 11 1,oM 12 2,oC 13 92 [oO 11,oO 12],oA 14 (.mkSl false 27 1 o1 2 [(0,oO 10),(1,oO 13)]),oC 15 91 [oO 14],oM 8 15] [1,2,3,8] (oX [oM 16 8,oB 17 .neq 27 16 (oN 0)] [1,2,3,8,17] (oI 17 (oX [oM 18 8,oA 6 (.mv (.const (.slice none 0 0))),oM 7 18] [6,7] .ret)))) (oK [1,2,3] (oX [o5 19 3 3,oM 20 1,oM 21 2,oC 22 94 [oO 19,oO 20,oO 21],oC 23 93 [oO 22],oM 6 23,oV 7 0] [6,7] .ret)))
def rv23 : List RV:=[.tmp 6,.tmp 7]
theorem is23 : FnIs Tryz.prog 23 24 c23 rv23:=⟨⟨Tryz.f23,_,Tryz.func23,by kernel_rfl,rfl,rfl,by kernel_rfl,by kernel_rfl⟩,by decide⟩
def c25 : AC:=oX [o7 3 0,oV 6 0,oV 7 0] [1,2,3] (oX [o5 11 3 3,oM 12 1,oM 13 2,oC 14 23 [oO 11,oO 12,oO 13],oM 10 14,o8 15 10 0,o8 16 10 1,oM 8 15,oM 9 16] [8,9] (oS (oX [oM 17 9,oM 18 8,o4 19 18,oB 20 .gtr 3 19 (oN 0),oC 21 95 [oO 20,oN 12],oA 22 (.mkSl false 27 1 o1 2 [(0,oO 17),(1,oO 21)]),oC 23 91 [oO 22],oM 9 23] [8,9] (oX [oM 24 9,oB 25 .neq 27 24 (oN 0)] [8,9,25] (oI 25 (oX [oM 26 9,oV 6 0,oM 7 26] [6,7] .ret)))) (oK [8] (oX [oM 27 8,oA 28 (.iaddr 1 o1 (oO 27) (oN 0)),oL 29 28,oM 6 29,oV 7 0] [6,7] .ret))))
def rv25 : List RV:=[.tmp 6,.tmp 7]
theorem is25 : FnIs Tryz.prog 25 30 c25 rv25:=⟨⟨Tryz.f25,_,Tryz.func25,by kernel_rfl,rfl,rfl,by kernel_rfl,by kernel_rfl⟩,by decide⟩
def c26 : AC:=oX [o7 1 0,oV 2 0] [1] (oX [oF 4 0 1,oL 5 4,oC 6 96 [oO 5,oN (-300),oN 300],oM 7 6,oE 8 7 true 1 1,oJ 9 7 true 8,oG 10 7 true (.call (.func 96) [oO 9,oN 0,oN 300]),oP 11 7 10,oM 12 11,oE 13 12 true 2 1,oJ 14 12 true 13,oG 15 12 true (.call (.func 96) [oO 14,oN 0,oN 40]),oP 16 12 15,oM 3 16] [3] (oX [oM 17 3,oC 18 95 [oO 17,oN 2],oM 2 18] [2] .ret))
def rv26 : List RV:=[.tmp 2]
theorem is26 : FnIs Tryz.prog 26 19 c26 rv26:=⟨⟨Tryz.f26,_,Tryz.func26,by kernel_rfl,rfl,rfl,by kernel_rfl,by kernel_rfl⟩,by decide⟩
def c30l1 : AC:=oS (oX [oM 11 5,oM 12 0,o4 13 12,oB 14 .lss 3 11 (oO 13)] [0,1,5,14] (.cond (oO 14) .skip (.exit 0))) (oK [0,1,5] (oS (.block 1 (oS (oQ [oM 17 0,oA 18 (.mvs (oO 5)),oA 19 (.iaddr 1 o1 (oO 17) (oO 18)),oL 20 19,oM 21 1,oM 22 5,oA 23 (.iaddr 1 o1 (oO 21) (oO 22)),oL 24 23,oT 25 (.bin .neq 3 (oO 20) (oO 24))]) (oK [0,1,5,25] (oI 25 (oX [o9 4 false] [4] .ret))))) (oK [0,1,5] (oR [oM 15 5,oB 16 .add 3 15 (oN 1),oM 5 16]))))
def c30 : AC:=oX [o9 4 false] [0,1] (oS (oX [oM 6 0,o4 7 6,oM 8 1,o4 9 8,oB 10 .neq 3 7 (oO 9)] [0,1,10] (oI 10 (oX [o9 4 false] [4] .ret))) (oK [0,1] (oS (oX [oV 5 0] [0,1,5] (.block 0 (.loop c30l1))) (oK [] (oX [o9 4 true] [4] .ret)))))
def rv30 : List RV:=[.tmp 4]
theorem is30 : FnIs Tryz.prog 30 26 c30 rv30:=⟨⟨Tryz.f30,_,Tryz.func30,by kernel_rfl,rfl,rfl,by kernel_rfl,by kernel_rfl⟩,by decide⟩
def c31 : AC:=oX [o9 6 false] [0,1,2] (oX [oM 7 1,oM 8 0,oB 9 .leq 3 7 (oO 8),oM 10 9,oD 11 10 true 0,oD 12 10 true 2,oG 13 10 true (.bin .leq 3 (oO 11) (oO 12)),oP 14 10 13,oM 6 14] [6] .ret)
def rv31 : List RV:=[.tmp 6]
theorem is31 : FnIs Tryz.prog 31 15 c31 rv31:=⟨⟨Tryz.f31,_,Tryz.func31,by kernel_rfl,rfl,rfl,by kernel_rfl,by kernel_rfl⟩,by decide⟩
def qF : AC:=oS (oX [oM 14 3,oF 15 0 1,oL 16 15,o4 17 16,oB 18 .lss 3 14 (oO 17)] [1,3,18] (.cond (oO 18) .skip (.exit 0))) (oK [1,3] (oS (.block 1 (oX [oF 21 0 1,oL 22 21,oM 23 3,⟨some 24,none,.iaddr 1 [.string ⟨#[]⟩] (oO 22) (oO 23),false⟩,oL 25 24,oA 26 (.len true (oO 25)),oB 27 .gtr 3 26 (oN 20)] [1,3,27] (oI 27 (oX [o9 2 false] [2] .ret)))) (oK [1,3] (oR [oM 19 3,oB 20 .add 3 19 (oN 1),oM 3 20]))))
def c34 : AC:=oX [o7 1 0,o9 2 false] [1] (oS (oX [oF 4 0 1,oL 5 4,o4 6 5,oB 7 .gtr 3 6 (oN 8),oM 8 7,oE 9 8 false 1 1,oJ 10 8 false 9,oG 11 8 false (.len false (oO 10)),oG 12 8 false (.bin .gtr 3 (oO 11) (oN 20)),oH 13 8 12] [1,13] (oI 13 (oX [o9 2 false] [2] .ret))) (oK [1] (oS (oX [oV 3 0] [1,3] (.block 0 (.loop qF))) (oK [] (oX [o9 2 true] [2] .ret)))))
def rv34 : List RV:=[.tmp 2]
theorem is34 : FnIs Tryz.prog 34 28 c34 rv34:=⟨⟨Tryz.f34,_,Tryz.func34,by kernel_rfl,rfl,rfl,by kernel_rfl,by kernel_rfl⟩,by decide⟩
def c36 : AC:=oX [o7 3 0,oA 6 (.alloc oZ),oV 7 0,oV 8 0] [1,2,3,6] (oX [o5 13 3 3,oM 14 1,oM 15 2,oC 16 97 [oO 13,oO 14,oO 15],oM 12 16,o8 17 12 0,o8 18 12 1,o8 19 12 2,oM 9 17,oM 10 18,oM 11 19] [6,9,10,11] (oS (oX [oM 20 11,oB 21 .neq 27 20 (oN 0)] [6,9,10,11,21] (oI 21 (oX [oA 22 (.build oZ []),oM 23 10,oM 24 11,oW 10 6 22,oM 7 23,oM 8 24] [6,7,8] .ret))) (oK [6,9] (oX [oM 25 9,o6 26 25,oF 27 0 26,o5 28 10 27,oW 10 6 28,oV 7 0,oV 8 0] [6,7,8] .ret))))
def rv36 : List RV:=[.cell 6 true 10,.tmp 7,.tmp 8]
theorem is36 : FnIs Tryz.prog 36 29 c36 rv36:=⟨⟨Tryz.f36,_,Tryz.func36,by kernel_rfl,rfl,rfl,by kernel_rfl,by kernel_rfl⟩,by decide⟩
def c40 : AC:=oX [o7 2 0,oV 4 0] [1,2] (oS (oX [o5 6 3 2,oC 7 46 [oO 6],oM 5 7] [1,2,5] (oX [oM 8 5,oB 9 .neq 3 8 (oN 0)] [1,2,5,9] (oI 9 (oX [oM 10 5,oM 4 10] [4] .ret)))) (oK [1,2] (oS (oX [o5 11 3 2,oM 12 1,oC 13 99 [oO 11,oO 12],oA 14 (.un .not (oO 13))] [14] (oI 14 (oX [oV 4 6] [4] .ret))) (oK [] (oX [oV 4 0] [4] .ret)))))
def rv40 : List RV:=[.tmp 4]
theorem is40 : FnIs Tryz.prog 40 15 c40 rv40:=⟨⟨Tryz.f40,_,Tryz.func40,by kernel_rfl,rfl,rfl,by kernel_rfl,by kernel_rfl⟩,by decide⟩
def c41 : AC:=oX [o7 2 0,o7 3 1,o9 4 false] [2,3] (oX [oF 5 0 2,oL 6 5,oF 7 0 3,oL 8 7,oB 9 .eql 3 6 (oO 8),oM 10 9,oE 11 10 true 1 2,oJ 12 10 true 11,oE 13 10 true 1 3,oJ 14 10 true 13,oG 15 10 true (.bin .eql 3 (oO 12) (oO 14)),oP 16 10 15,oM 17 16,oE 18 17 true 2 2,oJ 19 17 true 18,oE 20 17 true 2 3,oJ 21 17 true 20,oG 22 17 true (.bin .eql 3 (oO 19) (oO 21)),oP 23 17 22,oM 24 23,oE 25 24 true 3 2,oJ 26 24 true 25,oE 27 24 true 3 3,oJ 28 24 true 27,oG 29 24 true (.bin .eql 3 (oO 26) (oO 28)),oP 30 24 29,oM 31 30,oE 32 31 true 4 2,oJ 33 31 true 32,oE 34 31 true 4 3,oJ 35 31 true 34,oG 36 31 true (.bin .eql 3 (oO 33) (oO 35)),oP 37 31 36,oM 38 37,oE 39 38 true 5 2,oJ 40 38 true 39,oE 41 38 true 5 3,oJ 42 38 true 41,oG 43 38 true (.bin .eql 3 (oO 40) (oO 42)),oP 44 38 43,oM 45 44,oE 46 45 true 6 2,oJ 47 45 true 46,oE 48 45 true 6 3,oJ 49 45 true 48,oG 50 45 true (.bin .eql 3 (oO 47) (oO 49)),oP 51 45 50,oM 52 51,oE 53 52 true 7 2,oJ 54 52 true 53,oE 55 52 true 7 3,oJ 56 52 true 55,oG 57 52 true (.bin .eql 3 (oO 54) (oO 56)),oP 58 52 57,oM 59 58,oE 60 59 true 8 2,oJ 61 59 true 60,oE 62 59 true 8 3,oJ 63 59 true 62,oG 64 59 true (.bin .eql 3 (oO 61) (oO 63)),oP 65 59 64,oM 66 65,oE 67 66 true 9 2,oJ 68 66 true 67,oE 69 66 true 9 3,oJ 70 66 true 69,oG 71 66 true (.call (.func 100) [oO 68,oO 70]),oP 72 66 71,oM 4 72] [4] .ret)
def rv41 : List RV:=[.tmp 4]
theorem is41 : FnIs Tryz.prog 41 73 c41 rv41:=⟨⟨Tryz.f41,_,Tryz.func41,by kernel_rfl,rfl,rfl,by kernel_rfl,by kernel_rfl⟩,by decide⟩
def qG : AC:=oX [oB 29 .lss 3 28 (oO 27)] [1,2,3,26,27,28,29] (oS (.cond (oO 29) .skip (.exit 0)) (oK [1,2,3,26,27,28] (oS (.block 1 (oX [oM 30 28,oA 31 (.iaddr 3 o3 (oO 26) (oO 28)),o5 32 3 31,oA 10 (.alloc o3),oM 9 30,oW 3 10 32] [1,2,3,9,10,26,27,28] (oX [oM 33 1,oM 34 9,oB 35 .sub 3 34 (oN 1),oA 36 (.ext (.mx true) [oN 0,oO 35]),oA 37 (.iaddr 3 o3 (oO 33) (oO 36)),o5 38 3 37,oA 11 (.alloc o3),oW 3 11 38] [1,2,3,9,10,11,26,27,28] (oS (oQ [oF 39 0 10,oL 40 39,oF 41 0 3,oL 42 41,o4 43 42,oB 44 .sub 3 43 (oN 1),oC 45 96 [oO 40,oN 0,oO 44],oC 46 95 [oO 45,oN 6],oF 47 1 10,oL 48 47,oC 49 102 [oO 48],oA 50 (.mvs (oO 49)),oE 51 50 true 2 10,oJ 52 50 true 51,oG 53 50 true (.call (.func 102) [oO 52]),oP 54 50 53,oC 55 95 [oO 54,oN 2],oF 56 1 10,oL 57 56,oF 58 2 10,oL 59 58,oB 60 .leq 3 57 (oO 59),oA 61 (.mvs (oO 60)),oD 62 61 true 9,oG 63 61 true (.bin .eql 3 (oO 62) (oN 0)),oD 64 61 true 63,oE 65 64 false 1 10,oJ 66 64 false 65,oE 67 64 false 2 11,oJ 68 64 false 67,oG 69 64 false (.bin .eql 3 (oO 66) (oO 68)),oG 70 61 true (.pick (oO 64) (.const (.bool true)) (oO 69)),oP 71 61 70,oC 72 95 [oO 71,oN 9],oM 73 9,oB 74 .eql 3 73 (oN 0),oT 75 (.mv (oO 74)),oE 76 75 false 0 10,oJ 77 75 false 76,oE 78 75 false 0 11,oJ 79 75 false 78,⟨some 80,some (75,false),.bin .neq 3 (oO 77) (oO 79),true⟩,oT 81 (.pick (oO 75) (.const (.bool true)) (oO 80)),oT 82 (.call (.func 95) [oO 81,oN 26]),oT 83 (.mkSl false 27 1 o1 4 [(0,oO 46),(1,oO 55),(2,oO 72),(3,oO 82)]),oT 84 (.call (.func 91) [oO 83]),oT 12 (.mv (oO 84))]) (oK [1,2,3,12,26,27,28] (oX [oM 85 12,oB 86 .neq 27 85 (oN 0)] [1,2,3,12,26,27,28,86] (oI 86 (oX [oM 87 12,oV 6 0,oM 7 87] [6,7] .ret)))))))) (oK [1,2,3,26,27,28] (oR [oB 88 .add 3 28 (oN 1),oM 28 88])))))
def c44l2 : AC:=oS (oX [oM 92 14,oB 93 .add 3 92 (oN 1),oM 94 1,o4 95 94,oB 96 .lss 3 93 (oO 95)] [1,2,13,14,96] (.cond (oO 96) .skip (.exit 2))) (oK [1,2,13,14] (oS (.block 3 (oS (oQ [oM 99 1,oA 100 (.mvs (oO 14)),oA 101 (.iaddr 3 o3 (oO 99) (oO 100)),oF 102 2 101,oL 103 102,oM 104 1,oA 105 (.mvs (oO 14)),oA 106 (.iaddr 3 o3 (oO 104) (oO 105)),oF 107 1 106,oL 108 107,oB 109 .sub 3 103 (oO 108),oM 110 2,oT 111 (.bin .leq 3 (oO 109) (oO 110)),oT 112 (.mv (oO 111)),oD 113 112 true 1,oD 114 112 true 14,oG 115 112 true (.bin .sub 3 (oO 114) (oN 1)),oG 116 112 true (.iaddr 3 o3 (oO 113) (oO 115)),oE 117 112 true 0 116,oJ 118 112 true 117,oD 119 112 true 1,oD 120 112 true 14,oG 121 112 true (.bin .add 3 (oO 120) (oN 1)),oG 122 112 true (.iaddr 3 o3 (oO 119) (oO 121)),oE 123 112 true 0 122,oJ 124 112 true 123,⟨some 125,some (112,true),.bin .eql 3 (oO 118) (oO 124),true⟩,oT 126 (.pick (oO 112) (oO 125) (.const (.bool false)))]) (oK [1,2,13,14,126] (oI 126 (oR [oM 127 13,oB 128 .add 3 127 (oN 1),oM 13 128]))))) (oK [1,2,13,14] (oR [oM 97 14,oB 98 .add 3 97 (oN 1),oM 14 98]))))
def c44 : AC:=oX [o7 3 0,oV 6 0,oV 7 0] [1,2,3] (oS (oX [o5 15 3 3,oC 16 101 [oO 15],oM 17 1,o4 18 17,oB 19 .leq 3 18 (oN 200),oC 20 95 [oO 19,oN 8],oA 21 (.mkSl false 27 1 o1 2 [(0,oO 16),(1,oO 20)]),oC 22 91 [oO 21],oM 8 22] [1,2,3,8] (oX [oM 23 8,oB 24 .neq 27 23 (oN 0)] [1,2,3,8,24] (oI 24 (oX [oM 25 8,oV 6 0,oM 7 25] [6,7] .ret)))) (oK [1,2,3] (oS (oX [oM 26 1,o4 27 26,oV 28 0] [1,2,3,26,27,28] (.block 0 (.loop qG))) (oK [1,2] (oS (oX [oM 89 2,oC 90 102 [oO 89],oA 91 (.un .not (oO 90))] [1,2,91] (oI 91 (oX [oV 6 0,oV 7 2] [6,7] .ret))) (oK [1,2] (oX [oV 13 0] [1,2,13] (oS (oX [oV 14 1] [1,2,13,14] (.block 2 (.loop c44l2))) (oK [13] (oX [oM 129 13,oM 6 129,oV 7 0] [6,7] .ret))))))))))
def rv44 : List RV:=[.tmp 6,.tmp 7]
theorem is44 : FnIs Tryz.prog 44 130 c44 rv44:=⟨⟨Tryz.f44,_,Tryz.func44,by kernel_rfl,rfl,rfl,by kernel_rfl,by kernel_rfl⟩,by decide⟩
def c46 : AC:=oX [o7 1 0,oV 2 0] [1] (oX [o5 6 3 1,oC 7 51 [oO 6],oM 5 7,o8 8 5 0,o8 9 5 1,oM 3 8,oM 4 9] [4] (oX [oM 10 4,oM 2 10] [2] .ret))
def rv46 : List RV:=[.tmp 2]
theorem is46 : FnIs Tryz.prog 46 11 c46 rv46:=⟨⟨Tryz.f46,_,Tryz.func46,by kernel_rfl,rfl,rfl,by kernel_rfl,by kernel_rfl⟩,by decide⟩
def c49l1 : AC:=oX [oB 31 .lss 3 30 (oO 29)] [1,28,29,30,31] (oS (.cond (oO 31) .skip (.exit 0)) (oK [1,28,29,30] (oS (.block 1 (oX [oM 32 30,⟨some 33,none,.iaddr 1 [.string ⟨#[]⟩] (oO 28) (oO 30),false⟩,oL 34 33,oM 5 32,oM 6 34] [1,5,6,28,29,30] (oS (oQ [oA 35 (.mvs (oO 6)),oC 36 103 [oO 35],oC 37 95 [oO 36,oN 4],oF 38 0 1,oL 39 38,oA 40 (.mvs (oO 5)),oA 41 (.ssl 1 (oO 39) none (some (oO 40)) none),oM 42 6,oT 43 (.call (.func 104) [oO 41,oO 42]),oT 44 (.un .not (oO 43)),oT 45 (.call (.func 95) [oO 44,oN 5]),oT 46 (.mkSl false 27 1 o1 2 [(0,oO 37),(1,oO 45)]),oT 47 (.call (.func 91) [oO 46]),oT 7 (.mv (oO 47))]) (oK [1,5,7,28,29,30] (oX [oM 48 7,oB 49 .neq 27 48 (oN 0)] [1,5,7,28,29,30,49] (oI 49 (oX [oM 50 5,oM 51 7,oM 2 50,oM 3 51] [2,3] .ret))))))) (oK [1,28,29,30] (oR [oB 52 .add 3 30 (oN 1),oM 30 52])))))
def c49l2 : AC:=oX [oB 58 .lss 3 57 (oO 56)] [1,8,55,56,57,58] (oS (.cond (oO 58) .skip (.exit 2)) (oK [1,8,55,56,57] (oS (.block 3 (oX [oM 59 57,oA 60 (.iaddr 2 o2 (oO 55) (oO 57)),o5 61 2 60,oA 10 (.alloc o2),oM 9 59,oW 2 10 61] [1,8,9,10,55,56,57] (oS (oQ [oM 62 8,oA 63 (.iarr 2 1 (oO 10) (oN 0)),oL 64 63,oA 65 (.call (oO 62) [oO 64]),oA 66 (.mvs (oO 65)),oD 67 66 true 8,oG 68 66 true (.iarr 2 1 (oO 10) (oN 1)),oJ 69 66 true 68,oG 70 66 true (.call (oO 67) [oO 69]),oP 71 66 70,oC 72 95 [oO 71,oN 6],oA 73 (.iarr 2 1 (oO 10) (oN 0)),oL 74 73,oA 75 (.iarr 2 1 (oO 10) (oN 1)),oL 76 75,oB 77 .lss 3 74 (oO 76),oC 78 95 [oO 77,oN 9],oF 79 1 1,oL 80 79,oA 81 (.mvs (oO 9)),oA 82 (.ssl 2 (oO 80) none (some (oO 81)) none),o5 83 2 10,oT 84 (.call (.func 106) [oO 82,oO 83]),oT 85 (.un .not (oO 84)),oT 86 (.call (.func 95) [oO 85,oN 26]),oT 87 (.mkSl false 27 1 o1 3 [(0,oO 72),(1,oO 78),(2,oO 86)]),oT 88 (.call (.func 91) [oO 87]),oT 11 (.mv (oO 88))]) (oK [1,8,9,11,55,56,57] (oX [oM 89 11,oB 90 .neq 27 89 (oN 0)] [1,8,9,11,55,56,57,90] (oI 90 (oX [oM 91 9,oM 92 11,oM 2 91,oM 3 92] [2,3] .ret))))))) (oK [1,8,55,56,57] (oR [oB 93 .add 3 57 (oN 1),oM 57 93])))))
def c49 : AC:=oX [o7 1 0,oV 2 0,oV 3 0] [1] (oS (oS (oQ [oF 12 0 1,oL 13 12,o4 14 13,oB 15 .gtr 3 14 (oN 0),oC 16 95 [oO 15,oN 10],oF 17 0 1,oL 18 17,o4 19 18,oB 20 .leq 3 19 (oN 6),oT 21 (.call (.func 95) [oO 20,oN 8]),oT 22 (.mkSl false 27 1 o1 2 [(0,oO 16),(1,oO 21)]),oT 23 (.call (.func 91) [oO 22]),oT 4 (.mv (oO 23))]) (oK [1,4] (oX [oM 24 4,oB 25 .neq 27 24 (oN 0)] [1,4,25] (oI 25 (oX [oM 26 4,oV 2 0,oM 3 26] [2,3] .ret))))) (oK [1] (oS (oX [oF 27 0 1,oL 28 27,o4 29 28,oV 30 0] [1,28,29,30] (.block 0 (.loop c49l1))) (oK [1] (oX [oA 53 (.mkFn (.func 105) [] [oO 1]),oM 8 53] [1,8] (oS (oX [oF 54 1 1,oL 55 54,o4 56 55,oV 57 0] [1,8,55,56,57] (.block 2 (.loop c49l2))) (oK [1] (oX [oF 94 2 1,oL 95 94,oC 96 96 [oO 95,oN 1,oN 100000],oC 97 95 [oO 96,oN 2],oV 2 0,oM 3 97] [2,3] .ret))))))))
def rv49 : List RV:=[.tmp 2,.tmp 3]
theorem is49 : FnIs Tryz.prog 49 98 c49 rv49:=⟨⟨Tryz.f49,_,Tryz.func49,by kernel_rfl,rfl,rfl,by kernel_rfl,by kernel_rfl⟩,by decide⟩
def c51l1 : AC:=oS (oX [oM 16 4,oF 17 0 1,oL 18 17,o4 19 18,oB 20 .lss 3 16 (oO 19)] [1,4,20] (.cond (oO 20) .skip (.exit 0))) (oK [1,4] (oS (.block 1 (oS (oX [oF 23 0 1,oL 24 23,oM 25 4,⟨some 26,none,.iaddr 1 [.string ⟨#[]⟩] (oO 24) (oO 25),false⟩,oL 27 26,oC 28 108 [oO 27],oA 29 (.un .not (oO 28))] [1,4,29] (oI 29 (oX [oM 30 4,oM 2 30,oV 3 4] [2,3] .ret))) (oK [1,4] (oS (oQ [oF 31 0 1,oL 32 31,oA 33 (.mvs (oO 4)),oA 34 (.ssl 1 (oO 32) none (some (oO 33)) none),oF 35 0 1,oL 36 35,oM 37 4,⟨some 38,none,.iaddr 1 [.string ⟨#[]⟩] (oO 36) (oO 37),false⟩,oL 39 38,oT 40 (.call (.func 109) [oO 34,oO 39])]) (oK [1,4,40] (oI 40 (oX [oM 41 4,oM 2 41,oV 3 5] [2,3] .ret))))))) (oK [1,4] (oR [oM 21 4,oB 22 .add 3 21 (oN 1),oM 4 22]))))
def qH : AC:=oS (oX [oM 73 7,oM 74 5,oB 75 .lss 3 73 (oO 74)] [1,5,6,7,75] (.cond (oO 75) .skip (.exit 4))) (oK [1,5,6,7] (oS (.block 5 (oS (oQ [oF 78 1 1,oL 79 78,oA 80 (.mvs (oO 7)),oA 81 (.iaddr 2 o2 (oO 79) (oO 80)),o5 82 2 81,o5 83 2 6,oT 84 (.ext (.eqs false [0,0]) [oO 82,oO 83])]) (oK [1,5,6,7,84] (oI 84 (oX [oM 85 5,oM 2 85,oV 3 26] [2,3] .ret))))) (oK [1,5,6,7] (oR [oM 76 7,oB 77 .add 3 76 (oN 1),oM 7 77]))))
def c51l3 : AC:=oS (oX [oM 42 5,oF 43 1 1,oL 44 43,o4 45 44,oB 46 .lss 3 42 (oO 45)] [1,5,46] (.cond (oO 46) .skip (.exit 2))) (oK [1,5] (oS (.block 3 (oX [oF 49 1 1,oL 50 49,oM 51 5,oA 52 (.iaddr 2 o2 (oO 50) (oO 51)),o5 53 2 52,oA 6 (.alloc o2),oW 2 6 53] [1,5,6] (oS (oX [o5 54 3 1,oA 55 (.iarr 2 1 (oO 6) (oN 0)),oL 56 55,oC 57 99 [oO 54,oO 56],oA 58 (.un .not (oO 57)),oM 59 58,oG 60 59 false (.load true 3 (oO 1)),oG 61 59 false (.iarr 2 1 (oO 6) (oN 1)),oJ 62 59 false 61,oG 63 59 false (.call (.func 99) [oO 60,oO 62]),oG 64 59 false (.un .not (oO 63)),oH 65 59 64] [1,5,6,65] (oI 65 (oX [oM 66 5,oM 2 66,oV 3 6] [2,3] .ret))) (oK [1,5,6] (oS (oX [oA 67 (.iarr 2 1 (oO 6) (oN 0)),oL 68 67,oA 69 (.iarr 2 1 (oO 6) (oN 1)),oL 70 69,oB 71 .geq 3 68 (oO 70)] [1,5,6,71] (oI 71 (oX [oM 72 5,oM 2 72,oV 3 9] [2,3] .ret))) (oK [1,5,6] (oX [oV 7 0] [1,5,6,7] (.block 4 (.loop qH))))))))) (oK [1,5] (oR [oM 47 5,oB 48 .add 3 47 (oN 1),oM 5 48]))))
def c51 : AC:=oX [o7 1 0,oV 2 0,oV 3 0] [1] (oS (oX [oF 8 0 1,oL 9 8,o4 10 9,oB 11 .eql 3 10 (oN 0)] [1,11] (oI 11 (oX [oV 2 0,oV 3 10] [2,3] .ret))) (oK [1] (oS (oX [oF 12 0 1,oL 13 12,o4 14 13,oB 15 .gtr 3 14 (oN 6)] [1,15] (oI 15 (oX [oV 2 0,oV 3 8] [2,3] .ret))) (oK [1] (oS (oX [oV 4 0] [1,4] (.block 0 (.loop c51l1))) (oK [1] (oS (oX [oV 5 0] [1,5] (.block 2 (.loop c51l3))) (oK [1] (oS (oX [oF 86 2 1,oL 87 86,oC 88 31 [oO 87,oN 1,oN 100000],oA 89 (.un .not (oO 88))] [89] (oI 89 (oX [oV 2 0,oV 3 2] [2,3] .ret))) (oK [] (oX [oV 2 0,oV 3 0] [2,3] .ret)))))))))))
def rv51 : List RV:=[.tmp 2,.tmp 3]
theorem is51 : FnIs Tryz.prog 51 90 c51 rv51:=⟨⟨Tryz.f51,_,Tryz.func51,by kernel_rfl,rfl,rfl,by kernel_rfl,by kernel_rfl⟩,by decide⟩
def c88 : AC:=oX [oA 0 (.alloc o3)] [0] (oX [oA 1 (.build o3 [(0,1,oN 30),(1,1,oN 10),(2,1,oN 2)]),oW 3 0 1] [0] .ret)
def rv88 : List RV:=[.cell 0 true 3]
theorem is88 : FnIs Tryz.prog 88 2 c88 rv88:=⟨⟨Tryz.f88,_,Tryz.func88,by kernel_rfl,rfl,rfl,by kernel_rfl,by kernel_rfl⟩,by decide⟩
def c89 : AC:=oX [oA 0 (.alloc [.slice none 0 0,.slice none 0 0,.int .i64 0])] [0] (oX [⟨some 1,none,.mkSl false 9 1 [.string ⟨#[]⟩] 3 [(0,(.const (.string ⟨#[97]⟩))),(1,(.const (.string ⟨#[98]⟩))),(2,(.const (.string ⟨#[99]⟩)))],false⟩,oA 2 (.build o2 [(0,1,oN 0),(1,1,oN 1)]),oA 3 (.build o2 [(0,1,oN 1),(1,1,oN 2)]),oA 4 (.mkSl false 40 2 o2 2 [(0,oO 2),(1,oO 3)]),oA 5 (.build [.slice none 0 0,.slice none 0 0,.int .i64 0] [(0,1,oO 1),(1,1,oO 4),(2,1,oN 100)]),oW 3 0 5] [0] .ret)
def rv89 : List RV:=[.cell 0 true 3]
theorem is89 : FnIs Tryz.prog 89 6 c89 rv89:=⟨⟨Tryz.f89,_,Tryz.func89,by kernel_rfl,rfl,rfl,by kernel_rfl,by kernel_rfl⟩,by decide⟩
def c90 : AC:=oX [oA 0 (.mv (.const (.slice none 0 0)))] [] (oX [oA 1 (.build o3 [(1,1,oN 1)]),oA 2 (.build o3 [(1,1,oN 2)]),oA 3 (.build o3 [(0,1,oN 1),(1,1,oN 3)]),oA 4 (.build o3 [(0,1,oN 3),(1,1,oN 4),(2,1,oN 1)]),oA 5 (.build o3 [(0,1,oN 5),(1,1,oN 5)]),oA 6 (.build o3 [(0,1,oN 7),(1,1,oN 6)]),oA 7 (.build o3 [(0,1,oN 7),(1,1,oN 7)]),oA 8 (.build o3 [(0,1,oN 6),(1,1,oN 8)]),oA 9 (.build o3 [(0,1,oN 1),(1,1,oN 9)]),oA 10 (.build o3 [(0,1,oN 2),(1,1,oN 10)]),oA 11 (.build o3 [(0,1,oN 1),(1,1,oN 11)]),oA 12 (.build o3 [(0,1,oN 2),(1,1,oN 12)]),oA 13 (.mkSl false 83 3 o3 12 [(0,oO 1),(1,oO 2),(2,oO 3),(3,oO 4),(4,oO 5),(5,oO 6),(6,oO 7),(7,oO 8),(8,oO 9),(9,oO 10),(10,oO 11),(11,oO 12)]),oM 0 13] [0] .ret)
def rv90 : List RV:=[.tmp 0]
theorem is90 : FnIs Tryz.prog 90 14 c90 rv90:=⟨⟨Tryz.f90,_,Tryz.func90,by kernel_rfl,rfl,rfl,by kernel_rfl,by kernel_rfl⟩,by decide⟩
def c91l1 : AC:=oX [oB 8 .lss 3 7 (oO 6)] [5,6,7,8] (oS (.cond (oO 8) .skip (.exit 0)) (oK [5,6,7] (oS (.block 1 (oX [oA 9 (.iaddr 1 o1 (oO 5) (oO 7)),oL 10 9,oM 4 10] [4,5,6,7] (oX [oM 11 4,oB 12 .neq 27 11 (oN 0)] [4,5,6,7,12] (oI 12 (oX [oM 13 4,oM 2 13] [2] .ret))))) (oK [5,6,7] (oR [oB 14 .add 3 7 (oN 1),oM 7 14])))))
def c91 : AC:=oX [oV 2 0] [0] (oS (oX [oM 5 0,o4 6 5,oV 7 0] [5,6,7] (.block 0 (.loop c91l1))) (oK [] (oX [oV 2 0] [2] .ret)))
def rv91 : List RV:=[.tmp 2]
theorem is91 : FnIs Tryz.prog 91 15 c91 rv91:=⟨⟨Tryz.f91,_,Tryz.func91,by kernel_rfl,rfl,rfl,by kernel_rfl,by kernel_rfl⟩,by decide⟩
def c92l1 : AC:=oX [oB 26 .lss 3 25 (oO 24)] [1,23,24,25,26] (oS (.cond (oO 26) .skip (.exit 0)) (oK [1,23,24,25] (oS (.block 1 (oX [oM 27 25,oA 28 (.iaddr 1 o1 (oO 23) (oO 25)),oL 29 28,oM 6 27,oM 7 29] [1,6,7,23,24,25] (oX [oM 30 7,oC 31 136 [oO 30],oA 32 (.un .not (oO 31)),oM 33 32,oD 34 33 false 1,oD 35 33 false 6,oG 36 33 false (.iaddr 1 o1 (oO 34) (oO 35)),oJ 37 33 false 36,oG 38 33 false (.call (.func 136) [oO 37]),oG 39 33 false (.un .not (oO 38)),oH 40 33 39] [1,23,24,25,40] (oI 40 (oX [oV 4 2] [4] .ret))))) (oK [1,23,24,25] (oR [oB 41 .add 3 25 (oN 1),oM 25 41])))))
def c92 : AC:=oX [oV 4 0] [0,1] (oS (oX [oM 8 1,o4 9 8,oM 10 0,o4 11 10,oB 12 .eql 3 9 (oO 11),oC 13 95 [oO 12,oN 10],oM 14 0,o4 15 14,oB 16 .leq 3 15 (oN 60),oC 17 95 [oO 16,oN 8],oA 18 (.mkSl false 27 1 o1 2 [(0,oO 13),(1,oO 17)]),oC 19 91 [oO 18],oM 5 19] [0,1,5] (oX [oM 20 5,oB 21 .neq 27 20 (oN 0)] [0,1,5,21] (oI 21 (oX [oM 22 5,oM 4 22] [4] .ret)))) (oK [0,1] (oS (oX [oM 23 0,o4 24 23,oV 25 0] [1,23,24,25] (.block 0 (.loop c92l1))) (oK [] (oX [oV 4 0] [4] .ret)))))
def rv92 : List RV:=[.tmp 4]
theorem is92 : FnIs Tryz.prog 92 42 c92 rv92:=⟨⟨Tryz.f92,_,Tryz.func92,by kernel_rfl,rfl,rfl,by kernel_rfl,by kernel_rfl⟩,by decide⟩
def c93 : AC:=oX [oA 2 (.mv (.const (.slice none 0 0)))] [0] (oX [oM 3 0,oC 4 137 [(.const (.slice none 0 0)),oO 3],oM 2 4] [2] .ret)
def rv93 : List RV:=[.tmp 2]
theorem is93 : FnIs Tryz.prog 93 5 c93 rv93:=⟨⟨Tryz.f93,_,Tryz.func93,by kernel_rfl,rfl,rfl,by kernel_rfl,by kernel_rfl⟩,by decide⟩
def c95 : AC:=oX [oV 4 0] [0,1] (oS (oX [oM 5 0] [1,5] (oI 5 (oX [oV 4 0] [4] .ret))) (oK [1] (oX [oM 6 1,oM 4 6] [4] .ret)))
def rv95 : List RV:=[.tmp 4]
theorem is95 : FnIs Tryz.prog 95 7 c95 rv95:=⟨⟨Tryz.f95,_,Tryz.func95,by kernel_rfl,rfl,rfl,by kernel_rfl,by kernel_rfl⟩,by decide⟩
def c96 : AC:=oX [o9 6 false] [0,1,2] (oX [oM 7 1,oM 8 0,oB 9 .leq 3 7 (oO 8),oM 10 9,oD 11 10 true 0,oD 12 10 true 2,oG 13 10 true (.bin .leq 3 (oO 11) (oO 12)),oP 14 10 13,oM 6 14] [6] .ret)
def rv96 : List RV:=[.tmp 6]
theorem is96 : FnIs Tryz.prog 96 15 c96 rv96:=⟨⟨Tryz.f96,_,Tryz.func96,by kernel_rfl,rfl,rfl,by kernel_rfl,by kernel_rfl⟩,by decide⟩
def qI : AC:=oX [oB 38 .lss 3 37 (oO 36)] [10,35,36,37,38] (oS (.cond (oO 38) .skip (.exit 0)) (oK [10,35,36,37] (oS (.block 1 (oX [oM 39 37,oA 40 (.iaddr 3 o3 (oO 35) (oO 37)),o5 41 3 40,oA 12 (.alloc o3),oM 11 39,oW 3 12 41] [10,11,12,35,36,37] (oX [oM 42 10,o5 43 3 12,oC 44 118 [oO 42,oO 43],oM 13 44] [10,11,13,35,36,37] (oX [oM 45 13,oB 46 .neq 27 45 (oN 0)] [10,11,13,35,36,37,46] (oI 46 (oX [oM 47 11,oM 48 13,oA 6 (.mv (.const (.pointer none))),oM 7 47,oM 8 48] [6,7,8] .ret)))))) (oK [10,35,36,37] (oR [oB 49 .add 3 37 (oN 1),oM 37 49])))))
def c97 : AC:=oX [o7 3 0,oA 6 (.mv (.const (.pointer none))),oV 7 0,oV 8 0] [1,2,3] (oS (oQ [o5 14 3 3,oC 15 101 [oO 14],oA 16 (.mvs (oO 1)),oF 17 0 3,oL 18 17,o4 19 18,oB 20 .sub 3 19 (oN 1),oC 21 96 [oO 16,oN 0,oO 20],oC 22 95 [oO 21,oN 6],oM 23 2,o4 24 23,oB 25 .leq 3 24 (oN 200),oT 26 (.call (.func 95) [oO 25,oN 8]),oT 27 (.mkSl false 27 1 o1 3 [(0,oO 15),(1,oO 22),(2,oO 26)]),oT 28 (.call (.func 91) [oO 27]),oT 9 (.mv (oO 28))]) (oK [1,2,3,9] (oS (oX [oM 29 9,oB 30 .neq 27 29 (oN 0)] [1,2,3,9,30] (oI 30 (oX [oM 31 9,oA 6 (.mv (.const (.pointer none))),oV 7 0,oM 8 31] [6,7,8] .ret))) (oK [1,2,3] (oX [o5 32 3 3,oM 33 1,oC 34 107 [oO 32,oO 33],oM 10 34] [2,10] (oS (oX [oM 35 2,o4 36 35,oV 37 0] [10,35,36,37] (.block 0 (.loop qI))) (oK [10] (oS (oQ [oM 50 10,o6 51 50,oF 52 14 51,oL 53 52,oM 54 10,o6 55 54,oF 56 14 55,oL 57 56,o4 58 57,oB 59 .sub 3 58 (oN 1),oM 60 10,o6 61 60,oF 62 0 61,oF 63 0 62,oL 64 63,oT 65 (.iaddr 3 o3 (oO 53) (oO 59)),oT 66 (.faddr 2 (oO 65)),⟨none,none,.store false 1 (oO 66) (oO 64),true⟩]) (oK [10] (oX [oM 67 10,oM 68 10,o6 69 68,oF 70 0 69,oF 71 0 70,oL 72 71,oC 73 139 [oO 67,oO 72]] [10] (oX [oM 74 10,oM 6 74,oV 7 0,oV 8 0] [6,7,8] .ret)))))))))))
def rv97 : List RV:=[.tmp 6,.tmp 7,.tmp 8]
theorem is97 : FnIs Tryz.prog 97 75 c97 rv97:=⟨⟨Tryz.f97,_,Tryz.func97,by kernel_rfl,rfl,rfl,by kernel_rfl,by kernel_rfl⟩,by decide⟩
def c98 : AC:=oX [oA 2 (.mv (.const (.slice none 0 0)))] [0] (oX [⟨some 3,none,.mkSl true 9 1 [.string ⟨#[]⟩] 0 [],false⟩,oM 4 0,⟨some 5,none,.app 44 9 1 16 [.string ⟨#[]⟩] (oO 3) (oO 4),false⟩,oM 2 5] [2] .ret)
def rv98 : List RV:=[.tmp 2]
theorem is98 : FnIs Tryz.prog 98 6 c98 rv98:=⟨⟨Tryz.f98,_,Tryz.func98,by kernel_rfl,rfl,rfl,by kernel_rfl,by kernel_rfl⟩,by decide⟩
def c99 : AC:=oX [o7 2 0,o9 4 false] [1,2] (oX [oM 5 1,oF 6 0 2,oL 7 6,o4 8 7,oB 9 .sub 3 8 (oN 1),oC 10 31 [oO 5,oN 0,oO 9],oM 4 10] [4] .ret)
def rv99 : List RV:=[.tmp 4]
theorem is99 : FnIs Tryz.prog 99 11 c99 rv99:=⟨⟨Tryz.f99,_,Tryz.func99,by kernel_rfl,rfl,rfl,by kernel_rfl,by kernel_rfl⟩,by decide⟩
def rj : AC:=oS (oX [oM 11 5,oM 12 0,o4 13 12,oB 14 .lss 3 11 (oO 13)] [0,1,5,14] (.cond (oO 14) .skip (.exit 0))) (oK [0,1,5] (oS (.block 1 (oS (oQ [oM 17 0,oA 18 (.mvs (oO 5)),oA 19 (.iaddr 1 o0 (oO 17) (oO 18)),oL 20 19,oM 21 1,oM 22 5,oA 23 (.iaddr 1 o0 (oO 21) (oO 22)),oL 24 23,oT 25 (.call (.func 30) [oO 20,oO 24]),oT 26 (.un .not (oO 25))]) (oK [0,1,5,26] (oI 26 (oX [o9 4 false] [4] .ret))))) (oK [0,1,5] (oR [oM 15 5,oB 16 .add 3 15 (oN 1),oM 5 16]))))
def c100 : AC:=oX [o9 4 false] [0,1] (oS (oX [oM 6 0,o4 7 6,oM 8 1,o4 9 8,oB 10 .neq 3 7 (oO 9)] [0,1,10] (oI 10 (oX [o9 4 false] [4] .ret))) (oK [0,1] (oS (oX [oV 5 0] [0,1,5] (.block 0 (.loop rj))) (oK [] (oX [o9 4 true] [4] .ret)))))
def rv100 : List RV:=[.tmp 4]
theorem is100 : FnIs Tryz.prog 100 27 c100 rv100:=⟨⟨Tryz.f100,_,Tryz.func100,by kernel_rfl,rfl,rfl,by kernel_rfl,by kernel_rfl⟩,by decide⟩
def c101 : AC:=oX [o7 1 0,oV 2 0] [1] (oX [o5 6 3 1,oC 7 49 [oO 6],oM 5 7,o8 8 5 0,o8 9 5 1,oM 3 8,oM 4 9] [4] (oX [oM 10 4,oM 2 10] [2] .ret))
def rv101 : List RV:=[.tmp 2]
theorem is101 : FnIs Tryz.prog 101 11 c101 rv101:=⟨⟨Tryz.f101,_,Tryz.func101,by kernel_rfl,rfl,rfl,by kernel_rfl,by kernel_rfl⟩,by decide⟩
def c102 : AC:=oX [o9 2 false] [0] (oX [oM 3 0,oC 4 96 [oO 3,oN 0,oN 1000000000],oM 2 4] [2] .ret)
def rv102 : List RV:=[.tmp 2]
theorem is102 : FnIs Tryz.prog 102 5 c102 rv102:=⟨⟨Tryz.f102,_,Tryz.func102,by kernel_rfl,rfl,rfl,by kernel_rfl,by kernel_rfl⟩,by decide⟩
def nK : AC:=oX [oB 10 .lss 3 9 (oO 8)] [0,7,8,9,10] (oS (.cond (oO 10) .skip (.exit 0)) (oK [0,7,8,9] (oS (.block 1 (oX [oM 11 9,oA 12 (.iaddr 1 [.int .u8 0] (oO 7) (oO 9)),oL 13 12,oM 3 11,oM 4 13] [0,3,4,7,8,9] (oX [oM 14 4,oA 15 (.bin .geq 5 (oO 14) (.const (.int .u8 97))),oM 16 15,oD 17 16 true 4,oG 18 16 true (.bin .leq 5 (oO 17) (.const (.int .u8 122))),oP 19 16 18,oM 20 19,oD 21 20 false 4,oG 22 20 false (.bin .geq 5 (oO 21) (.const (.int .u8 65))),oD 23 20 false 22,oD 24 23 true 4,oG 25 23 true (.bin .leq 5 (oO 24) (.const (.int .u8 90))),oG 26 20 false (.pick (oO 23) (oO 25) (.const (.bool false))),oH 27 20 26,oM 5 27] [0,3,4,5,7,8,9] (oX [oM 28 5,oA 29 (.un .not (oO 28)),oM 30 29,oD 31 30 true 3,oG 32 30 true (.bin .eql 3 (oO 31) (oN 0)),oD 33 30 true 32,oD 34 33 false 4,oG 35 33 false (.bin .neq 5 (oO 34) (.const (.int .u8 45))),oD 36 33 false 35,oD 37 36 true 4,oG 38 36 true (.bin .lss 5 (oO 37) (.const (.int .u8 48))),oD 39 36 true 38,oD 40 39 false 4,oG 41 39 false (.bin .gtr 5 (oO 40) (.const (.int .u8 57))),oG 42 36 true (.pick (oO 39) (.const (.bool true)) (oO 41)),oG 43 33 false (.pick (oO 36) (oO 42) (.const (.bool false))),oG 44 30 true (.pick (oO 33) (.const (.bool true)) (oO 43)),oP 45 30 44] [0,7,8,9,45] (oI 45 (oX [o9 2 false] [2] .ret)))))) (oK [0,7,8,9] (oR [oB 46 .add 3 9 (oN 1),oM 9 46])))))
def c103 : AC:=oX [o9 2 false] [0] (oS (oX [oM 6 0,oA 7 (.ext .s2b [oO 6]),o4 8 7,oV 9 0] [0,7,8,9] (.block 0 (.loop nK))) (oK [0] (oX [oM 47 0,⟨some 48,none,.bin .neq 9 (oO 47) (.const (.string ⟨#[]⟩)),false⟩,oM 49 48,oD 50 49 true 0,oG 51 49 true (.len true (oO 50)),oG 52 49 true (.bin .leq 3 (oO 51) (oN 12)),oP 53 49 52,oM 2 53] [2] .ret)))
def ph : List RV:=[.tmp 2]
theorem is103 : FnIs Tryz.prog 103 54 c103 ph:=⟨⟨Tryz.f103,_,Tryz.func103,by kernel_rfl,rfl,rfl,by kernel_rfl,by kernel_rfl⟩,by decide⟩
def c104 : AC:=oX [o9 4 false] [0,1] (oX [oM 5 0,oM 6 1,oC 7 140 [oO 5,oO 6],oB 8 .geq 3 7 (oN 0),oM 4 8] [4] .ret)
def rv104 : List RV:=[.tmp 4]
theorem is104 : FnIs Tryz.prog 104 9 c104 rv104:=⟨⟨Tryz.f104,_,Tryz.func104,by kernel_rfl,rfl,rfl,by kernel_rfl,by kernel_rfl⟩,by decide⟩
def c105 : AC:=oX [o9 3 false] [0,1] (oX [oM 4 0,oF 5 0 1,oL 6 5,o4 7 6,oB 8 .sub 3 7 (oN 1),oC 9 96 [oO 4,oN 0,oO 8],oM 3 9] [3] .ret)
def rv105 : List RV:=[.tmp 3]
theorem is105 : FnIs Tryz.prog 105 10 c105 rv105:=⟨⟨Tryz.f105,_,Tryz.func105,by kernel_rfl,rfl,rfl,by kernel_rfl,by kernel_rfl⟩,by decide⟩
def c106 : AC:=oX [o7 3 1,o9 4 false] [0,3] (oX [oM 5 0,o5 6 2 3,oC 7 141 [oO 5,oO 6],oB 8 .geq 3 7 (oN 0),oM 4 8] [4] .ret)
def rv106 : List RV:=[.tmp 4]
theorem is106 : FnIs Tryz.prog 106 9 c106 rv106:=⟨⟨Tryz.f106,_,Tryz.func106,by kernel_rfl,rfl,rfl,by kernel_rfl,by kernel_rfl⟩,by decide⟩
def rk : AC:=oS (oX [oM 14 3,oM 15 0,oA 16 (.len true (oO 15)),oB 17 .lss 3 14 (oO 16)] [0,3,17] (.cond (oO 17) .skip (.exit 0))) (oK [0,3] (oS (.block 1 (oX [oM 20 0,oM 21 3,oA 22 (.istr (oO 20) (oO 21)),oM 4 22] [0,3,4] (oX [oM 23 4,oA 24 (.bin .geq 5 (oO 23) (.const (.int .u8 97))),oM 25 24,oD 26 25 true 4,oG 27 25 true (.bin .leq 5 (oO 26) (.const (.int .u8 122))),oP 28 25 27,oM 29 28,oD 30 29 false 4,oG 31 29 false (.bin .geq 5 (oO 30) (.const (.int .u8 65))),oD 32 29 false 31,oD 33 32 true 4,oG 34 32 true (.bin .leq 5 (oO 33) (.const (.int .u8 90))),oG 35 29 false (.pick (oO 32) (oO 34) (.const (.bool false))),oH 36 29 35,oM 5 36] [0,3,4,5] (oX [oM 37 5,oA 38 (.un .not (oO 37)),oM 39 38,oD 40 39 true 3,oG 41 39 true (.bin .eql 3 (oO 40) (oN 0)),oD 42 39 true 41,oD 43 42 false 4,oG 44 42 false (.bin .neq 5 (oO 43) (.const (.int .u8 45))),oD 45 42 false 44,oD 46 45 true 4,oG 47 45 true (.bin .lss 5 (oO 46) (.const (.int .u8 48))),oD 48 45 true 47,oD 49 48 false 4,oG 50 48 false (.bin .gtr 5 (oO 49) (.const (.int .u8 57))),oG 51 45 true (.pick (oO 48) (.const (.bool true)) (oO 50)),oG 52 42 false (.pick (oO 45) (oO 51) (.const (.bool false))),oG 53 39 true (.pick (oO 42) (.const (.bool true)) (oO 52)),oP 54 39 53] [0,3,54] (oI 54 (oX [o9 2 false] [2] .ret)))))) (oK [0,3] (oR [oM 18 3,oB 19 .add 3 18 (oN 1),oM 3 19]))))
def c108 : AC:=oX [o9 2 false] [0] (oS (oX [oM 6 0,oA 7 (.len true (oO 6)),oB 8 .lss 3 7 (oN 1),oM 9 8,oD 10 9 false 0,oG 11 9 false (.len true (oO 10)),oG 12 9 false (.bin .gtr 3 (oO 11) (oN 12)),oH 13 9 12] [0,13] (oI 13 (oX [o9 2 false] [2] .ret))) (oK [0] (oS (oX [oV 3 0] [0,3] (.block 0 (.loop rk))) (oK [] (oX [o9 2 true] [2] .ret)))))
def mF : List RV:=[.tmp 2]
theorem is108 : FnIs Tryz.prog 108 55 c108 mF:=⟨⟨Tryz.f108,_,Tryz.func108,by kernel_rfl,rfl,rfl,by kernel_rfl,by kernel_rfl⟩,by decide⟩
def rl : AC:=oS (oX [oM 6 5,oM 7 0,o4 8 7,oB 9 .lss 3 6 (oO 8)] [0,1,5,9] (.cond (oO 9) .skip (.exit 0))) (oK [0,1,5] (oS (.block 1 (oX [oM 12 0,oM 13 5,⟨some 14,none,.iaddr 1 [.string ⟨#[]⟩] (oO 12) (oO 13),false⟩,oL 15 14,oM 16 1,oB 17 .eql 9 15 (oO 16)] [0,1,5,17] (oI 17 (oX [o9 4 true] [4] .ret)))) (oK [0,1,5] (oR [oM 10 5,oB 11 .add 3 10 (oN 1),oM 5 11]))))
def c109 : AC:=oX [o9 4 false] [0,1] (oS (oX [oV 5 0] [0,1,5] (.block 0 (.loop rl))) (oK [] (oX [o9 4 false] [4] .ret)))
def qR : List RV:=[.tmp 4]
theorem is109 : FnIs Tryz.prog 109 18 c109 qR:=⟨⟨Tryz.f109,_,Tryz.func109,by kernel_rfl,rfl,rfl,by kernel_rfl,by kernel_rfl⟩,by decide⟩
def c114 : AC:=oX [o7 2 0,o7 3 1,oV 4 0] [2,3] (oS (oS (oQ [oF 6 0 3,oL 7 6,oC 8 96 [oO 7,oN 0,oN 11],oC 9 95 [oO 8,oN 15],oF 10 1 3,oL 11 10,oT 12 (.call (.func 102) [oO 11]),oT 13 (.call (.func 95) [oO 12,oN 2]),oT 14 (.mkSl false 27 1 o1 2 [(0,oO 9),(1,oO 13)]),oT 15 (.call (.func 91) [oO 14]),oT 5 (.mv (oO 15))]) (oK [2,3,5] (oX [oM 16 5,oB 17 .neq 27 16 (oN 0)] [2,3,5,17] (oI 17 (oX [oM 18 5,oM 4 18] [4] .ret))))) (oK [2,3] (oS (oX [oF 19 0 3,oL 20 19,oA 21 (.iarr 12 3 (.global 0) (oO 20)),oF 22 1 21,oL 23 22] [2,3,23] (oI 23 (oX [oF 24 2 3,oL 25 24,oF 26 0 2,oL 27 26,o4 28 27,oB 29 .sub 3 28 (oN 1),oC 30 96 [oO 25,oN 0,oO 29],oC 31 95 [oO 30,oN 6],oM 4 31] [4] .ret))) (oK [3] (oX [oF 32 2 3,oL 33 32,oB 34 .eql 3 33 (oN 0),oC 35 95 [oO 34,oN 3],oM 4 35] [4] .ret)))))
def pj : List RV:=[.tmp 4]
theorem is114 : FnIs Tryz.prog 114 36 c114 pj:=⟨⟨Tryz.f114,_,Tryz.func114,by kernel_rfl,rfl,rfl,by kernel_rfl,by kernel_rfl⟩,by decide⟩
def c118 : AC:=oX [o7 3 1,oV 4 0] [0,3] (oS (oS (oQ [oM 7 0,o6 8 7,oF 9 10 8,o5 10 3 9,o5 11 3 3,oC 12 114 [oO 10,oO 11],oF 13 1 3,oL 14 13,oM 15 0,o6 16 15,oF 17 0 16,oF 18 0 17,oL 19 18,oB 20 .geq 3 14 (oO 19),oT 21 (.call (.func 95) [oO 20,oN 9]),oT 22 (.mkSl false 27 1 o1 2 [(0,oO 12),(1,oO 21)]),oT 23 (.call (.func 91) [oO 22]),oT 5 (.mv (oO 23))]) (oK [0,3,5] (oX [oM 24 5,oB 25 .neq 27 24 (oN 0)] [0,3,5,25] (oI 25 (oX [oM 26 5,oM 4 26] [4] .ret))))) (oK [0,3] (oX [oM 27 0,oF 28 1 3,oL 29 28,oC 30 151 [oO 27,oO 29]] [0,3] (oS (oS (oQ [oF 31 0 3,oL 32 31,oA 33 (.iarr 12 3 (.global 0) (oO 32)),oF 34 2 33,oL 35 34,oM 36 0,o5 37 3 3,oT 38 (.call (oO 35) [oO 36,oO 37]),oT 6 (.mv (oO 38))]) (oK [0,3,6] (oX [oM 39 6,oB 40 .neq 27 39 (oN 0)] [0,3,6,40] (oI 40 (oX [oM 41 6,oM 4 41] [4] .ret))))) (oK [0,3] (oX [oM 42 0,oF 43 1 3,oL 44 43,o6 45 42,oF 46 0 45,oF 47 0 46,oW 1 47 44] [] (oX [oV 4 0] [4] .ret)))))))
def rv118 : List RV:=[.tmp 4]
theorem is118 : FnIs Tryz.prog 118 48 c118 rv118:=⟨⟨Tryz.f118,_,Tryz.func118,by kernel_rfl,rfl,rfl,by kernel_rfl,by kernel_rfl⟩,by decide⟩
def c120 : AC:=oX [o9 2 false] [0] (oX [oM 3 0,o6 4 3,oF 5 0 4,oF 6 1 5,oL 7 6,oB 8 .eql 3 7 (oN 2),oM 9 8,oD 10 9 false 0,oG 11 9 false (.nilc (oO 10)),oE 12 9 false 0 11,oE 13 9 false 1 12,oJ 14 9 false 13,oG 15 9 false (.bin .eql 3 (oO 14) (oN 3)),oH 16 9 15,oM 2 16] [2] .ret)
def rv120 : List RV:=[.tmp 2]
theorem is120 : FnIs Tryz.prog 120 17 c120 rv120:=⟨⟨Tryz.f120,_,Tryz.func120,by kernel_rfl,rfl,rfl,by kernel_rfl,by kernel_rfl⟩,by decide⟩
def c121 : AC:=oX [oV 2 0] [0] (oS (oQ [oM 3 0,o6 4 3,oF 5 0 4,oF 6 2 5,oL 7 6,oM 8 0,o6 9 8,oF 10 10 9,oF 11 2 10,oL 12 11,oT 13 (.bin .add 3 (oO 7) (oO 12)),oT 2 (.mv (oO 13))]) (oK [2] .ret))
def rv121 : List RV:=[.tmp 2]
theorem is121 : FnIs Tryz.prog 121 14 c121 rv121:=⟨⟨Tryz.f121,_,Tryz.func121,by kernel_rfl,rfl,rfl,by kernel_rfl,by kernel_rfl⟩,by decide⟩
def c136 : AC:=oX [o9 2 false] [0] (oX [oM 3 0,oC 4 96 [oO 3,oN (-2000),oN 1000],oM 2 4] [2] .ret)
def rv136 : List RV:=[.tmp 2]
theorem is136 : FnIs Tryz.prog 136 5 c136 rv136:=⟨⟨Tryz.f136,_,Tryz.func136,by kernel_rfl,rfl,rfl,by kernel_rfl,by kernel_rfl⟩,by decide⟩
def c137r1 : AC:=.block 1 (oR [oL 8 2,oM 9 5,oA 10 (.mkSl false 3 1 o1 1 [(0,oO 9)]),oA 11 (.app 24 3 1 8 o1 (oO 8) (oO 10)),oY true 1 (oO 2) (oO 11)])
def c137 : AC:=oX [o7 2 0,oA 4 (.mv (.const (.slice none 0 0)))] [1,2] (oS (oX [oM 6 1] [2,6] (.block 0 (.rangeFunc (oO 6) [7] (oR [oM 5 7]) c137r1))) (oK [2] (oX [oL 12 2,oM 4 12] [4] .ret)))
def rv137 : List RV:=[.tmp 4]
theorem is137 : FnIs Tryz.prog 137 13 c137 rv137:=⟨⟨Tryz.f137,_,Tryz.func137,by kernel_rfl,rfl,rfl,by kernel_rfl,by kernel_rfl⟩,by decide⟩
def rm : AC:=oX [oB 13 .lss 3 12 (oO 11)] [0,2,3,5,6,10,11,12,13] (oS (.cond (oO 13) .skip (.exit 0)) (oK [0,2,3,5,6,10,11,12] (oS (.block 1 (oX [oM 14 12,oA 15 (.iaddr 1 o1 (oO 10) (oO 12)),oL 16 15,oM 7 14,oM 8 16] [0,2,3,5,6,7,8,10,11,12] (oX [oL 17 2,oM 18 7,oA 19 (.iaddr 1 o1 (oO 17) (oO 18)),oL 20 19,oM 9 20] [0,2,3,5,6,7,8,9,10,11,12] (oS (oX [oM 21 9,oM 22 8,oF 23 0 3,oL 24 23,oB 25 .add 3 22 (oO 24),oF 26 1 3,oL 27 26,oB 28 .add 3 25 (oO 27),oB 29 .gtr 3 21 (oO 28)] [0,2,3,5,6,7,8,9,10,11,12,29] (.cond (oO 29) (oR [oM 30 5,oB 31 .add 3 30 (oN 1),oM 5 31]) (oR [oV 5 0]))) (oK [0,2,3,5,6,7,8,9,10,11,12] (oS (oX [oM 32 9,oM 33 8,oF 34 0 3,oL 35 34,oB 36 .add 3 33 (oO 35),oF 37 1 3,oL 38 37,oB 39 .sub 3 36 (oO 38),oB 40 .lss 3 32 (oO 39)] [0,2,3,5,6,7,10,11,12,40] (oI 40 (oR [o9 6 true]))) (oK [0,2,3,5,6,7,10,11,12] (oX [oM 41 6,oM 42 41,oD 43 42 true 5,oE 44 42 true 2 3,oJ 45 42 true 44,oG 46 42 true (.bin .gtr 3 (oO 43) (oO 45)),oP 47 42 46] [0,2,3,5,6,7,10,11,12,47] (oI 47 (oX [o9 6 false] [0,2,3,5,6,7,10,11,12] (oX [oM 48 0,oM 49 7,oA 50 (.call (oO 48) [oO 49]),oA 51 (.un .not (oO 50))] [0,2,3,5,6,10,11,12,51] (oI 51 .ret)))))))))))) (oK [0,2,3,5,6,10,11,12] (oR [oB 52 .add 3 12 (oN 1),oM 12 52])))))
def c138 : AC:=oX [oV 5 0,o9 6 true] [0,1,2,3,5,6] (oX [oL 10 1,o4 11 10,oV 12 0] [0,2,3,5,6,10,11,12] (.block 0 (.loop rm)))
def mG : List RV:=[]
theorem is138 : FnIs Tryz.prog 138 53 c138 mG:=⟨⟨Tryz.f138,_,Tryz.func138,by kernel_rfl,rfl,rfl,by kernel_rfl,by kernel_rfl⟩,by decide⟩
def c139 : AC:=oS (oX [oM 4 0,o6 5 4,oF 6 15 5,oL 7 6,oB 8 .neq 3 7 (oN (-1))] [0,1,8] (oI 8 (oQ [oM 9 0,oM 10 0,o6 11 10,oF 12 16 11,oL 13 12,oA 14 (.mvs (oO 1)),oM 15 0,o6 16 15,oF 17 15 16,oL 18 17,oB 19 .sub 3 14 (oO 18),oA 20 (.ext (.mx true) [oO 13,oO 19]),oT 21 (.nilc (oO 9)),oT 22 (.faddr 16 (oO 21)),⟨none,none,.store false 1 (oO 22) (oO 20),true⟩]))) (oK [0] (oR [oM 23 0,o6 24 23,oF 25 15 24,oY false 1 (oO 25) (oN (-1))]))
def rv139 : List RV:=[]
theorem is139 : FnIs Tryz.prog 139 26 c139 rv139:=⟨⟨Tryz.f139,_,Tryz.func139,by kernel_rfl,rfl,rfl,by kernel_rfl,by kernel_rfl⟩,by decide⟩
def nL : AC:=oX [oB 9 .lss 3 8 (oO 7)] [0,1,7,8,9] (oS (.cond (oO 9) .skip (.exit 0)) (oK [0,1,7,8] (oS (.block 1 (oX [oM 10 8,oM 5 10] [0,1,5,7,8] (oX [oM 11 1,oM 12 0,oM 13 5,⟨some 14,none,.iaddr 1 [.string ⟨#[]⟩] (oO 12) (oO 13),false⟩,oL 15 14,oB 16 .eql 9 11 (oO 15)] [0,1,5,7,8,16] (oI 16 (oX [oM 17 5,oM 4 17] [4] .ret))))) (oK [0,1,7,8] (oR [oB 18 .add 3 8 (oN 1),oM 8 18])))))
def c140 : AC:=oX [oV 4 0] [0,1] (oS (oX [oM 6 0,o4 7 6,oV 8 0] [0,1,7,8] (.block 0 (.loop nL))) (oK [] (oX [oV 4 (-1)] [4] .ret)))
def pk : List RV:=[.tmp 4]
theorem is140 : FnIs Tryz.prog 140 19 c140 pk:=⟨⟨Tryz.f140,_,Tryz.func140,by kernel_rfl,rfl,rfl,by kernel_rfl,by kernel_rfl⟩,by decide⟩
def nM : AC:=oX [oB 9 .lss 3 8 (oO 7)] [0,3,7,8,9] (oS (.cond (oO 9) .skip (.exit 0)) (oK [0,3,7,8] (oS (.block 1 (oX [oM 10 8,oM 5 10] [0,3,5,7,8] (oS (oQ [o5 11 2 3,oM 12 0,oM 13 5,oA 14 (.iaddr 2 o2 (oO 12) (oO 13)),o5 15 2 14,oT 16 (.ext (.eqs false [0,0]) [oO 11,oO 15])]) (oK [0,3,5,7,8,16] (oI 16 (oX [oM 17 5,oM 4 17] [4] .ret)))))) (oK [0,3,7,8] (oR [oB 18 .add 3 8 (oN 1),oM 8 18])))))
def c141 : AC:=oX [o7 3 1,oV 4 0] [0,3] (oS (oX [oM 6 0,o4 7 6,oV 8 0] [0,3,7,8] (.block 0 (.loop nM))) (oK [] (oX [oV 4 (-1)] [4] .ret)))
def pl : List RV:=[.tmp 4]
theorem is141 : FnIs Tryz.prog 141 19 c141 pl:=⟨⟨Tryz.f141,_,Tryz.func141,by kernel_rfl,rfl,rfl,by kernel_rfl,by kernel_rfl⟩,by decide⟩
def c148 : AC:=oX [o9 4 false] [0,1] (oS (oQ [oM 5 0,o6 6 5,oF 7 10 6,oF 8 1 7,oL 9 8,oA 10 (.mvs (oO 1)),oM 11 0,o6 12 11,oF 13 0 12,oF 14 3 13,oL 15 14,oA 16 (.ext (.mx false) [oO 10,oO 15]),oA 17 (.mvs (oO 1)),oM 18 0,o6 19 18,oF 20 0 19,oF 21 3 20,oL 22 21,oA 23 (.ext (.mx true) [oO 17,oO 22]),oA 24 (.build o2 [(0,1,oO 16),(1,1,oO 23)]),oT 25 (.call (.func 106) [oO 9,oO 24]),oT 4 (.mv (oO 25))]) (oK [4] .ret))
def rv148 : List RV:=[.tmp 4]
theorem is148 : FnIs Tryz.prog 148 26 c148 rv148:=⟨⟨Tryz.f148,_,Tryz.func148,by kernel_rfl,rfl,rfl,by kernel_rfl,by kernel_rfl⟩,by decide⟩
def c149 : AC:=oX [o9 2 false] [0] (oS (oQ [oT 3 (.mv (oO 0)),oT 4 (.nilc (oO 3)),oT 5 (.faddr 0 (oO 4)),oT 6 (.faddr 5 (oO 5)),oT 7 (.load false 1 (oO 6)),oT 8 (.bin .neq 3 (oO 7) (oN (-1))),oT 9 (.mv (oO 8)),oD 10 9 true 0,oG 11 9 true (.nilc (oO 10)),oE 12 9 true 0 11,oE 13 9 true 6 12,oJ 14 9 true 13,oD 15 9 true 0,oG 16 9 true (.nilc (oO 15)),oE 17 9 true 0 16,oE 18 9 true 3 17,oJ 19 9 true 18,⟨some 20,some (9,true),.bin .eql 3 (oO 14) (oO 19),true⟩,oT 21 (.pick (oO 9) (oO 20) (.const (.bool false))),oT 22 (.mv (oO 21)),oD 23 22 true 0,oG 24 22 true (.nilc (oO 23)),oE 25 22 true 0 24,oE 26 22 true 9 25,oJ 27 22 true 26,oD 28 22 true 0,oG 29 22 true (.nilc (oO 28)),oE 30 22 true 0 29,oE 31 22 true 5 30,oJ 32 22 true 31,⟨some 33,some (22,true),.iaddr 1 o0 (oO 27) (oO 32),true⟩,⟨some 34,some (22,true),.load false 1 (oO 33),true⟩,⟨some 35,some (22,true),.len false (oO 34),true⟩,⟨some 36,some (22,true),.bin .eql 3 (oO 35) (oN 0),true⟩,oT 37 (.pick (oO 22) (oO 36) (.const (.bool false))),oT 2 (.mv (oO 37))]) (oK [2] .ret))
def pm : List RV:=[.tmp 2]
theorem is149 : FnIs Tryz.prog 149 38 c149 pm:=⟨⟨Tryz.f149,_,Tryz.func149,by kernel_rfl,rfl,rfl,by kernel_rfl,by kernel_rfl⟩,by decide⟩
def c151 : AC:=oX [oM 4 0,oC 5 120 [oO 4],oM 6 5,oD 7 6 true 0,oG 8 6 true (.call (.func 121) [oO 7]),oD 9 6 true 1,oG 10 6 true (.bin .leq 3 (oO 8) (oO 9)),oP 11 6 10] [0,11] (oI 11 (oR [oM 12 0,oM 13 0,oC 14 121 [oO 13],oC 15 166 [oO 12,oN 0,oO 14]]))
def rv151 : List RV:=[]
theorem is151 : FnIs Tryz.prog 151 16 c151 rv151:=⟨⟨Tryz.f151,_,Tryz.func151,by kernel_rfl,rfl,rfl,by kernel_rfl,by kernel_rfl⟩,by decide⟩
def rp : AC:=oX [oB 13 .lss 3 12 (oO 11)] [3,10,11,12,13] (oS (.cond (oO 13) .skip (.exit 0)) (oK [3,10,11,12] (oS (.block 1 (oX [oA 14 (.iaddr 1 o0 (oO 10) (oO 12)),oL 15 14,oM 5 15] [3,5,10,11,12] (oR [oM 16 3,oM 17 5,o4 18 17,oB 19 .add 3 16 (oO 18),oM 3 19]))) (oK [3,10,11,12] (oR [oB 20 .add 3 12 (oN 1),oM 12 20])))))
def c165 : AC:=oX [oV 2 0] [0] (oX [oV 3 0] [0,3] (oS (oX [oM 6 0,o6 7 6,oF 8 0 7,oF 9 9 8,oL 10 9,o4 11 10,oV 12 0] [3,10,11,12] (.block 0 (.loop rp))) (oK [3] (oX [oM 21 3,oM 2 21] [2] .ret))))
def qS : List RV:=[.tmp 2]
theorem is165 : FnIs Tryz.prog 165 22 c165 qS:=⟨⟨Tryz.f165,_,Tryz.func165,by kernel_rfl,rfl,rfl,by kernel_rfl,by kernel_rfl⟩,by decide⟩
def c167 : AC:=oX [o7 1 0,oV 2 0,oV 3 0] [1] (oS (oX [oF 4 1 1,oL 5 4,oB 6 .eql 3 5 (oN 2)] [1,6] (oI 6 (oS (oQ [oF 7 3 1,oL 8 7,oF 9 4 1,oL 10 9,oM 2 8,oT 3 (.mv (oO 10))]) (oK [2,3] .ret)))) (oK [1] (oS (oQ [oF 11 5 1,oL 12 11,oF 13 3 1,oL 14 13,oM 2 12,oT 3 (.mv (oO 14))]) (oK [2,3] .ret))))
def nN : AC:=oX [oB 12 .lss 3 11 (oO 10)] [0,3,9,10,11,12] (oS (.cond (oO 12) .skip (.exit 0)) (oK [0,3,9,10,11] (oS (.block 1 (oX [oA 13 (.iaddr 1 o0 (oO 9) (oO 11)),oL 14 13,oM 5 14] [0,3,5,9,10,11] (oX [oM 15 3,oM 16 5,o4 17 16,oB 18 .add 3 15 (oO 17),oM 3 18] [0,3,9,10,11] (oX [oM 19 3,oB 20 .lss 3 19 (oN 0)] [0,3,9,10,11,20] (oI 20 (oR [⟨some 21,none,.opq (.makeInterface 9 (.const (.string ⟨#[108,101,110,32,111,117,116,32,111,102,32,114,97,110,103,101]⟩))) 20,false⟩,⟨none,none,.opq (.panic (oO 21)) 0,false⟩])))))) (oK [0,3,9,10,11] (oR [oB 22 .add 3 11 (oN 1),oM 11 22])))))
def lN : AC:=oX [oB 28 .lss 3 27 (oO 26)] [6,25,26,27,28] (oS (.cond (oO 28) .skip (.exit 2)) (oK [6,25,26,27] (oS (.block 3 (oX [oA 29 (.iaddr 1 o0 (oO 25) (oO 27)),oL 30 29,oM 8 30] [6,8,25,26,27] (oR [oM 31 6,oM 32 8,oA 33 (.app 24 3 1 8 o1 (oO 31) (oO 32)),oM 6 33]))) (oK [6,25,26,27] (oR [oB 34 .add 3 27 (oN 1),oM 27 34])))))
def c181 : AC:=oX [oA 2 (.mv (.const (.slice none 0 0)))] [0] (oX [oV 3 0] [0,3] (oS (oX [oM 9 0,o4 10 9,oV 11 0] [0,3,9,10,11] (.block 0 (.loop nN))) (oK [0,3] (oX [oM 23 3,oC 24 201 [(.const (.slice none 0 0)),oO 23],oM 6 24] [0,6] (oS (oX [oM 25 0,o4 26 25,oV 27 0] [6,25,26,27] (.block 2 (.loop lN))) (oK [6] (.fz [6] (oX [oM 35 6,oM 2 35] [2] .ret))))))))
def jK : List RV:=[.tmp 2]
theorem is181 : FnIs Tryz.prog 181 36 c181 jK:=⟨⟨Tryz.f181,_,Tryz.func181,by kernel_rfl,rfl,rfl,by kernel_rfl,by kernel_rfl⟩,by decide⟩
def c184 : AC:=oS (oX [oM 6 1,oM 7 0,o6 8 7,oF 9 0 8,oF 10 3 9,oL 11 10,oB 12 .eql 3 6 (oO 11)] [0,1,2,12] (oI 12 .ret)) (oK [0,1,2] (oS (oQ [oM 13 0,o6 14 13,oF 15 14 14,oL 16 15,oM 17 0,o6 18 17,oF 19 14 18,oL 20 19,o4 21 20,oB 22 .sub 3 21 (oN 1),oM 23 2,oT 24 (.iaddr 3 o3 (oO 16) (oO 22)),oT 25 (.faddr 2 (oO 24)),⟨none,none,.store false 1 (oO 25) (oO 23),true⟩]) (oK [0,1,2] (oX [oM 26 0,oM 27 0,o6 28 27,oF 29 14 28,oL 30 29,oM 31 1,oM 32 2,oA 33 (.build o3 [(0,1,oO 31),(1,1,oO 32)]),oA 34 (.mkSl false 138 3 o3 1 [(0,oO 33)]),oA 35 (.app 65 138 3 24 o3 (oO 30) (oO 34)),o6 36 26,oF 37 14 36,oY true 1 (oO 37) (oO 35)] [0,1] (oR [oM 38 0,oM 39 1,o6 40 38,oF 41 0 40,oF 42 3 41,oW 1 42 39])))))
def rv184 : List RV:=[]
theorem is184 : FnIs Tryz.prog 184 43 c184 rv184:=⟨⟨Tryz.f184,_,Tryz.func184,by kernel_rfl,rfl,rfl,by kernel_rfl,by kernel_rfl⟩,by decide⟩
def rq : AC:=oX [oB 8 .lss 3 7 (oO 6)] [0,5,6,7,8] (oS (.cond (oO 8) .skip (.exit 0)) (oK [0,5,6,7] (oS (.block 1 (oX [oA 9 (.iaddr 1 o1 (oO 5) (oO 7)),oL 10 9,oM 4 10] [0,4,5,6,7] (oX [oM 11 0,oM 12 4,oA 13 (.call (oO 11) [oO 12]),oA 14 (.un .not (oO 13))] [0,5,6,7,14] (oI 14 .ret)))) (oK [0,5,6,7] (oR [oB 15 .add 3 7 (oN 1),oM 7 15])))))
def c200 : AC:=oX [oL 5 1,o4 6 5,oV 7 0] [0,5,6,7] (.block 0 (.loop rq))
def mH : List RV:=[]
theorem is200 : FnIs Tryz.prog 200 16 c200 mH:=⟨⟨Tryz.f200,_,Tryz.func200,by kernel_rfl,rfl,rfl,by kernel_rfl,by kernel_rfl⟩,by decide⟩
def c262 : AC:=oX [oM 2 0,oC 3 149 [oO 2]] [0,3] (oI 3 (oR [oM 4 0,o6 5 4,oF 6 0 5,oF 7 5 6,oY false 1 (oO 7) (oN (-1))]))
def rv262 : List RV:=[]
theorem is262 : FnIs Tryz.prog 262 8 c262 rv262:=⟨⟨Tryz.f262,_,Tryz.func262,by kernel_rfl,rfl,rfl,by kernel_rfl,by kernel_rfl⟩,by decide⟩
def c269 : AC:=oX [o7 3 1,oV 4 0] [0] (oS (oX [oM 7 0,oC 8 120 [oO 7]] [0,8] (oI 8 (oX [oV 4 22] [4] .ret))) (oK [0] (oS (oQ [oM 9 0,o6 10 9,oF 11 0 10,oF 12 9 11,oL 13 12,oM 14 0,o6 15 14,oF 16 0 15,oF 17 3 16,oL 18 17,oT 19 (.iaddr 1 o0 (oO 13) (oO 18)),oT 20 (.load false 1 (oO 19)),oT 5 (.mv (oO 20))]) (oK [0,5] (oS (oX [oM 21 5,o4 22 21,oB 23 .eql 3 22 (oN 0)] [0,5,23] (oI 23 (oX [oV 4 12] [4] .ret))) (oK [0,5] (oS (oX [oM 24 5,oA 25 (.iaddr 1 o1 (oO 24) (oN 0)),oL 26 25,oM 6 26] [0,6] (.block 0 (oX [oM 28 6,oM 29 0,o6 30 29,oF 31 0 30,oF 32 8 31,oL 33 32,oB 34 .gtr 3 28 (oO 33),oM 27 34] [0,6,27] (.cond (oO 27) (oX [oV 4 14] [4] .ret) (oX [oM 36 6,oM 37 0,o6 38 37,oF 39 0 38,oF 40 8 39,oL 41 40,oB 42 .eql 3 36 (oO 41),oM 35 42] [0,6,35] (oI 35 (oX [oM 43 0,oM 44 0,o6 45 44,oF 46 13 45,oL 47 46,oM 48 6,oA 49 (.mkSl false 3 1 o1 1 [(0,oO 48)]),oA 50 (.app 24 3 1 8 o1 (oO 47) (oO 49)),o6 51 43,oF 52 13 51,oY true 1 (oO 52) (oO 50)] [0] (oR [oM 53 0,o6 54 53,oF 55 0 54,oF 56 8 55,oL 57 56,oB 58 .add 3 57 (oN 1),o6 59 53,oF 60 0 59,oF 61 8 60,oW 1 61 58])))))))) (oK [] (oX [oV 4 0] [4] .ret)))))))))
def mI : List RV:=[.tmp 4]
theorem ol : FnIs Tryz.prog 269 62 c269 mI:=⟨⟨Tryz.f269,_,Tryz.func269,by kernel_rfl,rfl,rfl,by kernel_rfl,by kernel_rfl⟩,by decide⟩
def c270 : AC:=oX [o7 2 0,o7 3 1,oV 4 0] [2] (oS (oX [oL 6 2,oC 7 120 [oO 6]] [2,7] (oI 7 (oX [oV 4 22] [4] .ret))) (oK [2] (oS (oQ [oL 8 2,o6 9 8,oF 10 0 9,oF 11 9 10,oL 12 11,oL 13 2,o6 14 13,oF 15 0 14,oF 16 3 15,oL 17 16,oT 18 (.iaddr 1 o0 (oO 12) (oO 17)),oT 5 (.mv (oO 18))]) (oK [2,5] (oX [oM 19 5,oM 20 5,o6 21 20,oL 22 21,oA 23 (.mkFn (.func 280) [] [oO 2]),oC 24 182 [oO 22,oO 23],o6 25 19,oW 1 25 24] [] (oX [oV 4 0] [4] .ret))))))
def qT : List RV:=[.tmp 4]
theorem is270 : FnIs Tryz.prog 270 26 c270 qT:=⟨⟨Tryz.f270,_,Tryz.func270,by kernel_rfl,rfl,rfl,by kernel_rfl,by kernel_rfl⟩,by decide⟩
def c276 : AC:=oX [o7 3 1,oV 4 0] [0] (oS (oQ [oM 6 0,o6 7 6,oF 8 0 7,oF 9 5 8,oL 10 9,oB 11 .neq 3 10 (oN (-1)),oC 12 95 [oO 11,oN 12],oM 13 0,o6 14 13,oF 15 0 14,oF 16 1 15,oL 17 16,oB 18 .neq 3 17 (oN 3),oC 19 95 [oO 18,oN 22],oM 20 0,o6 21 20,oF 22 0 21,oF 23 6 22,oL 24 23,oM 25 0,o6 26 25,oF 27 0 26,oF 28 3 27,oL 29 28,oB 30 .neq 3 24 (oO 29),oT 31 (.call (.func 95) [oO 30,oN 26]),oT 32 (.mkSl false 27 1 o1 3 [(0,oO 12),(1,oO 19),(2,oO 31)]),oT 33 (.call (.func 91) [oO 32]),oT 5 (.mv (oO 33))]) (oK [0,5] (oS (oX [oM 34 5,oB 35 .eql 27 34 (oN 0)] [0,5,35] (oI 35 (oX [oM 36 0,oM 37 0,o6 38 37,oF 39 0 38,oF 40 3 39,oL 41 40,o6 42 36,oF 43 0 42,oF 44 6 43,oW 1 44 41] [0,5] (oR [oM 45 0,oC 46 262 [oO 45]])))) (oK [5] (oX [oM 47 5,oM 4 47] [4] .ret)))))
def pn : List RV:=[.tmp 4]
theorem qL : FnIs Tryz.prog 276 48 c276 pn:=⟨⟨Tryz.f276,_,Tryz.func276,by kernel_rfl,rfl,rfl,by kernel_rfl,by kernel_rfl⟩,by decide⟩
def c277 : AC:=oX [o7 3 1,oV 4 0] [0,3] (oS (oX [oM 5 0,o6 6 5,oF 7 0 6,oF 8 1 7,oL 9 8] [0,3,9] (.block 0 (oX [oB 17 .eql 3 9 (oN 3),oM 16 17] [0,3,9,16] (.cond (oO 16) (oX [oV 4 22] [4] .ret) (oX [oB 19 .eql 3 9 (oN 2),oM 18 19] [0,3,18] (.cond (oO 18) .skip (oR [oM 10 0,oF 11 1 3,oL 12 11,o6 13 10,oF 14 0 13,oF 15 2 14,oW 1 15 12]))))))) (oK [0,3] (oX [oM 20 0,o6 21 20,oF 22 0 21,oF 23 1 22,oY false 1 (oO 23) (oN 3)] [0,3] (oX [oM 24 0,oF 25 1 3,oL 26 25,oC 27 281 [oO 24,oO 26]] [] (oX [oV 4 0] [4] .ret)))))
def qU : List RV:=[.tmp 4]
theorem is277 : FnIs Tryz.prog 277 28 c277 qU:=⟨⟨Tryz.f277,_,Tryz.func277,by kernel_rfl,rfl,rfl,by kernel_rfl,by kernel_rfl⟩,by decide⟩
def c278 : AC:=oX [o7 3 1,oV 4 0] [0,3] (oS (oQ [oM 7 0,o6 8 7,oF 9 0 8,oF 10 3 9,oL 11 10,oM 12 0,o6 13 12,oF 14 0 13,oF 15 4 14,oL 16 15,oM 17 0,o6 18 17,oF 19 0 18,oF 20 5 19,oL 21 20,oA 22 (.mkSl false 3 1 o1 3 [(0,oO 11),(1,oO 16),(2,oO 21)]),oF 23 2 3,oL 24 23,oT 25 (.call (.func 284) [oO 22,oO 24]),oT 5 (.mv (oO 25))]) (oK [0,3,5] (oX [oM 26 0,o6 27 26,oF 28 0 27,oF 29 1 28,oL 30 29,oB 31 .eql 3 30 (oN 3),oC 32 95 [oO 31,oN 22],oM 33 5,oC 34 95 [oO 33,oN 6],oA 35 (.mkSl false 27 1 o1 2 [(0,oO 32),(1,oO 34)]),oC 36 91 [oO 35],oM 6 36] [0,3,6] (oS (oX [oM 37 6,oB 38 .eql 27 37 (oN 0)] [0,3,6,38] (oI 38 (oR [oM 39 0,oF 40 2 3,oL 41 40,oF 42 1 3,oL 43 42,oC 44 166 [oO 39,oO 41,oO 43]]))) (oK [6] (oX [oM 45 6,oM 4 45] [4] .ret))))))
def rv278 : List RV:=[.tmp 4]
theorem is278 : FnIs Tryz.prog 278 46 c278 rv278:=⟨⟨Tryz.f278,_,Tryz.func278,by kernel_rfl,rfl,rfl,by kernel_rfl,by kernel_rfl⟩,by decide⟩
def c279 : AC:=oX [o7 3 1,oV 4 0] [] (oX [oV 4 0] [4] .ret)
def rv279 : List RV:=[.tmp 4]
theorem is279 : FnIs Tryz.prog 279 5 c279 rv279:=⟨⟨Tryz.f279,_,Tryz.func279,by kernel_rfl,rfl,rfl,by kernel_rfl,by kernel_rfl⟩,by decide⟩
def c281 : AC:=oX [oM 4 0,o6 5 4,oF 6 15 5,oL 7 6,oB 8 .eql 3 7 (oN (-1))] [0,1,8] (oI 8 (oR [oM 9 0,oM 10 1,o6 11 9,oF 12 15 11,oW 1 12 10]))
def rv281 : List RV:=[]
theorem is281 : FnIs Tryz.prog 281 13 c281 rv281:=⟨⟨Tryz.f281,_,Tryz.func281,by kernel_rfl,rfl,rfl,by kernel_rfl,by kernel_rfl⟩,by decide⟩
def c284 : AC:=oX [o9 4 false] [0,1] (oX [oM 5 0,oM 6 1,oC 7 288 [oO 5,oO 6],oB 8 .geq 3 7 (oN 0),oM 4 8] [4] .ret)
def rv284 : List RV:=[.tmp 4]
theorem is284 : FnIs Tryz.prog 284 9 c284 rv284:=⟨⟨Tryz.f284,_,Tryz.func284,by kernel_rfl,rfl,rfl,by kernel_rfl,by kernel_rfl⟩,by decide⟩
def nO : AC:=oX [oB 9 .lss 3 8 (oO 7)] [0,1,7,8,9] (oS (.cond (oO 9) .skip (.exit 0)) (oK [0,1,7,8] (oS (.block 1 (oX [oM 10 8,oM 5 10] [0,1,5,7,8] (oX [oM 11 1,oM 12 0,oM 13 5,oA 14 (.iaddr 1 o1 (oO 12) (oO 13)),oL 15 14,oB 16 .eql 3 11 (oO 15)] [0,1,5,7,8,16] (oI 16 (oX [oM 17 5,oM 4 17] [4] .ret))))) (oK [0,1,7,8] (oR [oB 18 .add 3 8 (oN 1),oM 8 18])))))
def c288 : AC:=oX [oV 4 0] [0,1] (oS (oX [oM 6 0,o4 7 6,oV 8 0] [0,1,7,8] (.block 0 (.loop nO))) (oK [] (oX [oV 4 (-1)] [4] .ret)))
def po : List RV:=[.tmp 4]
theorem is288 : FnIs Tryz.prog 288 19 c288 po:=⟨⟨Tryz.f288,_,Tryz.func288,by kernel_rfl,rfl,rfl,by kernel_rfl,by kernel_rfl⟩,by decide⟩
end Go.Proofs.YtcbabnbiinkafaaGreatDoor
end
section
open Go Go.Am
open Go.Am.Dat (cells)
namespace Go.Proofs.YtcbabnbiinkafaaGreatDoor.D
set_option maxRecDepth 100000
def c94k1 : AC:=oX [oA 7 (.mkFn (.func 138) [] [oO 4,oO 5,oO 3]),oM 6 7] [6] .ret
def c94 : AC:=oX [o7 3 0,o7 4 1,o7 5 2,oA 6 (.mv (.const (.nilFunc)))] [3,4,5] (.cut c94k1)
def rv94 : List RV:=[.tmp 6]
theorem is94 : FnIs Tryz.prog 94 8 c94 rv94:=⟨⟨Tryz.f94,_,Tryz.func94,by kernel_rfl,rfl,rfl,by kernel_rfl,by kernel_rfl⟩,by decide⟩
end Go.Proofs.YtcbabnbiinkafaaGreatDoor.D
end
section
open Go Go.Am
open Go.Am.Dat (cells)
namespace Go.Proofs.YtcbabnbiinkafaaGreatDoor.D2
set_option maxRecDepth 100000
def c37 : AC:=oX [o7 1 0,oA 2 (.alloc [.slice none 0 0,.slice none 0 0,.int .i64 0])] [1,2] (oS (.draw 999 [1,2,6,9,10,102,106,109,110,206,209,210,306,309,310,405,406,409,410,506,509,510,609,610,708,709,710,809,810,910] [oF 3 0 1,oL 4 3,oC 5 98 [oO 4],oA 6 (.mkSl true 40 2 o2 0 []),oF 7 1 1,oL 8 7,oA 9 (.app 45 40 2 16 o2 (oO 6) (oO 8)),oF 10 2 1,oL 11 10,oT 12 (.build [.slice none 0 0,.slice none 0 0,.int .i64 0] [(0,1,oO 5),(1,1,oO 9),(2,1,oO 11)]),⟨none,none,.store false 3 (oO 2) (oO 12),true⟩]) (oK [2] .ret))
def rv37 : List RV:=[.cell 2 true 3]
theorem is37 : FnIs Tryz.prog 37 13 c37 rv37:=⟨⟨Tryz.f37,_,Tryz.func37,by kernel_rfl,rfl,rfl,by kernel_rfl,by kernel_rfl⟩,by decide⟩
end Go.Proofs.YtcbabnbiinkafaaGreatDoor.D2
end
section
open Go Go.Am
open Go.Am.Dat (cells)
namespace Go.Proofs.YtcbabnbiinkafaaGreatDoor.D3
set_option maxRecDepth 100000
def c107k1 : AC:=oX [oM 22 5,oM 4 22] [4] .ret
def c107 : AC:=oX [o7 2 0,oA 4 (.mv (.const (.pointer none)))] [1,2] (oX [o5 6 3 2,oM 7 1,oA 8 (.build o3 [(0,1,oO 7)]),oA 9 (.mkSl true 138 3 o3 1 [(0,oO 8)]),oA 10 (.build [.int .i64 0,.int .i64 0,.int .i64 0,.int .i64 0,.int .i64 0,.int .i64 0,.int .i64 0,.int .i64 0,.int .i64 0,.slice none 0 0,.slice none 0 0,.slice none 0 0,.int .i64 0,.slice none 0 0,.slice none 0 0,.int .i64 0,.int .i64 0] [(10,3,oO 6),(15,1,oN (-1)),(14,1,oO 9)]),o7 11 10,oM 5 11] [1,2,5] (oX [oM 12 5,oM 13 1,oM 14 1,oF 15 0 2,oL 16 15,o4 17 16,oA 18 (.makeSl 24 1 24 o0 (oO 17) (oO 17)),oA 19 (.build oZ [(3,1,oO 13),(6,1,oO 14),(4,1,oN (-1)),(5,1,oN (-1)),(9,1,oO 18)]),o6 20 12,oF 21 0 20,oW 10 21 19] [5] (.cut c107k1)))
def rv107 : List RV:=[.tmp 4]
theorem is107 : FnIs Tryz.prog 107 23 c107 rv107:=⟨⟨Tryz.f107,_,Tryz.func107,by kernel_rfl,rfl,rfl,by kernel_rfl,by kernel_rfl⟩,by decide⟩
def c137r1 : AC:=.block 1 (oR [oL 8 2,oM 9 5,oA 10 (.mkSl false 3 1 o1 1 [(0,oO 9)]),oA 11 (.app 24 3 1 8 o1 (oO 8) (oO 10)),oY true 1 (oO 2) (oO 11)])
def c137k2 : AC:=.ret
def c137 : AC:=oX [o7 2 0,oA 4 (.mv (.const (.slice none 0 0)))] [1,2] (oS (oX [oM 6 1] [2,6] (.block 0 (.rangeFunc (oO 6) [7] (oR [oM 5 7]) c137r1))) (oK [2] (oX [oL 12 2,oM 4 12] [4] (.cut c137k2))))
def rv137 : List RV:=[.tmp 4]
theorem is137 : FnIs Tryz.prog 137 13 c137 rv137:=⟨⟨Tryz.f137,_,Tryz.func137,by kernel_rfl,rfl,rfl,by kernel_rfl,by kernel_rfl⟩,by decide⟩
def c180k1 : AC:=oX [oA 3 (.mkFn (.func 200) [] [oO 1]),oM 2 3] [2] .ret
def c180 : AC:=oX [o7 1 0,oA 2 (.mv (.const (.nilFunc)))] [1] (.cut c180k1)
def rv180 : List RV:=[.tmp 2]
theorem is180 : FnIs Tryz.prog 180 4 c180 rv180:=⟨⟨Tryz.f180,_,Tryz.func180,by kernel_rfl,rfl,rfl,by kernel_rfl,by kernel_rfl⟩,by decide⟩
def c166 : AC:=oX [o7 3 0] [1,2,3] (oX [oL 7 3,o6 8 7,oF 9 0 8,oF 10 9 9,oL 11 10,oC 12 181 [oO 11],oC 13 180 [oO 12],oC 14 179 [oO 13],oM 6 14] [1,2,3,6] (oX [oM 15 6,oA 16 (.mkFn (.func 183) [] [oO 3]),oC 17 182 [oO 15,oO 16],oM 6 17] [1,2,3,6] (oS (.draw 7 [0] [oL 18 3,oL 19 3,o6 20 19,oF 21 10 20,oF 22 0 21,oL 23 22,o4 24 23,oT 25 (.makeSl 24 1 24 o0 (oO 24) (oO 24)),oT 26 (.nilc (oO 18)),oT 27 (.faddr 0 (oO 26)),oT 28 (.faddr 9 (oO 27)),⟨none,none,.store false 1 (oO 28) (oO 25),true⟩]) (oK [1,2,3,6] (oX [oL 29 3,o6 30 29,oF 31 0 30,oF 32 9 31,oL 33 32,oM 34 1,oM 35 6,oA 36 (.iaddr 1 o0 (oO 33) (oO 34)),oW 1 36 35] [1,2,3] (oX [oL 37 3,oM 38 1,oM 39 2,oC 40 184 [oO 37,oO 38,oO 39]] [1,2,3] (oX [oL 41 3,oM 42 2,oC 43 139 [oO 41,oO 42]] [1,2,3] (.draw 999 [7,8,9,10,11,12,13,14,15,16,17,18,19,20,21,22,23,24,25,26,111,112,113,114,115,116,117,118,119,120,121,122,123,124,125,126,215,216,217,218,219,220,221,222,223,224,225,226,319,320,321,322,323,324,325,326,423,424,425,426,511,512,513,514,515,516,517,518,519,520,521,522,523,524,525,526,615,616,617,618,619,620,621,622,623,624,625,626,708,709,710,711,712,713,714,715,716,717,718,719,720,721,722,723,724,725,726,809,810,811,812,813,814,815,816,817,818,819,820,821,822,823,824,825,826,910,911,912,913,914,915,916,917,918,919,920,921,922,923,924,925,926,1011,1012,1013,1014,1015,1016,1017,1018,1019,1020,1021,1022,1023,1024,1025,1026,1112,1113,1114,1115,1116,1117,1118,1119,1120,1121,1122,1123,1124,1125,1126,1213,1214,1215,1216,1217,1218,1219,1220,1221,1222,1223,1224,1225,1226,1314,1315,1316,1317,1318,1319,1320,1321,1322,1323,1324,1325,1326,1415,1416,1417,1418,1419,1420,1421,1422,1423,1424,1425,1426,1516,1517,1518,1519,1520,1521,1522,1523,1524,1525,1526,1617,1618,1619,1620,1621,1622,1623,1624,1625,1626,1718,1719,1720,1721,1722,1723,1724,1725,1726,1819,1820,1821,1822,1823,1824,1825,1826,1920,1921,1922,1923,1924,1925,1926,2021,2022,2023,2024,2025,2026,2122,2123,2124,2125,2126,2223,2224,2225,2226,2324,2325,2326,2425,2426,2526] [oL 44 3,oL 45 3,oL 46 3,oL 47 3,oL 48 3,oA 49 (.mvs (oO 2)),oA 50 (.mvs (oO 1)),o6 51 44,oF 52 0 51,oF 53 1 52,oY false 1 (oO 53) (oN 0),o6 54 45,oF 55 0 54,oF 56 2 55,oW 1 56 49,o6 57 46,oF 58 0 57,oF 59 6 58,oW 1 59 50,o6 60 47,oF 61 0 60,oF 62 4 61,oY false 1 (oO 62) (oN (-1)),oT 63 (.nilc (oO 48)),oT 64 (.faddr 0 (oO 63)),oT 65 (.faddr 5 (oO 64)),⟨none,none,.store false 1 (oO 65) (oN (-1)),true⟩]))))))))
def rv166 : List RV:=[]
theorem is166 : FnIs Tryz.prog 166 66 c166 rv166:=⟨⟨Tryz.f166,_,Tryz.func166,by kernel_rfl,rfl,rfl,by kernel_rfl,by kernel_rfl⟩,by decide⟩
def c268 : AC:=oX [o7 3 1,oV 4 0] [0] (oS (oX [oM 5 0,oC 6 165 [oO 5],oB 7 .geq 3 6 (oN 60),oM 8 7,oD 9 8 false 0,oG 10 8 false (.nilc (oO 9)),oE 11 8 false 0 10,oE 12 8 false 7 11,oJ 13 8 false 12,oG 14 8 false (.bin .geq 3 (oO 13) (oN 1000000)),oH 15 8 14] [0,15] (oI 15 (oX [oV 4 16] [4] .ret))) (oK [0] (oS (.draw 28 [0,1,2,3,4,5,6,7,8,9] [oM 16 0,o6 17 16,oF 18 0 17,oF 19 9 18,oL 20 19,oM 21 0,o6 22 21,oF 23 0 22,oF 24 6 23,oL 25 24,oM 26 0,o6 27 26,oF 28 0 27,oF 29 9 28,oL 30 29,oM 31 0,o6 32 31,oF 33 0 32,oF 34 6 33,oL 35 34,oA 36 (.iaddr 1 o0 (oO 30) (oO 35)),oL 37 36,oM 38 0,o6 39 38,oF 40 0 39,oF 41 7 40,oL 42 41,oA 43 (.mkSl false 3 1 o1 1 [(0,oO 42)]),oT 44 (.app 24 3 1 8 o1 (oO 37) (oO 43)),oT 45 (.iaddr 1 o0 (oO 20) (oO 25)),⟨none,none,.store true 1 (oO 45) (oO 44),true⟩]) (oK [0] (oX [oM 46 0,o6 47 46,oF 48 0 47,oF 49 7 48,oL 50 49,oB 51 .add 3 50 (oN 1),o6 52 46,oF 53 0 52,oF 54 7 53,oW 1 54 51] [] (oX [oV 4 0] [4] .ret))))))
def rv268 : List RV:=[.tmp 4]
theorem is268 : FnIs Tryz.prog 268 55 c268 rv268:=⟨⟨Tryz.f268,_,Tryz.func268,by kernel_rfl,rfl,rfl,by kernel_rfl,by kernel_rfl⟩,by decide⟩
def c271 : AC:=oX [o7 3 1,oV 4 0] [0,3] (oS (oQ [oM 6 0,o6 7 6,oF 8 0 7,oF 9 1 8,oL 10 9,oB 11 .eql 3 10 (oN 0),oC 12 95 [oO 11,oN 22],oM 13 0,o6 14 13,oF 15 0 14,oF 16 5 15,oL 17 16,oB 18 .eql 3 17 (oN (-1)),oC 19 95 [oO 18,oN 17],oM 20 0,oF 21 2 3,oL 22 21,oT 23 (.call (.func 148) [oO 20,oO 22]),oT 24 (.call (.func 95) [oO 23,oN 6]),oT 25 (.mkSl false 27 1 o1 3 [(0,oO 12),(1,oO 19),(2,oO 24)]),oT 26 (.call (.func 91) [oO 25]),oT 5 (.mv (oO 26))]) (oK [0,3,5] (oS (oX [oM 27 5,oB 28 .eql 27 27 (oN 0)] [0,3,5,28] (oI 28 (.draw 999 [7,8,9,10,11,12,13,14,15,16,17,18,111,112,113,114,115,116,117,118,215,216,217,218,304,307,308,309,310,311,312,313,314,315,316,317,318,407,408,409,410,411,412,413,414,415,416,417,418,506,515,516,517,518,615,616,617,618,708,709,710,711,712,713,714,715,716,717,718,809,810,811,812,813,814,815,816,817,818,910,911,912,913,914,915,916,917,918,1011,1012,1013,1014,1015,1016,1017,1018,1112,1113,1114,1115,1116,1117,1118,1213,1214,1215,1216,1217,1218,1314,1315,1316,1317,1318,1415,1416,1417,1418,1516,1517,1518,1617,1618,1718] [oM 29 0,oM 30 0,oM 31 0,oF 32 2 3,oL 33 32,oF 34 1 3,oL 35 34,o6 36 29,oF 37 0 36,oF 38 4 37,oW 1 38 33,o6 39 30,oF 40 0 39,oF 41 1 40,oY false 1 (oO 41) (oN 1),oT 42 (.nilc (oO 31)),oT 43 (.faddr 0 (oO 42)),oT 44 (.faddr 2 (oO 43)),⟨none,none,.store false 1 (oO 44) (oO 35),true⟩]))) (oK [5] (oX [oM 45 5,oM 4 45] [4] .ret)))))
def rv271 : List RV:=[.tmp 4]
theorem is271 : FnIs Tryz.prog 271 46 c271 rv271:=⟨⟨Tryz.f271,_,Tryz.func271,by kernel_rfl,rfl,rfl,by kernel_rfl,by kernel_rfl⟩,by decide⟩
def c272 : AC:=oX [o7 3 1,oV 4 0] [0,3] (oS (oX [oM 5 0,o6 6 5,oF 7 0 6,oF 8 1 7,oL 9 8,oB 10 .neq 3 9 (oN 1)] [0,3,10] (oI 10 (oX [oV 4 22] [4] .ret))) (oK [0,3] (oS (.draw 999 [5,6,7,8,9,10,11,12,13,14,15,16,109,110,111,112,113,114,115,116,213,214,215,216,304,313,314,315,316,413,414,415,416,506,507,508,509,510,511,512,513,514,515,516,607,608,609,610,611,612,613,614,615,616,708,709,710,711,712,713,714,715,716,809,810,811,812,813,814,815,816,910,911,912,913,914,915,916,1011,1012,1013,1014,1015,1016,1112,1113,1114,1115,1116,1213,1214,1215,1216,1314,1315,1316,1415,1416,1516] [oM 11 0,oM 12 0,oM 13 0,oF 14 1 3,oL 15 14,o6 16 11,oF 17 0 16,oF 18 4 17,oY false 1 (oO 18) (oN (-1)),o6 19 12,oF 20 0 19,oF 21 1 20,oY false 1 (oO 21) (oN 0),oT 22 (.nilc (oO 13)),oT 23 (.faddr 0 (oO 22)),oT 24 (.faddr 2 (oO 23)),⟨none,none,.store false 1 (oO 24) (oO 15),true⟩]) (oK [] (oX [oV 4 0] [4] .ret)))))
def rv272 : List RV:=[.tmp 4]
theorem is272 : FnIs Tryz.prog 272 25 c272 rv272:=⟨⟨Tryz.f272,_,Tryz.func272,by kernel_rfl,rfl,rfl,by kernel_rfl,by kernel_rfl⟩,by decide⟩
def c273 : AC:=oX [o7 3 1,oV 4 0] [0,3] (oS (oX [oM 5 0,o6 6 5,oF 7 0 6,oF 8 1 7,oL 9 8,oB 10 .neq 3 9 (oN 1)] [0,3,10] (oI 10 (oX [oV 4 22] [4] .ret))) (oK [0,3] (oS (.draw 999 [4,5,6,7,8,9,10,11,108,109,110,111,203,208,209,210,211,308,309,310,311,405,406,407,408,409,410,411,506,507,508,509,510,511,607,608,609,610,611,708,709,710,711,809,810,811,910,911,1011] [oM 11 0,oM 12 0,oF 13 1 3,oL 14 13,o6 15 11,oF 16 0 15,oF 17 1 16,oY false 1 (oO 17) (oN 2),oT 18 (.nilc (oO 12)),oT 19 (.faddr 0 (oO 18)),oT 20 (.faddr 2 (oO 19)),⟨none,none,.store false 1 (oO 20) (oO 14),true⟩]) (oK [0,3] (oX [oM 21 0,oF 22 1 3,oL 23 22,oC 24 281 [oO 21,oO 23]] [] (oX [oV 4 0] [4] .ret))))))
def rv273 : List RV:=[.tmp 4]
theorem is273 : FnIs Tryz.prog 273 25 c273 rv273:=⟨⟨Tryz.f273,_,Tryz.func273,by kernel_rfl,rfl,rfl,by kernel_rfl,by kernel_rfl⟩,by decide⟩
def c274 : AC:=oX [o7 3 1,oV 4 0] [0,3] (oS (oX [oM 5 0,o6 6 5,oF 7 0 6,oF 8 1 7,oL 9 8,oB 10 .neq 3 9 (oN 2)] [0,3,10] (oI 10 (oX [oV 4 22] [4] .ret))) (oK [0,3] (oX [oM 11 0,oM 12 0,o6 13 12,oF 14 0 13,oF 15 3 14,oL 16 15,o6 17 11,oF 18 0 17,oF 19 5 18,oW 1 19 16] [0,3] (oS (oQ [oM 20 0,oM 21 0,o6 22 21,oF 23 0 22,oF 24 4 23,oL 25 24,oF 26 1 3,oL 27 26,oT 28 (.call (.func 184) [oO 20,oO 25,oO 27])]) (oK [0,3] (oX [oM 29 0,oF 30 1 3,oL 31 30,oC 32 139 [oO 29,oO 31]] [0,3] (oS (.draw 999 [5,6,7,8,9,10,11,12,13,14,15,16,109,110,111,112,113,114,115,116,213,214,215,216,304,313,314,315,316,413,414,415,416,506,507,508,509,510,511,512,513,514,515,516,607,608,609,610,611,612,613,614,615,616,708,709,710,711,712,713,714,715,716,809,810,811,812,813,814,815,816,910,911,912,913,914,915,916,1011,1012,1013,1014,1015,1016,1112,1113,1114,1115,1116,1213,1214,1215,1216,1314,1315,1316,1415,1416,1516] [oM 33 0,oM 34 0,oM 35 0,oF 36 1 3,oL 37 36,o6 38 33,oF 39 0 38,oF 40 4 39,oY false 1 (oO 40) (oN (-1)),o6 41 34,oF 42 0 41,oF 43 1 42,oY false 1 (oO 43) (oN 0),oT 44 (.nilc (oO 35)),oT 45 (.faddr 0 (oO 44)),oT 46 (.faddr 2 (oO 45)),⟨none,none,.store false 1 (oO 46) (oO 37),true⟩]) (oK [] (oX [oV 4 0] [4] .ret)))))))))
def rv274 : List RV:=[.tmp 4]
theorem is274 : FnIs Tryz.prog 274 47 c274 rv274:=⟨⟨Tryz.f274,_,Tryz.func274,by kernel_rfl,rfl,rfl,by kernel_rfl,by kernel_rfl⟩,by decide⟩
def c275 : AC:=oX [o7 3 1,oV 4 0] [0] (oS (oQ [oM 10 0,o6 11 10,oF 12 0 11,oF 13 3 12,oL 14 13,oM 15 0,o6 16 15,oF 17 0 16,oF 18 4 17,oL 19 18,oM 5 14,oT 6 (.mv (oO 19))]) (oK [0,5,6] (oS (oX [oM 20 0,o6 21 20,oF 22 0 21,oF 23 1 22,oL 24 23,oB 25 .neq 3 24 (oN 2)] [0,5,6,25] (oI 25 (oS (oX [oM 26 0,o6 27 26,oF 28 0 27,oF 29 1 28,oL 30 29,oB 31 .neq 3 30 (oN 0),oM 32 31,oD 33 32 false 0,oG 34 32 false (.nilc (oO 33)),oE 35 32 false 0 34,oE 36 32 false 5 35,oJ 37 32 false 36,oG 38 32 false (.bin .eql 3 (oO 37) (oN (-1))),oH 39 32 38] [0,39] (oI 39 (oX [oV 4 22] [4] .ret))) (oK [0] (oQ [oM 40 0,o6 41 40,oF 42 0 41,oF 43 5 42,oL 44 43,oM 45 0,o6 46 45,oF 47 0 46,oF 48 3 47,oL 49 48,oM 5 44,oT 6 (.mv (oO 49))]))))) (oK [0,5,6] (oS (oX [oM 50 0,o6 51 50,oF 52 0 51,oF 53 9 52,oL 54 53,oM 55 5,oA 56 (.iaddr 1 o0 (oO 54) (oO 55)),oL 57 56,o4 58 57,oB 59 .eql 3 58 (oN 0)] [0,5,6,59] (oI 59 (oX [oV 4 12] [4] .ret))) (oK [0,5,6] (oX [oM 60 0,o6 61 60,oF 62 0 61,oF 63 9 62,oL 64 63,oM 65 5,oA 66 (.iaddr 1 o0 (oO 64) (oO 65)),oL 67 66,oA 68 (.iaddr 1 o1 (oO 67) (oN 0)),oL 69 68,oM 7 69] [0,5,6,7] (oS (.draw 14 [0,1,2,3,4,5] [oM 70 0,o6 71 70,oF 72 0 71,oF 73 9 72,oL 74 73,oA 75 (.mvs (oO 5)),oM 76 0,o6 77 76,oF 78 0 77,oF 79 9 78,oL 80 79,oM 81 5,oA 82 (.iaddr 1 o0 (oO 80) (oO 81)),oL 83 82,oT 84 (.ssl 1 (oO 83) (some (oN 1)) none none),oT 85 (.iaddr 1 o0 (oO 74) (oO 75)),⟨none,none,.store false 1 (oO 85) (oO 84),true⟩]) (oK [0,6,7] (oX [oM 87 0,o6 88 87,oF 89 0 88,oF 90 9 89,oL 91 90,oM 92 6,oA 93 (.iaddr 1 o0 (oO 91) (oO 92)),oL 94 93,oM 95 7,oC 96 282 [oO 94,oO 95],oM 86 96,o8 97 86 0,o8 98 86 1,oM 8 97,oM 9 98] [0,6,7,8] (oS (.draw 999 [1,2,3,4,18,19,102,103,104,118,119,203,204,218,219,304,318,319,418,419,518,519,607,608,609,610,612,613,617,618,619,708,709,710,712,713,717,718,719,809,810,812,813,817,818,819,910,912,913,917,918,919,1012,1013,1017,1018,1019,1112,1113,1117,1118,1119,1213,1217,1218,1219,1317,1318,1319,1417,1418,1419,1516,1517,1518,1519,1617,1618,1619,1718,1719,1819] [oM 99 0,o6 100 99,oF 101 0 100,oF 102 9 101,oL 103 102,oA 104 (.mvs (oO 6)),oM 105 0,o6 106 105,oF 107 0 106,oF 108 9 107,oL 109 108,oA 110 (.mvs (oO 6)),oA 111 (.iaddr 1 o0 (oO 109) (oO 110)),oL 112 111,oA 113 (.mvs (oO 8)),oM 114 7,oA 115 (.mkSl true 3 1 o1 1 [(0,oO 114)]),oC 116 283 [oO 112,oO 113,oO 115],oT 117 (.iaddr 1 o0 (oO 103) (oO 104)),⟨none,none,.store false 1 (oO 117) (oO 116),true⟩]) (oK [0] (oX [oM 118 0,oC 119 262 [oO 118]] [] (oX [oV 4 0] [4] .ret))))))))))))))
def rv275 : List RV:=[.tmp 4]
theorem is275 : FnIs Tryz.prog 275 120 c275 rv275:=⟨⟨Tryz.f275,_,Tryz.func275,by kernel_rfl,rfl,rfl,by kernel_rfl,by kernel_rfl⟩,by decide⟩
end Go.Proofs.YtcbabnbiinkafaaGreatDoor.D3
end
section
open Go Go.Am
open Go.Am.Dat (cells)
namespace Go.Proofs.YtcbabnbiinkafaaGreatDoor.D4
set_option maxRecDepth 100000
def c118k1 : AC:=oS (oS (oQ [oF 31 0 3,oL 32 31,oA 33 (.iarr 12 3 (.global 0) (oO 32)),oF 34 2 33,oL 35 34,oM 36 0,o5 37 3 3,oT 38 (.call (oO 35) [oO 36,oO 37]),oT 6 (.mv (oO 38))]) (oK [0,3,6] (oX [oM 39 6,oB 40 .neq 27 39 (oN 0)] [0,3,6,40] (oI 40 (oX [oM 41 6,oM 4 41] [4] .ret))))) (oK [0,3] (oX [oM 42 0,oF 43 1 3,oL 44 43,o6 45 42,oF 46 0 45,oF 47 0 46,oW 1 47 44] [] (oX [oV 4 0] [4] .ret)))
def c118 : AC:=oX [o7 3 1,oV 4 0] [0,3] (oS (oS (oQ [oM 7 0,o6 8 7,oF 9 10 8,o5 10 3 9,o5 11 3 3,oC 12 114 [oO 10,oO 11],oF 13 1 3,oL 14 13,oM 15 0,o6 16 15,oF 17 0 16,oF 18 0 17,oL 19 18,oB 20 .geq 3 14 (oO 19),oT 21 (.call (.func 95) [oO 20,oN 9]),oT 22 (.mkSl false 27 1 o1 2 [(0,oO 12),(1,oO 21)]),oT 23 (.call (.func 91) [oO 22]),oT 5 (.mv (oO 23))]) (oK [0,3,5] (oX [oM 24 5,oB 25 .neq 27 24 (oN 0)] [0,3,5,25] (oI 25 (oX [oM 26 5,oM 4 26] [4] .ret))))) (oK [0,3] (oX [oM 27 0,oF 28 1 3,oL 29 28,oC 30 151 [oO 27,oO 29]] [0,3] (.cut c118k1))))
def rv118 : List RV:=[.tmp 4]
theorem is118 : FnIs Tryz.prog 118 48 c118 rv118:=⟨⟨Tryz.f118,_,Tryz.func118,by kernel_rfl,rfl,rfl,by kernel_rfl,by kernel_rfl⟩,by decide⟩
end Go.Proofs.YtcbabnbiinkafaaGreatDoor.D4
end
section
open Go Go.Am
open Go.Am.Dat (cells)
namespace Go.Proofs.YtcbabnbiinkafaaGreatDoor.D5
set_option maxRecDepth 100000
def c39k1 : AC:=.ret
def c39k2 : AC:=.ret
def c39 : AC:=oX [o7 3 0,oA 6 (.mv (.const (.slice none 0 0))),oV 7 0] [1,2,3] (oX [o5 12 3 3,oM 13 1,oM 14 2,oC 15 97 [oO 12,oO 13,oO 14],oM 11 15,o8 16 11 0,o8 17 11 1,o8 18 11 2,oM 8 16,oM 9 17,oM 10 18] [8,10] (oS (oX [oM 19 10,oB 20 .neq 27 19 (oN 0)] [8,10,20] (oI 20 (oX [oM 21 10,oA 6 (.mv (.const (.slice none 0 0))),oM 7 21] [6,7] (.cut c39k1)))) (oK [8] (oX [oM 22 8,o6 23 22,oF 24 13 23,oL 25 24,oM 6 25,oV 7 0] [6,7] (.cut c39k2)))))
def rv39 : List RV:=[.tmp 6,.tmp 7]
theorem is39 : FnIs Tryz.prog 39 26 c39 rv39:=⟨⟨Tryz.f39,_,Tryz.func39,by kernel_rfl,rfl,rfl,by kernel_rfl,by kernel_rfl⟩,by decide⟩
end Go.Proofs.YtcbabnbiinkafaaGreatDoor.D5
end
section
open Go Go.Am
open Go.Am.Dat (cells)
namespace Go.Proofs.YtcbabnbiinkafaaGreatDoor.D6
set_option maxRecDepth 100000
def c122l1 : AC:=oX [oB 9 .lss 3 8 (oO 7)] [3,6,7,8,9] (oS (.cond (oO 9) .skip (.exit 0)) (oK [3,6,7,8] (oS (.block 1 (oX [oA 10 (.iaddr 1 o1 (oO 6) (oO 8)),oL 11 10,oM 5 11] [3,5,6,7,8] (oR [oM 12 3,oM 13 5,oC 14 154 [oO 13],⟨some 15,none,.mkSl false 9 1 [.string ⟨#[]⟩] 1 [(0,oO 14)],false⟩,⟨some 16,none,.app 44 9 1 16 [.string ⟨#[]⟩] (oO 12) (oO 15),false⟩,oM 3 16]))) (oK [3,6,7,8] (oR [oB 17 .add 3 8 (oN 1),oM 8 17])))))
def c122 : AC:=oX [⟨some 2,none,.mv (.const (.string ⟨#[]⟩)),false⟩] [0] (oX [oA 3 (.mv (.const (.slice none 0 0)))] [0,3] (.nilrow 3 1 9 (oS (oX [oM 6 0,o4 7 6,oV 8 0] [3,6,7,8] (.block 0 (.loop c122l1))) (oK [3] (.fz [3] (oX [oM 18 3,⟨some 19,none,.call (.func 123) [oO 18,(.const (.string ⟨#[32]⟩))],false⟩,oM 2 19] [2] .ret))))))
def rv122 : List RV:=[.tmp 2]
theorem is122 : FnIs Tryz.prog 122 20 c122 rv122:=⟨⟨Tryz.f122,_,Tryz.func122,by kernel_rfl,rfl,rfl,by kernel_rfl,by kernel_rfl⟩,by decide⟩
def c80l1 : AC:=oX [oB 31 .lss 3 30 (oO 29)] [3,28,29,30,31] (oS (.cond (oO 31) .skip (.exit 0)) (oK [3,28,29,30] (oS (.block 1 (oX [oA 32 (.iaddr 1 o0 (oO 28) (oO 30)),oL 33 32,oM 5 33] [3,5,28,29,30] (oR [oM 34 3,oM 35 5,oC 36 122 [oO 35],⟨some 37,none,.mkSl false 9 1 [.string ⟨#[]⟩] 1 [(0,oO 36)],false⟩,⟨some 38,none,.app 44 9 1 16 [.string ⟨#[]⟩] (oO 34) (oO 37),false⟩,oM 3 38]))) (oK [3,28,29,30] (oR [oB 39 .add 3 30 (oN 1),oM 30 39])))))
def c80 : AC:=oX [o7 1 0,⟨some 2,none,.mv (.const (.string ⟨#[]⟩)),false⟩] [1] (oX [oF 6 0 1,oL 7 6,oF 8 1 1,oL 9 8,oF 10 2 1,oL 11 10,oF 12 3 1,oL 13 12,oF 14 4 1,oL 15 14,oF 16 5 1,oL 17 16,oF 18 6 1,oL 19 18,oF 20 7 1,oL 21 20,oF 22 8 1,oL 23 22,oA 24 (.mkSl false 3 1 o1 9 [(0,oO 7),(1,oO 9),(2,oO 11),(3,oO 13),(4,oO 15),(5,oO 17),(6,oO 19),(7,oO 21),(8,oO 23)]),oC 25 122 [oO 24],⟨some 26,none,.mkSl true 9 1 [.string ⟨#[]⟩] 1 [(0,oO 25)],false⟩,oM 3 26] [1,3] (oS (oX [oF 27 9 1,oL 28 27,o4 29 28,oV 30 0] [3,28,29,30] (.block 0 (.loop c80l1))) (oK [3] (.fz [3] (oX [oM 40 3,⟨some 41,none,.call (.func 123) [oO 40,(.const (.string ⟨#[124]⟩))],false⟩,oM 2 41] [2] .ret)))))
def rv80 : List RV:=[.tmp 2]
theorem is80 : FnIs Tryz.prog 80 42 c80 rv80:=⟨⟨Tryz.f80,_,Tryz.func80,by kernel_rfl,rfl,rfl,by kernel_rfl,by kernel_rfl⟩,by decide⟩
end Go.Proofs.YtcbabnbiinkafaaGreatDoor.D6
end
section
namespace Go.Proofs
open Go.Shelf
def Tryz.lays189_ren : Go.Shelf.Ren:=⟨fun | 189=>199 | 125=>217 | 257=>216 | 128=>235 | 129=>219 | 294=>226 | 295=>227 | 296=>228 | 297=>229 | 298=>230 | 299=>231 | 216=>232 | 300=>233 | 301=>234 | 328=>240 | 329=>241 | 330=>242 | 331=>243 | 332=>244 | 215=>245 | 343=>246 | n=>n,fun | 28=>24 | 3=>3 | 46=>230 | 0=>0 | 51=>243 | 53=>238 | 4=>4 | 183=>270 | 182=>269 | 131=>185 | 5=>5 | 9=>9 | 218=>281 | 222=>181 | 228=>288 | 229=>75 | n=>n,fun | n=>n⟩
theorem Tryz.lays189 : Go.Proofs.Lays.n189 Tryz.prog Tryz.lays189_ren:={
 mixed:=by kernel_rfl
 f125:=Tryz.func217.trans (congrArg some (by kernel_rfl))
 f128:=Tryz.func235.trans (congrArg some (by kernel_rfl))
 f129:=Tryz.func219.trans (congrArg some (by kernel_rfl))
 f189:=Tryz.func199.trans (congrArg some (by kernel_rfl))
 f215:=Tryz.func245.trans (congrArg some (by kernel_rfl))
 f216:=Tryz.func232.trans (congrArg some (by kernel_rfl))
 f257:=Tryz.func216.trans (congrArg some (by kernel_rfl))
 f294:=Tryz.func226.trans (congrArg some (by kernel_rfl))
 f295:=Tryz.func227.trans (congrArg some (by kernel_rfl))
 f296:=Tryz.func228.trans (congrArg some (by kernel_rfl))
 f297:=Tryz.func229.trans (congrArg some (by kernel_rfl))
 f298:=Tryz.func230.trans (congrArg some (by kernel_rfl))
 f299:=Tryz.func231.trans (congrArg some (by kernel_rfl))
 f300:=Tryz.func233.trans (congrArg some (by kernel_rfl))
 f301:=Tryz.func234.trans (congrArg some (by kernel_rfl))
 f328:=Tryz.func240.trans (congrArg some (by kernel_rfl))
 f329:=Tryz.func241.trans (congrArg some (by kernel_rfl))
 f330:=Tryz.func242.trans (congrArg some (by kernel_rfl))
 f331:=Tryz.func243.trans (congrArg some (by kernel_rfl))
 f332:=Tryz.func244.trans (congrArg some (by kernel_rfl))
 f343:=Tryz.func246.trans (congrArg some (by kernel_rfl))
 t0:=Tryz.underlying0
 a0:=Tryz.isAgg0
 z0:=Tryz.sizeOf0
 v0:=Tryz.zeroValue0
 t3:=Tryz.underlying3
 a3:=Tryz.isAgg3
 z3:=Tryz.sizeOf3
 v3:=Tryz.zeroValue3
 t4:=Tryz.underlying4
 a4:=Tryz.isAgg4
 z4:=Tryz.sizeOf4
 v4:=Tryz.zeroValue4
 t5:=Tryz.underlying5
 a5:=Tryz.isAgg5
 z5:=Tryz.sizeOf5
 v5:=Tryz.zeroValue5
 t9:=Tryz.underlying9
 a9:=Tryz.isAgg9
 z9:=Tryz.sizeOf9
 v9:=Tryz.zeroValue9
 t28:=Tryz.underlying24
 a28:=Tryz.isAgg24
 z28:=Tryz.sizeOf24
 v28:=Tryz.zeroValue24
 t46:=Tryz.underlying230
 a46:=Tryz.isAgg230
 z46:=Tryz.sizeOf230
 v46:=Tryz.zeroValue230
 t51:=Tryz.underlying243
 a51:=Tryz.isAgg243
 z51:=Tryz.sizeOf243
 v51:=Tryz.zeroValue243
 t53:=Tryz.underlying238
 a53:=Tryz.isAgg238
 z53:=Tryz.sizeOf238
 v53:=Tryz.zeroValue238
 t131:=Tryz.underlying185
 a131:=Tryz.isAgg185
 z131:=Tryz.sizeOf185
 v131:=Tryz.zeroValue185
 t182:=Tryz.underlying269
 a182:=Tryz.isAgg269
 z182:=Tryz.sizeOf269
 v182:=Tryz.zeroValue269
 t183:=Tryz.underlying270
 a183:=Tryz.isAgg270
 z183:=Tryz.sizeOf270
 v183:=Tryz.zeroValue270
 t218:=Tryz.underlying281
 a218:=Tryz.isAgg281
 z218:=Tryz.sizeOf281
 v218:=Tryz.zeroValue281
 t222:=Tryz.underlying181
 a222:=Tryz.isAgg181
 z222:=Tryz.sizeOf181
 v222:=Tryz.zeroValue181
 t228:=Tryz.underlying288
 a228:=Tryz.isAgg288
 z228:=Tryz.sizeOf288
 v228:=Tryz.zeroValue288
 t229:=Tryz.underlying75
 a229:=Tryz.isAgg75
 z229:=Tryz.sizeOf75
 v229:=Tryz.zeroValue75 }
def Tryz.laysNm225_ren : Go.Shelf.Ren:=⟨fun | 25=>282 | 31=>232 | 32=>285 | 37=>245 | n=>n,fun | 22=>24 | 3=>3 | 4=>4 | 40=>230 | 0=>0 | n=>n,fun | n=>n⟩
theorem Tryz.laysNm225 : Go.Proofs.Lays2.n25 Tryz.prog Tryz.laysNm225_ren:={
 mixed:=by kernel_rfl
 f25:=Tryz.func282.trans (congrArg some (by kernel_rfl))
 f31:=Tryz.func232.trans (congrArg some (by kernel_rfl))
 f32:=Tryz.func285.trans (congrArg some (by kernel_rfl))
 f37:=Tryz.func245.trans (congrArg some (by kernel_rfl))
 t0:=Tryz.underlying0
 a0:=Tryz.isAgg0
 z0:=Tryz.sizeOf0
 v0:=Tryz.zeroValue0
 t3:=Tryz.underlying3
 a3:=Tryz.isAgg3
 z3:=Tryz.sizeOf3
 v3:=Tryz.zeroValue3
 t4:=Tryz.underlying4
 a4:=Tryz.isAgg4
 z4:=Tryz.sizeOf4
 v4:=Tryz.zeroValue4
 t22:=Tryz.underlying24
 a22:=Tryz.isAgg24
 z22:=Tryz.sizeOf24
 v22:=Tryz.zeroValue24
 t40:=Tryz.underlying230
 a40:=Tryz.isAgg230
 z40:=Tryz.sizeOf230
 v40:=Tryz.zeroValue230 }
def Tryz.laysNm221_ren : Go.Shelf.Ren:=⟨fun | 21=>283 | 27=>286 | 28=>287 | 35=>289 | 39=>290 | n=>n,fun | 22=>24 | 3=>3 | 4=>4 | 0=>0 | n=>n,fun | n=>n⟩
theorem Tryz.laysNm221 : Go.Proofs.Lays2.n21 Tryz.prog Tryz.laysNm221_ren:={
 mixed:=by kernel_rfl
 f21:=Tryz.func283.trans (congrArg some (by kernel_rfl))
 f27:=Tryz.func286.trans (congrArg some (by kernel_rfl))
 f28:=Tryz.func287.trans (congrArg some (by kernel_rfl))
 f35:=Tryz.func289.trans (congrArg some (by kernel_rfl))
 f39:=Tryz.func290.trans (congrArg some (by kernel_rfl))
 t0:=Tryz.underlying0
 a0:=Tryz.isAgg0
 z0:=Tryz.sizeOf0
 v0:=Tryz.zeroValue0
 t3:=Tryz.underlying3
 a3:=Tryz.isAgg3
 z3:=Tryz.sizeOf3
 v3:=Tryz.zeroValue3
 t4:=Tryz.underlying4
 a4:=Tryz.isAgg4
 z4:=Tryz.sizeOf4
 v4:=Tryz.zeroValue4
 t22:=Tryz.underlying24
 a22:=Tryz.isAgg24
 z22:=Tryz.sizeOf24
 v22:=Tryz.zeroValue24
 i3:=by kernel_rfl }
def Tryz.laysSlH10_f182_ren : Go.Shelf.Ren:=⟨fun | 10=>182 | 6=>202 | n=>n,fun | 22=>24 | 23=>3 | 25=>153 | 3=>3 | 4=>4 | 0=>0 | n=>n,fun | n=>n⟩
theorem Tryz.laysSlH10_f182 : Go.Proofs.SlLaysH.n10 Tryz.prog Tryz.laysSlH10_f182_ren:={
 mixed:=by kernel_rfl
 f6:=⟨Tryz.f202.name,by decide,Tryz.func202.trans (congrArg some (by kernel_rfl))⟩
 f10:=⟨Tryz.f182.name,by decide,Tryz.func182.trans (congrArg some (by kernel_rfl))⟩
 t0:=Tryz.underlying0
 a0:=Tryz.isAgg0
 z0:=Tryz.sizeOf0
 v0:=Tryz.zeroValue0
 t3:=Tryz.underlying3
 a3:=Tryz.isAgg3
 z3:=Tryz.sizeOf3
 v3:=Tryz.zeroValue3
 t4:=Tryz.underlying4
 a4:=Tryz.isAgg4
 z4:=Tryz.sizeOf4
 v4:=Tryz.zeroValue4
 t22:=Tryz.underlying24
 a22:=Tryz.isAgg24
 z22:=Tryz.sizeOf24
 v22:=Tryz.zeroValue24
 a23:=Tryz.isAgg3
 z23:=Tryz.sizeOf3
 t25:=Tryz.underlying153
 a25:=Tryz.isAgg153
 z25:=Tryz.sizeOf153
 v25:=Tryz.zeroValue153 }
def Tryz.lays156_ren : Go.Shelf.Ren:=⟨fun | 156=>123 | 165=>155 | 166=>156 | 169=>157 | 240=>170 | 241=>171 | 276=>186 | 277=>187 | n=>n,fun | 31=>44 | 9=>9 | 3=>3 | 4=>4 | 0=>0 | 20=>20 | 72=>201 | 76=>204 | 70=>199 | 37=>192 | 75=>203 | 127=>217 | 164=>226 | 5=>5 | 80=>206 | n=>n,fun | n=>n⟩
theorem Tryz.lays156 : Go.Proofs.Lays.n156 Tryz.prog Tryz.lays156_ren:={
 mixed:=by kernel_rfl
 f156:=Tryz.func123.trans (congrArg some (by kernel_rfl))
 f165:=Tryz.func155.trans (congrArg some (by kernel_rfl))
 f166:=Tryz.func156.trans (congrArg some (by kernel_rfl))
 f169:=Tryz.func157.trans (congrArg some (by kernel_rfl))
 f240:=Tryz.func170.trans (congrArg some (by kernel_rfl))
 f241:=Tryz.func171.trans (congrArg some (by kernel_rfl))
 f276:=Tryz.func186.trans (congrArg some (by kernel_rfl))
 f277:=Tryz.func187.trans (congrArg some (by kernel_rfl))
 t0:=Tryz.underlying0
 a0:=Tryz.isAgg0
 z0:=Tryz.sizeOf0
 v0:=Tryz.zeroValue0
 t3:=Tryz.underlying3
 a3:=Tryz.isAgg3
 z3:=Tryz.sizeOf3
 v3:=Tryz.zeroValue3
 t4:=Tryz.underlying4
 a4:=Tryz.isAgg4
 z4:=Tryz.sizeOf4
 v4:=Tryz.zeroValue4
 t9:=Tryz.underlying9
 a9:=Tryz.isAgg9
 z9:=Tryz.sizeOf9
 v9:=Tryz.zeroValue9
 t20:=Tryz.underlying20
 a20:=Tryz.isAgg20
 z20:=Tryz.sizeOf20
 v20:=Tryz.zeroValue20
 t31:=Tryz.underlying44
 a31:=Tryz.isAgg44
 z31:=Tryz.sizeOf44
 v31:=Tryz.zeroValue44
 t37:=Tryz.underlying192
 a37:=Tryz.isAgg192
 z37:=Tryz.sizeOf192
 v37:=Tryz.zeroValue192
 t70:=Tryz.underlying199
 a70:=Tryz.isAgg199
 z70:=Tryz.sizeOf199
 v70:=Tryz.zeroValue199
 t72:=Tryz.underlying201
 a72:=Tryz.isAgg201
 z72:=Tryz.sizeOf201
 v72:=Tryz.zeroValue201
 t75:=Tryz.underlying203
 a75:=Tryz.isAgg203
 z75:=Tryz.sizeOf203
 v75:=Tryz.zeroValue203
 t76:=Tryz.underlying204
 a76:=Tryz.isAgg204
 z76:=Tryz.sizeOf204
 v76:=Tryz.zeroValue204
 t127:=Tryz.underlying217
 a127:=Tryz.isAgg217
 z127:=Tryz.sizeOf217
 v127:=Tryz.zeroValue217
 t164:=Tryz.underlying226
 a164:=Tryz.isAgg226
 z164:=Tryz.sizeOf226
 v164:=Tryz.zeroValue226 }
def Tryz.laysM171_ren : Go.Shelf.Ren:=⟨fun | 171=>154 | 243=>169 | 246=>185 | 283=>203 | 284=>204 | 285=>205 | 286=>206 | 129=>219 | 317=>218 | 318=>220 | 319=>221 | 320=>222 | 337=>236 | 338=>237 | n=>n,fun | 3=>3 | 9=>9 | 2=>2 | 4=>4 | 171=>237 | 0=>0 | 53=>238 | 37=>192 | 5=>5 | 173=>241 | 212=>256 | 51=>243 | 20=>20 | 213=>257 | 46=>230 | 232=>286 | 233=>287 | n=>n,fun | 17=>2 | 18=>7 | 19=>8 | n=>n⟩
theorem Tryz.laysM171 : Go.Proofs.LaysM.n171 Tryz.prog Tryz.laysM171_ren:={
 mixed:=by kernel_rfl
 f129:=Tryz.func219.trans (congrArg some (by kernel_rfl))
 f171:=Tryz.func154.trans (congrArg some (by kernel_rfl))
 f243:=Tryz.func169.trans (congrArg some (by kernel_rfl))
 f246:=Tryz.func185.trans (congrArg some (by kernel_rfl))
 f283:=Tryz.func203.trans (congrArg some (by kernel_rfl))
 f284:=Tryz.func204.trans (congrArg some (by kernel_rfl))
 f285:=Tryz.func205.trans (congrArg some (by kernel_rfl))
 f286:=Tryz.func206.trans (congrArg some (by kernel_rfl))
 f317:=Tryz.func218.trans (congrArg some (by kernel_rfl))
 f318:=Tryz.func220.trans (congrArg some (by kernel_rfl))
 f319:=Tryz.func221.trans (congrArg some (by kernel_rfl))
 f320:=Tryz.func222.trans (congrArg some (by kernel_rfl))
 f337:=Tryz.func236.trans (congrArg some (by kernel_rfl))
 f338:=Tryz.func237.trans (congrArg some (by kernel_rfl))
 t0:=Tryz.underlying0
 a0:=Tryz.isAgg0
 z0:=Tryz.sizeOf0
 v0:=Tryz.zeroValue0
 t2:=Tryz.underlying2
 a2:=Tryz.isAgg2
 z2:=Tryz.sizeOf2
 v2:=Tryz.zeroValue2
 t3:=Tryz.underlying3
 a3:=Tryz.isAgg3
 z3:=Tryz.sizeOf3
 v3:=Tryz.zeroValue3
 t4:=Tryz.underlying4
 a4:=Tryz.isAgg4
 z4:=Tryz.sizeOf4
 v4:=Tryz.zeroValue4
 t5:=Tryz.underlying5
 a5:=Tryz.isAgg5
 z5:=Tryz.sizeOf5
 v5:=Tryz.zeroValue5
 t9:=Tryz.underlying9
 a9:=Tryz.isAgg9
 z9:=Tryz.sizeOf9
 v9:=Tryz.zeroValue9
 t20:=Tryz.underlying20
 a20:=Tryz.isAgg20
 z20:=Tryz.sizeOf20
 v20:=Tryz.zeroValue20
 t37:=Tryz.underlying192
 a37:=Tryz.isAgg192
 z37:=Tryz.sizeOf192
 v37:=Tryz.zeroValue192
 t46:=Tryz.underlying230
 a46:=Tryz.isAgg230
 z46:=Tryz.sizeOf230
 v46:=Tryz.zeroValue230
 t51:=Tryz.underlying243
 a51:=Tryz.isAgg243
 z51:=Tryz.sizeOf243
 v51:=Tryz.zeroValue243
 t53:=Tryz.underlying238
 a53:=Tryz.isAgg238
 z53:=Tryz.sizeOf238
 v53:=Tryz.zeroValue238
 t171:=Tryz.underlying237
 a171:=Tryz.isAgg237
 z171:=Tryz.sizeOf237
 v171:=Tryz.zeroValue237
 t173:=Tryz.underlying241
 a173:=Tryz.isAgg241
 z173:=Tryz.sizeOf241
 v173:=Tryz.zeroValue241
 t212:=Tryz.underlying256
 a212:=Tryz.isAgg256
 z212:=Tryz.sizeOf256
 v212:=Tryz.zeroValue256
 t213:=Tryz.underlying257
 a213:=Tryz.isAgg257
 z213:=Tryz.sizeOf257
 t232:=Tryz.underlying286
 a232:=Tryz.isAgg286
 z232:=Tryz.sizeOf286
 v232:=Tryz.zeroValue286
 t233:=Tryz.underlying287
 a233:=Tryz.isAgg287
 z233:=Tryz.sizeOf287
 v233:=Tryz.zeroValue287
 g17:=by kernel_rfl
 g18:=by kernel_rfl
 g19:=by kernel_rfl
 i0:=by kernel_rfl
 i2:=by kernel_rfl
 i3:=by kernel_rfl
 i4:=by kernel_rfl
 i5:=by kernel_rfl
 i9:=by kernel_rfl
 i20:=by kernel_rfl
 i37:=by kernel_rfl
 i46:=by kernel_rfl
 i51:=by kernel_rfl
 i53:=by kernel_rfl
 i171:=by kernel_rfl
 i173:=by kernel_rfl
 i212:=by kernel_rfl
 i232:=by kernel_rfl
 i233:=by kernel_rfl
 m17:=by kernel_rfl
 m18:=by kernel_rfl
 m19:=by kernel_rfl }
theorem Tryz.Builder_Extra_156 : Builder.Extra Tryz.prog Tryz.lays156_ren:={
 sizeBuilder:=by kernel_rfl
 liesBuilder:=by kernel_rfl
 t5:=Tryz.underlying5
 a5:=Tryz.isAgg5
 z5:=Tryz.sizeOf5
 v5:=Tryz.zeroValue5
 infoByte:=by kernel_rfl
 cellsByte:=by kernel_rfl
 sizeByte:=by kernel_rfl
 neB5:=by decide }
end Go.Proofs
end
section
open Go Go.Am
open Go.Am.Dat (cells)
namespace Go.Proofs.YtcbabnbiinkafaaGreatDoor
set_option maxHeartbeats 4000000
set_option maxRecDepth 100000
theorem xf (n lo hi:Int):FC Tryz.prog 96 [enc n,enc lo,enc hi] [] (enc (decide (lo<=n/\n<=hi))) []:=by
 refine eh is96 (by simp) (fun cx hl=>dC [] 800 ?_);delta c96 oO oM oG oX oP oB oD o9;simp (maxSteps:=9^7) -implicitDefEqProofs only[rv96,Ent.of0,Ent.of1,Ent.of2,Ent.of3,Ent.of4,V,W3,↓reduceIte,seval,reduceCtorEq];by_cases h:lo<=n <;> simp[h]
def eZ : Ent Tryz.prog:=.of3 96 (fun _ _ _=>True) (fun n lo hi:Int=>enc (decide (lo<=n/\n<=hi))) (fun _ _ _=>trivial) (fun n lo hi _=>xf n lo hi)
theorem vS (n lo hi:Int):FC Tryz.prog 31 [enc n,enc lo,enc hi] [] (enc (decide (lo<=n/\n<=hi))) []:=by
 refine eh is31 (by simp) (fun cx hl=>dC [] 800 ?_);delta c31 oO oM oG oX oP oB oD o9;simp (maxSteps:=9^7) -implicitDefEqProofs only[rv31,Ent.of0,Ent.of1,Ent.of2,Ent.of3,Ent.of4,V,W3,↓reduceIte,seval,reduceCtorEq];by_cases h:lo<=n <;> simp[h]
def oa : Ent Tryz.prog:=.of3 31 (fun _ _ _=>True) (fun n lo hi:Int=>enc (decide (lo<=n/\n<=hi))) (fun _ _ _=>trivial) (fun n lo hi _=>vS n lo hi)
theorem xc (b:Bool) (e:Int):FC Tryz.prog 95 [enc b,enc e] [] (enc (if b then 0 else e)) []:=by
 refine eh is95 (by simp) (fun cx hl=>dC [] 800 ?_);delta c95 oM oS oK oV oI oX;simp (maxSteps:=9^7) -implicitDefEqProofs only[rv95,Ent.of0,Ent.of1,Ent.of2,Ent.of3,Ent.of4,V,W3,↓reduceIte,seval,reduceCtorEq];cases b <;> simp
def dT : Ent Tryz.prog:=.of2 95 (fun _ _=>True) (fun (b:Bool) (e:Int)=>enc (if b then 0 else e)) (fun _ _=>trivial) (fun b e _=>xc b e)
def dM : List Int->Int
 |[]=>0
 | e :: l=>if e≠0 then e else dM l
theorem first_c (l:List Int):FC Tryz.prog 91 [enc l] [] (enc (dM l)) []:=by
 refine eh is91 (by simp) (fun cx hl=>dC [] 800 ?_);simp only[V,W3,↓reduceIte,seval,reduceCtorEq]at hl;have hlen:=hl.list;delta c91 oM oS oK oV oX o4;simp (maxSteps:=9^7) -implicitDefEqProofs only[rv91,Ent.of0,Ent.of1,Ent.of2,Ent.of3,Ent.of4,V,W3,↓reduceIte,seval,reduceCtorEq];refine S_for l.length (fun i=>⟨[(5,enc l),(6,.s (.int .i64 l.length)),(7,.s (.int .i64 i))],[]⟩) (fun i=>dM l=dM (l.drop i)) rfl ?_ (fun i hi hv=>dC [] 800 ?_)
 . simp only[V,W3,↓reduceIte,seval,reduceCtorEq] <;> simp
 . delta c91l1 oO oN oA oM oR oS oK oL oI oX oB o1;simp (maxSteps:=9^7) -implicitDefEqProofs only[Ent.of0,Ent.of1,Ent.of2,Ent.of3,Ent.of4,V,W3,↓reduceIte,seval,reduceCtorEq];by_cases h:i < l.length
   . rw[eg 0 h,dM]at hv;rw[if_pos (by omega)];refine⟨by omega,?_⟩;split
     . rename_i hc;rw[hv,if_pos hc]
     . rename_i hc;exact⟨by simp only[InR];omega,h,by rw[hv,if_neg hc],by omega⟩
   . rw[if_neg (by omega),hv,zv (by omega)];rfl
def dS : Ent Tryz.prog:=.of1 91 (fun _=>True) (fun l:List Int=>enc (dM l)) (fun _=>trivial) (fun l _=>first_c l)
theorem Ints_c (a b:List Int):FC Tryz.prog 30 [enc a,enc b] [] (enc (decide (a=b))) []:=by
 refine eh is30 (by simp) (fun cx hl=>dC [] 800 ?_);simp only[V,W3,↓reduceIte,seval,reduceCtorEq]at hl;have hlen:=hl.1.list;delta c30 oO oM oS oK oV oI oX oB o4 o9;simp (maxSteps:=9^7) -implicitDefEqProofs only[rv30,Ent.of0,Ent.of1,Ent.of2,Ent.of3,Ent.of4,V,W3,↓reduceIte,seval,reduceCtorEq];by_cases hab:a.length=b.length
 . rw[if_neg (by simp[hab])];refine S_for a.length (fun i=>⟨[(0,enc a),(1,enc b),(5,.s (.int .i64 i))],[]⟩) (fun i=>decide (a=b)=decide (a.drop i=b.drop i)) (by simp) ?_ (fun i hi hv=>dC [] 800 ?_)
   . simp only[V,W3,↓reduceIte,seval,reduceCtorEq] <;> simp
   . delta c30l1 oO oN oA oM oT oR oQ oS oK oL oI oX oB o1 o4 o9;simp (maxSteps:=9^7) -implicitDefEqProofs only[Ent.of0,Ent.of1,Ent.of2,Ent.of3,Ent.of4,V,W3,↓reduceIte,seval,reduceCtorEq];by_cases h:i < a.length
     . rw[eg 0 h,eg 0 (by omega:i < b.length)]at hv;rw[if_pos (by omega)];refine⟨⟨by omega,by omega⟩,⟨by omega,by omega⟩,?_⟩;simp only[InR];grind
     . rw[if_neg (by omega),hv,zv (by omega),zv (by omega)];simp
 . rw[if_pos (by omega)];grind
def mw : Ent Tryz.prog:=.of2 30 (fun _ _=>True) (fun a b:List Int=>enc (decide (a=b))) (fun _ _=>trivial) (fun a b _=>Ints_c a b)
structure Rul where
 off:Int
 hyst:Int
 trig:Int
instance : DatL Rul where
 sz:=3
 agg:=true
 cells r:=[.s (.int .i64 r.off),.s (.int .i64 r.hyst),.s (.int .i64 r.trig)]
 dec | [.s (.int .i64 a),.s (.int .i64 b),.s (.int .i64 c)]=>some ⟨a,b,c⟩ | _=>none
 ok:=by intro l a h;split at h <;> cases h;rfl
 data:=fun a=>rfl
 one:=fun h=>by cases h
 dec_cells:=fun a=>rfl
theorem iy (r:Rul):enc r=.agg [.s (.int .i64 r.off),.s (.int .i64 r.hyst),.s (.int .i64 r.trig)]:=rfl
theorem j9 (r:Rul):cells r=[.s (.int .i64 r.off),.s (.int .i64 r.hyst),.s (.int .i64 r.trig)]:=rfl
theorem jU (a b c:Int):fy (.agg [C.s (.int .i64 a),.s (.int .i64 b),.s (.int .i64 c)])=some (⟨a,b,c⟩:Rul):=rfl
def j4 (r:Rul):Bool:=decide (-300<=r.off/\r.off<=300) && decide (0<=r.hyst/\r.hyst<=300) && decide (0<=r.trig/\r.trig<=40)
def km (r:Rul):Int:=if j4 r then 0 else 2
theorem si (r:Rul):FC Tryz.prog 26 [enc r] [] (enc (km r)) []:=by
 obtain⟨a,b,c⟩:=r;refine eh is26 (by simp) (fun cx hl=>dC [eZ,dT] 800 ?_);delta c26 oO oN oM oG oF oL oV oC oX oP oE oJ o7;simp (maxSteps:=9^7) -implicitDefEqProofs only[rv26,eZ,dT,iy,Ent.of0,Ent.of1,Ent.of2,Ent.of3,Ent.of4,V,W3,↓reduceIte,seval,reduceCtorEq];unfold km j4;by_cases h1:-300<=a/\a<=300 <;> by_cases h2:0<=b/\b<=300 <;> by_cases h3:0<=c/\c<=40 <;> simp[h1,h2,h3]
def ent26 : Ent Tryz.prog:=.of1 26 (fun _=>True) (fun r:Rul=>enc (km r)) (fun _=>trivial) (fun r _=>si r)
def eM (n:Int):Bool:=decide (0<=n/\n<=1000000000)
theorem ww (n:Int):FC Tryz.prog 102 [enc n] [] (enc (eM n)) []:=by
 refine eh is102 (by simp) (fun cx hl=>dC [eZ] 800 ?_);delta c102 oO oN oM oC oX o9;simp (maxSteps:=9^7) -implicitDefEqProofs only[rv102,eZ,Ent.of0,Ent.of1,Ent.of2,Ent.of3,Ent.of4,V,W3,↓reduceIte,seval,reduceCtorEq];simp[eM]
def iQ : Ent Tryz.prog:=.of1 102 (fun _=>True) (fun n:Int=>enc (eM n)) (fun _=>trivial) (fun n _=>ww n)
def kg (n:Int):Bool:=decide (-2000<=n/\n<=1000)
theorem uQ (n:Int):FC Tryz.prog 136 [enc n] [] (enc (kg n)) []:=by
 refine eh is136 (by simp) (fun cx hl=>dC [eZ] 800 ?_);delta c136 oO oN oM oC oX o9;simp (maxSteps:=9^7) -implicitDefEqProofs only[rv136,eZ,Ent.of0,Ent.of1,Ent.of2,Ent.of3,Ent.of4,V,W3,↓reduceIte,seval,reduceCtorEq];simp[kg]
def uB : Ent Tryz.prog:=.of1 136 (fun _=>True) (fun n:Int=>enc (kg n)) (fun _=>trivial) (fun n _=>uQ n)
def gP : List Int->List Int->Bool
 | a :: l,b :: m=>kg a && kg b && gP l m
 |_,_=>true
def ma (s n:List Int):Int:=if n.length≠s.length then 10 else if s.length > 60 then 8 else if gP s n then 0 else 2
end Go.Proofs.YtcbabnbiinkafaaGreatDoor
end
