/- Part 2 of the proof of: TopMoveTold returns true for every input and never panics: a right log told in texts, and in two halves with the state told between them, gives the same state, and what is possible there is the same and not nothing; conditions: those of the given statement, that the package variables it lists hold what their initialisers lay. -/
import Derived.Test.YtcbabnbiinkafaaGreatDoorProg
import Derived.KernelRfl
import Derived.Shelf.Strconv.ErrVarAll
import Derived.Shelf.Strings.Search3
import Derived.Shelf.Strings.Prefix
import Derived.Ground.NamesProg
import Derived.Ground.Names2Prog
import Derived.Test.YtcbabnbiinkafaaGreatDoorTopMoveTold1
set_option linter.all false
set_option maxHeartbeats 8000000
set_option maxRecDepth 100000
section
open Go Go.Am
open Go.Am.Dat (cells)
namespace Go.Proofs.YtcbabnbiinkafaaGreatDoor
def Cn : AC:=oS (oX [oM 6 5,oM 7 0,o4 8 7,oB 9 .lss 3 6 (oO 8)] [0,1,5,9] (.cond (oO 9) .skip (.exit 0))) (oK [0,1,5] (oS (.block 1 (oX [oM 12 0,oM 13 5,⟨some 14,none,.iaddr 1 [.string ⟨#[]⟩] (oO 12) (oO 13),false⟩,oL 15 14,oM 16 1,oB 17 .eql 9 15 (oO 16)] [0,1,5,17] (oI 17 (oX [o9 4 true] [4] .ret)))) (oK [0,1,5] (oR [oM 10 5,oB 11 .add 3 10 (oN 1),oM 5 11]))))
def c109 : AC:=oX [o9 4 false] [0,1] (oS (oX [oV 5 0] [0,1,5] (.block 0 (.loop Cn))) (oK [] (oX [o9 4 false] [4] .ret)))
def Ca : List RV:=[.tmp 4]
theorem is109 : FnIs Tryz.prog 109 18 c109 Ca:=⟨⟨Tryz.f109,_,Tryz.func109,by kernel_rfl,rfl,rfl,by kernel_rfl,by kernel_rfl⟩,by decide⟩
def c112 : AC:=oX [o7 1 0,o9 2 false] [1] (oX [oF 3 1 1,oL 4 3,oB 5 .eql 3 4 (oN 2),oM 6 5,oE 7 6 false 1 1,oJ 8 6 false 7,oG 9 6 false (.bin .eql 3 (oO 8) (oN 3)),oH 10 6 9,oM 2 10] [2] .ret)
def rv112 : List RV:=[.tmp 2]
theorem is112 : FnIs Tryz.prog 112 11 c112 rv112:=⟨⟨Tryz.f112,_,Tryz.func112,by kernel_rfl,rfl,rfl,by kernel_rfl,by kernel_rfl⟩,by decide⟩
def Co : AC:=oS (oX [oM 8 7,oF 9 1 3,oL 10 9,o4 11 10,oB 12 .lss 3 8 (oO 11)] [1,2,3,7,12] (.cond (oO 12) .skip (.exit 0))) (oK [1,2,3,7] (oS (.block 1 (oX [oF 15 1 3,oL 16 15,oM 17 7,oA 18 (.iaddr 2 o2 (oO 16) (oO 17)),o5 19 2 18,oM 20 1,oM 21 2,oA 22 (.ext (.mx false) [oO 20,oO 21]),oM 23 1,oM 24 2,oA 25 (.ext (.mx true) [oO 23,oO 24]),oA 26 (.build o2 [(0,1,oO 22),(1,1,oO 25)]),oA 27 (.ext (.eqs false [0,0]) [oO 19,oO 26])] [1,2,3,7,27] (oI 27 (oX [o9 6 true] [6] .ret)))) (oK [1,2,3,7] (oR [oM 13 7,oB 14 .add 3 13 (oN 1),oM 7 14]))))
def c115 : AC:=oX [o7 3 0,o9 6 false] [1,2,3] (oS (oX [oV 7 0] [1,2,3,7] (.block 0 (.loop Co))) (oK [] (oX [o9 6 false] [6] .ret)))
def Cb : List RV:=[.tmp 6]
theorem is115 : FnIs Tryz.prog 115 28 c115 Cb:=⟨⟨Tryz.f115,_,Tryz.func115,by kernel_rfl,rfl,rfl,by kernel_rfl,by kernel_rfl⟩,by decide⟩
def Cp : AC:=oS (oX [oM 5 4,oF 6 9 1,oL 7 6,o4 8 7,oB 9 .lss 3 5 (oO 8)] [1,3,4,9] (.cond (oO 9) .skip (.exit 0))) (oK [1,3,4] (oS (.block 1 (oR [oM 12 3,oF 13 9 1,oL 14 13,oM 15 4,oA 16 (.iaddr 1 o0 (oO 14) (oO 15)),oL 17 16,o4 18 17,oB 19 .add 3 12 (oO 18),oM 3 19])) (oK [1,3,4] (oR [oM 10 4,oB 11 .add 3 10 (oN 1),oM 4 11]))))
def c116 : AC:=oX [o7 1 0,oV 2 0] [1] (oX [oV 3 0] [1,3] (oS (oX [oV 4 0] [1,3,4] (.block 0 (.loop Cp))) (oK [3] (oX [oM 20 3,oM 2 20] [2] .ret))))
def Cc : List RV:=[.tmp 2]
theorem is116 : FnIs Tryz.prog 116 21 c116 Cc:=⟨⟨Tryz.f116,_,Tryz.func116,by kernel_rfl,rfl,rfl,by kernel_rfl,by kernel_rfl⟩,by decide⟩
def c119 : AC:=oX [o7 3 0,o7 4 1,o7 5 2,oA 6 (.alloc oZ),oV 7 0] [3,4,5,6] (oS (oX [oF 11 1 5,oL 12 11,oF 13 0 4,oL 14 13,oB 15 .lss 3 12 (oO 14)] [3,4,5,6,15] (oI 15 (oX [oA 16 (.build oZ []),oW 10 6 16,oV 7 9] [6,7] .ret))) (oK [3,4,5,6] (oX [o5 18 3 3,o5 19 10 4,oF 20 1 5,oL 21 20,oC 22 110 [oO 18,oO 19,oO 21],oM 17 22,o8 23 17 0,o8 24 17 1,oA 8 (.alloc oZ),oW 10 8 23,oM 9 24] [3,5,6,8] (oS (oX [o5 25 3 3,o5 26 10 8,o5 27 3 5,oC 28 152 [oO 25,oO 26,oO 27],oM 10 28] [5,6,8,10] (oX [oM 29 10,oB 30 .neq 3 29 (oN 0)] [5,6,8,10,30] (oI 30 (oX [oA 31 (.build oZ []),oM 32 10,oW 10 6 31,oM 7 32] [6,7] .ret)))) (oK [5,6,8] (oX [o5 33 10 8,o5 34 3 5,oC 35 153 [oO 33,oO 34],oW 10 8 35] [5,6,8] (oX [oF 36 1 5,oL 37 36,oF 38 0 8,oW 1 38 37] [6,8] (oX [o5 39 10 8,oW 10 6 39,oV 7 0] [6,7] .ret))))))))
def Au : List RV:=[.cell 6 true 10,.tmp 7]
theorem is119 : FnIs Tryz.prog 119 40 c119 Au:=⟨⟨Tryz.f119,_,Tryz.func119,by kernel_rfl,rfl,rfl,by kernel_rfl,by kernel_rfl⟩,by decide⟩
def c143 : AC:=oX [oA 2 (.mv (.const (.slice none 0 0)))] [0] (oS (oX [oM 3 0,oA 4 (.ext (.isnil false) [oO 3])] [0,4] (oI 4 (oX [oA 2 (.mv (.const (.slice none 0 0)))] [2] .ret))) (oK [0] (oX [oA 5 (.mkSl true 3 1 o1 0 []),oM 6 0,oA 7 (.app 24 3 1 8 o1 (oO 5) (oO 6)),oM 2 7] [2] .ret)))
def c144 : AC:=oX [o9 3 false] [0,1] (oX [oM 4 0,oB 5 .eql 3 4 (oN (-1)),oM 6 5,oJ 7 6 false 1,oD 8 6 false 0,oG 9 6 false (.call (.func 145) [oO 7,oO 8]),oH 10 6 9,oM 3 10] [3] .ret)
def rv144 : List RV:=[.tmp 3]
theorem is144 : FnIs Tryz.prog 144 11 c144 rv144:=⟨⟨Tryz.f144,_,Tryz.func144,by kernel_rfl,rfl,rfl,by kernel_rfl,by kernel_rfl⟩,by decide⟩
def c145 : AC:=oX [o9 4 false] [0,1] (oX [oM 5 1,oM 6 0,o6 7 6,oF 8 10 7,oF 9 0 8,oL 10 9,o4 11 10,oB 12 .sub 3 11 (oN 1),oC 13 96 [oO 5,oN 0,oO 12],oM 4 13] [4] .ret)
def rv145 : List RV:=[.tmp 4]
theorem is145 : FnIs Tryz.prog 145 14 c145 rv145:=⟨⟨Tryz.f145,_,Tryz.func145,by kernel_rfl,rfl,rfl,by kernel_rfl,by kernel_rfl⟩,by decide⟩
def c146 : AC:=oX [o9 2 false] [0] (oS (oQ [oM 6 0,o6 7 6,oF 8 0 7,oF 9 4 8,oL 10 9,oB 11 .neq 3 10 (oN (-1)),oM 12 0,o6 13 12,oF 14 0 13,oF 15 5 14,oL 16 15,oB 17 .neq 3 16 (oN (-1)),oM 3 11,oT 4 (.mv (oO 17))]) (oK [0,3,4] (oX [oM 18 0,o6 19 18,oF 20 0 19,oF 21 1 20,oL 22 21,oB 23 .eql 3 22 (oN 1),oM 24 23,oD 25 24 false 0,oG 26 24 false (.nilc (oO 25)),oE 27 24 false 0 26,oE 28 24 false 1 27,oJ 29 24 false 28,oG 30 24 false (.bin .eql 3 (oO 29) (oN 2)),oH 31 24 30,oM 5 31] [0,3,4,5] (oS (.block 0 (oS (oX [oM 33 3,oM 34 33,oD 35 34 true 0,oG 36 34 true (.nilc (oO 35)),oE 37 34 true 0 36,oE 38 34 true 1 37,oJ 39 34 true 38,oG 40 34 true (.bin .eql 3 (oO 39) (oN 0)),oP 41 34 40,oM 32 41] [0,3,4,5,32] (.cond (oO 32) .skip (oR [oM 42 3,oA 43 (.un .not (oO 42)),oM 44 43,oD 45 44 true 5,oP 46 44 45,oM 32 46]))) (oK [0,3,4,5,32] (.cond (oO 32) (oX [o9 2 false] [2] .ret) (oX [oM 48 4,oM 49 48,oD 50 49 true 5,oD 51 49 true 50,oD 52 51 false 3,oG 53 49 true (.pick (oO 51) (.const (.bool true)) (oO 52)),oP 54 49 53,oM 47 54] [0,47] (oI 47 (oX [o9 2 false] [2] .ret))))))) (oK [0] (oS (oQ [oM 55 0,o6 56 55,oF 57 0 56,oF 58 6 57,oL 59 58,oM 60 0,o6 61 60,oF 62 0 61,oF 63 3 62,oL 64 63,oT 65 (.bin .eql 3 (oO 59) (oO 64)),oT 66 (.mv (oO 65)),oD 67 66 false 0,oG 68 66 false (.nilc (oO 67)),oE 69 66 false 0 68,oE 70 66 false 6 69,oJ 71 66 false 70,oD 72 66 false 0,oG 73 66 false (.nilc (oO 72)),oE 74 66 false 0 73,oE 75 66 false 5 74,oJ 76 66 false 75,⟨some 77,some (66,false),.bin .eql 3 (oO 71) (oO 76),true⟩,oT 78 (.pick (oO 66) (.const (.bool true)) (oO 77)),oT 2 (.mv (oO 78))]) (oK [2] .ret)))))))
def rv146 : List RV:=[.tmp 2]
theorem is146 : FnIs Tryz.prog 146 79 c146 rv146:=⟨⟨Tryz.f146,_,Tryz.func146,by kernel_rfl,rfl,rfl,by kernel_rfl,by kernel_rfl⟩,by decide⟩
def c147 : AC:=oX [o9 3 false] [0,1] (oX [oM 4 0,oB 5 .eql 3 4 (oN (-1)),oM 6 5,oJ 7 6 false 1,oD 8 6 false 0,oG 9 6 false (.call (.func 148) [oO 7,oO 8]),oH 10 6 9,oM 3 10] [3] .ret)
def rv147 : List RV:=[.tmp 3]
theorem is147 : FnIs Tryz.prog 147 11 c147 rv147:=⟨⟨Tryz.f147,_,Tryz.func147,by kernel_rfl,rfl,rfl,by kernel_rfl,by kernel_rfl⟩,by decide⟩
def Cq : AC:=oX [oB 32 .lss 3 31 (oO 30)] [0,3,4,5,22,23,24,29,30,31,32] (oS (.cond (oO 32) .skip (.exit 2)) (oK [0,3,4,5,22,23,24,29,30,31] (oS (.block 3 (oX [oM 33 31,oA 34 (.iaddr 1 o1 (oO 29) (oO 31)),oL 35 34,oM 6 33,oM 7 35] [0,3,4,5,6,7,22,23,24,29,30,31] (oX [oM 37 3,oM 38 7,oA 39 (.opq (.lookup 214 (oO 37) (oO 38) true) 185),oM 36 39,o8 40 36 0,o8 41 36 1,oM 8 40,oM 9 41] [0,3,4,5,6,7,9,22,23,24,29,30,31] (oX [oM 42 7,oM 43 0,o6 44 43,oF 45 0 44,oF 46 7 45,oL 47 46,oB 48 .sub 3 47 (oN 1),oC 49 96 [oO 42,oN 0,oO 48],oC 50 95 [oO 49,oN 2],oM 51 6,oB 52 .eql 3 51 (oN 0),oM 53 52,oD 54 53 false 7,oD 55 53 false 5,oD 56 53 false 6,oG 57 53 false (.bin .sub 3 (oO 56) (oN 1)),oG 58 53 false (.ext (.mx true) [oN 0,oO 57]),oG 59 53 false (.iaddr 1 o1 (oO 55) (oO 58)),oJ 60 53 false 59,oG 61 53 false (.bin .gtr 3 (oO 54) (oO 60)),oH 62 53 61,oC 63 95 [oO 62,oN 9],oM 64 9,oA 65 (.un .not (oO 64)),oC 66 95 [oO 65,oN 26],oA 67 (.mkSl false 27 1 o1 3 [(0,oO 50),(1,oO 63),(2,oO 66)]),oC 68 91 [oO 67],oM 10 68] [0,3,4,5,7,10,22,23,24,29,30,31] (oS (oX [oM 69 10,oB 70 .neq 27 69 (oN 0)] [0,3,4,5,7,10,22,23,24,29,30,31,70] (oI 70 (oX [oM 71 10,oM 2 71] [2] .ret))) (oK [0,3,4,5,7,22,23,24,29,30,31] (oR [oM 72 3,oM 73 7,oM 74 4,⟨none,none,.opq (.mapUpdate 214 (oO 72) (oO 73) (oO 74)) 0,false⟩]))))))) (oK [0,3,4,5,22,23,24,29,30,31] (oR [oB 75 .add 3 31 (oN 1),oM 31 75])))))
def Cr : AC:=oX [oB 25 .lss 3 24 (oO 23)] [0,3,22,23,24,25] (oS (.cond (oO 25) .skip (.exit 0)) (oK [0,3,22,23,24] (oS (.block 1 (oX [oM 26 24,oA 27 (.iaddr 1 o0 (oO 22) (oO 24)),oL 28 27,oM 4 26,oM 5 28] [0,3,4,5,22,23,24] (oX [oM 29 5,o4 30 29,oV 31 0] [0,3,4,5,22,23,24,29,30,31] (.block 2 (.loop Cq))))) (oK [0,3,22,23,24] (oR [oB 76 .add 3 24 (oN 1),oM 24 76])))))
def DX : AC:=oX [oA 79 (.opq (.next (oO 78) false) 0),o8 80 79 0] [0,11,78,80] (oS (.cond (oO 80) .skip (.exit 4)) (oK [0,11,78] (.block 5 (oX [oA 81 (.opq (.entry (oO 78)) 0),o8 82 81 0,o8 83 81 1,oM 12 82,oM 13 83] [0,11,12,13,78] (oS (oX [oM 84 13,oM 85 0,o6 86 85,oF 87 0 86,oF 88 3 87,oL 89 88,oB 90 .neq 3 84 (oO 89),oM 91 90,oD 92 91 true 13,oD 93 91 true 0,oG 94 91 true (.nilc (oO 93)),oE 95 91 true 0 94,oE 96 91 true 5 95,oJ 97 91 true 96,oG 98 91 true (.bin .neq 3 (oO 92) (oO 97)),oP 99 91 98,oM 100 99,oD 101 100 true 13,oD 102 100 true 0,oG 103 100 true (.nilc (oO 102)),oE 104 100 true 0 103,oE 105 100 true 4 104,oJ 106 100 true 105,oG 107 100 true (.bin .neq 3 (oO 101) (oO 106)),oD 108 100 true 107,oD 109 108 false 0,oG 110 108 false (.call (.func 120) [oO 109]),oG 111 108 false (.un .not (oO 110)),oG 112 100 true (.pick (oO 108) (.const (.bool true)) (oO 111)),oP 113 100 112] [0,11,12,78,113] (oI 113 (oX [oV 2 23] [2] .ret))) (oK [0,11,12,78] (oX [oM 114 12,oM 115 0,o6 116 115,oF 117 0 116,oF 118 8 117,oL 119 118,oB 120 .geq 3 114 (oO 119)] [0,11,78,120] (oI 120 (oR [oM 121 11,oB 122 .add 3 121 (oN 1),oM 11 122])))))))))
def c150 : AC:=oX [oV 2 0] [0] (oS (oX [oM 14 0,oC 15 165 [oO 14],oB 16 .gtr 3 15 (oN 60)] [0,16] (oI 16 (oX [oV 2 8] [2] .ret))) (oK [0] (oX [oA 17 (.opq (.makeMap 214 none) 214),oM 3 17] [0,3] (oS (oX [oM 18 0,o6 19 18,oF 20 0 19,oF 21 9 20,oL 22 21,o4 23 22,oV 24 0] [0,3,22,23,24] (.block 0 (.loop Cr))) (oK [0,3] (oX [oV 11 0] [0,3,11] (oS (oX [oM 77 3,oA 78 (.opq (.range 214 (oO 77)) 0)] [0,11,78] (.block 4 (.loop DX))) (oK [0,11] (oS (oQ [oA 123 (.mvs (oO 11)),oM 124 0,o6 125 124,oF 126 0 125,oF 127 7 126,oL 128 127,oM 129 0,o6 130 129,oF 131 0 130,oF 132 8 131,oL 133 132,oT 134 (.bin .sub 3 (oO 128) (oO 133)),oT 135 (.bin .eql 3 (oO 123) (oO 134)),oT 136 (.call (.func 95) [oO 135,oN 14]),oT 2 (.mv (oO 136))]) (oK [2] .ret))))))))))
def wC : List RV:=[.tmp 2]
theorem is150 : FnIs Tryz.prog 150 137 c150 wC:=⟨⟨Tryz.f150,_,Tryz.func150,by kernel_rfl,rfl,rfl,by kernel_rfl,by kernel_rfl⟩,by decide⟩
def rv167 : List RV:=[.tmp 2,.tmp 3]
theorem is167 : FnIs Tryz.prog 167 15 c167 rv167:=⟨⟨Tryz.f167,_,Tryz.func167,by kernel_rfl,rfl,rfl,by kernel_rfl,by kernel_rfl⟩,by decide⟩
def c168 : AC:=oX [o7 1 0,oA 2 (.alloc oZ)] [1,2] (oS (oX [oF 3 5 1,oL 4 3,oB 5 .neq 3 4 (oN (-1)),oM 6 5,oE 7 6 true 6 1,oJ 8 6 true 7,oE 9 6 true 3 1,oJ 10 6 true 9,oG 11 6 true (.bin .eql 3 (oO 8) (oO 10)),oP 12 6 11,oM 13 12,oE 14 13 true 9 1,oJ 15 13 true 14,oE 16 13 true 5 1,oJ 17 13 true 16,oG 18 13 true (.iaddr 1 o0 (oO 15) (oO 17)),oJ 19 13 true 18,oG 20 13 true (.len false (oO 19)),oG 21 13 true (.bin .eql 3 (oO 20) (oN 0)),oP 22 13 21] [1,2,22] (oI 22 (oR [oF 23 5 1,oY false 1 (oO 23) (oN (-1))]))) (oK [1,2] (oX [o5 24 10 1,oW 10 2 24] [2] .ret)))
def Bq : List RV:=[.cell 2 true 10]
theorem is168 : FnIs Tryz.prog 168 25 c168 Bq:=⟨⟨Tryz.f168,_,Tryz.func168,by kernel_rfl,rfl,rfl,by kernel_rfl,by kernel_rfl⟩,by decide⟩
end Go.Proofs.YtcbabnbiinkafaaGreatDoor
end
section
open Go Go.Am
open Go.Am.Dat (cells)
namespace Go.Proofs.YtcbabnbiinkafaaGreatDoor.D7
def c60l1 : AC:=oS (oX [oM 5 4,oM 6 0,o4 7 6,oB 8 .lss 3 5 (oO 7)] [0,3,4,8] (.cond (oO 8) .skip (.exit 0))) (oK [0,3,4] (oS (.block 1 (oR [oM 11 3,oM 12 0,oM 13 4,oA 14 (.iaddr 1 o0 (oO 12) (oO 13)),oL 15 14,oC 16 24 [oO 15],oA 17 (.mkSl true 24 1 o0 1 [(0,oO 16)]),oA 18 (.app 51 24 1 24 o0 (oO 11) (oO 17)),oM 3 18])) (oK [0,3,4] (oR [oM 9 4,oB 10 .add 3 9 (oN 1),oM 4 10]))))
def c60 : AC:=oX [oA 2 (.mv (.const (.slice none 0 0)))] [0] (oX [oA 3 (.mv (.const (.slice none 0 0)))] [0,3] (.nilrow 3 1 24 (.deepen 3 1 3 (oS (oX [oV 4 0] [0,3,4] (.block 0 (.loop c60l1))) (oK [3] (oX [oM 19 3,oM 2 19] [2] .ret))))))
def rv60 : List RV:=[.tmp 2]
theorem is60 : FnIs Tryz.prog 60 20 c60 rv60:=⟨⟨Tryz.f60,_,Tryz.func60,by kernel_rfl,rfl,rfl,by kernel_rfl,by kernel_rfl⟩,by decide⟩
def c65 : AC:=oX [o7 1 0,oA 2 (.alloc oZ)] [1,2] (oX [oF 3 9 1,oL 4 3,oC 5 60 [oO 4],oF 6 9 1,oW 1 6 5] [1,2] (oX [o5 7 10 1,oW 10 2 7] [2] .ret))
def rv65 : List RV:=[.cell 2 true 10]
theorem is65 : FnIs Tryz.prog 65 8 c65 rv65:=⟨⟨Tryz.f65,_,Tryz.func65,by kernel_rfl,rfl,rfl,by kernel_rfl,by kernel_rfl⟩,by decide⟩
def c110 : AC:=oX [o7 3 0,o7 4 1,oA 6 (.alloc oZ),oV 7 0] [2,3,4,6] (oS (oX [o5 8 10 4,oC 9 112 [oO 8],oM 10 9,oE 11 10 true 2 4,oJ 12 10 true 11,oE 13 10 true 2 3,oJ 14 10 true 13,oG 15 10 true (.bin .add 3 (oO 12) (oO 14)),oD 16 10 true 2,oG 17 10 true (.bin .leq 3 (oO 15) (oO 16)),oP 18 10 17] [3,4,6,18] (oI 18 (oS (.draw 999 [6,12,13,102,105,106,112,113,205,206,212,213,304,305,306,312,313,405,406,412,413,506,512,513,612,613,708,711,713,811,813,910,911,913,1011,1013,1113,1213] [o5 19 10 4,oF 20 2 4,oL 21 20,oF 22 2 3,oL 23 22,oB 24 .add 3 21 (oO 23),oC 25 142 [oO 19,oN 0,oO 24],oF 26 2 4,oL 27 26,oF 28 2 3,oL 29 28,oB 30 .add 3 27 (oO 29),oW 10 6 25,oT 7 (.mv (oO 30))]) (oK [6,7] .ret)))) (oK [4,6] (oX [o5 31 10 4,oC 32 65 [oO 31],oW 10 6 32,oV 7 (-1)] [6,7] .ret)))
def rv110 : List RV:=[.cell 6 true 10,.tmp 7]
theorem is110 : FnIs Tryz.prog 110 33 c110 rv110:=⟨⟨Tryz.f110,_,Tryz.func110,by kernel_rfl,rfl,rfl,by kernel_rfl,by kernel_rfl⟩,by decide⟩
def c142l1 : AC:=oS (oX [oM 20 10,oF 21 9 3,oL 22 21,oM 23 9,oA 24 (.iaddr 1 o0 (oO 22) (oO 23)),oL 25 24,o4 26 25,oB 27 .lss 3 20 (oO 26)] [1,2,3,6,7,8,9,10,27] (.cond (oO 27) .skip (.exit 2))) (oK [1,2,3,6,7,8,9,10] (oS (.block 3 (oR [oM 30 8,oF 31 9 3,oL 32 31,oM 33 9,oA 34 (.iaddr 1 o0 (oO 32) (oO 33)),oL 35 34,oM 36 10,oA 37 (.iaddr 1 o1 (oO 35) (oO 36)),oL 38 37,oC 39 163 [oO 30,oO 38],oM 8 39])) (oK [1,2,3,6,7,8,9,10] (oR [oM 28 10,oB 29 .add 3 28 (oN 1),oM 10 29]))))
def c142l2 : AC:=oS (oX [oM 13 9,oF 14 9 3,oL 15 14,o4 16 15,oB 17 .lss 3 13 (oO 16)] [1,2,3,6,7,8,9,17] (.cond (oO 17) .skip (.exit 0))) (oK [1,2,3,6,7,8,9] (oS (.block 1 (oS (oX [oV 10 0] [1,2,3,6,7,8,9,10] (.block 2 (.loop c142l1))) (oK [1,2,3,6,7,8,9] (oR [oF 40 9 7,oL 41 40,oM 42 9,oA 43 (.iaddr 1 o0 (oO 41) (oO 42)),oY false 1 (oO 43) (.const (.slice none 0 0))])))) (oK [1,2,3,6,7,8,9] (oR [oM 18 9,oB 19 .add 3 18 (oN 1),oM 9 19]))))
def c142 : AC:=oX [o7 3 0,oA 6 (.alloc oZ)] [1,2,3,6] (oX [o5 11 10 3,oC 12 65 [oO 11],oA 7 (.alloc oZ),oW 10 7 12] [1,2,3,6,7] (oX [oA 8 (.mv (.const (.slice none 0 0)))] [1,2,3,6,7,8] (oS (oX [oV 9 0] [1,2,3,6,7,8,9] (.block 0 (.loop c142l2))) (oK [1,2,3,6,7,8] (oS (.draw 6 [0,1,2] [oF 44 9 7,oL 45 44,oA 46 (.mvs (oO 1)),oM 47 8,oF 48 8 3,oL 49 48,oT 50 (.call (.func 164) [oO 47,oO 49]),oT 51 (.iaddr 1 o0 (oO 45) (oO 46)),⟨none,none,.store false 1 (oO 51) (oO 50),true⟩]) (oK [1,2,6,7] (oX [oM 52 2,oM 53 1,oM 54 1,oF 55 1 7,oY false 1 (oO 55) (oN 0),oF 56 2 7,oW 1 56 52,oF 57 3 7,oW 1 57 53,oF 58 6 7,oW 1 58 54] [6,7] (oX [oF 59 4 7,oY false 1 (oO 59) (oN (-1)),oF 60 5 7,oY false 1 (oO 60) (oN (-1))] [6,7] (oX [o5 61 10 7,oW 10 6 61] [6] .ret)))))))))
def rv142 : List RV:=[.cell 6 true 10]
theorem is142 : FnIs Tryz.prog 142 62 c142 rv142:=⟨⟨Tryz.f142,_,Tryz.func142,by kernel_rfl,rfl,rfl,by kernel_rfl,by kernel_rfl⟩,by decide⟩
def c163l1 : AC:=oS (oX [oM 7 6,oM 8 0,o4 9 8,oB 10 .lss 3 7 (oO 9),oM 11 10,oD 12 11 true 0,oD 13 11 true 6,oG 14 11 true (.iaddr 1 o1 (oO 12) (oO 13)),oJ 15 11 true 14,oD 16 11 true 1,oG 17 11 true (.bin .lss 3 (oO 15) (oO 16)),oP 18 11 17] [0,1,5,6,18] (.cond (oO 18) .skip (.exit 0))) (oK [0,1,5,6] (.block 1 (oX [oM 19 5,oM 20 0,oM 21 6,oA 22 (.iaddr 1 o1 (oO 20) (oO 21)),oL 23 22,oA 24 (.mkSl false 3 1 o1 1 [(0,oO 23)]),oA 25 (.app 24 3 1 8 o1 (oO 19) (oO 24)),oM 5 25] [0,1,5,6] (oR [oM 26 6,oB 27 .add 3 26 (oN 1),oM 6 27]))))
def c163 : AC:=oX [oA 4 (.mv (.const (.slice none 0 0)))] [0,1] (oX [oA 5 (.mv (.const (.slice none 0 0)))] [0,1,5] (.nilrow 5 1 3 (oX [oV 6 0] [0,1,5,6] (oS (.block 0 (.loop c163l1)) (oK [0,1,5,6] (oS (.draw 3 [4,5,6] [oM 28 5,oA 29 (.mvs (oO 1)),oA 30 (.mkSl false 3 1 o1 1 [(0,oO 29)]),oT 31 (.app 24 3 1 8 o1 (oO 28) (oO 30)),oM 32 0,oM 33 6,oA 34 (.ssl 1 (oO 32) (some (oO 33)) none none),oT 35 (.app 24 3 1 8 o1 (oO 31) (oO 34)),oT 4 (.mv (oO 35))]) (oK [4] .ret)))))))
def rv163 : List RV:=[.tmp 4]
theorem is163 : FnIs Tryz.prog 163 36 c163 rv163:=⟨⟨Tryz.f163,_,Tryz.func163,by kernel_rfl,rfl,rfl,by kernel_rfl,by kernel_rfl⟩,by decide⟩
def c164l1 : AC:=oS (oX [oM 7 6,oM 8 0,o4 9 8,oB 10 .lss 3 7 (oO 9)] [0,1,5,6,10] (.cond (oO 10) .skip (.exit 0))) (oK [0,1,5,6] (oS (.block 1 (oX [oM 13 0,oM 14 6,oA 15 (.iaddr 1 o1 (oO 13) (oO 14)),oL 16 15,oM 17 1,oB 18 .geq 3 16 (oO 17)] [0,1,5,6,18] (oI 18 (oR [oM 19 5,oM 20 0,oM 21 6,oA 22 (.iaddr 1 o1 (oO 20) (oO 21)),oL 23 22,oA 24 (.mkSl false 3 1 o1 1 [(0,oO 23)]),oA 25 (.app 24 3 1 8 o1 (oO 19) (oO 24)),oM 5 25])))) (oK [0,1,5,6] (oR [oM 11 6,oB 12 .add 3 11 (oN 1),oM 6 12]))))
def c164 : AC:=oX [oA 4 (.mv (.const (.slice none 0 0)))] [0,1] (oX [oA 5 (.mv (.const (.slice none 0 0)))] [0,1,5] (.nilrow 5 1 3 (oS (oX [oV 6 0] [0,1,5,6] (.block 0 (.loop c164l1))) (oK [5] ((oX [oM 26 5,oM 4 26] [4] .ret))))))
def rv164 : List RV:=[.tmp 4]
theorem is164 : FnIs Tryz.prog 164 27 c164 rv164:=⟨⟨Tryz.f164,_,Tryz.func164,by kernel_rfl,rfl,rfl,by kernel_rfl,by kernel_rfl⟩,by decide⟩
def c152k1 : AC:=oX [o5 18 10 4,oC 19 116 [oO 18],oB 20 .geq 3 19 (oN 60),oM 21 20,oE 22 21 false 7 4,oJ 23 21 false 22,oG 24 21 false (.bin .geq 3 (oO 23) (oN 1000000)),oH 25 21 24] [25] (oI 25 (oX [oV 6 16] [6] .ret))
def c152k2 : AC:=oS (oX [o5 28 10 4,oC 29 112 [oO 28]] [4,7,29] (oI 29 (oX [oM 30 7,oM 6 30] [6] .ret))) (oK [4] (oS (oX [oF 31 9 4,oL 32 31,oF 33 3 4,oL 34 33,oA 35 (.iaddr 1 o0 (oO 32) (oO 34)),oL 36 35,o4 37 36,oB 38 .eql 3 37 (oN 0)] [4,38] (oI 38 (oX [oV 6 12] [6] .ret))) (oK [4] (oS (oQ [oF 39 9 4,oL 40 39,oF 41 3 4,oL 42 41,oA 43 (.iaddr 1 o0 (oO 40) (oO 42)),oL 44 43,oA 45 (.iaddr 1 o1 (oO 44) (oN 0)),oL 46 45,oF 47 8 4,oL 48 47,oT 49 (.bin .gtr 3 (oO 46) (oO 48))]) (oK [49] (oI 49 (oX [oV 6 14] [6] .ret)))))))
def c152k3 : AC:=oX [o5 52 10 4,oC 53 112 [oO 52]] [7,53] (oI 53 (oX [oM 54 7,oM 6 54] [6] .ret))
def c152k4 : AC:=oS (oX [oF 57 1 4,oL 58 57,oB 59 .neq 3 58 (oN 0)] [3,4,5,7,8,59] (oI 59 (oX [oM 60 7,oM 6 60] [6] .ret))) (oK [3,4,5,8] (oS (oX [oM 61 8] [3,4,5,61] (oI 61 (oX [oV 6 17] [6] .ret))) (oK [3,4,5] (oX [o5 62 3 3,oF 63 2 5,oL 64 63,oF 65 3 4,oL 66 65,oC 67 115 [oO 62,oO 64,oO 66],oA 68 (.un .not (oO 67))] [68] (oI 68 (oX [oV 6 6] [6] .ret))))))
def c152k5 : AC:=oX [oF 72 1 4,oL 73 72,oB 74 .neq 3 73 (oN 1)] [7,74] (oI 74 (oX [oM 75 7,oM 6 75] [6] .ret))
def c152k6 : AC:=oX [oF 78 1 4,oL 79 78,oB 80 .neq 3 79 (oN 2)] [7,80] (oI 80 (oX [oM 81 7,oM 6 81] [6] .ret))
def c152k7 : AC:=oS (oX [oF 84 1 4,oL 85 84,oB 86 .neq 3 85 (oN 2),oM 87 86,oE 88 87 true 1 4,oJ 89 87 true 88,oG 90 87 true (.bin .neq 3 (oO 89) (oN 0)),oD 91 87 true 90,oD 92 91 false 8,oG 93 91 false (.un .not (oO 92)),oG 94 87 true (.pick (oO 91) (.const (.bool true)) (oO 93)),oP 95 87 94] [4,7,95] (oI 95 (oX [oM 96 7,oM 6 96] [6] .ret))) (oK [4] (oX [o5 98 10 4,oC 99 167 [oO 98],oM 97 99,o8 100 97 0,o8 101 97 1,oM 9 100,oM 10 101] [4,9] (oX [oF 102 9 4,oL 103 102,oM 104 9,oA 105 (.iaddr 1 o0 (oO 103) (oO 104)),oL 106 105,o4 107 106,oB 108 .eql 3 107 (oN 0)] [108] (oI 108 (oX [oV 6 12] [6] .ret)))))
def c152k8 : AC:=oS (oX [oM 111 8,oA 112 (.un .not (oO 111))] [4,7,112] (oI 112 (oX [oV 6 12] [6] .ret))) (oK [4,7] (oS (oX [oF 113 1 4,oL 114 113,oB 115 .eql 3 114 (oN 3)] [4,7,115] (oI 115 (oX [oM 116 7,oM 6 116] [6] .ret))) (oK [4] (oX [oF 117 6 4,oL 118 117,oF 119 3 4,oL 120 119,oB 121 .eql 3 118 (oO 120)] [121] (oI 121 (oX [oV 6 26] [6] .ret))))))
def c152k9 : AC:=oX [oF 124 1 4,oL 125 124,oB 126 .eql 3 125 (oN 3)] [7,126] (oI 126 (oX [oM 127 7,oM 6 127] [6] .ret))
def c152k10 : AC:=oS (oX [oF 130 1 4,oL 131 130,oB 132 .neq 3 131 (oN 3)] [4,5,7,8,132] (oI 132 (oX [oM 133 7,oM 6 133] [6] .ret))) (oK [4,5,8] (oX [oF 134 2 5,oL 135 134,oF 136 3 4,oL 137 136,oB 138 .neq 3 135 (oO 137),oM 139 138,oE 140 139 true 4 4,oJ 141 139 true 140,oG 142 139 true (.bin .eql 3 (oO 141) (oN (-1))),oD 143 139 true 142,oE 144 143 false 2 5,oJ 145 143 false 144,oE 146 143 false 4 4,oJ 147 143 false 146,oG 148 143 false (.bin .neq 3 (oO 145) (oO 147)),oG 149 139 true (.pick (oO 143) (.const (.bool true)) (oO 148)),oP 150 139 149,oM 151 150,oD 152 151 true 8,oG 153 151 true (.un .not (oO 152)),oD 154 151 true 153,oE 155 154 false 2 5,oJ 156 154 false 155,oE 157 154 false 5 4,oJ 158 154 false 157,oG 159 154 false (.bin .neq 3 (oO 156) (oO 158)),oG 160 151 true (.pick (oO 154) (.const (.bool true)) (oO 159)),oP 161 151 160] [161] (oI 161 (oX [oV 6 6] [6] .ret))))
def c152 : AC:=oX [o7 3 0,o7 4 1,o7 5 2,oV 6 0] [3,4,5] (oX [oV 7 22] [3,4,5,7] (oX [oF 11 5 4,oL 12 11,oB 13 .neq 3 12 (oN (-1)),oM 8 13] [3,4,5,7,8] (oS (oX [oF 14 0 5,oL 15 14] [3,4,5,7,8,15] (.block 0 (oX [oB 17 .eql 3 15 (oN 0),oM 16 17] [3,4,5,7,8,15,16] (.cond (oO 16) (.cut c152k1) (oX [oB 27 .eql 3 15 (oN 1),oM 26 27] [3,4,5,7,8,15,26] (.cond (oO 26) (.cut c152k2) (oX [oB 51 .eql 3 15 (oN 2),oM 50 51] [3,4,5,7,8,15,50] (.cond (oO 50) (.cut c152k3) (oX [oB 56 .eql 3 15 (oN 3),oM 55 56] [3,4,5,7,8,15,55] (.cond (oO 55) (.cut c152k4) (oS (oX [oB 70 .eql 3 15 (oN 4),oM 69 70] [4,5,7,8,15,69] (.cond (oO 69) .skip (oR [oB 71 .eql 3 15 (oN 5),oM 69 71]))) (oK [4,5,7,8,15,69] (.cond (oO 69) (.cut c152k5) (oX [oB 77 .eql 3 15 (oN 6),oM 76 77] [4,5,7,8,15,76] (.cond (oO 76) (.cut c152k6) (oX [oB 83 .eql 3 15 (oN 7),oM 82 83] [4,5,7,8,15,82] (.cond (oO 82) (.cut c152k7) (oX [oB 110 .eql 3 15 (oN 8),oM 109 110] [4,5,7,8,15,109] (.cond (oO 109) (.cut c152k8) (oX [oB 123 .eql 3 15 (oN 9),oM 122 123] [4,5,7,8,15,122] (.cond (oO 122) (.cut c152k9) (oX [oB 129 .eql 3 15 (oN 10),oM 128 129] [4,5,7,8,128] (oI 128 (.cut c152k10)))))))))))))))))))))))) (oK [] (oX [oV 6 0] [6] .ret)))))
def rv152 : List RV:=[.tmp 6]
theorem is152 : FnIs Tryz.prog 152 162 c152 rv152:=⟨⟨Tryz.f152,_,Tryz.func152,by kernel_rfl,rfl,rfl,by kernel_rfl,by kernel_rfl⟩,by decide⟩
def c153k1 : AC:=oS (oQ [oF 32 9 2,oL 33 32,oF 34 3 2,oL 35 34,oA 36 (.iaddr 1 o0 (oO 33) (oO 35)),oL 37 36,oA 38 (.iaddr 1 o1 (oO 37) (oN 0)),oL 39 38,oF 40 8 2,oL 41 40,oT 42 (.bin .eql 3 (oO 39) (oO 41))]) (oK [2,4,42] (oI 42 (oR [oF 43 8 2,oL 44 43,oB 45 .add 3 44 (oN 1),oF 46 8 2,oW 1 46 45])))
def c153k2 : AC:=oX [o5 101 10 2,oC 102 167 [oO 101],oM 100 102,o8 103 100 0,o8 104 100 1,oM 5 103,oM 6 104] [2,4,5,6] (oS (.draw 999 [1,16,17,116,117,216,217,304,306,307,315,316,317,406,407,415,416,417,506,507,515,516,517,607,615,616,617,715,716,717,809,811,812,813,814,815,816,817,911,912,913,914,915,916,917,1011,1012,1013,1014,1015,1016,1017,1112,1113,1114,1115,1116,1117,1213,1214,1215,1216,1217,1314,1315,1316,1317,1415,1416,1417,1516,1517,1617] [oF 105 9 2,oL 106 105,oA 107 (.mvs (oO 6)),oF 108 9 2,oL 109 108,oA 110 (.mvs (oO 6)),oA 111 (.iaddr 1 o0 (oO 109) (oO 110)),oL 112 111,oF 113 9 2,oL 114 113,oM 115 5,oA 116 (.iaddr 1 o0 (oO 114) (oO 115)),oL 117 116,oA 118 (.iaddr 1 o1 (oO 117) (oN 0)),oL 119 118,oC 120 163 [oO 112,oO 119],oT 121 (.iaddr 1 o0 (oO 106) (oO 107)),⟨none,none,.store false 1 (oO 121) (oO 120),true⟩]) (oK [2,4,5] (.draw 999 [1,10,11,110,111,210,211,304,306,307,308,309,310,311,406,407,408,409,410,411,506,507,508,509,510,511,607,608,609,610,611,708,709,710,711,809,810,811,910,911,1011] [oF 122 9 2,oL 123 122,oA 124 (.mvs (oO 5)),oF 125 9 2,oL 126 125,oM 127 5,oA 128 (.iaddr 1 o0 (oO 126) (oO 127)),oL 129 128,oA 130 (.ssl 1 (oO 129) (some (oN 1)) none none),oC 131 24 [oO 130],oT 132 (.iaddr 1 o0 (oO 123) (oO 124)),⟨none,none,.store false 1 (oO 132) (oO 131),true⟩])))
def c153k3 : AC:=oS (oX [oF 140 1 2,oL 141 140,oB 142 .neq 3 141 (oN 2)] [2,3,4,142] (oI 142 (oR [oF 143 1 3,oL 144 143,oF 145 2 2,oW 1 145 144]))) (oK [2,4] (oR [oF 146 1 2,oY false 1 (oO 146) (oN 3)]))
def c153k4 : AC:=oX [o5 149 10 2,oF 150 2 3,oL 151 150,oF 152 1 3,oL 153 152,oC 154 142 [oO 149,oO 151,oO 153],oW 10 4 154] [4] .ret
def c153k5 : AC:=oX [o5 155 10 2,oC 156 168 [oO 155],oW 10 4 156] [4] .ret
def c153 : AC:=oX [o7 2 0,o7 3 1,oA 4 (.alloc oZ)] [2,3,4] (oS (oX [oF 7 0 3,oL 8 7] [2,3,4,8] (.block 0 (oX [oB 10 .eql 3 8 (oN 0),oM 9 10] [2,3,4,8,9] (.cond (oO 9) (oS (.draw 13 [0,1,2,3] [oF 11 9 2,oL 12 11,oF 13 6 2,oL 14 13,oF 15 9 2,oL 16 15,oF 17 6 2,oL 18 17,oA 19 (.iaddr 1 o0 (oO 16) (oO 18)),oL 20 19,oF 21 7 2,oL 22 21,oA 23 (.mkSl false 3 1 o1 1 [(0,oO 22)]),oT 24 (.app 24 3 1 8 o1 (oO 20) (oO 23)),oT 25 (.iaddr 1 o0 (oO 12) (oO 14)),⟨none,none,.store true 1 (oO 25) (oO 24),true⟩]) (oK [2,4] (oR [oF 26 7 2,oL 27 26,oB 28 .add 3 27 (oN 1),oF 29 7 2,oW 1 29 28]))) (oX [oB 31 .eql 3 8 (oN 1),oM 30 31] [2,3,4,8,30] (.cond (oO 30) (.cut c153k1) (oX [oB 48 .eql 3 8 (oN 2),oM 47 48] [2,3,4,8,47] (.cond (oO 47) (.draw 999 [1,13,14,113,114,203,213,214,313,314,405,408,409,412,413,414,508,509,512,513,514,607,608,609,612,613,614,708,709,712,713,714,809,812,813,814,912,913,914,1011,1012,1013,1014,1112,1113,1114,1213,1214,1314] [oF 49 9 2,oL 50 49,oF 51 3 2,oL 52 51,oF 53 9 2,oL 54 53,oF 55 3 2,oL 56 55,oA 57 (.iaddr 1 o0 (oO 54) (oO 56)),oL 58 57,oF 59 8 2,oL 60 59,oC 61 164 [oO 58,oO 60],oT 62 (.iaddr 1 o0 (oO 50) (oO 52)),⟨none,none,.store false 1 (oO 62) (oO 61),true⟩]) (oX [oB 64 .eql 3 8 (oN 3),oM 63 64] [2,3,4,8,63] (.cond (oO 63) (.draw 999 [1,6,7,8,9,106,107,108,109,203,208,209,308,309,405,406,407,408,409,506,507,508,509,607,608,609,708,709,809] [oF 65 1 3,oL 66 65,oF 67 2 3,oL 68 67,oF 69 1 2,oY false 1 (oO 69) (oN 1),oF 70 2 2,oW 1 70 66,oT 71 (.faddr 4 (oO 2)),⟨none,none,.store false 1 (oO 71) (oO 68),true⟩]) (oX [oB 73 .eql 3 8 (oN 4),oM 72 73] [2,3,4,8,72] (.cond (oO 72) (.draw 999 [1,4,5,6,7,104,105,106,107,203,204,205,206,207,304,305,306,307,405,406,407,506,507,607] [oF 74 1 3,oL 75 74,oF 76 1 2,oY false 1 (oO 76) (oN 0),oT 77 (.faddr 2 (oO 2)),⟨none,none,.store false 1 (oO 77) (oO 75),true⟩,oT 78 (.faddr 4 (oO 2)),⟨none,none,.store false 1 (oO 78) (oN (-1)),true⟩]) (oX [oB 80 .eql 3 8 (oN 5),oM 79 80] [2,3,4,8,79] (.cond (oO 79) (.draw 999 [1,4,5,104,105,203,204,205,304,305,405] [oF 81 1 3,oL 82 81,oF 83 1 2,oY false 1 (oO 83) (oN 2),oT 84 (.faddr 2 (oO 2)),⟨none,none,.store false 1 (oO 84) (oO 82),true⟩]) (oX [oB 86 .eql 3 8 (oN 6),oM 85 86] [2,3,4,8,85] (.cond (oO 85) (oS (.draw 999 [1,4,5,104,105,203,204,205,304,305,405] [oF 87 1 3,oL 88 87,oF 89 1 2,oY false 1 (oO 89) (oN 0),oT 90 (.faddr 2 (oO 2)),⟨none,none,.store false 1 (oO 90) (oO 88),true⟩]) (oK [2,4] (oR [oF 91 3 2,oL 92 91,oF 93 4 2,oL 94 93,oF 95 5 2,oW 1 95 92,oF 96 3 2,oW 1 96 94,oF 97 4 2,oY false 1 (oO 97) (oN (-1))]))) (oX [oB 99 .eql 3 8 (oN 7),oM 98 99] [2,3,4,8,98] (.cond (oO 98) (.cut c153k2) (oX [oB 134 .eql 3 8 (oN 8),oM 133 134] [2,3,4,8,133] (.cond (oO 133) (oR [oF 135 3 2,oL 136 135,oF 137 6 2,oW 1 137 136]) (oX [oB 139 .eql 3 8 (oN 9),oM 138 139] [2,3,4,8,138] (.cond (oO 138) (.cut c153k3) (oX [oB 148 .eql 3 8 (oN 10),oM 147 148] [2,3,4,147] (oI 147 (.cut c153k4))))))))))))))))))))))))) (oK [2,4] (.cut c153k5)))
def rv153 : List RV:=[.cell 4 true 10]
theorem is153 : FnIs Tryz.prog 153 157 c153 rv153:=⟨⟨Tryz.f153,_,Tryz.func153,by kernel_rfl,rfl,rfl,by kernel_rfl,by kernel_rfl⟩,by decide⟩
def c42l1 : AC:=oS (oX [oM 20 10,oM 21 2,o4 22 21,oB 23 .lss 3 20 (oO 22)] [2,3,6,9,10,23] (.cond (oO 23) .skip (.exit 0))) (oK [2,3,6,9,10] (oS (.block 1 (oS (.draw 999 [6,7,8,9,11,12,106,107,108,109,111,112,204,205,206,207,208,209,211,212,304,305,306,307,308,309,311,312,405,406,407,408,409,411,412,506,507,508,509,511,512,607,608,609,611,612,708,709,711,712,811,812,912,1011,1012,1112] [o5 27 3 3,o5 28 10 9,oM 29 2,oA 30 (.mvs (oO 10)),oA 31 (.iaddr 3 o3 (oO 29) (oO 30)),o5 32 3 31,oC 33 71 [oO 27,oO 28,oO 32],oM 26 33,o8 34 26 0,o8 35 26 1,oA 11 (.alloc oZ),oW 10 11 34,oT 12 (.mv (oO 35))]) (oK [2,3,6,9,10,11,12] (oS (oX [oM 36 12,oB 37 .neq 3 36 (oN 0)] [2,3,6,9,10,11,12,37] (oI 37 (oX [oA 38 (.build oZ []),oM 39 10,oM 40 12,oW 10 6 38,oM 7 39,oM 8 40] [6,7,8] .ret))) (oK [2,3,6,9,10,11] (oR [o5 41 10 11,oW 10 9 41])))))) (oK [2,3,6,9,10] (oR [oM 24 10,oB 25 .add 3 24 (oN 1),oM 10 25]))))
def c42 : AC:=oX [o7 3 0,oA 6 (.alloc oZ),oV 7 0,oV 8 0] [1,2,3,6] (oS (oX [oM 13 2,o4 14 13,oB 15 .gtr 3 14 (oN 200)] [1,2,3,6,15] (oI 15 (oX [oA 16 (.build oZ []),oW 10 6 16,oV 7 0,oV 8 8] [6,7,8] .ret))) (oK [1,2,3,6] (oX [o5 17 3 3,oM 18 1,oC 19 52 [oO 17,oO 18],oA 9 (.alloc oZ),oW 10 9 19] [2,3,6,9] (oS (oX [oV 10 0] [2,3,6,9,10] (.block 0 (.loop c42l1))) (oK [6,9] (oX [o5 42 10 9,oW 10 6 42,oV 7 0,oV 8 0] [6,7,8] .ret))))))
def rv42 : List RV:=[.cell 6 true 10,.tmp 7,.tmp 8]
theorem is42 : FnIs Tryz.prog 42 43 c42 rv42:=⟨⟨Tryz.f42,_,Tryz.func42,by kernel_rfl,rfl,rfl,by kernel_rfl,by kernel_rfl⟩,by decide⟩
end Go.Proofs.YtcbabnbiinkafaaGreatDoor.D7
end
section
open Go Go.Am
open Go.Am.Dat (cells)
namespace Go.Proofs.YtcbabnbiinkafaaGreatDoor.E2
def c113l1 : AC:=oX [oB 43 .lss 3 42 (oO 41)] [3,7,40,41,42,43] (oS (.cond (oO 43) .skip (.exit 0)) (oK [3,7,40,41,42] (oS (.block 1 (oX [oA 44 (.iaddr 1 o0 (oO 40) (oO 42)),oL 45 44,oM 9 45] [3,7,9,40,41,42] (.draw 999 [10,11,12,13,102,103,104,105,109,110,111,112,113,203,204,205,209,210,211,212,213,304,305,309,310,311,312,313,405,409,410,411,412,413,509,510,511,512,513,607,608,609,610,611,612,613,708,709,710,711,712,713,809,810,811,812,813,910,911,912,913,1011,1012,1013,1112,1113,1213] [oL 46 7,oL 47 7,o6 48 47,oF 49 0 48,oF 50 9 49,oL 51 50,oM 52 9,oC 53 143 [oO 52],oA 54 (.mkSl true 24 1 o0 1 [(0,oO 53)]),oA 55 (.app 51 24 1 24 o0 (oO 51) (oO 54)),oT 56 (.nilc (oO 46)),oT 57 (.faddr 0 (oO 56)),oT 58 (.faddr 9 (oO 57)),⟨none,none,.store true 1 (oO 58) (oO 55),true⟩]))) (oK [3,7,40,41,42] (oR [oB 59 .add 3 42 (oN 1),oM 42 59])))))
def c113k2 : AC:=oS (.draw 999 [3,4,5,6,7,8,9,10,12,13,14,15,16,17,18,19,20,21,22,23,24,25,26,28,29,30,31,102,103,104,105,106,107,108,109,110,112,113,114,115,116,117,118,119,120,121,122,123,124,125,126,128,129,130,131,203,204,205,206,207,208,209,210,212,213,214,215,216,217,218,219,220,221,222,223,224,225,226,228,229,230,231,304,305,306,307,308,309,310,312,313,314,315,316,317,318,319,320,321,322,323,324,325,326,328,329,330,331,405,406,407,408,409,410,412,413,414,415,416,417,418,419,420,421,422,423,424,425,426,428,429,430,431,508,509,510,512,513,514,515,516,517,518,519,520,521,522,523,524,525,526,528,529,530,531,607,608,609,610,612,613,614,615,616,617,618,619,620,621,622,623,624,625,626,628,629,630,631,708,709,710,712,713,714,715,716,717,718,719,720,721,722,723,724,725,726,728,729,730,731,809,810,812,813,814,815,816,817,818,819,820,821,822,823,824,825,826,828,829,830,831,910,912,913,914,915,916,917,918,919,920,921,922,923,924,925,926,928,929,930,931,1012,1013,1014,1015,1016,1017,1018,1019,1020,1021,1022,1023,1024,1025,1026,1028,1029,1030,1031,1112,1113,1114,1115,1116,1117,1118,1119,1120,1121,1122,1123,1124,1125,1126,1128,1129,1130,1131,1213,1214,1215,1216,1217,1218,1219,1220,1221,1222,1223,1224,1225,1226,1228,1229,1230,1231,1314,1315,1316,1317,1318,1319,1320,1321,1322,1323,1324,1325,1326,1328,1329,1330,1331,1415,1418,1419,1420,1421,1422,1423,1424,1425,1426,1428,1429,1430,1431,1518,1519,1520,1521,1522,1523,1524,1525,1526,1528,1529,1530,1531,1617,1618,1619,1620,1621,1622,1623,1624,1625,1626,1628,1629,1630,1631,1718,1719,1720,1721,1722,1723,1724,1725,1726,1728,1729,1730,1731,1819,1820,1821,1822,1823,1824,1825,1826,1828,1829,1830,1831,1920,1921,1922,1923,1924,1925,1926,1928,1929,1930,1931,2021,2022,2023,2024,2025,2026,2028,2029,2030,2031,2122,2123,2124,2125,2126,2128,2129,2130,2131,2223,2224,2225,2226,2228,2229,2230,2231,2324,2325,2326,2328,2329,2330,2331,2425,2426,2428,2429,2430,2431,2526,2528,2529,2530,2531,2628,2629,2630,2631,2728,2729,2730,2731,2829,2830,2831,2930,2931,3031] [oM 121 13,oF 122 4 3,oL 123 122,oA 124 (.call (oO 121) [oO 123]),oA 125 (.mvs (oO 124)),oD 126 125 true 13,oE 127 125 true 5 3,oJ 128 125 true 127,oG 129 125 true (.call (oO 126) [oO 128]),oP 130 125 129,oC 131 95 [oO 130,oN 13],oL 132 7,oC 133 120 [oO 132],oA 134 (.mvs (oO 133)),oJ 135 134 true 7,oG 136 134 true (.call (.func 121) [oO 135]),oE 137 134 true 0 3,oJ 138 134 true 137,oG 139 134 true (.bin .leq 3 (oO 136) (oO 138)),oP 140 134 139,oA 141 (.un .not (oO 140)),oA 142 (.mvs (oO 141)),oJ 143 142 true 7,oG 144 142 true (.call (.func 149) [oO 143]),oG 145 142 true (.un .not (oO 144)),oP 146 142 145,oC 147 95 [oO 146,oN 22],oL 148 7,oT 149 (.call (.func 150) [oO 148]),oT 150 (.mkSl false 27 1 o1 3 [(0,oO 131),(1,oO 147),(2,oO 149)]),oT 151 (.call (.func 91) [oO 150]),oT 12 (.mv (oO 151))]) (oK [7,12] (oS (oX [oM 152 12,oB 153 .neq 27 152 (oN 0)] [7,12,153] (oI 153 (oX [oM 154 12,oA 4 (.mv (.const (.pointer none))),oM 5 154] [4,5] .ret))) (oK [7] (oX [oL 155 7,oM 4 155,oV 5 0] [4,5] .ret))))
def c113k3 : AC:=oS (.draw 999 [1,2,3,5,9,10,11,12,13,14,15,16,17,18,19,20,21,22,23,24,25,26,27,28,30,31,32,33,34,102,103,105,109,110,111,112,113,114,115,116,117,118,119,120,121,122,123,124,125,126,127,128,130,131,132,133,134,203,205,209,210,211,212,213,214,215,216,217,218,219,220,221,222,223,224,225,226,227,228,230,231,232,233,234,305,309,310,311,312,313,314,315,316,317,318,319,320,321,322,323,324,325,326,327,328,330,331,332,333,334,405,409,410,411,412,413,414,415,416,417,418,419,420,421,422,423,424,425,426,427,428,430,431,432,433,434,509,510,511,512,513,514,515,516,517,518,519,520,521,522,523,524,525,526,527,528,530,531,532,533,534,609,610,611,612,613,614,615,616,617,618,619,620,621,622,623,624,625,626,627,628,630,631,632,633,634,708,709,710,711,712,713,714,715,716,717,718,719,720,721,722,723,724,725,726,727,728,730,731,732,733,734,809,810,811,812,813,814,815,816,817,818,819,820,821,822,823,824,825,826,827,828,830,831,832,833,834,910,911,912,913,914,915,916,917,918,919,920,921,922,923,924,925,926,927,928,930,931,932,933,934,1011,1012,1013,1014,1015,1016,1017,1018,1019,1020,1021,1022,1023,1024,1025,1026,1027,1028,1030,1031,1032,1033,1034,1114,1115,1116,1117,1118,1119,1120,1121,1122,1123,1124,1125,1126,1127,1128,1130,1131,1132,1133,1134,1213,1214,1215,1216,1217,1218,1219,1220,1221,1222,1223,1224,1225,1226,1227,1228,1230,1231,1232,1233,1234,1314,1315,1316,1317,1318,1319,1320,1321,1322,1323,1324,1325,1326,1327,1328,1330,1331,1332,1333,1334,1415,1416,1417,1418,1419,1420,1421,1422,1423,1424,1425,1426,1427,1428,1430,1431,1432,1433,1434,1516,1517,1518,1519,1520,1521,1522,1523,1524,1525,1526,1527,1528,1530,1531,1532,1533,1534,1617,1618,1619,1620,1621,1622,1623,1624,1625,1626,1627,1628,1630,1631,1632,1633,1634,1720,1721,1722,1723,1724,1725,1726,1727,1728,1730,1731,1732,1733,1734,1819,1820,1821,1822,1823,1824,1825,1826,1827,1828,1830,1831,1832,1833,1834,1920,1921,1922,1923,1924,1925,1926,1927,1928,1930,1931,1932,1933,1934,2021,2022,2023,2024,2025,2026,2027,2028,2030,2031,2032,2033,2034,2122,2123,2124,2125,2126,2127,2128,2130,2131,2132,2133,2134,2223,2224,2225,2226,2227,2228,2230,2231,2232,2233,2234,2326,2327,2328,2330,2331,2332,2333,2334,2425,2426,2427,2428,2430,2431,2432,2433,2434,2526,2527,2528,2530,2531,2532,2533,2534,2627,2628,2630,2631,2632,2633,2634,2728,2730,2731,2732,2733,2734,2830,2831,2832,2833,2834,2930,2931,2932,2933,2934,3031,3032,3033,3034,3132,3133,3134,3233,3234,3334] [oF 83 1 3,oL 84 83,oC 85 96 [oO 84,oN 0,oN 3],oC 86 95 [oO 85,oN 15],oA 87 (.mvs (oO 11)),oC 88 95 [oO 87,oN 2],oL 89 7,oF 90 3 3,oL 91 90,oC 92 145 [oO 89,oO 91],oA 93 (.mvs (oO 92)),oJ 94 93 true 7,oE 95 93 true 6 3,oJ 96 93 true 95,oG 97 93 true (.call (.func 145) [oO 94,oO 96]),oP 98 93 97,oA 99 (.mvs (oO 98)),oD 100 99 true 10,oE 101 99 true 4 3,oJ 102 99 true 101,oG 103 99 true (.call (oO 100) [oO 102]),oP 104 99 103,oA 105 (.mvs (oO 104)),oD 106 105 true 10,oE 107 105 true 5 3,oJ 108 105 true 107,oG 109 105 true (.call (oO 106) [oO 108]),oP 110 105 109,oC 111 95 [oO 110,oN 6],oL 112 7,oT 113 (.call (.func 146) [oO 112]),oT 114 (.call (.func 95) [oO 113,oN 3]),oT 115 (.mkSl false 27 1 o1 4 [(0,oO 86),(1,oO 88),(2,oO 111),(3,oO 114)]),oT 116 (.call (.func 91) [oO 115]),oT 12 (.mv (oO 116))]) (oK [3,7,12] (oS (oX [oM 117 12,oB 118 .neq 27 117 (oN 0)] [3,7,12,118] (oI 118 (oX [oM 119 12,oA 4 (.mv (.const (.pointer none))),oM 5 119] [4,5] .ret))) (oK [3,7] (oX [oA 120 (.mkFn (.func 147) [] [oO 7]),oM 13 120] [3,7,13] (.cut c113k2)))))
def c113 : AC:=oX [o7 2 0,o7 3 1,oA 4 (.mv (.const (.pointer none))),oV 5 0] [2,3] (oS (oS (oQ [o5 14 3 2,oC 15 101 [oO 14],oF 16 9 3,oL 17 16,o4 18 17,oF 19 0 2,oL 20 19,o4 21 20,oB 22 .eql 3 18 (oO 21),oT 23 (.call (.func 95) [oO 22,oN 10]),oT 24 (.mkSl false 27 1 o1 2 [(0,oO 15),(1,oO 23)]),oT 25 (.call (.func 91) [oO 24]),oT 6 (.mv (oO 25))]) (oK [2,3,6] (oX [oM 26 6,oB 27 .neq 27 26 (oN 0)] [2,3,6,27] (oI 27 (oX [oM 28 6,oA 4 (.mv (.const (.pointer none))),oM 5 28] [4,5] .ret))))) (oK [2,3] (oX [o5 29 3 2,oC 30 107 [oO 29,oN 0],oA 7 (.alloc [.pointer none]),oW 1 7 30] [3,7] (oX [oL 31 7,o5 32 10 3,o6 33 31,oF 34 0 33,oW 10 34 32] [3,7] (oX [oL 35 7,o6 36 35,oF 37 0 36,oF 38 9 37,oY false 1 (oO 38) (.const (.slice none 0 0))] [3,7] (oS (oX [oF 39 9 3,oL 40 39,o4 41 40,oV 42 0] [3,7,40,41,42] (.block 0 (.loop c113l1))) (oK [3,7] (oX [oA 60 (.mkFn (.func 144) [] [oO 7]),oM 10 60] [3,7,10] (oX [oF 61 0 3,oL 62 61,oC 63 102 [oO 62],oM 64 63,oE 65 64 true 2 3,oJ 66 64 true 65,oE 67 64 true 0 3,oJ 68 64 true 67,oG 69 64 true (.call (.func 96) [oO 66,oN 0,oO 68]),oP 70 64 69,oM 71 70,oE 72 71 true 7 3,oJ 73 71 true 72,oG 74 71 true (.call (.func 96) [oO 73,oN 0,oN 1000000]),oP 75 71 74,oM 76 75,oE 77 76 true 8 3,oJ 78 76 true 77,oE 79 76 true 7 3,oJ 80 76 true 79,oG 81 76 true (.call (.func 96) [oO 78,oN 0,oO 80]),oP 82 76 81,oM 11 82] [3,7,10,11] (.cut c113k3))))))))))
def rv113 : List RV:=[.tmp 4,.tmp 5]
theorem is113 : FnIs Tryz.prog 113 156 c113 rv113:=⟨⟨Tryz.f113,_,Tryz.func113,by kernel_rfl,rfl,rfl,by kernel_rfl,by kernel_rfl⟩,by decide⟩
end Go.Proofs.YtcbabnbiinkafaaGreatDoor.E2
end
section
open Go Go.Am
open Go.Am.Dat (cells)
namespace Go.Proofs.YtcbabnbiinkafaaGreatDoor.E3
def c143k1 : AC:=.ret
def c143k2 : AC:=.ret
def c143 : AC:=oX [oA 2 (.mv (.const (.slice none 0 0)))] [0] (oS (oX [oM 3 0,oA 4 (.ext (.isnil false) [oO 3])] [0,4] (oI 4 (oX [oA 2 (.mv (.const (.slice none 0 0)))] [2] (.cut c143k1)))) (oK [0] (oX [oA 5 (.mkSl true 3 1 o1 0 []),oM 6 0,oA 7 (.app 24 3 1 8 o1 (oO 5) (oO 6)),oM 2 7] [2] (.cut c143k2))))
def rv143 : List RV:=[.tmp 2]
theorem is143 : FnIs Tryz.prog 143 8 c143 rv143:=⟨⟨Tryz.f143,_,Tryz.func143,by kernel_rfl,rfl,rfl,by kernel_rfl,by kernel_rfl⟩,by decide⟩
end Go.Proofs.YtcbabnbiinkafaaGreatDoor.E3
end
section
open Go Go.Am
open Go.Am.Dat (cells)
namespace Go.Proofs.YtcbabnbiinkafaaGreatDoor
def c124 : AC:=oX [⟨some 4,none,.mv (.const (.string ⟨#[]⟩)),false⟩,⟨some 5,none,.mv (.const (.string ⟨#[]⟩)),false⟩,o9 6 false] [0,1] (oX [oM 7 0,oM 8 1,oC 9 158 [oO 7,oO 8],o8 10 9 0,o8 11 9 1,o8 12 9 2,oM 4 10,oM 5 11,oM 6 12] [4,5,6] .ret)
def rv124 : List RV:=[.tmp 4,.tmp 5,.tmp 6]
theorem is124 : FnIs Tryz.prog 124 13 c124 rv124:=⟨⟨Tryz.f124,_,Tryz.func124,by kernel_rfl,rfl,rfl,by kernel_rfl,by kernel_rfl⟩,by decide⟩
def Bc : AC:=oX [oB 9 .lss 3 8 (oO 7)] [0,1,7,8,9] (oS (.cond (oO 9) .skip (.exit 0)) (oK [0,1,7,8] (oS (.block 1 (oX [oM 10 8,oM 5 10] [0,1,5,7,8] (oX [oM 11 1,oM 12 0,oM 13 5,⟨some 14,none,.iaddr 3 [.string ⟨#[]⟩,.bool false,.nilFunc] (oO 12) (oO 13),false⟩,o5 15 3 14,oA 16 (.call (oO 11) [oO 15])] [0,1,5,7,8,16] (oI 16 (oX [oM 17 5,oM 4 17] [4] .ret))))) (oK [0,1,7,8] (oR [oB 18 .add 3 8 (oN 1),oM 8 18])))))
def c125 : AC:=oX [oV 4 0] [0,1] (oS (oX [oM 6 0,o4 7 6,oV 8 0] [0,1,7,8] (.block 0 (.loop Bc))) (oK [] (oX [oV 4 (-1)] [4] .ret)))
def Bp : List RV:=[.tmp 4]
theorem is125 : FnIs Tryz.prog 125 19 c125 Bp:=⟨⟨Tryz.f125,_,Tryz.func125,by kernel_rfl,rfl,rfl,by kernel_rfl,by kernel_rfl⟩,by decide⟩
def c126 : AC:=oX [o7 2 0,o9 3 false] [1,2] (oX [oF 4 0 2,oL 5 4,oL 6 1,oB 7 .eql 9 5 (oO 6),oM 3 7] [3] .ret)
def rv126 : List RV:=[.tmp 3]
theorem is126 : FnIs Tryz.prog 126 8 c126 rv126:=⟨⟨Tryz.f126,_,Tryz.func126,by kernel_rfl,rfl,rfl,by kernel_rfl,by kernel_rfl⟩,by decide⟩
def Bd : AC:=.block 1 (oX [oM 14 5,oC 15 160 [oO 14],oM 13 15,o8 16 13 0,o8 17 13 1,oM 6 16,oM 7 17] [2,3,4,6,7,11] (oS (oX [oM 18 7,oA 19 (.un .not (oO 18))] [2,3,4,6,11,19] (oI 19 (oX [oY false 1 (oO 2) (.const (.slice none 0 0)),oY false 1 (oO 3) (.const (.bool false))] [2,3] .ret))) (oK [2,3,4,6,11] (oR [oL 20 4,oM 21 6,oA 22 (.mkSl false 3 1 o1 1 [(0,oO 21)]),oA 23 (.app 24 3 1 8 o1 (oO 20) (oO 22)),oY true 1 (oO 4) (oO 23)]))))
def c127 : AC:=oX [oA 2 (.alloc o0),oA 3 (.alloc [.bool false])] [0,2,3] (oS (oX [oM 8 0,⟨some 9,none,.bin .eql 9 (oO 8) (.const (.string ⟨#[]⟩)),false⟩] [0,2,3,9] (oI 9 (oX [oY false 1 (oO 2) (.const (.slice none 0 0)),oY false 1 (oO 3) (.const (.bool true))] [2,3] .ret))) (oK [0,2,3] (oX [oA 4 (.alloc o0)] [0,2,3,4] (oS (oX [oM 10 0,⟨some 11,none,.call (.func 159) [oO 10,(.const (.string ⟨#[32]⟩))],false⟩] [2,3,4,11] (.block 0 (.rangeFunc (oO 11) [12] (oR [oM 5 12]) Bd))) (oK [2,3,4] (oX [oL 24 4,oW 1 2 24,oY false 1 (oO 3) (.const (.bool true))] [2,3] .ret))))))
def y5 : List RV:=[.cell 2 false 1,.cell 3 false 1]
theorem is127 : FnIs Tryz.prog 127 25 c127 y5:=⟨⟨Tryz.f127,_,Tryz.func127,by kernel_rfl,rfl,rfl,by kernel_rfl,by kernel_rfl⟩,by decide⟩
def c128 : AC:=oX [oA 4 (.mv (.const (.slice none 0 0)))] [0,1] (oX [oM 5 0,oM 6 1,oC 7 161 [oO 5,oO 6,oN 0,oN (-1)],oM 4 7] [4] .ret)
def rv128 : List RV:=[.tmp 4]
theorem is128 : FnIs Tryz.prog 128 8 c128 rv128:=⟨⟨Tryz.f128,_,Tryz.func128,by kernel_rfl,rfl,rfl,by kernel_rfl,by kernel_rfl⟩,by decide⟩
def c158 : AC:=oX [⟨some 4,none,.mv (.const (.string ⟨#[]⟩)),false⟩,⟨some 5,none,.mv (.const (.string ⟨#[]⟩)),false⟩,o9 6 false] [0,1] (oS (oX [oM 8 0,oM 9 1,oC 10 172 [oO 8,oO 9],oM 7 10] [0,1,7] (oX [oM 11 7,oB 12 .geq 3 11 (oN 0)] [0,1,7,12] (oI 12 (oS (oQ [oA 13 (.mvs (oO 0)),oA 14 (.mvs (oO 7)),oA 15 (.sstr (oO 13) none (some (oO 14))),oA 16 (.mvs (oO 0)),oA 17 (.mvs (oO 7)),oA 18 (.mvs (oO 1)),oA 19 (.len true (oO 18)),oB 20 .add 3 17 (oO 19),oA 21 (.sstr (oO 16) (some (oO 20)) none),oM 4 15,oT 5 (.mv (oO 21)),oT 6 (.mv (.const (.bool true)))]) (oK [4,5,6] .ret))))) (oK [0] (oX [oM 22 0,oM 4 22,⟨some 5,none,.mv (.const (.string ⟨#[]⟩)),false⟩,o9 6 false] [4,5,6] .ret)))
def rv158 : List RV:=[.tmp 4,.tmp 5,.tmp 6]
theorem is158 : FnIs Tryz.prog 158 23 c158 rv158:=⟨⟨Tryz.f158,_,Tryz.func158,by kernel_rfl,rfl,rfl,by kernel_rfl,by kernel_rfl⟩,by decide⟩
def c159 : AC:=oX [oA 4 (.mv (.const (.nilFunc)))] [0,1] (oX [oM 5 0,oM 6 1,oC 7 173 [oO 5,oO 6,oN 0],oM 4 7] [4] .ret)
def rv159 : List RV:=[.tmp 4]
theorem is159 : FnIs Tryz.prog 159 8 c159 rv159:=⟨⟨Tryz.f159,_,Tryz.func159,by kernel_rfl,rfl,rfl,by kernel_rfl,by kernel_rfl⟩,by decide⟩
def c173 : AC:=oX [o7 3 0,o7 4 1,o7 5 2,oA 6 (.mv (.const (.nilFunc)))] [3,4,5] (oX [oA 7 (.mkFn (.func 192) [] [oO 4,oO 3,oO 5]),oM 6 7] [6] .ret)
def rv173 : List RV:=[.tmp 6]
theorem is173 : FnIs Tryz.prog 173 8 c173 rv173:=⟨⟨Tryz.f173,_,Tryz.func173,by kernel_rfl,rfl,rfl,by kernel_rfl,by kernel_rfl⟩,by decide⟩
def c192l1 : AC:=oS (oX [oL 12 2,oA 13 (.len true (oO 12)),oB 14 .gtr 3 13 (oN 0)] [0,2,14] (.cond (oO 14) .skip (.exit 0))) (oK [0,2] (.block 1 (oX [oL 16 2,oC 17 193 [oO 16],oM 15 17,o8 18 15 0,o8 19 15 1,oM 5 18,oM 6 19] [0,2,6] (oS (oX [oM 20 0,oL 21 2,oM 22 6,oA 23 (.sstr (oO 21) none (some (oO 22))),oA 24 (.call (oO 20) [oO 23]),oA 25 (.un .not (oO 24))] [0,2,6,25] (oI 25 .ret)) (oK [0,2,6] (oR [oL 26 2,oM 27 6,oA 28 (.sstr (oO 26) (some (oO 27)) none),oW 1 2 28]))))))
def Cs : AC:=.block 3 (oX [oL 29 2,oL 30 1,oC 31 178 [oO 29,oO 30],oM 7 31] [0,1,2,3,7] (oS (oX [oM 32 7,oB 33 .lss 3 32 (oN 0)] [0,1,2,3,7,33] (oI 33 (.exit 2))) (oK [0,1,2,3,7] (oX [oL 34 2,oM 35 7,oL 36 3,oB 37 .add 3 35 (oO 36),oA 38 (.sstr (oO 34) none (some (oO 37))),oM 8 38] [0,1,2,3,7,8] (oS (oX [oM 39 0,oM 40 8,oA 41 (.call (oO 39) [oO 40]),oA 42 (.un .not (oO 41))] [0,1,2,3,7,42] (oI 42 .ret)) (oK [0,1,2,3,7] (oR [oL 43 2,oM 44 7,oL 45 1,oA 46 (.len true (oO 45)),oB 47 .add 3 44 (oO 46),oA 48 (.sstr (oO 43) (some (oO 47)) none),oW 1 2 48])))))))
def c192 : AC:=oS (oX [oL 9 1,oA 10 (.len true (oO 9)),oB 11 .eql 3 10 (oN 0)] [0,1,2,3,11] (oI 11 (oS (.block 0 (.loop c192l1)) (oK [] .ret)))) (oK [0,1,2,3] (oS (.block 2 (.loop Cs)) (oK [0,2] (oR [oM 49 0,oL 50 2,oA 51 (.call (oO 49) [oO 50])]))))
def x4 : List RV:=[]
theorem is192 : FnIs Tryz.prog 192 52 c192 x4:=⟨⟨Tryz.f192,_,Tryz.func192,by kernel_rfl,rfl,rfl,by kernel_rfl,by kernel_rfl⟩,by decide⟩
end Go.Proofs.YtcbabnbiinkafaaGreatDoor
end
section
open Go Go.Am
open Go.Am.Dat (cells)
namespace Go.Proofs.YtcbabnbiinkafaaGreatDoor.E7
def c79 : AC:=oX [o7 1 0,⟨some 2,none,.mv (.const (.string ⟨#[]⟩)),false⟩] [1] (oS (oX [oF 5 0 1,oL 6 5,oC 7 96 [oO 6,oN 0,oN 11],oA 8 (.un .not (oO 7))] [1,8] (oI 8 (oX [⟨some 2,none,.mv (.const (.string ⟨#[]⟩)),false⟩] [2] .ret))) (oK [1] (oX [oF 9 0 1,oL 10 9,oA 11 (.iarr 12 3 (.global 0) (oO 10)),o5 12 3 11,⟨some 3,none,.alloc [.string ⟨#[]⟩,.bool false,.nilFunc],false⟩,oW 3 3 12] [1,3] (oX [oF 13 1 1,oL 14 13,oA 15 (.mkSl true 3 1 o1 1 [(0,oO 14)]),oM 4 15] [1,3,4] (oS (oX [oF 16 1 3,oL 17 16] [1,3,4,17] (oI 17 (oR [oM 18 4,oF 19 2 1,oL 20 19,oA 21 (.mkSl false 3 1 o1 1 [(0,oO 20)]),oA 22 (.app 24 3 1 8 o1 (oO 18) (oO 21)),oM 4 22]))) (oK [3,4] (.fz [15,18,22,4] (oS (oQ [oF 23 0 3,oL 24 23,⟨some 25,none,.bin .add 9 (oO 24) (.const (.string ⟨#[32]⟩)),false⟩,oM 26 4,oC 27 122 [oO 26],oT 28 (.bin .add 9 (oO 25) (oO 27)),oT 2 (.mv (oO 28))]) (oK [2] .ret)))))))))
def rv79 : List RV:=[.tmp 2]
theorem is79 : FnIs Tryz.prog 79 29 c79 rv79:=⟨⟨Tryz.f79,_,Tryz.func79,by kernel_rfl,rfl,rfl,by kernel_rfl,by kernel_rfl⟩,by decide⟩
end Go.Proofs.YtcbabnbiinkafaaGreatDoor.E7
end
section
open Go Go.Am
open Go.Am.Dat (cells)
namespace Go.Proofs.YtcbabnbiinkafaaGreatDoor.E8
def c161l1 : AC:=oS (oX [oM 34 10,oM 35 3,oB 36 .lss 3 34 (oO 35)] [0,1,2,3,9,10,36] (.cond (oO 36) .skip (.exit 0))) (oK [0,1,2,3,9,10] (.block 1 (oX [oM 37 0,oM 38 1,oC 39 178 [oO 37,oO 38],oM 11 39] [0,1,2,3,9,10,11] (oS (oX [oM 40 11,oB 41 .lss 3 40 (oN 0)] [0,1,2,3,9,10,11,41] (oI 41 (.exit 0))) (oK [0,1,2,3,9,10,11] (oX [oM 42 9,oM 43 10,oM 44 0,oM 45 11,oM 46 2,oB 47 .add 3 45 (oO 46),oA 48 (.sstr (oO 44) none (some (oO 47))),⟨some 49,none,.iaddr 1 [.string ⟨#[]⟩] (oO 42) (oO 43),false⟩,oW 1 49 48] [0,1,2,3,9,10,11] (oX [oM 50 0,oM 51 11,oM 52 1,oA 53 (.len true (oO 52)),oB 54 .add 3 51 (oO 53),oA 55 (.sstr (oO 50) (some (oO 54)) none),oM 0 55] [0,1,2,3,9,10] (oR [oM 56 10,oB 57 .add 3 56 (oN 1),oM 10 57]))))))))
def c161 : AC:=oX [oA 8 (.mv (.const (.slice none 0 0)))] [0,1,2,3] (oS (oX [oM 12 3,oB 13 .eql 3 12 (oN 0)] [0,1,2,3,13] (oI 13 (oX [oA 8 (.mv (.const (.slice none 0 0)))] [8] .ret))) (oK [0,1,2,3] (oS (oX [oM 14 1,⟨some 15,none,.bin .eql 9 (oO 14) (.const (.string ⟨#[]⟩)),false⟩] [0,1,2,3,15] (oI 15 (oX [oM 16 0,oM 17 3,oC 18 176 [oO 16,oO 17],oM 8 18] [8] .ret))) (oK [0,1,2,3] (oS (oX [oM 19 3,oB 20 .lss 3 19 (oN 0)] [0,1,2,3,20] (oI 20 (oR [oM 21 0,oM 22 1,oC 23 177 [oO 21,oO 22],oB 24 .add 3 23 (oN 1),oM 3 24]))) (oK [0,1,2,3] (oX [oM 25 3,oM 26 0,oA 27 (.len true (oO 26)),oB 28 .add 3 27 (oN 1),oA 29 (.ext (.mx false) [oO 25,oO 28]),oM 3 29] [0,1,2,3] (oX [oM 30 3,⟨some 31,none,.makeSl 9 1 16 [.string ⟨#[]⟩] (oO 30) (oO 30),false⟩,oM 9 31] [0,1,2,3,9] (oX [oM 32 3,oB 33 .sub 3 32 (oN 1),oM 3 33] [0,1,2,3,9] (oX [oV 10 0] [0,1,2,3,9,10] (oS (.block 0 (.loop c161l1)) (oK [0,9,10] (oX [oM 58 9,oM 59 10,oM 60 0,⟨some 61,none,.iaddr 1 [.string ⟨#[]⟩] (oO 58) (oO 59),false⟩,oW 1 61 60] [9,10] (.fz [31,9] (oX [oM 62 9,oM 63 10,oB 64 .add 3 63 (oN 1),oA 65 (.ssl 1 (oO 62) none (some (oO 64)) none),oM 8 65] [8] .ret)))))))))))))))
def rv161 : List RV:=[.tmp 8]
theorem is161 : FnIs Tryz.prog 161 66 c161 rv161:=⟨⟨Tryz.f161,_,Tryz.func161,by kernel_rfl,rfl,rfl,by kernel_rfl,by kernel_rfl⟩,by decide⟩
end Go.Proofs.YtcbabnbiinkafaaGreatDoor.E8
end
section
open Go Go.Am
open Go.Am.Dat (cells)
namespace Go.Proofs.YtcbabnbiinkafaaGreatDoor.F1
def c81k1 : AC:=oX [oM 32 7,oA 33 (.build o3 [(0,1,oO 32)]),oA 10 (.alloc o3),oW 3 10 33] [2,7,8,10] (oS (.block 0 (oX [oM 36 7,oA 37 (.iarr 12 3 (.global 0) (oO 36)),oF 38 1 37,oL 39 38,oM 40 39,oD 41 40 true 8,oG 42 40 true (.len false (oO 41)),oG 43 40 true (.bin .eql 3 (oO 42) (oN 2)),oP 44 40 43,oM 35 44] [2,7,8,10,35] (.cond (oO 35) (.draw 999 [1,2,6,7,8,9,102,106,107,108,109,206,207,208,209,304,305,308,309,405,408,409,508,509,607,608,609,708,709,809] [oM 45 8,oA 46 (.iaddr 1 o1 (oO 45) (oN 0)),oL 47 46,oM 48 8,oA 49 (.iaddr 1 o1 (oO 48) (oN 1)),oL 50 49,oF 51 1 10,oW 1 51 47,oT 52 (.faddr 2 (oO 10)),⟨none,none,.store false 1 (oO 52) (oO 50),true⟩]) (oX [oM 54 7,oA 55 (.iarr 12 3 (.global 0) (oO 54)),oF 56 1 55,oL 57 56,oA 58 (.un .not (oO 57)),oM 59 58,oD 60 59 true 8,oG 61 59 true (.len false (oO 60)),oG 62 59 true (.bin .eql 3 (oO 61) (oN 1)),oP 63 59 62,oM 53 63] [2,8,10,53] (.cond (oO 53) (oR [oM 64 8,oA 65 (.iaddr 1 o1 (oO 64) (oN 0)),oL 66 65,oF 67 1 10,oW 1 67 66]) (oX [oA 34 (.build o3 []),oW 3 2 34,oV 3 7] [2,3] .ret)))))) (oK [2,10] (oX [o5 68 3 10,oW 3 2 68,oV 3 0] [2,3] .ret)))
def c81 : AC:=oX [oA 2 (.alloc o3),oV 3 0] [0,2] (oX [oM 12 0,⟨some 13,none,.call (.func 124) [oO 12,(.const (.string ⟨#[32]⟩))],false⟩,oM 11 13,o8 14 11 0,o8 15 11 1,o8 16 11 2,⟨some 4,none,.alloc [.string ⟨#[]⟩],false⟩,oW 1 4 14,oM 5 15,oM 6 16] [2,4,5] (oX [oA 17 (.opq (.slice 170 (.global 0) none none none) 176),oA 18 (.mkFn (.func 126) [] [oO 4]),oC 19 125 [oO 17,oO 18],oM 7 19] [2,5,7] (oX [oM 21 5,oC 22 127 [oO 21],oM 20 22,o8 23 20 0,o8 24 20 1,oM 8 23,oM 9 24] [2,7,8,9] (oS (oX [oM 25 7,oB 26 .lss 3 25 (oN 0),oM 27 26,oD 28 27 false 9,oG 29 27 false (.un .not (oO 28)),oH 30 27 29] [2,7,8,30] (oI 30 (oX [oA 31 (.build o3 []),oW 3 2 31,oV 3 7] [2,3] .ret))) (oK [2,7,8] (.cut c81k1))))))
def rv81 : List RV:=[.cell 2 true 3,.tmp 3]
theorem is81 : FnIs Tryz.prog 81 69 c81 rv81:=⟨⟨Tryz.f81,_,Tryz.func81,by kernel_rfl,rfl,rfl,by kernel_rfl,by kernel_rfl⟩,by decide⟩
end Go.Proofs.YtcbabnbiinkafaaGreatDoor.F1
end
section
open Go Go.Am
open Go.Am.Dat (cells)
namespace Go.Proofs.YtcbabnbiinkafaaGreatDoor.F3
def c20l1 : AC:=oS (oX [oM 47 8,oM 48 2,o4 49 48,oB 50 .lss 3 47 (oO 49)] [1,2,3,7,8,50] (.cond (oO 50) .skip (.exit 0))) (oK [1,2,3,7,8] (oS (.block 1 (oX [oM 54 2,oM 55 8,oA 56 (.iaddr 3 o3 (oO 54) (oO 55)),o5 57 3 56,oC 58 79 [oO 57],oC 59 81 [oO 58],oM 53 59,o8 60 53 0,o8 61 53 1,oA 9 (.alloc o3),oW 3 9 60,oM 10 61] [1,2,3,7,8,9,10] (oS (oX [oM 62 10,oB 63 .neq 27 62 (oN 0)] [1,2,3,7,8,9,63] (oI 63 (oX [o9 6 false] [6] .ret))) (oK [1,2,3,7,8,9] (oR [oM 64 7,o5 65 3 9,oA 66 (.mkSl false 83 3 o3 1 [(0,oO 65)]),oA 67 (.app 48 83 3 24 o3 (oO 64) (oO 66)),oM 7 67]))))) (oK [1,2,3,7,8] (oR [oM 51 8,oB 52 .add 3 51 (oN 1),oM 8 52]))))
def c20l2 : AC:=oS (oX [oM 134 23,oM 135 2,o4 136 135,oB 137 .lss 3 134 (oO 136)] [2,3,11,21,23,137] (.cond (oO 137) .skip (.exit 2))) (oK [2,3,11,21,23] (oS (.block 3 (oS (.draw 999 [1,3,8,9,10,11,13,14,103,108,109,110,111,113,114,203,208,209,210,211,213,214,308,309,310,311,313,314,406,407,408,409,410,411,413,414,506,507,508,509,510,511,513,514,607,608,609,610,611,613,614,708,709,710,711,713,714,809,810,811,813,814,910,911,913,914,1013,1014,1114,1213,1214,1314] [o5 141 3 3,oC 142 37 [oO 141],o5 143 10 21,oC 144 65 [oO 143],oM 145 2,oA 146 (.mvs (oO 23)),oA 147 (.iaddr 3 o3 (oO 145) (oO 146)),o5 148 3 147,oC 149 69 [oO 142,oO 144,oO 148],oM 140 149,o8 150 140 0,o8 151 140 1,oA 24 (.alloc oZ),oW 10 24 150,oT 25 (.mv (oO 151))]) (oK [2,3,11,21,23,24,25] (oS (oX [oM 152 25,oB 153 .neq 27 152 (oN 0)] [2,3,11,21,23,24,153] (oI 153 (oX [o9 6 false] [6] .ret))) (oK [2,3,11,21,23,24] (oR [o5 154 10 24,oW 10 21 154])))))) (oK [2,3,11,21,23] (oR [oM 138 23,oB 139 .add 3 138 (oN 1),oM 23 139]))))
def c20k3 : AC:=oS (oQ [o5 156 3 3,oC 157 37 [oO 156],o5 158 10 21,oC 159 65 [oO 158],oF 160 0 21,oL 161 160,oT 162 (.call (.func 76) [oO 157,oO 159,oO 161]),oT 155 (.mv (oO 162)),o8 163 155 0,o8 164 155 1,oM 26 163,oT 27 (.mv (oO 164))]) (oK [3,11,21,26,27] (oS (oQ [o5 166 3 3,oC 167 37 [oO 166],o5 168 10 11,oC 169 65 [oO 168],oF 170 0 11,oL 171 170,oT 172 (.call (.func 76) [oO 167,oO 169,oO 171]),oT 165 (.mv (oO 172)),o8 173 165 0,o8 174 165 1,oM 28 173,oT 29 (.mv (oO 174))]) (oK [11,21,26,27,28,29] (oX [o5 175 10 21,o5 176 10 11,oC 177 41 [oO 175,oO 176],oM 178 177,oD 179 178 true 27,oG 180 178 true (.bin .eql 27 (oO 179) (oN 0)),oP 181 178 180,oM 182 181,oD 183 182 true 29,oG 184 182 true (.bin .eql 27 (oO 183) (oN 0)),oP 185 182 184,oM 186 185,oD 187 186 true 26,oD 188 186 true 28,oG 189 186 true (.call (.func 77) [oO 187,oO 188]),oP 190 186 189,oM 191 190,oD 192 191 true 26,oG 193 191 true (.len false (oO 192)),oG 194 191 true (.bin .gtr 3 (oO 193) (oN 0)),oP 195 191 194,oM 6 195] [6] .ret))))
def c20k4 : AC:=oS (oX [oM 133 17,oM 23 133] [2,3,11,21,23] (.block 2 (.loop c20l2))) (oK [3,11,21] (.cut c20k3))
def c20k5 : AC:=oX [o5 119 10 18,oC 120 65 [oO 119],oC 121 80 [oO 120],oC 122 82 [oO 121],oM 118 122,o8 123 118 0,o8 124 118 1,oA 21 (.alloc oZ),oW 10 21 123,oM 22 124] [2,3,11,17,18,21,22] (oS (oX [oM 125 22,oB 126 .neq 27 125 (oN 0),oM 127 126,oG 128 127 false (.load true 10 (oO 21)),oG 129 127 false (.load true 10 (oO 18)),oG 130 127 false (.call (.func 41) [oO 128,oO 129]),oG 131 127 false (.un .not (oO 130)),oH 132 127 131] [2,3,11,17,21,132] (oI 132 (oX [o9 6 false] [6] .ret))) (oK [2,3,11,17,21] (.cut c20k4)))
def c20k6 : AC:=oX [oM 87 2,o4 88 87,oB 89 .quo 3 88 (oN 2),oM 17 89] [1,2,3,11,13,14,16,17] (oS (.draw 999 [1,6,7,8,9,10,11,13,14,15,106,107,108,109,110,111,113,114,115,207,208,209,210,211,213,214,215,305,306,307,308,309,310,311,313,314,315,405,406,407,408,409,410,411,413,414,415,506,507,508,509,510,511,513,514,515,607,608,609,610,611,613,614,615,708,709,710,711,713,714,715,809,810,811,813,814,815,913,914,915,1014,1015,1115,1213,1214,1215,1314,1315,1415] [o5 91 3 3,oC 92 37 [oO 91],oA 93 (.mvs (oO 1)),oM 94 2,oA 95 (.mvs (oO 17)),oA 96 (.ssl 3 (oO 94) none (some (oO 95)) none),oC 97 38 [oO 96],oC 98 36 [oO 92,oO 93,oO 97],oM 90 98,o8 99 90 0,o8 100 90 1,o8 101 90 2,oA 18 (.alloc oZ),oW 10 18 99,oM 19 100,oT 20 (.mv (oO 101))]) (oK [2,3,11,13,14,16,17,18,20] (oS (oX [oM 102 13,oB 103 .neq 27 102 (oN 0),oM 104 103,oD 105 104 false 16,oG 106 104 false (.bin .neq 27 (oO 105) (oN 0)),oH 107 104 106,oM 108 107,oD 109 108 false 20,oG 110 108 false (.bin .neq 27 (oO 109) (oN 0)),oH 111 108 110,oM 112 111,oG 113 112 false (.load true 10 (oO 11)),oG 114 112 false (.load true 10 (oO 14)),oG 115 112 false (.call (.func 41) [oO 113,oO 114]),oG 116 112 false (.un .not (oO 115)),oH 117 112 116] [2,3,11,17,18,117] (oI 117 (oX [o9 6 false] [6] .ret))) (oK [2,3,11,17,18] (.cut c20k5)))))
def c20k7 : AC:=oX [o5 69 3 3,oC 70 37 [oO 69],oM 71 1,oM 72 2,oC 73 38 [oO 72],oC 74 36 [oO 70,oO 71,oO 73],oM 68 74,o8 75 68 0,o8 76 68 1,o8 77 68 2,oA 11 (.alloc oZ),oW 10 11 75,oM 12 76,oM 13 77] [1,2,3,7,11,13] (oX [o5 79 3 3,oC 80 37 [oO 79],oM 81 1,oM 82 7,oC 83 36 [oO 80,oO 81,oO 82],oM 78 83,o8 84 78 0,o8 85 78 1,o8 86 78 2,oA 14 (.alloc oZ),oW 10 14 84,oM 15 85,oM 16 86] [1,2,3,11,13,14,16] (.cut c20k6))
def c20 : AC:=oX [o7 3 0,o9 6 false] [1,2,3] (oS (oX [oC 30 87 [],oA 31 (.un .not (oO 30))] [1,2,3,31] (oI 31 (oX [o9 6 false] [6] .ret))) (oK [1,2,3] (oS (oX [o5 32 3 3,oC 33 34 [oO 32],oA 34 (.un .not (oO 33)),oM 35 34,oD 36 35 false 2,oG 37 35 false (.len false (oO 36)),oG 38 35 false (.bin .gtr 3 (oO 37) (oN 30)),oH 39 35 38,oM 40 39,oG 41 40 false (.load true 3 (oO 3)),oD 42 40 false 1,oD 43 40 false 2,oG 44 40 false (.call (.func 53) [oO 41,oO 42,oO 43]),oG 45 40 false (.bin .neq 3 (oO 44) (oN 0)),oH 46 40 45] [1,2,3,46] (oI 46 (oX [o9 6 true] [6] .ret))) (oK [1,2,3] (oX [oA 7 (.mv (.const (.slice none 0 0)))] [1,2,3,7] (.nilrow 7 3 83 (oS (oX [oV 8 0] [1,2,3,7,8] (.block 0 (.loop c20l1))) (oK [1,2,3,7] (.fz [7] (.cut c20k7))))))))))
def rv20 : List RV:=[.tmp 6]
theorem is20 : FnIs Tryz.prog 20 196 c20 rv20:=⟨⟨Tryz.f20,_,Tryz.func20,by kernel_rfl,rfl,rfl,by kernel_rfl,by kernel_rfl⟩,by decide⟩
end Go.Proofs.YtcbabnbiinkafaaGreatDoor.F3
end
section
namespace Go.Proofs
open Go.Shelf
def Tryz.laysC172_ren : Go.Shelf.Ren:=⟨fun | 172=>174 | 244=>194 | 245=>195 | 247=>210 | 279=>211 | 280=>212 | 281=>213 | 282=>214 | 287=>223 | 316=>224 | 171=>154 | 205=>225 | 321=>238 | 322=>239 | 243=>169 | 246=>185 | 283=>203 | 284=>204 | 285=>205 | 286=>206 | 129=>219 | 317=>218 | 318=>220 | 319=>221 | 320=>222 | 337=>236 | 338=>237 | n=>n,fun | 9=>9 | 3=>3 | 75=>203 | 76=>204 | 4=>4 | 5=>5 | 167=>246 | 37=>192 | 0=>0 | 85=>247 | 2=>2 | 168=>249 | 53=>238 | 175=>262 | 46=>230 | 210=>266 | 127=>217 | 145=>280 | 143=>278 | 21=>21 | 171=>237 | 173=>241 | 212=>256 | 51=>243 | 20=>20 | 213=>257 | 232=>286 | 233=>287 | 80=>206 | n=>n,fun | 15=>5 | 16=>6 | 17=>2 | 18=>7 | 19=>8 | n=>n⟩
theorem Tryz.laysC172 : Go.Proofs.LaysC.n172 Tryz.prog Tryz.laysC172_ren:={
 mixed:=by kernel_rfl
 f129:=Tryz.func219.trans (congrArg some (by kernel_rfl))
 f171:=Tryz.func154.trans (congrArg some (by kernel_rfl))
 f172:=Tryz.func174.trans (congrArg some (by kernel_rfl))
 f205:=Tryz.func225.trans (congrArg some (by kernel_rfl))
 f243:=Tryz.func169.trans (congrArg some (by kernel_rfl))
 f244:=Tryz.func194.trans (congrArg some (by kernel_rfl))
 f245:=Tryz.func195.trans (congrArg some (by kernel_rfl))
 f246:=Tryz.func185.trans (congrArg some (by kernel_rfl))
 f247:=Tryz.func210.trans (congrArg some (by kernel_rfl))
 f279:=Tryz.func211.trans (congrArg some (by kernel_rfl))
 f280:=Tryz.func212.trans (congrArg some (by kernel_rfl))
 f281:=Tryz.func213.trans (congrArg some (by kernel_rfl))
 f282:=Tryz.func214.trans (congrArg some (by kernel_rfl))
 f283:=Tryz.func203.trans (congrArg some (by kernel_rfl))
 f284:=Tryz.func204.trans (congrArg some (by kernel_rfl))
 f285:=Tryz.func205.trans (congrArg some (by kernel_rfl))
 f286:=Tryz.func206.trans (congrArg some (by kernel_rfl))
 f287:=Tryz.func223.trans (congrArg some (by kernel_rfl))
 f316:=Tryz.func224.trans (congrArg some (by kernel_rfl))
 f317:=Tryz.func218.trans (congrArg some (by kernel_rfl))
 f318:=Tryz.func220.trans (congrArg some (by kernel_rfl))
 f319:=Tryz.func221.trans (congrArg some (by kernel_rfl))
 f320:=Tryz.func222.trans (congrArg some (by kernel_rfl))
 f321:=Tryz.func238.trans (congrArg some (by kernel_rfl))
 f322:=Tryz.func239.trans (congrArg some (by kernel_rfl))
 f337:=Tryz.func236.trans (congrArg some (by kernel_rfl))
 f338:=Tryz.func237.trans (congrArg some (by kernel_rfl))
 t0:=Tryz.underlying0
 a0:=Tryz.isAgg0
 z0:=Tryz.sizeOf0
 v0:=Tryz.zeroValue0
 t2:=Tryz.underlying2
 a2:=Tryz.isAgg2
 z2:=Tryz.sizeOf2
 v2:=Tryz.zeroValue2
 t3:=Tryz.underlying3
 a3:=Tryz.isAgg3
 z3:=Tryz.sizeOf3
 v3:=Tryz.zeroValue3
 t4:=Tryz.underlying4
 a4:=Tryz.isAgg4
 z4:=Tryz.sizeOf4
 v4:=Tryz.zeroValue4
 t5:=Tryz.underlying5
 a5:=Tryz.isAgg5
 z5:=Tryz.sizeOf5
 v5:=Tryz.zeroValue5
 t9:=Tryz.underlying9
 a9:=Tryz.isAgg9
 z9:=Tryz.sizeOf9
 v9:=Tryz.zeroValue9
 t20:=Tryz.underlying20
 a20:=Tryz.isAgg20
 z20:=Tryz.sizeOf20
 v20:=Tryz.zeroValue20
 t21:=Tryz.underlying21
 a21:=Tryz.isAgg21
 z21:=Tryz.sizeOf21
 v21:=Tryz.zeroValue21
 t37:=Tryz.underlying192
 a37:=Tryz.isAgg192
 z37:=Tryz.sizeOf192
 v37:=Tryz.zeroValue192
 t46:=Tryz.underlying230
 a46:=Tryz.isAgg230
 z46:=Tryz.sizeOf230
 v46:=Tryz.zeroValue230
 t51:=Tryz.underlying243
 a51:=Tryz.isAgg243
 z51:=Tryz.sizeOf243
 v51:=Tryz.zeroValue243
 t53:=Tryz.underlying238
 a53:=Tryz.isAgg238
 z53:=Tryz.sizeOf238
 v53:=Tryz.zeroValue238
 t75:=Tryz.underlying203
 a75:=Tryz.isAgg203
 z75:=Tryz.sizeOf203
 v75:=Tryz.zeroValue203
 t76:=Tryz.underlying204
 a76:=Tryz.isAgg204
 z76:=Tryz.sizeOf204
 v76:=Tryz.zeroValue204
 t85:=Tryz.underlying247
 a85:=Tryz.isAgg247
 z85:=Tryz.sizeOf247
 v85:=Tryz.zeroValue247
 t127:=Tryz.underlying217
 a127:=Tryz.isAgg217
 z127:=Tryz.sizeOf217
 v127:=Tryz.zeroValue217
 t143:=Tryz.underlying278
 a143:=Tryz.isAgg278
 z143:=Tryz.sizeOf278
 v143:=Tryz.zeroValue278
 t145:=Tryz.underlying280
 a145:=Tryz.isAgg280
 z145:=Tryz.sizeOf280
 v145:=Tryz.zeroValue280
 t167:=Tryz.underlying246
 a167:=Tryz.isAgg246
 z167:=Tryz.sizeOf246
 v167:=Tryz.zeroValue246
 t168:=Tryz.underlying249
 a168:=Tryz.isAgg249
 z168:=Tryz.sizeOf249
 v168:=Tryz.zeroValue249
 t171:=Tryz.underlying237
 a171:=Tryz.isAgg237
 z171:=Tryz.sizeOf237
 v171:=Tryz.zeroValue237
 t173:=Tryz.underlying241
 a173:=Tryz.isAgg241
 z173:=Tryz.sizeOf241
 v173:=Tryz.zeroValue241
 t175:=Tryz.underlying262
 a175:=Tryz.isAgg262
 z175:=Tryz.sizeOf262
 v175:=Tryz.zeroValue262
 t210:=Tryz.underlying266
 a210:=Tryz.isAgg266
 z210:=Tryz.sizeOf266
 v210:=Tryz.zeroValue266
 t212:=Tryz.underlying256
 a212:=Tryz.isAgg256
 z212:=Tryz.sizeOf256
 v212:=Tryz.zeroValue256
 t213:=Tryz.underlying257
 a213:=Tryz.isAgg257
 z213:=Tryz.sizeOf257
 t232:=Tryz.underlying286
 a232:=Tryz.isAgg286
 z232:=Tryz.sizeOf286
 v232:=Tryz.zeroValue286
 t233:=Tryz.underlying287
 a233:=Tryz.isAgg287
 z233:=Tryz.sizeOf287
 v233:=Tryz.zeroValue287
 g15:=by kernel_rfl
 g16:=by kernel_rfl
 g17:=by kernel_rfl
 g18:=by kernel_rfl
 g19:=by kernel_rfl
 t80:=Tryz.underlying206
 a80:=Tryz.isAgg206
 z80:=Tryz.sizeOf206
 v80:=Tryz.zeroValue206
 i0:=by kernel_rfl
 i2:=by kernel_rfl
 i3:=by kernel_rfl
 i4:=by kernel_rfl
 i5:=by kernel_rfl
 i9:=by kernel_rfl
 i20:=by kernel_rfl
 i21:=by kernel_rfl
 i37:=by kernel_rfl
 i46:=by kernel_rfl
 i51:=by kernel_rfl
 i53:=by kernel_rfl
 i75:=by kernel_rfl
 i76:=by kernel_rfl
 i80:=by kernel_rfl
 i85:=by kernel_rfl
 i127:=by kernel_rfl
 i143:=by kernel_rfl
 i145:=by kernel_rfl
 i167:=by kernel_rfl
 i168:=by kernel_rfl
 i171:=by kernel_rfl
 i173:=by kernel_rfl
 i175:=by kernel_rfl
 i210:=by kernel_rfl
 i212:=by kernel_rfl
 i232:=by kernel_rfl
 i233:=by kernel_rfl
 m15:=by kernel_rfl
 m16:=by kernel_rfl
 m17:=by kernel_rfl
 m18:=by kernel_rfl
 m19:=by kernel_rfl
 c0:=by kernel_rfl
 c2:=by kernel_rfl
 c3:=by kernel_rfl
 c4:=by kernel_rfl
 c5:=by kernel_rfl
 c9:=by kernel_rfl
 c20:=by kernel_rfl
 c21:=by kernel_rfl
 c37:=by kernel_rfl
 c46:=by kernel_rfl
 c51:=by kernel_rfl
 c53:=by kernel_rfl
 c75:=by kernel_rfl
 c76:=by kernel_rfl
 c80:=by kernel_rfl
 c85:=by kernel_rfl
 c127:=by kernel_rfl
 c143:=by kernel_rfl
 c145:=by kernel_rfl
 c167:=by kernel_rfl
 c168:=by kernel_rfl
 c171:=by kernel_rfl
 c173:=by kernel_rfl
 c175:=by kernel_rfl
 c210:=by kernel_rfl
 c212:=by kernel_rfl
 c213:=by kernel_rfl
 c232:=by kernel_rfl
 c233:=by kernel_rfl }
def Tryz.lays219_ren : Go.Shelf.Ren:=⟨fun | 219=>172 | 217=>188 | 225=>189 | 224=>190 | 267=>191 | 266=>207 | 314=>208 | n=>n,fun | 9=>9 | 3=>3 | 4=>4 | 5=>5 | 46=>230 | 146=>244 | 51=>243 | n=>n,fun | 1=>1 | n=>n⟩
theorem Tryz.lays219 : Go.Proofs.Lays.n219 Tryz.prog Tryz.lays219_ren:={
 mixed:=by kernel_rfl
 f217:=Tryz.func188.trans (congrArg some (by kernel_rfl))
 f219:=Tryz.func172.trans (congrArg some (by kernel_rfl))
 f224:=Tryz.func190.trans (congrArg some (by kernel_rfl))
 f225:=Tryz.func189.trans (congrArg some (by kernel_rfl))
 f266:=Tryz.func207.trans (congrArg some (by kernel_rfl))
 f267:=Tryz.func191.trans (congrArg some (by kernel_rfl))
 f314:=Tryz.func208.trans (congrArg some (by kernel_rfl))
 t3:=Tryz.underlying3
 a3:=Tryz.isAgg3
 z3:=Tryz.sizeOf3
 v3:=Tryz.zeroValue3
 t4:=Tryz.underlying4
 a4:=Tryz.isAgg4
 z4:=Tryz.sizeOf4
 v4:=Tryz.zeroValue4
 t5:=Tryz.underlying5
 a5:=Tryz.isAgg5
 z5:=Tryz.sizeOf5
 v5:=Tryz.zeroValue5
 t9:=Tryz.underlying9
 a9:=Tryz.isAgg9
 z9:=Tryz.sizeOf9
 v9:=Tryz.zeroValue9
 t46:=Tryz.underlying230
 a46:=Tryz.isAgg230
 z46:=Tryz.sizeOf230
 v46:=Tryz.zeroValue230
 t51:=Tryz.underlying243
 a51:=Tryz.isAgg243
 z51:=Tryz.sizeOf243
 v51:=Tryz.zeroValue243
 t146:=Tryz.underlying244
 a146:=Tryz.isAgg244
 z146:=Tryz.sizeOf244
 v146:=Tryz.zeroValue244
 g1:=by kernel_rfl }
def Tryz.lays143_ren : Go.Shelf.Ren:=⟨fun | 143=>178 | 219=>172 | 217=>188 | 225=>189 | 224=>190 | 267=>191 | 266=>207 | 314=>208 | n=>n,fun | 9=>9 | 3=>3 | 4=>4 | 5=>5 | 46=>230 | 146=>244 | 51=>243 | n=>n,fun | 1=>1 | n=>n⟩
theorem Tryz.lays143 : Go.Proofs.Lays.n143 Tryz.prog Tryz.lays143_ren:={
 mixed:=by kernel_rfl
 f143:=Tryz.func178.trans (congrArg some (by kernel_rfl))
 f217:=Tryz.func188.trans (congrArg some (by kernel_rfl))
 f219:=Tryz.func172.trans (congrArg some (by kernel_rfl))
 f224:=Tryz.func190.trans (congrArg some (by kernel_rfl))
 f225:=Tryz.func189.trans (congrArg some (by kernel_rfl))
 f266:=Tryz.func207.trans (congrArg some (by kernel_rfl))
 f267:=Tryz.func191.trans (congrArg some (by kernel_rfl))
 f314:=Tryz.func208.trans (congrArg some (by kernel_rfl))
 t3:=Tryz.underlying3
 a3:=Tryz.isAgg3
 z3:=Tryz.sizeOf3
 v3:=Tryz.zeroValue3
 t4:=Tryz.underlying4
 a4:=Tryz.isAgg4
 z4:=Tryz.sizeOf4
 v4:=Tryz.zeroValue4
 t5:=Tryz.underlying5
 a5:=Tryz.isAgg5
 z5:=Tryz.sizeOf5
 v5:=Tryz.zeroValue5
 t9:=Tryz.underlying9
 a9:=Tryz.isAgg9
 z9:=Tryz.sizeOf9
 v9:=Tryz.zeroValue9
 t46:=Tryz.underlying230
 a46:=Tryz.isAgg230
 z46:=Tryz.sizeOf230
 v46:=Tryz.zeroValue230
 t51:=Tryz.underlying243
 a51:=Tryz.isAgg243
 z51:=Tryz.sizeOf243
 v51:=Tryz.zeroValue243
 t146:=Tryz.underlying244
 a146:=Tryz.isAgg244
 z146:=Tryz.sizeOf244
 v146:=Tryz.zeroValue244
 g1:=by kernel_rfl }
def Tryz.lays138_ren : Go.Shelf.Ren:=⟨fun | 138=>177 | 195=>197 | 218=>198 | 143=>178 | 219=>172 | 217=>188 | 225=>189 | 224=>190 | 267=>191 | 266=>207 | 314=>208 | n=>n,fun | 9=>9 | 3=>3 | 4=>4 | 5=>5 | 0=>0 | 46=>230 | 146=>244 | 51=>243 | n=>n,fun | 1=>1 | n=>n⟩
theorem Tryz.lays138 : Go.Proofs.Lays.n138 Tryz.prog Tryz.lays138_ren:={
 mixed:=by kernel_rfl
 f138:=Tryz.func177.trans (congrArg some (by kernel_rfl))
 f143:=Tryz.func178.trans (congrArg some (by kernel_rfl))
 f195:=Tryz.func197.trans (congrArg some (by kernel_rfl))
 f217:=Tryz.func188.trans (congrArg some (by kernel_rfl))
 f218:=Tryz.func198.trans (congrArg some (by kernel_rfl))
 f219:=Tryz.func172.trans (congrArg some (by kernel_rfl))
 f224:=Tryz.func190.trans (congrArg some (by kernel_rfl))
 f225:=Tryz.func189.trans (congrArg some (by kernel_rfl))
 f266:=Tryz.func207.trans (congrArg some (by kernel_rfl))
 f267:=Tryz.func191.trans (congrArg some (by kernel_rfl))
 f314:=Tryz.func208.trans (congrArg some (by kernel_rfl))
 t0:=Tryz.underlying0
 a0:=Tryz.isAgg0
 z0:=Tryz.sizeOf0
 v0:=Tryz.zeroValue0
 t3:=Tryz.underlying3
 a3:=Tryz.isAgg3
 z3:=Tryz.sizeOf3
 v3:=Tryz.zeroValue3
 t4:=Tryz.underlying4
 a4:=Tryz.isAgg4
 z4:=Tryz.sizeOf4
 v4:=Tryz.zeroValue4
 t5:=Tryz.underlying5
 a5:=Tryz.isAgg5
 z5:=Tryz.sizeOf5
 v5:=Tryz.zeroValue5
 t9:=Tryz.underlying9
 a9:=Tryz.isAgg9
 z9:=Tryz.sizeOf9
 v9:=Tryz.zeroValue9
 t46:=Tryz.underlying230
 a46:=Tryz.isAgg230
 z46:=Tryz.sizeOf230
 v46:=Tryz.zeroValue230
 t51:=Tryz.underlying243
 a51:=Tryz.isAgg243
 z51:=Tryz.sizeOf243
 v51:=Tryz.zeroValue243
 t146:=Tryz.underlying244
 a146:=Tryz.isAgg244
 z146:=Tryz.sizeOf244
 v146:=Tryz.zeroValue244
 g1:=by kernel_rfl }
def Tryz.lays101_ren : Go.Shelf.Ren:=⟨fun | 101=>175 | 208=>196 | 206=>215 | n=>n,fun | 9=>9 | 4=>4 | 3=>3 | n=>n,fun | n=>n⟩
theorem Tryz.lays101 : Go.Proofs.Lays.n101 Tryz.prog Tryz.lays101_ren:={
 mixed:=by kernel_rfl
 f101:=Tryz.func175.trans (congrArg some (by kernel_rfl))
 f206:=Tryz.func215.trans (congrArg some (by kernel_rfl))
 f208:=Tryz.func196.trans (congrArg some (by kernel_rfl))
 t3:=Tryz.underlying3
 a3:=Tryz.isAgg3
 z3:=Tryz.sizeOf3
 v3:=Tryz.zeroValue3
 t4:=Tryz.underlying4
 a4:=Tryz.isAgg4
 z4:=Tryz.sizeOf4
 v4:=Tryz.zeroValue4
 t9:=Tryz.underlying9
 a9:=Tryz.isAgg9
 z9:=Tryz.sizeOf9
 v9:=Tryz.zeroValue9 }
end Go.Proofs
end
section
open Go Go.Am
open Go.Am.Dat (cells)
namespace Go.Proofs.YtcbabnbiinkafaaGreatDoor
theorem ET (n lo hi:Int):FC Tryz.prog 31 [enc n,enc lo,enc hi] [] (enc (decide (lo<=n/\n<=hi))) []:=by
 refine eP is31 (by simp) (fun cx hl=>dC [] 800 ?_);delta c31 oO oM oG oX oP oB oD o9;simp only[rv31,V,W3,seval];by_cases h:lo<=n <;> simp[h]
def xw : Ent Tryz.prog:=.of3 31 (fun _ _ _=>True) (fun n lo hi:Int=>enc (decide (lo<=n/\n<=hi))) (fun _ _ _=>trivial) (fun n lo hi _=>ET n lo hi)
theorem enc_rul (r:Rul):enc r=.agg [.s (.int .i64 r.off),.s (.int .i64 r.hyst),.s (.int .i64 r.trig)]:=rfl
def x9 (r:Rul) (s n:Int):Bool:=decide (s+r.off+r.hyst < n)
def over (r:Rul) (s n:Int):Bool:=decide (n < s+r.off - r.hyst)
def trg (r:Rul):List Int->List Int->Nat->Int->Bool->List Int
 | s :: l,n :: m,t,run,armed=>
  let run':=if x9 r s n then run+1 else 0
  let armed':=armed || over r s n
  if armed' && decide (r.trig < run')then (t:Int) :: trg r l m (t+1) run' false else trg r l m (t+1) run' armed'
 |_,_,_,_,_=>[]
theorem trg_nil (r:Rul) (m:List Int) (t:Nat) (run:Int) (a:Bool):trg r [] m t run a=[]:=by cases m <;> rfl
def x7 (r:Rul) (s n:List Int):List Int:=trg r s n 0 0 true
def cnt (p:Nat->Bool):Nat->Nat
 | 0=>0
 | t+1=>if p t then cnt p t+1 else 0
theorem AN (p:Nat->Bool):∀ (t m:Nat),m < cnt p t↔(m < t/\∀ k,k < t->t<=k+m+1->p k=true)
 | 0,m=>by simp[cnt]
 | t+1,m=>by
  rw[cnt];cases hp:p t with
  | false=>
   simp only[zr,qi,Nat.not_lt_zero,false_iff,not_and];intro h1 h2;have:=h2 t (by omega) (by omega);rw[hp]at this;cases this
  | true=>
   simp only[qj];cases m with
   | zero=>
    constructor
    . intro _;refine⟨by omega,fun k h1 h2=>?_⟩;have:k=t:=by omega
      rw[this];exact hp
    . intro _;omega
   | succ m=>
    have ih:=AN p t m;constructor
    . intro h;obtain⟨g1,g2⟩:=ih.1 (by omega);refine⟨by omega,fun k h1 h2=>?_⟩;by_cases hk:k=t
      . rw[hk];exact hp
      . exact g2 k (by omega) (by omega)
    . intro h;have:=ih.2 ⟨by omega,fun k h1 h2=>h.2 k (by omega) (by omega)⟩;omega
theorem Cu (p:Nat->Bool) (t:Nat):((cnt p (t+1):Nat):Int)=if p t then (cnt p t:Int)+1 else 0:=by
 rw[cnt];split <;> simp
theorem byI_get {s:ByteArray} {i:Nat} (h:i < s.size):((s.data.toList.getD i 0).toNat:Int)=(byI s).getD i 0:=by
 have h1:i < s.data.toList.length:=by rw[Array.length_toList];exact h
 rw[byI,zb,zb,zh,ze h1];rfl
theorem EP (s:ByteArray) (hs:s.size<=9223372036854775807):FC Tryz.prog 108 [enc s] [] (enc (l0 s)) []:=by
 refine eP is108 (by simp) (fun cx hl=>dC [] 800 ?_);by_cases g1:s.size < 1
 . have g1':(s.size:Int) < 1:=by omega
   have hn:l0 s=false:=by
    unfold l0;have:¬ 0 < s.size:=by omega
    simp[this]
   rw[hn];delta c108 oO oN oA oM oG oS oK oV oI oX oH oB oD o9;simp (maxSteps:=9^7) only[At,g1',WU,V,W3,seval]
 by_cases g2:12 < s.size
 . have g1':¬ (s.size:Int) < 1:=by omega
   have g2':(12:Int) < s.size:=by omega
   have hn:l0 s=false:=by
    unfold l0;have:¬ s.size<=12:=by omega
    simp[this]
   rw[hn];delta c108 oO oN oA oM oG oS oK oV oI oX oH oB oD o9;simp (maxSteps:=9^7) only[At,g1',g2',WU,V,W3,seval]
 have g1':¬ (s.size:Int) < 1:=by omega
 have g2':¬ (12:Int) < s.size:=by omega
 have hnb:l0 s=iZ true (byI s):=by
  unfold l0;have h1:0 < s.size:=by omega
  have h2:s.size<=12:=by omega
  simp[h1,h2]
 rw[hnb];generalize hB:iZ true (byI s)=B;delta c108 oO oN oA oM oG oS oK oV oI oX oH oB oD o9;simp (maxSteps:=9^7) only[At,g1',g2',WU,V,W3,seval];refine fH s.size (fun i=>[(3,.s (.int .i64 (i:Int)))]) (fun _=>[]) (fun i=>B=iZ (decide (i=0)) ((byI s).drop i)) (by simp[hB]) ?_ (fun i hi hv=>dC [] 800 ?_)
 . simp (maxSteps:=9^7) only[V,W3,seval]
   all_goals simp
 . by_cases h:i < s.size
   . have hi2:(i:Int) < (s.size:Int):=by omega
     have hg:=byI_get h;rw[fI 0 (by rw[lR];exact h:i < (byI s).length),iZ]at hv;generalize (byI s).getD i 0=c at *;have hnx:iZ (decide (i+1=0)) ((byI s).drop (i+1))=iZ false ((byI s).drop (i+1)):=by simp
     delta Cm oO oN oA oM oG oR oS oK oI oX oP oH oB oD o9;simp (maxSteps:=9^7) only[At,hi2,h,hg,InR,WU,V,W3,seval];have hb2:badB (decide (i=0)) c=decide (¬ ((97<=c/\c<=122)\/(65<=c/\c<=90))/\(i=0\/(c≠45/\(c < 48\/57 < c)))):=by
      rw[yH];simp only[badB,si,zm,zV,yC,Bool.or_eq_false_iff,qf,ql];omega
     rw[hb2]at hv;have hvt:(¬ ((97<=c/\c<=122)\/(65<=c/\c<=90))/\(i=0\/(c≠45/\(c < 48\/57 < c))))->B=false:=fun hb=>by rw[hv,decide_eq_true hb];rfl
     have hvf:¬ (¬ ((97<=c/\c<=122)\/(65<=c/\c<=90))/\(i=0\/(c≠45/\(c < 48\/57 < c))))->B=iZ false ((byI s).drop (i+1)):=fun hb=>by rw[hv,decide_eq_false hb];simp
     repeat' first | (refine And.intro (by omega) ?_) | split
     all_goals first
      | (exact (hvt (by omega)).symm)
      | (rw[hvt (by omega)];rfl)
      | exact⟨hvf (by omega),by omega⟩
      | exact hvf (by omega)
      | (push_cast;rfl)
      | omega
   . have hi2:¬ (i:Int) < (s.size:Int):=by omega
     rw[zv (by rw[lR];omega)]at hv;simp only[iZ]at hv;subst hv;delta Cm oO oN oA oM oG oR oS oK oI oX oP oH oB oD o9;simp (maxSteps:=9^7) only[At,hi2,WU,V,W3,seval]
def Cw : Ent Tryz.prog:=.of1 108 (fun s=>s.size<=9223372036854775807) (fun s:ByteArray=>enc (l0 s)) (fun _=>trivial) (fun s h=>EP s h)
theorem DS (l:List ByteArray) (v:ByteArray):FC Tryz.prog 109 [enc l,enc v] [] (enc (l.any fun x=>decide (x=v))) []:=by
 refine eP is109 (by simp) (fun cx hl=>dC [] 800 ?_);simp only[V,W3,seval]at hl;have hl1:=hl.list;generalize hB:(l.any fun x=>decide (x=v))=B;delta c109 oS oK oV oX o9;simp only[Ca,V,W3,seval];refine fH l.length (fun i=>[(5,.s (.int .i64 (i:Int)))]) (fun _=>[]) (fun i=>B=(l.drop i).any fun x=>decide (x=v)) (by simp[hB]) ?_ (fun i hi hv=>dC [] 800 ?_)
 . simp only[V,W3,seval]
   all_goals simp
 . by_cases h:i < l.length
   . have hi2:(i:Int) < (l.length:Int):=by omega
     rw[fI ⟨#[]⟩ h,List.any_cons]at hv;cases hx:decide (l.getD i ⟨#[]⟩=v)
     all_goals
      rw[hx]at hv;delta Cn oO oN oM oR oS oK oL oI oX oB o4 o9;simp only[Ca,hi2,h,hx,InR,WU,V,W3,seval];simp at hv;simp[hv]
      try omega
   . have hi2:¬ (i:Int) < (l.length:Int):=by omega
     rw[zv (by omega)]at hv;delta Cn oO oN oM oR oS oK oL oI oX oB o4 o9;simp only[Ca,hi2,WU,V,W3,seval];simp[hv]
def Cy : Ent Tryz.prog:=.of2 109 (fun _ _=>True) (fun (l:List ByteArray) (v:ByteArray)=>enc (l.any fun x=>decide (x=v))) (fun _ _=>trivial) (fun l v _=>DS l v)
theorem isC_c (n:Nw) (c:Int) (h:NwS n):FC Tryz.prog 99 [enc n,enc c] [] (enc (isC n c)) []:=by
 have hb:=h.c;obtain⟨cs,nb,lim⟩:=n;simp only at hb;refine dD [] is99 (by simp) trivial trivial trivial trivial (fun cx _ hl _=>dC [xw] 800 ?_);delta c99 oO oN oM oF oL oC oX oB o4 o7 o9;simp only[rv99,xw,eO,InR,isC,Ent.of3,V,W3,seval];omega
def xZ : Ent Tryz.prog:=.of2 99 (fun n _=>NwS n) (fun (n:Nw) (c:Int)=>enc (isC n c)) (fun _ _=>trivial) (fun n c h=>isC_c n c h)
theorem AW (n:Nw) (h:NwS n):FC Tryz.prog 51 [enc n] [] (netR n) []:=by
 have hbc:=h.c;have hbb:=h.b;have hgs:=fun i hi=>h.get (i:=i) hi
 generalize hR:gO n=R;have hrR:netR n=.tup [.s (.int .i64 (R.1:Int)),.s (.int .i64 R.2)]:=by rw[<- hR];rfl
 rw[hrR];obtain⟨cs,nb,lim⟩:=n;simp only at hbc hbb hgs;refine dD [] is51 (by simp) trivial trivial trivial trivial (fun cx _ hl _=>dC [] 800 ?_);by_cases h1:cs.length=0
 . have h1':(cs.length:Int)=0:=by omega
   have hRe:R=(0,10):=by rw[<- hR,gO];simp[h1]
   delta c51 oO oN oA oS oK oF oL oV oC oI oX oB o4 o7;simp only[rv51,eO,h1',hRe,WU,V,W3,seval]
   try simp
 have h1':¬ (cs.length:Int)=0:=by omega
 by_cases h2:6 < cs.length
 . have h2':(6:Int) < cs.length:=by omega
   have hRe:R=(0,8):=by rw[<- hR,gO];simp[h1,h2]
   delta c51 oO oN oA oS oK oF oL oV oC oI oX oB o4 o7;simp only[rv51,eO,h1',h2',hRe,WU,V,W3,seval]
   try simp
 have h2':¬ (6:Int) < cs.length:=by omega
 have hRe:R=(match gR cs 0 cs with | some q=>q | none=>match nbE ⟨cs,nb,lim⟩ 0 nb with | some q=>q | none=>(0,limE ⟨cs,nb,lim⟩)):=by rw[<- hR,gO];simp only[h1,h2,qi] <;> rfl
 clear hR;delta c51 oO oN oA oS oK oF oL oV oC oI oX oB o4 o7;simp only[rv51,eO,h1',h2',qc,WU,V,W3,seval];generalize hN:(⟨cs,nb,lim⟩:Nw)=n at *;have hNc:n.cells=cs/\n.nb=nb/\n.limit=lim:=by rw[<- hN];exact⟨rfl,rfl,rfl⟩
 have hmt:∀ i,List.take i (List.map Dat.cells cs)=List.map Dat.cells (cs.take i):=fun i=>List.map_take.symm
 refine fH cs.length (fun i=>[(4,.s (.int .i64 (i:Int)))]) (fun _=>[]) (fun i=>gR cs 0 cs=gR cs i (cs.drop i)) rfl ?_ (fun i hi hv=>dC [Cw,Cy] 800 ?_)
 . simp only[V,W3,seval]
   all_goals simp
 . by_cases h4:i < cs.length
   . have hi2:(i:Int) < (cs.length:Int):=by omega
     have hname:=hgs i h4;have hi0:(0:Int)<=i:=by omega
     have hi5:(i:Int)<=cs.length:=by omega
     rw[fI ⟨#[]⟩ h4,gR]at hv;have han:((cs.take i).any fun x=>decide (x=cs.getD i ⟨#[]⟩))=((cs.take i).any fun x=>decide (cs.getD i ⟨#[]⟩=x)):=by
      congr 1;funext x;simp[eq_comm]
     cases hx:l0 (cs.getD i ⟨#[]⟩) <;> cases hy:((cs.take i).any fun x=>decide (cs.getD i ⟨#[]⟩=x))
     all_goals
      rw[hy]at han;simp only[hx,hy,qj,qi,zr,ym]at hv;have hRe2:=hRe;rw[hv]at hRe2
      try simp only at hRe2
      delta c51l1 oO oN oA oM oT oR oQ oS oK oF oL oV oC oI oX oB o4;simp only[Cw,Cy,hi2,hi0,hi5,h4,hname,hmt,hx,han,z5,Int.toNat_zero,yB,InR,qc,WU,Ent.of1,Ent.of2,V,W3,seval]
      first | (rw[hRe2];done) | (rw[hRe2];simp;done) | exact⟨by omega,hv,by omega⟩
   . have hi2:¬ (i:Int) < (cs.length:Int):=by omega
     rw[zv (by omega),gR]at hv;rw[hv]at hRe;simp only at hRe;delta c51l1 oO oN oA oM oT oR oQ oS oK oF oL oV oC oI oX oB o4;simp only[Cw,Cy,hi2,WU,Ent.of1,Ent.of2,V,W3,seval];refine fH nb.length (fun i=>[(5,.s (.int .i64 (i:Int)))]) (fun _=>[]) (fun i=>nbE n 0 nb=nbE n i (nb.drop i)) rfl ?_ (fun i hi hw=>dC [xZ,xw] 800 ?_)
     . simp only[V,W3,seval]
       all_goals simp
     . by_cases h5:i < nb.length
       . have hi2:(i:Int) < (nb.length:Int):=by omega
         have hi0:(0:Int)<=i:=by omega
         have hi5:(i:Int)<=nb.length:=by omega
         have hi6:i<=nb.length:=by omega
         have hdn:gx (.agg [C.sl 1 (List.map Dat.cells cs),.sl 2 (List.map Dat.cells nb),.s (.int .i64 lim)])=some n:=by
          rw[decV_nw,fM,fM,<- hN];rfl
         rw[fI ⟨0,0⟩ h5,nbE,hNc.2.1]at hw;cases hx:isC n (nb.getD i ⟨0,0⟩).re <;> cases hy:isC n (nb.getD i ⟨0,0⟩).im <;> by_cases hq:(nb.getD i ⟨0,0⟩).re < (nb.getD i ⟨0,0⟩).im
         all_goals
          have hq2:(nb.getD i ⟨0,0⟩).im<=(nb.getD i ⟨0,0⟩).re↔¬ (nb.getD i ⟨0,0⟩).re < (nb.getD i ⟨0,0⟩).im:=by omega
          simp only[hx,hy,hq,zZ,yd,zY,z7,qj,qi,qc,qd,zr,ym]at hw;have hRe2:=hRe;rw[hw]at hRe2
          try simp only at hRe2
          delta c51l3 oO oN oA oM oG oR oS oK oF oL oV oC oW oI oX oH oB oJ o2 o4 o5;simp only[xZ,xw,hi2,hi0,hi5,hi6,h5,hdn,h,hx,hy,hq,hq2,hNc,z5,Int.toNat_zero,yB,InR,qc,WU,Ent.of2,Ent.of3,V,W3,seval]
          try (rw[hRe2];simp;done)
         generalize hp:nb.getD i ⟨0,0⟩=p at *;refine fH i (fun j=>[(7,.s (.int .i64 (j:Int)))]) (fun _=>[]) (fun j=>((nb.take i).any fun x=>decide (p=x))=((nb.drop j).take (i - j)).any fun x=>decide (p=x)) (by simp) ?_ (fun j hj hu=>dC [] 800 ?_)
         . simp only[V,W3,seval]
           all_goals simp
         . by_cases h6:j < i
           . have hj2:(j:Int) < i:=by omega
             have hj3:(j:Int) < nb.length:=by omega
             have hj4:j < nb.length:=by omega
             have hj0:(0:Int)<=j:=by omega
             have hgd:=tX (nb.getD j ⟨0,0⟩) p;have hst:(nb.drop j).take (i - j)=nb.getD j ⟨0,0⟩ :: (nb.drop (j+1)).take (i - (j+1)):=by
              rw[fI ⟨0,0⟩ hj4,show i - j=(i - (j+1))+1 by omega,yD]
             rw[hst,List.any_cons]at hu;by_cases hx2:nb.getD j ⟨0,0⟩=p
             . rw[decide_eq_true hx2]at hgd;rw[hx2,decide_eq_true (rfl:p=p),yz]at hu;rw[qb hu]at hRe2;simp only at hRe2;delta B6 oO oN oA oM oT oR oQ oS oK oF oL oV oI oX oB o2 o5;simp only[hj2,hj3,hj4,hj0,h5,hi2,hi0,hgd,zZ,z5,InR,qc,WU,V,W3,seval];rw[hRe2];try simp
             . rw[decide_eq_false hx2]at hgd;rw[decide_eq_false (fun e=>hx2 e.symm),zF]at hu;delta B6 oO oN oA oM oT oR oQ oS oK oF oL oV oI oX oB o2 o5;simp only[hj2,hj3,hj4,hj0,h5,hi2,hi0,hgd,zZ,z5,InR,qc,WU,V,W3,seval];exact⟨by omega,by omega,hu,by omega⟩
           . have hj2:¬ (j:Int) < i:=by omega
             have:i - j=0:=by omega
             rw[this,List.take_zero,List.any_nil]at hu;rw[hu]at hw;simp only[zr,qi]at hw;delta B6 oO oN oA oM oT oR oQ oS oK oF oL oV oI oX oB o2 o5;simp only[hj2,InR,WU,V,W3,seval];exact⟨by omega,h5,hw,by omega⟩
       . have hi2:¬ (i:Int) < (nb.length:Int):=by omega
         rw[zv (by omega),nbE]at hw;rw[hw]at hRe;simp only at hRe;delta c51l3 oO oN oA oM oG oR oS oK oF oL oV oC oW oI oX oH oB oJ o2 o4 o5;simp only[xZ,xw,hi2,WU,Ent.of2,Ent.of3,V,W3,seval];rw[hRe,limE,hNc.2.2];by_cases h6:1<=lim/\lim<=100000 <;> simp[h6]
def ent51 : Ent Tryz.prog:=.of1 51 NwS netR (fun _=>⟨trivial,trivial,trivial⟩) AW
theorem B4 (n:Nw) (h:NwS n):FC Tryz.prog 46 [enc n] [] (enc (gO n).2) []:=by
 have hdn:=jd n;refine dD [] is46 (by simp) trivial trivial trivial trivial (fun cx _ hl _=>dC [ent51] 800 ?_);delta c46 oO oM oV oC oX o5 o7 o8;simp only[rv46,ent51,eO,hdn,h,netR,Ent.of1,V,W3,seval]
def ent46 : Ent Tryz.prog:=.of1 46 NwS (fun n=>enc (gO n).2) (fun _=>trivial) B4
def wI (n:Nw) (c:Int):Int:=if (gO n).2≠0 then (gO n).2 else if isC n c then 0 else 6
theorem DQ (n:Nw) (c:Int) (h:NwS n):FC Tryz.prog 40 [enc n,enc c] [] (enc (wI n c)) []:=by
 have hdn:=jd n;refine dD [] is40 (by simp) trivial trivial trivial trivial (fun cx _ hl _=>dC [ent46,xZ] 800 ?_);unfold wI;by_cases h1:(gO n).2=0
 . cases h2:isC n c
   all_goals
    delta c40 oO oN oA oM oS oK oV oC oI oX oB o5 o7;simp only[rv40,ent46,xZ,eO,hdn,h,h1,h2,qc,WU,Ent.of1,Ent.of2,V,W3,seval]
    try simp
 . delta c40 oO oN oA oM oS oK oV oC oI oX oB o5 o7;simp only[rv40,ent46,xZ,eO,hdn,h,h1,qc,WU,Ent.of1,Ent.of2,V,W3,seval]
   try simp
def B8 : Ent Tryz.prog:=.of2 40 (fun n _=>NwS n) (fun (n:Nw) (c:Int)=>enc (wI n c)) (fun _ _=>trivial) (fun n c h=>DQ n c h)
theorem AY (n:Nw) (a b:Int) (h:NwS n):FC Tryz.prog 115 [enc n,enc a,enc b] [] (enc (nbr n a b)) []:=by
 have hb:=h.b;generalize hB:nbr n a b=B;refine dD [] is115 (by simp) trivial trivial trivial trivial (fun cx _ hl _=>dC [] 800 ?_);delta c115 oS oK oV oX o7 o9;simp only[Cb,eO,WU,V,W3,seval];refine fH n.nb.length (fun i=>[(7,.s (.int .i64 (i:Int)))]) (fun _=>[]) (fun i=>B=(n.nb.drop i).any fun x=>decide (x=⟨min a b,max a b⟩)) (by rw[<- hB];rfl) ?_ (fun i hi hv=>dC [] 800 ?_)
 . simp only[V,W3,seval]
   all_goals simp
 . by_cases h5:i < n.nb.length
   . have hi2:(i:Int) < (n.nb.length:Int):=by omega
     have hi0:(0:Int)<=i:=by omega
     have hgd:=tX (n.nb.getD i ⟨0,0⟩) ⟨min a b,max a b⟩;rw[fI ⟨0,0⟩ h5,List.any_cons]at hv;cases hx:decide (n.nb.getD i ⟨0,0⟩=(⟨min a b,max a b⟩:Gs))
     all_goals
      rw[hx]at hgd hv;simp only[yz,zF]at hv;delta Co oO oN oA oM oR oS oK oF oL oI oX oB o2 o4 o5 o9;simp only[Cb,hi2,hi0,h5,hgd,InR,qc,WU,V,W3,seval];rw[show (if b < a then b else a)=min a b by omega,show (if b > a then b else a)=max a b by omega,hgd];simp only[qj,zr,qi]
      first | exact hv.symm | exact⟨by omega,hv,by omega⟩
   . have hi2:¬ (i:Int) < (n.nb.length:Int):=by omega
     rw[zv (by omega)]at hv;delta Co oO oN oA oM oR oS oK oF oL oI oX oB o2 o4 o5 o9;simp only[Cb,hi2,WU,V,W3,seval]
     try simp[hv]
def Ed : Ent Tryz.prog:=.of3 115 (fun n _ _=>NwS n) (fun (n:Nw) (a b:Int)=>enc (nbr n a b)) (fun _ _ _=>trivial) (fun n a b h=>AY n a b h)
def btr (r:Rul) (s n:List Int) (k:Nat):Bool:=x9 r (s.getD k 0) (n.getD k 0)
def ovk (r:Rul) (s n:List Int) (k:Nat):Bool:=over r (s.getD k 0) (n.getD k 0)
def GoodT (r:Rul) (s n:List Int):Option Int->List Int->Prop
 |_,[]=>True
 | prev,v :: l=>(r.trig<=v/\v<=(s.length:Int) - 1)/\(∀ k:Nat,v - r.trig<=(k:Int)->(k:Int)<=v->btr r s n k=true)/\(∀ u,prev=some u->u < v/\∃ k:Nat,u<=(k:Int)/\(k:Int) < v/\ovk r s n k=true)/\GoodT r s n (some v) l
theorem cnt_gt {r:Rul} {s n:List Int} {t:Nat} {run:Int} (ht:0<=r.trig) (hrun:run=(cnt (btr r s n) (t+1):Int)) (h:r.trig < run):r.trig<=t/\∀ k:Nat,(t:Int) - r.trig<=k->(k:Int)<=t->btr r s n k=true:=by
 obtain⟨T,hT⟩:∃ T:Nat,r.trig=(T:Int):=⟨r.trig.toNat,by omega⟩;rw[hT]at h ⊢;have h2:T < cnt (btr r s n) (t+1):=by omega
 rw[AN]at h2;exact⟨by omega,fun k h3 h4=>h2.2 k (by omega) (by omega)⟩
theorem goodT (r:Rul) (s n:List Int) (hl:n.length=s.length) (ht:0<=r.trig) (hh:0<=r.hyst):∀ (m t:Nat) (armed:Bool) (prev:Option Int),s.length - t=m ->
 (∀ u,prev=some u->u < (t:Int)/\(armed=true->∃ k:Nat,u<=(k:Int)/\(k:Int) < t/\ovk r s n k=true))->GoodT r s n prev (trg r (s.drop t) (n.drop t) t (cnt (btr r s n) t) armed)
 | 0,t,armed,prev,hm,hp=>by
  rw[zv (by omega:s.length<=t),trg_nil];trivial
 | m+1,t,armed,prev,hm,hp=>by
  have h1:t < s.length:=by omega
  have h2:t < n.length:=by omega
  rw[fI 0 h1,fI 0 h2,trg];have hc:(if x9 r (s.getD t 0) (n.getD t 0)then (cnt (btr r s n) t:Int)+1 else 0)=(cnt (btr r s n) (t+1):Int):=(Cu (btr r s n) t).symm;simp only[hc];by_cases hg:((armed || over r (s.getD t 0) (n.getD t 0)) && decide (r.trig < (cnt (btr r s n) (t+1):Int)))=true
  . rw[qb hg];simp only[zm,zV,qf]at hg;obtain⟨g1,g2⟩:=hg;obtain⟨g3,g4⟩:=cnt_gt ht rfl g2;have g5:=g4 t (by omega) (by omega);refine⟨⟨g3,by omega⟩,g4,fun u hu=>?_,goodT r s n hl ht hh m (t+1) false (some t) (by omega) (fun u hu=>?_)⟩
    . obtain⟨q1,q2⟩:=hp u hu;refine⟨q1,?_⟩;rcases g1 with g1 | g1
      . exact q2 g1
      . exfalso
        simp only[btr,x9,qf]at g5;simp only[over,qf]at g1;omega
    . cases hu;exact⟨by omega,fun h=>by cases h⟩
  . rw[qa hg];refine goodT r s n hl ht hh m (t+1) _ prev (by omega) (fun u hu=>?_);obtain⟨q1,q2⟩:=hp u hu;refine⟨by omega,fun ha=>?_⟩;simp only[zV]at ha;rcases ha with ha | ha
    . obtain⟨k,k1,k2,k3⟩:=q2 ha;exact⟨k,k1,by omega,k3⟩
    . exact⟨t,by omega,by omega,ha⟩
theorem goodT0 {r:Rul} {s n:List Int} (h:TrgOk r s n):GoodT r s n none (x7 r s n):=by
 have h2:=h.hr;simp only[uE,zm,qf]at h2;have:=goodT r s n h.hln h2.2.1 h2.1.2.1 s.length 0 true none (by omega) (fun u hu=>by cases hu);simpa[cnt,x7]using this
theorem BZ (r:Rul) (s n:List Int) (hl:n.length=s.length):∀ (m t v:Nat),s.length - t=m->t<=v->v < s.length->r.trig < (cnt (btr r s n) (v+1):Int) ->
 ∃ u l,trg r (s.drop t) (n.drop t) t (cnt (btr r s n) t) true=u :: l/\u<=(v:Int)
 | 0,t,v,hm,h1,h2,h3=>by omega
 | m+1,t,v,hm,h1,h2,h3=>by
  have g1:t < s.length:=by omega
  have g2:t < n.length:=by omega
  rw[fI 0 g1,fI 0 g2,trg];have hc:(if x9 r (s.getD t 0) (n.getD t 0)then (cnt (btr r s n) t:Int)+1 else 0)=(cnt (btr r s n) (t+1):Int):=(Cu (btr r s n) t).symm;simp only[hc,yz,zY,qf];by_cases hg:r.trig < (cnt (btr r s n) (t+1):Int)
  . rw[qb hg];exact⟨_,_,rfl,by omega⟩
  . rw[qa hg];have:t≠v:=fun e=>hg (e ▸ h3)
    exact BZ r s n hl m (t+1) v (by omega) (by omega) h2 h3
theorem Ct {p q:Nat->Bool} (h:∀ k,p k=true->q k=true):∀ t,cnt p t<=cnt q t
 | 0=>zw _
 | t+1=>by
  have:=Ct h t;rw[cnt,cnt];cases hp:p t with
  | false=>simp
  | true=>rw[h t hp];simp;omega
theorem later {r r':Rul} {s n:List Int} (h:TrgOk r s n) (h':TrgOk r' s n) (h1:r.trig<=r'.trig) (h2:r.off<=r'.off) (h3:r.hyst=r'.hyst) (hne:x7 r' s n≠[]) :
 x7 r s n≠[]/\(x7 r s n).getD 0 0<=(x7 r' s n).getD 0 0:=by
 cases hL:x7 r' s n with
 | nil=>exact absurd hL hne
 | cons v l=>
  have hg:=goodT0 h';rw[hL]at hg;obtain⟨⟨g1,g2⟩,g3,_,_⟩:=hg;have hr':=h'.hr;simp only[uE,zm,qf]at hr';obtain⟨V,rfl⟩:∃ V:Nat,v=(V:Int):=⟨v.toNat,by omega⟩;obtain⟨T,hT⟩:∃ T:Nat,r'.trig=(T:Int):=⟨r'.trig.toNat,by omega⟩;have hc':T < cnt (btr r' s n) (V+1):=by
   rw[AN];exact⟨by omega,fun k q1 q2=>g3 k (by omega) (by omega)⟩
  have hm:=Ct (p:=btr r' s n) (q:=btr r s n) (fun k hk=>by
   simp only[btr,x9,qf]at hk ⊢
   omega) (V+1)
  obtain⟨u,l',e1,e2⟩:=BZ r s n h.hln s.length 0 V (by omega) (by omega) (by omega) (by omega);have e3:x7 r s n=u :: l':=by simpa[cnt,x7]using e1
  rw[e3];exact⟨by simp,by simpa using e2⟩
def lawRule : C:=.agg [.s (.int .i64 30),.s (.int .i64 10),.s (.int .i64 2)]
theorem Net_c : FC Tryz.prog 89 [] [] (enc gV) []:=by
 refine eP is89 (by simp) (fun cx hl=>dC [] 800 ?_);delta c89 oO oN oA oW oX o2;simp only[rv89,eO,gV,zt,zR,uX,V,W3,seval]
def ent89 : Ent Tryz.prog:=.of0 89 (enc gV) (by simp[eO,dG,dG.keysIns]) Net_c
theorem Log_c : FC Tryz.prog 90 [] [] (enc jg) []:=by
 refine eP is90 (by simp) (fun cx hl=>dC [] 1200 ?_);delta c90 oO oN oA oM oX o3;simp only[rv90,qx,jg,zt,zR,qJ,V,W3,seval]
def ent90 : Ent Tryz.prog:=.of0 90 (enc jg) trivial Log_c
end Go.Proofs.YtcbabnbiinkafaaGreatDoor
end
