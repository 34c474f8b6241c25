/- Part 10 of the proof of: the statements about chapter 8 -/
import Derived.Test.YtcbabnbiinkafaaGreatDoorProg
import Derived.KernelRfl
import Derived.Shelf.Sort.Plain
import Derived.Shelf.Slices.In.SortNone
import Derived.Shelf.Slices.SearchI
import Derived.Ground.Names2Prog
import Derived.Ground.SlgfProg
import Derived.Shelf.SlicesE.DeleteFunc
import Derived.Shelf.Spec.SlicesInsertGrow
import Derived.Shelf.Spec.SlicesInsert
import Derived.Shelf.Strconv.Itoa3
import Derived.Shelf.Strings.OnBuilder
import Derived.Ground.NamesProg
import Derived.Test.YtcbabnbiinkafaaGreatDoorBn9
set_option linter.all false
section
open Go Go.Am
open Go.Am.Dat (cells)
namespace Go.Proofs.YtcbabnbiinkafaaGreatDoor
set_option maxRecDepth 100000
def c149 : AC:=oS (oR [oA 2 (.mv (.const (.bool false)))]) (oK [0] (oS (oQ [oT 3 (.mv (oO 0)),oT 4 (.nilc (oO 3)),oT 5 (.faddr 0 (oO 4)),oT 6 (.faddr 5 (oO 5)),oT 7 (.load false 1 (oO 6)),oT 8 (.bin .neq 3 (oO 7) (oN (-1))),oT 9 (.mv (oO 8)),oG 10 9 true (.mv (oO 0)),oG 11 9 true (.nilc (oO 10)),oG 12 9 true (.faddr 0 (oO 11)),oG 13 9 true (.faddr 6 (oO 12)),oG 14 9 true (.load false 1 (oO 13)),oG 15 9 true (.mv (oO 0)),oG 16 9 true (.nilc (oO 15)),oG 17 9 true (.faddr 0 (oO 16)),oG 18 9 true (.faddr 3 (oO 17)),oG 19 9 true (.load false 1 (oO 18)),⟨some 20,some (9,true),.bin .eql 3 (oO 14) (oO 19),true⟩,oT 21 (.pick (oO 9) (oO 20) (.const (.bool false))),oT 22 (.mv (oO 21)),oG 23 22 true (.mv (oO 0)),oG 24 22 true (.nilc (oO 23)),oG 25 22 true (.faddr 0 (oO 24)),oG 26 22 true (.faddr 9 (oO 25)),oG 27 22 true (.load false 1 (oO 26)),oG 28 22 true (.mv (oO 0)),oG 29 22 true (.nilc (oO 28)),oG 30 22 true (.faddr 0 (oO 29)),oG 31 22 true (.faddr 5 (oO 30)),oG 32 22 true (.load false 1 (oO 31)),⟨some 33,some (22,true),.iaddr 1 [.slice none 0 0] (oO 27) (oO 32),true⟩,⟨some 34,some (22,true),.load false 1 (oO 33),true⟩,⟨some 35,some (22,true),.len false (oO 34),true⟩,⟨some 36,some (22,true),.bin .eql 3 (oO 35) (oN 0),true⟩,oT 37 (.pick (oO 22) (oO 36) (.const (.bool false))),oT 2 (.mv (oO 37))]) (oK [2] (.ret))))
def oU : List RV:=[.tmp 2]
theorem is149 : FnIs Tryz.prog 149 38 c149 oU:=⟨⟨Tryz.f149,_,Tryz.func149,by kernel_rfl,rfl,rfl,by kernel_rfl,by kernel_rfl⟩,by decide⟩
def c151 : AC:=oS (oR [oM 4 0,oA 5 (.call (.func 120) [(oO 4)]),oM 6 5,oG 7 6 true (.mv (oO 0)),oG 8 6 true (.call (.func 121) [(oO 7)]),oG 9 6 true (.mv (oO 1)),oG 10 6 true (.bin .leq 3 (oO 8) (oO 9)),oA 11 (.pick (oO 6) (oO 10) (.const (.bool false)))]) (oK [0,11] (.cond (oO 11) (oR [oM 12 0,oM 13 0,oA 14 (.call (.func 121) [(oO 13)]),oA 15 (.call (.func 166) [(oO 12),(oN 0),(oO 14)])]) (.skip)))
def rv151 : List RV:=[]
theorem is151 : FnIs Tryz.prog 151 16 c151 rv151:=⟨⟨Tryz.f151,_,Tryz.func151,by kernel_rfl,rfl,rfl,by kernel_rfl,by kernel_rfl⟩,by decide⟩
def qP : AC:=oS (oR [oA 13 (.bin .lss 3 (oO 12) (oO 11))]) (oK [3,10,11,12,13] (oS (.cond (oO 13) (.skip) (.exit 0)) (oK [3,10,11,12] (oS (.block 1 (oS (oR [oA 14 (.iaddr 1 [.slice none 0 0] (oO 10) (oO 12)),oL 15 14,oM 5 15]) (oK [3,5,10,11,12] (oR [oM 16 3,oM 17 5,oA 18 (.len false (oO 17)),oA 19 (.bin .add 3 (oO 16) (oO 18)),oM 3 19])))) (oK [3,10,11,12] (oR [oA 20 (.bin .add 3 (oO 12) (oN 1)),oM 12 20]))))))
def c165 : AC:=oS (oR [oA 2 (.mv (oN 0))]) (oK [0] (oS (oR [oA 3 (.mv (oN 0))]) (oK [0,3] (oS (oS (oR [oM 6 0,oA 7 (.nilc (oO 6)),oF 8 0 7,oF 9 9 8,oL 10 9,oA 11 (.len false (oO 10)),oA 12 (.mv (oN 0))]) (oK [3,10,11,12] (.block 0 (.loop qP)))) (oK [3] (oS (oR [oM 21 3,oM 2 21]) (oK [2] (.ret))))))))
def qy : List RV:=[.tmp 2]
theorem is165 : FnIs Tryz.prog 165 22 c165 qy:=⟨⟨Tryz.f165,_,Tryz.func165,by kernel_rfl,rfl,rfl,by kernel_rfl,by kernel_rfl⟩,by decide⟩
def c167 : AC:=oS (oR [oA 1 (.box (oO 0)),oA 2 (.mv (oN 0)),oA 3 (.mv (oN 0))]) (oK [1] (oS (oS (oR [oF 4 1 1,oL 5 4,oA 6 (.bin .eql 3 (oO 5) (oN 2))]) (oK [1,6] (.cond (oO 6) (oS (oQ [oF 7 3 1,oL 8 7,oF 9 4 1,oL 10 9,oM 2 8,oT 3 (.mv (oO 10))]) (oK [2,3] (.ret))) (.skip)))) (oK [1] (oS (oQ [oF 11 5 1,oL 12 11,oF 13 3 1,oL 14 13,oM 2 12,oT 3 (.mv (oO 14))]) (oK [2,3] (.ret))))))
def nM : AC:=oS (oR [oA 12 (.bin .lss 3 (oO 11) (oO 10))]) (oK [0,3,9,10,11,12] (oS (.cond (oO 12) (.skip) (.exit 0)) (oK [0,3,9,10,11] (oS (.block 1 (oS (oR [oA 13 (.iaddr 1 [.slice none 0 0] (oO 9) (oO 11)),oL 14 13,oM 5 14]) (oK [0,3,5,9,10,11] (oS (oR [oM 15 3,oM 16 5,oA 17 (.len false (oO 16)),oA 18 (.bin .add 3 (oO 15) (oO 17)),oM 3 18]) (oK [0,3,9,10,11] (oS (oR [oM 19 3,oA 20 (.bin .lss 3 (oO 19) (oN 0))]) (oK [0,3,9,10,11,20] (.cond (oO 20) (oR [⟨some 21,none,.opq (.makeInterface 9 (.const (.string ⟨#[108,101,110,32,111,117,116,32,111,102,32,114,97,110,103,101]⟩))) 20,false⟩,⟨none,none,.opq (.panic (oO 21)) 0,false⟩]) (.skip))))))))) (oK [0,3,9,10,11] (oR [oA 22 (.bin .add 3 (oO 11) (oN 1)),oM 11 22]))))))
def lM : AC:=oS (oR [oA 28 (.bin .lss 3 (oO 27) (oO 26))]) (oK [6,25,26,27,28] (oS (.cond (oO 28) (.skip) (.exit 2)) (oK [6,25,26,27] (oS (.block 3 (oS (oR [oA 29 (.iaddr 1 [.slice none 0 0] (oO 25) (oO 27)),oL 30 29,oM 8 30]) (oK [6,8,25,26,27] (oR [oM 31 6,oM 32 8,oA 33 (.app 24 3 1 8 [.int .i64 0] (oO 31) (oO 32)),oM 6 33])))) (oK [6,25,26,27] (oR [oA 34 (.bin .add 3 (oO 27) (oN 1)),oM 27 34]))))))
def c181 : AC:=oS (oR [oA 2 (.mv (.const (.slice none 0 0)))]) (oK [0] (oS (oR [oA 3 (.mv (oN 0))]) (oK [0,3] (oS (oS (oR [oM 9 0,oA 10 (.len false (oO 9)),oA 11 (.mv (oN 0))]) (oK [0,3,9,10,11] (.block 0 (.loop nM)))) (oK [0,3] (oS (oR [oM 23 3,oA 24 (.call (.func 201) [(.const (.slice none 0 0)),(oO 23)]),oM 6 24]) (oK [0,6] (oS (oS (oR [oM 25 0,oA 26 (.len false (oO 25)),oA 27 (.mv (oN 0))]) (oK [6,25,26,27] (.block 2 (.loop lM)))) (oK [6] (.fz [6] (oS (oR [oM 35 6,oM 2 35]) (oK [2] (.ret)))))))))))))
def jJ : List RV:=[.tmp 2]
theorem is181 : FnIs Tryz.prog 181 36 c181 jJ:=⟨⟨Tryz.f181,_,Tryz.func181,by kernel_rfl,rfl,rfl,by kernel_rfl,by kernel_rfl⟩,by decide⟩
def c184 : AC:=oS (oS (oR [oM 6 1,oM 7 0,oA 8 (.nilc (oO 7)),oF 9 0 8,oF 10 3 9,oL 11 10,oA 12 (.bin .eql 3 (oO 6) (oO 11))]) (oK [0,1,2,12] (.cond (oO 12) (.ret) (.skip)))) (oK [0,1,2] (oS (oQ [oM 13 0,oA 14 (.nilc (oO 13)),oF 15 14 14,oL 16 15,oM 17 0,oA 18 (.nilc (oO 17)),oF 19 14 18,oL 20 19,oA 21 (.len false (oO 20)),oA 22 (.bin .sub 3 (oO 21) (oN 1)),oM 23 2,oT 24 (.iaddr 3 [.int .i64 0,.int .i64 0,.int .i64 0] (oO 16) (oO 22)),oT 25 (.faddr 2 (oO 24)),⟨none,none,.store false 1 (oO 25) (oO 23),true⟩]) (oK [0,1,2] (oS (oR [oM 26 0,oM 27 0,oA 28 (.nilc (oO 27)),oF 29 14 28,oL 30 29,oM 31 1,oM 32 2,oA 33 (.build [.int .i64 0,.int .i64 0,.int .i64 0] [(0,1,(oO 31)),(1,1,(oO 32))]),oA 34 (.mkSl false 138 3 [.int .i64 0,.int .i64 0,.int .i64 0] 1 [(0,(oO 33))]),oA 35 (.app 65 138 3 24 [.int .i64 0,.int .i64 0,.int .i64 0] (oO 30) (oO 34)),oA 36 (.nilc (oO 26)),oF 37 14 36,⟨none,none,.store true 1 (oO 37) (oO 35),false⟩]) (oK [0,1] (oR [oM 38 0,oM 39 1,oA 40 (.nilc (oO 38)),oF 41 0 40,oF 42 3 41,⟨none,none,.store false 1 (oO 42) (oO 39),false⟩]))))))
def rv184 : List RV:=[]
theorem is184 : FnIs Tryz.prog 184 43 c184 rv184:=⟨⟨Tryz.f184,_,Tryz.func184,by kernel_rfl,rfl,rfl,by kernel_rfl,by kernel_rfl⟩,by decide⟩
def qQ : AC:=oS (oR [oA 8 (.bin .lss 3 (oO 7) (oO 6))]) (oK [0,5,6,7,8] (oS (.cond (oO 8) (.skip) (.exit 0)) (oK [0,5,6,7] (oS (.block 1 (oS (oR [oA 9 (.iaddr 1 [.int .i64 0] (oO 5) (oO 7)),oL 10 9,oM 4 10]) (oK [0,4,5,6,7] (oS (oR [oM 11 0,oM 12 4,oA 13 (.call (oO 11) [(oO 12)]),oA 14 (.un .not (oO 13))]) (oK [0,5,6,7,14] (.cond (oO 14) (.ret) (.skip))))))) (oK [0,5,6,7] (oR [oA 15 (.bin .add 3 (oO 7) (oN 1)),oM 7 15]))))))
def c200 : AC:=oS (oR [oL 5 1,oA 6 (.len false (oO 5)),oA 7 (.mv (oN 0))]) (oK [0,5,6,7] (.block 0 (.loop qQ)))
def mG : List RV:=[]
theorem is200 : FnIs Tryz.prog 200 16 c200 mG:=⟨⟨Tryz.f200,_,Tryz.func200,by kernel_rfl,rfl,rfl,by kernel_rfl,by kernel_rfl⟩,by decide⟩
def c262 : AC:=oS (oR [oM 2 0,oA 3 (.call (.func 149) [(oO 2)])]) (oK [0,3] (.cond (oO 3) (oR [oM 4 0,oA 5 (.nilc (oO 4)),oF 6 0 5,oF 7 5 6,⟨none,none,.store false 1 (oO 7) (oN (-1)),false⟩]) (.skip)))
def rv262 : List RV:=[]
theorem is262 : FnIs Tryz.prog 262 8 c262 rv262:=⟨⟨Tryz.f262,_,Tryz.func262,by kernel_rfl,rfl,rfl,by kernel_rfl,by kernel_rfl⟩,by decide⟩
def c269 : AC:=oS (oR [oA 3 (.box (oO 1)),oA 4 (.mv (oN 0))]) (oK [0] (oS (oS (oR [oM 7 0,oA 8 (.call (.func 120) [(oO 7)])]) (oK [0,8] (.cond (oO 8) (oS (oR [oA 4 (.mv (oN 22))]) (oK [4] (.ret))) (.skip)))) (oK [0] (oS (oQ [oM 9 0,oA 10 (.nilc (oO 9)),oF 11 0 10,oF 12 9 11,oL 13 12,oM 14 0,oA 15 (.nilc (oO 14)),oF 16 0 15,oF 17 3 16,oL 18 17,oT 19 (.iaddr 1 [.slice none 0 0] (oO 13) (oO 18)),oT 20 (.load false 1 (oO 19)),oT 5 (.mv (oO 20))]) (oK [0,5] (oS (oS (oR [oM 21 5,oA 22 (.len false (oO 21)),oA 23 (.bin .eql 3 (oO 22) (oN 0))]) (oK [0,5,23] (.cond (oO 23) (oS (oR [oA 4 (.mv (oN 12))]) (oK [4] (.ret))) (.skip)))) (oK [0,5] (oS (oS (oR [oM 24 5,oA 25 (.iaddr 1 [.int .i64 0] (oO 24) (oN 0)),oL 26 25,oM 6 26]) (oK [0,6] (.block 0 (oS (oR [oM 28 6,oM 29 0,oA 30 (.nilc (oO 29)),oF 31 0 30,oF 32 8 31,oL 33 32,oA 34 (.bin .gtr 3 (oO 28) (oO 33)),oM 27 34]) (oK [0,6,27] (.cond (oO 27) (oS (oR [oA 4 (.mv (oN 14))]) (oK [4] (.ret))) (oS (oR [oM 36 6,oM 37 0,oA 38 (.nilc (oO 37)),oF 39 0 38,oF 40 8 39,oL 41 40,oA 42 (.bin .eql 3 (oO 36) (oO 41)),oM 35 42]) (oK [0,6,35] (.cond (oO 35) (oS (oR [oM 43 0,oM 44 0,oA 45 (.nilc (oO 44)),oF 46 13 45,oL 47 46,oM 48 6,oA 49 (.mkSl false 3 1 [.int .i64 0] 1 [(0,(oO 48))]),oA 50 (.app 24 3 1 8 [.int .i64 0] (oO 47) (oO 49)),oA 51 (.nilc (oO 43)),oF 52 13 51,⟨none,none,.store true 1 (oO 52) (oO 50),false⟩]) (oK [0] (oR [oM 53 0,oA 54 (.nilc (oO 53)),oF 55 0 54,oF 56 8 55,oL 57 56,oA 58 (.bin .add 3 (oO 57) (oN 1)),oA 59 (.nilc (oO 53)),oF 60 0 59,oF 61 8 60,⟨none,none,.store false 1 (oO 61) (oO 58),false⟩]))) (.skip)))))))))) (oK [] (oS (oR [oA 4 (.mv (oN 0))]) (oK [4] (.ret))))))))))))
def mH : List RV:=[.tmp 4]
theorem oj : FnIs Tryz.prog 269 62 c269 mH:=⟨⟨Tryz.f269,_,Tryz.func269,by kernel_rfl,rfl,rfl,by kernel_rfl,by kernel_rfl⟩,by decide⟩
def c270 : AC:=oS (oR [oA 2 (.box (oO 0)),oA 3 (.box (oO 1)),oA 4 (.mv (oN 0))]) (oK [2] (oS (oS (oR [oL 6 2,oA 7 (.call (.func 120) [(oO 6)])]) (oK [2,7] (.cond (oO 7) (oS (oR [oA 4 (.mv (oN 22))]) (oK [4] (.ret))) (.skip)))) (oK [2] (oS (oQ [oL 8 2,oA 9 (.nilc (oO 8)),oF 10 0 9,oF 11 9 10,oL 12 11,oL 13 2,oA 14 (.nilc (oO 13)),oF 15 0 14,oF 16 3 15,oL 17 16,oT 18 (.iaddr 1 [.slice none 0 0] (oO 12) (oO 17)),oT 5 (.mv (oO 18))]) (oK [2,5] (oS (oR [oM 19 5,oM 20 5,oA 21 (.nilc (oO 20)),oL 22 21,oA 23 (.mkFn (.func 280) [] [(oO 2)]),oA 24 (.call (.func 182) [(oO 22),(oO 23)]),oA 25 (.nilc (oO 19)),⟨none,none,.store false 1 (oO 25) (oO 24),false⟩]) (oK [] (oS (oR [oA 4 (.mv (oN 0))]) (oK [4] (.ret))))))))))
def qz : List RV:=[.tmp 4]
theorem is270 : FnIs Tryz.prog 270 26 c270 qz:=⟨⟨Tryz.f270,_,Tryz.func270,by kernel_rfl,rfl,rfl,by kernel_rfl,by kernel_rfl⟩,by decide⟩
def c276 : AC:=oS (oR [oA 3 (.box (oO 1)),oA 4 (.mv (oN 0))]) (oK [0] (oS (oQ [oM 6 0,oA 7 (.nilc (oO 6)),oF 8 0 7,oF 9 5 8,oL 10 9,oA 11 (.bin .neq 3 (oO 10) (oN (-1))),oA 12 (.call (.func 95) [(oO 11),(oN 12)]),oM 13 0,oA 14 (.nilc (oO 13)),oF 15 0 14,oF 16 1 15,oL 17 16,oA 18 (.bin .neq 3 (oO 17) (oN 3)),oA 19 (.call (.func 95) [(oO 18),(oN 22)]),oM 20 0,oA 21 (.nilc (oO 20)),oF 22 0 21,oF 23 6 22,oL 24 23,oM 25 0,oA 26 (.nilc (oO 25)),oF 27 0 26,oF 28 3 27,oL 29 28,oA 30 (.bin .neq 3 (oO 24) (oO 29)),oT 31 (.call (.func 95) [(oO 30),(oN 26)]),oT 32 (.mkSl false 27 1 [.int .i64 0] 3 [(0,(oO 12)),(1,(oO 19)),(2,(oO 31))]),oT 33 (.call (.func 91) [(oO 32)]),oT 5 (.mv (oO 33))]) (oK [0,5] (oS (oS (oR [oM 34 5,oA 35 (.bin .eql 27 (oO 34) (oN 0))]) (oK [0,5,35] (.cond (oO 35) (oS (oR [oM 36 0,oM 37 0,oA 38 (.nilc (oO 37)),oF 39 0 38,oF 40 3 39,oL 41 40,oA 42 (.nilc (oO 36)),oF 43 0 42,oF 44 6 43,⟨none,none,.store false 1 (oO 44) (oO 41),false⟩]) (oK [0,5] (oR [oM 45 0,oA 46 (.call (.func 262) [(oO 45)])]))) (.skip)))) (oK [5] (oS (oR [oM 47 5,oM 4 47]) (oK [4] (.ret))))))))
def oV : List RV:=[.tmp 4]
theorem qp : FnIs Tryz.prog 276 48 c276 oV:=⟨⟨Tryz.f276,_,Tryz.func276,by kernel_rfl,rfl,rfl,by kernel_rfl,by kernel_rfl⟩,by decide⟩
def c277 : AC:=oS (oR [oA 3 (.box (oO 1)),oA 4 (.mv (oN 0))]) (oK [0,3] (oS (oS (oR [oM 5 0,oA 6 (.nilc (oO 5)),oF 7 0 6,oF 8 1 7,oL 9 8]) (oK [0,3,9] (.block 0 (oS (oR [oA 17 (.bin .eql 3 (oO 9) (oN 3)),oM 16 17]) (oK [0,3,9,16] (.cond (oO 16) (oS (oR [oA 4 (.mv (oN 22))]) (oK [4] (.ret))) (oS (oR [oA 19 (.bin .eql 3 (oO 9) (oN 2)),oM 18 19]) (oK [0,3,18] (.cond (oO 18) (.skip) (oR [oM 10 0,oF 11 1 3,oL 12 11,oA 13 (.nilc (oO 10)),oF 14 0 13,oF 15 2 14,⟨none,none,.store false 1 (oO 15) (oO 12),false⟩])))))))))) (oK [0,3] (oS (oR [oM 20 0,oA 21 (.nilc (oO 20)),oF 22 0 21,oF 23 1 22,⟨none,none,.store false 1 (oO 23) (oN 3),false⟩]) (oK [0,3] (oS (oR [oM 24 0,oF 25 1 3,oL 26 25,oA 27 (.call (.func 281) [(oO 24),(oO 26)])]) (oK [] (oS (oR [oA 4 (.mv (oN 0))]) (oK [4] (.ret))))))))))
def qA : List RV:=[.tmp 4]
theorem is277 : FnIs Tryz.prog 277 28 c277 qA:=⟨⟨Tryz.f277,_,Tryz.func277,by kernel_rfl,rfl,rfl,by kernel_rfl,by kernel_rfl⟩,by decide⟩
def c278 : AC:=oS (oR [oA 3 (.box (oO 1)),oA 4 (.mv (oN 0))]) (oK [0,3] (oS (oQ [oM 7 0,oA 8 (.nilc (oO 7)),oF 9 0 8,oF 10 3 9,oL 11 10,oM 12 0,oA 13 (.nilc (oO 12)),oF 14 0 13,oF 15 4 14,oL 16 15,oM 17 0,oA 18 (.nilc (oO 17)),oF 19 0 18,oF 20 5 19,oL 21 20,oA 22 (.mkSl false 3 1 [.int .i64 0] 3 [(0,(oO 11)),(1,(oO 16)),(2,(oO 21))]),oF 23 2 3,oL 24 23,oT 25 (.call (.func 284) [(oO 22),(oO 24)]),oT 5 (.mv (oO 25))]) (oK [0,3,5] (oS (oR [oM 26 0,oA 27 (.nilc (oO 26)),oF 28 0 27,oF 29 1 28,oL 30 29,oA 31 (.bin .eql 3 (oO 30) (oN 3)),oA 32 (.call (.func 95) [(oO 31),(oN 22)]),oM 33 5,oA 34 (.call (.func 95) [(oO 33),(oN 6)]),oA 35 (.mkSl false 27 1 [.int .i64 0] 2 [(0,(oO 32)),(1,(oO 34))]),oA 36 (.call (.func 91) [(oO 35)]),oM 6 36]) (oK [0,3,6] (oS (oS (oR [oM 37 6,oA 38 (.bin .eql 27 (oO 37) (oN 0))]) (oK [0,3,6,38] (.cond (oO 38) (oR [oM 39 0,oF 40 2 3,oL 41 40,oF 42 1 3,oL 43 42,oA 44 (.call (.func 166) [(oO 39),(oO 41),(oO 43)])]) (.skip)))) (oK [6] (oS (oR [oM 45 6,oM 4 45]) (oK [4] (.ret))))))))))
def rv278 : List RV:=[.tmp 4]
theorem is278 : FnIs Tryz.prog 278 46 c278 rv278:=⟨⟨Tryz.f278,_,Tryz.func278,by kernel_rfl,rfl,rfl,by kernel_rfl,by kernel_rfl⟩,by decide⟩
def c279 : AC:=oS (oR [oA 3 (.box (oO 1)),oA 4 (.mv (oN 0))]) (oK [] (oS (oR [oA 4 (.mv (oN 0))]) (oK [4] (.ret))))
def rv279 : List RV:=[.tmp 4]
theorem is279 : FnIs Tryz.prog 279 5 c279 rv279:=⟨⟨Tryz.f279,_,Tryz.func279,by kernel_rfl,rfl,rfl,by kernel_rfl,by kernel_rfl⟩,by decide⟩
def c281 : AC:=oS (oR [oM 4 0,oA 5 (.nilc (oO 4)),oF 6 15 5,oL 7 6,oA 8 (.bin .eql 3 (oO 7) (oN (-1)))]) (oK [0,1,8] (.cond (oO 8) (oR [oM 9 0,oM 10 1,oA 11 (.nilc (oO 9)),oF 12 15 11,⟨none,none,.store false 1 (oO 12) (oO 10),false⟩]) (.skip)))
def rv281 : List RV:=[]
theorem is281 : FnIs Tryz.prog 281 13 c281 rv281:=⟨⟨Tryz.f281,_,Tryz.func281,by kernel_rfl,rfl,rfl,by kernel_rfl,by kernel_rfl⟩,by decide⟩
def c284 : AC:=oS (oR [oA 4 (.mv (.const (.bool false)))]) (oK [0,1] (oS (oR [oM 5 0,oM 6 1,oA 7 (.call (.func 288) [(oO 5),(oO 6)]),oA 8 (.bin .geq 3 (oO 7) (oN 0)),oM 4 8]) (oK [4] (.ret))))
def rv284 : List RV:=[.tmp 4]
theorem is284 : FnIs Tryz.prog 284 9 c284 rv284:=⟨⟨Tryz.f284,_,Tryz.func284,by kernel_rfl,rfl,rfl,by kernel_rfl,by kernel_rfl⟩,by decide⟩
def nN : AC:=oS (oR [oA 9 (.bin .lss 3 (oO 8) (oO 7))]) (oK [0,1,7,8,9] (oS (.cond (oO 9) (.skip) (.exit 0)) (oK [0,1,7,8] (oS (.block 1 (oS (oR [oM 10 8,oM 5 10]) (oK [0,1,5,7,8] (oS (oR [oM 11 1,oM 12 0,oM 13 5,oA 14 (.iaddr 1 [.int .i64 0] (oO 12) (oO 13)),oL 15 14,oA 16 (.bin .eql 3 (oO 11) (oO 15))]) (oK [0,1,5,7,8,16] (.cond (oO 16) (oS (oR [oM 17 5,oM 4 17]) (oK [4] (.ret))) (.skip))))))) (oK [0,1,7,8] (oR [oA 18 (.bin .add 3 (oO 8) (oN 1)),oM 8 18]))))))
def c288 : AC:=oS (oR [oA 4 (.mv (oN 0))]) (oK [0,1] (oS (oS (oR [oM 6 0,oA 7 (.len false (oO 6)),oA 8 (.mv (oN 0))]) (oK [0,1,7,8] (.block 0 (.loop nN)))) (oK [] (oS (oR [oA 4 (.mv (oN (-1)))]) (oK [4] (.ret))))))
def oW : List RV:=[.tmp 4]
theorem is288 : FnIs Tryz.prog 288 19 c288 oW:=⟨⟨Tryz.f288,_,Tryz.func288,by kernel_rfl,rfl,rfl,by kernel_rfl,by kernel_rfl⟩,by decide⟩
end Go.Proofs.YtcbabnbiinkafaaGreatDoor
end
section
open Go Go.Am
open Go.Am.Dat (cells)
namespace Go.Proofs.YtcbabnbiinkafaaGreatDoor.D
set_option maxRecDepth 100000
def c94k1 : AC:=oS (oR [oA 7 (.mkFn (.func 138) [] [(oO 4),(oO 5),(oO 3)]),oM 6 7]) (oK [6] (.ret))
def c94 : AC:=oS (oR [oA 3 (.box (oO 0)),oA 4 (.box (oO 1)),oA 5 (.box (oO 2)),oA 6 (.mv (.const (.nilFunc)))]) (oK [3,4,5] (.cut c94k1))
def rv94 : List RV:=[.tmp 6]
theorem is94 : FnIs Tryz.prog 94 8 c94 rv94:=⟨⟨Tryz.f94,_,Tryz.func94,by kernel_rfl,rfl,rfl,by kernel_rfl,by kernel_rfl⟩,by decide⟩
end Go.Proofs.YtcbabnbiinkafaaGreatDoor.D
end
section
open Go Go.Am
open Go.Am.Dat (cells)
namespace Go.Proofs.YtcbabnbiinkafaaGreatDoor.D2
set_option maxRecDepth 100000
def c37 : AC:=oS (oR [oA 1 (.box (oO 0)),oA 2 (.alloc [.slice none 0 0,.slice none 0 0,.int .i64 0])]) (oK [1,2] (oS (.draw 999 [1,2,6,9,10,102,106,109,110,206,209,210,306,309,310,405,406,409,410,506,509,510,609,610,708,709,710,809,810,910] [oF 3 0 1,oL 4 3,oA 5 (.call (.func 98) [(oO 4)]),oA 6 (.mkSl true 40 2 [.int .i64 0,.int .i64 0] 0 []),oF 7 1 1,oL 8 7,oA 9 (.app 45 40 2 16 [.int .i64 0,.int .i64 0] (oO 6) (oO 8)),oF 10 2 1,oL 11 10,oT 12 (.build [.slice none 0 0,.slice none 0 0,.int .i64 0] [(0,1,(oO 5)),(1,1,(oO 9)),(2,1,(oO 11))]),⟨none,none,.store false 3 (oO 2) (oO 12),true⟩]) (oK [2] (.ret))))
def rv37 : List RV:=[.cell 2 true 3]
theorem is37 : FnIs Tryz.prog 37 13 c37 rv37:=⟨⟨Tryz.f37,_,Tryz.func37,by kernel_rfl,rfl,rfl,by kernel_rfl,by kernel_rfl⟩,by decide⟩
end Go.Proofs.YtcbabnbiinkafaaGreatDoor.D2
end
section
open Go Go.Am
open Go.Am.Dat (cells)
namespace Go.Proofs.YtcbabnbiinkafaaGreatDoor.D3
set_option maxRecDepth 100000
def c107k1 : AC:=oS (oR [oM 22 5,oM 4 22]) (oK [4] (.ret))
def c107 : AC:=oS (oR [oA 2 (.box (oO 0)),oA 4 (.mv (.const (.pointer none)))]) (oK [1,2] (oS (oR [oA 6 (.load true 3 (oO 2)),oM 7 1,oA 8 (.build [.int .i64 0,.int .i64 0,.int .i64 0] [(0,1,(oO 7))]),oA 9 (.mkSl true 138 3 [.int .i64 0,.int .i64 0,.int .i64 0] 1 [(0,(oO 8))]),oA 10 (.build [.int .i64 0,.int .i64 0,.int .i64 0,.int .i64 0,.int .i64 0,.int .i64 0,.int .i64 0,.int .i64 0,.int .i64 0,.slice none 0 0,.slice none 0 0,.slice none 0 0,.int .i64 0,.slice none 0 0,.slice none 0 0,.int .i64 0,.int .i64 0] [(10,3,(oO 6)),(15,1,(oN (-1))),(14,1,(oO 9))]),oA 11 (.box (oO 10)),oM 5 11]) (oK [1,2,5] (oS (oR [oM 12 5,oM 13 1,oM 14 1,oF 15 0 2,oL 16 15,oA 17 (.len false (oO 16)),oA 18 (.makeSl 24 1 24 [.slice none 0 0] (oO 17) (oO 17)),oA 19 (.build [.int .i64 0,.int .i64 0,.int .i64 0,.int .i64 0,.int .i64 0,.int .i64 0,.int .i64 0,.int .i64 0,.int .i64 0,.slice none 0 0] [(3,1,(oO 13)),(6,1,(oO 14)),(4,1,(oN (-1))),(5,1,(oN (-1))),(9,1,(oO 18))]),oA 20 (.nilc (oO 12)),oF 21 0 20,⟨none,none,.store false 10 (oO 21) (oO 19),false⟩]) (oK [5] (.cut c107k1))))))
def rv107 : List RV:=[.tmp 4]
theorem is107 : FnIs Tryz.prog 107 23 c107 rv107:=⟨⟨Tryz.f107,_,Tryz.func107,by kernel_rfl,rfl,rfl,by kernel_rfl,by kernel_rfl⟩,by decide⟩
def c137r1 : AC:=.block 1 (oR [oL 8 2,oM 9 5,oA 10 (.mkSl false 3 1 [.int .i64 0] 1 [(0,(oO 9))]),oA 11 (.app 24 3 1 8 [.int .i64 0] (oO 8) (oO 10)),⟨none,none,.store true 1 (oO 2) (oO 11),false⟩])
def c137k2 : AC:=.ret
def c137 : AC:=oS (oR [oA 2 (.box (oO 0)),oA 4 (.mv (.const (.slice none 0 0)))]) (oK [1,2] (oS (oS (oR [oM 6 1]) (oK [2,6] (.block 0 (.rangeFunc (oO 6) [7] (oR [oM 5 7]) c137r1)))) (oK [2] (oS (oR [oL 12 2,oM 4 12]) (oK [4] (.cut c137k2))))))
def rv137 : List RV:=[.tmp 4]
theorem is137 : FnIs Tryz.prog 137 13 c137 rv137:=⟨⟨Tryz.f137,_,Tryz.func137,by kernel_rfl,rfl,rfl,by kernel_rfl,by kernel_rfl⟩,by decide⟩
def c180k1 : AC:=oS (oR [oA 3 (.mkFn (.func 200) [] [(oO 1)]),oM 2 3]) (oK [2] (.ret))
def c180 : AC:=oS (oR [oA 1 (.box (oO 0)),oA 2 (.mv (.const (.nilFunc)))]) (oK [1] (.cut c180k1))
def rv180 : List RV:=[.tmp 2]
theorem is180 : FnIs Tryz.prog 180 4 c180 rv180:=⟨⟨Tryz.f180,_,Tryz.func180,by kernel_rfl,rfl,rfl,by kernel_rfl,by kernel_rfl⟩,by decide⟩
def c166 : AC:=oS (oR [oA 3 (.box (oO 0))]) (oK [1,2,3] (oS (oR [oL 7 3,oA 8 (.nilc (oO 7)),oF 9 0 8,oF 10 9 9,oL 11 10,oA 12 (.call (.func 181) [(oO 11)]),oA 13 (.call (.func 180) [(oO 12)]),oA 14 (.call (.func 179) [(oO 13)]),oM 6 14]) (oK [1,2,3,6] (oS (oR [oM 15 6,oA 16 (.mkFn (.func 183) [] [(oO 3)]),oA 17 (.call (.func 182) [(oO 15),(oO 16)]),oM 6 17]) (oK [1,2,3,6] (oS (.draw 7 [0] [oL 18 3,oL 19 3,oA 20 (.nilc (oO 19)),oF 21 10 20,oF 22 0 21,oL 23 22,oA 24 (.len false (oO 23)),oT 25 (.makeSl 24 1 24 [.slice none 0 0] (oO 24) (oO 24)),oT 26 (.nilc (oO 18)),oT 27 (.faddr 0 (oO 26)),oT 28 (.faddr 9 (oO 27)),⟨none,none,.store false 1 (oO 28) (oO 25),true⟩]) (oK [1,2,3,6] (oS (oR [oL 29 3,oA 30 (.nilc (oO 29)),oF 31 0 30,oF 32 9 31,oL 33 32,oM 34 1,oM 35 6,oA 36 (.iaddr 1 [.slice none 0 0] (oO 33) (oO 34)),⟨none,none,.store false 1 (oO 36) (oO 35),false⟩]) (oK [1,2,3] (oS (oR [oL 37 3,oM 38 1,oM 39 2,oA 40 (.call (.func 184) [(oO 37),(oO 38),(oO 39)])]) (oK [1,2,3] (oS (oR [oL 41 3,oM 42 2,oA 43 (.call (.func 139) [(oO 41),(oO 42)])]) (oK [1,2,3] (.draw 999 [7,8,9,10,11,12,13,14,15,16,17,18,19,20,21,22,23,24,25,26,111,112,113,114,115,116,117,118,119,120,121,122,123,124,125,126,215,216,217,218,219,220,221,222,223,224,225,226,319,320,321,322,323,324,325,326,423,424,425,426,511,512,513,514,515,516,517,518,519,520,521,522,523,524,525,526,615,616,617,618,619,620,621,622,623,624,625,626,708,709,710,711,712,713,714,715,716,717,718,719,720,721,722,723,724,725,726,809,810,811,812,813,814,815,816,817,818,819,820,821,822,823,824,825,826,910,911,912,913,914,915,916,917,918,919,920,921,922,923,924,925,926,1011,1012,1013,1014,1015,1016,1017,1018,1019,1020,1021,1022,1023,1024,1025,1026,1112,1113,1114,1115,1116,1117,1118,1119,1120,1121,1122,1123,1124,1125,1126,1213,1214,1215,1216,1217,1218,1219,1220,1221,1222,1223,1224,1225,1226,1314,1315,1316,1317,1318,1319,1320,1321,1322,1323,1324,1325,1326,1415,1416,1417,1418,1419,1420,1421,1422,1423,1424,1425,1426,1516,1517,1518,1519,1520,1521,1522,1523,1524,1525,1526,1617,1618,1619,1620,1621,1622,1623,1624,1625,1626,1718,1719,1720,1721,1722,1723,1724,1725,1726,1819,1820,1821,1822,1823,1824,1825,1826,1920,1921,1922,1923,1924,1925,1926,2021,2022,2023,2024,2025,2026,2122,2123,2124,2125,2126,2223,2224,2225,2226,2324,2325,2326,2425,2426,2526] [oL 44 3,oL 45 3,oL 46 3,oL 47 3,oL 48 3,oA 49 (.mvs (oO 2)),oA 50 (.mvs (oO 1)),oA 51 (.nilc (oO 44)),oF 52 0 51,oF 53 1 52,⟨none,none,.store false 1 (oO 53) (oN 0),false⟩,oA 54 (.nilc (oO 45)),oF 55 0 54,oF 56 2 55,⟨none,none,.store false 1 (oO 56) (oO 49),false⟩,oA 57 (.nilc (oO 46)),oF 58 0 57,oF 59 6 58,⟨none,none,.store false 1 (oO 59) (oO 50),false⟩,oA 60 (.nilc (oO 47)),oF 61 0 60,oF 62 4 61,⟨none,none,.store false 1 (oO 62) (oN (-1)),false⟩,oT 63 (.nilc (oO 48)),oT 64 (.faddr 0 (oO 63)),oT 65 (.faddr 5 (oO 64)),⟨none,none,.store false 1 (oO 65) (oN (-1)),true⟩]))))))))))))))
def rv166 : List RV:=[]
theorem is166 : FnIs Tryz.prog 166 66 c166 rv166:=⟨⟨Tryz.f166,_,Tryz.func166,by kernel_rfl,rfl,rfl,by kernel_rfl,by kernel_rfl⟩,by decide⟩
def c268 : AC:=oS (oR [oA 3 (.box (oO 1)),oA 4 (.mv (oN 0))]) (oK [0] (oS (oS (oR [oM 5 0,oA 6 (.call (.func 165) [(oO 5)]),oA 7 (.bin .geq 3 (oO 6) (oN 60)),oM 8 7,oG 9 8 false (.mv (oO 0)),oG 10 8 false (.nilc (oO 9)),oG 11 8 false (.faddr 0 (oO 10)),oG 12 8 false (.faddr 7 (oO 11)),oG 13 8 false (.load false 1 (oO 12)),oG 14 8 false (.bin .geq 3 (oO 13) (oN 1000000)),oA 15 (.pick (oO 8) (.const (.bool true)) (oO 14))]) (oK [0,15] (.cond (oO 15) (oS (oR [oA 4 (.mv (oN 16))]) (oK [4] (.ret))) (.skip)))) (oK [0] (oS (.draw 28 [0,1,2,3,4,5,6,7,8,9] [oM 16 0,oA 17 (.nilc (oO 16)),oF 18 0 17,oF 19 9 18,oL 20 19,oM 21 0,oA 22 (.nilc (oO 21)),oF 23 0 22,oF 24 6 23,oL 25 24,oM 26 0,oA 27 (.nilc (oO 26)),oF 28 0 27,oF 29 9 28,oL 30 29,oM 31 0,oA 32 (.nilc (oO 31)),oF 33 0 32,oF 34 6 33,oL 35 34,oA 36 (.iaddr 1 [.slice none 0 0] (oO 30) (oO 35)),oL 37 36,oM 38 0,oA 39 (.nilc (oO 38)),oF 40 0 39,oF 41 7 40,oL 42 41,oA 43 (.mkSl false 3 1 [.int .i64 0] 1 [(0,(oO 42))]),oT 44 (.app 24 3 1 8 [.int .i64 0] (oO 37) (oO 43)),oT 45 (.iaddr 1 [.slice none 0 0] (oO 20) (oO 25)),⟨none,none,.store true 1 (oO 45) (oO 44),true⟩]) (oK [0] (oS (oR [oM 46 0,oA 47 (.nilc (oO 46)),oF 48 0 47,oF 49 7 48,oL 50 49,oA 51 (.bin .add 3 (oO 50) (oN 1)),oA 52 (.nilc (oO 46)),oF 53 0 52,oF 54 7 53,⟨none,none,.store false 1 (oO 54) (oO 51),false⟩]) (oK [] (oS (oR [oA 4 (.mv (oN 0))]) (oK [4] (.ret))))))))))
def rv268 : List RV:=[.tmp 4]
theorem is268 : FnIs Tryz.prog 268 55 c268 rv268:=⟨⟨Tryz.f268,_,Tryz.func268,by kernel_rfl,rfl,rfl,by kernel_rfl,by kernel_rfl⟩,by decide⟩
def c271 : AC:=oS (oR [oA 3 (.box (oO 1)),oA 4 (.mv (oN 0))]) (oK [0,3] (oS (oQ [oM 6 0,oA 7 (.nilc (oO 6)),oF 8 0 7,oF 9 1 8,oL 10 9,oA 11 (.bin .eql 3 (oO 10) (oN 0)),oA 12 (.call (.func 95) [(oO 11),(oN 22)]),oM 13 0,oA 14 (.nilc (oO 13)),oF 15 0 14,oF 16 5 15,oL 17 16,oA 18 (.bin .eql 3 (oO 17) (oN (-1))),oA 19 (.call (.func 95) [(oO 18),(oN 17)]),oM 20 0,oF 21 2 3,oL 22 21,oT 23 (.call (.func 148) [(oO 20),(oO 22)]),oT 24 (.call (.func 95) [(oO 23),(oN 6)]),oT 25 (.mkSl false 27 1 [.int .i64 0] 3 [(0,(oO 12)),(1,(oO 19)),(2,(oO 24))]),oT 26 (.call (.func 91) [(oO 25)]),oT 5 (.mv (oO 26))]) (oK [0,3,5] (oS (oS (oR [oM 27 5,oA 28 (.bin .eql 27 (oO 27) (oN 0))]) (oK [0,3,5,28] (.cond (oO 28) (.draw 999 [7,8,9,10,11,12,13,14,15,16,17,18,111,112,113,114,115,116,117,118,215,216,217,218,304,307,308,309,310,311,312,313,314,315,316,317,318,407,408,409,410,411,412,413,414,415,416,417,418,506,515,516,517,518,615,616,617,618,708,709,710,711,712,713,714,715,716,717,718,809,810,811,812,813,814,815,816,817,818,910,911,912,913,914,915,916,917,918,1011,1012,1013,1014,1015,1016,1017,1018,1112,1113,1114,1115,1116,1117,1118,1213,1214,1215,1216,1217,1218,1314,1315,1316,1317,1318,1415,1416,1417,1418,1516,1517,1518,1617,1618,1718] [oM 29 0,oM 30 0,oM 31 0,oF 32 2 3,oL 33 32,oF 34 1 3,oL 35 34,oA 36 (.nilc (oO 29)),oF 37 0 36,oF 38 4 37,⟨none,none,.store false 1 (oO 38) (oO 33),false⟩,oA 39 (.nilc (oO 30)),oF 40 0 39,oF 41 1 40,⟨none,none,.store false 1 (oO 41) (oN 1),false⟩,oT 42 (.nilc (oO 31)),oT 43 (.faddr 0 (oO 42)),oT 44 (.faddr 2 (oO 43)),⟨none,none,.store false 1 (oO 44) (oO 35),true⟩]) (.skip)))) (oK [5] (oS (oR [oM 45 5,oM 4 45]) (oK [4] (.ret))))))))
def rv271 : List RV:=[.tmp 4]
theorem is271 : FnIs Tryz.prog 271 46 c271 rv271:=⟨⟨Tryz.f271,_,Tryz.func271,by kernel_rfl,rfl,rfl,by kernel_rfl,by kernel_rfl⟩,by decide⟩
def c272 : AC:=oS (oR [oA 3 (.box (oO 1)),oA 4 (.mv (oN 0))]) (oK [0,3] (oS (oS (oR [oM 5 0,oA 6 (.nilc (oO 5)),oF 7 0 6,oF 8 1 7,oL 9 8,oA 10 (.bin .neq 3 (oO 9) (oN 1))]) (oK [0,3,10] (.cond (oO 10) (oS (oR [oA 4 (.mv (oN 22))]) (oK [4] (.ret))) (.skip)))) (oK [0,3] (oS (.draw 999 [5,6,7,8,9,10,11,12,13,14,15,16,109,110,111,112,113,114,115,116,213,214,215,216,304,313,314,315,316,413,414,415,416,506,507,508,509,510,511,512,513,514,515,516,607,608,609,610,611,612,613,614,615,616,708,709,710,711,712,713,714,715,716,809,810,811,812,813,814,815,816,910,911,912,913,914,915,916,1011,1012,1013,1014,1015,1016,1112,1113,1114,1115,1116,1213,1214,1215,1216,1314,1315,1316,1415,1416,1516] [oM 11 0,oM 12 0,oM 13 0,oF 14 1 3,oL 15 14,oA 16 (.nilc (oO 11)),oF 17 0 16,oF 18 4 17,⟨none,none,.store false 1 (oO 18) (oN (-1)),false⟩,oA 19 (.nilc (oO 12)),oF 20 0 19,oF 21 1 20,⟨none,none,.store false 1 (oO 21) (oN 0),false⟩,oT 22 (.nilc (oO 13)),oT 23 (.faddr 0 (oO 22)),oT 24 (.faddr 2 (oO 23)),⟨none,none,.store false 1 (oO 24) (oO 15),true⟩]) (oK [] (oS (oR [oA 4 (.mv (oN 0))]) (oK [4] (.ret))))))))
def rv272 : List RV:=[.tmp 4]
theorem is272 : FnIs Tryz.prog 272 25 c272 rv272:=⟨⟨Tryz.f272,_,Tryz.func272,by kernel_rfl,rfl,rfl,by kernel_rfl,by kernel_rfl⟩,by decide⟩
def c273 : AC:=oS (oR [oA 3 (.box (oO 1)),oA 4 (.mv (oN 0))]) (oK [0,3] (oS (oS (oR [oM 5 0,oA 6 (.nilc (oO 5)),oF 7 0 6,oF 8 1 7,oL 9 8,oA 10 (.bin .neq 3 (oO 9) (oN 1))]) (oK [0,3,10] (.cond (oO 10) (oS (oR [oA 4 (.mv (oN 22))]) (oK [4] (.ret))) (.skip)))) (oK [0,3] (oS (.draw 999 [4,5,6,7,8,9,10,11,108,109,110,111,203,208,209,210,211,308,309,310,311,405,406,407,408,409,410,411,506,507,508,509,510,511,607,608,609,610,611,708,709,710,711,809,810,811,910,911,1011] [oM 11 0,oM 12 0,oF 13 1 3,oL 14 13,oA 15 (.nilc (oO 11)),oF 16 0 15,oF 17 1 16,⟨none,none,.store false 1 (oO 17) (oN 2),false⟩,oT 18 (.nilc (oO 12)),oT 19 (.faddr 0 (oO 18)),oT 20 (.faddr 2 (oO 19)),⟨none,none,.store false 1 (oO 20) (oO 14),true⟩]) (oK [0,3] (oS (oR [oM 21 0,oF 22 1 3,oL 23 22,oA 24 (.call (.func 281) [(oO 21),(oO 23)])]) (oK [] (oS (oR [oA 4 (.mv (oN 0))]) (oK [4] (.ret))))))))))
def rv273 : List RV:=[.tmp 4]
theorem is273 : FnIs Tryz.prog 273 25 c273 rv273:=⟨⟨Tryz.f273,_,Tryz.func273,by kernel_rfl,rfl,rfl,by kernel_rfl,by kernel_rfl⟩,by decide⟩
def c274 : AC:=oS (oR [oA 3 (.box (oO 1)),oA 4 (.mv (oN 0))]) (oK [0,3] (oS (oS (oR [oM 5 0,oA 6 (.nilc (oO 5)),oF 7 0 6,oF 8 1 7,oL 9 8,oA 10 (.bin .neq 3 (oO 9) (oN 2))]) (oK [0,3,10] (.cond (oO 10) (oS (oR [oA 4 (.mv (oN 22))]) (oK [4] (.ret))) (.skip)))) (oK [0,3] (oS (oR [oM 11 0,oM 12 0,oA 13 (.nilc (oO 12)),oF 14 0 13,oF 15 3 14,oL 16 15,oA 17 (.nilc (oO 11)),oF 18 0 17,oF 19 5 18,⟨none,none,.store false 1 (oO 19) (oO 16),false⟩]) (oK [0,3] (oS (oQ [oM 20 0,oM 21 0,oA 22 (.nilc (oO 21)),oF 23 0 22,oF 24 4 23,oL 25 24,oF 26 1 3,oL 27 26,oT 28 (.call (.func 184) [(oO 20),(oO 25),(oO 27)])]) (oK [0,3] (oS (oR [oM 29 0,oF 30 1 3,oL 31 30,oA 32 (.call (.func 139) [(oO 29),(oO 31)])]) (oK [0,3] (oS (.draw 999 [5,6,7,8,9,10,11,12,13,14,15,16,109,110,111,112,113,114,115,116,213,214,215,216,304,313,314,315,316,413,414,415,416,506,507,508,509,510,511,512,513,514,515,516,607,608,609,610,611,612,613,614,615,616,708,709,710,711,712,713,714,715,716,809,810,811,812,813,814,815,816,910,911,912,913,914,915,916,1011,1012,1013,1014,1015,1016,1112,1113,1114,1115,1116,1213,1214,1215,1216,1314,1315,1316,1415,1416,1516] [oM 33 0,oM 34 0,oM 35 0,oF 36 1 3,oL 37 36,oA 38 (.nilc (oO 33)),oF 39 0 38,oF 40 4 39,⟨none,none,.store false 1 (oO 40) (oN (-1)),false⟩,oA 41 (.nilc (oO 34)),oF 42 0 41,oF 43 1 42,⟨none,none,.store false 1 (oO 43) (oN 0),false⟩,oT 44 (.nilc (oO 35)),oT 45 (.faddr 0 (oO 44)),oT 46 (.faddr 2 (oO 45)),⟨none,none,.store false 1 (oO 46) (oO 37),true⟩]) (oK [] (oS (oR [oA 4 (.mv (oN 0))]) (oK [4] (.ret))))))))))))))
def rv274 : List RV:=[.tmp 4]
theorem is274 : FnIs Tryz.prog 274 47 c274 rv274:=⟨⟨Tryz.f274,_,Tryz.func274,by kernel_rfl,rfl,rfl,by kernel_rfl,by kernel_rfl⟩,by decide⟩
def c275 : AC:=oS (oR [oA 3 (.box (oO 1)),oA 4 (.mv (oN 0))]) (oK [0] (oS (oQ [oM 10 0,oA 11 (.nilc (oO 10)),oF 12 0 11,oF 13 3 12,oL 14 13,oM 15 0,oA 16 (.nilc (oO 15)),oF 17 0 16,oF 18 4 17,oL 19 18,oM 5 14,oT 6 (.mv (oO 19))]) (oK [0,5,6] (oS (oS (oR [oM 20 0,oA 21 (.nilc (oO 20)),oF 22 0 21,oF 23 1 22,oL 24 23,oA 25 (.bin .neq 3 (oO 24) (oN 2))]) (oK [0,5,6,25] (.cond (oO 25) (oS (oS (oR [oM 26 0,oA 27 (.nilc (oO 26)),oF 28 0 27,oF 29 1 28,oL 30 29,oA 31 (.bin .neq 3 (oO 30) (oN 0)),oM 32 31,oG 33 32 false (.mv (oO 0)),oG 34 32 false (.nilc (oO 33)),oG 35 32 false (.faddr 0 (oO 34)),oG 36 32 false (.faddr 5 (oO 35)),oG 37 32 false (.load false 1 (oO 36)),oG 38 32 false (.bin .eql 3 (oO 37) (oN (-1))),oA 39 (.pick (oO 32) (.const (.bool true)) (oO 38))]) (oK [0,39] (.cond (oO 39) (oS (oR [oA 4 (.mv (oN 22))]) (oK [4] (.ret))) (.skip)))) (oK [0] (oQ [oM 40 0,oA 41 (.nilc (oO 40)),oF 42 0 41,oF 43 5 42,oL 44 43,oM 45 0,oA 46 (.nilc (oO 45)),oF 47 0 46,oF 48 3 47,oL 49 48,oM 5 44,oT 6 (.mv (oO 49))]))) (.skip)))) (oK [0,5,6] (oS (oS (oR [oM 50 0,oA 51 (.nilc (oO 50)),oF 52 0 51,oF 53 9 52,oL 54 53,oM 55 5,oA 56 (.iaddr 1 [.slice none 0 0] (oO 54) (oO 55)),oL 57 56,oA 58 (.len false (oO 57)),oA 59 (.bin .eql 3 (oO 58) (oN 0))]) (oK [0,5,6,59] (.cond (oO 59) (oS (oR [oA 4 (.mv (oN 12))]) (oK [4] (.ret))) (.skip)))) (oK [0,5,6] (oS (oR [oM 60 0,oA 61 (.nilc (oO 60)),oF 62 0 61,oF 63 9 62,oL 64 63,oM 65 5,oA 66 (.iaddr 1 [.slice none 0 0] (oO 64) (oO 65)),oL 67 66,oA 68 (.iaddr 1 [.int .i64 0] (oO 67) (oN 0)),oL 69 68,oM 7 69]) (oK [0,5,6,7] (oS (.draw 14 [0,1,2,3,4,5] [oM 70 0,oA 71 (.nilc (oO 70)),oF 72 0 71,oF 73 9 72,oL 74 73,oA 75 (.mvs (oO 5)),oM 76 0,oA 77 (.nilc (oO 76)),oF 78 0 77,oF 79 9 78,oL 80 79,oM 81 5,oA 82 (.iaddr 1 [.slice none 0 0] (oO 80) (oO 81)),oL 83 82,oT 84 (.ssl 1 (oO 83) (some (oN 1)) none none),oT 85 (.iaddr 1 [.slice none 0 0] (oO 74) (oO 75)),⟨none,none,.store false 1 (oO 85) (oO 84),true⟩]) (oK [0,6,7] (oS (oR [oM 87 0,oA 88 (.nilc (oO 87)),oF 89 0 88,oF 90 9 89,oL 91 90,oM 92 6,oA 93 (.iaddr 1 [.slice none 0 0] (oO 91) (oO 92)),oL 94 93,oM 95 7,oA 96 (.call (.func 282) [(oO 94),(oO 95)]),oM 86 96,oA 97 (.extr (oO 86) 0),oA 98 (.extr (oO 86) 1),oM 8 97,oM 9 98]) (oK [0,6,7,8] (oS (.draw 999 [1,2,3,4,18,19,102,103,104,118,119,203,204,218,219,304,318,319,418,419,518,519,607,608,609,610,612,613,617,618,619,708,709,710,712,713,717,718,719,809,810,812,813,817,818,819,910,912,913,917,918,919,1012,1013,1017,1018,1019,1112,1113,1117,1118,1119,1213,1217,1218,1219,1317,1318,1319,1417,1418,1419,1516,1517,1518,1519,1617,1618,1619,1718,1719,1819] [oM 99 0,oA 100 (.nilc (oO 99)),oF 101 0 100,oF 102 9 101,oL 103 102,oA 104 (.mvs (oO 6)),oM 105 0,oA 106 (.nilc (oO 105)),oF 107 0 106,oF 108 9 107,oL 109 108,oA 110 (.mvs (oO 6)),oA 111 (.iaddr 1 [.slice none 0 0] (oO 109) (oO 110)),oL 112 111,oA 113 (.mvs (oO 8)),oM 114 7,oA 115 (.mkSl true 3 1 [.int .i64 0] 1 [(0,(oO 114))]),oA 116 (.call (.func 283) [(oO 112),(oO 113),(oO 115)]),oT 117 (.iaddr 1 [.slice none 0 0] (oO 103) (oO 104)),⟨none,none,.store false 1 (oO 117) (oO 116),true⟩]) (oK [0] (oS (oR [oM 118 0,oA 119 (.call (.func 262) [(oO 118)])]) (oK [] (oS (oR [oA 4 (.mv (oN 0))]) (oK [4] (.ret))))))))))))))))))))
def rv275 : List RV:=[.tmp 4]
theorem is275 : FnIs Tryz.prog 275 120 c275 rv275:=⟨⟨Tryz.f275,_,Tryz.func275,by kernel_rfl,rfl,rfl,by kernel_rfl,by kernel_rfl⟩,by decide⟩
end Go.Proofs.YtcbabnbiinkafaaGreatDoor.D3
end
section
open Go Go.Am
open Go.Am.Dat (cells)
namespace Go.Proofs.YtcbabnbiinkafaaGreatDoor.D4
set_option maxRecDepth 100000
def c118k1 : AC:=oS (oS (oQ [oF 31 0 3,oL 32 31,oA 33 (.iarr 12 3 (.global 0) (oO 32)),oF 34 2 33,oL 35 34,oM 36 0,oA 37 (.load true 3 (oO 3)),oT 38 (.call (oO 35) [(oO 36),(oO 37)]),oT 6 (.mv (oO 38))]) (oK [0,3,6] (oS (oR [oM 39 6,oA 40 (.bin .neq 27 (oO 39) (oN 0))]) (oK [0,3,6,40] (.cond (oO 40) (oS (oR [oM 41 6,oM 4 41]) (oK [4] (.ret))) (.skip)))))) (oK [0,3] (oS (oR [oM 42 0,oF 43 1 3,oL 44 43,oA 45 (.nilc (oO 42)),oF 46 0 45,oF 47 0 46,⟨none,none,.store false 1 (oO 47) (oO 44),false⟩]) (oK [] (oS (oR [oA 4 (.mv (oN 0))]) (oK [4] (.ret))))))
def c118 : AC:=oS (oR [oA 3 (.box (oO 1)),oA 4 (.mv (oN 0))]) (oK [0,3] (oS (oS (oQ [oM 7 0,oA 8 (.nilc (oO 7)),oF 9 10 8,oA 10 (.load true 3 (oO 9)),oA 11 (.load true 3 (oO 3)),oA 12 (.call (.func 114) [(oO 10),(oO 11)]),oF 13 1 3,oL 14 13,oM 15 0,oA 16 (.nilc (oO 15)),oF 17 0 16,oF 18 0 17,oL 19 18,oA 20 (.bin .geq 3 (oO 14) (oO 19)),oT 21 (.call (.func 95) [(oO 20),(oN 9)]),oT 22 (.mkSl false 27 1 [.int .i64 0] 2 [(0,(oO 12)),(1,(oO 21))]),oT 23 (.call (.func 91) [(oO 22)]),oT 5 (.mv (oO 23))]) (oK [0,3,5] (oS (oR [oM 24 5,oA 25 (.bin .neq 27 (oO 24) (oN 0))]) (oK [0,3,5,25] (.cond (oO 25) (oS (oR [oM 26 5,oM 4 26]) (oK [4] (.ret))) (.skip)))))) (oK [0,3] (oS (oR [oM 27 0,oF 28 1 3,oL 29 28,oA 30 (.call (.func 151) [(oO 27),(oO 29)])]) (oK [0,3] (.cut c118k1))))))
def rv118 : List RV:=[.tmp 4]
theorem is118 : FnIs Tryz.prog 118 48 c118 rv118:=⟨⟨Tryz.f118,_,Tryz.func118,by kernel_rfl,rfl,rfl,by kernel_rfl,by kernel_rfl⟩,by decide⟩
end Go.Proofs.YtcbabnbiinkafaaGreatDoor.D4
end
section
open Go Go.Am
open Go.Am.Dat (cells)
namespace Go.Proofs.YtcbabnbiinkafaaGreatDoor.D5
set_option maxRecDepth 100000
def c39k1 : AC:=.ret
def c39k2 : AC:=.ret
def c39 : AC:=oS (oR [oA 3 (.box (oO 0)),oA 6 (.mv (.const (.slice none 0 0))),oA 7 (.mv (oN 0))]) (oK [1,2,3] (oS (oR [oA 12 (.load true 3 (oO 3)),oM 13 1,oM 14 2,oA 15 (.call (.func 97) [(oO 12),(oO 13),(oO 14)]),oM 11 15,oA 16 (.extr (oO 11) 0),oA 17 (.extr (oO 11) 1),oA 18 (.extr (oO 11) 2),oM 8 16,oM 9 17,oM 10 18]) (oK [8,10] (oS (oS (oR [oM 19 10,oA 20 (.bin .neq 27 (oO 19) (oN 0))]) (oK [8,10,20] (.cond (oO 20) (oS (oR [oM 21 10,oA 6 (.mv (.const (.slice none 0 0))),oM 7 21]) (oK [6,7] (.cut c39k1))) (.skip)))) (oK [8] (oS (oR [oM 22 8,oA 23 (.nilc (oO 22)),oF 24 13 23,oL 25 24,oM 6 25,oA 7 (.mv (oN 0))]) (oK [6,7] (.cut c39k2))))))))
def rv39 : List RV:=[.tmp 6,.tmp 7]
theorem is39 : FnIs Tryz.prog 39 26 c39 rv39:=⟨⟨Tryz.f39,_,Tryz.func39,by kernel_rfl,rfl,rfl,by kernel_rfl,by kernel_rfl⟩,by decide⟩
end Go.Proofs.YtcbabnbiinkafaaGreatDoor.D5
end
section
open Go Go.Am
open Go.Am.Dat (cells)
namespace Go.Proofs.YtcbabnbiinkafaaGreatDoor.D6
set_option maxRecDepth 100000
def c122l1 : AC:=oS (oR [oA 9 (.bin .lss 3 (oO 8) (oO 7))]) (oK [3,6,7,8,9] (oS (.cond (oO 9) (.skip) (.exit 0)) (oK [3,6,7,8] (oS (.block 1 (oS (oR [oA 10 (.iaddr 1 [.int .i64 0] (oO 6) (oO 8)),oL 11 10,oM 5 11]) (oK [3,5,6,7,8] (oR [oM 12 3,oM 13 5,oA 14 (.call (.func 154) [(oO 13)]),⟨some 15,none,.mkSl false 9 1 [.string ⟨#[]⟩] 1 [(0,(oO 14))],false⟩,⟨some 16,none,.app 44 9 1 16 [.string ⟨#[]⟩] (oO 12) (oO 15),false⟩,oM 3 16])))) (oK [3,6,7,8] (oR [oA 17 (.bin .add 3 (oO 8) (oN 1)),oM 8 17]))))))
def c122 : AC:=oS (oR [⟨some 2,none,.mv (.const (.string ⟨#[]⟩)),false⟩]) (oK [0] (oS (oR [oA 3 (.mv (.const (.slice none 0 0)))]) (oK [0,3] (.nilrow 3 1 9 (oS (oS (oR [oM 6 0,oA 7 (.len false (oO 6)),oA 8 (.mv (oN 0))]) (oK [3,6,7,8] (.block 0 (.loop c122l1)))) (oK [3] (.fz [3] (oS (oR [oM 18 3,⟨some 19,none,.call (.func 123) [(oO 18),(.const (.string ⟨#[32]⟩))],false⟩,oM 2 19]) (oK [2] (.ret))))))))))
def rv122 : List RV:=[.tmp 2]
theorem is122 : FnIs Tryz.prog 122 20 c122 rv122:=⟨⟨Tryz.f122,_,Tryz.func122,by kernel_rfl,rfl,rfl,by kernel_rfl,by kernel_rfl⟩,by decide⟩
def c80l1 : AC:=oS (oR [oA 31 (.bin .lss 3 (oO 30) (oO 29))]) (oK [3,28,29,30,31] (oS (.cond (oO 31) (.skip) (.exit 0)) (oK [3,28,29,30] (oS (.block 1 (oS (oR [oA 32 (.iaddr 1 [.slice none 0 0] (oO 28) (oO 30)),oL 33 32,oM 5 33]) (oK [3,5,28,29,30] (oR [oM 34 3,oM 35 5,oA 36 (.call (.func 122) [(oO 35)]),⟨some 37,none,.mkSl false 9 1 [.string ⟨#[]⟩] 1 [(0,(oO 36))],false⟩,⟨some 38,none,.app 44 9 1 16 [.string ⟨#[]⟩] (oO 34) (oO 37),false⟩,oM 3 38])))) (oK [3,28,29,30] (oR [oA 39 (.bin .add 3 (oO 30) (oN 1)),oM 30 39]))))))
def c80 : AC:=oS (oR [oA 1 (.box (oO 0)),⟨some 2,none,.mv (.const (.string ⟨#[]⟩)),false⟩]) (oK [1] (oS (oR [oF 6 0 1,oL 7 6,oF 8 1 1,oL 9 8,oF 10 2 1,oL 11 10,oF 12 3 1,oL 13 12,oF 14 4 1,oL 15 14,oF 16 5 1,oL 17 16,oF 18 6 1,oL 19 18,oF 20 7 1,oL 21 20,oF 22 8 1,oL 23 22,oA 24 (.mkSl false 3 1 [.int .i64 0] 9 [(0,(oO 7)),(1,(oO 9)),(2,(oO 11)),(3,(oO 13)),(4,(oO 15)),(5,(oO 17)),(6,(oO 19)),(7,(oO 21)),(8,(oO 23))]),oA 25 (.call (.func 122) [(oO 24)]),⟨some 26,none,.mkSl true 9 1 [.string ⟨#[]⟩] 1 [(0,(oO 25))],false⟩,oM 3 26]) (oK [1,3] (oS (oS (oR [oF 27 9 1,oL 28 27,oA 29 (.len false (oO 28)),oA 30 (.mv (oN 0))]) (oK [3,28,29,30] (.block 0 (.loop c80l1)))) (oK [3] (.fz [3] (oS (oR [oM 40 3,⟨some 41,none,.call (.func 123) [(oO 40),(.const (.string ⟨#[124]⟩))],false⟩,oM 2 41]) (oK [2] (.ret)))))))))
def rv80 : List RV:=[.tmp 2]
theorem is80 : FnIs Tryz.prog 80 42 c80 rv80:=⟨⟨Tryz.f80,_,Tryz.func80,by kernel_rfl,rfl,rfl,by kernel_rfl,by kernel_rfl⟩,by decide⟩
end Go.Proofs.YtcbabnbiinkafaaGreatDoor.D6
end
section
namespace Go.Proofs
open Go.Shelf
def Tryz.lays189_ren : Go.Shelf.Ren:=⟨fun | 189=>199 | 125=>217 | 257=>216 | 128=>235 | 129=>219 | 294=>226 | 295=>227 | 296=>228 | 297=>229 | 298=>230 | 299=>231 | 216=>232 | 300=>233 | 301=>234 | 328=>240 | 329=>241 | 330=>242 | 331=>243 | 332=>244 | 215=>245 | 343=>246 | n=>n,fun | 28=>24 | 3=>3 | 46=>230 | 0=>0 | 51=>243 | 53=>238 | 4=>4 | 183=>270 | 182=>269 | 131=>185 | 5=>5 | 9=>9 | 218=>281 | 222=>181 | 228=>288 | 229=>75 | n=>n,fun | n=>n⟩
theorem Tryz.lays189 : Go.Proofs.Lays.n189 Tryz.prog Tryz.lays189_ren:={
 mixed:=by kernel_rfl
 f125:=Tryz.func217.trans (congrArg some (by kernel_rfl))
 f128:=Tryz.func235.trans (congrArg some (by kernel_rfl))
 f129:=Tryz.func219.trans (congrArg some (by kernel_rfl))
 f189:=Tryz.func199.trans (congrArg some (by kernel_rfl))
 f215:=Tryz.func245.trans (congrArg some (by kernel_rfl))
 f216:=Tryz.func232.trans (congrArg some (by kernel_rfl))
 f257:=Tryz.func216.trans (congrArg some (by kernel_rfl))
 f294:=Tryz.func226.trans (congrArg some (by kernel_rfl))
 f295:=Tryz.func227.trans (congrArg some (by kernel_rfl))
 f296:=Tryz.func228.trans (congrArg some (by kernel_rfl))
 f297:=Tryz.func229.trans (congrArg some (by kernel_rfl))
 f298:=Tryz.func230.trans (congrArg some (by kernel_rfl))
 f299:=Tryz.func231.trans (congrArg some (by kernel_rfl))
 f300:=Tryz.func233.trans (congrArg some (by kernel_rfl))
 f301:=Tryz.func234.trans (congrArg some (by kernel_rfl))
 f328:=Tryz.func240.trans (congrArg some (by kernel_rfl))
 f329:=Tryz.func241.trans (congrArg some (by kernel_rfl))
 f330:=Tryz.func242.trans (congrArg some (by kernel_rfl))
 f331:=Tryz.func243.trans (congrArg some (by kernel_rfl))
 f332:=Tryz.func244.trans (congrArg some (by kernel_rfl))
 f343:=Tryz.func246.trans (congrArg some (by kernel_rfl))
 t0:=Tryz.underlying0
 a0:=Tryz.isAgg0
 z0:=Tryz.sizeOf0
 v0:=Tryz.zeroValue0
 t3:=Tryz.underlying3
 a3:=Tryz.isAgg3
 z3:=Tryz.sizeOf3
 v3:=Tryz.zeroValue3
 t4:=Tryz.underlying4
 a4:=Tryz.isAgg4
 z4:=Tryz.sizeOf4
 v4:=Tryz.zeroValue4
 t5:=Tryz.underlying5
 a5:=Tryz.isAgg5
 z5:=Tryz.sizeOf5
 v5:=Tryz.zeroValue5
 t9:=Tryz.underlying9
 a9:=Tryz.isAgg9
 z9:=Tryz.sizeOf9
 v9:=Tryz.zeroValue9
 t28:=Tryz.underlying24
 a28:=Tryz.isAgg24
 z28:=Tryz.sizeOf24
 v28:=Tryz.zeroValue24
 t46:=Tryz.underlying230
 a46:=Tryz.isAgg230
 z46:=Tryz.sizeOf230
 v46:=Tryz.zeroValue230
 t51:=Tryz.underlying243
 a51:=Tryz.isAgg243
 z51:=Tryz.sizeOf243
 v51:=Tryz.zeroValue243
 t53:=Tryz.underlying238
 a53:=Tryz.isAgg238
 z53:=Tryz.sizeOf238
 v53:=Tryz.zeroValue238
 t131:=Tryz.underlying185
 a131:=Tryz.isAgg185
 z131:=Tryz.sizeOf185
 v131:=Tryz.zeroValue185
 t182:=Tryz.underlying269
 a182:=Tryz.isAgg269
 z182:=Tryz.sizeOf269
 v182:=Tryz.zeroValue269
 t183:=Tryz.underlying270
 a183:=Tryz.isAgg270
 z183:=Tryz.sizeOf270
 v183:=Tryz.zeroValue270
 t218:=Tryz.underlying281
 a218:=Tryz.isAgg281
 z218:=Tryz.sizeOf281
 v218:=Tryz.zeroValue281
 t222:=Tryz.underlying181
 a222:=Tryz.isAgg181
 z222:=Tryz.sizeOf181
 v222:=Tryz.zeroValue181
 t228:=Tryz.underlying288
 a228:=Tryz.isAgg288
 z228:=Tryz.sizeOf288
 v228:=Tryz.zeroValue288
 t229:=Tryz.underlying75
 a229:=Tryz.isAgg75
 z229:=Tryz.sizeOf75
 v229:=Tryz.zeroValue75 }
def Tryz.laysNm225_ren : Go.Shelf.Ren:=⟨fun | 25=>282 | 31=>232 | 32=>285 | 37=>245 | n=>n,fun | 22=>24 | 3=>3 | 4=>4 | 40=>230 | 0=>0 | n=>n,fun | n=>n⟩
theorem Tryz.laysNm225 : Go.Proofs.Lays2.n25 Tryz.prog Tryz.laysNm225_ren:={
 mixed:=by kernel_rfl
 f25:=Tryz.func282.trans (congrArg some (by kernel_rfl))
 f31:=Tryz.func232.trans (congrArg some (by kernel_rfl))
 f32:=Tryz.func285.trans (congrArg some (by kernel_rfl))
 f37:=Tryz.func245.trans (congrArg some (by kernel_rfl))
 t0:=Tryz.underlying0
 a0:=Tryz.isAgg0
 z0:=Tryz.sizeOf0
 v0:=Tryz.zeroValue0
 t3:=Tryz.underlying3
 a3:=Tryz.isAgg3
 z3:=Tryz.sizeOf3
 v3:=Tryz.zeroValue3
 t4:=Tryz.underlying4
 a4:=Tryz.isAgg4
 z4:=Tryz.sizeOf4
 v4:=Tryz.zeroValue4
 t22:=Tryz.underlying24
 a22:=Tryz.isAgg24
 z22:=Tryz.sizeOf24
 v22:=Tryz.zeroValue24
 t40:=Tryz.underlying230
 a40:=Tryz.isAgg230
 z40:=Tryz.sizeOf230
 v40:=Tryz.zeroValue230 }
def Tryz.laysNm221_ren : Go.Shelf.Ren:=⟨fun | 21=>283 | 27=>286 | 28=>287 | 35=>289 | 39=>290 | n=>n,fun | 22=>24 | 3=>3 | 4=>4 | 0=>0 | n=>n,fun | n=>n⟩
theorem Tryz.laysNm221 : Go.Proofs.Lays2.n21 Tryz.prog Tryz.laysNm221_ren:={
 mixed:=by kernel_rfl
 f21:=Tryz.func283.trans (congrArg some (by kernel_rfl))
 f27:=Tryz.func286.trans (congrArg some (by kernel_rfl))
 f28:=Tryz.func287.trans (congrArg some (by kernel_rfl))
 f35:=Tryz.func289.trans (congrArg some (by kernel_rfl))
 f39:=Tryz.func290.trans (congrArg some (by kernel_rfl))
 t0:=Tryz.underlying0
 a0:=Tryz.isAgg0
 z0:=Tryz.sizeOf0
 v0:=Tryz.zeroValue0
 t3:=Tryz.underlying3
 a3:=Tryz.isAgg3
 z3:=Tryz.sizeOf3
 v3:=Tryz.zeroValue3
 t4:=Tryz.underlying4
 a4:=Tryz.isAgg4
 z4:=Tryz.sizeOf4
 v4:=Tryz.zeroValue4
 t22:=Tryz.underlying24
 a22:=Tryz.isAgg24
 z22:=Tryz.sizeOf24
 v22:=Tryz.zeroValue24
 i3:=by kernel_rfl }
def Tryz.laysSlH10_f182_ren : Go.Shelf.Ren:=⟨fun | 10=>182 | 6=>202 | n=>n,fun | 22=>24 | 23=>3 | 25=>153 | 3=>3 | 4=>4 | 0=>0 | n=>n,fun | n=>n⟩
theorem Tryz.laysSlH10_f182 : Go.Proofs.SlLaysH.n10 Tryz.prog Tryz.laysSlH10_f182_ren:={
 mixed:=by kernel_rfl
 f6:=⟨Tryz.f202.name,by decide,Tryz.func202.trans (congrArg some (by kernel_rfl))⟩
 f10:=⟨Tryz.f182.name,by decide,Tryz.func182.trans (congrArg some (by kernel_rfl))⟩
 t0:=Tryz.underlying0
 a0:=Tryz.isAgg0
 z0:=Tryz.sizeOf0
 v0:=Tryz.zeroValue0
 t3:=Tryz.underlying3
 a3:=Tryz.isAgg3
 z3:=Tryz.sizeOf3
 v3:=Tryz.zeroValue3
 t4:=Tryz.underlying4
 a4:=Tryz.isAgg4
 z4:=Tryz.sizeOf4
 v4:=Tryz.zeroValue4
 t22:=Tryz.underlying24
 a22:=Tryz.isAgg24
 z22:=Tryz.sizeOf24
 v22:=Tryz.zeroValue24
 a23:=Tryz.isAgg3
 z23:=Tryz.sizeOf3
 t25:=Tryz.underlying153
 a25:=Tryz.isAgg153
 z25:=Tryz.sizeOf153
 v25:=Tryz.zeroValue153 }
def Tryz.lays156_ren : Go.Shelf.Ren:=⟨fun | 156=>123 | 165=>155 | 166=>156 | 169=>157 | 240=>170 | 241=>171 | 276=>186 | 277=>187 | n=>n,fun | 31=>44 | 9=>9 | 3=>3 | 4=>4 | 0=>0 | 20=>20 | 72=>201 | 76=>204 | 70=>199 | 37=>192 | 75=>203 | 127=>217 | 164=>226 | 5=>5 | 80=>206 | n=>n,fun | n=>n⟩
theorem Tryz.lays156 : Go.Proofs.Lays.n156 Tryz.prog Tryz.lays156_ren:={
 mixed:=by kernel_rfl
 f156:=Tryz.func123.trans (congrArg some (by kernel_rfl))
 f165:=Tryz.func155.trans (congrArg some (by kernel_rfl))
 f166:=Tryz.func156.trans (congrArg some (by kernel_rfl))
 f169:=Tryz.func157.trans (congrArg some (by kernel_rfl))
 f240:=Tryz.func170.trans (congrArg some (by kernel_rfl))
 f241:=Tryz.func171.trans (congrArg some (by kernel_rfl))
 f276:=Tryz.func186.trans (congrArg some (by kernel_rfl))
 f277:=Tryz.func187.trans (congrArg some (by kernel_rfl))
 t0:=Tryz.underlying0
 a0:=Tryz.isAgg0
 z0:=Tryz.sizeOf0
 v0:=Tryz.zeroValue0
 t3:=Tryz.underlying3
 a3:=Tryz.isAgg3
 z3:=Tryz.sizeOf3
 v3:=Tryz.zeroValue3
 t4:=Tryz.underlying4
 a4:=Tryz.isAgg4
 z4:=Tryz.sizeOf4
 v4:=Tryz.zeroValue4
 t9:=Tryz.underlying9
 a9:=Tryz.isAgg9
 z9:=Tryz.sizeOf9
 v9:=Tryz.zeroValue9
 t20:=Tryz.underlying20
 a20:=Tryz.isAgg20
 z20:=Tryz.sizeOf20
 v20:=Tryz.zeroValue20
 t31:=Tryz.underlying44
 a31:=Tryz.isAgg44
 z31:=Tryz.sizeOf44
 v31:=Tryz.zeroValue44
 t37:=Tryz.underlying192
 a37:=Tryz.isAgg192
 z37:=Tryz.sizeOf192
 v37:=Tryz.zeroValue192
 t70:=Tryz.underlying199
 a70:=Tryz.isAgg199
 z70:=Tryz.sizeOf199
 v70:=Tryz.zeroValue199
 t72:=Tryz.underlying201
 a72:=Tryz.isAgg201
 z72:=Tryz.sizeOf201
 v72:=Tryz.zeroValue201
 t75:=Tryz.underlying203
 a75:=Tryz.isAgg203
 z75:=Tryz.sizeOf203
 v75:=Tryz.zeroValue203
 t76:=Tryz.underlying204
 a76:=Tryz.isAgg204
 z76:=Tryz.sizeOf204
 v76:=Tryz.zeroValue204
 t127:=Tryz.underlying217
 a127:=Tryz.isAgg217
 z127:=Tryz.sizeOf217
 v127:=Tryz.zeroValue217
 t164:=Tryz.underlying226
 a164:=Tryz.isAgg226
 z164:=Tryz.sizeOf226
 v164:=Tryz.zeroValue226 }
def Tryz.laysM171_ren : Go.Shelf.Ren:=⟨fun | 171=>154 | 243=>169 | 246=>185 | 283=>203 | 284=>204 | 285=>205 | 286=>206 | 129=>219 | 317=>218 | 318=>220 | 319=>221 | 320=>222 | 337=>236 | 338=>237 | n=>n,fun | 3=>3 | 9=>9 | 2=>2 | 4=>4 | 171=>237 | 0=>0 | 53=>238 | 37=>192 | 5=>5 | 173=>241 | 212=>256 | 51=>243 | 20=>20 | 213=>257 | 46=>230 | 232=>286 | 233=>287 | n=>n,fun | 17=>2 | 18=>7 | 19=>8 | n=>n⟩
theorem Tryz.laysM171 : Go.Proofs.LaysM.n171 Tryz.prog Tryz.laysM171_ren:={
 mixed:=by kernel_rfl
 f129:=Tryz.func219.trans (congrArg some (by kernel_rfl))
 f171:=Tryz.func154.trans (congrArg some (by kernel_rfl))
 f243:=Tryz.func169.trans (congrArg some (by kernel_rfl))
 f246:=Tryz.func185.trans (congrArg some (by kernel_rfl))
 f283:=Tryz.func203.trans (congrArg some (by kernel_rfl))
 f284:=Tryz.func204.trans (congrArg some (by kernel_rfl))
 f285:=Tryz.func205.trans (congrArg some (by kernel_rfl))
 f286:=Tryz.func206.trans (congrArg some (by kernel_rfl))
 f317:=Tryz.func218.trans (congrArg some (by kernel_rfl))
 f318:=Tryz.func220.trans (congrArg some (by kernel_rfl))
 f319:=Tryz.func221.trans (congrArg some (by kernel_rfl))
 f320:=Tryz.func222.trans (congrArg some (by kernel_rfl))
 f337:=Tryz.func236.trans (congrArg some (by kernel_rfl))
 f338:=Tryz.func237.trans (congrArg some (by kernel_rfl))
 t0:=Tryz.underlying0
 a0:=Tryz.isAgg0
 z0:=Tryz.sizeOf0
 v0:=Tryz.zeroValue0
 t2:=Tryz.underlying2
 a2:=Tryz.isAgg2
 z2:=Tryz.sizeOf2
 v2:=Tryz.zeroValue2
 t3:=Tryz.underlying3
 a3:=Tryz.isAgg3
 z3:=Tryz.sizeOf3
 v3:=Tryz.zeroValue3
 t4:=Tryz.underlying4
 a4:=Tryz.isAgg4
 z4:=Tryz.sizeOf4
 v4:=Tryz.zeroValue4
 t5:=Tryz.underlying5
 a5:=Tryz.isAgg5
 z5:=Tryz.sizeOf5
 v5:=Tryz.zeroValue5
 t9:=Tryz.underlying9
 a9:=Tryz.isAgg9
 z9:=Tryz.sizeOf9
 v9:=Tryz.zeroValue9
 t20:=Tryz.underlying20
 a20:=Tryz.isAgg20
 z20:=Tryz.sizeOf20
 v20:=Tryz.zeroValue20
 t37:=Tryz.underlying192
 a37:=Tryz.isAgg192
 z37:=Tryz.sizeOf192
 v37:=Tryz.zeroValue192
 t46:=Tryz.underlying230
 a46:=Tryz.isAgg230
 z46:=Tryz.sizeOf230
 v46:=Tryz.zeroValue230
 t51:=Tryz.underlying243
 a51:=Tryz.isAgg243
 z51:=Tryz.sizeOf243
 v51:=Tryz.zeroValue243
 t53:=Tryz.underlying238
 a53:=Tryz.isAgg238
 z53:=Tryz.sizeOf238
 v53:=Tryz.zeroValue238
 t171:=Tryz.underlying237
 a171:=Tryz.isAgg237
 z171:=Tryz.sizeOf237
 v171:=Tryz.zeroValue237
 t173:=Tryz.underlying241
 a173:=Tryz.isAgg241
 z173:=Tryz.sizeOf241
 v173:=Tryz.zeroValue241
 t212:=Tryz.underlying256
 a212:=Tryz.isAgg256
 z212:=Tryz.sizeOf256
 v212:=Tryz.zeroValue256
 t213:=Tryz.underlying257
 a213:=Tryz.isAgg257
 z213:=Tryz.sizeOf257
 t232:=Tryz.underlying286
 a232:=Tryz.isAgg286
 z232:=Tryz.sizeOf286
 v232:=Tryz.zeroValue286
 t233:=Tryz.underlying287
 a233:=Tryz.isAgg287
 z233:=Tryz.sizeOf287
 v233:=Tryz.zeroValue287
 g17:=by kernel_rfl
 g18:=by kernel_rfl
 g19:=by kernel_rfl
 i0:=by kernel_rfl
 i2:=by kernel_rfl
 i3:=by kernel_rfl
 i4:=by kernel_rfl
 i5:=by kernel_rfl
 i9:=by kernel_rfl
 i20:=by kernel_rfl
 i37:=by kernel_rfl
 i46:=by kernel_rfl
 i51:=by kernel_rfl
 i53:=by kernel_rfl
 i171:=by kernel_rfl
 i173:=by kernel_rfl
 i212:=by kernel_rfl
 i232:=by kernel_rfl
 i233:=by kernel_rfl
 m17:=by kernel_rfl
 m18:=by kernel_rfl
 m19:=by kernel_rfl }
theorem Tryz.Builder_Extra_156 : Builder.Extra Tryz.prog Tryz.lays156_ren:={
 sizeBuilder:=by kernel_rfl
 liesBuilder:=by kernel_rfl
 t5:=Tryz.underlying5
 a5:=Tryz.isAgg5
 z5:=Tryz.sizeOf5
 v5:=Tryz.zeroValue5
 infoByte:=by kernel_rfl
 cellsByte:=by kernel_rfl
 sizeByte:=by kernel_rfl
 neB5:=by decide }
end Go.Proofs
end
section
open Go Go.Am
open Go.Am.Dat (cells)
namespace Go.Proofs.YtcbabnbiinkafaaGreatDoor
set_option maxHeartbeats 4000000
set_option maxRecDepth 100000
theorem wK (n lo hi:Int):FC Tryz.prog 96 [enc n,enc lo,enc hi] [] (enc (decide (lo≤n∧n≤hi))) []:=by
 refine eg is96 (by simp) (fun cx hl=>dB [] 800 ?_)
 delta c96 oO oN oA oM oT oG oR oQ oS oK oF oL
 simp (maxSteps:=4000000) -implicitDefEqProofs only [rv96,Ent.of0,Ent.of1,Ent.of2,Ent.of3,Ent.of4,V,W3,↓reduceIte,seval,reduceCtorEq]
 by_cases h:lo≤n <;> simp [h]
def eY : Ent Tryz.prog:=.of3 96 (fun _ _ _=>True) (fun n lo hi:Int=>enc (decide (lo≤n∧n≤hi))) (fun _ _ _=>trivial) (fun n lo hi _=>wK n lo hi)
theorem vy (n lo hi:Int):FC Tryz.prog 31 [enc n,enc lo,enc hi] [] (enc (decide (lo≤n∧n≤hi))) []:=by
 refine eg is31 (by simp) (fun cx hl=>dB [] 800 ?_)
 delta c31 oO oN oA oM oT oG oR oQ oS oK oF oL
 simp (maxSteps:=4000000) -implicitDefEqProofs only [rv31,Ent.of0,Ent.of1,Ent.of2,Ent.of3,Ent.of4,V,W3,↓reduceIte,seval,reduceCtorEq]
 by_cases h:lo≤n <;> simp [h]
def n9 : Ent Tryz.prog:=.of3 31 (fun _ _ _=>True) (fun n lo hi:Int=>enc (decide (lo≤n∧n≤hi))) (fun _ _ _=>trivial) (fun n lo hi _=>vy n lo hi)
theorem wI (b:Bool) (e:Int):FC Tryz.prog 95 [enc b,enc e] [] (enc (if b then 0 else e)) []:=by
 refine eg is95 (by simp) (fun cx hl=>dB [] 800 ?_)
 delta c95 oO oN oA oM oT oG oR oQ oS oK oF oL
 simp (maxSteps:=4000000) -implicitDefEqProofs only [rv95,Ent.of0,Ent.of1,Ent.of2,Ent.of3,Ent.of4,V,W3,↓reduceIte,seval,reduceCtorEq]
 cases b <;> simp
def dS : Ent Tryz.prog:=.of2 95 (fun _ _=>True) (fun (b:Bool) (e:Int)=>enc (if b then 0 else e)) (fun _ _=>trivial) (fun b e _=>wI b e)
def dL : List Int→Int
 | []=>0
 | e :: l=>if e≠0 then e else dL l
theorem first_c (l:List Int):FC Tryz.prog 91 [enc l] [] (enc (dL l)) []:=by
 refine eg is91 (by simp) (fun cx hl=>dB [] 800 ?_)
 simp only [V,W3,↓reduceIte,seval,reduceCtorEq] at hl
 have hlen:=hl.list
 delta c91 oO oN oA oM oT oG oR oQ oS oK oF oL
 simp (maxSteps:=4000000) -implicitDefEqProofs only [rv91,Ent.of0,Ent.of1,Ent.of2,Ent.of3,Ent.of4,V,W3,↓reduceIte,seval,reduceCtorEq]
 refine S_for l.length (fun i=>⟨[(5,enc l),(6,.s (.int .i64 l.length)),(7,.s (.int .i64 i))],[]⟩) (fun i=>dL l=dL (l.drop i)) rfl ?_ (fun i hi hv=>dB [] 800 ?_)
 · simp only [V,W3,↓reduceIte,seval,reduceCtorEq] <;> simp
 · delta c91l1 oO oN oA oM oT oG oR oQ oS oK oF oL
   simp (maxSteps:=4000000) -implicitDefEqProofs only [Ent.of0,Ent.of1,Ent.of2,Ent.of3,Ent.of4,V,W3,↓reduceIte,seval,reduceCtorEq]
   by_cases h:i < l.length
   · rw [ee 0 h,dL] at hv
     rw [if_pos (by omega)]
     refine ⟨by omega,?_⟩
     split
     · rename_i hc; rw [hv,if_pos hc]
     · rename_i hc; exact ⟨by simp only [InR]; omega,h,by rw [hv,if_neg hc],by omega⟩
   · rw [if_neg (by omega),hv,List.drop_eq_nil_of_le (by omega)]; rfl
def dR : Ent Tryz.prog:=.of1 91 (fun _=>True) (fun l:List Int=>enc (dL l)) (fun _=>trivial) (fun l _=>first_c l)
theorem Ints_c (a b:List Int):FC Tryz.prog 30 [enc a,enc b] [] (enc (decide (a=b))) []:=by
 refine eg is30 (by simp) (fun cx hl=>dB [] 800 ?_)
 simp only [V,W3,↓reduceIte,seval,reduceCtorEq] at hl
 have hlen:=hl.1.list
 delta c30 oO oN oA oM oT oG oR oQ oS oK oF oL
 simp (maxSteps:=4000000) -implicitDefEqProofs only [rv30,Ent.of0,Ent.of1,Ent.of2,Ent.of3,Ent.of4,V,W3,↓reduceIte,seval,reduceCtorEq]
 by_cases hab:a.length=b.length
 · rw [if_neg (by simp [hab])]
   refine S_for a.length (fun i=>⟨[(0,enc a),(1,enc b),(5,.s (.int .i64 i))],[]⟩) (fun i=>decide (a=b)=decide (a.drop i=b.drop i)) (by simp) ?_ (fun i hi hv=>dB [] 800 ?_)
   · simp only [V,W3,↓reduceIte,seval,reduceCtorEq] <;> simp
   · delta c30l1 oO oN oA oM oT oG oR oQ oS oK oF oL
     simp (maxSteps:=4000000) -implicitDefEqProofs only [Ent.of0,Ent.of1,Ent.of2,Ent.of3,Ent.of4,V,W3,↓reduceIte,seval,reduceCtorEq]
     by_cases h:i < a.length
     · rw [ee 0 h,ee 0 (by omega:i < b.length)] at hv
       rw [if_pos (by omega)]
       refine ⟨⟨by omega,by omega⟩,⟨by omega,by omega⟩,?_⟩
       simp only [InR]
       grind
     · rw [if_neg (by omega),hv,List.drop_eq_nil_of_le (by omega),List.drop_eq_nil_of_le (by omega)]; simp
 · rw [if_pos (by omega)]
   grind
def mu : Ent Tryz.prog:=.of2 30 (fun _ _=>True) (fun a b:List Int=>enc (decide (a=b))) (fun _ _=>trivial) (fun a b _=>Ints_c a b)
structure Rul where
 off:Int
 hyst:Int
 trig:Int
instance : DatL Rul where
 sz:=3
 agg:=true
 cells r:=[.s (.int .i64 r.off),.s (.int .i64 r.hyst),.s (.int .i64 r.trig)]
 dec | [.s (.int .i64 a),.s (.int .i64 b),.s (.int .i64 c)]=>some ⟨a,b,c⟩ | _=>none
 ok:=by intro l a h; split at h <;> cases h; rfl
 data:=fun a=>rfl
 one:=fun h=>by cases h
 dec_cells:=fun a=>rfl
theorem iw (r:Rul):enc r=.agg [.s (.int .i64 r.off),.s (.int .i64 r.hyst),.s (.int .i64 r.trig)]:=rfl
theorem j8 (r:Rul):cells r=[.s (.int .i64 r.off),.s (.int .i64 r.hyst),.s (.int .i64 r.trig)]:=rfl
theorem jT (a b c:Int):fw (.agg [C.s (.int .i64 a),.s (.int .i64 b),.s (.int .i64 c)])=some (⟨a,b,c⟩:Rul):=rfl
def j3 (r:Rul):Bool:=decide (-300≤r.off∧r.off≤300) && decide (0≤r.hyst∧r.hyst≤300) && decide (0≤r.trig∧r.trig≤40)
def kj (r:Rul):Int:=if j3 r then 0 else 2
theorem rP (r:Rul):FC Tryz.prog 26 [enc r] [] (enc (kj r)) []:=by
 obtain ⟨a,b,c⟩:=r
 refine eg is26 (by simp) (fun cx hl=>dB [eY,dS] 800 ?_)
 delta c26 oO oN oA oM oT oG oR oQ oS oK oF oL
 simp (maxSteps:=4000000) -implicitDefEqProofs only [rv26,eY,dS,iw,Ent.of0,Ent.of1,Ent.of2,Ent.of3,Ent.of4,V,W3,↓reduceIte,seval,reduceCtorEq]
 unfold kj j3
 by_cases h1:-300≤a∧a≤300 <;> by_cases h2:0≤b∧b≤300 <;> by_cases h3:0≤c∧c≤40 <;> simp [h1,h2,h3]
def ent26 : Ent Tryz.prog:=.of1 26 (fun _=>True) (fun r:Rul=>enc (kj r)) (fun _=>trivial) (fun r _=>rP r)
def eL (n:Int):Bool:=decide (0≤n∧n≤1000000000)
theorem v7 (n:Int):FC Tryz.prog 102 [enc n] [] (enc (eL n)) []:=by
 refine eg is102 (by simp) (fun cx hl=>dB [eY] 800 ?_)
 delta c102 oO oN oA oM oT oG oR oQ oS oK oF oL
 simp (maxSteps:=4000000) -implicitDefEqProofs only [rv102,eY,Ent.of0,Ent.of1,Ent.of2,Ent.of3,Ent.of4,V,W3,↓reduceIte,seval,reduceCtorEq]
 simp [eL]
def iP : Ent Tryz.prog:=.of1 102 (fun _=>True) (fun n:Int=>enc (eL n)) (fun _=>trivial) (fun n _=>v7 n)
def kf (n:Int):Bool:=decide (-2000≤n∧n≤1000)
theorem uw (n:Int):FC Tryz.prog 136 [enc n] [] (enc (kf n)) []:=by
 refine eg is136 (by simp) (fun cx hl=>dB [eY] 800 ?_)
 delta c136 oO oN oA oM oT oG oR oQ oS oK oF oL
 simp (maxSteps:=4000000) -implicitDefEqProofs only [rv136,eY,Ent.of0,Ent.of1,Ent.of2,Ent.of3,Ent.of4,V,W3,↓reduceIte,seval,reduceCtorEq]
 simp [kf]
def uf : Ent Tryz.prog:=.of1 136 (fun _=>True) (fun n:Int=>enc (kf n)) (fun _=>trivial) (fun n _=>uw n)
def gO : List Int→List Int→Bool
 | a :: l,b :: m=>kf a && kf b && gO l m
 | _,_=>true
def l9 (s n:List Int):Int:=if n.length≠s.length then 10 else if s.length > 60 then 8 else if gO s n then 0 else 2
theorem sb (s n:List Int):FC Tryz.prog 92 [enc s,enc n] [] (enc (l9 s n)) []:=by
 refine eg is92 (by simp) (fun cx hl=>dB [dS,dR] 800 ?_)
 simp only [V,W3,↓reduceIte,seval,reduceCtorEq] at hl
 have hl1:=hl.1.list
 have hl2:=hl.2.list
 unfold l9
 by_cases h1:n.length=s.length
 · have h1':(n.length:Int)=s.length:=by omega
   by_cases h2:s.length≤60
   · have h2':(s.length:Int)≤60:=by omega
     have h3:¬ s.length > 60:=by omega
     rw [if_neg (by simp [h1]),if_neg h3]
     generalize hB:gO s n=B
     delta c92 oO oN oA oM oT oG oR oQ oS oK oF oL
     simp (maxSteps:=4000000) -implicitDefEqProofs only [rv92,dS,dR,dL,h1',h2',WU,Ent.of0,Ent.of1,Ent.of2,Ent.of3,Ent.of4,V,W3,↓reduceIte,seval,reduceCtorEq]
     refine eM s.length (fun i=>[(25,.s (.int .i64 (i:Int)))]) (fun _=>[]) (fun i=>B=gO (s.drop i) (n.drop i)) (by simp [hB]) ?_ (fun i hi hv=>dB [uf] 800 ?_)
     · simp (maxSteps:=4000000) -implicitDefEqProofs only [Ent.of0,Ent.of1,Ent.of2,Ent.of3,Ent.of4,V,W3,↓reduceIte,seval,reduceCtorEq]
       all_goals simp
     · by_cases h:i < s.length
       · have hi2:(i:Int) < (s.length:Int):=by omega
         have hi3:(i:Int) < (n.length:Int):=by omega
         rw [ee 0 h,ee 0 (by omega:i < n.length),gO] at hv
         cases hx:kf (s.getD i 0) <;> cases hy:kf (n.getD i 0)
         all_goals
          rw [hx,hy] at hv
          simp at hv
          delta c92l1 oO oN oA oM oT oG oR oQ oS oK oF oL
          simp (maxSteps:=4000000) -implicitDefEqProofs only [rv92,uf,hi2,hi3,h,hx,hy,InR,WU,Ent.of0,Ent.of1,Ent.of2,Ent.of3,Ent.of4,V,W3,↓reduceIte,seval,reduceCtorEq]
          grind
       · have hi2:¬ (i:Int) < (s.length:Int):=by omega
         rw [List.drop_eq_nil_of_le (by omega)] at hv
         simp [gO] at hv
         delta c92l1 oO oN oA oM oT oG oR oQ oS oK oF oL
         simp (maxSteps:=4000000) -implicitDefEqProofs only [rv92,hi2,WU,Ent.of0,Ent.of1,Ent.of2,Ent.of3,Ent.of4,V,W3,↓reduceIte,seval,reduceCtorEq]
         simp [hv]
   · have h2':¬ (s.length:Int)≤60:=by omega
     have h3:s.length > 60:=by omega
     rw [if_neg (by simp [h1]),if_pos h3]
     delta c92 oO oN oA oM oT oG oR oQ oS oK oF oL
     simp (maxSteps:=4000000) -implicitDefEqProofs only [rv92,dS,dR,dL,h1',h2',WU,Ent.of0,Ent.of1,Ent.of2,Ent.of3,Ent.of4,V,W3,↓reduceIte,seval,reduceCtorEq]
     simp
 · have h1':¬ (n.length:Int)=s.length:=by omega
   rw [if_pos h1]
   by_cases h2':(s.length:Int)≤60
   · delta c92 oO oN oA oM oT oG oR oQ oS oK oF oL
     simp (maxSteps:=4000000) -implicitDefEqProofs only [rv92,dS,dR,dL,h1',h2',WU,Ent.of0,Ent.of1,Ent.of2,Ent.of3,Ent.of4,V,W3,↓reduceIte,seval,reduceCtorEq]
     try simp
   · delta c92 oO oN oA oM oT oG oR oQ oS oK oF oL
     simp (maxSteps:=4000000) -implicitDefEqProofs only [rv92,dS,dR,dL,h1',h2',WU,Ent.of0,Ent.of1,Ent.of2,Ent.of3,Ent.of4,V,W3,↓reduceIte,seval,reduceCtorEq]
     try simp
def ent92 : Ent Tryz.prog:=.of2 92 (fun _ _=>True) (fun s n:List Int=>enc (l9 s n)) (fun _ _=>trivial) (fun s n _=>sb s n)
def nF (r:Rul) (s n:Int):Bool:=decide (s+r.off+r.hyst < n)
def over (r:Rul) (s n:Int):Bool:=decide (n < s+r.off - r.hyst)
def trg (r:Rul):List Int→List Int→Nat→Int→Bool→List Int
 | s :: l,n :: m,t,run,armed=>
  let run':=if nF r s n then run+1 else 0
  let armed':=armed || over r s n
  if armed' && decide (r.trig < run') then (t:Int) :: trg r l m (t+1) run' false else trg r l m (t+1) run' armed'
 | _,_,_,_,_=>[]
def jk (V:List Int) (i:Nat):List C:=[.s (.int .i64 (V.getD i 0))]
theorem sN (r:Rul) (m:List Int) (t:Nat) (run:Int) (a:Bool):trg r [] m t run a=[]:=by cases m <;> rfl
theorem pC {α:Type} {V l:List α} {c:Nat} {a d:α} (h:V.drop c=a :: l):c < V.length∧V.getD c d=a∧V.drop (c+1)=l:=by
 have h1:c < V.length:=by
  rcases Nat.lt_or_ge c V.length with g | g
  · exact g
  · rw [List.drop_eq_nil_of_le g] at h; cases h
 rw [ee d h1] at h
 exact ⟨h1,(List.cons.inj h).1,(List.cons.inj h).2⟩
theorem sB {s n:List Int} (h:gO s n=true) (hl:n.length=s.length):∀ i,i < s.length→(-2000≤s.getD i 0∧s.getD i 0≤1000)∧(-2000≤n.getD i 0∧n.getD i 0≤1000):=by
 induction s generalizing n with
 | nil=>intro i hi; simp at hi
 | cons a s ih=>
  cases n with
  | nil=>simp at hl
  | cons b n=>
   simp only [gO,Bool.and_eq_true] at h
   intro i hi
   cases i with
   | zero=>simpa [kf] using h.1
   | succ i=>simpa using ih h.2 (by simpa using hl) i (by simpa using hi)
theorem iter_c (r:Rul) (s n:List Int) (hr:j3 r=true) (hl:gO s n=true) (hln:n.length=s.length) (h60:s.length≤60) :
 ItC Tryz.prog 138 [] [.ref [enc s],.ref [enc n],.ref (cells r)] [] 100000 (jk (trg r s n 0 0 true)) (trg r s n 0 0 true).length true:=by
 intro l R Rf hy
 obtain ⟨off,hyst,trig⟩:=r
 simp only [j3,Bool.and_eq_true,decide_eq_true_eq] at hr
 refine lW [] is138 (by simp) (by simp) (fun o ho k cs hm=>by simp at ho; rcases ho with rfl | rfl <;> simp at hm) (fun cx _ _ _=>dB [] 800 ?_)
 delta c138 oO oN oA oM oT oG oR oQ oS oK oF oL
 simp (maxSteps:=4000000) -implicitDefEqProofs only [mF,List.nil_append,List.append_nil,gu,Ent.of0,Ent.of1,Ent.of2,Ent.of3,Ent.of4,V,W3,↓reduceIte,seval,reduceCtorEq]
 generalize hV:trg (⟨off,hyst,trig⟩:Rul) s n 0 0 true=vv at hy ⊢
 refine sn (α:=Nat×Nat×Int×Bool) (fun v=>[(5,.s (.int .i64 v.2.2.1)),(6,.s (.bool v.2.2.2)),(12,.s (.int .i64 (v.1:Int)))]) (fun v=>[(100000,.res (R v.2.1))])
  (fun v=>v.1≤s.length∧v.2.1≤vv.length∧vv.drop v.2.1=trg ⟨off,hyst,trig⟩ (s.drop v.1) (n.drop v.1) v.1 v.2.2.1 v.2.2.2∧0≤v.2.2.1∧v.2.2.1≤v.1) (fun v=>s.length - v.1) (0,0,0,true)
  ⟨Nat.zero_le _,Nat.zero_le _,by simp [hV],by simp,by simp⟩ ?_ (fun v hv=>?_)
 · simp (maxSteps:=4000000) -implicitDefEqProofs only [Ent.of0,Ent.of1,Ent.of2,Ent.of3,Ent.of4,V,W3,↓reduceIte,seval,reduceCtorEq]
   all_goals simp
 · obtain ⟨i,c,run,armed⟩:=v
   simp only at hv
   obtain ⟨v1,v2,v3,v4,v5⟩:=hv
   refine dB [] 800 ?_
   by_cases h:i < s.length
   · have hi2:(i:Int) < (s.length:Int):=by omega
     have hi3:(i:Int) < (n.length:Int):=by omega
     have hi4:i < n.length:=by omega
     have hi0:(0:Int)≤i:=by omega
     obtain ⟨b1,b2⟩:=sB hl hln i h
     rw [ee 0 h,ee 0 hi4,trg] at v3
     have hs1:InR .i64 (s.getD i 0+off):=by simp only [InR]; omega
     have hs2:InR .i64 (s.getD i 0+off+hyst):=by simp only [InR]; omega
     have hs3:InR .i64 (s.getD i 0+off - hyst):=by simp only [InR]; omega
     have hs4:InR .i64 (run+1):=by simp only [InR]; omega
     have hs5:InR .i64 ((i:Int)+1):=by simp only [InR]; omega
     delta qO oO oN oA oM oT oG oR oQ oS oK oF oL
     simp (maxSteps:=4000000) -implicitDefEqProofs only [mF,gu,j8,h,hi2,hi3,hi4,hi0,hs1,hs2,hs3,hs4,hs5,InR,List.nil_append,List.append_nil,WU,Ent.of0,Ent.of1,Ent.of2,Ent.of3,Ent.of4,V,W3,↓reduceIte,seval,reduceCtorEq]
     generalize s.getD i 0=sa at *
     generalize n.getD i 0=na at *
     have hyc:∀ rest,vv.drop c=(i:Int) :: rest→YAt Tryz.prog l [.s (.int .i64 (i:Int))] (R c) (some (R (c+1))) Rf:=fun rest hd=>by
      obtain ⟨g1,g2,_⟩:=pC (d:=(0:Int)) hd
      have:=hy c g1
      simp only [jk,g2,or_true,if_true] at this
      exact this
     repeat' first | (refine And.intro (by omega) ?_) | split
     all_goals first
      | (refine ⟨(i+1,c,_,_),⟨?_,?_,?_,?_,?_⟩,?_,⟨rfl,rfl,?_⟩,rfl⟩
         · show i+1≤s.length
           omega
         · exact v2
         · show vv.drop c=_
           rw [v3]; simp [nF,over, *]
         · simp only; omega
         · simp only; push_cast; omega
         · simp only; omega
         · push_cast; rfl)
      | (have hd:∃ rest,vv.drop c=(i:Int) :: rest:=⟨_,by rw [v3]; simp [nF,over, *]; rfl⟩
         obtain ⟨rest,hd⟩:=hd
         obtain ⟨g1,g2,g3⟩:=pC (d:=(0:Int)) hd
         refine tH rfl (OpM.yield (l:=l) (kr:=100000) (xs:=[.s (.int .i64 (i:Int))]) (R:=R c) (Rt:=some (R (c+1))) (Rf:=Rf) rfl rfl rfl (hyc _ hd)) (fun ef hef=>ny [] 800 ?_)
         rw [v3] at hd
         simp [nF,over, *] at hd
         simp only [cd,cp,List.mem_cons,List.not_mem_nil,or_false] at hef
         rcases hef with rfl | rfl
         · simp (maxSteps:=4000000) -implicitDefEqProofs only [mF,WU,Ent.of0,Ent.of1,Ent.of2,Ent.of3,Ent.of4,V,W3,↓reduceIte,seval,reduceCtorEq]
           refine ⟨by omega,(i+1,c+1,_,_),⟨?_,?_,?_,?_,?_⟩,?_,⟨rfl,rfl,?_⟩,rfl⟩
           · show i+1≤s.length
             omega
           · show c+1≤vv.length
             omega
           · show vv.drop (c+1)=_
             rw [g3,hd]
           · simp only; omega
           · simp only; push_cast; omega
           · simp only; omega
           · push_cast; rfl
         · simp (maxSteps:=4000000) -implicitDefEqProofs only [mF,WU,Ent.of0,Ent.of1,Ent.of2,Ent.of3,Ent.of4,V,W3,↓reduceIte,seval,reduceCtorEq]
           exact ⟨_,List.mem_cons_self,trivial,rfl,trivial⟩)
   · have hi2:¬ (i:Int) < (s.length:Int):=by omega
     have en:s.drop i=[]:=List.drop_eq_nil_of_le (by omega)
     rw [en,sN] at v3
     have hc:c=vv.length:=by
      have:=congrArg List.length v3
      simp at this; omega
     subst hc
     delta qO oO oN oA oM oT oG oR oQ oS oK oF oL
     simp (maxSteps:=4000000) -implicitDefEqProofs only [mF,hi2,WU,Ent.of0,Ent.of1,Ent.of2,Ent.of3,Ent.of4,V,W3,↓reduceIte,seval,reduceCtorEq]
     exact ⟨_,List.mem_cons_of_mem _ List.mem_cons_self,trivial,rfl,trivial⟩
def iu (r:Rul) (s n:List Int):List Int:=trg r s n 0 0 true
structure TrgOk (r:Rul) (s n:List Int):Prop where
 hr:j3 r=true
 hl:gO s n=true
 hln:n.length=s.length
 h60:s.length≤60
theorem p8 {V:List Int} {i:Nat} (h:i < V.length):(V.take i).map cells++[[C.s (.int .i64 (V.getD i 0))]]=(V.take (i+1)).map cells:=by
 rw [p7 0 h,List.map_append]; rfl
theorem ite_len {b:Prop} [Decidable b] {x y:List Int} {k:Nat} (h1:x.length≤k) (h2:y.length≤k):(if b then x else y).length≤k:=by split <;> assumption
theorem mJ (r:Rul):∀ (s n:List Int) (t:Nat) (run:Int) (a:Bool),(trg r s n t run a).length≤s.length
 | [],n,t,run,a=>by rw [sN]; simp
 | x :: s,[],t,run,a=>by simp [trg]
 | x :: s,y :: n,t,run,a=>by
  rw [trg]
  exact ite_len (by rw [List.length_cons]; exact Nat.succ_le_succ (mJ r s n _ _ _)) (Nat.le_succ_of_le (mJ r s n _ _ _))
def trF (r:Rul) (s n:List Int):C:=.fn (.func 138) [] [.ref [enc s],.ref [enc n],.ref (cells r)]
theorem rO (r:Rul) (s n:List Int) (h:TrgOk r s n):FC Tryz.prog 137 [.s (.slice none 0 0),trF r s n] [] (enc (iu r s n)) []:=by
 have hit:=iter_c r s n h.hr h.hl h.hln h.h60
 have hVl:(iu r s n).length≤60:=Nat.le_trans (mJ r s n 0 0 true) h.h60
 refine dC [] is137 (by simp) trivial trivial trivial trivial (fun cx hcx hl _=>dB [] 800 ?_)
 delta c137 oO oN oA oM oT oG oR oQ oS oK oF oL
 simp (maxSteps:=4000000) -implicitDefEqProofs only [rv137,trF,Ent.of0,Ent.of1,Ent.of2,Ent.of3,Ent.of4,V,W3,↓reduceIte,seval,reduceCtorEq]
 refine S_sh 200000 (by rw [hcx.2.2]; exact Nat.le_refl _) (by rfl) ?_
 simp (maxSteps:=4000000) -implicitDefEqProofs only [Ent.of0,Ent.of1,Ent.of2,Ent.of3,Ent.of4,V,W3,↓reduceIte,seval,reduceCtorEq]
 generalize hVV:iu r s n=vv at *
 rw [show trg r s n 0 0 true=vv from hVV] at hit
 refine mK (f:=138) (first:=[]) (caps:=[.ref [enc s],.ref [enc n],.ref (cells r)]) (ich:=[]) (kr:=100000) (vals:=jk vv) (N:=vv.length) (fin:=true) [200002]
  (fun i=>[(200002,.box [if i=0 then .s (.slice none 0 0) else .isl 1 3 ((vv.take i).map cells)])])
  hcx.2.1 rfl hit ⟨⟨rfl,trivial⟩,trivial⟩ ⟨fun c hc=>?_,fun k c hc=>by simp at hc⟩ ?_ (fun i hi=>?_) (fun k hk=>?_) (fun i hi=>?_) (fun i hi cx' _ hcx'=>dB [] 800 ?_) (fun _=>?_)
 · simp at hc
   rcases hc with rfl | rfl | rfl <;> trivial
 · simp (maxSteps:=4000000) -implicitDefEqProofs only [Ent.of0,Ent.of1,Ent.of2,Ent.of3,Ent.of4,V,W3,↓reduceIte,seval,reduceCtorEq]
 · simp (maxSteps:=4000000) -implicitDefEqProofs only [Ent.of0,Ent.of1,Ent.of2,Ent.of3,Ent.of4,V,W3,↓reduceIte,seval,reduceCtorEq]
   all_goals simp
 · rw [hcx.2.2]
   simp only [List.mem_cons,List.not_mem_nil,or_false] at hk
   omega
 · refine ⟨rfl,fun c hc=>?_⟩
   simp only [jk,List.mem_singleton] at hc; subst hc; trivial
 · simp (maxSteps:=4000000) -implicitDefEqProofs only [jk,Ent.of0,Ent.of1,Ent.of2,Ent.of3,Ent.of4,V,W3,↓reduceIte,seval,reduceCtorEq]
   intro cx'' _ _
   refine dB [] 800 ?_
   have hlen:(vv.take i).length=i:=by simp; omega
   have hsn:=p8 hi
   cases i with
   | zero=>
    have h1:[[C.s (.int .i64 (vv.getD 0 0))]]=(vv.take 1).map cells:=by simpa using hsn
    delta c137r1 oO oN oA oM oT oG oR oQ oS oK oF oL
    simp (maxSteps:=4000000) -implicitDefEqProofs only [InR,Ent.of0,Ent.of1,Ent.of2,Ent.of3,Ent.of4,V,W3,↓reduceIte,seval,reduceCtorEq]
    rw [h1]
    exact ⟨by decide,.inr trivial,rfl⟩
   | succ i=>
    delta c137r1 oO oN oA oM oT oG oR oQ oS oK oF oL
    simp (maxSteps:=4000000) -implicitDefEqProofs only [hlen,Nat.succ_ne_zero,InR,hsn,Ent.of0,Ent.of1,Ent.of2,Ent.of3,Ent.of4,V,W3,↓reduceIte,seval,reduceCtorEq]
    exact ⟨⟨by decide,by omega,by omega⟩,by decide,.inr trivial⟩
 · by_cases hv0:vv.length=0
   · have:vv=[]:=List.length_eq_zero_iff.1 hv0
     subst this
     refine dB [] 800 ?_
     simp (maxSteps:=4000000) -implicitDefEqProofs only [rv137,Ent.of0,Ent.of1,Ent.of2,Ent.of3,Ent.of4,V,W3,↓reduceIte,seval,reduceCtorEq]
   · simp only [if_neg hv0,List.take_length]
     refine S_fzb 200002 rfl (dB [] 800 ?_)
     simp (maxSteps:=4000000) -implicitDefEqProofs only [rv137,Ent.of0,Ent.of1,Ent.of2,Ent.of3,Ent.of4,V,W3,↓reduceIte,seval,reduceCtorEq]
def ug : Ent Tryz.prog:=.mk3 137 (fun args chs=>match args,chs with
 | [.s (.slice none 0 0),.fn (.func f) [] [.ref [.sl 1 a],.ref [.sl 1 b],.ref [.s (.int .i64 x),.s (.int .i64 y),.s (.int .i64 z)]]],[]=>
  (fg a:Option (List Int)).bind fun s=>(fg b:Option (List Int)).bind fun n=>some (f=138∧TrgOk ⟨x,y,z⟩ s n,enc (iu ⟨x,y,z⟩ s n),[],[])
 | _,_=>none) (by
 intro args chs p r chs' nk hs hp
 split at hs
 · simp only [Option.bind_eq_some_iff,Option.some.injEq,Prod.mk.injEq] at hs
   obtain ⟨s,h1,n,h2,rfl,rfl,rfl,rfl⟩:=hs
   obtain ⟨rfl,h⟩:=hp
   have:=rO _ s n h
   rw [trF,gu,gu,← gi h1,← gi h2] at this
   exact ⟨this,.plain trivial⟩
 · cases hs)
theorem tF (r:Rul) (s n:List Int) (h:TrgOk r s n):FC Tryz.prog 93 [trF r s n] [] (enc (iu r s n)) []:=by
 obtain ⟨off,hyst,trig⟩:=r
 refine dC [] is93 (by simp) trivial trivial trivial trivial (fun cx _ hl _=>dB [ug] 800 ?_)
 delta c93 oO oN oA oM oT oG oR oQ oS oK oF oL
 simp (maxSteps:=4000000) -implicitDefEqProofs only [rv93,trF,j8,ug,h,Ent.of0,Ent.of1,Ent.of2,Ent.of3,Ent.of4,V,W3,↓reduceIte,seval,reduceCtorEq]
def ent93 : Ent Tryz.prog:=.mk3 93 (fun args chs=>match args,chs with
 | [.fn (.func f) [] [.ref [.sl 1 a],.ref [.sl 1 b],.ref [.s (.int .i64 x),.s (.int .i64 y),.s (.int .i64 z)]]],[]=>
  (fg a:Option (List Int)).bind fun s=>(fg b:Option (List Int)).bind fun n=>some (f=138∧TrgOk ⟨x,y,z⟩ s n,enc (iu ⟨x,y,z⟩ s n),[],[])
 | _,_=>none) (by
 intro args chs p r chs' nk hs hp
 split at hs
 · simp only [Option.bind_eq_some_iff,Option.some.injEq,Prod.mk.injEq] at hs
   obtain ⟨s,h1,n,h2,rfl,rfl,rfl,rfl⟩:=hs
   obtain ⟨rfl,h⟩:=hp
   have:=tF _ s n h
   rw [trF,gu,gu,← gi h1,← gi h2] at this
   exact ⟨this,.plain trivial⟩
 · cases hs)
theorem tD (r:Rul) (s n:List Int):FC Tryz.prog 94 [enc r,enc s,enc n] [] (trF r s n) []:=by
 obtain ⟨off,hyst,trig⟩:=r
 refine dC [] D.is94 (by simp) trivial trivial trivial trivial (fun cx _ hl _=>dB [] 800 ?_)
 delta D.c94 oO oN oA oM oT oG oR oQ oS oK oF oL
 simp (maxSteps:=4000000) -implicitDefEqProofs only [D.rv94,iw,Ent.of0,Ent.of1,Ent.of2,Ent.of3,Ent.of4,V,W3,↓reduceIte,seval,reduceCtorEq]
 refine iv (nC 3 3 rfl rfl rfl (nC 4 4 rfl rfl rfl (nC 5 5 rfl rfl rfl (dB [] 800 ?_))))
 delta D.c94k1 oO oN oA oM oT oG oR oQ oS oK oF oL
 simp (maxSteps:=4000000) -implicitDefEqProofs only [D.rv94,refS,trF,j8,Ent.of0,Ent.of1,Ent.of2,Ent.of3,Ent.of4,V,W3,↓reduceIte,seval,reduceCtorEq]
def ent94 : Ent Tryz.prog:=.of3 94 (fun _ _ _=>True) (fun (r:Rul) (s n:List Int)=>trF r s n) (fun r s n=>by simp [trF,dE,dE.keysIns]) (fun r s n _=>tD r s n)
def iX (r:Rul) (s n:List Int):Int:=dL [kj r,l9 s n]
theorem rM {r:Rul} {s n:List Int} (h:iX r s n=0):TrgOk r s n:=by
 unfold iX at h
 simp only [dL] at h
 have h1:kj r=0:=by
  rcases Classical.em (kj r=0) with g | g
  · exact g
  · rw [if_pos g] at h; exact absurd h g
 have h2:l9 s n=0:=by
  rw [if_neg (by simp [h1])] at h
  rcases Classical.em (l9 s n=0) with g | g
  · exact g
  · rw [if_pos g] at h; exact absurd h g
 unfold kj at h1
 unfold l9 at h2
 refine ⟨by revert h1; cases j3 r <;> simp,?_,?_,?_⟩
 all_goals
  revert h2
  by_cases g1:n.length=s.length <;> by_cases g2:s.length > 60 <;> cases g3:gO s n <;> simp [g1,g2]
  try omega
theorem sP (r:Rul) (s n:List Int):FC Tryz.prog 23 [enc r,enc s,enc n] [] (.tup [enc (if iX r s n=0 then iu r s n else []),enc (iX r s n)]) []:=by
 have hE:dL [kj r,l9 s n]=iX r s n:=rfl
 obtain ⟨off,hyst,trig⟩:=r
 refine dC [] is23 (by simp) trivial trivial trivial trivial (fun cx _ hl _=>dB [ent26,ent92,dR,ent94,ent93] 800 ?_)
 by_cases h:iX ⟨off,hyst,trig⟩ s n=0
 · have hok:=rM h
   delta c23 oO oN oA oM oT oG oR oQ oS oK oF oL
   simp (maxSteps:=4000000) -implicitDefEqProofs only [rv23,ent26,ent92,dR,ent94,ent93,iw,jT,j8,trF,hE,h,hok,Ent.of0,Ent.of1,Ent.of2,Ent.of3,Ent.of4,V,W3,↓reduceIte,seval,reduceCtorEq]
   try simp
 · delta c23 oO oN oA oM oT oG oR oQ oS oK oF oL
   simp (maxSteps:=4000000) -implicitDefEqProofs only [rv23,ent26,ent92,dR,ent94,ent93,iw,jT,trF,hE,h,Ent.of0,Ent.of1,Ent.of2,Ent.of3,Ent.of4,V,W3,↓reduceIte,seval,reduceCtorEq]
   try simp [h]
def qo : Ent Tryz.prog:=.of3 23 (fun _ _ _=>True) (fun (r:Rul) (s n:List Int)=>.tup [enc (if iX r s n=0 then iu r s n else []),enc (iX r s n)]) (fun r s n=>⟨trivial,trivial,trivial⟩) (fun r s n _=>sP r s n)
def ftE (r:Rul) (s n:List Int):Int:=if iX r s n≠0 then iX r s n else if iu r s n=[] then 12 else 0
theorem o8 (r:Rul) (s n:List Int):FC Tryz.prog 25 [enc r,enc s,enc n] [] (.tup [enc (if ftE r s n=0 then (iu r s n).getD 0 0 else 0),enc (ftE r s n)]) []:=by
 obtain ⟨off,hyst,trig⟩:=r
 refine dC [] is25 (by simp) trivial trivial trivial trivial (fun cx _ hl _=>dB [qo,dS,dR] 800 ?_)
 by_cases h:iX ⟨off,hyst,trig⟩ s n=0
 · have hl60:(iu ⟨off,hyst,trig⟩ s n).length≤60:=Nat.le_trans (mJ _ s n 0 0 true) (rM h).h60
   by_cases h2:iu ⟨off,hyst,trig⟩ s n=[]
   · delta c25 oO oN oA oM oT oG oR oQ oS oK oF oL
     simp (maxSteps:=4000000) -implicitDefEqProofs only [rv25,qo,dS,dR,iw,jT,dL,h,h2,ftE,List.map_nil,List.length_nil,WU,Ent.of0,Ent.of1,Ent.of2,Ent.of3,Ent.of4,V,W3,↓reduceIte,seval,reduceCtorEq]
     try simp
   · have h3:0 < (iu ⟨off,hyst,trig⟩ s n).length:=List.length_pos_iff.2 h2
     have h4:(0:Int) < (iu ⟨off,hyst,trig⟩ s n).length:=by omega
     delta c25 oO oN oA oM oT oG oR oQ oS oK oF oL
     simp (maxSteps:=4000000) -implicitDefEqProofs only [rv25,qo,dS,dR,iw,jT,dL,h,h2,h3,h4,ftE,List.length_map,WU,Ent.of0,Ent.of1,Ent.of2,Ent.of3,Ent.of4,V,W3,↓reduceIte,seval,reduceCtorEq]
     try simp
 · delta c25 oO oN oA oM oT oG oR oQ oS oK oF oL
   simp (maxSteps:=4000000) -implicitDefEqProofs only [rv25,qo,dS,dR,iw,jT,dL,h,ftE,List.map_nil,List.length_nil,WU,Ent.of0,Ent.of1,Ent.of2,Ent.of3,Ent.of4,V,W3,↓reduceIte,seval,reduceCtorEq]
   try simp [h]
theorem TrgOk.get {r:Rul} {s n:List Int} (h:TrgOk r s n) {i:Nat} (hi:i < s.length):(-2000≤s.getD i 0∧s.getD i 0≤1000)∧(-2000≤n.getD i 0∧n.getD i 0≤1000)∧(-300≤r.off∧r.off≤300)∧(0≤r.hyst∧r.hyst≤300)∧(0≤r.trig∧r.trig≤40):=by
 have h1:=sB h.hl h.hln i hi
 have h2:=h.hr
 simp only [j3,Bool.and_eq_true,decide_eq_true_eq] at h2
 exact ⟨h1.1,h1.2,h2.1.1,h2.1.2,h2.2⟩
structure TickOk (r:Rul) (s n:List Int) (t:Int):Prop where
 ok:TrgOk r s n
 h0:0≤t
 h1:t < s.length
def pl (c:Int):Bool:=decide (97≤c∧c≤122) || decide (65≤c∧c≤90)
def badB (first:Bool) (c:Int):Bool:=!pl c && (first || (decide (c≠45) && (decide (c < 48) || decide (57 < c))))
def fN : Bool→List Int→Bool
 | _,[]=>true
 | first,c :: l=>!badB first c && fN false l
def byI (s:ByteArray):List Int:=s.data.toList.map fun b=>(b.toNat:Int)
def gx (s:ByteArray):Bool:=fN true (byI s) && decide (0 < s.size) && decide (s.size≤12)
theorem jN (s:ByteArray):(byI s).length=s.size:=by rw [byI,List.length_map,Array.length_toList]; rfl
theorem qK (s:ByteArray):je s=(byI s).map fun n=>[C.s (.int .u8 n)]:=by simp [je,byI]
theorem pw (s:ByteArray):(je s).length=s.size:=by rw [qK,List.length_map,jN]
theorem tQ {s:ByteArray} {i:Nat} (h:i < s.size) (d:List C):(je s).getD i d=[.s (.int .u8 ((byI s).getD i 0))]:=by
 rw [qK,List.getD_eq_getElem?_getD,List.getD_eq_getElem?_getD,List.getElem?_map]
 have:i < (byI s).length:=by rw [jN]; exact h
 rw [List.getElem?_eq_getElem this]; rfl
theorem byI_get {s:ByteArray} {i:Nat} (h:i < s.size):((s.data.toList.getD i 0).toNat:Int)=(byI s).getD i 0:=by
 have h1:i < s.data.toList.length:=by rw [Array.length_toList]; exact h
 rw [byI,List.getD_eq_getElem?_getD,List.getD_eq_getElem?_getD,List.getElem?_map,List.getElem?_eq_getElem h1]; rfl
theorem v6 (s:ByteArray) (hs:s.size≤9223372036854775807):FC Tryz.prog 103 [enc s] [] (enc (gx s)) []:=by
 refine eg is103 (by simp) (fun cx hl=>dB [] 800 ?_)
 have h0:decide (s=⟨#[]⟩)=decide (s.size=0):=by
  rw [Bool.eq_iff_iff]; simp only [decide_eq_true_eq]
  constructor
  · intro h; rw [h]; rfl
  · intro h
    obtain ⟨d⟩:=s
    have:d=#[]:=Array.size_eq_zero_iff.1 h
    rw [this]
 delta c103 oO oN oA oM oT oG oR oQ oS oK oF oL
 simp (maxSteps:=4000000) -implicitDefEqProofs only [oH,hs,pw,WU,Ent.of0,Ent.of1,Ent.of2,Ent.of3,Ent.of4,V,W3,↓reduceIte,seval,reduceCtorEq]
 have hnb:gx s=(fN true (byI s) && (decide (¬ s.size=0) && decide (s.size≤12))):=by
  unfold gx
  by_cases g:s.size=0
  · simp [g]
  · have:0 < s.size:=by omega
    simp [g,this]
 rw [hnb]
 generalize hB:fN true (byI s)=B
 refine eM s.size (fun i=>[(9,.s (.int .i64 (i:Int)))]) (fun _=>[]) (fun i=>B=fN (decide (i=0)) ((byI s).drop i)) (by simp [hB]) ?_ (fun i hi hv=>dB [] 800 ?_)
 · simp (maxSteps:=4000000) -implicitDefEqProofs only [Ent.of0,Ent.of1,Ent.of2,Ent.of3,Ent.of4,V,W3,↓reduceIte,seval,reduceCtorEq]
   all_goals simp
 · by_cases h:i < s.size
   · have hi2:(i:Int) < (s.size:Int):=by omega
     have hg:=tQ h [C.s (.int .u8 0)]
     have hi3:(decide ((i:Int)=0))=decide (i=0):=by simp
     rw [ee 0 (by rw [jN]; exact h:i < (byI s).length),fN] at hv
     generalize (byI s).getD i 0=c at *
     have hnx:fN (decide (i+1=0)) ((byI s).drop (i+1))=fN false ((byI s).drop (i+1)):=by simp
     delta nJ oO oN oA oM oT oG oR oQ oS oK oF oL
     simp (maxSteps:=4000000) -implicitDefEqProofs only [oH,hi2,h,pw,hg,InR,WU,Ent.of0,Ent.of1,Ent.of2,Ent.of3,Ent.of4,V,W3,↓reduceIte,seval,reduceCtorEq]
     clear h0 hnb hg hi3
     have hb2:badB (decide (i=0)) c=decide (¬ ((97≤c∧c≤122)∨(65≤c∧c≤90))∧(i=0∨(c≠45∧(c < 48∨57 < c)))):=by
      rw [Bool.eq_iff_iff]
      simp only [badB,pl,Bool.and_eq_true,Bool.or_eq_true,Bool.not_eq_true',Bool.or_eq_false_iff,decide_eq_true_eq,decide_eq_false_iff_not]
      omega
     rw [hb2] at hv
     have hvt:(¬ ((97≤c∧c≤122)∨(65≤c∧c≤90))∧(i=0∨(c≠45∧(c < 48∨57 < c))))→B=false:=fun hb=>by rw [hv,decide_eq_true hb]; rfl
     have hvf:¬ (¬ ((97≤c∧c≤122)∨(65≤c∧c≤90))∧(i=0∨(c≠45∧(c < 48∨57 < c))))→B=fN false ((byI s).drop (i+1)):=fun hb=>by rw [hv,decide_eq_false hb]; simp
     refine ⟨by omega,?_⟩
     repeat' split
     all_goals first
      | (rw [hvt (by omega)]; rfl)
      | exact ⟨by omega,hvf (by omega),by omega⟩
   · have hi2:¬ (i:Int) < (s.size:Int):=by omega
     rw [List.drop_eq_nil_of_le (by rw [jN]; omega)] at hv
     simp only [fN] at hv
     subst hv
     by_cases g0:s.size=0
     · have g1:decide (s=⟨#[]⟩)=true:=by rw [h0]; simp [g0]
       delta nJ oO oN oA oM oT oG oR oQ oS oK oF oL
       simp (maxSteps:=4000000) -implicitDefEqProofs only [oH,hi2,g1,WU,Ent.of0,Ent.of1,Ent.of2,Ent.of3,Ent.of4,V,W3,↓reduceIte,seval,reduceCtorEq]
       simp [g0]
     · have g1:decide (s=⟨#[]⟩)=false:=by rw [h0]; simp [g0]
       delta nJ oO oN oA oM oT oG oR oQ oS oK oF oL
       simp (maxSteps:=4000000) -implicitDefEqProofs only [oH,hi2,g1,WU,Ent.of0,Ent.of1,Ent.of2,Ent.of3,Ent.of4,V,W3,↓reduceIte,seval,reduceCtorEq]
       simp [g0]
       omega
def uc : Ent Tryz.prog:=.of1 103 (fun s=>s.size≤9223372036854775807) (fun s:ByteArray=>enc (gx s)) (fun _=>trivial) (fun s h=>v6 s h)
theorem vp (s:ByteArray) (hs:s.size≤9223372036854775807):FC Tryz.prog 108 [enc s] [] (enc (gx s)) []:=by
 refine eg is108 (by simp) (fun cx hl=>dB [] 800 ?_)
 by_cases g1:s.size < 1
 · have g1':(s.size:Int) < 1:=by omega
   have hn:gx s=false:=by
    unfold gx
    have:¬ 0 < s.size:=by omega
    simp [this]
   rw [hn]
   delta c108 oO oN oA oM oT oG oR oQ oS oK oF oL
   simp (maxSteps:=4000000) -implicitDefEqProofs only [mE,g1',WU,Ent.of0,Ent.of1,Ent.of2,Ent.of3,Ent.of4,V,W3,↓reduceIte,seval,reduceCtorEq]
 by_cases g2:12 < s.size
 · have g1':¬ (s.size:Int) < 1:=by omega
   have g2':(12:Int) < s.size:=by omega
   have hn:gx s=false:=by
    unfold gx
    have:¬ s.size≤12:=by omega
    simp [this]
   rw [hn]
   delta c108 oO oN oA oM oT oG oR oQ oS oK oF oL
   simp (maxSteps:=4000000) -implicitDefEqProofs only [mE,g1',g2',WU,Ent.of0,Ent.of1,Ent.of2,Ent.of3,Ent.of4,V,W3,↓reduceIte,seval,reduceCtorEq]
 have g1':¬ (s.size:Int) < 1:=by omega
 have g2':¬ (12:Int) < s.size:=by omega
 have hnb:gx s=fN true (byI s):=by
  unfold gx
  have h1:0 < s.size:=by omega
  have h2:s.size≤12:=by omega
  simp [h1,h2]
 rw [hnb]
 generalize hB:fN true (byI s)=B
 delta c108 oO oN oA oM oT oG oR oQ oS oK oF oL
 simp (maxSteps:=4000000) -implicitDefEqProofs only [mE,g1',g2',WU,Ent.of0,Ent.of1,Ent.of2,Ent.of3,Ent.of4,V,W3,↓reduceIte,seval,reduceCtorEq]
 refine eM s.size (fun i=>[(3,.s (.int .i64 (i:Int)))]) (fun _=>[]) (fun i=>B=fN (decide (i=0)) ((byI s).drop i)) (by simp [hB]) ?_ (fun i hi hv=>dB [] 800 ?_)
 · simp (maxSteps:=4000000) -implicitDefEqProofs only [Ent.of0,Ent.of1,Ent.of2,Ent.of3,Ent.of4,V,W3,↓reduceIte,seval,reduceCtorEq]
   all_goals simp
 · by_cases h:i < s.size
   · have hi2:(i:Int) < (s.size:Int):=by omega
     have hg:=byI_get h
     rw [ee 0 (by rw [jN]; exact h:i < (byI s).length),fN] at hv
     generalize (byI s).getD i 0=c at *
     have hnx:fN (decide (i+1=0)) ((byI s).drop (i+1))=fN false ((byI s).drop (i+1)):=by simp
     delta qM oO oN oA oM oT oG oR oQ oS oK oF oL
     simp (maxSteps:=4000000) -implicitDefEqProofs only [mE,hi2,h,hg,InR,WU,Ent.of0,Ent.of1,Ent.of2,Ent.of3,Ent.of4,V,W3,↓reduceIte,seval,reduceCtorEq]
     have hb2:badB (decide (i=0)) c=decide (¬ ((97≤c∧c≤122)∨(65≤c∧c≤90))∧(i=0∨(c≠45∧(c < 48∨57 < c)))):=by
      rw [Bool.eq_iff_iff]
      simp only [badB,pl,Bool.and_eq_true,Bool.or_eq_true,Bool.not_eq_true',Bool.or_eq_false_iff,decide_eq_true_eq,decide_eq_false_iff_not]
      omega
     rw [hb2] at hv
     have hvt:(¬ ((97≤c∧c≤122)∨(65≤c∧c≤90))∧(i=0∨(c≠45∧(c < 48∨57 < c))))→B=false:=fun hb=>by rw [hv,decide_eq_true hb]; rfl
     have hvf:¬ (¬ ((97≤c∧c≤122)∨(65≤c∧c≤90))∧(i=0∨(c≠45∧(c < 48∨57 < c))))→B=fN false ((byI s).drop (i+1)):=fun hb=>by rw [hv,decide_eq_false hb]; simp
     repeat' first | (refine And.intro (by omega) ?_) | split
     all_goals first
      | (exact (hvt (by omega)).symm)
      | (rw [hvt (by omega)]; rfl)
      | exact ⟨hvf (by omega),by omega⟩
      | exact hvf (by omega)
      | (push_cast; rfl)
      | omega
   · have hi2:¬ (i:Int) < (s.size:Int):=by omega
     rw [List.drop_eq_nil_of_le (by rw [jN]; omega)] at hv
     simp only [fN] at hv
     subst hv
     delta qM oO oN oA oM oT oG oR oQ oS oK oF oL
     simp (maxSteps:=4000000) -implicitDefEqProofs only [mE,hi2,WU,Ent.of0,Ent.of1,Ent.of2,Ent.of3,Ent.of4,V,W3,↓reduceIte,seval,reduceCtorEq]
def rc : Ent Tryz.prog:=.of1 108 (fun s=>s.size≤9223372036854775807) (fun s:ByteArray=>enc (gx s)) (fun _=>trivial) (fun s h=>vp s h)
theorem rT (l:List ByteArray) (h:l.length≤1000000):FC Tryz.prog 98 [enc l] [] (enc l) []:=by
 refine eg is98 (by simp) (fun cx hl=>dB [] 800 ?_)
 delta c98 oO oN oA oM oT oG oR oQ oS oK oF oL
 simp (maxSteps:=4000000) -implicitDefEqProofs only [rv98,Ent.of0,Ent.of1,Ent.of2,Ent.of3,Ent.of4,V,W3,↓reduceIte,seval,reduceCtorEq]
 omega
def ent98 : Ent Tryz.prog:=.of1 98 (fun l=>l.length≤1000000) (fun l:List ByteArray=>enc l) (fun _=>trivial) (fun l h=>rT l h)
theorem tJ (l:List ByteArray) (v:ByteArray):FC Tryz.prog 109 [enc l,enc v] [] (enc (l.any fun x=>decide (x=v))) []:=by
 refine eg is109 (by simp) (fun cx hl=>dB [] 800 ?_)
 simp only [V,W3,↓reduceIte,seval,reduceCtorEq] at hl
 have hl1:=hl.list
 generalize hB:(l.any fun x=>decide (x=v))=B
 delta c109 oO oN oA oM oT oG oR oQ oS oK oF oL
 simp (maxSteps:=4000000) -implicitDefEqProofs only [qx,Ent.of0,Ent.of1,Ent.of2,Ent.of3,Ent.of4,V,W3,↓reduceIte,seval,reduceCtorEq]
 refine eM l.length (fun i=>[(5,.s (.int .i64 (i:Int)))]) (fun _=>[]) (fun i=>B=(l.drop i).any fun x=>decide (x=v)) (by simp [hB]) ?_ (fun i hi hv=>dB [] 800 ?_)
 · simp (maxSteps:=4000000) -implicitDefEqProofs only [Ent.of0,Ent.of1,Ent.of2,Ent.of3,Ent.of4,V,W3,↓reduceIte,seval,reduceCtorEq]
   all_goals simp
 · by_cases h:i < l.length
   · have hi2:(i:Int) < (l.length:Int):=by omega
     rw [ee ⟨#[]⟩ h,List.any_cons] at hv
     cases hx:decide (l.getD i ⟨#[]⟩=v)
     all_goals
      rw [hx] at hv
      delta qN oO oN oA oM oT oG oR oQ oS oK oF oL
      simp (maxSteps:=4000000) -implicitDefEqProofs only [qx,hi2,h,hx,InR,WU,Ent.of0,Ent.of1,Ent.of2,Ent.of3,Ent.of4,V,W3,↓reduceIte,seval,reduceCtorEq]
      simp at hv
      simp [hv]
      try omega
   · have hi2:¬ (i:Int) < (l.length:Int):=by omega
     rw [List.drop_eq_nil_of_le (by omega)] at hv
     delta qN oO oN oA oM oT oG oR oQ oS oK oF oL
     simp (maxSteps:=4000000) -implicitDefEqProofs only [qx,hi2,WU,Ent.of0,Ent.of1,Ent.of2,Ent.of3,Ent.of4,V,W3,↓reduceIte,seval,reduceCtorEq]
     simp [hv]
def rf : Ent Tryz.prog:=.of2 109 (fun _ _=>True) (fun (l:List ByteArray) (v:ByteArray)=>enc (l.any fun x=>decide (x=v))) (fun _ _=>trivial) (fun l v _=>tJ l v)
def i6 {α:Type} (p:α→Bool) (l:List α):Int:=match l.findIdx? p with | some i=>(i:Int) | none=>-1
theorem ng {α:Type} (p:α→Bool) (l:List α):decide (0≤i6 p l)=l.any p:=by
 unfold i6
 cases hq:l.findIdx? p with
 | none=>
  rw [List.findIdx?_eq_none_iff] at hq
  have:l.any p=false:=by simpa using hq
  simp [this]
 | some i=>
  rw [List.findIdx?_eq_some_iff_getElem] at hq
  obtain ⟨h1,h2,_⟩:=hq
  have:l.any p=true:=List.any_eq_true.2 ⟨_,List.getElem_mem h1,h2⟩
  simp [this]
theorem nh {α:Type} {p:α→Bool} {l:List α} {i:Nat} (d:α) (h:i < l.length) (hp:p (l.getD i d)=true) (hb:∀ j,j < i→p (l.getD j d)=false):i6 p l=i:=by
 have:l.findIdx? p=some i:=by
  rw [List.findIdx?_eq_some_iff_getElem]
  rw [List.getD_eq_getElem?_getD,List.getElem?_eq_getElem h] at hp
  refine ⟨h,by simpa using hp,fun j hj=>?_⟩
  have:=hb j hj
  rw [List.getD_eq_getElem?_getD,List.getElem?_eq_getElem (by omega)] at this
  simpa using this
 simp [i6,this]
theorem l5 {α:Type} {p:α→Bool} {l:List α} (d:α) (hb:∀ j,j < l.length→p (l.getD j d)=false):i6 p l=-1:=by
 have:l.findIdx? p=none:=by
  rw [List.findIdx?_eq_none_iff]
  intro x hx
  obtain ⟨j,hj,rfl⟩:=List.getElem_of_mem hx
  have:=hb j hj
  rwa [List.getD_eq_getElem?_getD,List.getElem?_eq_getElem hj] at this
 simp [i6,this]
end Go.Proofs.YtcbabnbiinkafaaGreatDoor
end
