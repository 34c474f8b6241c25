/- Part 2 of the proof of: TopMoveConnectedAgain returns true for every input and never panics: a phone that fails at any time is connected again within the limit, to its own cell or to the first one, its outage is as long, and what waited waits still; conditions: those of the given statement, that the package variables it lists hold what their initialisers lay. -/
import Derived.Test.YtcbabnbiinkafaaGreatDoorProg
import Derived.KernelRfl
import Derived.Test.YtcbabnbiinkafaaGreatDoorTopMoveConnectedAgain1
set_option linter.all false
section
open Go Go.Am
open Go.Am.Dat (cells)
namespace Go.Proofs.YtcbabnbiinkafaaGreatDoor.D7
set_option maxRecDepth 100000
def c153 : AC:=oX [o7 2 0,o7 3 1,oA 4 (.alloc oZ)] [2,3,4] (oS (oX [oF 7 0 3,oL 8 7] [2,3,4,8] (.block 0 (oX [oB 10 .eql 3 8 (oN 0),oM 9 10] [2,3,4,8,9] (.cond (oO 9) (oS (.draw 13 [0,1,2,3] [oF 11 9 2,oL 12 11,oF 13 6 2,oL 14 13,oF 15 9 2,oL 16 15,oF 17 6 2,oL 18 17,oA 19 (.iaddr 1 o0 (oO 16) (oO 18)),oL 20 19,oF 21 7 2,oL 22 21,oA 23 (.mkSl false 3 1 o1 1 [(0,oO 22)]),oT 24 (.app 24 3 1 8 o1 (oO 20) (oO 23)),oT 25 (.iaddr 1 o0 (oO 12) (oO 14)),⟨none,none,.store true 1 (oO 25) (oO 24),true⟩]) (oK [2,4] (oR [oF 26 7 2,oL 27 26,oB 28 .add 3 27 (oN 1),oF 29 7 2,oW 1 29 28]))) (oX [oB 31 .eql 3 8 (oN 1),oM 30 31] [2,3,4,8,30] (.cond (oO 30) (.cut c153k1) (oX [oB 48 .eql 3 8 (oN 2),oM 47 48] [2,3,4,8,47] (.cond (oO 47) (.draw 999 [1,13,14,113,114,203,213,214,313,314,405,408,409,412,413,414,508,509,512,513,514,607,608,609,612,613,614,708,709,712,713,714,809,812,813,814,912,913,914,1011,1012,1013,1014,1112,1113,1114,1213,1214,1314] [oF 49 9 2,oL 50 49,oF 51 3 2,oL 52 51,oF 53 9 2,oL 54 53,oF 55 3 2,oL 56 55,oA 57 (.iaddr 1 o0 (oO 54) (oO 56)),oL 58 57,oF 59 8 2,oL 60 59,oC 61 164 [oO 58,oO 60],oT 62 (.iaddr 1 o0 (oO 50) (oO 52)),⟨none,none,.store false 1 (oO 62) (oO 61),true⟩]) (oX [oB 64 .eql 3 8 (oN 3),oM 63 64] [2,3,4,8,63] (.cond (oO 63) (.draw 999 [1,6,7,8,9,106,107,108,109,203,208,209,308,309,405,406,407,408,409,506,507,508,509,607,608,609,708,709,809] [oF 65 1 3,oL 66 65,oF 67 2 3,oL 68 67,oF 69 1 2,oY false 1 (oO 69) (oN 1),oF 70 2 2,oW 1 70 66,oT 71 (.faddr 4 (oO 2)),⟨none,none,.store false 1 (oO 71) (oO 68),true⟩]) (oX [oB 73 .eql 3 8 (oN 4),oM 72 73] [2,3,4,8,72] (.cond (oO 72) (.draw 999 [1,4,5,6,7,104,105,106,107,203,204,205,206,207,304,305,306,307,405,406,407,506,507,607] [oF 74 1 3,oL 75 74,oF 76 1 2,oY false 1 (oO 76) (oN 0),oT 77 (.faddr 2 (oO 2)),⟨none,none,.store false 1 (oO 77) (oO 75),true⟩,oT 78 (.faddr 4 (oO 2)),⟨none,none,.store false 1 (oO 78) (oN (-1)),true⟩]) (oX [oB 80 .eql 3 8 (oN 5),oM 79 80] [2,3,4,8,79] (.cond (oO 79) (.draw 999 [1,4,5,104,105,203,204,205,304,305,405] [oF 81 1 3,oL 82 81,oF 83 1 2,oY false 1 (oO 83) (oN 2),oT 84 (.faddr 2 (oO 2)),⟨none,none,.store false 1 (oO 84) (oO 82),true⟩]) (oX [oB 86 .eql 3 8 (oN 6),oM 85 86] [2,3,4,8,85] (.cond (oO 85) (oS (.draw 999 [1,4,5,104,105,203,204,205,304,305,405] [oF 87 1 3,oL 88 87,oF 89 1 2,oY false 1 (oO 89) (oN 0),oT 90 (.faddr 2 (oO 2)),⟨none,none,.store false 1 (oO 90) (oO 88),true⟩]) (oK [2,4] (oR [oF 91 3 2,oL 92 91,oF 93 4 2,oL 94 93,oF 95 5 2,oW 1 95 92,oF 96 3 2,oW 1 96 94,oF 97 4 2,oY false 1 (oO 97) (oN (-1))]))) (oX [oB 99 .eql 3 8 (oN 7),oM 98 99] [2,3,4,8,98] (.cond (oO 98) (.cut c153k2) (oX [oB 134 .eql 3 8 (oN 8),oM 133 134] [2,3,4,8,133] (.cond (oO 133) (oR [oF 135 3 2,oL 136 135,oF 137 6 2,oW 1 137 136]) (oX [oB 139 .eql 3 8 (oN 9),oM 138 139] [2,3,4,8,138] (.cond (oO 138) (.cut c153k3) (oX [oB 148 .eql 3 8 (oN 10),oM 147 148] [2,3,4,147] (oI 147 (.cut c153k4))))))))))))))))))))))))) (oK [2,4] (.cut c153k5)))
def rv153 : List RV:=[.cell 4 true 10]
theorem is153 : FnIs Tryz.prog 153 157 c153 rv153:=⟨⟨Tryz.f153,_,Tryz.func153,by kernel_rfl,rfl,rfl,by kernel_rfl,by kernel_rfl⟩,by decide⟩
def c42l1 : AC:=oS (oX [oM 20 10,oM 21 2,o4 22 21,oB 23 .lss 3 20 (oO 22)] [2,3,6,9,10,23] (.cond (oO 23) .skip (.exit 0))) (oK [2,3,6,9,10] (oS (.block 1 (oS (.draw 999 [6,7,8,9,11,12,106,107,108,109,111,112,204,205,206,207,208,209,211,212,304,305,306,307,308,309,311,312,405,406,407,408,409,411,412,506,507,508,509,511,512,607,608,609,611,612,708,709,711,712,811,812,912,1011,1012,1112] [o5 27 3 3,o5 28 10 9,oM 29 2,oA 30 (.mvs (oO 10)),oA 31 (.iaddr 3 o3 (oO 29) (oO 30)),o5 32 3 31,oC 33 71 [oO 27,oO 28,oO 32],oM 26 33,o8 34 26 0,o8 35 26 1,oA 11 (.alloc oZ),oW 10 11 34,oT 12 (.mv (oO 35))]) (oK [2,3,6,9,10,11,12] (oS (oX [oM 36 12,oB 37 .neq 3 36 (oN 0)] [2,3,6,9,10,11,12,37] (oI 37 (oX [oA 38 (.build oZ []),oM 39 10,oM 40 12,oW 10 6 38,oM 7 39,oM 8 40] [6,7,8] .ret))) (oK [2,3,6,9,10,11] (oR [o5 41 10 11,oW 10 9 41])))))) (oK [2,3,6,9,10] (oR [oM 24 10,oB 25 .add 3 24 (oN 1),oM 10 25]))))
def c42 : AC:=oX [o7 3 0,oA 6 (.alloc oZ),oV 7 0,oV 8 0] [1,2,3,6] (oS (oX [oM 13 2,o4 14 13,oB 15 .gtr 3 14 (oN 200)] [1,2,3,6,15] (oI 15 (oX [oA 16 (.build oZ []),oW 10 6 16,oV 7 0,oV 8 8] [6,7,8] .ret))) (oK [1,2,3,6] (oX [o5 17 3 3,oM 18 1,oC 19 52 [oO 17,oO 18],oA 9 (.alloc oZ),oW 10 9 19] [2,3,6,9] (oS (oX [oV 10 0] [2,3,6,9,10] (.block 0 (.loop c42l1))) (oK [6,9] (oX [o5 42 10 9,oW 10 6 42,oV 7 0,oV 8 0] [6,7,8] .ret))))))
def rv42 : List RV:=[.cell 6 true 10,.tmp 7,.tmp 8]
theorem is42 : FnIs Tryz.prog 42 43 c42 rv42:=⟨⟨Tryz.f42,_,Tryz.func42,by kernel_rfl,rfl,rfl,by kernel_rfl,by kernel_rfl⟩,by decide⟩
end Go.Proofs.YtcbabnbiinkafaaGreatDoor.D7
end
section
open Go Go.Am
open Go.Am.Dat (cells)
namespace Go.Proofs.YtcbabnbiinkafaaGreatDoor.E2
set_option maxRecDepth 100000
def c113l1 : AC:=oX [oB 43 .lss 3 42 (oO 41)] [3,7,40,41,42,43] (oS (.cond (oO 43) .skip (.exit 0)) (oK [3,7,40,41,42] (oS (.block 1 (oX [oA 44 (.iaddr 1 o0 (oO 40) (oO 42)),oL 45 44,oM 9 45] [3,7,9,40,41,42] (.draw 999 [10,11,12,13,102,103,104,105,109,110,111,112,113,203,204,205,209,210,211,212,213,304,305,309,310,311,312,313,405,409,410,411,412,413,509,510,511,512,513,607,608,609,610,611,612,613,708,709,710,711,712,713,809,810,811,812,813,910,911,912,913,1011,1012,1013,1112,1113,1213] [oL 46 7,oL 47 7,o6 48 47,oF 49 0 48,oF 50 9 49,oL 51 50,oM 52 9,oC 53 143 [oO 52],oA 54 (.mkSl true 24 1 o0 1 [(0,oO 53)]),oA 55 (.app 51 24 1 24 o0 (oO 51) (oO 54)),oT 56 (.nilc (oO 46)),oT 57 (.faddr 0 (oO 56)),oT 58 (.faddr 9 (oO 57)),⟨none,none,.store true 1 (oO 58) (oO 55),true⟩]))) (oK [3,7,40,41,42] (oR [oB 59 .add 3 42 (oN 1),oM 42 59])))))
def c113k2 : AC:=oS (.draw 999 [3,4,5,6,7,8,9,10,12,13,14,15,16,17,18,19,20,21,22,23,24,25,26,28,29,30,31,102,103,104,105,106,107,108,109,110,112,113,114,115,116,117,118,119,120,121,122,123,124,125,126,128,129,130,131,203,204,205,206,207,208,209,210,212,213,214,215,216,217,218,219,220,221,222,223,224,225,226,228,229,230,231,304,305,306,307,308,309,310,312,313,314,315,316,317,318,319,320,321,322,323,324,325,326,328,329,330,331,405,406,407,408,409,410,412,413,414,415,416,417,418,419,420,421,422,423,424,425,426,428,429,430,431,508,509,510,512,513,514,515,516,517,518,519,520,521,522,523,524,525,526,528,529,530,531,607,608,609,610,612,613,614,615,616,617,618,619,620,621,622,623,624,625,626,628,629,630,631,708,709,710,712,713,714,715,716,717,718,719,720,721,722,723,724,725,726,728,729,730,731,809,810,812,813,814,815,816,817,818,819,820,821,822,823,824,825,826,828,829,830,831,910,912,913,914,915,916,917,918,919,920,921,922,923,924,925,926,928,929,930,931,1012,1013,1014,1015,1016,1017,1018,1019,1020,1021,1022,1023,1024,1025,1026,1028,1029,1030,1031,1112,1113,1114,1115,1116,1117,1118,1119,1120,1121,1122,1123,1124,1125,1126,1128,1129,1130,1131,1213,1214,1215,1216,1217,1218,1219,1220,1221,1222,1223,1224,1225,1226,1228,1229,1230,1231,1314,1315,1316,1317,1318,1319,1320,1321,1322,1323,1324,1325,1326,1328,1329,1330,1331,1415,1418,1419,1420,1421,1422,1423,1424,1425,1426,1428,1429,1430,1431,1518,1519,1520,1521,1522,1523,1524,1525,1526,1528,1529,1530,1531,1617,1618,1619,1620,1621,1622,1623,1624,1625,1626,1628,1629,1630,1631,1718,1719,1720,1721,1722,1723,1724,1725,1726,1728,1729,1730,1731,1819,1820,1821,1822,1823,1824,1825,1826,1828,1829,1830,1831,1920,1921,1922,1923,1924,1925,1926,1928,1929,1930,1931,2021,2022,2023,2024,2025,2026,2028,2029,2030,2031,2122,2123,2124,2125,2126,2128,2129,2130,2131,2223,2224,2225,2226,2228,2229,2230,2231,2324,2325,2326,2328,2329,2330,2331,2425,2426,2428,2429,2430,2431,2526,2528,2529,2530,2531,2628,2629,2630,2631,2728,2729,2730,2731,2829,2830,2831,2930,2931,3031] [oM 121 13,oF 122 4 3,oL 123 122,oA 124 (.call (oO 121) [oO 123]),oA 125 (.mvs (oO 124)),oD 126 125 true 13,oE 127 125 true 5 3,oJ 128 125 true 127,oG 129 125 true (.call (oO 126) [oO 128]),oP 130 125 129,oC 131 95 [oO 130,oN 13],oL 132 7,oC 133 120 [oO 132],oA 134 (.mvs (oO 133)),oJ 135 134 true 7,oG 136 134 true (.call (.func 121) [oO 135]),oE 137 134 true 0 3,oJ 138 134 true 137,oG 139 134 true (.bin .leq 3 (oO 136) (oO 138)),oP 140 134 139,oA 141 (.un .not (oO 140)),oA 142 (.mvs (oO 141)),oJ 143 142 true 7,oG 144 142 true (.call (.func 149) [oO 143]),oG 145 142 true (.un .not (oO 144)),oP 146 142 145,oC 147 95 [oO 146,oN 22],oL 148 7,oT 149 (.call (.func 150) [oO 148]),oT 150 (.mkSl false 27 1 o1 3 [(0,oO 131),(1,oO 147),(2,oO 149)]),oT 151 (.call (.func 91) [oO 150]),oT 12 (.mv (oO 151))]) (oK [7,12] (oS (oX [oM 152 12,oB 153 .neq 27 152 (oN 0)] [7,12,153] (oI 153 (oX [oM 154 12,oA 4 (.mv (.const (.pointer none))),oM 5 154] [4,5] .ret))) (oK [7] (oX [oL 155 7,oM 4 155,oV 5 0] [4,5] .ret))))
def c113k3 : AC:=oS (.draw 999 [1,2,3,5,9,10,11,12,13,14,15,16,17,18,19,20,21,22,23,24,25,26,27,28,30,31,32,33,34,102,103,105,109,110,111,112,113,114,115,116,117,118,119,120,121,122,123,124,125,126,127,128,130,131,132,133,134,203,205,209,210,211,212,213,214,215,216,217,218,219,220,221,222,223,224,225,226,227,228,230,231,232,233,234,305,309,310,311,312,313,314,315,316,317,318,319,320,321,322,323,324,325,326,327,328,330,331,332,333,334,405,409,410,411,412,413,414,415,416,417,418,419,420,421,422,423,424,425,426,427,428,430,431,432,433,434,509,510,511,512,513,514,515,516,517,518,519,520,521,522,523,524,525,526,527,528,530,531,532,533,534,609,610,611,612,613,614,615,616,617,618,619,620,621,622,623,624,625,626,627,628,630,631,632,633,634,708,709,710,711,712,713,714,715,716,717,718,719,720,721,722,723,724,725,726,727,728,730,731,732,733,734,809,810,811,812,813,814,815,816,817,818,819,820,821,822,823,824,825,826,827,828,830,831,832,833,834,910,911,912,913,914,915,916,917,918,919,920,921,922,923,924,925,926,927,928,930,931,932,933,934,1011,1012,1013,1014,1015,1016,1017,1018,1019,1020,1021,1022,1023,1024,1025,1026,1027,1028,1030,1031,1032,1033,1034,1114,1115,1116,1117,1118,1119,1120,1121,1122,1123,1124,1125,1126,1127,1128,1130,1131,1132,1133,1134,1213,1214,1215,1216,1217,1218,1219,1220,1221,1222,1223,1224,1225,1226,1227,1228,1230,1231,1232,1233,1234,1314,1315,1316,1317,1318,1319,1320,1321,1322,1323,1324,1325,1326,1327,1328,1330,1331,1332,1333,1334,1415,1416,1417,1418,1419,1420,1421,1422,1423,1424,1425,1426,1427,1428,1430,1431,1432,1433,1434,1516,1517,1518,1519,1520,1521,1522,1523,1524,1525,1526,1527,1528,1530,1531,1532,1533,1534,1617,1618,1619,1620,1621,1622,1623,1624,1625,1626,1627,1628,1630,1631,1632,1633,1634,1720,1721,1722,1723,1724,1725,1726,1727,1728,1730,1731,1732,1733,1734,1819,1820,1821,1822,1823,1824,1825,1826,1827,1828,1830,1831,1832,1833,1834,1920,1921,1922,1923,1924,1925,1926,1927,1928,1930,1931,1932,1933,1934,2021,2022,2023,2024,2025,2026,2027,2028,2030,2031,2032,2033,2034,2122,2123,2124,2125,2126,2127,2128,2130,2131,2132,2133,2134,2223,2224,2225,2226,2227,2228,2230,2231,2232,2233,2234,2326,2327,2328,2330,2331,2332,2333,2334,2425,2426,2427,2428,2430,2431,2432,2433,2434,2526,2527,2528,2530,2531,2532,2533,2534,2627,2628,2630,2631,2632,2633,2634,2728,2730,2731,2732,2733,2734,2830,2831,2832,2833,2834,2930,2931,2932,2933,2934,3031,3032,3033,3034,3132,3133,3134,3233,3234,3334] [oF 83 1 3,oL 84 83,oC 85 96 [oO 84,oN 0,oN 3],oC 86 95 [oO 85,oN 15],oA 87 (.mvs (oO 11)),oC 88 95 [oO 87,oN 2],oL 89 7,oF 90 3 3,oL 91 90,oC 92 145 [oO 89,oO 91],oA 93 (.mvs (oO 92)),oJ 94 93 true 7,oE 95 93 true 6 3,oJ 96 93 true 95,oG 97 93 true (.call (.func 145) [oO 94,oO 96]),oP 98 93 97,oA 99 (.mvs (oO 98)),oD 100 99 true 10,oE 101 99 true 4 3,oJ 102 99 true 101,oG 103 99 true (.call (oO 100) [oO 102]),oP 104 99 103,oA 105 (.mvs (oO 104)),oD 106 105 true 10,oE 107 105 true 5 3,oJ 108 105 true 107,oG 109 105 true (.call (oO 106) [oO 108]),oP 110 105 109,oC 111 95 [oO 110,oN 6],oL 112 7,oT 113 (.call (.func 146) [oO 112]),oT 114 (.call (.func 95) [oO 113,oN 3]),oT 115 (.mkSl false 27 1 o1 4 [(0,oO 86),(1,oO 88),(2,oO 111),(3,oO 114)]),oT 116 (.call (.func 91) [oO 115]),oT 12 (.mv (oO 116))]) (oK [3,7,12] (oS (oX [oM 117 12,oB 118 .neq 27 117 (oN 0)] [3,7,12,118] (oI 118 (oX [oM 119 12,oA 4 (.mv (.const (.pointer none))),oM 5 119] [4,5] .ret))) (oK [3,7] (oX [oA 120 (.mkFn (.func 147) [] [oO 7]),oM 13 120] [3,7,13] (.cut c113k2)))))
def c113 : AC:=oX [o7 2 0,o7 3 1,oA 4 (.mv (.const (.pointer none))),oV 5 0] [2,3] (oS (oS (oQ [o5 14 3 2,oC 15 101 [oO 14],oF 16 9 3,oL 17 16,o4 18 17,oF 19 0 2,oL 20 19,o4 21 20,oB 22 .eql 3 18 (oO 21),oT 23 (.call (.func 95) [oO 22,oN 10]),oT 24 (.mkSl false 27 1 o1 2 [(0,oO 15),(1,oO 23)]),oT 25 (.call (.func 91) [oO 24]),oT 6 (.mv (oO 25))]) (oK [2,3,6] (oX [oM 26 6,oB 27 .neq 27 26 (oN 0)] [2,3,6,27] (oI 27 (oX [oM 28 6,oA 4 (.mv (.const (.pointer none))),oM 5 28] [4,5] .ret))))) (oK [2,3] (oX [o5 29 3 2,oC 30 107 [oO 29,oN 0],oA 7 (.alloc [.pointer none]),oW 1 7 30] [3,7] (oX [oL 31 7,o5 32 10 3,o6 33 31,oF 34 0 33,oW 10 34 32] [3,7] (oX [oL 35 7,o6 36 35,oF 37 0 36,oF 38 9 37,oY false 1 (oO 38) (.const (.slice none 0 0))] [3,7] (oS (oX [oF 39 9 3,oL 40 39,o4 41 40,oV 42 0] [3,7,40,41,42] (.block 0 (.loop c113l1))) (oK [3,7] (oX [oA 60 (.mkFn (.func 144) [] [oO 7]),oM 10 60] [3,7,10] (oX [oF 61 0 3,oL 62 61,oC 63 102 [oO 62],oM 64 63,oE 65 64 true 2 3,oJ 66 64 true 65,oE 67 64 true 0 3,oJ 68 64 true 67,oG 69 64 true (.call (.func 96) [oO 66,oN 0,oO 68]),oP 70 64 69,oM 71 70,oE 72 71 true 7 3,oJ 73 71 true 72,oG 74 71 true (.call (.func 96) [oO 73,oN 0,oN 1000000]),oP 75 71 74,oM 76 75,oE 77 76 true 8 3,oJ 78 76 true 77,oE 79 76 true 7 3,oJ 80 76 true 79,oG 81 76 true (.call (.func 96) [oO 78,oN 0,oO 80]),oP 82 76 81,oM 11 82] [3,7,10,11] (.cut c113k3))))))))))
def rv113 : List RV:=[.tmp 4,.tmp 5]
theorem is113 : FnIs Tryz.prog 113 156 c113 rv113:=⟨⟨Tryz.f113,_,Tryz.func113,by kernel_rfl,rfl,rfl,by kernel_rfl,by kernel_rfl⟩,by decide⟩
end Go.Proofs.YtcbabnbiinkafaaGreatDoor.E2
end
section
open Go Go.Am
open Go.Am.Dat (cells)
namespace Go.Proofs.YtcbabnbiinkafaaGreatDoor.E3
set_option maxRecDepth 100000
def c143k1 : AC:=.ret
def c143k2 : AC:=.ret
def c143 : AC:=oX [oA 2 (.mv (.const (.slice none 0 0)))] [0] (oS (oX [oM 3 0,oA 4 (.ext (.isnil false) [oO 3])] [0,4] (oI 4 (oX [oA 2 (.mv (.const (.slice none 0 0)))] [2] (.cut c143k1)))) (oK [0] (oX [oA 5 (.mkSl true 3 1 o1 0 []),oM 6 0,oA 7 (.app 24 3 1 8 o1 (oO 5) (oO 6)),oM 2 7] [2] (.cut c143k2))))
def rv143 : List RV:=[.tmp 2]
theorem is143 : FnIs Tryz.prog 143 8 c143 rv143:=⟨⟨Tryz.f143,_,Tryz.func143,by kernel_rfl,rfl,rfl,by kernel_rfl,by kernel_rfl⟩,by decide⟩
end Go.Proofs.YtcbabnbiinkafaaGreatDoor.E3
end
section
open Go Go.Am
open Go.Am.Dat (cells)
namespace Go.Proofs.YtcbabnbiinkafaaGreatDoor.E4
set_option maxRecDepth 100000
def c67l1 : AC:=oS (oX [oM 205 10,oM 206 9,o4 207 206,oB 208 .lss 3 205 (oO 207)] [3,5,6,8,9,10,208] (.cond (oO 208) .skip (.exit 2))) (oK [3,5,6,8,9,10] (oS (.block 3 (oS (oS (oQ [oM 211 9,oA 212 (.mvs (oO 10)),oA 213 (.iaddr 1 o1 (oO 211) (oO 212)),oL 214 213,oF 215 7 3,oL 216 215,oB 217 .sub 3 216 (oN 1),oT 218 (.call (.func 31) [oO 214,oN 0,oO 217]),oT 219 (.un .not (oO 218))]) (oK [3,5,6,8,9,10,219] (oI 219 (oX [oV 4 2] [4] .ret)))) (oK [3,5,6,8,9,10] (oS (oS (oQ [oT 220 (.mv (oO 10)),oT 221 (.bin .gtr 3 (oO 220) (oN 0)),oT 222 (.mv (oO 221)),oD 223 222 true 9,oD 224 222 true 10,oG 225 222 true (.iaddr 1 o1 (oO 223) (oO 224)),oJ 226 222 true 225,oD 227 222 true 9,oD 228 222 true 10,oG 229 222 true (.bin .sub 3 (oO 228) (oN 1)),oG 230 222 true (.iaddr 1 o1 (oO 227) (oO 229)),oJ 231 222 true 230,⟨some 232,some (222,true),.bin .leq 3 (oO 226) (oO 231),true⟩,oT 233 (.pick (oO 222) (oO 232) (.const (.bool false)))]) (oK [3,5,6,8,9,10,233] (oI 233 (oX [oV 4 9] [4] .ret)))) (oK [3,5,6,8,9,10] (oS (oQ [o5 234 10 3,oA 235 (.mvs (oO 8)),oM 236 9,oM 237 10,oA 238 (.iaddr 1 o1 (oO 236) (oO 237)),oL 239 238,oT 240 (.call (.func 117) [oO 234,oO 235,oO 239]),oT 241 (.bin .geq 3 (oO 240) (oN 0))]) (oK [3,5,6,8,9,10,241] (oI 241 (oX [oV 4 26] [4] .ret))))))))) (oK [3,5,6,8,9,10] (oR [oM 209 10,oB 210 .add 3 209 (oN 1),oM 10 210]))))
def c67l2 : AC:=oS (oX [oM 193 8,oF 194 9 3,oL 195 194,o4 196 195,oB 197 .lss 3 193 (oO 196)] [3,5,6,8,197] (.cond (oO 197) .skip (.exit 0))) (oK [3,5,6,8] (oS (.block 1 (oX [oF 200 9 3,oL 201 200,oM 202 8,oA 203 (.iaddr 1 o0 (oO 201) (oO 202)),oL 204 203,oM 9 204] [3,5,6,8,9] (oX [oV 10 0] [3,5,6,8,9,10] (.block 2 (.loop c67l1))))) (oK [3,5,6,8] (oR [oM 198 8,oB 199 .add 3 198 (oN 1),oM 8 199]))))
def c67l3 : AC:=oS (oX [oM 242 11,oF 243 9 3,oL 244 243,o4 245 244,oB 246 .lss 3 242 (oO 245)] [3,5,6,11,246] (.cond (oO 246) .skip (.exit 4))) (oK [3,5,6,11] (oS (.block 5 (oX [oF 249 9 3,oL 250 249,oM 251 11,oA 252 (.iaddr 1 o0 (oO 250) (oO 251)),oL 253 252,o4 254 253,oB 255 .gtr 3 254 (oN 0),oM 256 255,oD 257 256 true 11,oE 258 256 true 3 3,oJ 259 256 true 258,oG 260 256 true (.bin .neq 3 (oO 257) (oO 259)),oP 261 256 260,oM 262 261,oD 263 262 true 6,oD 264 262 true 263,oD 265 264 true 11,oE 266 264 true 5 3,oJ 267 264 true 266,oG 268 264 true (.bin .eql 3 (oO 265) (oO 267)),oG 269 262 true (.pick (oO 264) (oO 268) (.const (.bool false))),oG 270 262 true (.un .not (oO 269)),oP 271 262 270,oM 272 271,oD 273 272 true 5,oD 274 272 true 273,oG 275 274 true (.load true 10 (oO 3)),oG 276 274 true (.call (.func 112) [oO 275]),oG 277 272 true (.pick (oO 274) (oO 276) (.const (.bool false))),oD 278 272 true 277,oD 279 278 true 11,oE 280 278 true 4 3,oJ 281 278 true 280,oG 282 278 true (.bin .eql 3 (oO 279) (oO 281)),oG 283 272 true (.pick (oO 278) (oO 282) (.const (.bool false))),oG 284 272 true (.un .not (oO 283)),oP 285 272 284] [3,5,6,11,285] (oI 285 (oX [oV 4 23] [4] .ret)))) (oK [3,5,6,11] (oR [oM 247 11,oB 248 .add 3 247 (oN 1),oM 11 248]))))
def c67l4 : AC:=oS (oX [oM 294 12,oF 295 7 3,oL 296 295,oB 297 .lss 3 294 (oO 296)] [3,12,297] (.cond (oO 297) .skip (.exit 6))) (oK [3,12] (oS (.block 7 (oX [o5 300 10 3,oF 301 9 3,oL 302 301,o4 303 302,oM 304 12,oC 305 117 [oO 300,oO 303,oO 304],oB 306 .lss 3 305 (oN 0)] [3,12,306] (oI 306 (oX [oV 4 14] [4] .ret)))) (oK [3,12] (oR [oM 298 12,oB 299 .add 3 298 (oN 1),oM 12 299]))))
def c67k5 : AC:=oS (oX [oF 286 7 3,oL 287 286,oF 288 8 3,oL 289 288,oB 290 .sub 3 287 (oO 289),oB 291 .gtr 3 290 (oN 60)] [3,291] (oI 291 (oX [oV 4 14] [4] .ret))) (oK [3] (oS (oX [oF 292 8 3,oL 293 292,oM 12 293] [3,12] (.block 6 (.loop c67l4))) (oK [] (oX [oV 4 0] [4] .ret))))
def c67k6 : AC:=oS (oX [oV 11 0] [3,5,6,11] (.block 4 (.loop c67l3))) (oK [3] (.cut c67k5))
def c67k7 : AC:=oS (oX [oV 8 0] [3,5,6,8] (.block 0 (.loop c67l2))) (oK [3,5,6] (.cut c67k6))
def c67k8 : AC:=oS (oX [o5 190 10 3,oC 191 116 [oO 190],oB 192 .gtr 3 191 (oN 60)] [3,5,6,192] (oI 192 (oX [oV 4 8] [4] .ret))) (oK [3,5,6] (.cut c67k7))
def c67k9 : AC:=oS (oX [o5 158 10 3,oC 159 112 [oO 158],oM 160 159,oE 161 160 true 2 3,oJ 162 160 true 161,oE 163 160 true 2 2,oJ 164 160 true 163,oG 165 160 true (.bin .add 3 (oO 162) (oO 164)),oE 166 160 true 0 3,oJ 167 160 true 166,oG 168 160 true (.bin .leq 3 (oO 165) (oO 167)),oP 169 160 168,oM 170 169,oD 171 170 false 6,oD 172 170 false 171,oE 173 172 true 9 3,oJ 174 172 true 173,oE 175 172 true 5 3,oJ 176 172 true 175,oG 177 172 true (.iaddr 1 o0 (oO 174) (oO 176)),oJ 178 172 true 177,oG 179 172 true (.len false (oO 178)),oG 180 172 true (.bin .eql 3 (oO 179) (oN 0)),oG 181 170 false (.pick (oO 172) (oO 180) (.const (.bool false))),oD 182 170 false 181,oE 183 182 true 6 3,oJ 184 182 true 183,oE 185 182 true 3 3,oJ 186 182 true 185,oG 187 182 true (.bin .eql 3 (oO 184) (oO 186)),oG 188 170 false (.pick (oO 182) (oO 187) (.const (.bool false))),oH 189 170 188] [3,5,6,189] (oI 189 (oX [oV 4 22] [4] .ret))) (oK [3,5,6] (.cut c67k8))
def c67k10 : AC:=oS (oX [oM 136 5,oM 137 136,oG 138 137 true (.load true 3 (oO 2)),oE 139 137 true 4 3,oJ 140 137 true 139,oE 141 137 true 3 3,oJ 142 137 true 141,oG 143 137 true (.call (.func 115) [oO 138,oO 140,oO 142]),oG 144 137 true (.un .not (oO 143)),oP 145 137 144,oM 146 145,oD 147 146 false 6,oD 148 146 false 147,oG 149 148 true (.load true 3 (oO 2)),oE 150 148 true 5 3,oJ 151 148 true 150,oE 152 148 true 3 3,oJ 153 148 true 152,oG 154 148 true (.call (.func 115) [oO 149,oO 151,oO 153]),oG 155 148 true (.un .not (oO 154)),oG 156 146 false (.pick (oO 148) (oO 155) (.const (.bool false))),oH 157 146 156] [2,3,5,6,157] (oI 157 (oX [oV 4 13] [4] .ret))) (oK [2,3,5,6] (.cut c67k9))
def c67k11 : AC:=oX [oF 88 1 3,oL 89 88,oB 90 .eql 3 89 (oN 1),oM 91 90,oE 92 91 false 1 3,oJ 93 91 false 92,oG 94 91 false (.bin .eql 3 (oO 93) (oN 2)),oH 95 91 94,oM 7 95] [2,3,5,6,7] (oS (oX [oM 96 5,oM 97 96,oE 98 97 true 1 3,oJ 99 97 true 98,oG 100 97 true (.bin .eql 3 (oO 99) (oN 0)),oP 101 97 100,oM 102 101,oD 103 102 false 5,oG 104 102 false (.un .not (oO 103)),oD 105 102 false 104,oD 106 105 true 7,oG 107 102 false (.pick (oO 105) (oO 106) (.const (.bool false))),oH 108 102 107,oM 109 108,oD 110 109 false 6,oD 111 109 false 110,oD 112 111 true 7,oD 113 111 true 112,oD 114 113 false 5,oG 115 111 true (.pick (oO 113) (.const (.bool true)) (oO 114)),oG 116 109 false (.pick (oO 111) (oO 115) (.const (.bool false))),oH 117 109 116,oM 118 117,oE 119 118 false 6 3,oJ 120 118 false 119,oE 121 118 false 3 3,oJ 122 118 false 121,oG 123 118 false (.bin .neq 3 (oO 120) (oO 122)),oD 124 118 false 123,oD 125 124 true 6,oG 126 124 true (.un .not (oO 125)),oD 127 124 true 126,oE 128 127 false 6 3,oJ 129 127 false 128,oE 130 127 false 5 3,oJ 131 127 false 130,oG 132 127 false (.bin .neq 3 (oO 129) (oO 131)),oG 133 124 true (.pick (oO 127) (.const (.bool true)) (oO 132)),oG 134 118 false (.pick (oO 124) (oO 133) (.const (.bool false))),oH 135 118 134] [2,3,5,6,135] (oI 135 (oX [oV 4 3] [4] .ret))) (oK [2,3,5,6] (.cut c67k10)))
def c67k12 : AC:=oS (oQ [oF 50 4 3,oL 51 50,oB 52 .neq 3 51 (oN (-1)),oF 53 5 3,oL 54 53,oB 55 .neq 3 54 (oN (-1)),oM 5 52,oT 6 (.mv (oO 55))]) (oK [2,3,5,6] (oS (oX [o5 56 3 2,oF 57 3 3,oL 58 57,oC 59 99 [oO 56,oO 58],oA 60 (.un .not (oO 59)),oM 61 60,oG 62 61 false (.load true 3 (oO 2)),oE 63 61 false 6 3,oJ 64 61 false 63,oG 65 61 false (.call (.func 99) [oO 62,oO 64]),oG 66 61 false (.un .not (oO 65)),oH 67 61 66,oM 68 67,oD 69 68 false 5,oD 70 68 false 69,oG 71 70 true (.load true 3 (oO 2)),oE 72 70 true 4 3,oJ 73 70 true 72,oG 74 70 true (.call (.func 99) [oO 71,oO 73]),oG 75 70 true (.un .not (oO 74)),oG 76 68 false (.pick (oO 70) (oO 75) (.const (.bool false))),oH 77 68 76,oM 78 77,oD 79 78 false 6,oD 80 78 false 79,oG 81 80 true (.load true 3 (oO 2)),oE 82 80 true 5 3,oJ 83 80 true 82,oG 84 80 true (.call (.func 99) [oO 81,oO 83]),oG 85 80 true (.un .not (oO 84)),oG 86 78 false (.pick (oO 80) (oO 85) (.const (.bool false))),oH 87 78 86] [2,3,5,6,87] (oI 87 (oX [oV 4 6] [4] .ret))) (oK [2,3,5,6] (.cut c67k11))))
def c67 : AC:=oX [o7 2 0,o7 3 1,oV 4 0] [2,3] (oS (oX [oF 13 9 3,oL 14 13,o4 15 14,oF 16 0 2,oL 17 16,o4 18 17,oB 19 .neq 3 15 (oO 18)] [2,3,19] (oI 19 (oX [oV 4 10] [4] .ret))) (oK [2,3] (oS (oX [oF 20 1 3,oL 21 20,oC 22 31 [oO 21,oN 0,oN 3],oA 23 (.un .not (oO 22))] [2,3,23] (oI 23 (oX [oV 4 15] [4] .ret))) (oK [2,3] (oS (oX [oF 24 0 3,oL 25 24,oC 26 31 [oO 25,oN 0,oN 1000000000],oA 27 (.un .not (oO 26)),oM 28 27,oE 29 28 false 2 3,oJ 30 28 false 29,oE 31 28 false 0 3,oJ 32 28 false 31,oG 33 28 false (.call (.func 31) [oO 30,oN 0,oO 32]),oG 34 28 false (.un .not (oO 33)),oH 35 28 34,oM 36 35,oE 37 36 false 7 3,oJ 38 36 false 37,oG 39 36 false (.call (.func 31) [oO 38,oN 0,oN 1000000]),oG 40 36 false (.un .not (oO 39)),oH 41 36 40,oM 42 41,oE 43 42 false 8 3,oJ 44 42 false 43,oE 45 42 false 7 3,oJ 46 42 false 45,oG 47 42 false (.call (.func 31) [oO 44,oN 0,oO 46]),oG 48 42 false (.un .not (oO 47)),oH 49 42 48] [2,3,49] (oI 49 (oX [oV 4 2] [4] .ret))) (oK [2,3] (.cut c67k12)))))))
def rv67 : List RV:=[.tmp 4]
theorem is67 : FnIs Tryz.prog 67 307 c67 rv67:=⟨⟨Tryz.f67,_,Tryz.func67,by kernel_rfl,rfl,rfl,by kernel_rfl,by kernel_rfl⟩,by decide⟩
end Go.Proofs.YtcbabnbiinkafaaGreatDoor.E4
end
section
open Go Go.Am
open Go.Am.Dat (cells)
namespace Go.Proofs.YtcbabnbiinkafaaGreatDoor.E6
set_option maxRecDepth 100000
def c19k1 : AC:=oS (oX [oM 217 20,oB 218 .neq 27 217 (oN 0),oM 219 218,oD 220 219 false 22,oG 221 219 false (.bin .neq 27 (oO 220) (oN 0)),oH 222 219 221,oM 223 222,oD 224 223 false 24,oG 225 223 false (.bin .neq 27 (oO 224) (oN 0)),oH 226 223 225,oM 227 226,oD 228 227 false 19,oD 229 227 false 21,oG 230 227 false (.call (.func 30) [oO 228,oO 229]),oG 231 227 false (.un .not (oO 230)),oH 232 227 231,oM 233 232,oD 234 233 false 19,oD 235 233 false 23,oG 236 233 false (.call (.func 30) [oO 234,oO 235]),oG 237 233 false (.un .not (oO 236)),oH 238 233 237] [3,5,11,12,238] (oI 238 (oX [o9 6 false] [6] .ret))) (oK [3,5,11,12] (oS (.draw 999 [1,5,6,7,8,9,10,11,105,106,107,108,109,110,111,203,206,207,208,209,210,211,306,307,308,309,310,311,405,406,407,408,409,410,411,506,507,508,509,510,511,607,608,609,610,611,708,709,710,711,810,811,911,1011] [o5 240 3 3,oC 241 37 [oO 240],oA 242 (.iarr 3 1 (oO 5) (oN 0)),oL 243 242,oM 244 11,oC 245 38 [oO 244],oT 246 (.call (.func 56) [oO 241,oO 243,oO 245]),oT 239 (.mv (oO 246)),o8 247 239 0,o8 248 239 1,oM 25 247,oT 26 (.mv (oO 248))]) (oK [3,5,12,25,26] (oS (.draw 999 [1,5,6,7,8,9,10,11,105,106,107,108,109,110,111,203,206,207,208,209,210,211,306,307,308,309,310,311,405,406,407,408,409,410,411,506,507,508,509,510,511,607,608,609,610,611,708,709,710,711,810,811,911,1011] [o5 250 3 3,oC 251 37 [oO 250],oA 252 (.iarr 3 1 (oO 5) (oN 0)),oL 253 252,oM 254 12,oC 255 38 [oO 254],oT 256 (.call (.func 56) [oO 251,oO 253,oO 255]),oT 249 (.mv (oO 256)),o8 257 249 0,o8 258 249 1,oM 27 257,oT 28 (.mv (oO 258))]) (oK [3,5,25,26,27,28] (oX [oM 259 26,oB 260 .eql 27 259 (oN 0),oM 261 260,oD 262 261 true 25,oG 263 261 true (.iarr 3 1 (oO 5) (oN 2)),oJ 264 261 true 263,oE 265 261 true 2 3,oJ 266 261 true 265,oG 267 261 true (.call (.func 31) [oO 262,oO 264,oO 266]),oP 268 261 267,oM 269 268,oD 270 269 true 28,oG 271 269 true (.bin .eql 27 (oO 270) (oN 0)),oP 272 269 271,oM 273 272,oD 274 273 true 27,oE 275 273 true 2 3,oJ 276 273 true 275,oG 277 273 true (.bin .eql 3 (oO 274) (oO 276)),oP 278 273 277,oM 6 278] [6] .ret))))))
def c19k2 : AC:=oS (oQ [o5 194 3 3,oC 195 37 [oO 194],o5 196 10 7,oT 197 (.call (.func 65) [oO 196]),oT 198 (.call (.func 72) [oO 195,oO 197]),oT 193 (.mv (oO 198)),o8 199 193 0,o8 200 193 1,oM 19 199,oT 20 (.mv (oO 200))]) (oK [3,5,11,12,13,16,19,20] (oS (oQ [o5 202 3 3,oC 203 37 [oO 202],o5 204 10 13,oT 205 (.call (.func 65) [oO 204]),oT 206 (.call (.func 72) [oO 203,oO 205]),oT 201 (.mv (oO 206)),o8 207 201 0,o8 208 201 1,oM 21 207,oT 22 (.mv (oO 208))]) (oK [3,5,11,12,16,19,20,21,22] (oS (oQ [o5 210 3 3,oC 211 37 [oO 210],o5 212 10 16,oT 213 (.call (.func 65) [oO 212]),oT 214 (.call (.func 72) [oO 211,oO 213]),oT 209 (.mv (oO 214)),o8 215 209 0,o8 216 209 1,oM 23 215,oT 24 (.mv (oO 216))]) (oK [3,5,11,12,19,20,21,22,23,24] (.cut c19k1))))))
def c19k3 : AC:=oS (oX [oM 145 15,oB 146 .neq 27 145 (oN 0),oM 147 146,oD 148 147 false 18,oG 149 147 false (.bin .neq 27 (oO 148) (oN 0)),oH 150 147 149,oM 151 150,oG 152 151 false (.load true 3 (oO 3)),oG 153 151 false (.load true 10 (oO 13)),oG 154 151 false (.call (.func 67) [oO 152,oO 153]),oG 155 151 false (.bin .neq 3 (oO 154) (oN 0)),oH 156 151 155,oM 157 156,oG 158 157 false (.load true 3 (oO 3)),oG 159 157 false (.load true 10 (oO 16)),oG 160 157 false (.call (.func 67) [oO 158,oO 159]),oG 161 157 false (.bin .neq 3 (oO 160) (oN 0)),oH 162 157 161] [3,5,7,11,12,13,16,162] (oI 162 (oX [o9 6 false] [6] .ret))) (oK [3,5,7,11,12,13,16] (oS (oX [oF 163 1 13,oL 164 163,oB 165 .neq 3 164 (oN 0),oM 166 165,oE 167 166 false 3 13,oJ 168 166 false 167,oE 169 166 false 3 7,oJ 170 166 false 169,oG 171 166 false (.bin .neq 3 (oO 168) (oO 170)),oH 172 166 171,oM 173 172,oE 174 173 false 1 16,oJ 175 173 false 174,oG 176 173 false (.bin .neq 3 (oO 175) (oN 0)),oH 177 173 176,oM 178 177,oE 179 178 false 3 16,oJ 180 178 false 179,oG 181 178 false (.bin .neq 3 (oO 180) (oN 0)),oH 182 178 181,oM 183 182,oE 184 183 false 2 16,oJ 185 183 false 184,oG 186 183 false (.iarr 3 1 (oO 5) (oN 1)),oJ 187 183 false 186,oE 188 183 false 2 3,oJ 189 183 false 188,oG 190 183 false (.bin .add 3 (oO 187) (oO 189)),oG 191 183 false (.bin .neq 3 (oO 185) (oO 190)),oH 192 183 191] [3,5,7,11,12,13,16,192] (oI 192 (oX [o9 6 false] [6] .ret))) (oK [3,5,7,11,12,13,16] (.cut c19k2))))
def c19k4 : AC:=oS (.draw 999 [1,6,7,106,107,203,204,205,206,207,304,305,306,307,405,406,407,506,507,607] [oM 94 1,oC 95 38 [oO 94],oA 96 (.iarr 3 1 (oO 5) (oN 1)),oL 97 96,oA 98 (.build o3 [(0,1,oN 9),(1,1,oO 97)]),oA 99 (.mkSl false 83 3 o3 1 [(0,oO 98)]),oT 100 (.app 48 83 3 24 o3 (oO 95) (oO 99)),oT 10 (.mv (oO 100))]) (oK [3,5,7,10] (.fz [95,100,10] (oS (.draw 999 [1,11,12,111,112,203,206,209,210,211,212,306,309,310,311,312,405,406,409,410,411,412,506,509,510,511,512,609,610,611,612,708,709,710,711,712,809,810,811,812,910,911,912,1011,1012,1112] [oM 101 10,oC 102 38 [oO 101],oA 103 (.iarr 3 1 (oO 5) (oN 1)),oL 104 103,oA 105 (.iarr 3 1 (oO 5) (oN 2)),oL 106 105,oB 107 .add 3 104 (oO 106),oF 108 3 7,oL 109 108,oA 110 (.build o3 [(0,1,oN 10),(1,1,oO 107),(2,1,oO 109)]),oA 111 (.mkSl false 83 3 o3 1 [(0,oO 110)]),oT 112 (.app 48 83 3 24 o3 (oO 102) (oO 111)),oT 11 (.mv (oO 112))]) (oK [3,5,7,10,11] (.fz [102,112,11] (oS (.draw 999 [1,9,10,109,110,203,206,207,208,209,210,306,307,308,309,310,405,406,407,408,409,410,506,507,508,509,510,607,608,609,610,708,709,710,809,810,910] [oM 113 10,oC 114 38 [oO 113],oA 115 (.iarr 3 1 (oO 5) (oN 1)),oL 116 115,oF 117 2 3,oL 118 117,oB 119 .add 3 116 (oO 118),oA 120 (.build o3 [(0,1,oN 11),(1,1,oO 119)]),oA 121 (.mkSl false 83 3 o3 1 [(0,oO 120)]),oT 122 (.app 48 83 3 24 o3 (oO 114) (oO 121)),oT 12 (.mv (oO 122))]) (oK [3,5,7,11,12] (.fz [114,122,12] (oS (.draw 999 [1,5,6,7,8,9,10,12,13,14,105,106,107,108,109,110,112,113,114,203,206,207,208,209,210,212,213,214,306,307,308,309,310,312,313,314,405,406,407,408,409,410,412,413,414,506,507,508,509,510,512,513,514,607,608,609,610,612,613,614,708,709,710,712,713,714,812,813,814,913,914,1014,1112,1113,1114,1213,1214,1314] [o5 124 3 3,oC 125 37 [oO 124],oA 126 (.iarr 3 1 (oO 5) (oN 0)),oL 127 126,oM 128 11,oC 129 38 [oO 128],oC 130 36 [oO 125,oO 127,oO 129],oM 123 130,o8 131 123 0,o8 132 123 1,o8 133 123 2,oA 13 (.alloc oZ),oW 10 13 131,oM 14 132,oT 15 (.mv (oO 133))]) (oK [3,5,7,11,12,13,15] (oS (.draw 999 [1,5,6,7,8,9,10,12,13,14,105,106,107,108,109,110,112,113,114,203,206,207,208,209,210,212,213,214,306,307,308,309,310,312,313,314,405,406,407,408,409,410,412,413,414,506,507,508,509,510,512,513,514,607,608,609,610,612,613,614,708,709,710,712,713,714,812,813,814,913,914,1014,1112,1113,1114,1213,1214,1314] [o5 135 3 3,oC 136 37 [oO 135],oA 137 (.iarr 3 1 (oO 5) (oN 0)),oL 138 137,oM 139 12,oC 140 38 [oO 139],oC 141 36 [oO 136,oO 138,oO 140],oM 134 141,o8 142 134 0,o8 143 134 1,o8 144 134 2,oA 16 (.alloc oZ),oW 10 16 142,oM 17 143,oT 18 (.mv (oO 144))]) (oK [3,5,7,11,12,13,15,16,18] (.cut c19k3)))))))))))))
def c19 : AC:=oX [o7 3 0,o7 5 2,o9 6 false] [1,3,5] (oS (oX [oC 29 87 [],oA 30 (.un .not (oO 29))] [1,3,5,30] (oI 30 (oX [o9 6 false] [6] .ret))) (oK [1,3,5] (oS (oX [o5 31 3 3,oC 32 34 [oO 31],oA 33 (.un .not (oO 32)),oM 34 33,oD 35 34 false 1,oG 36 34 false (.len false (oO 35)),oG 37 34 false (.bin .gtr 3 (oO 36) (oN 30)),oH 38 34 37,oM 39 38,oG 40 39 false (.load true 3 (oO 3)),oG 41 39 false (.iarr 3 1 (oO 5) (oN 0)),oJ 42 39 false 41,oD 43 39 false 1,oG 44 39 false (.call (.func 53) [oO 40,oO 42,oO 43]),oG 45 39 false (.bin .neq 3 (oO 44) (oN 0)),oH 46 39 45] [1,3,5,46] (oI 46 (oX [o9 6 true] [6] .ret))) (oK [1,3,5] (oS (.draw 999 [1,5,6,7,8,9,10,12,13,14,105,106,107,108,109,110,112,113,114,203,206,207,208,209,210,212,213,214,306,307,308,309,310,312,313,314,405,406,407,408,409,410,412,413,414,506,507,508,509,510,512,513,514,607,608,609,610,612,613,614,708,709,710,712,713,714,812,813,814,913,914,1014,1112,1113,1114,1213,1214,1314] [o5 48 3 3,oC 49 37 [oO 48],oA 50 (.iarr 3 1 (oO 5) (oN 0)),oL 51 50,oM 52 1,oC 53 38 [oO 52],oC 54 36 [oO 49,oO 51,oO 53],oM 47 54,o8 55 47 0,o8 56 47 1,o8 57 47 2,oA 7 (.alloc oZ),oW 10 7 55,oM 8 56,oT 9 (.mv (oO 57))]) (oK [1,3,5,7,9] (oS (oX [oM 58 9,oB 59 .neq 27 58 (oN 0),oM 60 59,oG 61 60 false (.load true 3 (oO 3)),oG 62 60 false (.load true 10 (oO 7)),oG 63 60 false (.call (.func 67) [oO 61,oO 62]),oG 64 60 false (.bin .neq 3 (oO 63) (oN 0)),oH 65 60 64] [1,3,5,7,65] (oI 65 (oX [o9 6 false] [6] .ret))) (oK [1,3,5,7] (oS (oX [oF 66 1 7,oL 67 66,oB 68 .eql 3 67 (oN 2),oM 69 68,oE 70 69 false 1 7,oJ 71 69 false 70,oG 72 69 false (.bin .eql 3 (oO 71) (oN 3)),oH 73 69 72,oM 74 73,oG 75 74 false (.iarr 3 1 (oO 5) (oN 1)),oJ 76 74 false 75,oE 77 74 false 0 7,oJ 78 74 false 77,oE 79 74 false 2 3,oJ 80 74 false 79,oG 81 74 false (.bin .sub 3 (oN 1000000000) (oO 80)),oG 82 74 false (.call (.func 31) [oO 76,oO 78,oO 81]),oG 83 74 false (.un .not (oO 82)),oH 84 74 83,oM 85 84,oG 86 85 false (.iarr 3 1 (oO 5) (oN 2)),oJ 87 85 false 86,oE 88 85 false 2 3,oJ 89 85 false 88,oG 90 85 false (.bin .sub 3 (oO 89) (oN 1)),oG 91 85 false (.call (.func 31) [oO 87,oN 0,oO 90]),oG 92 85 false (.un .not (oO 91)),oH 93 85 92] [1,3,5,7,93] (oI 93 (oX [o9 6 true] [6] .ret))) (oK [1,3,5,7] (.cut c19k4)))))))))))
def rv19 : List RV:=[.tmp 6]
theorem is19 : FnIs Tryz.prog 19 279 c19 rv19:=⟨⟨Tryz.f19,_,Tryz.func19,by kernel_rfl,rfl,rfl,by kernel_rfl,by kernel_rfl⟩,by decide⟩
end Go.Proofs.YtcbabnbiinkafaaGreatDoor.E6
end
section
open Go Go.Am
open Go.Am.Dat (cells)
namespace Go.Proofs.YtcbabnbiinkafaaGreatDoor
set_option maxHeartbeats 4000000
set_option maxRecDepth 100000
theorem B9 (n lo hi:Int):FC Tryz.prog 31 [enc n,enc lo,enc hi] [] (enc (decide (lo<=n/\n<=hi))) []:=by
 refine eP is31 (by simp) (fun cx hl=>dC [] 800 ?_);delta c31 oO oM oG oX oP oB oD o9;simp (maxSteps:=9^7) -implicitDefEqProofs only[rv31,Ent.of0,Ent.of1,Ent.of2,Ent.of3,Ent.of4,V,W3,↓reduceIte,seval,reduceCtorEq];by_cases h:lo<=n <;> simp[h]
def vQ : Ent Tryz.prog:=.of3 31 (fun _ _ _=>True) (fun n lo hi:Int=>enc (decide (lo<=n/\n<=hi))) (fun _ _ _=>trivial) (fun n lo hi _=>B9 n lo hi)
theorem enc_rul (r:Rul):enc r=.agg [.s (.int .i64 r.off),.s (.int .i64 r.hyst),.s (.int .i64 r.trig)]:=rfl
def xc (r:Rul) (s n:Int):Bool:=decide (s+r.off+r.hyst < n)
def over (r:Rul) (s n:Int):Bool:=decide (n < s+r.off - r.hyst)
def trg (r:Rul):List Int->List Int->Nat->Int->Bool->List Int
 | s :: l,n :: m,t,run,armed=>
  let run':=if xc r s n then run+1 else 0
  let armed':=armed || over r s n
  if armed' && decide (r.trig < run')then (t:Int) :: trg r l m (t+1) run' false else trg r l m (t+1) run' armed'
 |_,_,_,_,_=>[]
theorem trg_nil (r:Rul) (m:List Int) (t:Nat) (run:Int) (a:Bool):trg r [] m t run a=[]:=by cases m <;> rfl
def xa (r:Rul) (s n:List Int):List Int:=trg r s n 0 0 true
def cnt (p:Nat->Bool):Nat->Nat
 | 0=>0
 | t+1=>if p t then cnt p t+1 else 0
theorem xS (p:Nat->Bool):∀ (t m:Nat),m < cnt p t↔(m < t/\∀ k,k < t->t<=k+m+1->p k=true)
 | 0,m=>by simp[cnt]
 | t+1,m=>by
  rw[cnt];cases hp:p t with
  | false=>
   simp only[zr,if_false,Nat.not_lt_zero,false_iff,not_and];intro h1 h2;have:=h2 t (by omega) (by omega);rw[hp]at this;cases this
  | true=>
   simp only[if_true];cases m with
   | zero=>
    constructor
    . intro _;refine⟨by omega,fun k h1 h2=>?_⟩;have:k=t:=by omega
      rw[this];exact hp
    . intro _;omega
   | succ m=>
    have ih:=xS p t m;constructor
    . intro h;obtain⟨g1,g2⟩:=ih.1 (by omega);refine⟨by omega,fun k h1 h2=>?_⟩;by_cases hk:k=t
      . rw[hk];exact hp
      . exact g2 k (by omega) (by omega)
    . intro h;have:=ih.2 ⟨by omega,fun k h1 h2=>h.2 k (by omega) (by omega)⟩;omega
theorem AA (p:Nat->Bool) (t:Nat):((cnt p (t+1):Nat):Int)=if p t then (cnt p t:Int)+1 else 0:=by
 rw[cnt];split <;> simp
theorem byI_get {s:ByteArray} {i:Nat} (h:i < s.size):((s.data.toList.getD i 0).toNat:Int)=(byI s).getD i 0:=by
 have h1:i < s.data.toList.length:=by rw[Array.length_toList];exact h
 rw[byI,zb,zb,zh,ze h1];rfl
theorem B6 (s:ByteArray) (hs:s.size<=9223372036854775807):FC Tryz.prog 108 [enc s] [] (enc (l0 s)) []:=by
 refine eP is108 (by simp) (fun cx hl=>dC [] 800 ?_);by_cases g1:s.size < 1
 . have g1':(s.size:Int) < 1:=by omega
   have hn:l0 s=false:=by
    unfold l0;have:¬ 0 < s.size:=by omega
    simp[this]
   rw[hn];delta c108 oO oN oA oM oG oS oK oV oI oX oH oB oD o9;simp (maxSteps:=9^7) -implicitDefEqProofs only[xC,g1',WU,Ent.of0,Ent.of1,Ent.of2,Ent.of3,Ent.of4,V,W3,↓reduceIte,seval,reduceCtorEq]
 by_cases g2:12 < s.size
 . have g1':¬ (s.size:Int) < 1:=by omega
   have g2':(12:Int) < s.size:=by omega
   have hn:l0 s=false:=by
    unfold l0;have:¬ s.size<=12:=by omega
    simp[this]
   rw[hn];delta c108 oO oN oA oM oG oS oK oV oI oX oH oB oD o9;simp (maxSteps:=9^7) -implicitDefEqProofs only[xC,g1',g2',WU,Ent.of0,Ent.of1,Ent.of2,Ent.of3,Ent.of4,V,W3,↓reduceIte,seval,reduceCtorEq]
 have g1':¬ (s.size:Int) < 1:=by omega
 have g2':¬ (12:Int) < s.size:=by omega
 have hnb:l0 s=i6 true (byI s):=by
  unfold l0;have h1:0 < s.size:=by omega
  have h2:s.size<=12:=by omega
  simp[h1,h2]
 rw[hnb];generalize hB:i6 true (byI s)=B;delta c108 oO oN oA oM oG oS oK oV oI oX oH oB oD o9;simp (maxSteps:=9^7) -implicitDefEqProofs only[xC,g1',g2',WU,Ent.of0,Ent.of1,Ent.of2,Ent.of3,Ent.of4,V,W3,↓reduceIte,seval,reduceCtorEq];refine fI s.size (fun i=>[(3,.s (.int .i64 (i:Int)))]) (fun _=>[]) (fun i=>B=i6 (decide (i=0)) ((byI s).drop i)) (by simp[hB]) ?_ (fun i hi hv=>dC [] 800 ?_)
 . simp (maxSteps:=9^7) -implicitDefEqProofs only[Ent.of0,Ent.of1,Ent.of2,Ent.of3,Ent.of4,V,W3,↓reduceIte,seval,reduceCtorEq]
   all_goals simp
 . by_cases h:i < s.size
   . have hi2:(i:Int) < (s.size:Int):=by omega
     have hg:=byI_get h;rw[fJ 0 (by rw[lR];exact h:i < (byI s).length),i6]at hv;generalize (byI s).getD i 0=c at *;have hnx:i6 (decide (i+1=0)) ((byI s).drop (i+1))=i6 false ((byI s).drop (i+1)):=by simp
     delta As oO oN oA oM oG oR oS oK oI oX oP oH oB oD o9;simp (maxSteps:=9^7) -implicitDefEqProofs only[xC,hi2,h,hg,InR,WU,Ent.of0,Ent.of1,Ent.of2,Ent.of3,Ent.of4,V,W3,↓reduceIte,seval,reduceCtorEq];have hb2:badB (decide (i=0)) c=decide (¬ ((97<=c/\c<=122)\/(65<=c/\c<=90))/\(i=0\/(c≠45/\(c < 48\/57 < c)))):=by
      rw[yH];simp only[badB,rT,zm,zV,yC,Bool.or_eq_false_iff,decide_eq_true_eq,decide_eq_false_iff_not];omega
     rw[hb2]at hv;have hvt:(¬ ((97<=c/\c<=122)\/(65<=c/\c<=90))/\(i=0\/(c≠45/\(c < 48\/57 < c))))->B=false:=fun hb=>by rw[hv,decide_eq_true hb];rfl
     have hvf:¬ (¬ ((97<=c/\c<=122)\/(65<=c/\c<=90))/\(i=0\/(c≠45/\(c < 48\/57 < c))))->B=i6 false ((byI s).drop (i+1)):=fun hb=>by rw[hv,decide_eq_false hb];simp
     repeat' first | (refine And.intro (by omega) ?_) | split
     all_goals first
      | (exact (hvt (by omega)).symm)
      | (rw[hvt (by omega)];rfl)
      | exact⟨hvf (by omega),by omega⟩
      | exact hvf (by omega)
      | (push_cast;rfl)
      | omega
   . have hi2:¬ (i:Int) < (s.size:Int):=by omega
     rw[zv (by rw[lR];omega)]at hv;simp only[i6]at hv;subst hv;delta As oO oN oA oM oG oR oS oK oI oX oP oH oB oD o9;simp (maxSteps:=9^7) -implicitDefEqProofs only[xC,hi2,WU,Ent.of0,Ent.of1,Ent.of2,Ent.of3,Ent.of4,V,W3,↓reduceIte,seval,reduceCtorEq]
def AB : Ent Tryz.prog:=.of1 108 (fun s=>s.size<=9223372036854775807) (fun s:ByteArray=>enc (l0 s)) (fun _=>trivial) (fun s h=>B6 s h)
theorem BA (l:List ByteArray) (v:ByteArray):FC Tryz.prog 109 [enc l,enc v] [] (enc (l.any fun x=>decide (x=v))) []:=by
 refine eP is109 (by simp) (fun cx hl=>dC [] 800 ?_);simp only[V,W3,↓reduceIte,seval,reduceCtorEq]at hl;have hl1:=hl.list;generalize hB:(l.any fun x=>decide (x=v))=B;delta c109 oS oK oV oX o9;simp (maxSteps:=9^7) -implicitDefEqProofs only[Al,Ent.of0,Ent.of1,Ent.of2,Ent.of3,Ent.of4,V,W3,↓reduceIte,seval,reduceCtorEq];refine fI l.length (fun i=>[(5,.s (.int .i64 (i:Int)))]) (fun _=>[]) (fun i=>B=(l.drop i).any fun x=>decide (x=v)) (by simp[hB]) ?_ (fun i hi hv=>dC [] 800 ?_)
 . simp (maxSteps:=9^7) -implicitDefEqProofs only[Ent.of0,Ent.of1,Ent.of2,Ent.of3,Ent.of4,V,W3,↓reduceIte,seval,reduceCtorEq]
   all_goals simp
 . by_cases h:i < l.length
   . have hi2:(i:Int) < (l.length:Int):=by omega
     rw[fJ ⟨#[]⟩ h,List.any_cons]at hv;cases hx:decide (l.getD i ⟨#[]⟩=v)
     all_goals
      rw[hx]at hv;delta At oO oN oM oR oS oK oL oI oX oB o4 o9;simp (maxSteps:=9^7) -implicitDefEqProofs only[Al,hi2,h,hx,InR,WU,Ent.of0,Ent.of1,Ent.of2,Ent.of3,Ent.of4,V,W3,↓reduceIte,seval,reduceCtorEq];simp at hv;simp[hv]
      try omega
   . have hi2:¬ (i:Int) < (l.length:Int):=by omega
     rw[zv (by omega)]at hv;delta At oO oN oM oR oS oK oL oI oX oB o4 o9;simp (maxSteps:=9^7) -implicitDefEqProofs only[Al,hi2,WU,Ent.of0,Ent.of1,Ent.of2,Ent.of3,Ent.of4,V,W3,↓reduceIte,seval,reduceCtorEq];simp[hv]
def AD : Ent Tryz.prog:=.of2 109 (fun _ _=>True) (fun (l:List ByteArray) (v:ByteArray)=>enc (l.any fun x=>decide (x=v))) (fun _ _=>trivial) (fun l v _=>BA l v)
theorem isC_c (n:Nw) (c:Int) (h:NwS n):FC Tryz.prog 99 [enc n,enc c] [] (enc (isC n c)) []:=by
 have hb:=h.c;obtain⟨cs,nb,lim⟩:=n;simp only at hb;refine dD [] is99 (by simp) trivial trivial trivial trivial (fun cx _ hl _=>dC [vQ] 800 ?_);delta c99 oO oN oM oF oL oC oX oB o4 o7 o9;simp (maxSteps:=9^7) -implicitDefEqProofs only[rv99,vQ,eO,InR,isC,Ent.of0,Ent.of1,Ent.of2,Ent.of3,Ent.of4,V,W3,↓reduceIte,seval,reduceCtorEq];omega
def v6 : Ent Tryz.prog:=.of2 99 (fun n _=>NwS n) (fun (n:Nw) (c:Int)=>enc (isC n c)) (fun _ _=>trivial) (fun n c h=>isC_c n c h)
theorem x3 (n:Nw) (h:NwS n):FC Tryz.prog 51 [enc n] [] (netR n) []:=by
 have hbc:=h.c;have hbb:=h.b;have hgs:=fun i hi=>h.get (i:=i) hi
 generalize hR:gP n=R;have hrR:netR n=.tup [.s (.int .i64 (R.1:Int)),.s (.int .i64 R.2)]:=by rw[<- hR];rfl
 rw[hrR];obtain⟨cs,nb,lim⟩:=n;simp only at hbc hbb hgs;refine dD [] is51 (by simp) trivial trivial trivial trivial (fun cx _ hl _=>dC [] 800 ?_);by_cases h1:cs.length=0
 . have h1':(cs.length:Int)=0:=by omega
   have hRe:R=(0,10):=by rw[<- hR,gP];simp[h1]
   delta c51 oO oN oA oS oK oF oL oV oC oI oX oB o4 o7;simp (maxSteps:=9^7) -implicitDefEqProofs only[rv51,eO,h1',hRe,WU,Ent.of0,Ent.of1,Ent.of2,Ent.of3,Ent.of4,V,W3,↓reduceIte,seval,reduceCtorEq]
   try simp
 have h1':¬ (cs.length:Int)=0:=by omega
 by_cases h2:6 < cs.length
 . have h2':(6:Int) < cs.length:=by omega
   have hRe:R=(0,8):=by rw[<- hR,gP];simp[h1,h2]
   delta c51 oO oN oA oS oK oF oL oV oC oI oX oB o4 o7;simp (maxSteps:=9^7) -implicitDefEqProofs only[rv51,eO,h1',h2',hRe,WU,Ent.of0,Ent.of1,Ent.of2,Ent.of3,Ent.of4,V,W3,↓reduceIte,seval,reduceCtorEq]
   try simp
 have h2':¬ (6:Int) < cs.length:=by omega
 have hRe:R=(match gS cs 0 cs with | some q=>q | none=>match nbE ⟨cs,nb,lim⟩ 0 nb with | some q=>q | none=>(0,limE ⟨cs,nb,lim⟩)):=by rw[<- hR,gP];simp only[h1,h2,if_false] <;> rfl
 clear hR;delta c51 oO oN oA oS oK oF oL oV oC oI oX oB o4 o7;simp (maxSteps:=9^7) -implicitDefEqProofs only[rv51,eO,h1',h2',not_true_eq_false,WU,Ent.of0,Ent.of1,Ent.of2,Ent.of3,Ent.of4,V,W3,↓reduceIte,seval,reduceCtorEq];generalize hN:(⟨cs,nb,lim⟩:Nw)=n at *;have hNc:n.cells=cs/\n.nb=nb/\n.limit=lim:=by rw[<- hN];exact⟨rfl,rfl,rfl⟩
 have hmt:∀ i,List.take i (List.map Dat.cells cs)=List.map Dat.cells (cs.take i):=fun i=>List.map_take.symm
 refine fI cs.length (fun i=>[(4,.s (.int .i64 (i:Int)))]) (fun _=>[]) (fun i=>gS cs 0 cs=gS cs i (cs.drop i)) rfl ?_ (fun i hi hv=>dC [AB,AD] 800 ?_)
 . simp (maxSteps:=9^7) -implicitDefEqProofs only[Ent.of0,Ent.of1,Ent.of2,Ent.of3,Ent.of4,V,W3,↓reduceIte,seval,reduceCtorEq]
   all_goals simp
 . by_cases h4:i < cs.length
   . have hi2:(i:Int) < (cs.length:Int):=by omega
     have hname:=hgs i h4;have hi0:(0:Int)<=i:=by omega
     have hi5:(i:Int)<=cs.length:=by omega
     rw[fJ ⟨#[]⟩ h4,gS]at hv;have han:((cs.take i).any fun x=>decide (x=cs.getD i ⟨#[]⟩))=((cs.take i).any fun x=>decide (cs.getD i ⟨#[]⟩=x)):=by
      congr 1;funext x;simp[eq_comm]
     cases hx:l0 (cs.getD i ⟨#[]⟩) <;> cases hy:((cs.take i).any fun x=>decide (cs.getD i ⟨#[]⟩=x))
     all_goals
      rw[hy]at han;simp only[hx,hy,if_true,if_false,zr,ym]at hv;have hRe2:=hRe;rw[hv]at hRe2
      try simp only at hRe2
      delta c51l1 oO oN oA oM oT oR oQ oS oK oF oL oV oC oI oX oB o4;simp (maxSteps:=9^7) -implicitDefEqProofs only[AB,AD,hi2,hi0,hi5,h4,hname,hmt,hx,han,z5,Int.toNat_zero,yB,InR,not_true_eq_false,WU,Ent.of0,Ent.of1,Ent.of2,Ent.of3,Ent.of4,V,W3,↓reduceIte,seval,reduceCtorEq]
      first | (rw[hRe2];done) | (rw[hRe2];simp;done) | exact⟨by omega,hv,by omega⟩
   . have hi2:¬ (i:Int) < (cs.length:Int):=by omega
     rw[zv (by omega),gS]at hv;rw[hv]at hRe;simp only at hRe;delta c51l1 oO oN oA oM oT oR oQ oS oK oF oL oV oC oI oX oB o4;simp (maxSteps:=9^7) -implicitDefEqProofs only[AB,AD,hi2,WU,Ent.of0,Ent.of1,Ent.of2,Ent.of3,Ent.of4,V,W3,↓reduceIte,seval,reduceCtorEq];refine fI nb.length (fun i=>[(5,.s (.int .i64 (i:Int)))]) (fun _=>[]) (fun i=>nbE n 0 nb=nbE n i (nb.drop i)) rfl ?_ (fun i hi hw=>dC [v6,vQ] 800 ?_)
     . simp (maxSteps:=9^7) -implicitDefEqProofs only[Ent.of0,Ent.of1,Ent.of2,Ent.of3,Ent.of4,V,W3,↓reduceIte,seval,reduceCtorEq]
       all_goals simp
     . by_cases h5:i < nb.length
       . have hi2:(i:Int) < (nb.length:Int):=by omega
         have hi0:(0:Int)<=i:=by omega
         have hi5:(i:Int)<=nb.length:=by omega
         have hi6:i<=nb.length:=by omega
         have hdn:fD (.agg [C.sl 1 (List.map Dat.cells cs),.sl 2 (List.map Dat.cells nb),.s (.int .i64 lim)])=some n:=by
          rw[decV_nw,fN,fN,<- hN];rfl
         rw[fJ ⟨0,0⟩ h5,nbE,hNc.2.1]at hw;cases hx:isC n (nb.getD i ⟨0,0⟩).re <;> cases hy:isC n (nb.getD i ⟨0,0⟩).im <;> by_cases hq:(nb.getD i ⟨0,0⟩).re < (nb.getD i ⟨0,0⟩).im
         all_goals
          have hq2:(nb.getD i ⟨0,0⟩).im<=(nb.getD i ⟨0,0⟩).re↔¬ (nb.getD i ⟨0,0⟩).re < (nb.getD i ⟨0,0⟩).im:=by omega
          simp only[hx,hy,hq,zZ,yd,zY,z7,if_true,if_false,not_true_eq_false,not_false_eq_true,zr,ym]at hw;have hRe2:=hRe;rw[hw]at hRe2
          try simp only at hRe2
          delta c51l3 oO oN oA oM oG oR oS oK oF oL oV oC oW oI oX oH oB oJ o2 o4 o5;simp (maxSteps:=9^7) -implicitDefEqProofs only[v6,vQ,hi2,hi0,hi5,hi6,h5,hdn,h,hx,hy,hq,hq2,hNc,z5,Int.toNat_zero,yB,InR,not_true_eq_false,WU,Ent.of0,Ent.of1,Ent.of2,Ent.of3,Ent.of4,V,W3,↓reduceIte,seval,reduceCtorEq]
          try (rw[hRe2];simp;done)
         generalize hp:nb.getD i ⟨0,0⟩=p at *;refine fI i (fun j=>[(7,.s (.int .i64 (j:Int)))]) (fun _=>[]) (fun j=>((nb.take i).any fun x=>decide (p=x))=((nb.drop j).take (i - j)).any fun x=>decide (p=x)) (by simp) ?_ (fun j hj hu=>dC [] 800 ?_)
         . simp (maxSteps:=9^7) -implicitDefEqProofs only[Ent.of0,Ent.of1,Ent.of2,Ent.of3,Ent.of4,V,W3,↓reduceIte,seval,reduceCtorEq]
           all_goals simp
         . by_cases h6:j < i
           . have hj2:(j:Int) < i:=by omega
             have hj3:(j:Int) < nb.length:=by omega
             have hj4:j < nb.length:=by omega
             have hj0:(0:Int)<=j:=by omega
             have hgd:=tH (nb.getD j ⟨0,0⟩) p;have hst:(nb.drop j).take (i - j)=nb.getD j ⟨0,0⟩ :: (nb.drop (j+1)).take (i - (j+1)):=by
              rw[fJ ⟨0,0⟩ hj4,show i - j=(i - (j+1))+1 by omega,yD]
             rw[hst,List.any_cons]at hu;by_cases hx2:nb.getD j ⟨0,0⟩=p
             . rw[decide_eq_true hx2]at hgd;rw[hx2,decide_eq_true (rfl:p=p),yz]at hu;rw[if_pos hu]at hRe2;simp only at hRe2;delta Ai oO oN oA oM oT oR oQ oS oK oF oL oV oI oX oB o2 o5;simp (maxSteps:=9^7) -implicitDefEqProofs only[hj2,hj3,hj4,hj0,h5,hi2,hi0,hgd,zZ,z5,InR,not_true_eq_false,WU,Ent.of0,Ent.of1,Ent.of2,Ent.of3,Ent.of4,V,W3,↓reduceIte,seval,reduceCtorEq];rw[hRe2];try simp
             . rw[decide_eq_false hx2]at hgd;rw[decide_eq_false (fun e=>hx2 e.symm),zF]at hu;delta Ai oO oN oA oM oT oR oQ oS oK oF oL oV oI oX oB o2 o5;simp (maxSteps:=9^7) -implicitDefEqProofs only[hj2,hj3,hj4,hj0,h5,hi2,hi0,hgd,zZ,z5,InR,not_true_eq_false,WU,Ent.of0,Ent.of1,Ent.of2,Ent.of3,Ent.of4,V,W3,↓reduceIte,seval,reduceCtorEq];exact⟨by omega,by omega,hu,by omega⟩
           . have hj2:¬ (j:Int) < i:=by omega
             have:i - j=0:=by omega
             rw[this,List.take_zero,List.any_nil]at hu;rw[hu]at hw;simp only[zr,if_false]at hw;delta Ai oO oN oA oM oT oR oQ oS oK oF oL oV oI oX oB o2 o5;simp (maxSteps:=9^7) -implicitDefEqProofs only[hj2,InR,WU,Ent.of0,Ent.of1,Ent.of2,Ent.of3,Ent.of4,V,W3,↓reduceIte,seval,reduceCtorEq];exact⟨by omega,h5,hw,by omega⟩
       . have hi2:¬ (i:Int) < (nb.length:Int):=by omega
         rw[zv (by omega),nbE]at hw;rw[hw]at hRe;simp only at hRe;delta c51l3 oO oN oA oM oG oR oS oK oF oL oV oC oW oI oX oH oB oJ o2 o4 o5;simp (maxSteps:=9^7) -implicitDefEqProofs only[v6,vQ,hi2,WU,Ent.of0,Ent.of1,Ent.of2,Ent.of3,Ent.of4,V,W3,↓reduceIte,seval,reduceCtorEq];rw[hRe,limE,hNc.2.2];by_cases h6:1<=lim/\lim<=100000 <;> simp[h6]
def ent51 : Ent Tryz.prog:=.of1 51 NwS netR (fun _=>⟨trivial,trivial,trivial⟩) x3
theorem Ag (n:Nw) (h:NwS n):FC Tryz.prog 46 [enc n] [] (enc (gP n).2) []:=by
 have hdn:=je n;refine dD [] is46 (by simp) trivial trivial trivial trivial (fun cx _ hl _=>dC [ent51] 800 ?_);delta c46 oO oM oV oC oX o5 o7 o8;simp (maxSteps:=9^7) -implicitDefEqProofs only[rv46,ent51,eO,hdn,h,netR,Ent.of0,Ent.of1,Ent.of2,Ent.of3,Ent.of4,V,W3,↓reduceIte,seval,reduceCtorEq]
def ent46 : Ent Tryz.prog:=.of1 46 NwS (fun n=>enc (gP n).2) (fun _=>trivial) Ag
def wa (n:Nw) (c:Int):Int:=if (gP n).2≠0 then (gP n).2 else if isC n c then 0 else 6
theorem Bx (n:Nw) (c:Int) (h:NwS n):FC Tryz.prog 40 [enc n,enc c] [] (enc (wa n c)) []:=by
 have hdn:=je n;refine dD [] is40 (by simp) trivial trivial trivial trivial (fun cx _ hl _=>dC [ent46,v6] 800 ?_);unfold wa;by_cases h1:(gP n).2=0
 . cases h2:isC n c
   all_goals
    delta c40 oO oN oA oM oS oK oV oC oI oX oB o5 o7;simp (maxSteps:=9^7) -implicitDefEqProofs only[rv40,ent46,v6,eO,hdn,h,h1,h2,not_true_eq_false,WU,Ent.of0,Ent.of1,Ent.of2,Ent.of3,Ent.of4,V,W3,↓reduceIte,seval,reduceCtorEq]
    try simp
 . delta c40 oO oN oA oM oS oK oV oC oI oX oB o5 o7;simp (maxSteps:=9^7) -implicitDefEqProofs only[rv40,ent46,v6,eO,hdn,h,h1,not_true_eq_false,WU,Ent.of0,Ent.of1,Ent.of2,Ent.of3,Ent.of4,V,W3,↓reduceIte,seval,reduceCtorEq]
   try simp
def Aj : Ent Tryz.prog:=.of2 40 (fun n _=>NwS n) (fun (n:Nw) (c:Int)=>enc (wa n c)) (fun _ _=>trivial) (fun n c h=>Bx n c h)
theorem x5 (n:Nw) (a b:Int) (h:NwS n):FC Tryz.prog 115 [enc n,enc a,enc b] [] (enc (nbr n a b)) []:=by
 have hb:=h.b;generalize hB:nbr n a b=B;refine dD [] is115 (by simp) trivial trivial trivial trivial (fun cx _ hl _=>dC [] 800 ?_);delta c115 oS oK oV oX o7 o9;simp (maxSteps:=9^7) -implicitDefEqProofs only[An,eO,WU,Ent.of0,Ent.of1,Ent.of2,Ent.of3,Ent.of4,V,W3,↓reduceIte,seval,reduceCtorEq];refine fI n.nb.length (fun i=>[(7,.s (.int .i64 (i:Int)))]) (fun _=>[]) (fun i=>B=(n.nb.drop i).any fun x=>decide (x=⟨min a b,max a b⟩)) (by rw[<- hB];rfl) ?_ (fun i hi hv=>dC [] 800 ?_)
 . simp (maxSteps:=9^7) -implicitDefEqProofs only[Ent.of0,Ent.of1,Ent.of2,Ent.of3,Ent.of4,V,W3,↓reduceIte,seval,reduceCtorEq]
   all_goals simp
 . by_cases h5:i < n.nb.length
   . have hi2:(i:Int) < (n.nb.length:Int):=by omega
     have hi0:(0:Int)<=i:=by omega
     have hgd:=tH (n.nb.getD i ⟨0,0⟩) ⟨min a b,max a b⟩;rw[fJ ⟨0,0⟩ h5,List.any_cons]at hv;cases hx:decide (n.nb.getD i ⟨0,0⟩=(⟨min a b,max a b⟩:Gs))
     all_goals
      rw[hx]at hgd hv;simp only[yz,zF]at hv;delta Au oO oN oA oM oR oS oK oF oL oI oX oB o2 o4 o5 o9;simp (maxSteps:=9^7) -implicitDefEqProofs only[An,hi2,hi0,h5,hgd,InR,not_true_eq_false,WU,Ent.of0,Ent.of1,Ent.of2,Ent.of3,Ent.of4,V,W3,↓reduceIte,seval,reduceCtorEq];rw[show (if b < a then b else a)=min a b by omega,show (if b > a then b else a)=max a b by omega,hgd];simp only[if_true,zr,if_false]
      first | exact hv.symm | exact⟨by omega,hv,by omega⟩
   . have hi2:¬ (i:Int) < (n.nb.length:Int):=by omega
     rw[zv (by omega)]at hv;delta Au oO oN oA oM oR oS oK oF oL oI oX oB o2 o4 o5 o9;simp (maxSteps:=9^7) -implicitDefEqProofs only[An,hi2,WU,Ent.of0,Ent.of1,Ent.of2,Ent.of3,Ent.of4,V,W3,↓reduceIte,seval,reduceCtorEq]
     try simp[hv]
def wk : Ent Tryz.prog:=.of3 115 (fun n _ _=>NwS n) (fun (n:Nw) (a b:Int)=>enc (nbr n a b)) (fun _ _ _=>trivial) (fun n a b h=>x5 n a b h)
def btr (r:Rul) (s n:List Int) (k:Nat):Bool:=xc r (s.getD k 0) (n.getD k 0)
def ovk (r:Rul) (s n:List Int) (k:Nat):Bool:=over r (s.getD k 0) (n.getD k 0)
def GoodT (r:Rul) (s n:List Int):Option Int->List Int->Prop
 |_,[]=>True
 | prev,v :: l=>(r.trig<=v/\v<=(s.length:Int) - 1)/\(∀ k:Nat,v - r.trig<=(k:Int)->(k:Int)<=v->btr r s n k=true)/\(∀ u,prev=some u->u < v/\∃ k:Nat,u<=(k:Int)/\(k:Int) < v/\ovk r s n k=true)/\GoodT r s n (some v) l
theorem cnt_gt {r:Rul} {s n:List Int} {t:Nat} {run:Int} (ht:0<=r.trig) (hrun:run=(cnt (btr r s n) (t+1):Int)) (h:r.trig < run):r.trig<=t/\∀ k:Nat,(t:Int) - r.trig<=k->(k:Int)<=t->btr r s n k=true:=by
 obtain⟨T,hT⟩:∃ T:Nat,r.trig=(T:Int):=⟨r.trig.toNat,by omega⟩;rw[hT]at h ⊢;have h2:T < cnt (btr r s n) (t+1):=by omega
 rw[xS]at h2;exact⟨by omega,fun k h3 h4=>h2.2 k (by omega) (by omega)⟩
theorem goodT (r:Rul) (s n:List Int) (hl:n.length=s.length) (ht:0<=r.trig) (hh:0<=r.hyst):∀ (m t:Nat) (armed:Bool) (prev:Option Int),s.length - t=m ->
 (∀ u,prev=some u->u < (t:Int)/\(armed=true->∃ k:Nat,u<=(k:Int)/\(k:Int) < t/\ovk r s n k=true))->GoodT r s n prev (trg r (s.drop t) (n.drop t) t (cnt (btr r s n) t) armed)
 | 0,t,armed,prev,hm,hp=>by
  rw[zv (by omega:s.length<=t),trg_nil];trivial
 | m+1,t,armed,prev,hm,hp=>by
  have h1:t < s.length:=by omega
  have h2:t < n.length:=by omega
  rw[fJ 0 h1,fJ 0 h2,trg];have hc:(if xc r (s.getD t 0) (n.getD t 0)then (cnt (btr r s n) t:Int)+1 else 0)=(cnt (btr r s n) (t+1):Int):=(AA (btr r s n) t).symm;simp only[hc];by_cases hg:((armed || over r (s.getD t 0) (n.getD t 0)) && decide (r.trig < (cnt (btr r s n) (t+1):Int)))=true
  . rw[if_pos hg];simp only[zm,zV,decide_eq_true_eq]at hg;obtain⟨g1,g2⟩:=hg;obtain⟨g3,g4⟩:=cnt_gt ht rfl g2;have g5:=g4 t (by omega) (by omega);refine⟨⟨g3,by omega⟩,g4,fun u hu=>?_,goodT r s n hl ht hh m (t+1) false (some t) (by omega) (fun u hu=>?_)⟩
    . obtain⟨q1,q2⟩:=hp u hu;refine⟨q1,?_⟩;rcases g1 with g1 | g1
      . exact q2 g1
      . exfalso
        simp only[btr,xc,decide_eq_true_eq]at g5;simp only[over,decide_eq_true_eq]at g1;omega
    . cases hu;exact⟨by omega,fun h=>by cases h⟩
  . rw[if_neg hg];refine goodT r s n hl ht hh m (t+1) _ prev (by omega) (fun u hu=>?_);obtain⟨q1,q2⟩:=hp u hu;refine⟨by omega,fun ha=>?_⟩;simp only[zV]at ha;rcases ha with ha | ha
    . obtain⟨k,k1,k2,k3⟩:=q2 ha;exact⟨k,k1,by omega,k3⟩
    . exact⟨t,by omega,by omega,ha⟩
theorem goodT0 {r:Rul} {s n:List Int} (h:TrgOk r s n):GoodT r s n none (xa r s n):=by
 have h2:=h.hr;simp only[um,zm,decide_eq_true_eq]at h2;have:=goodT r s n h.hln h2.2.1 h2.1.2.1 s.length 0 true none (by omega) (fun u hu=>by cases hu);simpa[cnt,xa]using this
theorem Ae (r:Rul) (s n:List Int) (hl:n.length=s.length):∀ (m t v:Nat),s.length - t=m->t<=v->v < s.length->r.trig < (cnt (btr r s n) (v+1):Int) ->
 ∃ u l,trg r (s.drop t) (n.drop t) t (cnt (btr r s n) t) true=u :: l/\u<=(v:Int)
 | 0,t,v,hm,h1,h2,h3=>by omega
 | m+1,t,v,hm,h1,h2,h3=>by
  have g1:t < s.length:=by omega
  have g2:t < n.length:=by omega
  rw[fJ 0 g1,fJ 0 g2,trg];have hc:(if xc r (s.getD t 0) (n.getD t 0)then (cnt (btr r s n) t:Int)+1 else 0)=(cnt (btr r s n) (t+1):Int):=(AA (btr r s n) t).symm;simp only[hc,yz,zY,decide_eq_true_eq];by_cases hg:r.trig < (cnt (btr r s n) (t+1):Int)
  . rw[if_pos hg];exact⟨_,_,rfl,by omega⟩
  . rw[if_neg hg];have:t≠v:=fun e=>hg (e ▸ h3)
    exact Ae r s n hl m (t+1) v (by omega) (by omega) h2 h3
theorem Az {p q:Nat->Bool} (h:∀ k,p k=true->q k=true):∀ t,cnt p t<=cnt q t
 | 0=>zw _
 | t+1=>by
  have:=Az h t;rw[cnt,cnt];cases hp:p t with
  | false=>simp
  | true=>rw[h t hp];simp;omega
theorem later {r r':Rul} {s n:List Int} (h:TrgOk r s n) (h':TrgOk r' s n) (h1:r.trig<=r'.trig) (h2:r.off<=r'.off) (h3:r.hyst=r'.hyst) (hne:xa r' s n≠[]) :
 xa r s n≠[]/\(xa r s n).getD 0 0<=(xa r' s n).getD 0 0:=by
 cases hL:xa r' s n with
 | nil=>exact absurd hL hne
 | cons v l=>
  have hg:=goodT0 h';rw[hL]at hg;obtain⟨⟨g1,g2⟩,g3,_,_⟩:=hg;have hr':=h'.hr;simp only[um,zm,decide_eq_true_eq]at hr';obtain⟨V,rfl⟩:∃ V:Nat,v=(V:Int):=⟨v.toNat,by omega⟩;obtain⟨T,hT⟩:∃ T:Nat,r'.trig=(T:Int):=⟨r'.trig.toNat,by omega⟩;have hc':T < cnt (btr r' s n) (V+1):=by
   rw[xS];exact⟨by omega,fun k q1 q2=>g3 k (by omega) (by omega)⟩
  have hm:=Az (p:=btr r' s n) (q:=btr r s n) (fun k hk=>by
   simp only[btr,xc,decide_eq_true_eq]at hk ⊢
   omega) (V+1)
  obtain⟨u,l',e1,e2⟩:=Ae r s n h.hln s.length 0 V (by omega) (by omega) (by omega) (by omega);have e3:xa r s n=u :: l':=by simpa[cnt,xa]using e1
  rw[e3];exact⟨by simp,by simpa using e2⟩
def lawRule : C:=.agg [.s (.int .i64 30),.s (.int .i64 10),.s (.int .i64 2)]
theorem Net_c : FC Tryz.prog 89 [] [] (enc gW) []:=by
 refine eP is89 (by simp) (fun cx hl=>dC [] 800 ?_);delta c89 oO oN oA oW oX o2;simp (maxSteps:=9^7) -implicitDefEqProofs only[rv89,eO,gW,zt,zR,uH,Ent.of0,Ent.of1,Ent.of2,Ent.of3,Ent.of4,V,W3,↓reduceIte,seval,reduceCtorEq]
def ent89 : Ent Tryz.prog:=.of0 89 (enc gW) (by simp[eO,dG,dG.keysIns]) Net_c
theorem Log_c : FC Tryz.prog 90 [] [] (enc jh) []:=by
 refine eP is90 (by simp) (fun cx hl=>dC [] 1200 ?_);delta c90 oO oN oA oM oX o3;simp (maxSteps:=9^7) -implicitDefEqProofs only[rv90,qf,jh,zt,zR,qt,Ent.of0,Ent.of1,Ent.of2,Ent.of3,Ent.of4,V,W3,↓reduceIte,seval,reduceCtorEq]
def ent90 : Ent Tryz.prog:=.of0 90 (enc jh) trivial Log_c
theorem vR (m:Ms):fD (.agg [C.s (.int .i64 m.at_),.s (.int .i64 m.phase),.s (.int .i64 m.since),.s (.int .i64 m.serving),.s (.int .i64 m.target),.s (.int .i64 m.source),.s (.int .i64 m.path),.s (.int .i64 m.fresh),.s (.int .i64 m.got),.sl 1 (m.buf.map Dat.cells)])=some m:=by
 unfold fD;have:Dat.dec (α:=Ms) [C.s (.int .i64 m.at_),.s (.int .i64 m.phase),.s (.int .i64 m.since),.s (.int .i64 m.serving),.s (.int .i64 m.target),.s (.int .i64 m.source),.s (.int .i64 m.path),.s (.int .i64 m.fresh),.s (.int .i64 m.got),.sl 1 (m.buf.map Dat.cells)]=(fC (m.buf.map Dat.cells)).map fun r'=>(⟨m.at_,m.phase,m.since,m.serving,m.target,m.source,m.path,m.fresh,m.got,r'⟩:Ms):=rfl
 simp only[this,fN];rw[if_pos (show (Dat.agg Ms)=true from rfl)];rfl
theorem Has_c (l:List Int) (v:Int):FC Tryz.prog 75 [enc l,enc v] [] (enc (l.any fun x=>decide (x=v))) []:=by
 refine eP is75 (by simp) (fun cx hl=>dC [] 800 ?_);simp only[V,W3,↓reduceIte,seval,reduceCtorEq]at hl;have hl1:=hl.list;generalize hB:(l.any fun x=>decide (x=v))=B;delta c75 oS oK oV oX o9;simp (maxSteps:=9^7) -implicitDefEqProofs only[rv75,Ent.of0,Ent.of1,Ent.of2,Ent.of3,Ent.of4,V,W3,↓reduceIte,seval,reduceCtorEq];refine fI l.length (fun i=>[(5,.s (.int .i64 (i:Int)))]) (fun _=>[]) (fun i=>B=(l.drop i).any fun x=>decide (x=v)) (by simp[hB]) ?_ (fun i hi hv=>dC [] 800 ?_)
 . simp (maxSteps:=9^7) -implicitDefEqProofs only[Ent.of0,Ent.of1,Ent.of2,Ent.of3,Ent.of4,V,W3,↓reduceIte,seval,reduceCtorEq]
   all_goals simp
 . by_cases h:i < l.length
   . have hi2:(i:Int) < (l.length:Int):=by omega
     rw[fJ 0 h,List.any_cons]at hv;generalize hg:l.getD i 0=g at hv;cases hx:decide (g=v)
     all_goals
      rw[hx]at hv;have hx2:=hx;simp only[decide_eq_true_eq,decide_eq_false_iff_not]at hx2;delta c75l1 oO oN oA oM oR oS oK oL oI oX oB o1 o4 o9;simp (maxSteps:=9^7) -implicitDefEqProofs only[rv75,hi2,h,hg,hx2,InR,WU,Ent.of0,Ent.of1,Ent.of2,Ent.of3,Ent.of4,V,W3,↓reduceIte,seval,reduceCtorEq];simp at hv;simp[hv]
      try omega
   . have hi2:¬ (i:Int) < (l.length:Int):=by omega
     rw[zv (by omega)]at hv;delta c75l1 oO oN oA oM oR oS oK oL oI oX oB o1 o4 o9;simp (maxSteps:=9^7) -implicitDefEqProofs only[rv75,hi2,WU,Ent.of0,Ent.of1,Ent.of2,Ent.of3,Ent.of4,V,W3,↓reduceIte,seval,reduceCtorEq];simp[hv]
def ent75 : Ent Tryz.prog:=.of2 75 (fun _ _=>True) (fun (l:List Int) (v:Int)=>enc (l.any fun x=>decide (x=v))) (fun _ _=>trivial) (fun l v _=>Has_c l v)
theorem BZ (m:Ms) (h1:m.buf.length<=1000000) (h2:fc m.buf<=1000000000):FC Tryz.prog 116 [enc m] [] (enc (fc m.buf)) []:=by
 refine dD [] is116 (by simp) trivial trivial trivial trivial (fun cx _ hl _=>dC [] 800 ?_);generalize hT:fc m.buf=T at *;delta c116 oM oS oK oV oX o7;simp (maxSteps:=9^7) -implicitDefEqProofs only[Ao,qD,WU,Ent.of0,Ent.of1,Ent.of2,Ent.of3,Ent.of4,V,W3,↓reduceIte,seval,reduceCtorEq];refine fI m.buf.length (fun i=>[(3,.s (.int .i64 (T - fc (m.buf.drop i)))),(4,.s (.int .i64 (i:Int)))]) (fun _=>[]) (fun i=>0<=T - fc (m.buf.drop i)) (by simp[hT]) ?_ (fun i hi hv=>dC [] 800 ?_)
 . simp (maxSteps:=9^7) -implicitDefEqProofs only[Ent.of0,Ent.of1,Ent.of2,Ent.of3,Ent.of4,V,W3,↓reduceIte,seval,reduceCtorEq]
   all_goals simp[hT]
 . by_cases h:i < m.buf.length
   . have hi2:(i:Int) < (m.buf.length:Int):=by omega
     have hi0:(0:Int)<=i:=by omega
     have hgx:List.getD (m.buf.map Dat.cells) i [C.sl 0 []]=[C.sl 1 ((m.buf.getD i []).map Dat.cells)]:=by
      rw[zb,zb,zh,ze h];rfl
     have hd:=fJ (d:=[]) h;have hnn:=rZ (m.buf.drop (i+1));rw[hd,fc]at hv;generalize m.buf.getD i []=p at *;delta Av oO oN oA oM oR oS oK oF oL oX oB o0 o4;simp (maxSteps:=9^7) -implicitDefEqProofs only[Ao,hi0,hi2,h,hgx,hd,fc,InR,WU,Ent.of0,Ent.of1,Ent.of2,Ent.of3,Ent.of4,V,W3,↓reduceIte,seval,reduceCtorEq];omega
   . have hi2:¬ (i:Int) < (m.buf.length:Int):=by omega
     have hd:m.buf.drop i=[]:=zv (by omega);delta Av oO oN oA oM oR oS oK oF oL oX oB o0 o4;simp (maxSteps:=9^7) -implicitDefEqProofs only[Ao,hi2,hd,fc,WU,Ent.of0,Ent.of1,Ent.of2,Ent.of3,Ent.of4,V,W3,↓reduceIte,seval,reduceCtorEq];omega
def xn : Ent Tryz.prog:=.of1 116 (fun m:Ms=>m.buf.length<=1000000/\fc m.buf<=1000000000) (fun m=>enc (fc m.buf)) (fun _=>trivial) (fun m h=>BZ m h.1 h.2)
def v8 (v:Int):Nat->List (List Int)->Int
 |_,[]=>-1
 | i,r :: l=>if (r.any fun x=>decide (x=v))=true then (i:Int)else v8 v (i+1) l
theorem where_c (m:Ms) (k:Nat) (v:Int) (h1:m.buf.length<=1000000) (h2:k<=m.buf.length):FC Tryz.prog 117 [enc m,.s (.int .i64 (k:Int)),enc v] [] (enc (v8 v 0 (m.buf.take k))) []:=by
 refine dD [] is117 (by simp) trivial trivial trivial trivial (fun cx _ hl _=>dC [] 800 ?_);have hLl:(m.buf.take k).length=k:=by rw[List.length_take];omega
 have hLg:∀ i,i < k->(m.buf.take k).getD i []=m.buf.getD i []:=fun i hi=>by
  rw[zb,zb,ya,if_pos hi]
 generalize hT:v8 v 0 (m.buf.take k)=T at *;generalize m.buf.take k=L at *;delta c117 oS oK oV oX o7;simp (maxSteps:=9^7) -implicitDefEqProofs only[Ap,qD,WU,Ent.of0,Ent.of1,Ent.of2,Ent.of3,Ent.of4,V,W3,↓reduceIte,seval,reduceCtorEq];refine fI k (fun i=>[(7,.s (.int .i64 (i:Int)))]) (fun _=>[]) (fun i=>T=v8 v i (L.drop i)) (by simp[hT]) ?_ (fun i hi hv=>dC [ent75] 800 ?_)
 . simp (maxSteps:=9^7) -implicitDefEqProofs only[Ent.of0,Ent.of1,Ent.of2,Ent.of3,Ent.of4,V,W3,↓reduceIte,seval,reduceCtorEq]
   all_goals simp
 . by_cases h:i < k
   . have hi2:(i:Int) < (k:Int):=by omega
     have hi3:(i:Int) < (m.buf.length:Int):=by omega
     have h':i < m.buf.length:=by omega
     have hi0:(0:Int)<=i:=by omega
     have hgx:List.getD (m.buf.map Dat.cells) i [C.sl 0 []]=[C.sl 1 ((m.buf.getD i []).map Dat.cells)]:=by
      rw[zb,zb,zh,ze h'];rfl
     have hd:=fJ (d:=[]) (show i < L.length by omega);rw[hd,hLg i h,v8]at hv;generalize m.buf.getD i []=p at *;cases hx:p.any fun x=>decide (x=v)
     all_goals
      rw[hx]at hv;simp only[if_true,if_false,zr]at hv;delta Aw oO oN oA oM oR oS oK oF oL oC oI oX oB o0;simp (maxSteps:=9^7) -implicitDefEqProofs only[Ap,ent75,hi0,hi2,hi3,h,h',hgx,hx,InR,WU,Ent.of0,Ent.of1,Ent.of2,Ent.of3,Ent.of4,V,W3,↓reduceIte,seval,reduceCtorEq]
      first | exact hv.symm | exact⟨by omega,h,hv,by omega⟩ | exact⟨by omega,hv,by omega⟩
   . have hi2:¬ (i:Int) < (k:Int):=by omega
     have hd:L.drop i=[]:=zv (by omega);rw[hd,v8]at hv;delta Aw oO oN oA oM oR oS oK oF oL oC oI oX oB o0;simp (maxSteps:=9^7) -implicitDefEqProofs only[Ap,ent75,hi2,WU,Ent.of0,Ent.of1,Ent.of2,Ent.of3,Ent.of4,V,W3,↓reduceIte,seval,reduceCtorEq];exact hv.symm
def wE (n:Nw) (m:Ms) (e:T3):Ms:=if fZ n m e≠0 then ms0 else qm n m e
theorem dN.gap60 {n:Nw} {m:Ms} (g:dN n m):m.fresh - m.got<=60:=by
 have key:∀ (k:Nat) (l:List Int) (a:Int),(∀ x,a<=x->x < a+k->x∈l)->k<=l.length:=by
  intro k
  induction k with
  | zero=>intros;omega
  | succ k ih=>
   intro l a h;have h0:a∈l:=h a (by omega) (by omega);have h1:=ih (l.erase a) (a+1) (fun x h1 h2=>(List.mem_erase_of_ne (by omega)).2 (h x (by omega) (by push_cast;omega)));have h2:=List.length_erase_of_mem h0;have h3:=List.length_pos_of_mem h0;omega
 have:=key (m.fresh - m.got).toNat m.buf.flatten m.got (fun x h1 h2=>g.gap x h1 (by omega));have:=g.large;have:=g.got;omega
def msC (m:Ms) (kB:Nat):List C:=[.s (.int .i64 m.at_),.s (.int .i64 m.phase),.s (.int .i64 m.since),.s (.int .i64 m.serving),.s (.int .i64 m.target),.s (.int .i64 m.source),.s (.int .i64 m.path),.s (.int .i64 m.fresh),.s (.int .i64 m.got),.own kB]
theorem y6 (n:Nw) (p:Ph) (c:Int) (h:NwS n):FC Tryz.prog 145 [.ptr 100000 0,enc c] (phX n p) (enc (isC n c)) (phX n p):=by
 have hb:=h.c;refine dD [100001] is145 (by simp) (dP n p) (dE n p) (dE n p) (dI n p p) (fun cx _ hl _=>dC [gj] 1200 ?_);delta c145 oO oN oM oF oL oC oX oB o4 o6 o9;simp (maxSteps:=9^7) -implicitDefEqProofs only[rv145,phX,phC,gj,isC,InR,WU,Ent.of0,Ent.of1,Ent.of2,Ent.of3,Ent.of4,V,W3,↓reduceIte,seval,reduceCtorEq];omega
def AE (n:Nw) (p:Ph) (c:Int) (h:NwS n):Ent Tryz.prog:=ei 145 n p p [.ptr 100000 0,enc c] (enc (isC n c)) trivial (y6 n p c h)
def vS (f:FuncId) (as0:List C) (r:C) (h:FC Tryz.prog f as0 [] r []) (hr:dG [] r):Ent Tryz.prog:=.mk3 f (fun args chs=>some (args=as0/\chs=[],r,[],[])) (by
 intro args chs pp r' chs' nk hs hq;simp only[zn,zf]at hs;obtain⟨rfl,rfl,rfl,rfl⟩:=hs;obtain⟨rfl,rfl⟩:=hq
 exact⟨h,⟨fun k c hm=>(by simp at hm),fun k cs hm=>(by simp at hm),hr,fun k c hm=>(by simp at hm)⟩⟩)
def xv (n:Nw) (m:Ms):List T3->List Int
 |[]=>[]
 | e :: l=>(if m.got < (qm n m e).got then [m.got]else [])++xv n (qm n m e) l
theorem x7 (m:Ms):(settle m).got=m.got:=by
 unfold Go.Proofs.YtcbabnbiinkafaaGreatDoor.settle;split <;> rfl
theorem y5 (n:Nw) (m:Ms) (t:Int):(p7 n m t).got=m.got:=by unfold p7;split <;> rfl
theorem Bh (m:Ms) (e:T3):(eG m e).got=if e.x=1/\(dO m m.serving).headD 0=m.got then m.got+1 else m.got:=by
 unfold eG;by_cases h:e.x=1
 . simp only[h,Int.reduceEq,if_true,if_false,true_and];split <;> rfl
 . simp only[h,false_and,if_false]
   repeat' split
   all_goals rfl
theorem Bv (n:Nw) (p:Ph) (e:T3):(km n p e).recv=p.recv++(if p.m.got < (qm n p.m e).got then [p.m.got]else []):=by
 have hg:(eJ n p e.y).m.got=p.m.got:=by rw[ot,y5]
 have hr:=(pB n p e.y).2.1;have hA:(qm n p.m e).got=(doP (eJ n p e.y) e).m.got:=by
  rw[<- ql];rfl
 rw[hA];show (doP (eJ n p e.y) e).recv=_
 rw[<- hr,<- hg];generalize eJ n p e.y=q;unfold doP;by_cases h10:e.x=10
 . simp only[if_pos h10];show q.recv=q.recv++(if q.m.got < q.m.got then [q.m.got]else [])
   simp
 . simp only[if_neg h10,x7,Bh];split
   . rw[if_pos (by omega)]
   . simp
theorem x9 (n:Nw):∀ (l:List T3) (p:Ph),(jk n p l).recv=p.recv++xv n p.m l
 |[],p=>by simp[jk,xv]
 | e :: l,p=>by
  rw[jk,x9 n l,Bv,ql,xv,ye]
structure Rw where
 m:Ms
 st:List T3
 ouw:List Gs
def hiTo (l:List Gs) (t:Int):List Gs:=l.set (l.length - 1) ⟨(l.getD (l.length - 1) ⟨0,0⟩).re,t⟩
def AQ (n:Nw) (w:Rw) (t:Int):Rw:=
 if ju n w.m t=true then ⟨p7 n w.m t,chg w.st w.m.serving (p7 n w.m t).serving (w.m.since+n.limit),hiTo w.ouw (w.m.since+n.limit)⟩else w
def wT (b:Rw) (x:Ms) (t:Int):Rw:=
 ⟨x,chg b.st b.m.serving x.serving t,
  let o:=if ed b.m=false/\ed x=true then b.ouw++[⟨t,0⟩]else b.ouw
  if ed b.m=true/\ed x=false then hiTo o t else o⟩
def B2 (n:Nw) (w:Rw) (e:T3):Rw:=wT (AQ n w e.y) (qm n w.m e) e.y
def Bp (n:Nw) (w:Rw):List T3->Rw
 |[]=>w
 | e :: l=>Bp n (B2 n w e) l
def xE (n:Nw) (c:Int):Rw:=⟨eM n c,[⟨c,0,0⟩],[]⟩
def wY (l:List Gs):Int:=l.foldl (fun a o=>max a (o.im - o.re)) 0
theorem y8 (l:List Gs) (o:Gs):wY (l++[o])=max (wY l) (o.im - o.re):=by simp[wY]
theorem y7 (l:List Gs) (o:Gs) (t:Int):hiTo (l++[o]) t=l++[⟨o.re,t⟩]:=by
 unfold hiTo;have h1:(l++[o]).length - 1=l.length:=by simp
 rw[h1];have h2:(l++[o]).getD l.length ⟨0,0⟩=o:=by simp[zb]
 rw[h2,List.set_append_right _ _ (zw _)];simp
structure RwOk (n:Nw) (p:Ph) (w:Rw):Prop where
 m:w.m=p.m
 st:w.st=p.stays
 no:ed p.m=false->p.out=-1/\wY w.ouw=p.longest
 yes:ed p.m=true->p.out=p.m.since/\∃ l,w.ouw=l++[⟨p.out,0⟩]/\wY l=p.longest
 lim:p.longest<=n.limit
 nnw:0<=p.longest
theorem RwOk.begin {n:Nw} (hn:NetOk n) (c:Int):RwOk n (gm n c) (xE n c):=by
 have:=hn.lim;refine⟨rfl,rfl,fun _=>⟨rfl,rfl⟩,fun h=>by simp[ed,gm,eM]at h,?_,?_⟩
 . show (0:Int)<=n.limit;omega
 . exact Int.le_refl 0
theorem xh {o l t:Int} (h:0<=o):kz o l t=max l (t - o):=by unfold kz;rw[if_neg (by omega)]
theorem RwOk.pass {n:Nw} {p:Ph} {w:Rw} (hn:NetOk n) (r:RwOk n p w) (hs:0<=p.m.since) (t:Int):RwOk n (eJ n p t) (AQ n w t):=by
 unfold eJ AQ;rw[r.m];by_cases h:ju n p.m t=true
 . rw[if_pos h,if_pos h];have ha:ed p.m=true:=by simp only[ju,zm]at h;exact h.1
   obtain⟨ho,l,hl,hL⟩:=r.yes ha;have hbk:=xh (o:=p.out) (l:=p.longest) (t:=p.m.since+n.limit) (by omega);have hP:p7 n p.m t=iB p.m 0 (p.m.since+n.limit):=by unfold p7;rw[if_pos h]
   have h1:=r.lim;have h2:=r.nnw;refine⟨hP,by rw[hP,r.st];rfl,fun _=>⟨rfl,?_⟩,fun q=>by simp[ed,kH,iB]at q,?_,?_⟩
   . show wY (hiTo w.ouw _)=kz _ _ _
     rw[hl,y7,y8,hL,hbk]
   . show kz _ _ _<=_
     rw[hbk];omega
   . show 0<=kz _ _ _
     rw[hbk];omega
 . rw[if_neg h,if_neg h];exact r
theorem vZ (l:List T3) (a t:Int):chg l a a t=l:=by unfold chg;rw[if_pos rfl]
theorem wC (m:Ms):(settle m).serving=m.serving/\(settle m).phase=m.phase/\(settle m).since=m.since:=by
 unfold Go.Proofs.YtcbabnbiinkafaaGreatDoor.settle;split <;> exact⟨rfl,rfl,rfl⟩
theorem away_eq {m k:Ms} (h:m.phase=k.phase):ed m=ed k:=by unfold ed;rw[h]
theorem AX (m:Ms):ed (settle m)=ed m:=away_eq (wC m).2.1
theorem RwOk.act {n:Nw} {p:Ph} {w:Rw} {e:T3} (hn:NetOk n) (r:RwOk n p w) (hk:0<=e.x/\e.x<=11) (hy:0<=e.y) (hs:0<=p.m.since) (hdue:ed p.m=true->e.y < p.m.since+n.limit) (hd:et n p.m e=0) {x:Ms} (hx:x=(atP (doP p e) e.y).m) :
 RwOk n (atP (doP p e) e.y) (wT w x e.y):=by
 obtain⟨wm,ws,wo⟩:=w;obtain⟨r1,r2,r3,r4,r5,r6⟩:=r;simp only at r1 r2 r3 r4 r5 r6;subst r1 r2;have hA:ed x=ed (doP p e).m:=by rw[hx];rfl
 have hS:x.serving=(doP p e).m.serving:=by rw[hx];rfl
 have hI:(atP (doP p e) e.y).m.since=(doP p e).m.since:=rfl;have hW:ed (atP (doP p e) e.y).m=ed (doP p e).m:=rfl;have key:(chg p.stays p.m.serving x.serving e.y=(doP p e).stays) ->
  (ed p.m=false->ed (doP p e).m=false->(doP p e).out=p.out/\(doP p e).longest=p.longest) ->
  (ed p.m=false->ed (doP p e).m=true->(doP p e).out=e.y/\(doP p e).m.since=e.y/\(doP p e).longest=p.longest) ->
  (ed p.m=true->ed (doP p e).m=true->(doP p e).out=p.out/\(doP p e).m.since=p.m.since/\(doP p e).longest=p.longest) ->
  (ed p.m=true->ed (doP p e).m=false->(doP p e).out=-1/\(doP p e).longest=kz p.out p.longest e.y) ->
  RwOk n (atP (doP p e) e.y) (wT ⟨p.m,p.stays,wo⟩ x e.y):=by
  intro k0 k1 k2 k3 k4;cases ha:ed p.m <;> cases hb:ed (doP p e).m
  . obtain⟨q1,q2⟩:=k1 ha hb;obtain⟨s1,s2⟩:=r3 ha;refine⟨hx,k0,fun _=>⟨q1.trans s1,?_⟩,fun q=>(by rw[hW,hb]at q;cases q),?_,?_⟩
    . show wY (wT _ _ _).ouw=(doP p e).longest
      simp only[wT,ha,hA,hb,zr,and_false,false_and,if_false];rw[s2,q2]
    . show (doP p e).longest<=_;omega
    . show 0<=(doP p e).longest;omega
  . obtain⟨q1,q2,q3⟩:=k2 ha hb;obtain⟨s1,s2⟩:=r3 ha;refine⟨hx,k0,fun q=>(by rw[hW,hb]at q;cases q),fun _=>⟨?_,wo,?_,?_⟩,?_,?_⟩
    . show (doP p e).out=(doP p e).m.since;omega
    . show (wT _ _ _).ouw=wo++[⟨(doP p e).out,0⟩]
      simp only[wT,ha,hA,hb,zr,ym,and_false,and_true,false_and,and_self,if_false,if_true];rw[q1]
    . show wY wo=(doP p e).longest
      rw[s2,q3]
    . show (doP p e).longest<=_;omega
    . show 0<=(doP p e).longest;omega
  . obtain⟨q1,q2⟩:=k4 ha hb;obtain⟨s1,l,s2,s3⟩:=r4 ha;have hbk:=xh (o:=p.out) (l:=p.longest) (t:=e.y) (by omega);have hdd:=hdue ha;refine⟨hx,k0,fun _=>⟨q1,?_⟩,fun q=>(by rw[hW,hb]at q;cases q),?_,?_⟩
    . show wY (wT _ _ _).ouw=(doP p e).longest
      simp only[wT,ha,hA,hb,zr,ym,and_false,and_true,false_and,and_self,if_false,if_true];rw[s2,y7,y8,s3,q2,hbk]
    . show (doP p e).longest<=_;rw[q2,hbk];omega
    . show 0<=(doP p e).longest;rw[q2,hbk];omega
  . obtain⟨q1,q2,q3⟩:=k3 ha hb;obtain⟨s1,l,s2,s3⟩:=r4 ha;refine⟨hx,k0,fun q=>(by rw[hW,hb]at q;cases q),fun _=>⟨?_,l,?_,?_⟩,?_,?_⟩
    . show (doP p e).out=(doP p e).m.since;omega
    . show (wT _ _ _).ouw=l++[⟨(doP p e).out,0⟩]
      simp only[wT,ha,hA,hb,zr,ym,and_false,and_true,false_and,and_self,if_false,if_true];rw[s2,q1]
    . show wY l=(doP p e).longest
      rw[s3,q3]
    . show (doP p e).longest<=_;omega
    . show 0<=(doP p e).longest;omega
 by_cases h10:e.x=10
 . have h3:p.m.phase=3:=by
    unfold et at hd;simp only[h10,Int.reduceEq,if_true,if_false]at hd;rcases Classical.em (p.m.phase=3)with q | q
    . exact q
    . rw[if_pos q]at hd;cases hd
   have hD:doP p e=kH p e.z e.y:=by unfold doP;rw[if_pos h10]
   have ha:ed p.m=true:=by simp[ed,h3]
   refine key (by rw[hS,hD];rfl) (fun q=>(by rw[ha]at q;cases q)) (fun q=>(by rw[ha]at q;cases q)) (fun _ q=>(by rw[hD]at q;simp[ed,kH,iB]at q)) (fun _ _=>by rw[hD];exact⟨rfl,rfl⟩)
 . have hD:doP p e={ m:=settle (eG p.m e),recv:=if e.x=1/\(dO p.m p.m.serving).headD 0=p.m.got then p.recv++[p.m.got]else p.recv,stays:=if e.x=6 then chg p.stays p.m.serving p.m.target e.y else p.stays,out:=if e.x=5\/e.x=9 then (if p.out=-1 then e.y else p.out)else if e.x=6 then -1 else p.out,longest:=if e.x=6 then kz p.out p.longest e.y else p.longest }:=by
    unfold doP;rw[if_neg h10]
   have hm:(doP p e).m=settle (eG p.m e):=by rw[hD]
   have hsv:(doP p e).m.serving=(eG p.m e).serving:=by rw[hm];exact (wC _).1
   have haw:ed (doP p e).m=ed (eG p.m e):=by rw[hm];exact AX _
   have hsi:(doP p e).m.since=(eG p.m e).since:=by rw[hm];exact (wC _).2.2
   have hst:(doP p e).stays=if e.x=6 then chg p.stays p.m.serving p.m.target e.y else p.stays:=by rw[hD]
   have hou:(doP p e).out=if e.x=5\/e.x=9 then (if p.out=-1 then e.y else p.out)else if e.x=6 then -1 else p.out:=by rw[hD]
   have hlo:(doP p e).longest=if e.x=6 then kz p.out p.longest e.y else p.longest:=by rw[hD]
   rw[hS,hst,hou,hlo,haw,hsi,hsv]at key;clear hD hm hst hou hlo hS hA hI hW hsv haw hsi;unfold eG at key;unfold et at hd;have hph:ed p.m=true↔p.m.phase=2\/p.m.phase=3:=by simp[ed]
   have hpf:ed p.m=false↔¬ (p.m.phase=2\/p.m.phase=3):=by rw[<- hph];simp
   have k:e.x=0\/e.x=1\/e.x=2\/e.x=3\/e.x=4\/e.x=5\/e.x=6\/e.x=7\/e.x=8\/e.x=9\/e.x=11:=by omega
   rcases k with k | k | k | k | k | k | k | k | k | k | k <;> rw[k]at hd key <;> simp only[Int.reduceEq,if_true,if_false,or_false,false_or,or_true,or_self]at hd key
   ·
    refine key (vZ _ _ _) (fun _ _=>⟨by trivial,by trivial⟩) (fun q1 q2=>absurd (q1.symm.trans q2) (by decide)) (fun _ _=>⟨by trivial,by trivial,by trivial⟩) (fun q1 q2=>absurd (q2.symm.trans q1) (by decide))
   ·
    by_cases hq:(dO p.m p.m.serving).headD 0=p.m.got
    . rw[if_pos hq]at key;refine key (vZ _ _ _) (fun _ _=>⟨by trivial,by trivial⟩) (fun q1 q2=>absurd (q1.symm.trans q2) (by decide)) (fun _ _=>⟨by trivial,by trivial,by trivial⟩) (fun q1 q2=>absurd (q2.symm.trans q1) (by decide))
    . rw[if_neg hq]at key;refine key (vZ _ _ _) (fun _ _=>⟨by trivial,by trivial⟩) (fun q1 q2=>absurd (q1.symm.trans q2) (by decide)) (fun _ _=>⟨by trivial,by trivial,by trivial⟩) (fun q1 q2=>absurd (q2.symm.trans q1) (by decide))
   ·
    refine key (vZ _ _ _) (fun _ _=>⟨by trivial,by trivial⟩) (fun q1 q2=>absurd (q1.symm.trans q2) (by decide)) (fun _ _=>⟨by trivial,by trivial,by trivial⟩) (fun q1 q2=>absurd (q2.symm.trans q1) (by decide))
   ·
    have h0:p.m.phase=0:=by
     rcases Classical.em (p.m.phase=0)with q | q
     . exact q
     . rw[if_pos q]at hd;cases hd
    refine key (vZ _ _ _) (fun _ _=>⟨by trivial,by trivial⟩) (fun _ q2=>by simp[ed]at q2) (fun q=>(by rw[hph]at q;omega)) (fun q=>(by rw[hph]at q;omega))
   ·
    have h0:p.m.phase=1:=by
     rcases Classical.em (p.m.phase=1)with q | q
     . exact q
     . rw[if_pos q]at hd;cases hd
    refine key (vZ _ _ _) (fun _ _=>⟨by trivial,by trivial⟩) (fun _ q2=>by simp[ed]at q2) (fun q=>(by rw[hph]at q;omega)) (fun q=>(by rw[hph]at q;omega))
   ·
    have h0:p.m.phase=1:=by
     rcases Classical.em (p.m.phase=1)with q | q
     . exact q
     . rw[if_pos q]at hd;cases hd
    refine key (vZ _ _ _) (fun _ q=>by simp[ed]at q) (fun q _=>⟨by rw[if_pos (r3 q).1],by trivial,by trivial⟩) (fun q=>(by rw[hph]at q;omega)) (fun q=>(by rw[hph]at q;omega))
   ·
    have h0:p.m.phase=2:=by
     rcases Classical.em (p.m.phase=2)with q | q
     . exact q
     . rw[if_pos q]at hd;cases hd
    refine key (by trivial) (fun q=>(by rw[hpf]at q;omega)) (fun q=>(by rw[hpf]at q;omega)) (fun _ q=>by simp[ed]at q) (fun _ _=>⟨by trivial,by trivial⟩)
   ·
    refine key (vZ _ _ _) (fun _ _=>⟨by trivial,by trivial⟩) (fun q1 q2=>absurd (q1.symm.trans q2) (by decide)) (fun _ _=>⟨by trivial,by trivial,by trivial⟩) (fun q1 q2=>absurd (q2.symm.trans q1) (by decide))
   ·
    refine key (vZ _ _ _) (fun _ _=>⟨by trivial,by trivial⟩) (fun q1 q2=>absurd (q1.symm.trans q2) (by decide)) (fun _ _=>⟨by trivial,by trivial,by trivial⟩) (fun q1 q2=>absurd (q2.symm.trans q1) (by decide))
   ·
    have h3:p.m.phase≠3:=fun q=>by rw[if_pos q]at hd;cases hd
    refine key (vZ _ _ _) (fun _ q=>by simp[ed]at q) (fun q _=>⟨by rw[if_pos (r3 q).1],?_,by trivial⟩) (fun q _=>⟨?_,?_,by trivial⟩) (fun _ q=>by simp[ed]at q)
    . rw[hpf]at q;show (if p.m.phase=2 then p.m.since else e.y)=e.y
      rw[if_neg (by omega)]
    . have:=(r4 q).1;rw[if_neg (by omega)]
    . rw[hph]at q;show (if p.m.phase=2 then p.m.since else e.y)=p.m.since
      rw[if_pos (by omega)]
   ·
    refine key (vZ _ _ _) (fun _ _=>⟨by trivial,by trivial⟩) (fun q1 q2=>absurd (q1.symm.trans q2) (by decide)) (fun _ _=>⟨by trivial,by trivial,by trivial⟩) (fun q1 q2=>absurd (q2.symm.trans q1) (by decide))
abbrev t0 : T3:=⟨0,0,0⟩
structure Chn (n:Nw) (l:List T3) (c t:Int):Prop where
 ne:0 < l.length
 last:(l.getD (l.length - 1) t0).x=c/\(l.getD (l.length - 1) t0).y<=t
 cell:∀ i,i < l.length->isC n (l.getD i t0).x=true/\0<=(l.getD i t0).y/\(l.getD i t0).y<=t
 nxw:∀ i,i+1 < l.length->(l.getD i t0).y<=(l.getD i t0).z/\(l.getD i t0).z=(l.getD (i+1) t0).y/\(l.getD (i+1) t0).x≠(l.getD i t0).x
theorem Chn.later {n:Nw} {l:List T3} {c t u:Int} (h:Chn n l c t) (hu:t<=u):Chn n l c u:=
 ⟨h.ne,⟨h.last.1,by have:=h.last.2;omega⟩,fun i hi=>by have:=h.cell i hi;exact⟨this.1,this.2.1,by omega⟩,h.nxw⟩
theorem BS (l:List T3) (i j:Nat) (v:T3):(l.set i v).getD j t0=if i=j/\j < l.length then v else l.getD j t0:=by
 rw[zb,zb,zJ];by_cases h:i=j
 . subst h;by_cases h2:i < l.length
   . simp[h2]
   . simp[h2]
 . simp[h]
theorem Bu (l:List T3) (j:Nat) (v:T3):(l++[v]).getD j t0=if j < l.length then l.getD j t0 else if j=l.length then v else t0:=by
 rw[zb,zb,zS];by_cases h:j < l.length
 . rw[if_pos h,if_pos h]
 . rw[if_neg h,if_neg h];by_cases h2:j=l.length
   . subst h2;simp
   . rw[if_neg h2];have:j - l.length=(j - l.length - 1)+1:=by omega
     rw[this];simp
theorem Bw (l:List T3) (t:Int) (j:Nat):(jx l t).getD j t0=if j=l.length - 1/\j < l.length then ⟨(l.getD j t0).x,(l.getD j t0).y,t⟩else l.getD j t0:=by
 unfold jx;rw[BS];by_cases h:l.length - 1=j/\j < l.length
 . rw[if_pos h,if_pos ⟨h.1.symm,h.2⟩,<- h.1]
 . rw[if_neg h,if_neg (fun q=>h ⟨q.1.symm,q.2⟩)]
theorem Chn.chg {n:Nw} {l:List T3} {c d t:Int} (h:Chn n l c t) (ht:0<=t) (hd:isC n d=true):Chn n (chg l c d t) d t:=by
 unfold Go.Proofs.YtcbabnbiinkafaaGreatDoor.chg;by_cases hcd:c=d
 . rw[if_pos hcd];subst hcd;exact h
 rw[if_neg hcd];have hne:=h.ne;have hl:(jx l t).length=l.length:=uo l t;have hg:∀ j,(jx l t++[(⟨d,t,0⟩:T3)]).getD j t0=if j < l.length then (if j=l.length - 1 then ⟨(l.getD j t0).x,(l.getD j t0).y,t⟩else l.getD j t0)else if j=l.length then (⟨d,t,0⟩:T3)else t0:=fun j=>by
  rw[Bu,hl,Bw];by_cases h1:j < l.length
  . rw[if_pos h1,if_pos h1];by_cases h2:j=l.length - 1
    . rw[if_pos ⟨h2,h1⟩,if_pos h2]
    . rw[if_neg (fun q=>h2 q.1),if_neg h2]
  . rw[if_neg h1,if_neg h1]
 have hlen:(jx l t++[(⟨d,t,0⟩:T3)]).length=l.length+1:=by simp[hl]
 refine⟨by omega,?_,fun i hi=>?_,fun i hi=>?_⟩
 . rw[hlen,hg,Nat.add_sub_cancel,if_neg (by omega),if_pos rfl];exact⟨rfl,Int.le_refl _⟩
 . rw[hg];by_cases h1:i < l.length
   . rw[if_pos h1];have hc:=h.cell i h1;by_cases h2:i=l.length - 1
     . rw[if_pos h2];exact hc
     . rw[if_neg h2];exact hc
   . rw[if_neg h1,if_pos (by omega)];exact⟨hd,ht,Int.le_refl _⟩
 . rw[hg,hg];by_cases h2:i=l.length - 1
   . have h1:i < l.length:=by omega
     rw[if_pos h1,if_pos h2,if_neg (by omega),if_pos (by omega)];have hla:=h.last;rw[<- h2]at hla;refine⟨hla.2,rfl,?_⟩;show d≠(l.getD i t0).x
     rw[hla.1];exact fun q=>hcd q.symm
   . have h1:i < l.length:=by omega
     have h3:i+1 < l.length:=by omega
     have hn:=h.nxw i h3;rw[if_pos h1,if_neg h2,if_pos h3];by_cases h4:i+1=l.length - 1
     . rw[if_pos h4];exact hn
     . rw[if_neg h4];exact hn
theorem Chn.begin {n:Nw} {c:Int} (hc:isC n c=true):Chn n [⟨c,0,0⟩] c 0:=
 ⟨by simp,⟨rfl,Int.le_refl _⟩,fun i hi=>by
  have:i=0:=by simpa using hi
  subst this;exact⟨hc,Int.le_refl _,Int.le_refl _⟩,fun i hi=>by simp at hi⟩
theorem Chn.pass {n:Nw} {p:Ph} (hn:NetOk n) (g:dN n p.m) (h:Chn n p.stays p.m.serving p.m.at_) {t:Int} (ht:p.m.at_<=t):Chn n (eJ n p t).stays (eJ n p t).m.serving t:=by
 unfold eJ;by_cases hp:ju n p.m t=true
 . rw[if_pos hp];have hq:=hp;simp only[ju,zm,decide_eq_true_eq]at hq;have hdue:=g.due hq.1;have hsi:=g.since;have hli:=hn.lim;have hz:isC n 0=true:=by simp only[isC,decide_eq_true_eq];have:=hn.len;omega
   exact ((h.later (u:=p.m.since+n.limit) (by omega)).chg (by omega) hz).later hq.2
 . rw[if_neg hp];exact h.later ht
theorem Chn.doP {n:Nw} {p:Ph} {e:T3} (g:p.m.phase=2->isC n p.m.target=true) (h:Chn n p.stays p.m.serving e.y) (h0:0<=e.y) (hev:evE n e=0) (hd:et n p.m e=0):Chn n (doP p e).stays (doP p e).m.serving e.y:=by
 obtain⟨hx,hy,hcz⟩:=ev_ok hev;unfold Go.Proofs.YtcbabnbiinkafaaGreatDoor.doP;by_cases h10:e.x=10
 . rw[if_pos h10];exact h.chg h0 (hcz (by simp[iz,h10]))
 rw[if_neg h10];have hs:(settle (eG p.m e)).serving=(eG p.m e).serving:=(wC _).1;by_cases h6:e.x=6
 . have h2:p.m.phase=2:=by
    unfold et at hd;simp only[h6,Int.reduceEq,if_true,if_false]at hd;rcases Classical.em (p.m.phase=2)with q | q
    . exact q
    . rw[if_pos q]at hd;cases hd
   have e1:(eG p.m e).serving=p.m.target:=by unfold eG;simp only[h6,Int.reduceEq,if_true,if_false]
   show Chn n (if e.x=6 then _ else _) (settle (eG p.m e)).serving e.y
   rw[if_pos h6,hs,e1];exact h.chg h0 (g h2)
 . have e1:(eG p.m e).serving=p.m.serving:=by
    unfold eG;simp only[h6,if_false]
    repeat' split
    all_goals rfl
   show Chn n (if e.x=6 then _ else _) (settle (eG p.m e)).serving e.y
   rw[if_neg h6,hs,e1];exact h
structure All (n:Nw) (p:Ph) (w:Rw):Prop where
 g:dN n p.m
 r:RwOk n p w
 c:Chn n p.stays p.m.serving p.m.at_
theorem All.begin {n:Nw} (hn:NetOk n) {c:Int} (hc:isC n c=true):All n (gm n c) (xE n c):=⟨dN.begin hn hc,.begin hn c,.begin hc⟩
theorem All.apply {n:Nw} {p:Ph} {w:Rw} {e:T3} (hn:NetOk n) (a:All n p w) (h:fZ n p.m e=0):All n (km n p e) (B2 n w e):=by
 have hev:=ry h;obtain⟨hx,hy,hcz⟩:=ev_ok hev;have hE:=h;rw[fZ,if_neg (by simp[hev]),qd]at hE;have hat:p.m.at_<=e.y:=by
  rcases Classical.em (e.y < p.m.at_)with q | q
  . rw[if_pos q]at hE;cases hE
  . omega
 rw[if_neg (by omega)]at hE;have G:dN n (kW n p.m e.y):=a.g.pass hn hat hy.2;have hq:kW n p.m e.y=(atP (eJ n p e.y) e.y).m:=by
  show _=({ (eJ n p e.y).m with at_:=e.y }:Ms)
  rw[ot];rfl
 have hd:et n (eJ n p e.y).m e=0:=by
  rw[<- hE,hq];rfl
 have r1:=a.r.pass hn a.g.since.1 e.y;have c1:=a.c.pass hn a.g hat;have G':dN n (atP (eJ n p e.y) e.y).m:=hq ▸ G;refine⟨by rw[ql];exact a.g.apply hn h,?_,?_⟩
 . refine RwOk.act hn r1 hx hy.1 G'.since.1 (fun q=>?_) hd ?_
   . exact G'.due q
   . rw[a.r.m];exact (ql n p e).symm
 . exact Chn.doP (p:=eJ n p e.y) (fun h2=>G'.tgt (fun q=>(G'.f2 q).2 h2)) c1 hy.1 hev hd
theorem All.steps {n:Nw} (hn:NetOk n):∀ (l:List T3) (p:Ph) (w:Rw) (i:Int),All n p w->(iH n p.m l i).2=0->All n (jk n p l) (Bp n w l)
 |[],p,w,i,a,_=>a
 | e :: l,p,w,i,a,h=>by
  rw[iH]at h;by_cases h0:fZ n p.m e=0
  . rw[if_pos h0,<- ql]at h;exact All.steps hn l _ _ (i+1) (a.apply hn h0) h
  . rw[if_neg h0]at h;exact absurd h h0
theorem PhK.steps {n:Nw}:∀ (l:List T3) (p:Ph) (i:Int) (k:Nat),PhK k p->(iH n p.m l i).2=0->PhK (k+l.length) (jk n p l)
 |[],p,i,k,a,_=>a
 | e :: l,p,i,k,a,h=>by
  rw[iH]at h;by_cases h0:fZ n p.m e=0
  . rw[if_pos h0,<- ql]at h;have:=PhK.steps l _ (i+1) (k+1) (a.apply (n:=n) (e:=e) (ev_ok (ry h0)).2.1) h;rw[zQ];rwa[yG,Nat.add_comm 1]at this
  . rw[if_neg h0]at h;exact absurd h h0
theorem yR (n:Nw):∀ (l k:List T3) (p:Ph),jk n p (l++k)=jk n (jk n p l) k
 |[],k,p=>rfl
 | e :: l,k,p=>yR n l k _
theorem yQ (n:Nw):∀ (l k:List T3) (p:Ph) (i:Int),iH n p.m (l++k) i=if (iH n p.m l i).2=0 then iH n (jk n p l).m k (i+l.length)else iH n p.m l i
 |[],k,p,i=>by simp[iH,jk]
 | e :: l,k,p,i=>by
  rw[yq,iH,iH];by_cases h0:fZ n p.m e=0
  . rw[if_pos h0,if_pos h0,<- ql,yQ n l k _ (i+1),jk,zQ];rw[show i+1+(l.length:Int)=i+((l.length+1:Nat):Int) by push_cast;omega]
  . rw[if_neg h0,if_neg h0,if_neg h0]
theorem xM (n:Nw):∀ (l:List T3) (m:Ms) (i:Int),(iH n m l i).2=0->iH n m l i=(0,0)
 |[],m,i,h=>rfl
 | e :: l,m,i,h=>by
  rw[iH]at h ⊢;by_cases h0:fZ n m e=0
  . rw[if_pos h0]at h ⊢;exact xM n l _ _ h
  . rw[if_neg h0]at h;exact absurd h h0
def upL (a:Int):Nat->List Int
 | 0=>[]
 | k+1=>a :: upL (a+1) k
theorem AF (m:Ms):(settle m).fresh=m.fresh:=by
 unfold Go.Proofs.YtcbabnbiinkafaaGreatDoor.settle;split <;> rfl
theorem AW (n:Nw) (m:Ms) (t:Int):(p7 n m t).fresh=m.fresh:=by unfold p7;split <;> rfl
end Go.Proofs.YtcbabnbiinkafaaGreatDoor
end
