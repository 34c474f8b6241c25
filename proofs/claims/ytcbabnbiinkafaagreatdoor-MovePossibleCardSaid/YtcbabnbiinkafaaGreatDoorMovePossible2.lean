/- Part 2 of the proof of: MovePossible returns true for every input and never panics: the events that are possible at a time are those of the reference, or the same error, and Apply accepts each of them; conditions: those of the given statement. -/
import Derived.Test.YtcbabnbiinkafaaGreatDoorProg
import Derived.KernelRfl
import Derived.Test.YtcbabnbiinkafaaGreatDoorMovePossible1
set_option linter.all false
section
open Go Go.Am
open Go.Am.Dat (cells)
namespace Go.Proofs.YtcbabnbiinkafaaGreatDoor.E2
set_option maxRecDepth 100000
def c113k3 : AC:=oS (.draw 999 [1,2,3,5,9,10,11,12,13,14,15,16,17,18,19,20,21,22,23,24,25,26,27,28,30,31,32,33,34,102,103,105,109,110,111,112,113,114,115,116,117,118,119,120,121,122,123,124,125,126,127,128,130,131,132,133,134,203,205,209,210,211,212,213,214,215,216,217,218,219,220,221,222,223,224,225,226,227,228,230,231,232,233,234,305,309,310,311,312,313,314,315,316,317,318,319,320,321,322,323,324,325,326,327,328,330,331,332,333,334,405,409,410,411,412,413,414,415,416,417,418,419,420,421,422,423,424,425,426,427,428,430,431,432,433,434,509,510,511,512,513,514,515,516,517,518,519,520,521,522,523,524,525,526,527,528,530,531,532,533,534,609,610,611,612,613,614,615,616,617,618,619,620,621,622,623,624,625,626,627,628,630,631,632,633,634,708,709,710,711,712,713,714,715,716,717,718,719,720,721,722,723,724,725,726,727,728,730,731,732,733,734,809,810,811,812,813,814,815,816,817,818,819,820,821,822,823,824,825,826,827,828,830,831,832,833,834,910,911,912,913,914,915,916,917,918,919,920,921,922,923,924,925,926,927,928,930,931,932,933,934,1011,1012,1013,1014,1015,1016,1017,1018,1019,1020,1021,1022,1023,1024,1025,1026,1027,1028,1030,1031,1032,1033,1034,1114,1115,1116,1117,1118,1119,1120,1121,1122,1123,1124,1125,1126,1127,1128,1130,1131,1132,1133,1134,1213,1214,1215,1216,1217,1218,1219,1220,1221,1222,1223,1224,1225,1226,1227,1228,1230,1231,1232,1233,1234,1314,1315,1316,1317,1318,1319,1320,1321,1322,1323,1324,1325,1326,1327,1328,1330,1331,1332,1333,1334,1415,1416,1417,1418,1419,1420,1421,1422,1423,1424,1425,1426,1427,1428,1430,1431,1432,1433,1434,1516,1517,1518,1519,1520,1521,1522,1523,1524,1525,1526,1527,1528,1530,1531,1532,1533,1534,1617,1618,1619,1620,1621,1622,1623,1624,1625,1626,1627,1628,1630,1631,1632,1633,1634,1720,1721,1722,1723,1724,1725,1726,1727,1728,1730,1731,1732,1733,1734,1819,1820,1821,1822,1823,1824,1825,1826,1827,1828,1830,1831,1832,1833,1834,1920,1921,1922,1923,1924,1925,1926,1927,1928,1930,1931,1932,1933,1934,2021,2022,2023,2024,2025,2026,2027,2028,2030,2031,2032,2033,2034,2122,2123,2124,2125,2126,2127,2128,2130,2131,2132,2133,2134,2223,2224,2225,2226,2227,2228,2230,2231,2232,2233,2234,2326,2327,2328,2330,2331,2332,2333,2334,2425,2426,2427,2428,2430,2431,2432,2433,2434,2526,2527,2528,2530,2531,2532,2533,2534,2627,2628,2630,2631,2632,2633,2634,2728,2730,2731,2732,2733,2734,2830,2831,2832,2833,2834,2930,2931,2932,2933,2934,3031,3032,3033,3034,3132,3133,3134,3233,3234,3334] [oF 83 1 3,oL 84 83,oC 85 96 [oO 84,oN 0,oN 3],oC 86 95 [oO 85,oN 15],oA 87 (.mvs (oO 11)),oC 88 95 [oO 87,oN 2],oL 89 7,oF 90 3 3,oL 91 90,oC 92 145 [oO 89,oO 91],oA 93 (.mvs (oO 92)),oJ 94 93 true 7,oE 95 93 true 6 3,oJ 96 93 true 95,oG 97 93 true (.call (.func 145) [oO 94,oO 96]),oP 98 93 97,oA 99 (.mvs (oO 98)),oD 100 99 true 10,oE 101 99 true 4 3,oJ 102 99 true 101,oG 103 99 true (.call (oO 100) [oO 102]),oP 104 99 103,oA 105 (.mvs (oO 104)),oD 106 105 true 10,oE 107 105 true 5 3,oJ 108 105 true 107,oG 109 105 true (.call (oO 106) [oO 108]),oP 110 105 109,oC 111 95 [oO 110,oN 6],oL 112 7,oT 113 (.call (.func 146) [oO 112]),oT 114 (.call (.func 95) [oO 113,oN 3]),oT 115 (.mkSl false 27 1 o1 4 [(0,oO 86),(1,oO 88),(2,oO 111),(3,oO 114)]),oT 116 (.call (.func 91) [oO 115]),oT 12 (.mv (oO 116))]) (oK [3,7,12] (oS (oX [oM 117 12,oB 118 .neq 27 117 (oN 0)] [3,7,12,118] (oI 118 (oX [oM 119 12,oA 4 (.mv (.const (.pointer none))),oM 5 119] [4,5] .ret))) (oK [3,7] (oX [oA 120 (.mkFn (.func 147) [] [oO 7]),oM 13 120] [3,7,13] (.cut c113k2)))))
def c113 : AC:=oX [o7 2 0,o7 3 1,oA 4 (.mv (.const (.pointer none))),oV 5 0] [2,3] (oS (oS (oQ [o5 14 3 2,oC 15 101 [oO 14],oF 16 9 3,oL 17 16,o4 18 17,oF 19 0 2,oL 20 19,o4 21 20,oB 22 .eql 3 18 (oO 21),oT 23 (.call (.func 95) [oO 22,oN 10]),oT 24 (.mkSl false 27 1 o1 2 [(0,oO 15),(1,oO 23)]),oT 25 (.call (.func 91) [oO 24]),oT 6 (.mv (oO 25))]) (oK [2,3,6] (oX [oM 26 6,oB 27 .neq 27 26 (oN 0)] [2,3,6,27] (oI 27 (oX [oM 28 6,oA 4 (.mv (.const (.pointer none))),oM 5 28] [4,5] .ret))))) (oK [2,3] (oX [o5 29 3 2,oC 30 107 [oO 29,oN 0],oA 7 (.alloc [.pointer none]),oW 1 7 30] [3,7] (oX [oL 31 7,o5 32 10 3,o6 33 31,oF 34 0 33,oW 10 34 32] [3,7] (oX [oL 35 7,o6 36 35,oF 37 0 36,oF 38 9 37,oY false 1 (oO 38) (.const (.slice none 0 0))] [3,7] (oS (oX [oF 39 9 3,oL 40 39,o4 41 40,oV 42 0] [3,7,40,41,42] (.block 0 (.loop c113l1))) (oK [3,7] (oX [oA 60 (.mkFn (.func 144) [] [oO 7]),oM 10 60] [3,7,10] (oX [oF 61 0 3,oL 62 61,oC 63 102 [oO 62],oM 64 63,oE 65 64 true 2 3,oJ 66 64 true 65,oE 67 64 true 0 3,oJ 68 64 true 67,oG 69 64 true (.call (.func 96) [oO 66,oN 0,oO 68]),oP 70 64 69,oM 71 70,oE 72 71 true 7 3,oJ 73 71 true 72,oG 74 71 true (.call (.func 96) [oO 73,oN 0,oN 1000000]),oP 75 71 74,oM 76 75,oE 77 76 true 8 3,oJ 78 76 true 77,oE 79 76 true 7 3,oJ 80 76 true 79,oG 81 76 true (.call (.func 96) [oO 78,oN 0,oO 80]),oP 82 76 81,oM 11 82] [3,7,10,11] (.cut c113k3))))))))))
def rv113 : List RV:=[.tmp 4,.tmp 5]
theorem is113 : FnIs Tryz.prog 113 156 c113 rv113:=⟨⟨Tryz.f113,_,Tryz.func113,by kernel_rfl,rfl,rfl,by kernel_rfl,by kernel_rfl⟩,by decide⟩
end Go.Proofs.YtcbabnbiinkafaaGreatDoor.E2
end
section
open Go Go.Am
open Go.Am.Dat (cells)
namespace Go.Proofs.YtcbabnbiinkafaaGreatDoor.E3
set_option maxRecDepth 100000
def c143k1 : AC:=.ret
def c143k2 : AC:=.ret
def c143 : AC:=oX [oA 2 (.mv (.const (.slice none 0 0)))] [0] (oS (oX [oM 3 0,oA 4 (.ext (.isnil false) [oO 3])] [0,4] (oI 4 (oX [oA 2 (.mv (.const (.slice none 0 0)))] [2] (.cut c143k1)))) (oK [0] (oX [oA 5 (.mkSl true 3 1 o1 0 []),oM 6 0,oA 7 (.app 24 3 1 8 o1 (oO 5) (oO 6)),oM 2 7] [2] (.cut c143k2))))
def rv143 : List RV:=[.tmp 2]
theorem is143 : FnIs Tryz.prog 143 8 c143 rv143:=⟨⟨Tryz.f143,_,Tryz.func143,by kernel_rfl,rfl,rfl,by kernel_rfl,by kernel_rfl⟩,by decide⟩
end Go.Proofs.YtcbabnbiinkafaaGreatDoor.E3
end
section
open Go Go.Am
open Go.Am.Dat (cells)
namespace Go.Proofs.YtcbabnbiinkafaaGreatDoor.E4
set_option maxRecDepth 100000
def c67l1 : AC:=oS (oX [oM 205 10,oM 206 9,o4 207 206,oB 208 .lss 3 205 (oO 207)] [3,5,6,8,9,10,208] (.cond (oO 208) .skip (.exit 2))) (oK [3,5,6,8,9,10] (oS (.block 3 (oS (oS (oQ [oM 211 9,oA 212 (.mvs (oO 10)),oA 213 (.iaddr 1 o1 (oO 211) (oO 212)),oL 214 213,oF 215 7 3,oL 216 215,oB 217 .sub 3 216 (oN 1),oT 218 (.call (.func 31) [oO 214,oN 0,oO 217]),oT 219 (.un .not (oO 218))]) (oK [3,5,6,8,9,10,219] (oI 219 (oX [oV 4 2] [4] .ret)))) (oK [3,5,6,8,9,10] (oS (oS (oQ [oT 220 (.mv (oO 10)),oT 221 (.bin .gtr 3 (oO 220) (oN 0)),oT 222 (.mv (oO 221)),oD 223 222 true 9,oD 224 222 true 10,oG 225 222 true (.iaddr 1 o1 (oO 223) (oO 224)),oJ 226 222 true 225,oD 227 222 true 9,oD 228 222 true 10,oG 229 222 true (.bin .sub 3 (oO 228) (oN 1)),oG 230 222 true (.iaddr 1 o1 (oO 227) (oO 229)),oJ 231 222 true 230,⟨some 232,some (222,true),.bin .leq 3 (oO 226) (oO 231),true⟩,oT 233 (.pick (oO 222) (oO 232) (.const (.bool false)))]) (oK [3,5,6,8,9,10,233] (oI 233 (oX [oV 4 9] [4] .ret)))) (oK [3,5,6,8,9,10] (oS (oQ [o5 234 10 3,oA 235 (.mvs (oO 8)),oM 236 9,oM 237 10,oA 238 (.iaddr 1 o1 (oO 236) (oO 237)),oL 239 238,oT 240 (.call (.func 117) [oO 234,oO 235,oO 239]),oT 241 (.bin .geq 3 (oO 240) (oN 0))]) (oK [3,5,6,8,9,10,241] (oI 241 (oX [oV 4 26] [4] .ret))))))))) (oK [3,5,6,8,9,10] (oR [oM 209 10,oB 210 .add 3 209 (oN 1),oM 10 210]))))
def c67l2 : AC:=oS (oX [oM 193 8,oF 194 9 3,oL 195 194,o4 196 195,oB 197 .lss 3 193 (oO 196)] [3,5,6,8,197] (.cond (oO 197) .skip (.exit 0))) (oK [3,5,6,8] (oS (.block 1 (oX [oF 200 9 3,oL 201 200,oM 202 8,oA 203 (.iaddr 1 o0 (oO 201) (oO 202)),oL 204 203,oM 9 204] [3,5,6,8,9] (oX [oV 10 0] [3,5,6,8,9,10] (.block 2 (.loop c67l1))))) (oK [3,5,6,8] (oR [oM 198 8,oB 199 .add 3 198 (oN 1),oM 8 199]))))
def c67l3 : AC:=oS (oX [oM 242 11,oF 243 9 3,oL 244 243,o4 245 244,oB 246 .lss 3 242 (oO 245)] [3,5,6,11,246] (.cond (oO 246) .skip (.exit 4))) (oK [3,5,6,11] (oS (.block 5 (oX [oF 249 9 3,oL 250 249,oM 251 11,oA 252 (.iaddr 1 o0 (oO 250) (oO 251)),oL 253 252,o4 254 253,oB 255 .gtr 3 254 (oN 0),oM 256 255,oD 257 256 true 11,oE 258 256 true 3 3,oJ 259 256 true 258,oG 260 256 true (.bin .neq 3 (oO 257) (oO 259)),oP 261 256 260,oM 262 261,oD 263 262 true 6,oD 264 262 true 263,oD 265 264 true 11,oE 266 264 true 5 3,oJ 267 264 true 266,oG 268 264 true (.bin .eql 3 (oO 265) (oO 267)),oG 269 262 true (.pick (oO 264) (oO 268) (.const (.bool false))),oG 270 262 true (.un .not (oO 269)),oP 271 262 270,oM 272 271,oD 273 272 true 5,oD 274 272 true 273,oG 275 274 true (.load true 10 (oO 3)),oG 276 274 true (.call (.func 112) [oO 275]),oG 277 272 true (.pick (oO 274) (oO 276) (.const (.bool false))),oD 278 272 true 277,oD 279 278 true 11,oE 280 278 true 4 3,oJ 281 278 true 280,oG 282 278 true (.bin .eql 3 (oO 279) (oO 281)),oG 283 272 true (.pick (oO 278) (oO 282) (.const (.bool false))),oG 284 272 true (.un .not (oO 283)),oP 285 272 284] [3,5,6,11,285] (oI 285 (oX [oV 4 23] [4] .ret)))) (oK [3,5,6,11] (oR [oM 247 11,oB 248 .add 3 247 (oN 1),oM 11 248]))))
def c67l4 : AC:=oS (oX [oM 294 12,oF 295 7 3,oL 296 295,oB 297 .lss 3 294 (oO 296)] [3,12,297] (.cond (oO 297) .skip (.exit 6))) (oK [3,12] (oS (.block 7 (oX [o5 300 10 3,oF 301 9 3,oL 302 301,o4 303 302,oM 304 12,oC 305 117 [oO 300,oO 303,oO 304],oB 306 .lss 3 305 (oN 0)] [3,12,306] (oI 306 (oX [oV 4 14] [4] .ret)))) (oK [3,12] (oR [oM 298 12,oB 299 .add 3 298 (oN 1),oM 12 299]))))
def c67k5 : AC:=oS (oX [oF 286 7 3,oL 287 286,oF 288 8 3,oL 289 288,oB 290 .sub 3 287 (oO 289),oB 291 .gtr 3 290 (oN 60)] [3,291] (oI 291 (oX [oV 4 14] [4] .ret))) (oK [3] (oS (oX [oF 292 8 3,oL 293 292,oM 12 293] [3,12] (.block 6 (.loop c67l4))) (oK [] (oX [oV 4 0] [4] .ret))))
def c67k6 : AC:=oS (oX [oV 11 0] [3,5,6,11] (.block 4 (.loop c67l3))) (oK [3] (.cut c67k5))
def c67k7 : AC:=oS (oX [oV 8 0] [3,5,6,8] (.block 0 (.loop c67l2))) (oK [3,5,6] (.cut c67k6))
def c67k8 : AC:=oS (oX [o5 190 10 3,oC 191 116 [oO 190],oB 192 .gtr 3 191 (oN 60)] [3,5,6,192] (oI 192 (oX [oV 4 8] [4] .ret))) (oK [3,5,6] (.cut c67k7))
def c67k9 : AC:=oS (oX [o5 158 10 3,oC 159 112 [oO 158],oM 160 159,oE 161 160 true 2 3,oJ 162 160 true 161,oE 163 160 true 2 2,oJ 164 160 true 163,oG 165 160 true (.bin .add 3 (oO 162) (oO 164)),oE 166 160 true 0 3,oJ 167 160 true 166,oG 168 160 true (.bin .leq 3 (oO 165) (oO 167)),oP 169 160 168,oM 170 169,oD 171 170 false 6,oD 172 170 false 171,oE 173 172 true 9 3,oJ 174 172 true 173,oE 175 172 true 5 3,oJ 176 172 true 175,oG 177 172 true (.iaddr 1 o0 (oO 174) (oO 176)),oJ 178 172 true 177,oG 179 172 true (.len false (oO 178)),oG 180 172 true (.bin .eql 3 (oO 179) (oN 0)),oG 181 170 false (.pick (oO 172) (oO 180) (.const (.bool false))),oD 182 170 false 181,oE 183 182 true 6 3,oJ 184 182 true 183,oE 185 182 true 3 3,oJ 186 182 true 185,oG 187 182 true (.bin .eql 3 (oO 184) (oO 186)),oG 188 170 false (.pick (oO 182) (oO 187) (.const (.bool false))),oH 189 170 188] [3,5,6,189] (oI 189 (oX [oV 4 22] [4] .ret))) (oK [3,5,6] (.cut c67k8))
def c67k10 : AC:=oS (oX [oM 136 5,oM 137 136,oG 138 137 true (.load true 3 (oO 2)),oE 139 137 true 4 3,oJ 140 137 true 139,oE 141 137 true 3 3,oJ 142 137 true 141,oG 143 137 true (.call (.func 115) [oO 138,oO 140,oO 142]),oG 144 137 true (.un .not (oO 143)),oP 145 137 144,oM 146 145,oD 147 146 false 6,oD 148 146 false 147,oG 149 148 true (.load true 3 (oO 2)),oE 150 148 true 5 3,oJ 151 148 true 150,oE 152 148 true 3 3,oJ 153 148 true 152,oG 154 148 true (.call (.func 115) [oO 149,oO 151,oO 153]),oG 155 148 true (.un .not (oO 154)),oG 156 146 false (.pick (oO 148) (oO 155) (.const (.bool false))),oH 157 146 156] [2,3,5,6,157] (oI 157 (oX [oV 4 13] [4] .ret))) (oK [2,3,5,6] (.cut c67k9))
def c67k11 : AC:=oX [oF 88 1 3,oL 89 88,oB 90 .eql 3 89 (oN 1),oM 91 90,oE 92 91 false 1 3,oJ 93 91 false 92,oG 94 91 false (.bin .eql 3 (oO 93) (oN 2)),oH 95 91 94,oM 7 95] [2,3,5,6,7] (oS (oX [oM 96 5,oM 97 96,oE 98 97 true 1 3,oJ 99 97 true 98,oG 100 97 true (.bin .eql 3 (oO 99) (oN 0)),oP 101 97 100,oM 102 101,oD 103 102 false 5,oG 104 102 false (.un .not (oO 103)),oD 105 102 false 104,oD 106 105 true 7,oG 107 102 false (.pick (oO 105) (oO 106) (.const (.bool false))),oH 108 102 107,oM 109 108,oD 110 109 false 6,oD 111 109 false 110,oD 112 111 true 7,oD 113 111 true 112,oD 114 113 false 5,oG 115 111 true (.pick (oO 113) (.const (.bool true)) (oO 114)),oG 116 109 false (.pick (oO 111) (oO 115) (.const (.bool false))),oH 117 109 116,oM 118 117,oE 119 118 false 6 3,oJ 120 118 false 119,oE 121 118 false 3 3,oJ 122 118 false 121,oG 123 118 false (.bin .neq 3 (oO 120) (oO 122)),oD 124 118 false 123,oD 125 124 true 6,oG 126 124 true (.un .not (oO 125)),oD 127 124 true 126,oE 128 127 false 6 3,oJ 129 127 false 128,oE 130 127 false 5 3,oJ 131 127 false 130,oG 132 127 false (.bin .neq 3 (oO 129) (oO 131)),oG 133 124 true (.pick (oO 127) (.const (.bool true)) (oO 132)),oG 134 118 false (.pick (oO 124) (oO 133) (.const (.bool false))),oH 135 118 134] [2,3,5,6,135] (oI 135 (oX [oV 4 3] [4] .ret))) (oK [2,3,5,6] (.cut c67k10)))
def c67k12 : AC:=oS (oQ [oF 50 4 3,oL 51 50,oB 52 .neq 3 51 (oN (-1)),oF 53 5 3,oL 54 53,oB 55 .neq 3 54 (oN (-1)),oM 5 52,oT 6 (.mv (oO 55))]) (oK [2,3,5,6] (oS (oX [o5 56 3 2,oF 57 3 3,oL 58 57,oC 59 99 [oO 56,oO 58],oA 60 (.un .not (oO 59)),oM 61 60,oG 62 61 false (.load true 3 (oO 2)),oE 63 61 false 6 3,oJ 64 61 false 63,oG 65 61 false (.call (.func 99) [oO 62,oO 64]),oG 66 61 false (.un .not (oO 65)),oH 67 61 66,oM 68 67,oD 69 68 false 5,oD 70 68 false 69,oG 71 70 true (.load true 3 (oO 2)),oE 72 70 true 4 3,oJ 73 70 true 72,oG 74 70 true (.call (.func 99) [oO 71,oO 73]),oG 75 70 true (.un .not (oO 74)),oG 76 68 false (.pick (oO 70) (oO 75) (.const (.bool false))),oH 77 68 76,oM 78 77,oD 79 78 false 6,oD 80 78 false 79,oG 81 80 true (.load true 3 (oO 2)),oE 82 80 true 5 3,oJ 83 80 true 82,oG 84 80 true (.call (.func 99) [oO 81,oO 83]),oG 85 80 true (.un .not (oO 84)),oG 86 78 false (.pick (oO 80) (oO 85) (.const (.bool false))),oH 87 78 86] [2,3,5,6,87] (oI 87 (oX [oV 4 6] [4] .ret))) (oK [2,3,5,6] (.cut c67k11))))
def c67 : AC:=oX [o7 2 0,o7 3 1,oV 4 0] [2,3] (oS (oX [oF 13 9 3,oL 14 13,o4 15 14,oF 16 0 2,oL 17 16,o4 18 17,oB 19 .neq 3 15 (oO 18)] [2,3,19] (oI 19 (oX [oV 4 10] [4] .ret))) (oK [2,3] (oS (oX [oF 20 1 3,oL 21 20,oC 22 31 [oO 21,oN 0,oN 3],oA 23 (.un .not (oO 22))] [2,3,23] (oI 23 (oX [oV 4 15] [4] .ret))) (oK [2,3] (oS (oX [oF 24 0 3,oL 25 24,oC 26 31 [oO 25,oN 0,oN 1000000000],oA 27 (.un .not (oO 26)),oM 28 27,oE 29 28 false 2 3,oJ 30 28 false 29,oE 31 28 false 0 3,oJ 32 28 false 31,oG 33 28 false (.call (.func 31) [oO 30,oN 0,oO 32]),oG 34 28 false (.un .not (oO 33)),oH 35 28 34,oM 36 35,oE 37 36 false 7 3,oJ 38 36 false 37,oG 39 36 false (.call (.func 31) [oO 38,oN 0,oN 1000000]),oG 40 36 false (.un .not (oO 39)),oH 41 36 40,oM 42 41,oE 43 42 false 8 3,oJ 44 42 false 43,oE 45 42 false 7 3,oJ 46 42 false 45,oG 47 42 false (.call (.func 31) [oO 44,oN 0,oO 46]),oG 48 42 false (.un .not (oO 47)),oH 49 42 48] [2,3,49] (oI 49 (oX [oV 4 2] [4] .ret))) (oK [2,3] (.cut c67k12)))))))
def rv67 : List RV:=[.tmp 4]
theorem is67 : FnIs Tryz.prog 67 307 c67 rv67:=⟨⟨Tryz.f67,_,Tryz.func67,by kernel_rfl,rfl,rfl,by kernel_rfl,by kernel_rfl⟩,by decide⟩
end Go.Proofs.YtcbabnbiinkafaaGreatDoor.E4
end
section
open Go Go.Am
open Go.Am.Dat (cells)
namespace Go.Proofs.YtcbabnbiinkafaaGreatDoor.E5
set_option maxRecDepth 100000
def c16l1 : AC:=oS (oX [oM 71 10,oM 72 7,o4 73 72,oB 74 .lss 3 71 (oO 73)] [3,4,7,10,74] (.cond (oO 74) .skip (.exit 0))) (oK [3,4,7,10] (oS (.block 1 (oS (.draw 999 [1,3,8,9,10,11,13,14,103,108,109,110,111,113,114,203,208,209,210,211,213,214,308,309,310,311,313,314,406,407,408,409,410,411,413,414,506,507,508,509,510,511,513,514,607,608,609,610,611,613,614,708,709,710,711,713,714,809,810,811,813,814,910,911,913,914,1013,1014,1114,1213,1214,1314] [o5 78 3 3,oC 79 37 [oO 78],o5 80 10 4,oC 81 65 [oO 80],oM 82 7,oA 83 (.mvs (oO 10)),oA 84 (.iaddr 3 o3 (oO 82) (oO 83)),o5 85 3 84,oC 86 69 [oO 79,oO 81,oO 85],oM 77 86,o8 87 77 0,o8 88 77 1,oA 11 (.alloc oZ),oW 10 11 87,oT 12 (.mv (oO 88))]) (oK [3,4,7,10,12] (oX [oM 89 12,oB 90 .neq 27 89 (oN 0)] [3,4,7,10,90] (oI 90 (oX [o9 6 false] [6] .ret)))))) (oK [3,4,7,10] (oR [oM 75 10,oB 76 .add 3 75 (oN 1),oM 10 76]))))
def c16 : AC:=oX [o7 3 0,o7 4 1,o9 6 false] [2,3,4] (oS (oX [oC 13 21 [],oA 14 (.un .not (oO 13))] [2,3,4,14] (oI 14 (oX [o9 6 false] [6] .ret))) (oK [2,3,4] (oS (oX [o5 15 3 3,oC 16 34 [oO 15],oA 17 (.un .not (oO 16)),oM 18 17,oG 19 18 false (.load true 10 (oO 4)),oG 20 18 false (.call (.func 63) [oO 19]),oG 21 18 false (.un .not (oO 20)),oH 22 18 21] [2,3,4,22] (oI 22 (oX [o9 6 true] [6] .ret))) (oK [2,3,4] (oS (oQ [o5 24 3 3,oC 25 37 [oO 24],o5 26 10 4,oC 27 65 [oO 26],oM 28 2,oT 29 (.call (.func 76) [oO 25,oO 27,oO 28]),oT 23 (.mv (oO 29)),o8 30 23 0,o8 31 23 1,oM 7 30,oT 8 (.mv (oO 31))]) (oK [2,3,4,7,8] (oX [o5 32 3 3,o5 33 10 4,oC 34 70 [oO 32,oO 33],oM 9 34] [2,3,4,7,8,9] (oS (oX [oM 35 9,oB 36 .eql 3 35 (oN 0),oM 37 36,oD 38 37 true 2,oG 39 37 true (.call (.func 31) [oO 38,oN 0,oN 1000000000]),oG 40 37 true (.un .not (oO 39)),oP 41 37 40] [2,3,4,7,8,9,41] (oI 41 (oR [oV 9 2]))) (oK [2,3,4,7,8,9] (oS (oX [oM 42 9,oB 43 .eql 3 42 (oN 0),oM 44 43,oD 45 44 true 2,oE 46 44 true 0 4,oJ 47 44 true 46,oG 48 44 true (.bin .lss 3 (oO 45) (oO 47)),oP 49 44 48] [2,3,4,7,8,9,49] (oI 49 (oR [oV 9 9]))) (oK [2,3,4,7,8,9] (oS (oX [oM 50 9,oB 51 .neq 3 50 (oN 0)] [2,3,4,7,8,9,51] (oI 51 (oX [oM 52 8,oM 53 9,oB 54 .eql 3 52 (oO 53),oM 55 54,oD 56 55 true 7,oG 57 55 true (.len false (oO 56)),oG 58 55 true (.bin .eql 3 (oO 57) (oN 0)),oP 59 55 58,oM 6 59] [6] .ret))) (oK [2,3,4,7,8] (oS (oX [oM 60 8,oB 61 .neq 27 60 (oN 0),oM 62 61,oD 63 62 false 7,oG 64 62 false (.load true 3 (oO 3)),oG 65 62 false (.load true 10 (oO 4)),oD 66 62 false 2,oG 67 62 false (.call (.func 78) [oO 64,oO 65,oO 66]),oG 68 62 false (.call (.func 77) [oO 63,oO 67]),oG 69 62 false (.un .not (oO 68)),oH 70 62 69] [3,4,7,70] (oI 70 (oX [o9 6 false] [6] .ret))) (oK [3,4,7] (oS (oX [oV 10 0] [3,4,7,10] (.block 0 (.loop c16l1))) (oK [] (oX [o9 6 true] [6] .ret))))))))))))))))))
def rv16 : List RV:=[.tmp 6]
theorem is16 : FnIs Tryz.prog 16 91 c16 rv16:=⟨⟨Tryz.f16,_,Tryz.func16,by kernel_rfl,rfl,rfl,by kernel_rfl,by kernel_rfl⟩,by decide⟩
end Go.Proofs.YtcbabnbiinkafaaGreatDoor.E5
end
section
open Go Go.Am
open Go.Am.Dat (cells)
namespace Go.Proofs.YtcbabnbiinkafaaGreatDoor
set_option maxHeartbeats 4000000
set_option maxRecDepth 100000
def cnt (p:Nat->Bool):Nat->Nat
 | 0=>0
 | t+1=>if p t then cnt p t+1 else 0
theorem Av (p:Nat->Bool):∀ (t m:Nat),m < cnt p t↔(m < t/\∀ k,k < t->t<=k+m+1->p k=true)
 | 0,m=>by simp[cnt]
 | t+1,m=>by
  rw[cnt];cases hp:p t with
  | false=>
   simp only[zr,if_false,Nat.not_lt_zero,false_iff,not_and];intro h1 h2;have:=h2 t (by omega) (by omega);rw[hp]at this;cases this
  | true=>
   simp only[if_true];cases m with
   | zero=>
    constructor
    . intro _;refine⟨by omega,fun k h1 h2=>?_⟩;have:k=t:=by omega
      rw[this];exact hp
    . intro _;omega
   | succ m=>
    have ih:=Av p t m;constructor
    . intro h;obtain⟨g1,g2⟩:=ih.1 (by omega);refine⟨by omega,fun k h1 h2=>?_⟩;by_cases hk:k=t
      . rw[hk];exact hp
      . exact g2 k (by omega) (by omega)
    . intro h;have:=ih.2 ⟨by omega,fun k h1 h2=>h.2 k (by omega) (by omega)⟩;omega
theorem Bp (p:Nat->Bool) (t:Nat):((cnt p (t+1):Nat):Int)=if p t then (cnt p t:Int)+1 else 0:=by
 rw[cnt];split <;> simp
theorem AA (n:Nw) (a b:Int) (h:NwS n):FC Tryz.prog 115 [enc n,enc a,enc b] [] (enc (nbr n a b)) []:=by
 have hb:=h.b;generalize hB:nbr n a b=B;refine dD [] is115 (by simp) trivial trivial trivial trivial (fun cx _ hl _=>dC [] 800 ?_);delta c115 oS oK oV oX o7 o9;simp (maxSteps:=9^7) -implicitDefEqProofs only[Bd,ed,WU,Ent.of0,Ent.of1,Ent.of2,Ent.of3,Ent.of4,V,W3,↓reduceIte,seval,reduceCtorEq];refine eN n.nb.length (fun i=>[(7,.s (.int .i64 (i:Int)))]) (fun _=>[]) (fun i=>B=(n.nb.drop i).any fun x=>decide (x=⟨min a b,max a b⟩)) (by rw[<- hB];rfl) ?_ (fun i hi hv=>dC [] 800 ?_)
 . simp (maxSteps:=9^7) -implicitDefEqProofs only[Ent.of0,Ent.of1,Ent.of2,Ent.of3,Ent.of4,V,W3,↓reduceIte,seval,reduceCtorEq]
   all_goals simp
 . by_cases h5:i < n.nb.length
   . have hi2:(i:Int) < (n.nb.length:Int):=by omega
     have hi0:(0:Int)<=i:=by omega
     have hgd:=p8 (n.nb.getD i ⟨0,0⟩) ⟨min a b,max a b⟩;rw[eg ⟨0,0⟩ h5,List.any_cons]at hv;cases hx:decide (n.nb.getD i ⟨0,0⟩=(⟨min a b,max a b⟩:Gs))
     all_goals
      rw[hx]at hgd hv;simp only[yz,zF]at hv;delta Bj oO oN oA oM oR oS oK oF oL oI oX oB o2 o4 o5 o9;simp (maxSteps:=9^7) -implicitDefEqProofs only[Bd,hi2,hi0,h5,hgd,InR,not_true_eq_false,WU,Ent.of0,Ent.of1,Ent.of2,Ent.of3,Ent.of4,V,W3,↓reduceIte,seval,reduceCtorEq];rw[show (if b < a then b else a)=min a b by omega,show (if b > a then b else a)=max a b by omega,hgd];simp only[if_true,zr,if_false]
      first | exact hv.symm | exact⟨by omega,hv,by omega⟩
   . have hi2:¬ (i:Int) < (n.nb.length:Int):=by omega
     rw[zv (by omega)]at hv;delta Bj oO oN oA oM oR oS oK oF oL oI oX oB o2 o4 o5 o9;simp (maxSteps:=9^7) -implicitDefEqProofs only[Bd,hi2,WU,Ent.of0,Ent.of1,Ent.of2,Ent.of3,Ent.of4,V,W3,↓reduceIte,seval,reduceCtorEq]
     try simp[hv]
def xB : Ent Tryz.prog:=.of3 115 (fun n _ _=>NwS n) (fun (n:Nw) (a b:Int)=>enc (nbr n a b)) (fun _ _ _=>trivial) (fun n a b h=>AA n a b h)
def btr (r:Rul) (s n:List Int) (k:Nat):Bool:=nG r (s.getD k 0) (n.getD k 0)
def ovk (r:Rul) (s n:List Int) (k:Nat):Bool:=over r (s.getD k 0) (n.getD k 0)
def GoodT (r:Rul) (s n:List Int):Option Int->List Int->Prop
 |_,[]=>True
 | prev,v :: l=>(r.trig<=v/\v<=(s.length:Int) - 1)/\(∀ k:Nat,v - r.trig<=(k:Int)->(k:Int)<=v->btr r s n k=true)/\(∀ u,prev=some u->u < v/\∃ k:Nat,u<=(k:Int)/\(k:Int) < v/\ovk r s n k=true)/\GoodT r s n (some v) l
theorem cnt_gt {r:Rul} {s n:List Int} {t:Nat} {run:Int} (ht:0<=r.trig) (hrun:run=(cnt (btr r s n) (t+1):Int)) (h:r.trig < run):r.trig<=t/\∀ k:Nat,(t:Int) - r.trig<=k->(k:Int)<=t->btr r s n k=true:=by
 obtain⟨T,hT⟩:∃ T:Nat,r.trig=(T:Int):=⟨r.trig.toNat,by omega⟩;rw[hT]at h ⊢;have h2:T < cnt (btr r s n) (t+1):=by omega
 rw[Av]at h2;exact⟨by omega,fun k h3 h4=>h2.2 k (by omega) (by omega)⟩
theorem goodT (r:Rul) (s n:List Int) (hl:n.length=s.length) (ht:0<=r.trig) (hh:0<=r.hyst):∀ (m t:Nat) (armed:Bool) (prev:Option Int),s.length - t=m ->
 (∀ u,prev=some u->u < (t:Int)/\(armed=true->∃ k:Nat,u<=(k:Int)/\(k:Int) < t/\ovk r s n k=true))->GoodT r s n prev (trg r (s.drop t) (n.drop t) t (cnt (btr r s n) t) armed)
 | 0,t,armed,prev,hm,hp=>by
  rw[zv (by omega:s.length<=t),tc];trivial
 | m+1,t,armed,prev,hm,hp=>by
  have h1:t < s.length:=by omega
  have h2:t < n.length:=by omega
  rw[eg 0 h1,eg 0 h2,trg];have hc:(if nG r (s.getD t 0) (n.getD t 0)then (cnt (btr r s n) t:Int)+1 else 0)=(cnt (btr r s n) (t+1):Int):=(Bp (btr r s n) t).symm;simp only[hc];by_cases hg:((armed || over r (s.getD t 0) (n.getD t 0)) && decide (r.trig < (cnt (btr r s n) (t+1):Int)))=true
  . rw[if_pos hg];simp only[zm,zV,decide_eq_true_eq]at hg;obtain⟨g1,g2⟩:=hg;obtain⟨g3,g4⟩:=cnt_gt ht rfl g2;have g5:=g4 t (by omega) (by omega);refine⟨⟨g3,by omega⟩,g4,fun u hu=>?_,goodT r s n hl ht hh m (t+1) false (some t) (by omega) (fun u hu=>?_)⟩
    . obtain⟨q1,q2⟩:=hp u hu;refine⟨q1,?_⟩;rcases g1 with g1 | g1
      . exact q2 g1
      . exfalso
        simp only[btr,nG,decide_eq_true_eq]at g5;simp only[over,decide_eq_true_eq]at g1;omega
    . cases hu;exact⟨by omega,fun h=>by cases h⟩
  . rw[if_neg hg];refine goodT r s n hl ht hh m (t+1) _ prev (by omega) (fun u hu=>?_);obtain⟨q1,q2⟩:=hp u hu;refine⟨by omega,fun ha=>?_⟩;simp only[zV]at ha;rcases ha with ha | ha
    . obtain⟨k,k1,k2,k3⟩:=q2 ha;exact⟨k,k1,by omega,k3⟩
    . exact⟨t,by omega,by omega,ha⟩
theorem goodT0 {r:Rul} {s n:List Int} (h:TrgOk r s n):GoodT r s n none (iv r s n):=by
 have h2:=h.hr;simp only[j4,zm,decide_eq_true_eq]at h2;have:=goodT r s n h.hln h2.2.1 h2.1.2.1 s.length 0 true none (by omega) (fun u hu=>by cases hu);simpa[cnt,iv]using this
theorem AX (r:Rul) (s n:List Int) (hl:n.length=s.length):∀ (m t v:Nat),s.length - t=m->t<=v->v < s.length->r.trig < (cnt (btr r s n) (v+1):Int) ->
 ∃ u l,trg r (s.drop t) (n.drop t) t (cnt (btr r s n) t) true=u :: l/\u<=(v:Int)
 | 0,t,v,hm,h1,h2,h3=>by omega
 | m+1,t,v,hm,h1,h2,h3=>by
  have g1:t < s.length:=by omega
  have g2:t < n.length:=by omega
  rw[eg 0 g1,eg 0 g2,trg];have hc:(if nG r (s.getD t 0) (n.getD t 0)then (cnt (btr r s n) t:Int)+1 else 0)=(cnt (btr r s n) (t+1):Int):=(Bp (btr r s n) t).symm;simp only[hc,yz,zY,decide_eq_true_eq];by_cases hg:r.trig < (cnt (btr r s n) (t+1):Int)
  . rw[if_pos hg];exact⟨_,_,rfl,by omega⟩
  . rw[if_neg hg];have:t≠v:=fun e=>hg (e ▸ h3)
    exact AX r s n hl m (t+1) v (by omega) (by omega) h2 h3
theorem Bo {p q:Nat->Bool} (h:∀ k,p k=true->q k=true):∀ t,cnt p t<=cnt q t
 | 0=>zw _
 | t+1=>by
  have:=Bo h t;rw[cnt,cnt];cases hp:p t with
  | false=>simp
  | true=>rw[h t hp];simp;omega
theorem later {r r':Rul} {s n:List Int} (h:TrgOk r s n) (h':TrgOk r' s n) (h1:r.trig<=r'.trig) (h2:r.off<=r'.off) (h3:r.hyst=r'.hyst) (hne:iv r' s n≠[]) :
 iv r s n≠[]/\(iv r s n).getD 0 0<=(iv r' s n).getD 0 0:=by
 cases hL:iv r' s n with
 | nil=>exact absurd hL hne
 | cons v l=>
  have hg:=goodT0 h';rw[hL]at hg;obtain⟨⟨g1,g2⟩,g3,_,_⟩:=hg;have hr':=h'.hr;simp only[j4,zm,decide_eq_true_eq]at hr';obtain⟨V,rfl⟩:∃ V:Nat,v=(V:Int):=⟨v.toNat,by omega⟩;obtain⟨T,hT⟩:∃ T:Nat,r'.trig=(T:Int):=⟨r'.trig.toNat,by omega⟩;have hc':T < cnt (btr r' s n) (V+1):=by
   rw[Av];exact⟨by omega,fun k q1 q2=>g3 k (by omega) (by omega)⟩
  have hm:=Bo (p:=btr r' s n) (q:=btr r s n) (fun k hk=>by
   simp only[btr,nG,decide_eq_true_eq]at hk ⊢
   omega) (V+1)
  obtain⟨u,l',e1,e2⟩:=AX r s n h.hln s.length 0 V (by omega) (by omega) (by omega) (by omega);have e3:iv r s n=u :: l':=by simpa[cnt,iv]using e1
  rw[e3];exact⟨by simp,by simpa using e2⟩
theorem xj (m:Ms):fy (.agg [C.s (.int .i64 m.at_),.s (.int .i64 m.phase),.s (.int .i64 m.since),.s (.int .i64 m.serving),.s (.int .i64 m.target),.s (.int .i64 m.source),.s (.int .i64 m.path),.s (.int .i64 m.fresh),.s (.int .i64 m.got),.sl 1 (m.buf.map Dat.cells)])=some m:=by
 unfold fy;have:Dat.dec (α:=Ms) [C.s (.int .i64 m.at_),.s (.int .i64 m.phase),.s (.int .i64 m.since),.s (.int .i64 m.serving),.s (.int .i64 m.target),.s (.int .i64 m.source),.s (.int .i64 m.path),.s (.int .i64 m.fresh),.s (.int .i64 m.got),.sl 1 (m.buf.map Dat.cells)]=(fh (m.buf.map Dat.cells)).map fun r'=>(⟨m.at_,m.phase,m.since,m.serving,m.target,m.source,m.path,m.fresh,m.got,r'⟩:Ms):=rfl
 simp only[this,fq];rw[if_pos (show (Dat.agg Ms)=true from rfl)];rfl
theorem Has_c (l:List Int) (v:Int):FC Tryz.prog 75 [enc l,enc v] [] (enc (l.any fun x=>decide (x=v))) []:=by
 refine eh is75 (by simp) (fun cx hl=>dC [] 800 ?_);simp only[V,W3,↓reduceIte,seval,reduceCtorEq]at hl;have hl1:=hl.list;generalize hB:(l.any fun x=>decide (x=v))=B;delta c75 oS oK oV oX o9;simp (maxSteps:=9^7) -implicitDefEqProofs only[rv75,Ent.of0,Ent.of1,Ent.of2,Ent.of3,Ent.of4,V,W3,↓reduceIte,seval,reduceCtorEq];refine eN l.length (fun i=>[(5,.s (.int .i64 (i:Int)))]) (fun _=>[]) (fun i=>B=(l.drop i).any fun x=>decide (x=v)) (by simp[hB]) ?_ (fun i hi hv=>dC [] 800 ?_)
 . simp (maxSteps:=9^7) -implicitDefEqProofs only[Ent.of0,Ent.of1,Ent.of2,Ent.of3,Ent.of4,V,W3,↓reduceIte,seval,reduceCtorEq]
   all_goals simp
 . by_cases h:i < l.length
   . have hi2:(i:Int) < (l.length:Int):=by omega
     rw[eg 0 h,List.any_cons]at hv;generalize hg:l.getD i 0=g at hv;cases hx:decide (g=v)
     all_goals
      rw[hx]at hv;have hx2:=hx;simp only[decide_eq_true_eq,decide_eq_false_iff_not]at hx2;delta c75l1 oO oN oA oM oR oS oK oL oI oX oB o1 o4 o9;simp (maxSteps:=9^7) -implicitDefEqProofs only[rv75,hi2,h,hg,hx2,InR,WU,Ent.of0,Ent.of1,Ent.of2,Ent.of3,Ent.of4,V,W3,↓reduceIte,seval,reduceCtorEq];simp at hv;simp[hv]
      try omega
   . have hi2:¬ (i:Int) < (l.length:Int):=by omega
     rw[zv (by omega)]at hv;delta c75l1 oO oN oA oM oR oS oK oL oI oX oB o1 o4 o9;simp (maxSteps:=9^7) -implicitDefEqProofs only[rv75,hi2,WU,Ent.of0,Ent.of1,Ent.of2,Ent.of3,Ent.of4,V,W3,↓reduceIte,seval,reduceCtorEq];simp[hv]
def ent75 : Ent Tryz.prog:=.of2 75 (fun _ _=>True) (fun (l:List Int) (v:Int)=>enc (l.any fun x=>decide (x=v))) (fun _ _=>trivial) (fun l v _=>Has_c l v)
theorem Cm (m:Ms) (h1:m.buf.length<=1000000) (h2:fj m.buf<=1000000000):FC Tryz.prog 116 [enc m] [] (enc (fj m.buf)) []:=by
 refine dD [] is116 (by simp) trivial trivial trivial trivial (fun cx _ hl _=>dC [] 800 ?_);generalize hT:fj m.buf=T at *;delta c116 oM oS oK oV oX o7;simp (maxSteps:=9^7) -implicitDefEqProofs only[Be,kN,WU,Ent.of0,Ent.of1,Ent.of2,Ent.of3,Ent.of4,V,W3,↓reduceIte,seval,reduceCtorEq];refine eN m.buf.length (fun i=>[(3,.s (.int .i64 (T - fj (m.buf.drop i)))),(4,.s (.int .i64 (i:Int)))]) (fun _=>[]) (fun i=>0<=T - fj (m.buf.drop i)) (by simp[hT]) ?_ (fun i hi hv=>dC [] 800 ?_)
 . simp (maxSteps:=9^7) -implicitDefEqProofs only[Ent.of0,Ent.of1,Ent.of2,Ent.of3,Ent.of4,V,W3,↓reduceIte,seval,reduceCtorEq]
   all_goals simp[hT]
 . by_cases h:i < m.buf.length
   . have hi2:(i:Int) < (m.buf.length:Int):=by omega
     have hi0:(0:Int)<=i:=by omega
     have hgx:List.getD (m.buf.map Dat.cells) i [C.sl 0 []]=[C.sl 1 ((m.buf.getD i []).map Dat.cells)]:=by
      rw[zb,zb,zh,ze h];rfl
     have hd:=eg (d:=[]) h;have hnn:=s5 (m.buf.drop (i+1));rw[hd,fj]at hv;generalize m.buf.getD i []=p at *;delta Bk oO oN oA oM oR oS oK oF oL oX oB o0 o4;simp (maxSteps:=9^7) -implicitDefEqProofs only[Be,hi0,hi2,h,hgx,hd,fj,InR,WU,Ent.of0,Ent.of1,Ent.of2,Ent.of3,Ent.of4,V,W3,↓reduceIte,seval,reduceCtorEq];omega
   . have hi2:¬ (i:Int) < (m.buf.length:Int):=by omega
     have hd:m.buf.drop i=[]:=zv (by omega);delta Bk oO oN oA oM oR oS oK oF oL oX oB o0 o4;simp (maxSteps:=9^7) -implicitDefEqProofs only[Be,hi2,hd,fj,WU,Ent.of0,Ent.of1,Ent.of2,Ent.of3,Ent.of4,V,W3,↓reduceIte,seval,reduceCtorEq];omega
def y7 : Ent Tryz.prog:=.of1 116 (fun m:Ms=>m.buf.length<=1000000/\fj m.buf<=1000000000) (fun m=>enc (fj m.buf)) (fun _=>trivial) (fun m h=>Cm m h.1 h.2)
theorem Cq (p q:T3):(decide (p.x=q.x) && (decide (p.y=q.y) && decide (p.z=q.z)))=decide (p=q):=by
 rw[yH];cases p;cases q;simp
theorem B5 (x y:List T3):FC Tryz.prog 77 [enc x,enc y] [] (enc (decide (x=y))) []:=by
 refine dD [] is77 (by simp) trivial trivial trivial trivial (fun cx _ hl _=>dC [] 800 ?_);simp only[V,W3,↓reduceIte,seval,reduceCtorEq]at hl;have hlx:=hl.1.list;generalize hB:decide (x=y)=B;by_cases h1:x.length=y.length
 rotate_left
 . have h1':¬ (x.length:Int)=y.length:=by omega
   have hb:B=false:=by rw[<- hB];exact decide_eq_false fun e=>h1 (by rw[e])
   delta c77 oO oM oS oK oV oI oX oB o4 o9;simp (maxSteps:=9^7) -implicitDefEqProofs only[rv77,hJ,gW,fK,h1',hb,WU,Ent.of0,Ent.of1,Ent.of2,Ent.of3,Ent.of4,V,W3,↓reduceIte,seval,reduceCtorEq]
 have h1':(x.length:Int)=y.length:=by omega
 delta c77 oO oM oS oK oV oI oX oB o4 o9;simp (maxSteps:=9^7) -implicitDefEqProofs only[rv77,hJ,gW,fK,h1',not_true_eq_false,WU,Ent.of0,Ent.of1,Ent.of2,Ent.of3,Ent.of4,V,W3,↓reduceIte,seval,reduceCtorEq];refine eN x.length (fun i=>[(5,.s (.int .i64 (i:Int)))]) (fun _=>[]) (fun i=>B=decide (x.drop i=y.drop i)) (by rw[<- hB];rfl) ?_ (fun i hi hv=>dC [] 800 ?_)
 . simp (maxSteps:=9^7) -implicitDefEqProofs only[Ent.of0,Ent.of1,Ent.of2,Ent.of3,Ent.of4,V,W3,↓reduceIte,seval,reduceCtorEq]
   all_goals simp
 . by_cases h:i < x.length
   . have hi2:(i:Int) < (x.length:Int):=by omega
     have hi3:(i:Int) < (y.length:Int):=by omega
     have h':i < y.length:=by omega
     have hi0:(0:Int)<=i:=by omega
     have hok:(-9223372036854775808<=(i:Int)+1/\(i:Int)+1<=9223372036854775807):=by omega
     rw[eg ⟨0,0,0⟩ h,eg ⟨0,0,0⟩ h']at hv;delta c77l1 oO oN oA oM oT oR oQ oS oK oI oX oB o3 o4 o5 o9;simp (maxSteps:=9^7) -implicitDefEqProofs only[hJ,gW,fK,hi0,hi2,hi3,h,h',InR,WU,Ent.of0,Ent.of1,Ent.of2,Ent.of3,Ent.of4,V,W3,↓reduceIte,seval,reduceCtorEq];generalize x.getD i ⟨0,0,0⟩=p at *;generalize y.getD i ⟨0,0,0⟩=q at *;rw[Cq];by_cases hpq:p=q
     . subst hpq;rw[decide_eq_true (rfl:p=p),if_neg (by decide)];exact⟨hok,by rw[hv];simp,by omega⟩
     . rw[decide_eq_false hpq,if_pos rfl,hv];exact (decide_eq_false (fun e=>hpq (List.cons.inj e).1)).symm
   . have hi2:¬ (i:Int) < (x.length:Int):=by omega
     rw[zv (by omega),zv (by omega)]at hv;delta c77l1 oO oN oA oM oT oR oQ oS oK oI oX oB o3 o4 o5 o9;simp (maxSteps:=9^7) -implicitDefEqProofs only[hJ,hi2,WU,Ent.of0,Ent.of1,Ent.of2,Ent.of3,Ent.of4,V,W3,↓reduceIte,seval,reduceCtorEq]
     try simp[hv]
def ent77 : Ent Tryz.prog:=.of2 77 (fun _ _=>True) (fun x y:List T3=>enc (decide (x=y))) (fun _ _=>trivial) (fun x y _=>B5 x y)
def xq (v:Int):Nat->List (List Int)->Int
 |_,[]=>-1
 | i,r :: l=>if (r.any fun x=>decide (x=v))=true then (i:Int)else xq v (i+1) l
theorem where_c (m:Ms) (k:Nat) (v:Int) (h1:m.buf.length<=1000000) (h2:k<=m.buf.length):FC Tryz.prog 117 [enc m,.s (.int .i64 (k:Int)),enc v] [] (enc (xq v 0 (m.buf.take k))) []:=by
 refine dD [] is117 (by simp) trivial trivial trivial trivial (fun cx _ hl _=>dC [] 800 ?_);have hLl:(m.buf.take k).length=k:=by rw[List.length_take];omega
 have hLg:∀ i,i < k->(m.buf.take k).getD i []=m.buf.getD i []:=fun i hi=>by
  rw[zb,zb,ya,if_pos hi]
 generalize hT:xq v 0 (m.buf.take k)=T at *;generalize m.buf.take k=L at *;delta c117 oS oK oV oX o7;simp (maxSteps:=9^7) -implicitDefEqProofs only[Bf,kN,WU,Ent.of0,Ent.of1,Ent.of2,Ent.of3,Ent.of4,V,W3,↓reduceIte,seval,reduceCtorEq];refine eN k (fun i=>[(7,.s (.int .i64 (i:Int)))]) (fun _=>[]) (fun i=>T=xq v i (L.drop i)) (by simp[hT]) ?_ (fun i hi hv=>dC [ent75] 800 ?_)
 . simp (maxSteps:=9^7) -implicitDefEqProofs only[Ent.of0,Ent.of1,Ent.of2,Ent.of3,Ent.of4,V,W3,↓reduceIte,seval,reduceCtorEq]
   all_goals simp
 . by_cases h:i < k
   . have hi2:(i:Int) < (k:Int):=by omega
     have hi3:(i:Int) < (m.buf.length:Int):=by omega
     have h':i < m.buf.length:=by omega
     have hi0:(0:Int)<=i:=by omega
     have hgx:List.getD (m.buf.map Dat.cells) i [C.sl 0 []]=[C.sl 1 ((m.buf.getD i []).map Dat.cells)]:=by
      rw[zb,zb,zh,ze h'];rfl
     have hd:=eg (d:=[]) (show i < L.length by omega);rw[hd,hLg i h,xq]at hv;generalize m.buf.getD i []=p at *;cases hx:p.any fun x=>decide (x=v)
     all_goals
      rw[hx]at hv;simp only[if_true,if_false,zr]at hv;delta Bl oO oN oA oM oR oS oK oF oL oC oI oX oB o0;simp (maxSteps:=9^7) -implicitDefEqProofs only[Bf,ent75,hi0,hi2,hi3,h,h',hgx,hx,InR,WU,Ent.of0,Ent.of1,Ent.of2,Ent.of3,Ent.of4,V,W3,↓reduceIte,seval,reduceCtorEq]
      first | exact hv.symm | exact⟨by omega,h,hv,by omega⟩ | exact⟨by omega,hv,by omega⟩
   . have hi2:¬ (i:Int) < (k:Int):=by omega
     have hd:L.drop i=[]:=zv (by omega);rw[hd,xq]at hv;delta Bl oO oN oA oM oR oS oK oF oL oC oI oX oB o0;simp (maxSteps:=9^7) -implicitDefEqProofs only[Bf,ent75,hi2,WU,Ent.of0,Ent.of1,Ent.of2,Ent.of3,Ent.of4,V,W3,↓reduceIte,seval,reduceCtorEq];exact hv.symm
def xM (n:Nw) (m:Ms) (e:T3):Ms:=if gi n m e≠0 then ms0 else rf n m e
def msC (m:Ms) (kB:Nat):List C:=[.s (.int .i64 m.at_),.s (.int .i64 m.phase),.s (.int .i64 m.since),.s (.int .i64 m.serving),.s (.int .i64 m.target),.s (.int .i64 m.source),.s (.int .i64 m.path),.s (.int .i64 m.fresh),.s (.int .i64 m.got),.own kB]
theorem AQ (n:Nw) (p:Ph) (c:Int) (h:NwS n):FC Tryz.prog 145 [.ptr 100000 0,enc c] (phX n p) (enc (isC n c)) (phX n p):=by
 have hb:=h.c;refine dD [100001] is145 (by simp) (dR n p) (dE n p) (dE n p) (dI n p p) (fun cx _ hl _=>dC [eZ] 1200 ?_);delta c145 oO oN oM oF oL oC oX oB o4 o6 o9;simp (maxSteps:=9^7) -implicitDefEqProofs only[rv145,phX,phC,eZ,isC,InR,WU,Ent.of0,Ent.of1,Ent.of2,Ent.of3,Ent.of4,V,W3,↓reduceIte,seval,reduceCtorEq];omega
def Bq (n:Nw) (p:Ph) (c:Int) (h:NwS n):Ent Tryz.prog:=eq 145 n p p [.ptr 100000 0,enc c] (enc (isC n c)) trivial (AQ n p c h)
structure Rw where
 m:Ms
 st:List T3
 ouw:List Gs
def hiTo (l:List Gs) (t:Int):List Gs:=l.set (l.length - 1) ⟨(l.getD (l.length - 1) ⟨0,0⟩).re,t⟩
def Co (n:Nw) (w:Rw) (t:Int):Rw:=
 if jJ n w.m t=true then ⟨qN n w.m t,chg w.st w.m.serving (qN n w.m t).serving (w.m.since+n.limit),hiTo w.ouw (w.m.since+n.limit)⟩else w
def yR (b:Rw) (x:Ms) (t:Int):Rw:=
 ⟨x,chg b.st b.m.serving x.serving t,
  let o:=if ej b.m=false/\ej x=true then b.ouw++[⟨t,0⟩]else b.ouw
  if ej b.m=true/\ej x=false then hiTo o t else o⟩
def yQ (l:List Gs):Int:=l.foldl (fun a o=>max a (o.im - o.re)) 0
theorem AT (l:List Gs) (o:Gs):yQ (l++[o])=max (yQ l) (o.im - o.re):=by simp[yQ]
theorem AR (l:List Gs) (o:Gs) (t:Int):hiTo (l++[o]) t=l++[⟨o.re,t⟩]:=by
 unfold hiTo;have h1:(l++[o]).length - 1=l.length:=by simp
 rw[h1];have h2:(l++[o]).getD l.length ⟨0,0⟩=o:=by simp[zb]
 rw[h2,List.set_append_right _ _ (zw _)];simp
structure RwOk (n:Nw) (p:Ph) (w:Rw):Prop where
 m:w.m=p.m
 st:w.st=p.stays
 no:ej p.m=false->p.out=-1/\yQ w.ouw=p.longest
 yes:ej p.m=true->p.out=p.m.since/\∃ l,w.ouw=l++[⟨p.out,0⟩]/\yQ l=p.longest
 lim:p.longest<=n.limit
 nnw:0<=p.longest
theorem Bi {o l t:Int} (h:0<=o):kW o l t=max l (t - o):=by unfold kW;rw[if_neg (by omega)]
theorem RwOk.pass {n:Nw} {p:Ph} {w:Rw} (hn:NetOk n) (r:RwOk n p w) (hs:0<=p.m.since) (t:Int):RwOk n (eP n p t) (Co n w t):=by
 unfold eP Co;rw[r.m];by_cases h:jJ n p.m t=true
 . rw[if_pos h,if_pos h];have ha:ej p.m=true:=by simp only[jJ,zm]at h;exact h.1
   obtain⟨ho,l,hl,hL⟩:=r.yes ha;have hbk:=Bi (o:=p.out) (l:=p.longest) (t:=p.m.since+n.limit) (by omega);have hP:qN n p.m t=iP p.m 0 (p.m.since+n.limit):=by unfold qN;rw[if_pos h]
   have h1:=r.lim;have h2:=r.nnw;refine⟨hP,by rw[hP,r.st];rfl,fun _=>⟨rfl,?_⟩,fun q=>by simp[ej,lg,iP]at q,?_,?_⟩
   . show yQ (hiTo w.ouw _)=kW _ _ _
     rw[hl,AR,AT,hL,hbk]
   . show kW _ _ _<=_
     rw[hbk];omega
   . show 0<=kW _ _ _
     rw[hbk];omega
 . rw[if_neg h,if_neg h];exact r
theorem xo (l:List T3) (a t:Int):chg l a a t=l:=by unfold chg;rw[if_pos rfl]
theorem yS (m:Ms):(settle m).serving=m.serving/\(settle m).phase=m.phase/\(settle m).since=m.since:=by
 unfold Go.Proofs.YtcbabnbiinkafaaGreatDoor.settle;split <;> exact⟨rfl,rfl,rfl⟩
theorem away_eq {m k:Ms} (h:m.phase=k.phase):ej m=ej k:=by unfold ej;rw[h]
theorem BI (m:Ms):ej (settle m)=ej m:=away_eq (yS m).2.1
theorem RwOk.act {n:Nw} {p:Ph} {w:Rw} {e:T3} (hn:NetOk n) (r:RwOk n p w) (hk:0<=e.x/\e.x<=11) (hy:0<=e.y) (hs:0<=p.m.since) (hdue:ej p.m=true->e.y < p.m.since+n.limit) (hd:eA n p.m e=0) {x:Ms} (hx:x=(atP (doP p e) e.y).m) :
 RwOk n (atP (doP p e) e.y) (yR w x e.y):=by
 obtain⟨wmw,ws,wow⟩:=w;obtain⟨r1,r2,r3,r4,r5,r6⟩:=r;simp only at r1 r2 r3 r4 r5 r6;subst r1 r2;have hA:ej x=ej (doP p e).m:=by rw[hx];rfl
 have hS:x.serving=(doP p e).m.serving:=by rw[hx];rfl
 have hI:(atP (doP p e) e.y).m.since=(doP p e).m.since:=rfl;have hW:ej (atP (doP p e) e.y).m=ej (doP p e).m:=rfl;have key:(chg p.stays p.m.serving x.serving e.y=(doP p e).stays) ->
  (ej p.m=false->ej (doP p e).m=false->(doP p e).out=p.out/\(doP p e).longest=p.longest) ->
  (ej p.m=false->ej (doP p e).m=true->(doP p e).out=e.y/\(doP p e).m.since=e.y/\(doP p e).longest=p.longest) ->
  (ej p.m=true->ej (doP p e).m=true->(doP p e).out=p.out/\(doP p e).m.since=p.m.since/\(doP p e).longest=p.longest) ->
  (ej p.m=true->ej (doP p e).m=false->(doP p e).out=-1/\(doP p e).longest=kW p.out p.longest e.y) ->
  RwOk n (atP (doP p e) e.y) (yR ⟨p.m,p.stays,wow⟩ x e.y):=by
  intro k0 k1 k2 k3 k4;cases ha:ej p.m <;> cases hb:ej (doP p e).m
  . obtain⟨q1,q2⟩:=k1 ha hb;obtain⟨s1,s2⟩:=r3 ha;refine⟨hx,k0,fun _=>⟨q1.trans s1,?_⟩,fun q=>(by rw[hW,hb]at q;cases q),?_,?_⟩
    . show yQ (yR _ _ _).ouw=(doP p e).longest
      simp only[yR,ha,hA,hb,zr,and_false,false_and,if_false];rw[s2,q2]
    . show (doP p e).longest<=_;omega
    . show 0<=(doP p e).longest;omega
  . obtain⟨q1,q2,q3⟩:=k2 ha hb;obtain⟨s1,s2⟩:=r3 ha;refine⟨hx,k0,fun q=>(by rw[hW,hb]at q;cases q),fun _=>⟨?_,wow,?_,?_⟩,?_,?_⟩
    . show (doP p e).out=(doP p e).m.since;omega
    . show (yR _ _ _).ouw=wow++[⟨(doP p e).out,0⟩]
      simp only[yR,ha,hA,hb,zr,ym,and_false,and_true,false_and,and_self,if_false,if_true];rw[q1]
    . show yQ wow=(doP p e).longest
      rw[s2,q3]
    . show (doP p e).longest<=_;omega
    . show 0<=(doP p e).longest;omega
  . obtain⟨q1,q2⟩:=k4 ha hb;obtain⟨s1,l,s2,s3⟩:=r4 ha;have hbk:=Bi (o:=p.out) (l:=p.longest) (t:=e.y) (by omega);have hdd:=hdue ha;refine⟨hx,k0,fun _=>⟨q1,?_⟩,fun q=>(by rw[hW,hb]at q;cases q),?_,?_⟩
    . show yQ (yR _ _ _).ouw=(doP p e).longest
      simp only[yR,ha,hA,hb,zr,ym,and_false,and_true,false_and,and_self,if_false,if_true];rw[s2,AR,AT,s3,q2,hbk]
    . show (doP p e).longest<=_;rw[q2,hbk];omega
    . show 0<=(doP p e).longest;rw[q2,hbk];omega
  . obtain⟨q1,q2,q3⟩:=k3 ha hb;obtain⟨s1,l,s2,s3⟩:=r4 ha;refine⟨hx,k0,fun q=>(by rw[hW,hb]at q;cases q),fun _=>⟨?_,l,?_,?_⟩,?_,?_⟩
    . show (doP p e).out=(doP p e).m.since;omega
    . show (yR _ _ _).ouw=l++[⟨(doP p e).out,0⟩]
      simp only[yR,ha,hA,hb,zr,ym,and_false,and_true,false_and,and_self,if_false,if_true];rw[s2,q1]
    . show yQ l=(doP p e).longest
      rw[s3,q3]
    . show (doP p e).longest<=_;omega
    . show 0<=(doP p e).longest;omega
 by_cases h10:e.x=10
 . have h3:p.m.phase=3:=by
    unfold eA at hd;simp only[h10,Int.reduceEq,if_true,if_false]at hd;rcases Classical.em (p.m.phase=3)with q | q
    . exact q
    . rw[if_pos q]at hd;cases hd
   have hD:doP p e=lg p e.z e.y:=by unfold doP;rw[if_pos h10]
   have ha:ej p.m=true:=by simp[ej,h3]
   refine key (by rw[hS,hD];rfl) (fun q=>(by rw[ha]at q;cases q)) (fun q=>(by rw[ha]at q;cases q)) (fun _ q=>(by rw[hD]at q;simp[ej,lg,iP]at q)) (fun _ _=>by rw[hD];exact⟨rfl,rfl⟩)
 . have hD:doP p e={ m:=settle (eK p.m e),recv:=if e.x=1/\(dQ p.m p.m.serving).headD 0=p.m.got then p.recv++[p.m.got]else p.recv,stays:=if e.x=6 then chg p.stays p.m.serving p.m.target e.y else p.stays,out:=if e.x=5\/e.x=9 then (if p.out=-1 then e.y else p.out)else if e.x=6 then -1 else p.out,longest:=if e.x=6 then kW p.out p.longest e.y else p.longest }:=by
    unfold doP;rw[if_neg h10]
   have hm:(doP p e).m=settle (eK p.m e):=by rw[hD]
   have hsv:(doP p e).m.serving=(eK p.m e).serving:=by rw[hm];exact (yS _).1
   have haw:ej (doP p e).m=ej (eK p.m e):=by rw[hm];exact BI _
   have hsi:(doP p e).m.since=(eK p.m e).since:=by rw[hm];exact (yS _).2.2
   have hst:(doP p e).stays=if e.x=6 then chg p.stays p.m.serving p.m.target e.y else p.stays:=by rw[hD]
   have hou:(doP p e).out=if e.x=5\/e.x=9 then (if p.out=-1 then e.y else p.out)else if e.x=6 then -1 else p.out:=by rw[hD]
   have hlo:(doP p e).longest=if e.x=6 then kW p.out p.longest e.y else p.longest:=by rw[hD]
   rw[hS,hst,hou,hlo,haw,hsi,hsv]at key;clear hD hm hst hou hlo hS hA hI hW hsv haw hsi;unfold eK at key;unfold eA at hd;have hph:ej p.m=true↔p.m.phase=2\/p.m.phase=3:=by simp[ej]
   have hpf:ej p.m=false↔¬ (p.m.phase=2\/p.m.phase=3):=by rw[<- hph];simp
   have k:e.x=0\/e.x=1\/e.x=2\/e.x=3\/e.x=4\/e.x=5\/e.x=6\/e.x=7\/e.x=8\/e.x=9\/e.x=11:=by omega
   rcases k with k | k | k | k | k | k | k | k | k | k | k <;> rw[k]at hd key <;> simp only[Int.reduceEq,if_true,if_false,or_false,false_or,or_true,or_self]at hd key
   ·
    refine key (xo _ _ _) (fun _ _=>⟨by trivial,by trivial⟩) (fun q1 q2=>absurd (q1.symm.trans q2) (by decide)) (fun _ _=>⟨by trivial,by trivial,by trivial⟩) (fun q1 q2=>absurd (q2.symm.trans q1) (by decide))
   ·
    by_cases hq:(dQ p.m p.m.serving).headD 0=p.m.got
    . rw[if_pos hq]at key;refine key (xo _ _ _) (fun _ _=>⟨by trivial,by trivial⟩) (fun q1 q2=>absurd (q1.symm.trans q2) (by decide)) (fun _ _=>⟨by trivial,by trivial,by trivial⟩) (fun q1 q2=>absurd (q2.symm.trans q1) (by decide))
    . rw[if_neg hq]at key;refine key (xo _ _ _) (fun _ _=>⟨by trivial,by trivial⟩) (fun q1 q2=>absurd (q1.symm.trans q2) (by decide)) (fun _ _=>⟨by trivial,by trivial,by trivial⟩) (fun q1 q2=>absurd (q2.symm.trans q1) (by decide))
   ·
    refine key (xo _ _ _) (fun _ _=>⟨by trivial,by trivial⟩) (fun q1 q2=>absurd (q1.symm.trans q2) (by decide)) (fun _ _=>⟨by trivial,by trivial,by trivial⟩) (fun q1 q2=>absurd (q2.symm.trans q1) (by decide))
   ·
    have h0:p.m.phase=0:=by
     rcases Classical.em (p.m.phase=0)with q | q
     . exact q
     . rw[if_pos q]at hd;cases hd
    refine key (xo _ _ _) (fun _ _=>⟨by trivial,by trivial⟩) (fun _ q2=>by simp[ej]at q2) (fun q=>(by rw[hph]at q;omega)) (fun q=>(by rw[hph]at q;omega))
   ·
    have h0:p.m.phase=1:=by
     rcases Classical.em (p.m.phase=1)with q | q
     . exact q
     . rw[if_pos q]at hd;cases hd
    refine key (xo _ _ _) (fun _ _=>⟨by trivial,by trivial⟩) (fun _ q2=>by simp[ej]at q2) (fun q=>(by rw[hph]at q;omega)) (fun q=>(by rw[hph]at q;omega))
   ·
    have h0:p.m.phase=1:=by
     rcases Classical.em (p.m.phase=1)with q | q
     . exact q
     . rw[if_pos q]at hd;cases hd
    refine key (xo _ _ _) (fun _ q=>by simp[ej]at q) (fun q _=>⟨by rw[if_pos (r3 q).1],by trivial,by trivial⟩) (fun q=>(by rw[hph]at q;omega)) (fun q=>(by rw[hph]at q;omega))
   ·
    have h0:p.m.phase=2:=by
     rcases Classical.em (p.m.phase=2)with q | q
     . exact q
     . rw[if_pos q]at hd;cases hd
    refine key (by trivial) (fun q=>(by rw[hpf]at q;omega)) (fun q=>(by rw[hpf]at q;omega)) (fun _ q=>by simp[ej]at q) (fun _ _=>⟨by trivial,by trivial⟩)
   ·
    refine key (xo _ _ _) (fun _ _=>⟨by trivial,by trivial⟩) (fun q1 q2=>absurd (q1.symm.trans q2) (by decide)) (fun _ _=>⟨by trivial,by trivial,by trivial⟩) (fun q1 q2=>absurd (q2.symm.trans q1) (by decide))
   ·
    refine key (xo _ _ _) (fun _ _=>⟨by trivial,by trivial⟩) (fun q1 q2=>absurd (q1.symm.trans q2) (by decide)) (fun _ _=>⟨by trivial,by trivial,by trivial⟩) (fun q1 q2=>absurd (q2.symm.trans q1) (by decide))
   ·
    have h3:p.m.phase≠3:=fun q=>by rw[if_pos q]at hd;cases hd
    refine key (xo _ _ _) (fun _ q=>by simp[ej]at q) (fun q _=>⟨by rw[if_pos (r3 q).1],?_,by trivial⟩) (fun q _=>⟨?_,?_,by trivial⟩) (fun _ q=>by simp[ej]at q)
    . rw[hpf]at q;show (if p.m.phase=2 then p.m.since else e.y)=e.y
      rw[if_neg (by omega)]
    . have:=(r4 q).1;rw[if_neg (by omega)]
    . rw[hph]at q;show (if p.m.phase=2 then p.m.since else e.y)=p.m.since
      rw[if_pos (by omega)]
   ·
    refine key (xo _ _ _) (fun _ _=>⟨by trivial,by trivial⟩) (fun q1 q2=>absurd (q1.symm.trans q2) (by decide)) (fun _ _=>⟨by trivial,by trivial,by trivial⟩) (fun q1 q2=>absurd (q2.symm.trans q1) (by decide))
abbrev t0 : T3:=⟨0,0,0⟩
structure Chn (n:Nw) (l:List T3) (c t:Int):Prop where
 ne:0 < l.length
 last:(l.getD (l.length - 1) t0).x=c/\(l.getD (l.length - 1) t0).y<=t
 cell:∀ i,i < l.length->isC n (l.getD i t0).x=true/\0<=(l.getD i t0).y/\(l.getD i t0).y<=t
 nxw:∀ i,i+1 < l.length->(l.getD i t0).y<=(l.getD i t0).z/\(l.getD i t0).z=(l.getD (i+1) t0).y/\(l.getD (i+1) t0).x≠(l.getD i t0).x
theorem Chn.later {n:Nw} {l:List T3} {c t u:Int} (h:Chn n l c t) (hu:t<=u):Chn n l c u:=
 ⟨h.ne,⟨h.last.1,by have:=h.last.2;omega⟩,fun i hi=>by have:=h.cell i hi;exact⟨this.1,this.2.1,by omega⟩,h.nxw⟩
theorem Cj (l:List T3) (i j:Nat) (v:T3):(l.set i v).getD j t0=if i=j/\j < l.length then v else l.getD j t0:=by
 rw[zb,zb,zJ];by_cases h:i=j
 . subst h;by_cases h2:i < l.length
   . simp[h2]
   . simp[h2]
 . simp[h]
theorem B2 (l:List T3) (j:Nat) (v:T3):(l++[v]).getD j t0=if j < l.length then l.getD j t0 else if j=l.length then v else t0:=by
 rw[zb,zb,zS];by_cases h:j < l.length
 . rw[if_pos h,if_pos h]
 . rw[if_neg h,if_neg h];by_cases h2:j=l.length
   . subst h2;simp
   . rw[if_neg h2];have:j - l.length=(j - l.length - 1)+1:=by omega
     rw[this];simp
theorem B4 (l:List T3) (t:Int) (j:Nat):(jL l t).getD j t0=if j=l.length - 1/\j < l.length then ⟨(l.getD j t0).x,(l.getD j t0).y,t⟩else l.getD j t0:=by
 unfold jL;rw[Cj];by_cases h:l.length - 1=j/\j < l.length
 . rw[if_pos h,if_pos ⟨h.1.symm,h.2⟩,<- h.1]
 . rw[if_neg h,if_neg (fun q=>h ⟨q.1.symm,q.2⟩)]
theorem Chn.chg {n:Nw} {l:List T3} {c d t:Int} (h:Chn n l c t) (ht:0<=t) (hd:isC n d=true):Chn n (chg l c d t) d t:=by
 unfold Go.Proofs.YtcbabnbiinkafaaGreatDoor.chg;by_cases hcd:c=d
 . rw[if_pos hcd];subst hcd;exact h
 rw[if_neg hcd];have hne:=h.ne;have hl:(jL l t).length=l.length:=vC l t;have hg:∀ j,(jL l t++[(⟨d,t,0⟩:T3)]).getD j t0=if j < l.length then (if j=l.length - 1 then ⟨(l.getD j t0).x,(l.getD j t0).y,t⟩else l.getD j t0)else if j=l.length then (⟨d,t,0⟩:T3)else t0:=fun j=>by
  rw[B2,hl,B4];by_cases h1:j < l.length
  . rw[if_pos h1,if_pos h1];by_cases h2:j=l.length - 1
    . rw[if_pos ⟨h2,h1⟩,if_pos h2]
    . rw[if_neg (fun q=>h2 q.1),if_neg h2]
  . rw[if_neg h1,if_neg h1]
 have hlen:(jL l t++[(⟨d,t,0⟩:T3)]).length=l.length+1:=by simp[hl]
 refine⟨by omega,?_,fun i hi=>?_,fun i hi=>?_⟩
 . rw[hlen,hg,Nat.add_sub_cancel,if_neg (by omega),if_pos rfl];exact⟨rfl,Int.le_refl _⟩
 . rw[hg];by_cases h1:i < l.length
   . rw[if_pos h1];have hc:=h.cell i h1;by_cases h2:i=l.length - 1
     . rw[if_pos h2];exact hc
     . rw[if_neg h2];exact hc
   . rw[if_neg h1,if_pos (by omega)];exact⟨hd,ht,Int.le_refl _⟩
 . rw[hg,hg];by_cases h2:i=l.length - 1
   . have h1:i < l.length:=by omega
     rw[if_pos h1,if_pos h2,if_neg (by omega),if_pos (by omega)];have hla:=h.last;rw[<- h2]at hla;refine⟨hla.2,rfl,?_⟩;show d≠(l.getD i t0).x
     rw[hla.1];exact fun q=>hcd q.symm
   . have h1:i < l.length:=by omega
     have h3:i+1 < l.length:=by omega
     have hn:=h.nxw i h3;rw[if_pos h1,if_neg h2,if_pos h3];by_cases h4:i+1=l.length - 1
     . rw[if_pos h4];exact hn
     . rw[if_neg h4];exact hn
theorem Chn.pass {n:Nw} {p:Ph} (hn:NetOk n) (g:dP n p.m) (h:Chn n p.stays p.m.serving p.m.at_) {t:Int} (ht:p.m.at_<=t):Chn n (eP n p t).stays (eP n p t).m.serving t:=by
 unfold eP;by_cases hp:jJ n p.m t=true
 . rw[if_pos hp];have hq:=hp;simp only[jJ,zm,decide_eq_true_eq]at hq;have hdue:=g.due hq.1;have hsi:=g.since;have hli:=hn.lim;have hz:isC n 0=true:=by simp only[isC,decide_eq_true_eq];have:=hn.len;omega
   exact ((h.later (u:=p.m.since+n.limit) (by omega)).chg (by omega) hz).later hq.2
 . rw[if_neg hp];exact h.later ht
structure All (n:Nw) (p:Ph) (w:Rw):Prop where
 g:dP n p.m
 r:RwOk n p w
 c:Chn n p.stays p.m.serving p.m.at_
def xv (f:FuncId) (as0:List C) (r:C) (k:Nat) (c:Ch) (hr:dF [k] r) (hc:gm [k] c) (h:FC Tryz.prog f as0 [] r [(k,c)]):Ent Tryz.prog:=.mk3 f (fun args chs=>some (args=as0/\chs=[],r,[(k,c)],[k])) (by
 intro args chs pp r' chs' nk hs hq;simp only[zn,zf]at hs;obtain⟨rfl,rfl,rfl,rfl⟩:=hs;obtain⟨rfl,rfl⟩:=hq;refine⟨h,⟨fun k' c' hm=>.inl ?_,fun k cs hm=>(by simp at hm),hr,fun k' c' hm=>?_⟩⟩
 . simp only[zg,zf]at hm ⊢;exact hm.1
 . simp only[zg,zf]at hm;obtain⟨rfl,rfl⟩:=hm
   exact hc)
theorem BW (l:List Int) (h:l.length<=1000000):FC Tryz.prog 24 [enc l] [] (.own 3) [(3,.row 1 3 (l.map Dat.cells))]:=by
 refine dD [3] is24 (by simp) (by simp[bk]) (by simp[an,ag]) (by simp[an,ag,av]) (by simp[aB,lk]) (fun cx _ hl _=>dC [] 800 ?_);delta c24 oO oA oM oX o1;simp (maxSteps:=9^7) -implicitDefEqProofs only[rv24,InR,WU,V,W3,↓reduceIte,seval,reduceCtorEq];omega
def AB (l:List Int) (h:l.length<=1000000):Ent Tryz.prog:=xv 24 [enc l] (.own 3) 3 (.row 1 3 (l.map Dat.cells)) (by simp[dF]) (by simp[gm]) (BW l h)
structure BufS (b:List (List Int)):Prop where
 l:b.length<=1000000
 r:∀ x∈b,x.length<=1000000
theorem Aj (b:List (List Int)) (h:BufS b):FC Tryz.prog 60 [enc b] [] (.own 3) [(3,.deep 1 3 24 none (fP b))]:=by
 have h1:=h.l;refine dD [3] D7.is60 (by simp) (by simp[bk]) (by simp[an,ag]) (by simp[an,ag,av]) (by simp[aB,lk]) (fun cx _ hl _=>dC [] 800 ?_);delta D7.c60 oA oM oS oK oV oX;simp (maxSteps:=9^7) -implicitDefEqProofs only[D7.rv60,InR,WU,V,W3,↓reduceIte,seval,reduceCtorEq];refine⟨by simp,?_⟩;refine eN b.length (fun i=>[(4,.s (.int .i64 (i:Int)))]) (fun i=>[(3,.deep 1 3 24 none (fP (b.take i)))]) (fun _=>True) trivial ?_ (fun i hi _=>?_)
 . simp (maxSteps:=9^7) -implicitDefEqProofs only[V,W3,↓reduceIte,seval,reduceCtorEq]
   all_goals rfl
 . by_cases hlt:i < b.length
   . have hi2:(i:Int) < (b.length:Int):=by omega
     have hi0:(0:Int)<=i:=by omega
     have hgx:List.getD (b.map Dat.cells) i [C.sl 0 []]=[C.sl 1 ((b.getD i []).map Dat.cells)]:=by
      rw[zb,zb,zh,ze hlt];rfl
     have hx:=h.r _ (yy hlt);have hgd:b.getD i []=b[i]:=by rw[zb,ze hlt];rfl
     have hap:fP (b.take i)++[(b.getD i []).map Dat.cells]=fP (b.take (i+1)):=by
      rw[hgd,yI hlt,fP,fP,yg];rfl
     have hlen:(b.take i).length=i:=by rw[List.length_take];omega
     rw[<- hgd]at hx;refine dC [AB (b.getD i []) hx] 800 ?_;delta D7.c60l1 oO oN oA oM oR oS oK oL oC oX oB o0 o4;simp (maxSteps:=9^7) -implicitDefEqProofs only[AB,xv,hi0,hi2,hlt,hgx,hap,eu,hlen,InR,WU,V,W3,↓reduceIte,seval,reduceCtorEq];omega
   . have hi2:¬ (i:Int) < (b.length:Int):=by omega
     have htk:b.take i=b:=List.take_of_length_le (by omega);refine dC [] 800 ?_;delta D7.c60l1 oO oN oA oM oR oS oK oL oC oX oB o0 o4;simp (maxSteps:=9^7) -implicitDefEqProofs only[D7.rv60,hi2,htk,WU,V,W3,↓reduceIte,seval,reduceCtorEq]
def Cf (b:List (List Int)) (h:BufS b):Ent Tryz.prog:=xv 60 [enc b] (.own 3) 3 (.deep 1 3 24 none (fP b)) (by simp[dF]) (by simp[gm]) (Aj b h)
def msA (m:Ms) (k:Nat):C:=.agg (msC m k)
theorem Aw (m:Ms) (k:Nat):dF [k] (msA m k):=by simp[msA,msC,dF,dF.keysIns]
theorem Copy_o (m:Ms) (h:BufS m.buf):FC Tryz.prog 65 [enc m] [] (msA m 5) [(5,.deep 1 3 24 none (fP m.buf))]:=by
 refine dD [5] D7.is65 (by simp) (by simp[bk]) (by simp[an,ag]) (by simp[an,ag,av]) (by simp[aB,lk]) (fun cx _ hl _=>dC [Cf m.buf h] 800 ?_);delta D7.c65 oO oA oF oL oC oW oX oZ o5 o7;simp (maxSteps:=9^7) -implicitDefEqProofs only[D7.rv65,Cf,xv,kN,msA,msC,InR,WU,V,W3,↓reduceIte,seval,reduceCtorEq]
def y9 (m:Ms) (h:BufS m.buf):Ent Tryz.prog:=xv 65 [enc m] (msA m 5) 5 (.deep 1 3 24 none (fP m.buf)) (Aw m 5) (by simp[gm]) (Copy_o m h)
theorem Raway_c (m:Ms):FC Tryz.prog 112 [enc m] [] (enc (ej m)) []:=by
 refine dD [] is112 (by simp) trivial trivial trivial trivial (fun cx _ hl _=>dC [] 800 ?_);by_cases h1:m.phase=2 <;> by_cases h2:m.phase=3
 all_goals
  delta c112 oO oN oM oG oF oL oX oH oB oE oJ o7 o9;simp (maxSteps:=9^7) -implicitDefEqProofs only[rv112,kN,ej,h1,h2,WU,V,W3,↓reduceIte,seval,reduceCtorEq]
def xf : Ent Tryz.prog:=.of1 112 (fun _=>True) (fun m:Ms=>enc (ej m)) (fun _=>trivial) (fun m _=>Raway_c m)
theorem Cr (l:List Int) (g:Int) (h:l.length<=1000000):FC Tryz.prog 164 [enc l,enc g] [] (.own 5) [(5,.row 1 3 ((frm l g).map Dat.cells))]:=by
 refine dD [5] D7.is164 (by simp) (by simp[bk]) (by simp[an,ag]) (by simp[an,ag,av]) (by simp[aB,lk]) (fun cx _ hl _=>dC [] 800 ?_);delta D7.c164 oA oM oS oK oV oX;simp (maxSteps:=9^7) -implicitDefEqProofs only[D7.rv164,InR,WU,V,W3,↓reduceIte,seval,reduceCtorEq];refine eN l.length (fun i=>[(6,.s (.int .i64 (i:Int)))]) (fun i=>[(5,.row 1 3 ((frm (l.take i) g).map Dat.cells))]) (fun _=>True) trivial ?_ (fun i hi _=>?_)
 . simp (maxSteps:=9^7) -implicitDefEqProofs only[V,W3,↓reduceIte,seval,reduceCtorEq]
   all_goals rfl
 . by_cases hlt:i < l.length
   . have hi2:(i:Int) < (l.length:Int):=by omega
     have hi0:(0:Int)<=i:=by omega
     have hgd:l.getD i 0=l[i]:=by rw[zb,ze hlt];rfl
     have hf:frm (l.take (i+1)) g=frm (l.take i) g++(if g<=l.getD i 0 then [l.getD i 0]else []):=by
      rw[hgd,yI hlt,frm,frm,List.filter_append];by_cases hg:g<=l[i] <;> simp[hg]
     have hfl:(frm (l.take i) g).length<=i:=by
      refine z6 (List.length_filter_le _ _) ?_;rw[List.length_take];omega
     refine dC [] 800 ?_;delta D7.c164l1 oO oN oA oM oR oS oK oL oI oX oB o1 o4;simp (maxSteps:=9^7) -implicitDefEqProofs only[hi0,hi2,hlt,hf,yg,zy,InR,WU,V,W3,↓reduceIte,seval,reduceCtorEq];generalize l.getD i 0=y at *;by_cases hg:g<=y
     . rw[if_pos hg,if_pos hg];exact⟨by omega,by omega,by omega,rfl⟩
     . rw[if_neg hg,if_neg hg,zR,z4];exact⟨by omega,by omega,rfl⟩
   . have hi2:¬ (i:Int) < (l.length:Int):=by omega
     have htk:l.take i=l:=List.take_of_length_le (by omega);refine dC [] 800 ?_;delta D7.c164l1 oO oN oA oM oR oS oK oL oI oX oB o1 o4;simp (maxSteps:=9^7) -implicitDefEqProofs only[D7.rv164,hi2,htk,WU,V,W3,↓reduceIte,seval,reduceCtorEq]
def Ag (l:List Int) (g:Int) (h:l.length<=1000000):Ent Tryz.prog:=xv 164 [enc l,enc g] (.own 5) 5 (.row 1 3 ((frm l g).map Dat.cells)) (by simp[dF]) (by simp[gm]) (Cr l g h)
theorem Cn (l:List Int) (n:Int) (i:Nat) (h:i < l.length->¬ l.getD i 0 < n):gc (l.drop i) n=n :: l.drop i:=by
 by_cases hi:i < l.length
 . rw[eg 0 hi,gc,if_neg (h hi)]
 . rw[zv (by omega)];rfl
theorem put_o (l:List Int) (n:Int) (h:l.length<=1000000):FC Tryz.prog 163 [enc l,enc n] [] (.own 5) [(5,.row 1 3 ((gc l n).map Dat.cells))]:=by
 generalize hR:gc l n=R;refine dD [5,31,35] D7.is163 (by simp) (by simp[bk]) (by simp[an,ag]) (by simp[an,ag,av]) (by simp[aB,lk]) (fun cx _ hl _=>dC [] 800 ?_);delta D7.c163 oO oA oM oT oS oK oV oX o1;simp (maxSteps:=9^7) -implicitDefEqProofs only[D7.rv163,InR,WU,V,W3,↓reduceIte,seval,reduceCtorEq];refine eN l.length (fun i=>[(6,.s (.int .i64 (i:Int)))]) (fun i=>[(5,.row 1 3 ((l.take i).map Dat.cells))]) (fun i=>R=l.take i++gc (l.drop i) n) (by rw[<- hR];rfl) ?_ (fun i hi hv=>?_)
 . simp (maxSteps:=9^7) -implicitDefEqProofs only[V,W3,↓reduceIte,seval,reduceCtorEq]
   all_goals rfl
 . have hlt0:(l.take i).length=i:=by rw[List.length_take];omega
   have hi0:(0:Int)<=i:=by omega
   have hi4:(i:Int)<=(l.length:Int):=by omega
   have htl:List.take l.length (List.map Dat.cells l)=List.map Dat.cells l:=List.take_of_length_le (by simp);by_cases hc:i < l.length/\l.getD i 0 < n
   . obtain⟨hlt,hg⟩:=hc;have hi2:(i:Int) < (l.length:Int):=by omega
     have hd:=eg (d:=(0:Int)) hlt;have hgd:l.getD i 0=l[i]:=by rw[zb,ze hlt];rfl
     have htk:l.take (i+1)=l.take i++[l.getD i 0]:=by rw[hgd,yI hlt]
     rw[hd,gc,if_pos hg]at hv;refine dC [] 800 ?_;delta D7.c163l1 oO oN oA oM oG oR oS oK oL oX oP oB oD oJ o1 o4;simp (maxSteps:=9^7) -implicitDefEqProofs only[hi0,hi2,hlt,hg,htk,hlt0,yg,zy,InR,WU,V,W3,↓reduceIte,seval,reduceCtorEq];exact⟨by omega,by omega,by rw[hv];simp,by omega⟩
   . rw[Cn l n i (fun q q2=>hc ⟨q,q2⟩)]at hv;have hcc:(((i:Int) < (l.length:Int))=True/\(i < l.length)=True/\(l.getD i 0 < n)=False)\/(((i:Int) < (l.length:Int))=False/\True/\True):=by
      by_cases hlt:i < l.length
      . exact .inl ⟨eq_true (by omega),eq_true hlt,eq_false fun q=>hc ⟨hlt,q⟩⟩
      . exact .inr ⟨eq_false (by omega),trivial,trivial⟩
     refine dC [] 800 ?_;rcases hcc with⟨h1,h2,h3⟩ | ⟨h1,h2,h3⟩
     all_goals
      delta D7.c163l1 oO oN oA oM oG oR oS oK oL oX oP oB oD oJ o1 o4;simp (maxSteps:=9^7) -implicitDefEqProofs only[hi0,h1,h2,h3,hlt0,zy,not_false_eq_true,not_true_eq_false,InR,WU,V,W3,↓reduceIte,seval,reduceCtorEq];refine nC [] 800 ?_;simp (maxSteps:=9^7) -implicitDefEqProofs only[drS,lC,robC,reC,fixS,eQ,AOp.reads,kF,true_or,or_true,false_or,hi0,hi4,hlt0,htl,zy,Option.toList_some,Option.toList_none,z4,yq,yb,InR,WU,V,W3,↓reduceIte,seval,reduceCtorEq];refine⟨by omega,by omega,by simp;omega,by omega,dC [] 400 ?_⟩;simp (maxSteps:=9^7) -implicitDefEqProofs only[V,W3,↓reduceIte,seval,reduceCtorEq];rw[hv];simp;rfl
theorem put_c (l:List Int) (n:Int) (h:l.length<=1000000):FC Tryz.prog 163 [enc l,enc n] [] (enc (gc l n)) []:=FC.frz (put_o l n h) (x:=.sl 1 ((gc l n).map Dat.cells)) rfl
def Ce : Ent Tryz.prog:=.of2 163 (fun l _=>l.length<=1000000) (fun (l:List Int) (n:Int)=>enc (gc l n)) (fun _ _=>trivial) (fun l n h=>put_c l n h)
theorem AM (b:List (List Int)):AG (.deep 1 3 24 none (fP b)):=fun es hes e he c hc=>by
 simp only[fP,zu]at hes;obtain⟨l,_,rfl⟩:=hes;obtain⟨x,_,rfl⟩:=zu.1 he;exact⟨_,zg.1 hc⟩
structure MsS (m:Ms):Prop where
 b:BufS m.buf
 f:m.buf.flatten.length<=1000000
def xV (bs:List (List Int)) (i:Nat):List Int:=(bs.take i).flatten.foldl gc []
def xP (bs:List (List Int)) (i:Nat):List (List Int):=(bs.take i).map (fun _=>[])++bs.drop i
theorem Al (l acc:List Int):(l.foldl gc acc).length=acc.length+l.length:=by
 rw[(l4 l acc).length_eq,zK]
theorem y6 (bs:List (List Int)) (i:Nat) (h:i < bs.length):(bs.take i).flatten.length+(bs.getD i []).length<=bs.flatten.length:=by
 have e:bs.flatten=(bs.take i).flatten++((bs.getD i [])++(bs.drop (i+1)).flatten):=by
  conv=>lhs;rw[<- List.take_append_drop i bs,eg [] h]
  rw[List.flatten_append,List.flatten_cons]
 rw[e,zK,zK];omega
theorem B6 (bs:List (List Int)) (i:Nat) (h:i < bs.length):xV bs (i+1)=(bs.getD i []).foldl gc (xV bs i):=by
 have hgd:bs.getD i []=bs[i]:=by rw[zb,ze h];rfl
 rw[xV,xV,yI h,hgd,List.flatten_append,List.foldl_append,List.flatten_cons,List.flatten_nil,z4]
theorem Ca (bs:List (List Int)) (i:Nat) (h:i < bs.length):(xP bs i).set i []=xP bs (i+1):=by
 have hl:((bs.take i).map fun _=>([]:List Int)).length=i:=by simp;omega
 rw[xP,xP,eg [] h,List.set_append_right _ _ (by omega),hl,Nat.sub_self,List.set_cons_zero,yI h,yg,ye];rfl
theorem Au (bs:List (List Int)) (i:Nat):(xP bs i).length=bs.length:=by simp[xP];omega
theorem Cu (bs:List (List Int)):xP bs bs.length=bs.map fun _=>[]:=by simp[xP]
theorem Ak (m:Ms) (c t:Int) (h:MsS m) (hc:0<=c/\c.toNat < m.buf.length):FC Tryz.prog 142 [enc m,enc c,enc t] [] (msA (iP m c t) 12) [(12,.deep 1 3 24 none (fP (iP m c t).buf))]:=by
 have h1:=h.b.l;refine dD [12] D7.is142 (by simp) (by simp[bk]) (by simp[an,ag]) (by simp[an,ag,av]) (by simp[aB,lk]) (fun cx _ hl _=>dC [y9 m h.b] 800 ?_);delta D7.c142 oO oN oA oM oT oS oK oF oL oV oC oW oY oX o0 oZ o5 o7;simp (maxSteps:=9^7) -implicitDefEqProofs only[D7.rv142,y9,xv,kN,msA,msC,InR,WU,V,W3,↓reduceIte,seval,reduceCtorEq];have hcl:c < (m.buf.length:Int):=by omega
 refine eN m.buf.length (fun i=>[(8,enc (xV m.buf i)),(9,.s (.int .i64 (i:Int)))]) (fun i=>[(12,.deep 1 3 24 none (fP (xP m.buf i)))]) (fun _=>True) trivial ?_ (fun i hi _=>dC [] 800 ?_)
 . simp (maxSteps:=9^7) -implicitDefEqProofs only[xP,xV,List.take_zero,yB,zR,yb,List.flatten_nil,List.foldl_nil,V,W3,↓reduceIte,seval,reduceCtorEq]
   all_goals rfl
 . by_cases hlt:i < m.buf.length
   . have hi2:(i:Int) < (m.buf.length:Int):=by omega
     have hi0:(0:Int)<=i:=by omega
     have hgx:List.getD (m.buf.map Dat.cells) i [C.sl 0 []]=[C.sl 1 ((m.buf.getD i []).map Dat.cells)]:=by
      rw[zb,zb,zh,ze hlt];rfl
     have hfl:=y6 m.buf i hlt;have hA:(xV m.buf i).length=(m.buf.take i).flatten.length:=by rw[xV,Al];simp
     have hff:=h.f;have has:=B6 m.buf i hlt;have hcs:=Ca m.buf i hlt;have hst:(fP (xP m.buf i)).set i []=fP (xP m.buf (i+1)):=by rw[<- hcs];exact jS _ i []
     delta D7.c142l2 oO oN oA oM oR oS oK oF oL oV oY oX oB o0 o4;simp (maxSteps:=9^7) -implicitDefEqProofs only[hi0,hi2,hlt,hgx,InR,WU,V,W3,↓reduceIte,seval,reduceCtorEq];generalize xV m.buf i=A at *;generalize hL:m.buf.getD i []=L at *;refine eN L.length (fun k=>[(8,enc ((L.take k).foldl gc A)),(10,.s (.int .i64 (k:Int)))]) (fun k=>[]) (fun _=>True) trivial ?_ (fun k hk _=>dC [Ce] 800 ?_)
     . simp (maxSteps:=9^7) -implicitDefEqProofs only[List.take_zero,List.foldl_nil,V,W3,↓reduceIte,seval,reduceCtorEq]
       all_goals rfl
     . by_cases hkl:k < L.length
       . have hk2:(k:Int) < (L.length:Int):=by omega
         have hk0:(0:Int)<=k:=by omega
         have hle:((L.take k).foldl gc A).length<=1000000:=by rw[Al,List.length_take];omega
         have hgd:L.getD k 0=L[k]:=by rw[zb,ze hkl];rfl
         have hnx:(L.take (k+1)).foldl gc A=gc ((L.take k).foldl gc A) (L.getD k 0):=by
          rw[hgd,yI hkl,List.foldl_append];rfl
         delta D7.c142l1 oO oN oA oM oR oS oK oF oL oC oX oB o0 o1 o4;simp (maxSteps:=9^7) -implicitDefEqProofs only[Ce,hi0,hi2,hlt,hgx,hk0,hk2,hkl,hle,hnx,InR,WU,Ent.of2,V,W3,↓reduceIte,seval,reduceCtorEq];omega
       . have hke:k=L.length:=by omega
         subst hke;have hk2:¬ ((L.length:Nat):Int) < (L.length:Int):=by omega
         delta D7.c142l1 oO oN oA oM oR oS oK oF oL oC oX oB o0 o1 o4;simp (maxSteps:=9^7) -implicitDefEqProofs only[hi0,hi2,hlt,hgx,hk2,eu,Au,hst,yo,has,InR,WU,V,W3,↓reduceIte,seval,reduceCtorEq];refine pw rfl (OpM.nilled 99 1 3 (by decide) (.f (by simp[ai,Bv,Br,aq,gt,lk,af,ae,ah,bF];rfl) (by simp[eu,Au];omega))) (fun ef he=>?_);subst he;refine nz [] 800 ?_;simp (maxSteps:=9^7) -implicitDefEqProofs only[a6,bF,eu,Au,hst,has,hlt,InR,WU,V,W3,↓reduceIte,seval,reduceCtorEq];omega
   . have hie:i=m.buf.length:=by omega
     subst hie;have hi2:¬ ((m.buf.length:Nat):Int) < (m.buf.length:Int):=by omega
     have hall:xV m.buf m.buf.length=mrg m.buf:=by rw[xV,yo];rfl
     have hml:(mrg m.buf).length<=1000000:=by rw[(lx m.buf).length_eq];exact h.f
     have hst:=jS (m.buf.map fun _=>[]) c.toNat (frm (mrg m.buf) m.got);have hbl:(fP (m.buf.map fun _=>[])).length=m.buf.length:=by rw[eu,zy]
     rw[Cu,hall];obtain⟨hc0,hc2⟩:=hc;delta D7.c142l2 oO oN oA oM oR oS oK oF oL oV oY oX oB o0 o4;simp (maxSteps:=9^7) -implicitDefEqProofs only[hi2,InR,WU,V,W3,↓reduceIte,seval,reduceCtorEq];refine nC [Ag (mrg m.buf) m.got hml] 800 ?_;simp (maxSteps:=9^7) -implicitDefEqProofs only[drS,lC,robC,reC,fixS,eQ,AOp.reads,kF,true_or,or_true,false_or,Ag,xv,hc0,hc2,hcl,hbl,InR,WU,V,W3,↓reduceIte,seval,reduceCtorEq];refine dC [] 600 ?_;simp (maxSteps:=9^7) -implicitDefEqProofs only[D7.rv142,hst,iP,InR,WU,V,W3,↓reduceIte,seval,reduceCtorEq]
def BL (m:Ms) (c t:Int) (h:MsS m) (hc:0<=c/\c.toNat < m.buf.length):Ent Tryz.prog:=xv 142 [enc m,enc c,enc t] (msA (iP m c t) 12) 12 (.deep 1 3 24 none (fP (iP m c t).buf)) (Aw _ 12) (by simp[gm]) (Ak m c t h hc)
def yT (n:Nw) (m:Ms) (t:Int):Int:=if jJ n m t=true then m.since+n.limit else -1
theorem Pass_o (n:Nw) (m:Ms) (t:Int) (hn:NwS n) (h:MsS m) (hl:0 < m.buf.length) (hi:ej m=true->InR .i64 (m.since+n.limit)):FC Tryz.prog 110 [enc n,enc m,enc t] [] (.tup [msA (qN n m t) 25,enc (yT n m t)]) [(25,.deep 1 3 24 none (fP (qN n m t).buf))]:=by
 have hdm:=xj m;by_cases hp:jJ n m t=true
 . have hq:=hp;simp only[jJ,zm,decide_eq_true_eq]at hq;have hI:=hi hq.1;simp only[InR]at hI;have hP:qN n m t=iP m 0 (m.since+n.limit):=by unfold qN;rw[if_pos hp]
   have hA:yT n m t=m.since+n.limit:=by unfold yT;rw[if_pos hp]
   rw[hP,hA];refine dD [25] D7.is110 (by simp) (by simp[bk]) (by simp[an,ag]) (by simp[an,ag,av]) (by simp[aB,lk]) (fun cx _ _ _=>dC [xf] 800 ?_);delta D7.c110 oO oN oA oM oT oG oS oK oF oL oV oC oW oI oX oP oB oD oE oJ oZ o5 o7;simp (maxSteps:=9^7) -implicitDefEqProofs only[D7.rv110,ed,kN,hdm,xf,hq,hI,InR,WU,Ent.of1,V,W3,↓reduceIte,seval,reduceCtorEq];refine qZ [BL m 0 (m.since+n.limit) h ⟨by decide,by simpa using hl⟩] 800 ?_;simp (maxSteps:=9^7) -implicitDefEqProofs only[gL,mFin2,ml,pF,ops2,jo,reM2,oU,qO,qP,mE,finM,kE,ia,ip,gh,ft,fW,fW.fixBs,fV,ndE2,an,ag,av,aU,aF,kF,eQ,a6,bF,BL,xv,msA,msC,kN,hI,InR,WU,V,W3,↓reduceIte,seval,reduceCtorEq];refine⟨rfl,dC [] 600 ?_⟩;simp (maxSteps:=9^7) -implicitDefEqProofs only[D7.rv110,InR,WU,V,W3,↓reduceIte,seval,reduceCtorEq]
 . have hP:qN n m t=m:=by unfold qN;rw[if_neg hp]
   have hA:yT n m t=-1:=by unfold yT;rw[if_neg hp]
   rw[hP,hA];have key:FC Tryz.prog 110 [enc n,enc m,enc t] [] (.tup [msA m 32,enc (-1:Int)]) [(32,.deep 1 3 24 none (fP m.buf))]:=by
    refine dD [32] D7.is110 (by simp) (by simp[bk]) (by simp[an,ag]) (by simp[an,ag,av]) (by simp[aB,lk]) (fun cx _ _ _=>dC [xf,y9 m h.b] 800 ?_);cases ha:ej m
    . delta D7.c110 oO oN oA oM oT oG oS oK oF oL oV oC oW oI oX oP oB oD oE oJ oZ o5 o7;simp (maxSteps:=9^7) -implicitDefEqProofs only[D7.rv110,ed,kN,hdm,xf,y9,xv,msA,msC,ha,InR,WU,Ent.of1,V,W3,↓reduceIte,seval,reduceCtorEq]
    . have hI:=hi ha;simp only[InR]at hI;have hq:¬ m.since+n.limit<=t:=fun q=>hp (by simp[jJ,ha,q])
      delta D7.c110 oO oN oA oM oT oG oS oK oF oL oV oC oW oI oX oP oB oD oE oJ oZ o5 o7;simp (maxSteps:=9^7) -implicitDefEqProofs only[D7.rv110,ed,kN,hdm,xf,y9,xv,msA,msC,ha,hI,hq,InR,WU,Ent.of1,V,W3,↓reduceIte,seval,reduceCtorEq]
   exact FC.rekey key 25 rfl (AM m.buf)
theorem RevE_c (n:Nw) (e:T3) (h:NwS n):FC Tryz.prog 68 [enc n,enc e] [] (enc (evE n e)) []:=by
 have hdn:=gO n;generalize hE:evE n e=E;unfold evE at hE;refine dD [] is68 (by simp) trivial trivial trivial trivial (fun cx _ hl _=>dC [oa,my] 800 ?_);have htk:eM e.y=decide (0<=e.y/\e.y<=1000000000):=rfl;rw[htk]at hE;unfold iN at hE;rcases Classical.propComplete (0<=e.x/\e.x<=11)with h1 | h1
 rotate_left
 . simp[h1]at hE;subst hE;delta c68 oO oN oA oM oG oS oK oF oL oV oC oI oX oH oB oE oJ o5 o7;simp (maxSteps:=9^7) -implicitDefEqProofs only[rv68,oa,ed,dY,h1,WU,Ent.of3,V,W3,↓reduceIte,seval,reduceCtorEq]
 rcases Classical.propComplete (0<=e.y/\e.y<=1000000000)with h2 | h2
 rotate_left
 . simp[h1,h2]at hE;subst hE;delta c68 oO oN oA oM oG oS oK oF oL oV oC oI oX oH oB oE oJ o5 o7;simp (maxSteps:=9^7) -implicitDefEqProofs only[rv68,oa,ed,dY,h1,h2,WU,Ent.of3,V,W3,↓reduceIte,seval,reduceCtorEq]
 have h34:((e.x=3)=True/\True)\/((e.x=3)=False/\(e.x=10)=True)\/((e.x=3)=False/\(e.x=10)=False):=by
  by_cases q:e.x=3
  . exact .inl ⟨eq_true q,trivial⟩
  . by_cases q2:e.x=10
    . exact .inr (.inl ⟨eq_false q,eq_true q2⟩)
    . exact .inr (.inr ⟨eq_false q,eq_false q2⟩)
 rcases h34 with⟨h3,h4⟩ | ⟨h3,h4⟩ | ⟨h3,h4⟩
 rotate_left 2
 . rcases Classical.propComplete (e.z=0)with h6 | h6
   all_goals
    simp[h1,h2,h3,h4,h6]at hE;subst hE;delta c68 oO oN oA oM oG oS oK oF oL oV oC oI oX oH oB oE oJ o5 o7;simp (maxSteps:=9^7) -implicitDefEqProofs only[rv68,oa,ed,dY,h1,h2,h3,h4,h6,not_true_eq_false,not_false_eq_true,WU,Ent.of3,V,W3,↓reduceIte,seval,reduceCtorEq]
 all_goals
  cases h5:isC n e.z
  all_goals
   simp[h1,h2,h3,h4,h5]at hE;subst hE;delta c68 oO oN oA oM oG oS oK oF oL oV oC oI oX oH oB oE oJ o5 o7;simp (maxSteps:=9^7) -implicitDefEqProofs only[rv68,oa,my,ed,dY,hdn,h,h1,h2,h3,h4,h5,not_true_eq_false,WU,Ent.of2,Ent.of3,V,W3,↓reduceIte,seval,reduceCtorEq]
def Bc : Ent Tryz.prog:=.of2 68 (fun n _=>NwS n) (fun (n:Nw) (e:T3)=>enc (evE n e)) (fun _ _=>trivial) (fun n e h=>RevE_c n e h)
theorem Rways_c (m:Ms):FC Tryz.prog 167 [enc m] [] (.tup [enc (dW m),enc (toC m)]) []:=by
 unfold dW toC;refine dD [] is167 (by simp) trivial trivial trivial trivial (fun cx _ hl _=>dC [] 800 ?_);by_cases h1:m.phase=2
 . rw[if_pos h1,if_pos h1];delta c167 oO oN oM oT oQ oS oK oF oL oV oI oX oB o7;simp (maxSteps:=9^7) -implicitDefEqProofs only[rv167,kN,h1,WU,V,W3,↓reduceIte,seval,reduceCtorEq]
 . rw[if_neg h1,if_neg h1];delta c167 oO oN oM oT oQ oS oK oF oL oV oI oX oB o7;simp (maxSteps:=9^7) -implicitDefEqProofs only[rv167,kN,h1,WU,V,W3,↓reduceIte,seval,reduceCtorEq]
def xX : Ent Tryz.prog:=.of1 167 (fun _=>True) (fun m:Ms=>.tup [enc (dW m),enc (toC m)]) (fun _=>⟨trivial,trivial,trivial⟩) (fun m _=>Rways_c m)
def InB (m:Ms) (c:Int):Prop:=0<=c/\c.toNat < m.buf.length
theorem At (m:Ms) (c:Int) (h:c.toNat < m.buf.length):List.getD (m.buf.map Dat.cells) c.toNat [C.sl 0 []]=[C.sl 1 ((dQ m c).map Dat.cells)]:=by
 rw[zb,zh,ze h,dQ,zb,ze h];rfl
theorem does_c (n:Nw) (m:Ms) (e:T3) (hn:NwS n) (h:MsS m) (hk:0<=e.x/\e.x<=11) (hs:InB m m.serving) (hf:m.phase=2\/(m.phase=0/\m.source≠-1)->InB m (dW m)):FC Tryz.prog 152 [enc n,enc m,enc e] [] (enc (eA n m e)) []:=by
 have hdn:=gO n;have hdm:=xj m;have hp1:=h.b.l;have hp2:fj m.buf<=1000000000:=by rw[nr];have:=h.f;omega
 have hp3:=s5 m.buf;generalize hE:eA n m e=E;unfold eA at hE;obtain⟨ex,ey,ezw⟩:=e;simp only at hk hE;refine dD [] D7.is152 (by simp) trivial trivial trivial trivial (fun cx _ hl _=>dC [] 1200 ?_);have k:ex=0\/ex=1\/ex=2\/ex=3\/ex=4\/ex=5\/ex=6\/ex=7\/ex=8\/ex=9\/ex=10\/ex=11:=by omega
 rcases k with rfl | rfl | rfl | rfl | rfl | rfl | rfl | rfl | rfl | rfl | rfl | rfl <;> simp only[Int.reduceEq,if_true,if_false]at hE
 ·
  delta D7.c152 oO oN oM oR oS oK oF oL oV oI oX oB o7;simp (maxSteps:=9^7) -implicitDefEqProofs only[D7.rv152,ed,kN,dY,InR,WU,V,W3,↓reduceIte,seval,reduceCtorEq];refine iw (dC [y7] 800 ?_);have hc:((60<=fj m.buf)=True/\True)\/((60<=fj m.buf)=False/\(1000000<=m.fresh)=True)\/((60<=fj m.buf)=False/\(1000000<=m.fresh)=False):=by
   rcases Classical.propComplete (60<=fj m.buf)with h1 | h1 <;> rcases Classical.propComplete (1000000<=m.fresh)with h2 | h2 <;> simp only[h1,h2] <;> simp
  rcases hc with⟨h1,h2⟩ | ⟨h1,h2⟩ | ⟨h1,h2⟩
  all_goals
   simp[h1,h2]at hE;subst hE;delta D7.c152k1 oO oN oM oG oV oC oI oX oH oB oE oJ o5;simp (maxSteps:=9^7) -implicitDefEqProofs only[D7.rv152,y7,ed,kN,dY,hdm,hp1,hp2,h1,h2,not_true_eq_false,WU,Ent.of1,V,W3,↓reduceIte,seval,reduceCtorEq]
 ·
  delta D7.c152 oO oN oM oR oS oK oF oL oV oI oX oB o7;simp (maxSteps:=9^7) -implicitDefEqProofs only[D7.rv152,ed,kN,dY,InR,WU,V,W3,↓reduceIte,seval,reduceCtorEq];refine iw (dC [xf] 800 ?_);cases h1:ej m
  rotate_left
  . simp[h1]at hE;subst hE;delta D7.c152k2 oO oN oA oM oT oQ oS oK oF oL oV oC oI oX oB o0 o1 o4 o5;simp (maxSteps:=9^7) -implicitDefEqProofs only[D7.rv152,xf,ed,kN,dY,hdm,h1,WU,Ent.of1,V,W3,↓reduceIte,seval,reduceCtorEq]
  obtain⟨s0,s2⟩:=hs;have s3:m.serving < (m.buf.length:Int):=by omega
  have hg:=At m m.serving s2;cases hb:dQ m m.serving with
  | nil=>
   simp[h1,hb]at hE;subst hE;rw[hb]at hg;delta D7.c152k2 oO oN oA oM oT oQ oS oK oF oL oV oC oI oX oB o0 o1 o4 o5;simp (maxSteps:=9^7) -implicitDefEqProofs only[D7.rv152,xf,ed,kN,dY,hdm,h1,s0,s2,s3,hg,zR,InR,WU,Ent.of1,V,W3,↓reduceIte,seval,reduceCtorEq]
  | cons x l=>
   rw[hb]at hg hE;have hl0:¬ ((l.length:Int)+1=0):=by omega
   have hl1:(0:Int) < (l.length:Int)+1:=by omega
   rcases Classical.propComplete (m.got < x)with h2 | h2
   all_goals
    simp[h1,h2]at hE;subst hE;delta D7.c152k2 oO oN oA oM oT oQ oS oK oF oL oV oC oI oX oB o0 o1 o4 o5;simp (maxSteps:=9^7) -implicitDefEqProofs only[D7.rv152,xf,ed,kN,dY,hdm,h1,h2,s0,s2,s3,hg,hl0,hl1,zt,zQ,yM,zy,InR,not_true_eq_false,not_false_eq_true,WU,Ent.of1,V,W3,↓reduceIte,seval,reduceCtorEq]
 ·
  delta D7.c152 oO oN oM oR oS oK oF oL oV oI oX oB o7;simp (maxSteps:=9^7) -implicitDefEqProofs only[D7.rv152,ed,kN,dY,InR,WU,V,W3,↓reduceIte,seval,reduceCtorEq];refine iw (dC [xf] 800 ?_);cases h1:ej m
  all_goals
   simp[h1]at hE;subst hE;delta D7.c152k3 oO oM oC oI oX o5;simp (maxSteps:=9^7) -implicitDefEqProofs only[D7.rv152,xf,ed,kN,dY,hdm,h1,WU,Ent.of1,V,W3,↓reduceIte,seval,reduceCtorEq]
 ·
  delta D7.c152 oO oN oM oR oS oK oF oL oV oI oX oB o7;simp (maxSteps:=9^7) -implicitDefEqProofs only[D7.rv152,ed,kN,dY,InR,WU,V,W3,↓reduceIte,seval,reduceCtorEq];refine iw (dC [xB] 800 ?_);have hc:((m.phase=0)=False/\True/\True)\/((m.phase=0)=True/\(m.source=-1)=False/\True)\/((m.phase=0)=True/\(m.source=-1)=True/\nbr n ezw m.serving=true)\/((m.phase=0)=True/\(m.source=-1)=True/\nbr n ezw m.serving=false):=by
   rcases Classical.propComplete (m.phase=0)with h1 | h1 <;> rcases Classical.propComplete (m.source=-1)with h2 | h2 <;> cases h3:nbr n ezw m.serving <;> simp only[h1,h2] <;> simp
  rcases hc with⟨h1,h2,h3⟩ | ⟨h1,h2,h3⟩ | ⟨h1,h2,h3⟩ | ⟨h1,h2,h3⟩
  all_goals
   simp[h1,h2,h3]at hE;subst hE;delta D7.c152k4 oO oN oA oM oS oK oF oL oV oC oI oX oB o5;simp (maxSteps:=9^7) -implicitDefEqProofs only[D7.rv152,xB,ed,kN,dY,hdn,hn,h1,h2,h3,not_true_eq_false,not_false_eq_true,WU,Ent.of3,V,W3,↓reduceIte,seval,reduceCtorEq]
 ·
  delta D7.c152 oO oN oM oR oS oK oF oL oV oI oX oB o7;simp (maxSteps:=9^7) -implicitDefEqProofs only[D7.rv152,ed,kN,dY,InR,WU,V,W3,↓reduceIte,seval,reduceCtorEq];refine iw (dC [] 800 ?_);rcases Classical.propComplete (m.phase=1)with h1 | h1
  all_goals
   simp[h1]at hE;subst hE;delta D7.c152k5 oN oM oF oL oI oX oB;simp (maxSteps:=9^7) -implicitDefEqProofs only[D7.rv152,ed,kN,dY,h1,not_true_eq_false,not_false_eq_true,WU,V,W3,↓reduceIte,seval,reduceCtorEq]
 ·
  delta D7.c152 oO oN oM oR oS oK oF oL oV oI oX oB o7;simp (maxSteps:=9^7) -implicitDefEqProofs only[D7.rv152,ed,kN,dY,InR,WU,V,W3,↓reduceIte,seval,reduceCtorEq];refine iw (dC [] 800 ?_);rcases Classical.propComplete (m.phase=1)with h1 | h1
  all_goals
   simp[h1]at hE;subst hE;delta D7.c152k5 oN oM oF oL oI oX oB;simp (maxSteps:=9^7) -implicitDefEqProofs only[D7.rv152,ed,kN,dY,h1,not_true_eq_false,not_false_eq_true,WU,V,W3,↓reduceIte,seval,reduceCtorEq]
 ·
  delta D7.c152 oO oN oM oR oS oK oF oL oV oI oX oB o7;simp (maxSteps:=9^7) -implicitDefEqProofs only[D7.rv152,ed,kN,dY,InR,WU,V,W3,↓reduceIte,seval,reduceCtorEq];refine iw (dC [] 800 ?_);rcases Classical.propComplete (m.phase=2)with h1 | h1
  all_goals
   simp[h1]at hE;subst hE;delta D7.c152k6 oN oM oF oL oI oX oB;simp (maxSteps:=9^7) -implicitDefEqProofs only[D7.rv152,ed,kN,dY,h1,not_true_eq_false,not_false_eq_true,WU,V,W3,↓reduceIte,seval,reduceCtorEq]
 ·
  delta D7.c152 oO oN oM oR oS oK oF oL oV oI oX oB o7;simp (maxSteps:=9^7) -implicitDefEqProofs only[D7.rv152,ed,kN,dY,InR,WU,V,W3,↓reduceIte,seval,reduceCtorEq];refine iw (dC [xX] 800 ?_);by_cases hq:m.phase=2\/(m.phase=0/\m.source≠-1)
  . obtain⟨s0,s2⟩:=hf hq;have s3:dW m < (m.buf.length:Int):=by omega
    have hg:=At m (dW m) s2;have hq2:¬ (¬ m.phase=2/\(¬ m.phase=0\/m.source=-1)):=fun⟨q1,q2⟩=>by
     rcases hq with q | ⟨q3,q4⟩
     . exact q1 q
     . rcases q2 with q | q
       . exact q q3
       . exact q4 q
    rw[if_neg hq2]at hE;have hph:((m.phase=2)=True/\True/\True)\/((m.phase=2)=False/\(m.phase=0)=True/\(m.source=-1)=False):=by
     by_cases q:m.phase=2
     . exact .inl ⟨eq_true q,trivial,trivial⟩
     . rcases hq with q2 | ⟨q3,q4⟩
       . exact absurd q2 q
       . exact .inr ⟨eq_false q,eq_true q3,eq_false q4⟩
    cases hb:dQ m (dW m)with
    | nil=>
     rw[hb]at hg hE;simp at hE;subst hE;rcases hph with⟨h1,h2,h3⟩ | ⟨h1,h2,h3⟩
     all_goals
      delta D7.c152k7 oO oN oA oM oG oS oK oF oL oV oC oI oX oP oB oD oE oJ o0 o4 o5 o8;simp (maxSteps:=9^7) -implicitDefEqProofs only[D7.rv152,xX,ed,kN,dY,hdm,h1,h2,h3,s0,s2,s3,hg,zR,InR,not_true_eq_false,not_false_eq_true,WU,Ent.of1,V,W3,↓reduceIte,seval,reduceCtorEq]
    | cons x l=>
     rw[hb]at hg hE;simp at hE;subst hE;have hl0:¬ ((l.length:Int)+1=0):=by omega
     rcases hph with⟨h1,h2,h3⟩ | ⟨h1,h2,h3⟩
     all_goals
      delta D7.c152k7 oO oN oA oM oG oS oK oF oL oV oC oI oX oP oB oD oE oJ o0 o4 o5 o8;simp (maxSteps:=9^7) -implicitDefEqProofs only[D7.rv152,xX,ed,kN,dY,hdm,h1,h2,h3,s0,s2,s3,hg,hl0,zt,zQ,yM,zy,InR,not_true_eq_false,not_false_eq_true,WU,Ent.of1,V,W3,↓reduceIte,seval,reduceCtorEq]
  . have hq2:¬ m.phase=2/\(¬ m.phase=0\/m.source=-1):=⟨fun q=>hq (.inl q),by
     by_cases q1:m.phase=0
     . exact .inr (Classical.byContradiction fun q2=>hq (.inr ⟨q1,q2⟩))
     . exact .inl q1⟩
    rw[if_pos hq2]at hE;subst hE;obtain⟨h1,h2⟩:=hq2;have h1':=eq_false h1;by_cases h3:m.phase=0
    . have h4:m.source=-1:=h2.resolve_left fun q=>q h3
      delta D7.c152k7 oO oN oA oM oG oS oK oF oL oV oC oI oX oP oB oD oE oJ o0 o4 o5 o8;simp (maxSteps:=9^7) -implicitDefEqProofs only[D7.rv152,xX,ed,kN,dY,hdm,h1',h3,h4,not_true_eq_false,not_false_eq_true,WU,Ent.of1,V,W3,↓reduceIte,seval,reduceCtorEq]
    . delta D7.c152k7 oO oN oA oM oG oS oK oF oL oV oC oI oX oP oB oD oE oJ o0 o4 o5 o8;simp (maxSteps:=9^7) -implicitDefEqProofs only[D7.rv152,xX,ed,kN,dY,hdm,h1',h3,not_true_eq_false,not_false_eq_true,WU,Ent.of1,V,W3,↓reduceIte,seval,reduceCtorEq]
 ·
  delta D7.c152 oO oN oM oR oS oK oF oL oV oI oX oB o7;simp (maxSteps:=9^7) -implicitDefEqProofs only[D7.rv152,ed,kN,dY,InR,WU,V,W3,↓reduceIte,seval,reduceCtorEq];refine iw (dC [] 800 ?_);have hc:((m.source=-1)=True/\True/\True)\/((m.source=-1)=False/\(m.phase=3)=True/\True)\/((m.source=-1)=False/\(m.phase=3)=False/\(m.path=m.serving)=True)\/((m.source=-1)=False/\(m.phase=3)=False/\(m.path=m.serving)=False):=by
   rcases Classical.propComplete (m.source=-1)with h1 | h1 <;> rcases Classical.propComplete (m.phase=3)with h2 | h2 <;> rcases Classical.propComplete (m.path=m.serving)with h3 | h3 <;> simp only[h1,h2,h3] <;> simp
  rcases hc with⟨h1,h2,h3⟩ | ⟨h1,h2,h3⟩ | ⟨h1,h2,h3⟩ | ⟨h1,h2,h3⟩
  all_goals
   simp[h1,h2,h3]at hE;subst hE;delta D7.c152k8 oO oN oA oM oS oK oF oL oV oI oX oB;simp (maxSteps:=9^7) -implicitDefEqProofs only[D7.rv152,ed,kN,dY,h1,h2,h3,not_true_eq_false,not_false_eq_true,WU,V,W3,↓reduceIte,seval,reduceCtorEq]
 ·
  delta D7.c152 oO oN oM oR oS oK oF oL oV oI oX oB o7;simp (maxSteps:=9^7) -implicitDefEqProofs only[D7.rv152,ed,kN,dY,InR,WU,V,W3,↓reduceIte,seval,reduceCtorEq];refine iw (dC [] 800 ?_);rcases Classical.propComplete (m.phase=3)with h1 | h1
  all_goals
   simp[h1]at hE;subst hE;delta D7.c152k9 oN oM oF oL oI oX oB;simp (maxSteps:=9^7) -implicitDefEqProofs only[D7.rv152,ed,kN,dY,h1,not_true_eq_false,not_false_eq_true,WU,V,W3,↓reduceIte,seval,reduceCtorEq]
 ·
  delta D7.c152 oO oN oM oR oS oK oF oL oV oI oX oB o7;simp (maxSteps:=9^7) -implicitDefEqProofs only[D7.rv152,ed,kN,dY,InR,WU,V,W3,↓reduceIte,seval,reduceCtorEq];refine iw (dC [] 800 ?_);rcases Classical.propComplete (m.phase=3)with h1 | h1
  rotate_left
  . simp[h1]at hE;subst hE;delta D7.c152k10 oO oN oM oG oS oK oF oL oV oI oX oP oB oD oE oJ;simp (maxSteps:=9^7) -implicitDefEqProofs only[D7.rv152,ed,kN,dY,h1,not_true_eq_false,not_false_eq_true,WU,V,W3,↓reduceIte,seval,reduceCtorEq]
  have hc:((ezw=m.serving)=True/\True/\True)\/((ezw=m.serving)=False/\(m.target=-1)=False/\(ezw=m.target)=True)\/((ezw=m.serving)=False/\(m.target=-1)=True/\True)\/((ezw=m.serving)=False/\(m.target=-1)=False/\(ezw=m.target)=False):=by
   rcases Classical.propComplete (ezw=m.serving)with h1 | h1 <;> rcases Classical.propComplete (m.target=-1)with h2 | h2 <;> rcases Classical.propComplete (ezw=m.target)with h3 | h3 <;> simp only[h1,h2,h3] <;> simp
  have hd:((m.source=-1)=True/\True)\/((m.source=-1)=False/\(ezw=m.source)=True)\/((m.source=-1)=False/\(ezw=m.source)=False):=by
   rcases Classical.propComplete (m.source=-1)with h2 | h2 <;> rcases Classical.propComplete (ezw=m.source)with h3 | h3 <;> simp only[h2,h3] <;> simp
  rcases hc with⟨h2,h3,h4⟩ | ⟨h2,h3,h4⟩ | ⟨h2,h3,h4⟩ | ⟨h2,h3,h4⟩
  rotate_left 2
  all_goals
   first
    | (simp[h1,h2,h3,h4]at hE
       subst hE;delta D7.c152k10 oO oN oM oG oS oK oF oL oV oI oX oP oB oD oE oJ;simp (maxSteps:=9^7) -implicitDefEqProofs only[D7.rv152,ed,kN,dY,h1,h2,h3,h4,not_true_eq_false,not_false_eq_true,WU,V,W3,↓reduceIte,seval,reduceCtorEq]
       done)
    | (rcases hd with⟨h5,h6⟩ | ⟨h5,h6⟩ | ⟨h5,h6⟩
       all_goals
        simp[h1,h2,h3,h4,h5,h6]at hE;subst hE;delta D7.c152k10 oO oN oM oG oS oK oF oL oV oI oX oP oB oD oE oJ
        simp (maxSteps:=9^7) -implicitDefEqProofs only[D7.rv152,ed,kN,dY,h1,h2,h3,h4,h5,h6,not_true_eq_false,not_false_eq_true,WU,V,W3,↓reduceIte,seval,reduceCtorEq])
 ·
  subst hE;delta D7.c152 oO oN oM oR oS oK oF oL oV oI oX oB o7;simp (maxSteps:=9^7) -implicitDefEqProofs only[D7.rv152,ed,kN,dY,WU,V,W3,↓reduceIte,seval,reduceCtorEq]
abbrev dpC (m:Ms):Ch:=.deep 1 3 24 none (fP m.buf)
theorem Cp (m:Ms) (h:m.source≠-1->InB m m.source):FC Tryz.prog 168 [enc m] [] (enc (settle m)) []:=by
 refine dD [] is168 (by simp) trivial trivial trivial trivial (fun cx _ _ _=>dC [] 800 ?_);by_cases h1:m.source=-1
 . have hs:settle m=m:=by unfold Go.Proofs.YtcbabnbiinkafaaGreatDoor.settle;rw[if_neg (by simp[fU,h1])]
   rw[hs];delta c168 oO oN oA oM oG oR oS oK oF oL oW oY oI oX oP oB oE oJ o0 oZ o5 o7;simp (maxSteps:=9^7) -implicitDefEqProofs only[AF,kN,h1,not_true_eq_false,WU,V,W3,↓reduceIte,seval,reduceCtorEq]
 . by_cases h2:m.path=m.serving
   . obtain⟨s0,s2⟩:=h h1;have s3:m.source < (m.buf.length:Int):=by omega
     have hg:=At m m.source s2;cases hq:dQ m m.source with
     | nil=>
      have hs:settle m={ m with source:=-1 }:=by unfold Go.Proofs.YtcbabnbiinkafaaGreatDoor.settle;rw[if_pos (by simp[fU,h1,h2,hq])]
      rw[hs];rw[hq]at hg;delta c168 oO oN oA oM oG oR oS oK oF oL oW oY oI oX oP oB oE oJ o0 oZ o5 o7;simp (maxSteps:=9^7) -implicitDefEqProofs only[AF,kN,h1,h2,s0,s2,s3,hg,zR,InR,not_true_eq_false,not_false_eq_true,WU,V,W3,↓reduceIte,seval,reduceCtorEq]
     | cons x l=>
      have hs:settle m=m:=by unfold Go.Proofs.YtcbabnbiinkafaaGreatDoor.settle;rw[if_neg (by simp[fU,h1,h2,hq])]
      rw[hs];rw[hq]at hg;have hl0:¬ ((l.length:Int)+1=0):=by omega
      delta c168 oO oN oA oM oG oR oS oK oF oL oW oY oI oX oP oB oE oJ o0 oZ o5 o7;simp (maxSteps:=9^7) -implicitDefEqProofs only[AF,kN,h1,h2,s0,s2,s3,hg,hl0,zt,zQ,yM,zy,InR,not_true_eq_false,not_false_eq_true,WU,V,W3,↓reduceIte,seval,reduceCtorEq]
   . have hs:settle m=m:=by unfold Go.Proofs.YtcbabnbiinkafaaGreatDoor.settle;rw[if_neg (by simp[fU,h1,h2])]
     rw[hs];delta c168 oO oN oA oM oG oR oS oK oF oL oW oY oI oX oP oB oE oJ o0 oZ o5 o7;simp (maxSteps:=9^7) -implicitDefEqProofs only[AF,kN,h1,h2,not_true_eq_false,not_false_eq_true,WU,V,W3,↓reduceIte,seval,reduceCtorEq]
def xg : Ent Tryz.prog:=.of1 168 (fun m:Ms=>m.source≠-1->InB m m.source) (fun m=>enc (settle m)) (fun m=>by rw[kN];simp[dF,dF.keysIns]) (fun m h=>Cp m h)
abbrev xF (m:Ms) (e:T3) (m1:Ms):Prop:=FC Tryz.prog 153 [msA m 100000,enc e] [(100000,dpC m)] (enc (settle m1)) []
theorem xh (b:List (List Int)):(fP b).map (fun es=>[C.sl 1 es])=b.map Dat.cells:=by rw[fP,zT];rfl
end Go.Proofs.YtcbabnbiinkafaaGreatDoor
end
