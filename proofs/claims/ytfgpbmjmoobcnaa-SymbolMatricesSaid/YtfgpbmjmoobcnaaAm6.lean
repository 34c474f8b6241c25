/- SymbolMatrices returns true for every input and never panics: which matrices are right, ports, products and determinants, or the errors, are as the reference says; conditions: none beyond the given statement. -/
import Derived.Test.YtfgpbmjmoobcnaaRows
import Derived.ProofKit
import Derived.Test.YtfgpbmjmoobcnaaAm5
set_option linter.all false
section
open Go Go.Am
open Go.Am.Dat (cells)
namespace Go.Proofs.Ytfgpbmjmoobcnaa
set_option maxHeartbeats 4000000
set_option maxRecDepth 100000
set_option linter.unusedSimpArgs false
theorem Product_c (m ls : List (List Gs)) : FC Try.prog 48 [enc m, enc ls] [] (.tup [enc (prOut m ls), enc (prErr m ls)]) [] := by
  refine fc_intro' is48 (by simp) (fun cx hl => S_run [e46, e80, e112] 800 ?_)
  by_cases h1 : matErr m = 0
  · by_cases h2 : matErr ls = 0
    · have hp := prodOk_mat h1 h2
      have hf : firstS [matErr m, matErr ls] = 0 := by simp [firstS, h1, h2]
      have hE : prErr m ls = prodE m ls 1000 := by unfold prErr; rw [if_neg (by simpa using h1), if_neg (by simpa using h2)]
      unfold prOut
      rw [hE]
      delta c48
      simp (maxSteps := 4000000) -implicitDefEqProofs only [rv48, e46, e80, e112, hf, hp, InR, Int.cast_ofNat_Int, Int.natCast_one, Int.natCast_zero, Int.reduceAdd, Int.reduceSub, Int.reduceMul, Int.reduceLT, Int.reduceLE, Int.reduceTMod, Int.reduceTDiv, Int.reduceNeg, Int.reduceEq, Nat.reducePow, Int.reducePow, ne_eq, not_false_eq_true, Ent.of0, Ent.of1, Ent.of2, Ent.of3, V, runS, goalM, mdCal, calF, opF, evC, gt, lk, setA, delA, putS, put1, subT, subC, subC.subCs, drC, exitK, keepT, memN, cellsC, cellB, dataB, splice, fillC, fillE, datafy, subCh, delAll, extF, mxL, mxI, eqCells, cArith, binF, binI, binS, idx, bnd, cellAt, elemsOf, lenC, isOwn, zC, argS, RetOk, resL, rvC, fzS, rowKeys, minusN, fzList, subChs, tupC, leC, leCs, leC1, forQ, leS, leT', keysNd, keysOf, lkE, ownKeys, rowS, viewC, viewC.viewCs, flatC, flatC.flatCs, LensOk, LensOk.LensOks, Value.oneCell', ↓reduceIte, ite_true, ite_false, if_true, if_false, Nat.reduceAdd, Nat.reduceSub, Nat.reduceMul, Nat.reduceEqDiff, Nat.reduceLT, Nat.reduceLeDiff, reduceCtorEq, Int.reduceToNat, forall_const, implies_true, calFa, Ent.mk3, calF0, calF1, calF2, calF3, calFj, calFk, calF4, calF5, callP, callQ, callR, calK, keepQ, lkK, rn, renC, renC.renCs, renCh1, renChs, viewOk, viewOk.viewOks, lendOk, flatB, flatB.flatBs, flatCh, flatChs, backOk, subsetN, apartN, keysB, keysB.keysBs, keysBl, keysBch, getCh, canM, swapM, newM, passKeys, passKeys.passKs, cellKs, deepKs, lendKeys, lendKeys.lendKs, addN, fnOf, innV, innOf, setInn, holeInn, chD, ldC, notIsl, deepS, retQ, delN, fallen, callCh, Glob.gl, LensCh, updT, updCh, updS, loopQ, kindsOk, bigK, shM, renT, shS, fixT, ptrOnly, ptrOnly.ptrOnlys, boxesIn, onlyBx, bxOk, jumpTo, setPs, yOuts, yOut, RetOks, unisl, fzbS, Nat.reduceBEq, undef]
    · have hf : firstS [matErr m, matErr ls] = matErr ls := by simp [firstS, h1, h2]
      have hE : prErr m ls = matErr ls := by unfold prErr; rw [if_neg (by simpa using h1), if_pos h2]
      unfold prOut
      rw [hE, if_neg h2]
      delta c48
      simp (maxSteps := 4000000) -implicitDefEqProofs only [rv48, e46, e80, e112, hf, h2, InR, List.map_nil, Int.cast_ofNat_Int, Int.natCast_one, Int.natCast_zero, Int.reduceAdd, Int.reduceSub, Int.reduceMul, Int.reduceLT, Int.reduceLE, Int.reduceTMod, Int.reduceTDiv, Int.reduceNeg, Int.reduceEq, Nat.reducePow, Int.reducePow, ne_eq, not_false_eq_true, Ent.of0, Ent.of1, Ent.of2, Ent.of3, V, runS, goalM, mdCal, calF, opF, evC, gt, lk, setA, delA, putS, put1, subT, subC, subC.subCs, drC, exitK, keepT, memN, cellsC, cellB, dataB, splice, fillC, fillE, datafy, subCh, delAll, extF, mxL, mxI, eqCells, cArith, binF, binI, binS, idx, bnd, cellAt, elemsOf, lenC, isOwn, zC, argS, RetOk, resL, rvC, fzS, rowKeys, minusN, fzList, subChs, tupC, leC, leCs, leC1, forQ, leS, leT', keysNd, keysOf, lkE, ownKeys, rowS, viewC, viewC.viewCs, flatC, flatC.flatCs, LensOk, LensOk.LensOks, Value.oneCell', ↓reduceIte, ite_true, ite_false, if_true, if_false, Nat.reduceAdd, Nat.reduceSub, Nat.reduceMul, Nat.reduceEqDiff, Nat.reduceLT, Nat.reduceLeDiff, reduceCtorEq, Int.reduceToNat, forall_const, implies_true, calFa, Ent.mk3, calF0, calF1, calF2, calF3, calFj, calFk, calF4, calF5, callP, callQ, callR, calK, keepQ, lkK, rn, renC, renC.renCs, renCh1, renChs, viewOk, viewOk.viewOks, lendOk, flatB, flatB.flatBs, flatCh, flatChs, backOk, subsetN, apartN, keysB, keysB.keysBs, keysBl, keysBch, getCh, canM, swapM, newM, passKeys, passKeys.passKs, cellKs, deepKs, lendKeys, lendKeys.lendKs, addN, fnOf, innV, innOf, setInn, holeInn, chD, ldC, notIsl, deepS, retQ, delN, fallen, callCh, Glob.gl, LensCh, updT, updCh, updS, loopQ, kindsOk, bigK, shM, renT, shS, fixT, ptrOnly, ptrOnly.ptrOnlys, boxesIn, onlyBx, bxOk, jumpTo, setPs, yOuts, yOut, RetOks, unisl, fzbS, Nat.reduceBEq, undef]
  · have hf : firstS [matErr m, matErr ls] = matErr m := by simp [firstS, h1]
    have hE : prErr m ls = matErr m := by unfold prErr; rw [if_pos h1]
    unfold prOut
    rw [hE, if_neg h1]
    delta c48
    simp (maxSteps := 4000000) -implicitDefEqProofs only [rv48, e46, e80, e112, hf, h1, InR, List.map_nil, Int.cast_ofNat_Int, Int.natCast_one, Int.natCast_zero, Int.reduceAdd, Int.reduceSub, Int.reduceMul, Int.reduceLT, Int.reduceLE, Int.reduceTMod, Int.reduceTDiv, Int.reduceNeg, Int.reduceEq, Nat.reducePow, Int.reducePow, ne_eq, not_false_eq_true, Ent.of0, Ent.of1, Ent.of2, Ent.of3, V, runS, goalM, mdCal, calF, opF, evC, gt, lk, setA, delA, putS, put1, subT, subC, subC.subCs, drC, exitK, keepT, memN, cellsC, cellB, dataB, splice, fillC, fillE, datafy, subCh, delAll, extF, mxL, mxI, eqCells, cArith, binF, binI, binS, idx, bnd, cellAt, elemsOf, lenC, isOwn, zC, argS, RetOk, resL, rvC, fzS, rowKeys, minusN, fzList, subChs, tupC, leC, leCs, leC1, forQ, leS, leT', keysNd, keysOf, lkE, ownKeys, rowS, viewC, viewC.viewCs, flatC, flatC.flatCs, LensOk, LensOk.LensOks, Value.oneCell', ↓reduceIte, ite_true, ite_false, if_true, if_false, Nat.reduceAdd, Nat.reduceSub, Nat.reduceMul, Nat.reduceEqDiff, Nat.reduceLT, Nat.reduceLeDiff, reduceCtorEq, Int.reduceToNat, forall_const, implies_true, calFa, Ent.mk3, calF0, calF1, calF2, calF3, calFj, calFk, calF4, calF5, callP, callQ, callR, calK, keepQ, lkK, rn, renC, renC.renCs, renCh1, renChs, viewOk, viewOk.viewOks, lendOk, flatB, flatB.flatBs, flatCh, flatChs, backOk, subsetN, apartN, keysB, keysB.keysBs, keysBl, keysBch, getCh, canM, swapM, newM, passKeys, passKeys.passKs, cellKs, deepKs, lendKeys, lendKeys.lendKs, addN, fnOf, innV, innOf, setInn, holeInn, chD, ldC, notIsl, deepS, retQ, delN, fallen, callCh, Glob.gl, LensCh, updT, updCh, updS, loopQ, kindsOk, bigK, shM, renT, shS, fixT, ptrOnly, ptrOnly.ptrOnlys, boxesIn, onlyBx, bxOk, jumpTo, setPs, yOuts, yOut, RetOks, unisl, fzbS, Nat.reduceBEq, undef]
def e48 : Ent Try.prog := .of2 48 (fun _ _ => True) (fun m ls : List (List Gs) => .tup [enc (prOut m ls), enc (prErr m ls)]) (fun _ _ => ⟨trivial, trivial, trivial⟩) (fun m ls _ => Product_c m ls)
theorem RApplied_c (m ls : List (List Gs)) (hp : ProdOk m ls) : FC Try.prog 52 [enc m, enc ls] [] (.tup [enc (if prodE m ls 100000000 = 0 then applS m ls else []), enc (prodE m ls 100000000)]) [] := by
  refine fc_intro' is52 (by simp) (fun cx hl => S_run [e92, e94] 800 ?_)
  have ha0 := hp.apos
  by_cases he : (m.getD 0 []).length = ls.length
  · have he2 : (ls.length : Int) = ((m.getD 0 []).length : Int) := by omega
    have hf : ∃ A B, Fits m ls A B := ⟨_, _, hp.fits he⟩
    have hE : prodE m ls 100000000 = if largeS (applS m ls) 100000000 then 8 else 0 := by unfold prodE; rw [if_neg (by simpa using he)]
    rw [hE]
    cases hL : largeS (applS m ls) 100000000 with
    | true =>
      delta c52
      simp (maxSteps := 4000000) -implicitDefEqProofs only [rv52, getD_list, ha0, e92, e94, hf, he2, hL, InR, List.map_nil, Int.cast_ofNat_Int, Int.natCast_one, Int.natCast_zero, Int.reduceAdd, Int.reduceSub, Int.reduceMul, Int.reduceLT, Int.reduceLE, Int.reduceTMod, Int.reduceTDiv, Int.reduceNeg, Int.reduceEq, Nat.reducePow, Int.reducePow, ne_eq, not_false_eq_true, Ent.of0, Ent.of1, Ent.of2, Ent.of3, V, runS, goalM, mdCal, calF, opF, evC, gt, lk, setA, delA, putS, put1, subT, subC, subC.subCs, drC, exitK, keepT, memN, cellsC, cellB, dataB, splice, fillC, fillE, datafy, subCh, delAll, extF, mxL, mxI, eqCells, cArith, binF, binI, binS, idx, bnd, cellAt, elemsOf, lenC, isOwn, zC, argS, RetOk, resL, rvC, fzS, rowKeys, minusN, fzList, subChs, tupC, leC, leCs, leC1, forQ, leS, leT', keysNd, keysOf, lkE, ownKeys, rowS, viewC, viewC.viewCs, flatC, flatC.flatCs, LensOk, LensOk.LensOks, Value.oneCell', ↓reduceIte, ite_true, ite_false, if_true, if_false, Nat.reduceAdd, Nat.reduceSub, Nat.reduceMul, Nat.reduceEqDiff, Nat.reduceLT, Nat.reduceLeDiff, reduceCtorEq, Int.reduceToNat, forall_const, implies_true, calFa, Ent.mk3, calF0, calF1, calF2, calF3, calFj, calFk, calF4, calF5, callP, callQ, callR, calK, keepQ, lkK, rn, renC, renC.renCs, renCh1, renChs, viewOk, viewOk.viewOks, lendOk, flatB, flatB.flatBs, flatCh, flatChs, backOk, subsetN, apartN, keysB, keysB.keysBs, keysBl, keysBch, getCh, canM, swapM, newM, passKeys, passKeys.passKs, cellKs, deepKs, lendKeys, lendKeys.lendKs, addN, fnOf, innV, innOf, setInn, holeInn, chD, ldC, notIsl, deepS, retQ, delN, fallen, callCh, Glob.gl, LensCh, updT, updCh, updS, loopQ, kindsOk, bigK, shM, renT, shS, fixT, ptrOnly, ptrOnly.ptrOnlys, boxesIn, onlyBx, bxOk, jumpTo, setPs, yOuts, yOut, RetOks, unisl, fzbS, Nat.reduceBEq, undef]
      omega
    | false =>
      delta c52
      simp (maxSteps := 4000000) -implicitDefEqProofs only [rv52, getD_list, ha0, e92, e94, hf, he2, hL, InR, List.map_nil, Int.cast_ofNat_Int, Int.natCast_one, Int.natCast_zero, Int.reduceAdd, Int.reduceSub, Int.reduceMul, Int.reduceLT, Int.reduceLE, Int.reduceTMod, Int.reduceTDiv, Int.reduceNeg, Int.reduceEq, Nat.reducePow, Int.reducePow, ne_eq, not_false_eq_true, Ent.of0, Ent.of1, Ent.of2, Ent.of3, V, runS, goalM, mdCal, calF, opF, evC, gt, lk, setA, delA, putS, put1, subT, subC, subC.subCs, drC, exitK, keepT, memN, cellsC, cellB, dataB, splice, fillC, fillE, datafy, subCh, delAll, extF, mxL, mxI, eqCells, cArith, binF, binI, binS, idx, bnd, cellAt, elemsOf, lenC, isOwn, zC, argS, RetOk, resL, rvC, fzS, rowKeys, minusN, fzList, subChs, tupC, leC, leCs, leC1, forQ, leS, leT', keysNd, keysOf, lkE, ownKeys, rowS, viewC, viewC.viewCs, flatC, flatC.flatCs, LensOk, LensOk.LensOks, Value.oneCell', ↓reduceIte, ite_true, ite_false, if_true, if_false, Nat.reduceAdd, Nat.reduceSub, Nat.reduceMul, Nat.reduceEqDiff, Nat.reduceLT, Nat.reduceLeDiff, reduceCtorEq, Int.reduceToNat, forall_const, implies_true, calFa, Ent.mk3, calF0, calF1, calF2, calF3, calFj, calFk, calF4, calF5, callP, callQ, callR, calK, keepQ, lkK, rn, renC, renC.renCs, renCh1, renChs, viewOk, viewOk.viewOks, lendOk, flatB, flatB.flatBs, flatCh, flatChs, backOk, subsetN, apartN, keysB, keysB.keysBs, keysBl, keysBch, getCh, canM, swapM, newM, passKeys, passKeys.passKs, cellKs, deepKs, lendKeys, lendKeys.lendKs, addN, fnOf, innV, innOf, setInn, holeInn, chD, ldC, notIsl, deepS, retQ, delN, fallen, callCh, Glob.gl, LensCh, updT, updCh, updS, loopQ, kindsOk, bigK, shM, renT, shS, fixT, ptrOnly, ptrOnly.ptrOnlys, boxesIn, onlyBx, bxOk, jumpTo, setPs, yOuts, yOut, RetOks, unisl, fzbS, Nat.reduceBEq, undef]
      omega
  · have he2 : ¬ (ls.length : Int) = ((m.getD 0 []).length : Int) := by omega
    have hE : prodE m ls 100000000 = 13 := by unfold prodE; rw [if_pos he]
    rw [hE]
    delta c52
    simp (maxSteps := 4000000) -implicitDefEqProofs only [rv52, getD_list, ha0, he2, InR, List.map_nil, Int.cast_ofNat_Int, Int.natCast_one, Int.natCast_zero, Int.reduceAdd, Int.reduceSub, Int.reduceMul, Int.reduceLT, Int.reduceLE, Int.reduceTMod, Int.reduceTDiv, Int.reduceNeg, Int.reduceEq, Nat.reducePow, Int.reducePow, ne_eq, not_false_eq_true, Ent.of0, Ent.of1, Ent.of2, Ent.of3, V, runS, goalM, mdCal, calF, opF, evC, gt, lk, setA, delA, putS, put1, subT, subC, subC.subCs, drC, exitK, keepT, memN, cellsC, cellB, dataB, splice, fillC, fillE, datafy, subCh, delAll, extF, mxL, mxI, eqCells, cArith, binF, binI, binS, idx, bnd, cellAt, elemsOf, lenC, isOwn, zC, argS, RetOk, resL, rvC, fzS, rowKeys, minusN, fzList, subChs, tupC, leC, leCs, leC1, forQ, leS, leT', keysNd, keysOf, lkE, ownKeys, rowS, viewC, viewC.viewCs, flatC, flatC.flatCs, LensOk, LensOk.LensOks, Value.oneCell', ↓reduceIte, ite_true, ite_false, if_true, if_false, Nat.reduceAdd, Nat.reduceSub, Nat.reduceMul, Nat.reduceEqDiff, Nat.reduceLT, Nat.reduceLeDiff, reduceCtorEq, Int.reduceToNat, forall_const, implies_true, calFa, Ent.mk3, calF0, calF1, calF2, calF3, calFj, calFk, calF4, calF5, callP, callQ, callR, calK, keepQ, lkK, rn, renC, renC.renCs, renCh1, renChs, viewOk, viewOk.viewOks, lendOk, flatB, flatB.flatBs, flatCh, flatChs, backOk, subsetN, apartN, keysB, keysB.keysBs, keysBl, keysBch, getCh, canM, swapM, newM, passKeys, passKeys.passKs, cellKs, deepKs, lendKeys, lendKeys.lendKs, addN, fnOf, innV, innOf, setInn, holeInn, chD, ldC, notIsl, deepS, retQ, delN, fallen, callCh, Glob.gl, LensCh, updT, updCh, updS, loopQ, kindsOk, bigK, shM, renT, shS, fixT, ptrOnly, ptrOnly.ptrOnlys, boxesIn, onlyBx, bxOk, jumpTo, setPs, yOuts, yOut, RetOks, unisl, fzbS, Nat.reduceBEq, undef]
    omega
def e52 : Ent Try.prog := .of2 52 ProdOk (fun m ls : List (List Gs) => .tup [enc (if prodE m ls 100000000 = 0 then applS m ls else []), enc (prodE m ls 100000000)]) (fun _ _ => ⟨trivial, trivial, trivial⟩) (fun m ls h => RApplied_c m ls h)
theorem RProduct_c (m ls : List (List Gs)) (hp : ProdOk m ls) : FC Try.prog 53 [enc m, enc ls] [] (.tup [enc (if prodE m ls 1000 = 0 then applS m ls else []), enc (prodE m ls 1000)]) [] := by
  refine fc_intro' is53 (by simp) (fun cx hl => S_run [e92, e94] 800 ?_)
  have ha0 := hp.apos
  by_cases he : (m.getD 0 []).length = ls.length
  · have he2 : ((m.getD 0 []).length : Int) = (ls.length : Int) := by omega
    have hf : ∃ A B, Fits m ls A B := ⟨_, _, hp.fits he⟩
    have hE : prodE m ls 1000 = if largeS (applS m ls) 1000 then 8 else 0 := by unfold prodE; rw [if_neg (by simpa using he)]
    rw [hE]
    cases hL : largeS (applS m ls) 1000 with
    | true =>
      delta c53
      simp (maxSteps := 4000000) -implicitDefEqProofs only [rv53, getD_list, ha0, e92, e94, hf, he2, hL, InR, List.map_nil, Int.cast_ofNat_Int, Int.natCast_one, Int.natCast_zero, Int.reduceAdd, Int.reduceSub, Int.reduceMul, Int.reduceLT, Int.reduceLE, Int.reduceTMod, Int.reduceTDiv, Int.reduceNeg, Int.reduceEq, Nat.reducePow, Int.reducePow, ne_eq, not_false_eq_true, Ent.of0, Ent.of1, Ent.of2, Ent.of3, V, runS, goalM, mdCal, calF, opF, evC, gt, lk, setA, delA, putS, put1, subT, subC, subC.subCs, drC, exitK, keepT, memN, cellsC, cellB, dataB, splice, fillC, fillE, datafy, subCh, delAll, extF, mxL, mxI, eqCells, cArith, binF, binI, binS, idx, bnd, cellAt, elemsOf, lenC, isOwn, zC, argS, RetOk, resL, rvC, fzS, rowKeys, minusN, fzList, subChs, tupC, leC, leCs, leC1, forQ, leS, leT', keysNd, keysOf, lkE, ownKeys, rowS, viewC, viewC.viewCs, flatC, flatC.flatCs, LensOk, LensOk.LensOks, Value.oneCell', ↓reduceIte, ite_true, ite_false, if_true, if_false, Nat.reduceAdd, Nat.reduceSub, Nat.reduceMul, Nat.reduceEqDiff, Nat.reduceLT, Nat.reduceLeDiff, reduceCtorEq, Int.reduceToNat, forall_const, implies_true, calFa, Ent.mk3, calF0, calF1, calF2, calF3, calFj, calFk, calF4, calF5, callP, callQ, callR, calK, keepQ, lkK, rn, renC, renC.renCs, renCh1, renChs, viewOk, viewOk.viewOks, lendOk, flatB, flatB.flatBs, flatCh, flatChs, backOk, subsetN, apartN, keysB, keysB.keysBs, keysBl, keysBch, getCh, canM, swapM, newM, passKeys, passKeys.passKs, cellKs, deepKs, lendKeys, lendKeys.lendKs, addN, fnOf, innV, innOf, setInn, holeInn, chD, ldC, notIsl, deepS, retQ, delN, fallen, callCh, Glob.gl, LensCh, updT, updCh, updS, loopQ, kindsOk, bigK, shM, renT, shS, fixT, ptrOnly, ptrOnly.ptrOnlys, boxesIn, onlyBx, bxOk, jumpTo, setPs, yOuts, yOut, RetOks, unisl, fzbS, Nat.reduceBEq, undef]
      omega
    | false =>
      delta c53
      simp (maxSteps := 4000000) -implicitDefEqProofs only [rv53, getD_list, ha0, e92, e94, hf, he2, hL, InR, List.map_nil, Int.cast_ofNat_Int, Int.natCast_one, Int.natCast_zero, Int.reduceAdd, Int.reduceSub, Int.reduceMul, Int.reduceLT, Int.reduceLE, Int.reduceTMod, Int.reduceTDiv, Int.reduceNeg, Int.reduceEq, Nat.reducePow, Int.reducePow, ne_eq, not_false_eq_true, Ent.of0, Ent.of1, Ent.of2, Ent.of3, V, runS, goalM, mdCal, calF, opF, evC, gt, lk, setA, delA, putS, put1, subT, subC, subC.subCs, drC, exitK, keepT, memN, cellsC, cellB, dataB, splice, fillC, fillE, datafy, subCh, delAll, extF, mxL, mxI, eqCells, cArith, binF, binI, binS, idx, bnd, cellAt, elemsOf, lenC, isOwn, zC, argS, RetOk, resL, rvC, fzS, rowKeys, minusN, fzList, subChs, tupC, leC, leCs, leC1, forQ, leS, leT', keysNd, keysOf, lkE, ownKeys, rowS, viewC, viewC.viewCs, flatC, flatC.flatCs, LensOk, LensOk.LensOks, Value.oneCell', ↓reduceIte, ite_true, ite_false, if_true, if_false, Nat.reduceAdd, Nat.reduceSub, Nat.reduceMul, Nat.reduceEqDiff, Nat.reduceLT, Nat.reduceLeDiff, reduceCtorEq, Int.reduceToNat, forall_const, implies_true, calFa, Ent.mk3, calF0, calF1, calF2, calF3, calFj, calFk, calF4, calF5, callP, callQ, callR, calK, keepQ, lkK, rn, renC, renC.renCs, renCh1, renChs, viewOk, viewOk.viewOks, lendOk, flatB, flatB.flatBs, flatCh, flatChs, backOk, subsetN, apartN, keysB, keysB.keysBs, keysBl, keysBch, getCh, canM, swapM, newM, passKeys, passKeys.passKs, cellKs, deepKs, lendKeys, lendKeys.lendKs, addN, fnOf, innV, innOf, setInn, holeInn, chD, ldC, notIsl, deepS, retQ, delN, fallen, callCh, Glob.gl, LensCh, updT, updCh, updS, loopQ, kindsOk, bigK, shM, renT, shS, fixT, ptrOnly, ptrOnly.ptrOnlys, boxesIn, onlyBx, bxOk, jumpTo, setPs, yOuts, yOut, RetOks, unisl, fzbS, Nat.reduceBEq, undef]
      omega
  · have he2 : ¬ ((m.getD 0 []).length : Int) = (ls.length : Int) := by omega
    have hE : prodE m ls 1000 = 13 := by unfold prodE; rw [if_pos he]
    rw [hE]
    delta c53
    simp (maxSteps := 4000000) -implicitDefEqProofs only [rv53, getD_list, ha0, he2, InR, List.map_nil, Int.cast_ofNat_Int, Int.natCast_one, Int.natCast_zero, Int.reduceAdd, Int.reduceSub, Int.reduceMul, Int.reduceLT, Int.reduceLE, Int.reduceTMod, Int.reduceTDiv, Int.reduceNeg, Int.reduceEq, Nat.reducePow, Int.reducePow, ne_eq, not_false_eq_true, Ent.of0, Ent.of1, Ent.of2, Ent.of3, V, runS, goalM, mdCal, calF, opF, evC, gt, lk, setA, delA, putS, put1, subT, subC, subC.subCs, drC, exitK, keepT, memN, cellsC, cellB, dataB, splice, fillC, fillE, datafy, subCh, delAll, extF, mxL, mxI, eqCells, cArith, binF, binI, binS, idx, bnd, cellAt, elemsOf, lenC, isOwn, zC, argS, RetOk, resL, rvC, fzS, rowKeys, minusN, fzList, subChs, tupC, leC, leCs, leC1, forQ, leS, leT', keysNd, keysOf, lkE, ownKeys, rowS, viewC, viewC.viewCs, flatC, flatC.flatCs, LensOk, LensOk.LensOks, Value.oneCell', ↓reduceIte, ite_true, ite_false, if_true, if_false, Nat.reduceAdd, Nat.reduceSub, Nat.reduceMul, Nat.reduceEqDiff, Nat.reduceLT, Nat.reduceLeDiff, reduceCtorEq, Int.reduceToNat, forall_const, implies_true, calFa, Ent.mk3, calF0, calF1, calF2, calF3, calFj, calFk, calF4, calF5, callP, callQ, callR, calK, keepQ, lkK, rn, renC, renC.renCs, renCh1, renChs, viewOk, viewOk.viewOks, lendOk, flatB, flatB.flatBs, flatCh, flatChs, backOk, subsetN, apartN, keysB, keysB.keysBs, keysBl, keysBch, getCh, canM, swapM, newM, passKeys, passKeys.passKs, cellKs, deepKs, lendKeys, lendKeys.lendKs, addN, fnOf, innV, innOf, setInn, holeInn, chD, ldC, notIsl, deepS, retQ, delN, fallen, callCh, Glob.gl, LensCh, updT, updCh, updS, loopQ, kindsOk, bigK, shM, renT, shS, fixT, ptrOnly, ptrOnly.ptrOnlys, boxesIn, onlyBx, bxOk, jumpTo, setPs, yOuts, yOut, RetOks, unisl, fzbS, Nat.reduceBEq, undef]
    omega
def e53 : Ent Try.prog := .of2 53 ProdOk (fun m ls : List (List Gs) => .tup [enc (if prodE m ls 1000 = 0 then applS m ls else []), enc (prodE m ls 1000)]) (fun _ _ => ⟨trivial, trivial, trivial⟩) (fun m ls h => RProduct_c m ls h)
end Go.Proofs.Ytfgpbmjmoobcnaa
end
section
open Go Go.Am
open Go.Am.Dat (cells)
namespace Go.Proofs.Ytfgpbmjmoobcnaa
set_option maxHeartbeats 4000000
set_option maxRecDepth 100000
set_option linter.unusedSimpArgs false
theorem small_bounded {m : List (List Gs)} (h : smallL m = true) : bounded m := by
  unfold smallL at h
  simp only [Bool.and_eq_true, decide_eq_true_eq, List.all_eq_true] at h
  exact ⟨by omega, fun r hr => by have := h.2 r hr; omega⟩
theorem symDet_ok {a : List (List Gs)} (h : matErr a = 0) : symDetE a = detE a ∧ symDetS a = detS a := by
  unfold symDetE symDetS
  rw [if_neg (by simpa using h), if_neg (by simpa using h)]; exact ⟨rfl, rfl⟩
theorem symDet_bad {a : List (List Gs)} (h : ¬ matErr a = 0) : symDetE a = matErr a ∧ symDetS a = ⟨0, 0⟩ := by
  unfold symDetE symDetS
  rw [if_pos h, if_pos h]; exact ⟨rfl, rfl⟩
theorem SymbolMatrices_c (a b l : List (List Gs)) : FC Try.prog 8 [enc a, enc b, enc l] [] (enc true) [] := by
  refine fc_intro' is8 (by simp) (fun cx hl => S_run [e15, e16, e18, e46, e47, e48, e49, e19, e50, e51, e52, e53, e21] 800 ?_)
  by_cases hs : smallL a = true ∧ smallL b = true ∧ smallL l = true
  · obtain ⟨s1, s2, s3⟩ := hs
    have b1 := small_bounded s1
    have b2 := small_bounded s2
    have b3 := small_bounded s3
    by_cases ha : matErr a = 0
    · obtain ⟨d1, d2⟩ := symDet_ok ha
      have hr := right_of ha
      by_cases hll : layErr l = 0
      · have p1 := prodOk_lay ha hll
        have x1 : apErr a l = prodE a l 100000000 := by unfold apErr; rw [if_neg (by simpa using ha), if_neg (by simpa using hll)]
        have x2 : apOut a l = if prodE a l 100000000 = 0 then applS a l else [] := by unfold apOut; rw [x1]
        by_cases hb : matErr b = 0
        · have p2 := prodOk_mat ha hb
          have y1 : prErr a b = prodE a b 1000 := by unfold prErr; rw [if_neg (by simpa using ha), if_neg (by simpa using hb)]
          have y2 : prOut a b = if prodE a b 1000 = 0 then applS a b else [] := by unfold prOut; rw [y1]
          delta c8
          simp (maxSteps := 4000000) -implicitDefEqProofs only [rv8, e15, e16, e18, e46, e47, e48, e49, e19, e50, e51, e52, e53, e21, s1, s2, s3, b1, b2, b3, ha, hll, hb, d1, d2, hr, p1, p2, x1, x2, y1, y2, Int.cast_ofNat_Int, Int.natCast_one, Int.natCast_zero, Int.reduceAdd, Int.reduceSub, Int.reduceMul, Int.reduceLT, Int.reduceLE, Int.reduceTMod, Int.reduceTDiv, Int.reduceNeg, Int.reduceEq, Nat.reducePow, Int.reducePow, ne_eq, not_false_eq_true, Ent.of0, Ent.of1, Ent.of2, Ent.of3, V, runS, goalM, mdCal, calF, opF, evC, gt, lk, setA, delA, putS, put1, subT, subC, subC.subCs, drC, exitK, keepT, memN, cellsC, cellB, dataB, splice, fillC, fillE, datafy, subCh, delAll, extF, mxL, mxI, eqCells, cArith, binF, binI, binS, idx, bnd, cellAt, elemsOf, lenC, isOwn, zC, argS, RetOk, resL, rvC, fzS, rowKeys, minusN, fzList, subChs, tupC, leC, leCs, leC1, forQ, leS, leT', keysNd, keysOf, lkE, ownKeys, rowS, viewC, viewC.viewCs, flatC, flatC.flatCs, LensOk, LensOk.LensOks, Value.oneCell', ↓reduceIte, ite_true, ite_false, if_true, if_false, Nat.reduceAdd, Nat.reduceSub, Nat.reduceMul, Nat.reduceEqDiff, Nat.reduceLT, Nat.reduceLeDiff, reduceCtorEq, Int.reduceToNat, forall_const, implies_true, calFa, Ent.mk3, calF0, calF1, calF2, calF3, calFj, calFk, calF4, calF5, callP, callQ, callR, calK, keepQ, lkK, rn, renC, renC.renCs, renCh1, renChs, viewOk, viewOk.viewOks, lendOk, flatB, flatB.flatBs, flatCh, flatChs, backOk, subsetN, apartN, keysB, keysB.keysBs, keysBl, keysBch, getCh, canM, swapM, newM, passKeys, passKeys.passKs, cellKs, deepKs, lendKeys, lendKeys.lendKs, addN, fnOf, innV, innOf, setInn, holeInn, chD, ldC, notIsl, deepS, retQ, delN, fallen, callCh, Glob.gl, LensCh, updT, updCh, updS, loopQ, kindsOk, bigK, shM, renT, shS, fixT, ptrOnly, ptrOnly.ptrOnlys, boxesIn, onlyBx, bxOk, jumpTo, setPs, yOuts, yOut, RetOks, unisl, fzbS, Nat.reduceBEq, undef]
        · have y1 : prErr a b = matErr b := by unfold prErr; rw [if_neg (by simpa using ha), if_pos hb]
          have y2 : prOut a b = [] := by unfold prOut; rw [y1, if_neg hb]
          delta c8
          simp (maxSteps := 4000000) -implicitDefEqProofs only [rv8, e15, e16, e18, e46, e47, e48, e49, e19, e50, e51, e52, e53, e21, s1, s2, s3, b1, b2, b3, ha, hll, hb, d1, d2, hr, p1, x1, x2, y1, y2, Int.cast_ofNat_Int, Int.natCast_one, Int.natCast_zero, Int.reduceAdd, Int.reduceSub, Int.reduceMul, Int.reduceLT, Int.reduceLE, Int.reduceTMod, Int.reduceTDiv, Int.reduceNeg, Int.reduceEq, Nat.reducePow, Int.reducePow, ne_eq, not_false_eq_true, Ent.of0, Ent.of1, Ent.of2, Ent.of3, V, runS, goalM, mdCal, calF, opF, evC, gt, lk, setA, delA, putS, put1, subT, subC, subC.subCs, drC, exitK, keepT, memN, cellsC, cellB, dataB, splice, fillC, fillE, datafy, subCh, delAll, extF, mxL, mxI, eqCells, cArith, binF, binI, binS, idx, bnd, cellAt, elemsOf, lenC, isOwn, zC, argS, RetOk, resL, rvC, fzS, rowKeys, minusN, fzList, subChs, tupC, leC, leCs, leC1, forQ, leS, leT', keysNd, keysOf, lkE, ownKeys, rowS, viewC, viewC.viewCs, flatC, flatC.flatCs, LensOk, LensOk.LensOks, Value.oneCell', ↓reduceIte, ite_true, ite_false, if_true, if_false, Nat.reduceAdd, Nat.reduceSub, Nat.reduceMul, Nat.reduceEqDiff, Nat.reduceLT, Nat.reduceLeDiff, reduceCtorEq, Int.reduceToNat, forall_const, implies_true, calFa, Ent.mk3, calF0, calF1, calF2, calF3, calFj, calFk, calF4, calF5, callP, callQ, callR, calK, keepQ, lkK, rn, renC, renC.renCs, renCh1, renChs, viewOk, viewOk.viewOks, lendOk, flatB, flatB.flatBs, flatCh, flatChs, backOk, subsetN, apartN, keysB, keysB.keysBs, keysBl, keysBch, getCh, canM, swapM, newM, passKeys, passKeys.passKs, cellKs, deepKs, lendKeys, lendKeys.lendKs, addN, fnOf, innV, innOf, setInn, holeInn, chD, ldC, notIsl, deepS, retQ, delN, fallen, callCh, Glob.gl, LensCh, updT, updCh, updS, loopQ, kindsOk, bigK, shM, renT, shS, fixT, ptrOnly, ptrOnly.ptrOnlys, boxesIn, onlyBx, bxOk, jumpTo, setPs, yOuts, yOut, RetOks, unisl, fzbS, Nat.reduceBEq, undef]
      · have x1 : apErr a l = layErr l := by unfold apErr; rw [if_neg (by simpa using ha), if_pos hll]
        have x2 : apOut a l = [] := by unfold apOut; rw [x1, if_neg hll]
        by_cases hb : matErr b = 0
        · have p2 := prodOk_mat ha hb
          have y1 : prErr a b = prodE a b 1000 := by unfold prErr; rw [if_neg (by simpa using ha), if_neg (by simpa using hb)]
          have y2 : prOut a b = if prodE a b 1000 = 0 then applS a b else [] := by unfold prOut; rw [y1]
          delta c8
          simp (maxSteps := 4000000) -implicitDefEqProofs only [rv8, e15, e16, e18, e46, e47, e48, e49, e19, e50, e51, e52, e53, e21, s1, s2, s3, b1, b2, b3, ha, hll, hb, d1, d2, hr, p2, x1, x2, y1, y2, Int.cast_ofNat_Int, Int.natCast_one, Int.natCast_zero, Int.reduceAdd, Int.reduceSub, Int.reduceMul, Int.reduceLT, Int.reduceLE, Int.reduceTMod, Int.reduceTDiv, Int.reduceNeg, Int.reduceEq, Nat.reducePow, Int.reducePow, ne_eq, not_false_eq_true, Ent.of0, Ent.of1, Ent.of2, Ent.of3, V, runS, goalM, mdCal, calF, opF, evC, gt, lk, setA, delA, putS, put1, subT, subC, subC.subCs, drC, exitK, keepT, memN, cellsC, cellB, dataB, splice, fillC, fillE, datafy, subCh, delAll, extF, mxL, mxI, eqCells, cArith, binF, binI, binS, idx, bnd, cellAt, elemsOf, lenC, isOwn, zC, argS, RetOk, resL, rvC, fzS, rowKeys, minusN, fzList, subChs, tupC, leC, leCs, leC1, forQ, leS, leT', keysNd, keysOf, lkE, ownKeys, rowS, viewC, viewC.viewCs, flatC, flatC.flatCs, LensOk, LensOk.LensOks, Value.oneCell', ↓reduceIte, ite_true, ite_false, if_true, if_false, Nat.reduceAdd, Nat.reduceSub, Nat.reduceMul, Nat.reduceEqDiff, Nat.reduceLT, Nat.reduceLeDiff, reduceCtorEq, Int.reduceToNat, forall_const, implies_true, calFa, Ent.mk3, calF0, calF1, calF2, calF3, calFj, calFk, calF4, calF5, callP, callQ, callR, calK, keepQ, lkK, rn, renC, renC.renCs, renCh1, renChs, viewOk, viewOk.viewOks, lendOk, flatB, flatB.flatBs, flatCh, flatChs, backOk, subsetN, apartN, keysB, keysB.keysBs, keysBl, keysBch, getCh, canM, swapM, newM, passKeys, passKeys.passKs, cellKs, deepKs, lendKeys, lendKeys.lendKs, addN, fnOf, innV, innOf, setInn, holeInn, chD, ldC, notIsl, deepS, retQ, delN, fallen, callCh, Glob.gl, LensCh, updT, updCh, updS, loopQ, kindsOk, bigK, shM, renT, shS, fixT, ptrOnly, ptrOnly.ptrOnlys, boxesIn, onlyBx, bxOk, jumpTo, setPs, yOuts, yOut, RetOks, unisl, fzbS, Nat.reduceBEq, undef]
        · have y1 : prErr a b = matErr b := by unfold prErr; rw [if_neg (by simpa using ha), if_pos hb]
          have y2 : prOut a b = [] := by unfold prOut; rw [y1, if_neg hb]
          delta c8
          simp (maxSteps := 4000000) -implicitDefEqProofs only [rv8, e15, e16, e18, e46, e47, e48, e49, e19, e50, e51, e52, e53, e21, s1, s2, s3, b1, b2, b3, ha, hll, hb, d1, d2, hr, x1, x2, y1, y2, Int.cast_ofNat_Int, Int.natCast_one, Int.natCast_zero, Int.reduceAdd, Int.reduceSub, Int.reduceMul, Int.reduceLT, Int.reduceLE, Int.reduceTMod, Int.reduceTDiv, Int.reduceNeg, Int.reduceEq, Nat.reducePow, Int.reducePow, ne_eq, not_false_eq_true, Ent.of0, Ent.of1, Ent.of2, Ent.of3, V, runS, goalM, mdCal, calF, opF, evC, gt, lk, setA, delA, putS, put1, subT, subC, subC.subCs, drC, exitK, keepT, memN, cellsC, cellB, dataB, splice, fillC, fillE, datafy, subCh, delAll, extF, mxL, mxI, eqCells, cArith, binF, binI, binS, idx, bnd, cellAt, elemsOf, lenC, isOwn, zC, argS, RetOk, resL, rvC, fzS, rowKeys, minusN, fzList, subChs, tupC, leC, leCs, leC1, forQ, leS, leT', keysNd, keysOf, lkE, ownKeys, rowS, viewC, viewC.viewCs, flatC, flatC.flatCs, LensOk, LensOk.LensOks, Value.oneCell', ↓reduceIte, ite_true, ite_false, if_true, if_false, Nat.reduceAdd, Nat.reduceSub, Nat.reduceMul, Nat.reduceEqDiff, Nat.reduceLT, Nat.reduceLeDiff, reduceCtorEq, Int.reduceToNat, forall_const, implies_true, calFa, Ent.mk3, calF0, calF1, calF2, calF3, calFj, calFk, calF4, calF5, callP, callQ, callR, calK, keepQ, lkK, rn, renC, renC.renCs, renCh1, renChs, viewOk, viewOk.viewOks, lendOk, flatB, flatB.flatBs, flatCh, flatChs, backOk, subsetN, apartN, keysB, keysB.keysBs, keysBl, keysBch, getCh, canM, swapM, newM, passKeys, passKeys.passKs, cellKs, deepKs, lendKeys, lendKeys.lendKs, addN, fnOf, innV, innOf, setInn, holeInn, chD, ldC, notIsl, deepS, retQ, delN, fallen, callCh, Glob.gl, LensCh, updT, updCh, updS, loopQ, kindsOk, bigK, shM, renT, shS, fixT, ptrOnly, ptrOnly.ptrOnlys, boxesIn, onlyBx, bxOk, jumpTo, setPs, yOuts, yOut, RetOks, unisl, fzbS, Nat.reduceBEq, undef]
    · obtain ⟨d1, d2⟩ := symDet_bad ha
      have x1 : apErr a l = matErr a := by unfold apErr; rw [if_pos ha]
      have x2 : apOut a l = [] := by unfold apOut; rw [x1, if_neg ha]
      have y1 : prErr a b = matErr a := by unfold prErr; rw [if_pos ha]
      have y2 : prOut a b = [] := by unfold prOut; rw [y1, if_neg ha]
      delta c8
      simp (maxSteps := 4000000) -implicitDefEqProofs only [rv8, e15, e16, e18, e46, e47, e48, e49, e19, e50, e51, e52, e53, e21, s1, s2, s3, b1, b2, b3, ha, d1, d2, x1, x2, y1, y2, InR, Int.cast_ofNat_Int, Int.natCast_one, Int.natCast_zero, Int.reduceAdd, Int.reduceSub, Int.reduceMul, Int.reduceLT, Int.reduceLE, Int.reduceTMod, Int.reduceTDiv, Int.reduceNeg, Int.reduceEq, Nat.reducePow, Int.reducePow, ne_eq, not_false_eq_true, Ent.of0, Ent.of1, Ent.of2, Ent.of3, V, runS, goalM, mdCal, calF, opF, evC, gt, lk, setA, delA, putS, put1, subT, subC, subC.subCs, drC, exitK, keepT, memN, cellsC, cellB, dataB, splice, fillC, fillE, datafy, subCh, delAll, extF, mxL, mxI, eqCells, cArith, binF, binI, binS, idx, bnd, cellAt, elemsOf, lenC, isOwn, zC, argS, RetOk, resL, rvC, fzS, rowKeys, minusN, fzList, subChs, tupC, leC, leCs, leC1, forQ, leS, leT', keysNd, keysOf, lkE, ownKeys, rowS, viewC, viewC.viewCs, flatC, flatC.flatCs, LensOk, LensOk.LensOks, Value.oneCell', ↓reduceIte, ite_true, ite_false, if_true, if_false, Nat.reduceAdd, Nat.reduceSub, Nat.reduceMul, Nat.reduceEqDiff, Nat.reduceLT, Nat.reduceLeDiff, reduceCtorEq, Int.reduceToNat, forall_const, implies_true, calFa, Ent.mk3, calF0, calF1, calF2, calF3, calFj, calFk, calF4, calF5, callP, callQ, callR, calK, keepQ, lkK, rn, renC, renC.renCs, renCh1, renChs, viewOk, viewOk.viewOks, lendOk, flatB, flatB.flatBs, flatCh, flatChs, backOk, subsetN, apartN, keysB, keysB.keysBs, keysBl, keysBch, getCh, canM, swapM, newM, passKeys, passKeys.passKs, cellKs, deepKs, lendKeys, lendKeys.lendKs, addN, fnOf, innV, innOf, setInn, holeInn, chD, ldC, notIsl, deepS, retQ, delN, fallen, callCh, Glob.gl, LensCh, updT, updCh, updS, loopQ, kindsOk, bigK, shM, renT, shS, fixT, ptrOnly, ptrOnly.ptrOnlys, boxesIn, onlyBx, bxOk, jumpTo, setPs, yOuts, yOut, RetOks, unisl, fzbS, Nat.reduceBEq, undef]
  · cases s1 : smallL a with
    | false =>
      delta c8
      simp (maxSteps := 4000000) -implicitDefEqProofs only [rv8, e15, e16, s1, Int.cast_ofNat_Int, Int.natCast_one, Int.natCast_zero, Int.reduceAdd, Int.reduceSub, Int.reduceMul, Int.reduceLT, Int.reduceLE, Int.reduceTMod, Int.reduceTDiv, Int.reduceNeg, Int.reduceEq, Nat.reducePow, Int.reducePow, ne_eq, not_false_eq_true, Ent.of0, Ent.of1, Ent.of2, Ent.of3, V, runS, goalM, mdCal, calF, opF, evC, gt, lk, setA, delA, putS, put1, subT, subC, subC.subCs, drC, exitK, keepT, memN, cellsC, cellB, dataB, splice, fillC, fillE, datafy, subCh, delAll, extF, mxL, mxI, eqCells, cArith, binF, binI, binS, idx, bnd, cellAt, elemsOf, lenC, isOwn, zC, argS, RetOk, resL, rvC, fzS, rowKeys, minusN, fzList, subChs, tupC, leC, leCs, leC1, forQ, leS, leT', keysNd, keysOf, lkE, ownKeys, rowS, viewC, viewC.viewCs, flatC, flatC.flatCs, LensOk, LensOk.LensOks, Value.oneCell', ↓reduceIte, ite_true, ite_false, if_true, if_false, Nat.reduceAdd, Nat.reduceSub, Nat.reduceMul, Nat.reduceEqDiff, Nat.reduceLT, Nat.reduceLeDiff, reduceCtorEq, Int.reduceToNat, forall_const, implies_true, calFa, Ent.mk3, calF0, calF1, calF2, calF3, calFj, calFk, calF4, calF5, callP, callQ, callR, calK, keepQ, lkK, rn, renC, renC.renCs, renCh1, renChs, viewOk, viewOk.viewOks, lendOk, flatB, flatB.flatBs, flatCh, flatChs, backOk, subsetN, apartN, keysB, keysB.keysBs, keysBl, keysBch, getCh, canM, swapM, newM, passKeys, passKeys.passKs, cellKs, deepKs, lendKeys, lendKeys.lendKs, addN, fnOf, innV, innOf, setInn, holeInn, chD, ldC, notIsl, deepS, retQ, delN, fallen, callCh, Glob.gl, LensCh, updT, updCh, updS, loopQ, kindsOk, bigK, shM, renT, shS, fixT, ptrOnly, ptrOnly.ptrOnlys, boxesIn, onlyBx, bxOk, jumpTo, setPs, yOuts, yOut, RetOks, unisl, fzbS, Nat.reduceBEq, undef]
    | true =>
      cases s2 : smallL b with
      | false =>
        delta c8
        simp (maxSteps := 4000000) -implicitDefEqProofs only [rv8, e15, e16, s1, s2, Int.cast_ofNat_Int, Int.natCast_one, Int.natCast_zero, Int.reduceAdd, Int.reduceSub, Int.reduceMul, Int.reduceLT, Int.reduceLE, Int.reduceTMod, Int.reduceTDiv, Int.reduceNeg, Int.reduceEq, Nat.reducePow, Int.reducePow, ne_eq, not_false_eq_true, Ent.of0, Ent.of1, Ent.of2, Ent.of3, V, runS, goalM, mdCal, calF, opF, evC, gt, lk, setA, delA, putS, put1, subT, subC, subC.subCs, drC, exitK, keepT, memN, cellsC, cellB, dataB, splice, fillC, fillE, datafy, subCh, delAll, extF, mxL, mxI, eqCells, cArith, binF, binI, binS, idx, bnd, cellAt, elemsOf, lenC, isOwn, zC, argS, RetOk, resL, rvC, fzS, rowKeys, minusN, fzList, subChs, tupC, leC, leCs, leC1, forQ, leS, leT', keysNd, keysOf, lkE, ownKeys, rowS, viewC, viewC.viewCs, flatC, flatC.flatCs, LensOk, LensOk.LensOks, Value.oneCell', ↓reduceIte, ite_true, ite_false, if_true, if_false, Nat.reduceAdd, Nat.reduceSub, Nat.reduceMul, Nat.reduceEqDiff, Nat.reduceLT, Nat.reduceLeDiff, reduceCtorEq, Int.reduceToNat, forall_const, implies_true, calFa, Ent.mk3, calF0, calF1, calF2, calF3, calFj, calFk, calF4, calF5, callP, callQ, callR, calK, keepQ, lkK, rn, renC, renC.renCs, renCh1, renChs, viewOk, viewOk.viewOks, lendOk, flatB, flatB.flatBs, flatCh, flatChs, backOk, subsetN, apartN, keysB, keysB.keysBs, keysBl, keysBch, getCh, canM, swapM, newM, passKeys, passKeys.passKs, cellKs, deepKs, lendKeys, lendKeys.lendKs, addN, fnOf, innV, innOf, setInn, holeInn, chD, ldC, notIsl, deepS, retQ, delN, fallen, callCh, Glob.gl, LensCh, updT, updCh, updS, loopQ, kindsOk, bigK, shM, renT, shS, fixT, ptrOnly, ptrOnly.ptrOnlys, boxesIn, onlyBx, bxOk, jumpTo, setPs, yOuts, yOut, RetOks, unisl, fzbS, Nat.reduceBEq, undef]
      | true =>
        cases s3 : smallL l with
        | false =>
          delta c8
          simp (maxSteps := 4000000) -implicitDefEqProofs only [rv8, e15, e16, s1, s2, s3, Int.cast_ofNat_Int, Int.natCast_one, Int.natCast_zero, Int.reduceAdd, Int.reduceSub, Int.reduceMul, Int.reduceLT, Int.reduceLE, Int.reduceTMod, Int.reduceTDiv, Int.reduceNeg, Int.reduceEq, Nat.reducePow, Int.reducePow, ne_eq, not_false_eq_true, Ent.of0, Ent.of1, Ent.of2, Ent.of3, V, runS, goalM, mdCal, calF, opF, evC, gt, lk, setA, delA, putS, put1, subT, subC, subC.subCs, drC, exitK, keepT, memN, cellsC, cellB, dataB, splice, fillC, fillE, datafy, subCh, delAll, extF, mxL, mxI, eqCells, cArith, binF, binI, binS, idx, bnd, cellAt, elemsOf, lenC, isOwn, zC, argS, RetOk, resL, rvC, fzS, rowKeys, minusN, fzList, subChs, tupC, leC, leCs, leC1, forQ, leS, leT', keysNd, keysOf, lkE, ownKeys, rowS, viewC, viewC.viewCs, flatC, flatC.flatCs, LensOk, LensOk.LensOks, Value.oneCell', ↓reduceIte, ite_true, ite_false, if_true, if_false, Nat.reduceAdd, Nat.reduceSub, Nat.reduceMul, Nat.reduceEqDiff, Nat.reduceLT, Nat.reduceLeDiff, reduceCtorEq, Int.reduceToNat, forall_const, implies_true, calFa, Ent.mk3, calF0, calF1, calF2, calF3, calFj, calFk, calF4, calF5, callP, callQ, callR, calK, keepQ, lkK, rn, renC, renC.renCs, renCh1, renChs, viewOk, viewOk.viewOks, lendOk, flatB, flatB.flatBs, flatCh, flatChs, backOk, subsetN, apartN, keysB, keysB.keysBs, keysBl, keysBch, getCh, canM, swapM, newM, passKeys, passKeys.passKs, cellKs, deepKs, lendKeys, lendKeys.lendKs, addN, fnOf, innV, innOf, setInn, holeInn, chD, ldC, notIsl, deepS, retQ, delN, fallen, callCh, Glob.gl, LensCh, updT, updCh, updS, loopQ, kindsOk, bigK, shM, renT, shS, fixT, ptrOnly, ptrOnly.ptrOnlys, boxesIn, onlyBx, bxOk, jumpTo, setPs, yOuts, yOut, RetOks, unisl, fzbS, Nat.reduceBEq, undef]
        | true => exact absurd ⟨s1, s2, s3⟩ hs
end Go.Proofs.Ytfgpbmjmoobcnaa
end
section
open Go Go.Am
open Go.Am.Dat (cells)
namespace Go.Proofs.Ytfgpbmjmoobcnaa
open Go.ChangeShapes Go.WideShapes Go.ChangeAt Go.RowKit
set_option linter.unusedVariables false
theorem own : ownKnob Try.prog.godebug = none := by kernel_rfl
theorem laidOut : laidOutB Try.prog = true := by kernel_rfl
theorem glob0 : Glob.gl Try.prog = [] := rfl
theorem rInt : ReadsAs Try.prog 3 Int := ReadsAs.int Try.underlying3 (by kernel_rfl)
theorem rGauss : ReadsAs Try.prog 48 Gs := by
  refine ⟨by kernel_rfl, by decide, fun en w sp fuel cs x h => ?_⟩
  obtain ⟨l, a, ha, h1⟩ := field_rd rInt Try.underlying48 h 0 rfl rfl
  obtain ⟨_, b, hb, h2⟩ := field_rd rInt Try.underlying48 h 1 rfl rfl
  refine ⟨⟨a, b⟩, rfl, l.trans (by kernel_rfl), fun j c hj => ?_⟩
  match j, hj with
  | 0, hj => cases hj; exact h1 0 _ rfl
  | 1, hj => cases hj; exact h2 0 _ rfl
theorem rGausses : ReadsAs Try.prog 35 (List Gs) := ReadsAs.list rGauss Try.underlying35 (by kernel_rfl)
theorem rGss : ReadsAs Try.prog 22 (List (List Gs)) := ReadsAs.list rGausses Try.underlying22 (by kernel_rfl)
set_option maxRecDepth 100000 in
theorem lifted8 (os : Os) (started : os.Started) (H : Type) (en : TypeId × Value → H) :
    ReturnsInHanded {} Try.checked os 8 .any (Rows.symbolMatricesSpec.pre6 en Try.prog Try.f8 Rows.symbolMatricesRow.domain false) (Rows.symbolMatricesSpec.post en Try.prog Try.f8 false true false false) := by
  refine returnsInHanded_of_change (C := Try.checked) own started (by kernel_rfl) Try.func8
    (ChangeSpec.witness6 (enc := en) (C := Try.checked) false ⟨#[], #[.slice none 0 0, .slice none 0 0, .slice none 0 0], []⟩ 8 (by kernel_rfl) (by kernel_rfl) (by kernel_rfl) (by kernel_rfl)) ?_
  intro W base args ds gs before hval0 hW hcnd _
  have hval : ∀ (j : Nat) t v, Try.f8.params[j]? = some t → args[j]? = some v → Value.okWide Try.prog W .any base t v := hval0
  have hW' := hW
  obtain ⟨p, q, hA0, hV, rfl, hfz, hnd⟩ := hW
  have hA : DataW.TrodAll en Try.prog W 0 (fun _ => true) true Try.f8.params.toList args.toList ds p := hA0
  rw [Try.params8] at hA hval
  obtain ⟨v0, vs0, d0, ds0, p0, q0, hargs, rfl, rfl, h0, r0⟩ := trodAll_cons hA
  obtain ⟨v1, vs1, d1, ds1, p1, q1, rfl, rfl, rfl, h1, r1⟩ := trodAll_cons r0
  obtain ⟨v2, vs2, d2, ds2, p2, q2, rfl, rfl, rfl, h2, r2⟩ := trodAll_cons r1
  obtain ⟨rfl, rfl, rfl⟩ := trodAll_nil r2
  obtain rfl : args = #[v0, v1, v2] := by cases args; simp_all
  obtain ⟨rfl, rfl⟩ := trodVars_none hV
  have lt0 : ∀ x ∈ p0, x.block < W.heap.size := by obtain ⟨m, hm⟩ := h0; exact DataW.trod_lt m _ _ _ hm
  have lt1 : ∀ x ∈ p1, x.block < W.heap.size := by obtain ⟨m, hm⟩ := h1; exact DataW.trod_lt m _ _ _ hm
  have lt2 : ∀ x ∈ p2, x.block < W.heap.size := by obtain ⟨m, hm⟩ := h2; exact DataW.trod_lt m _ _ _ hm
  obtain ⟨x0, hx0⟩ := rGss.arg Try.underlying22 (hval 0 22 v0 rfl rfl) h0
  obtain ⟨x1, hx1⟩ := rGss.arg Try.underlying22 (hval 1 22 v1 rfl rfl) h1
  obtain ⟨x2, hx2⟩ := rGss.arg Try.underlying22 (hval 2 22 v2 rfl rfl) h2
  clear hA0 hval0
  refine (law_walk glob0 (SymbolMatrices_c x0 x1 x2) (W := W) (vs := #[v0, v1, v2]) rfl (fun j c hj E => ?_)).mono fun e W' ⟨he, bel⟩ => ?_
  · match j, hj with
    | 0, hj => cases hj; exact hx0 E
    | 1, hj => cases hj; exact hx1 E
    | 2, hj => cases hj; exact hx2 E
  · subst he
    exact ⟨_, rfl, _, _, _, [], _, [], hW', trodAll_mk1 (shut_bool Try.underlying4 _), (trodAll_cons_mk (Below.trod laidOut (by kernel_rfl) (of_decide_eq_true (by kernel_rfl)) h0 bel lt0) (trodAll_cons_mk (Below.trod laidOut (by kernel_rfl) (of_decide_eq_true (by kernel_rfl)) h1 bel lt1) (trodAll_cons_mk (Below.trod laidOut (by kernel_rfl) (of_decide_eq_true (by kernel_rfl)) h2 bel lt2) trodAll_mk0))), rfl, bel.frame _, fun h => by cases h⟩
theorem over8 : Rows.symbolMatricesRow.holds Try.pinned (OpenSpec.ofChange Rows.symbolMatricesSpec) :=
  OpenClaim.holds_of_wide 8 Try.f8 rfl rfl rfl rfl rfl rfl rfl ⟨rfl, rfl, rfl, rfl, rfl⟩ rfl rfl rfl rfl rfl (by kernel_rfl) Try.func8 (by kernel_rfl)
    (of_decide_eq_true (by kernel_rfl)) (by unfold Func.isWrapper; first | (rw [if_pos (by decide +kernel)]; kernel_rfl) | (rw [if_neg (by decide +kernel)]; exact ⟨rfl, rfl⟩))
    (fun os started H en _ => lifted8 os started H en)
theorem SymbolMatrices_holds : Rows.SymbolMatricesSaid := over8
#print axioms SymbolMatrices_holds
end Go.Proofs.Ytfgpbmjmoobcnaa
end
