/- SymbolReceives returns true for every input and never panics: hard and soft bits of received symbols, and the greatest error, or the errors, are as the reference says; hard and soft bits agree; conditions: none beyond the given statement. -/
import Derived.Test.YtfgpbmjmoobcnaaRows
import Derived.ProofKit
import Derived.Test.YtfgpbmjmoobcnaaAm5
set_option linter.all false
section
open Go Go.Am
open Go.Am.Dat (cells)
namespace Go.Proofs.Ytfgpbmjmoobcnaa
set_option maxHeartbeats 4000000
set_option maxRecDepth 100000
set_option linter.unusedSimpArgs false
theorem Greatest_c (x : Recv) (sent : List Gs) : FC Try.prog 59 [enc x, enc sent] [] (.tup [enc (if geE x sent = 0 then (geF x.gain x.symbols sent sent.length).1 else 0), enc (if geE x sent = 0 then (geF x.gain x.symbols sent sent.length).2 else 0), enc (geE x sent)]) [] := by
  refine fc_intro' is59 (by simp) (fun cx hl => S_run [e114, e118, e82, e80] 800 ?_)
  by_cases h1 : recvErr x = 0
  rotate_left
  · have hE : geE x sent = recvErr x := by unfold geE; rw [if_pos h1]
    have hf : ∀ a b, firstS [recvErr x, a, b] = recvErr x := fun a b => by simp [firstS, h1]
    rw [hE, if_neg h1, if_neg h1]
    obtain ⟨o, g, l⟩ := x
    delta c59
    simp (maxSteps := 4000000) -implicitDefEqProofs only [rv59, e114, e118, e82, e80, enc_recv, decV_recv, hf, h1, InR, Int.cast_ofNat_Int, Int.natCast_one, Int.natCast_zero, Int.reduceAdd, Int.reduceSub, Int.reduceMul, Int.reduceLT, Int.reduceLE, Int.reduceTMod, Int.reduceTDiv, Int.reduceNeg, Int.reduceEq, Nat.reducePow, Int.reducePow, ne_eq, not_false_eq_true, Ent.of0, Ent.of1, Ent.of2, Ent.of3, V, bV, bl, bu, bW, cM, cT, gt, lk, cb, cG, ce, bX, cg, cn, cn.subCs, cV, a3, bh, bO, ax, bH, bJ, aC, bK, bw, aV, bv, av, cC, cO, cQ, ag, aK, bQ, bS, b0, cU, cR, aD, au, bY, bo, zC, argS, bE, cI, cY, cN, ai, aw, aI, aU, co, leC, cm, bZ, cd, c7, bN, aM, aX, cW, an, cr, a7, a7.viewCs, a9, a9.flatCs, aG, aG.LensOks, Value.oneCell', ↓reduceIte, ite_true, ite_false, if_true, if_false, Nat.reduceAdd, Nat.reduceSub, Nat.reduceMul, Nat.reduceEqDiff, Nat.reduceLT, Nat.reduceLeDiff, reduceCtorEq, Int.reduceToNat, forall_const, implies_true, a5, Ent.mk3, bF, bp, bA, a8, br, bj, bL, bC, a6, a4, bm, bP, bz, cP, rn, cz, cz.renCs, aE, aF, aQ, aQ.viewOks, az, bq, bq.flatBs, ay, ar, aA, ah, aW, bM, bM.keysBs, aT, am, aZ, bR, be, cq, ae, ae.passKs, aN, aY, af, af.lendKs, cJ, cp, cu, bD, setInn, ap, cL, cS, aR, bn, cj, bT, aJ, aO, Glob.gl, aP, cF, bG, cc, bg, ak, cH, cZ, cB, c6, cK, aj, aj.ptrOnlys, aq, aB, cD, aH, bf, bI, ca, aL, bB, bU, Nat.reduceBEq, undef]
  by_cases h2 : symErr sent = 0
  rotate_left
  · have hE : geE x sent = symErr sent := by unfold geE; rw [if_neg (fun h => h h1), if_pos h2]
    have hf : ∀ b, firstS [0, symErr sent, b] = symErr sent := fun b => by simp [firstS, h2]
    rw [hE, if_neg h2, if_neg h2]
    obtain ⟨o, g, l⟩ := x
    delta c59
    simp (maxSteps := 4000000) -implicitDefEqProofs only [rv59, e114, e118, e82, e80, enc_recv, decV_recv, hf, h1, h2, InR, Int.cast_ofNat_Int, Int.natCast_one, Int.natCast_zero, Int.reduceAdd, Int.reduceSub, Int.reduceMul, Int.reduceLT, Int.reduceLE, Int.reduceTMod, Int.reduceTDiv, Int.reduceNeg, Int.reduceEq, Nat.reducePow, Int.reducePow, ne_eq, not_false_eq_true, Ent.of0, Ent.of1, Ent.of2, Ent.of3, V, bV, bl, bu, bW, cM, cT, gt, lk, cb, cG, ce, bX, cg, cn, cn.subCs, cV, a3, bh, bO, ax, bH, bJ, aC, bK, bw, aV, bv, av, cC, cO, cQ, ag, aK, bQ, bS, b0, cU, cR, aD, au, bY, bo, zC, argS, bE, cI, cY, cN, ai, aw, aI, aU, co, leC, cm, bZ, cd, c7, bN, aM, aX, cW, an, cr, a7, a7.viewCs, a9, a9.flatCs, aG, aG.LensOks, Value.oneCell', ↓reduceIte, ite_true, ite_false, if_true, if_false, Nat.reduceAdd, Nat.reduceSub, Nat.reduceMul, Nat.reduceEqDiff, Nat.reduceLT, Nat.reduceLeDiff, reduceCtorEq, Int.reduceToNat, forall_const, implies_true, a5, Ent.mk3, bF, bp, bA, a8, br, bj, bL, bC, a6, a4, bm, bP, bz, cP, rn, cz, cz.renCs, aE, aF, aQ, aQ.viewOks, az, bq, bq.flatBs, ay, ar, aA, ah, aW, bM, bM.keysBs, aT, am, aZ, bR, be, cq, ae, ae.passKs, aN, aY, af, af.lendKs, cJ, cp, cu, bD, setInn, ap, cL, cS, aR, bn, cj, bT, aJ, aO, Glob.gl, aP, cF, bG, cc, bg, ak, cH, cZ, cB, c6, cK, aj, aj.ptrOnlys, aq, aB, cD, aH, bf, bI, ca, aL, bB, bU, Nat.reduceBEq, undef]
  have hE : geE x sent = geR x sent := by unfold geE; rw [if_neg (fun h => h h1), if_neg (fun h => h h2)]
  rw [hE]
  by_cases h3 : sent.length = x.symbols.length
  rotate_left
  · have hR : geR x sent = 13 := by unfold geR; rw [if_pos h3]
    rw [hR]
    obtain ⟨o, g, l⟩ := x
    have h3' : ¬ (sent.length : Int) = (l.length : Int) := by simp only at h3; omega
    have hf : firstS [0, 0, 13] = 13 := rfl
    delta c59
    simp (maxSteps := 4000000) -implicitDefEqProofs only [rv59, e114, e118, e82, e80, enc_recv, decV_recv, hf, h1, h2, h3', InR, Int.cast_ofNat_Int, Int.natCast_one, Int.natCast_zero, Int.reduceAdd, Int.reduceSub, Int.reduceMul, Int.reduceLT, Int.reduceLE, Int.reduceTMod, Int.reduceTDiv, Int.reduceNeg, Int.reduceEq, Nat.reducePow, Int.reducePow, ne_eq, not_false_eq_true, Ent.of0, Ent.of1, Ent.of2, Ent.of3, V, bV, bl, bu, bW, cM, cT, gt, lk, cb, cG, ce, bX, cg, cn, cn.subCs, cV, a3, bh, bO, ax, bH, bJ, aC, bK, bw, aV, bv, av, cC, cO, cQ, ag, aK, bQ, bS, b0, cU, cR, aD, au, bY, bo, zC, argS, bE, cI, cY, cN, ai, aw, aI, aU, co, leC, cm, bZ, cd, c7, bN, aM, aX, cW, an, cr, a7, a7.viewCs, a9, a9.flatCs, aG, aG.LensOks, Value.oneCell', ↓reduceIte, ite_true, ite_false, if_true, if_false, Nat.reduceAdd, Nat.reduceSub, Nat.reduceMul, Nat.reduceEqDiff, Nat.reduceLT, Nat.reduceLeDiff, reduceCtorEq, Int.reduceToNat, forall_const, implies_true, a5, Ent.mk3, bF, bp, bA, a8, br, bj, bL, bC, a6, a4, bm, bP, bz, cP, rn, cz, cz.renCs, aE, aF, aQ, aQ.viewOks, az, bq, bq.flatBs, ay, ar, aA, ah, aW, bM, bM.keysBs, aT, am, aZ, bR, be, cq, ae, ae.passKs, aN, aY, af, af.lendKs, cJ, cp, cu, bD, setInn, ap, cL, cS, aR, bn, cj, bT, aJ, aO, Glob.gl, aP, cF, bG, cc, bg, ak, cH, cZ, cB, c6, cK, aj, aj.ptrOnlys, aq, aB, cD, aH, bf, bI, ca, aL, bB, bU, Nat.reduceBEq, undef]
  have hok := recvOk_of h1
  obtain ⟨y1, y2, y3⟩ := sym_of h2
  have hg := hok.gn
  have hle := hok.len
  have hsy := hok.sym
  obtain ⟨o, g, l⟩ := x
  simp only at hg hle hsy h3
  have hgR : geR ⟨o, g, l⟩ sent = if sent.all (fun s => decide (fitG g s)) then 0 else 8 := by unfold geR; rw [if_neg (fun h => h h3)]
  rw [hgR]
  have h3' : (sent.length : Int) = (l.length : Int) := by omega
  have hf : firstS [0, 0, 0] = 0 := rfl
  delta c59
  simp (maxSteps := 4000000) -implicitDefEqProofs only [rv59, e114, e118, e82, e80, enc_recv, decV_recv, hf, h1, h2, h3', InR, Int.cast_ofNat_Int, Int.natCast_one, Int.natCast_zero, Int.reduceAdd, Int.reduceSub, Int.reduceMul, Int.reduceLT, Int.reduceLE, Int.reduceTMod, Int.reduceTDiv, Int.reduceNeg, Int.reduceEq, Nat.reducePow, Int.reducePow, ne_eq, not_false_eq_true, Ent.of0, Ent.of1, Ent.of2, Ent.of3, V, bV, bl, bu, bW, cM, cT, gt, lk, cb, cG, ce, bX, cg, cn, cn.subCs, cV, a3, bh, bO, ax, bH, bJ, aC, bK, bw, aV, bv, av, cC, cO, cQ, ag, aK, bQ, bS, b0, cU, cR, aD, au, bY, bo, zC, argS, bE, cI, cY, cN, ai, aw, aI, aU, co, leC, cm, bZ, cd, c7, bN, aM, aX, cW, an, cr, a7, a7.viewCs, a9, a9.flatCs, aG, aG.LensOks, Value.oneCell', ↓reduceIte, ite_true, ite_false, if_true, if_false, Nat.reduceAdd, Nat.reduceSub, Nat.reduceMul, Nat.reduceEqDiff, Nat.reduceLT, Nat.reduceLeDiff, reduceCtorEq, Int.reduceToNat, forall_const, implies_true, a5, Ent.mk3, bF, bp, bA, a8, br, bj, bL, bC, a6, a4, bm, bP, bz, cP, rn, cz, cz.renCs, aE, aF, aQ, aQ.viewOks, az, bq, bq.flatBs, ay, ar, aA, ah, aW, bM, bM.keysBs, aT, am, aZ, bR, be, cq, ae, ae.passKs, aN, aY, af, af.lendKs, cJ, cp, cu, bD, setInn, ap, cL, cS, aR, bn, cj, bT, aJ, aO, Glob.gl, aP, cF, bG, cc, bg, ak, cH, cZ, cB, c6, cK, aj, aj.ptrOnlys, aq, aB, cD, aH, bf, bI, ca, aL, bB, bU, Nat.reduceBEq, undef]
  refine S_forU sent.length (fun i => [(33, .s (.int .i64 (i : Int))), (8, .s (.int .i64 (geF g l sent i).1)), (9, .s (.int .i64 (geF g l sent i).2))]) (fun _ => []) (fun i => ∀ j, j < i → fitG g (sent.getD j ⟨0, 0⟩)) (by omega) ?_ (fun i hi hv => S_run [e119] 800 ?_)
  · simp (maxSteps := 4000000) -implicitDefEqProofs only [Ent.of0, Ent.of1, Ent.of2, Ent.of3, V, bV, bl, bu, bW, cM, cT, gt, lk, cb, cG, ce, bX, cg, cn, cn.subCs, cV, a3, bh, bO, ax, bH, bJ, aC, bK, bw, aV, bv, av, cC, cO, cQ, ag, aK, bQ, bS, b0, cU, cR, aD, au, bY, bo, zC, argS, bE, cI, cY, cN, ai, aw, aI, aU, co, leC, cm, bZ, cd, c7, bN, aM, aX, cW, an, cr, a7, a7.viewCs, a9, a9.flatCs, aG, aG.LensOks, Value.oneCell', ↓reduceIte, ite_true, ite_false, if_true, if_false, Nat.reduceAdd, Nat.reduceSub, Nat.reduceMul, Nat.reduceEqDiff, Nat.reduceLT, Nat.reduceLeDiff, reduceCtorEq, Int.reduceToNat, forall_const, implies_true, a5, Ent.mk3, bF, bp, bA, a8, br, bj, bL, bC, a6, a4, bm, bP, bz, cP, rn, cz, cz.renCs, aE, aF, aQ, aQ.viewOks, az, bq, bq.flatBs, ay, ar, aA, ah, aW, bM, bM.keysBs, aT, am, aZ, bR, be, cq, ae, ae.passKs, aN, aY, af, af.lendKs, cJ, cp, cu, bD, setInn, ap, cL, cS, aR, bn, cj, bT, aJ, aO, Glob.gl, aP, cF, bG, cc, bg, ak, cH, cZ, cB, c6, cK, aj, aj.ptrOnlys, aq, aB, cD, aH, bf, bI, ca, aL, bB, bU, Nat.reduceBEq, undef]; simp [geF]
  · by_cases h : i < sent.length
    · have hi2 : (i : Int) < (l.length : Int) := by omega
      have hil : i < l.length := by omega
      have hi4 : (i : Int) < (sent.length : Int) := by omega
      have b1 := (y3 _ (getD_mem ⟨0, 0⟩ h))
      simp only [bd] at b1
      have q1 := prod_bd (a := (sent.getD i ⟨0, 0⟩).re) (by omega) hg
      have q2 := prod_bd (a := (sent.getD i ⟨0, 0⟩).im) (by omega) hg
      have b2 := hsy _ (getD_mem ⟨0, 0⟩ hil)
      have b3 := geF_bd g l sent hsy i (by omega) hv
      have hAll : ∀ hh : ¬ fitG g (sent.getD i ⟨0, 0⟩), sent.all (fun s => decide (fitG g s)) = false := fun hh => by
        rw [List.all_eq_false]
        exact ⟨_, getD_mem ⟨0, 0⟩ h, by simpa using hh⟩
      have hge : geF g l sent (i + 1) = if errM ((l.getD i ⟨0, 0⟩).re - (sent.getD i ⟨0, 0⟩).re * g) ((l.getD i ⟨0, 0⟩).im - (sent.getD i ⟨0, 0⟩).im * g) > (geF g l sent i).1 then (errM ((l.getD i ⟨0, 0⟩).re - (sent.getD i ⟨0, 0⟩).re * g) ((l.getD i ⟨0, 0⟩).im - (sent.getD i ⟨0, 0⟩).im * g), (i : Int)) else geF g l sent i := rfl
      by_cases f1 : -100000000 ≤ (sent.getD i ⟨0, 0⟩).re * g ∧ (sent.getD i ⟨0, 0⟩).re * g ≤ 100000000
      rotate_left
      · have hA := hAll (fun hh => f1 hh.1)
        rw [hA]
        delta c59l1
        simp (maxSteps := 4000000) -implicitDefEqProofs only [rv59, hi2, hil, h, hi4, e119, f1, InR, Int.cast_ofNat_Int, Int.natCast_one, Int.natCast_zero, Int.reduceAdd, Int.reduceSub, Int.reduceMul, Int.reduceLT, Int.reduceLE, Int.reduceTMod, Int.reduceTDiv, Int.reduceNeg, Int.reduceEq, Nat.reducePow, Int.reducePow, ne_eq, not_false_eq_true, Ent.of0, Ent.of1, Ent.of2, Ent.of3, V, bV, bl, bu, bW, cM, cT, gt, lk, cb, cG, ce, bX, cg, cn, cn.subCs, cV, a3, bh, bO, ax, bH, bJ, aC, bK, bw, aV, bv, av, cC, cO, cQ, ag, aK, bQ, bS, b0, cU, cR, aD, au, bY, bo, zC, argS, bE, cI, cY, cN, ai, aw, aI, aU, co, leC, cm, bZ, cd, c7, bN, aM, aX, cW, an, cr, a7, a7.viewCs, a9, a9.flatCs, aG, aG.LensOks, Value.oneCell', ↓reduceIte, ite_true, ite_false, if_true, if_false, Nat.reduceAdd, Nat.reduceSub, Nat.reduceMul, Nat.reduceEqDiff, Nat.reduceLT, Nat.reduceLeDiff, reduceCtorEq, Int.reduceToNat, forall_const, implies_true, a5, Ent.mk3, bF, bp, bA, a8, br, bj, bL, bC, a6, a4, bm, bP, bz, cP, rn, cz, cz.renCs, aE, aF, aQ, aQ.viewOks, az, bq, bq.flatBs, ay, ar, aA, ah, aW, bM, bM.keysBs, aT, am, aZ, bR, be, cq, ae, ae.passKs, aN, aY, af, af.lendKs, cJ, cp, cu, bD, setInn, ap, cL, cS, aR, bn, cj, bT, aJ, aO, Glob.gl, aP, cF, bG, cc, bg, ak, cH, cZ, cB, c6, cK, aj, aj.ptrOnlys, aq, aB, cD, aH, bf, bI, ca, aL, bB, bU, Nat.reduceBEq, undef]
        and_intros <;> omega
      by_cases f2 : -100000000 ≤ (sent.getD i ⟨0, 0⟩).im * g ∧ (sent.getD i ⟨0, 0⟩).im * g ≤ 100000000
      rotate_left
      · have hA := hAll (fun hh => f2 hh.2)
        rw [hA]
        delta c59l1
        simp (maxSteps := 4000000) -implicitDefEqProofs only [rv59, hi2, hil, h, hi4, e119, f1, f2, InR, Int.cast_ofNat_Int, Int.natCast_one, Int.natCast_zero, Int.reduceAdd, Int.reduceSub, Int.reduceMul, Int.reduceLT, Int.reduceLE, Int.reduceTMod, Int.reduceTDiv, Int.reduceNeg, Int.reduceEq, Nat.reducePow, Int.reducePow, ne_eq, not_false_eq_true, Ent.of0, Ent.of1, Ent.of2, Ent.of3, V, bV, bl, bu, bW, cM, cT, gt, lk, cb, cG, ce, bX, cg, cn, cn.subCs, cV, a3, bh, bO, ax, bH, bJ, aC, bK, bw, aV, bv, av, cC, cO, cQ, ag, aK, bQ, bS, b0, cU, cR, aD, au, bY, bo, zC, argS, bE, cI, cY, cN, ai, aw, aI, aU, co, leC, cm, bZ, cd, c7, bN, aM, aX, cW, an, cr, a7, a7.viewCs, a9, a9.flatCs, aG, aG.LensOks, Value.oneCell', ↓reduceIte, ite_true, ite_false, if_true, if_false, Nat.reduceAdd, Nat.reduceSub, Nat.reduceMul, Nat.reduceEqDiff, Nat.reduceLT, Nat.reduceLeDiff, reduceCtorEq, Int.reduceToNat, forall_const, implies_true, a5, Ent.mk3, bF, bp, bA, a8, br, bj, bL, bC, a6, a4, bm, bP, bz, cP, rn, cz, cz.renCs, aE, aF, aQ, aQ.viewOks, az, bq, bq.flatBs, ay, ar, aA, ah, aW, bM, bM.keysBs, aT, am, aZ, bR, be, cq, ae, ae.passKs, aN, aY, af, af.lendKs, cJ, cp, cu, bD, setInn, ap, cL, cS, aR, bn, cj, bT, aJ, aO, Glob.gl, aP, cF, bG, cc, bg, ak, cH, cZ, cB, c6, cK, aj, aj.ptrOnlys, aq, aB, cD, aH, bf, bI, ca, aL, bB, bU, Nat.reduceBEq, undef]
        and_intros <;> omega
      have hv' : ∀ j, j < i + 1 → fitG g (sent.getD j ⟨0, 0⟩) := fun j hj => by
        by_cases hj2 : j = i
        · rw [hj2]; exact ⟨f1, f2⟩
        · exact hv j (by omega)
      by_cases hq : errM ((l.getD i ⟨0, 0⟩).re - (sent.getD i ⟨0, 0⟩).re * g) ((l.getD i ⟨0, 0⟩).im - (sent.getD i ⟨0, 0⟩).im * g) > (geF g l sent i).1
      · rw [if_pos hq] at hge
        delta c59l1
        simp (maxSteps := 4000000) -implicitDefEqProofs only [mx4, hi2, hil, h, hi4, e119, f1, f2, hq, hge, InR, Int.cast_ofNat_Int, Int.natCast_one, Int.natCast_zero, Int.reduceAdd, Int.reduceSub, Int.reduceMul, Int.reduceLT, Int.reduceLE, Int.reduceTMod, Int.reduceTDiv, Int.reduceNeg, Int.reduceEq, Nat.reducePow, Int.reducePow, ne_eq, not_false_eq_true, Ent.of0, Ent.of1, Ent.of2, Ent.of3, V, bV, bl, bu, bW, cM, cT, gt, lk, cb, cG, ce, bX, cg, cn, cn.subCs, cV, a3, bh, bO, ax, bH, bJ, aC, bK, bw, aV, bv, av, cC, cO, ag, aK, bQ, bS, b0, cU, cR, aD, au, bY, bo, zC, argS, bE, cI, cY, cN, ai, aw, aI, aU, co, leC, cm, bZ, cd, c7, bN, aM, aX, cW, an, cr, a7, a7.viewCs, a9, a9.flatCs, aG, aG.LensOks, Value.oneCell', ↓reduceIte, ite_true, ite_false, if_true, if_false, Nat.reduceAdd, Nat.reduceSub, Nat.reduceMul, Nat.reduceEqDiff, Nat.reduceLT, Nat.reduceLeDiff, reduceCtorEq, Int.reduceToNat, forall_const, implies_true, a5, Ent.mk3, bF, bp, bA, a8, br, bj, bL, bC, a6, a4, bm, bP, bz, cP, rn, cz, cz.renCs, aE, aF, aQ, aQ.viewOks, az, bq, bq.flatBs, ay, ar, aA, ah, aW, bM, bM.keysBs, aT, am, aZ, bR, be, cq, ae, ae.passKs, aN, aY, af, af.lendKs, cJ, cp, cu, bD, setInn, ap, cL, cS, aR, bn, cj, bT, aJ, aO, Glob.gl, aP, cF, bG, cc, bg, ak, cH, cZ, cB, c6, cK, aj, aj.ptrOnlys, aq, aB, cD, aH, bf, bI, ca, aL, bB, bU, Nat.reduceBEq, undef]
        and_intros <;> first | omega | exact fun j hj => hv' j hj | rfl | trivial
      · rw [if_neg hq] at hge
        delta c59l1
        simp (maxSteps := 4000000) -implicitDefEqProofs only [mx4, hi2, hil, h, hi4, e119, f1, f2, hq, hge, InR, Int.cast_ofNat_Int, Int.natCast_one, Int.natCast_zero, Int.reduceAdd, Int.reduceSub, Int.reduceMul, Int.reduceLT, Int.reduceLE, Int.reduceTMod, Int.reduceTDiv, Int.reduceNeg, Int.reduceEq, Nat.reducePow, Int.reducePow, ne_eq, not_false_eq_true, Ent.of0, Ent.of1, Ent.of2, Ent.of3, V, bV, bl, bu, bW, cM, cT, gt, lk, cb, cG, ce, bX, cg, cn, cn.subCs, cV, a3, bh, bO, ax, bH, bJ, aC, bK, bw, aV, bv, av, cC, cO, ag, aK, bQ, bS, b0, cU, cR, aD, au, bY, bo, zC, argS, bE, cI, cY, cN, ai, aw, aI, aU, co, leC, cm, bZ, cd, c7, bN, aM, aX, cW, an, cr, a7, a7.viewCs, a9, a9.flatCs, aG, aG.LensOks, Value.oneCell', ↓reduceIte, ite_true, ite_false, if_true, if_false, Nat.reduceAdd, Nat.reduceSub, Nat.reduceMul, Nat.reduceEqDiff, Nat.reduceLT, Nat.reduceLeDiff, reduceCtorEq, Int.reduceToNat, forall_const, implies_true, a5, Ent.mk3, bF, bp, bA, a8, br, bj, bL, bC, a6, a4, bm, bP, bz, cP, rn, cz, cz.renCs, aE, aF, aQ, aQ.viewOks, az, bq, bq.flatBs, ay, ar, aA, ah, aW, bM, bM.keysBs, aT, am, aZ, bR, be, cq, ae, ae.passKs, aN, aY, af, af.lendKs, cJ, cp, cu, bD, setInn, ap, cL, cS, aR, bn, cj, bT, aJ, aO, Glob.gl, aP, cF, bG, cc, bg, ak, cH, cZ, cB, c6, cK, aj, aj.ptrOnlys, aq, aB, cD, aH, bf, bI, ca, aL, bB, bU, Nat.reduceBEq, undef]
        and_intros <;> first | omega | exact fun j hj => hv' j hj | rfl | trivial
    · have hi2 : ¬ (i : Int) < (l.length : Int) := by omega
      have hie : i = sent.length := by omega
      have hA : sent.all (fun s => decide (fitG g s)) = true := by
        rw [List.all_eq_true]
        intro s hs
        obtain ⟨j, hj, rfl⟩ := List.getElem_of_mem hs
        have := hv j (by omega)
        rw [List.getD_eq_getElem?_getD, List.getElem?_eq_getElem hj] at this
        simpa using this
      rw [hA]
      subst hie
      delta c59l1
      simp (maxSteps := 4000000) -implicitDefEqProofs only [rv59, hi2, InR, Int.cast_ofNat_Int, Int.natCast_one, Int.natCast_zero, Int.reduceAdd, Int.reduceSub, Int.reduceMul, Int.reduceLT, Int.reduceLE, Int.reduceTMod, Int.reduceTDiv, Int.reduceNeg, Int.reduceEq, Nat.reducePow, Int.reducePow, ne_eq, not_false_eq_true, Ent.of0, Ent.of1, Ent.of2, Ent.of3, V, bV, bl, bu, bW, cM, cT, gt, lk, cb, cG, ce, bX, cg, cn, cn.subCs, cV, a3, bh, bO, ax, bH, bJ, aC, bK, bw, aV, bv, av, cC, cO, cQ, ag, aK, bQ, bS, b0, cU, cR, aD, au, bY, bo, zC, argS, bE, cI, cY, cN, ai, aw, aI, aU, co, leC, cm, bZ, cd, c7, bN, aM, aX, cW, an, cr, a7, a7.viewCs, a9, a9.flatCs, aG, aG.LensOks, Value.oneCell', ↓reduceIte, ite_true, ite_false, if_true, if_false, Nat.reduceAdd, Nat.reduceSub, Nat.reduceMul, Nat.reduceEqDiff, Nat.reduceLT, Nat.reduceLeDiff, reduceCtorEq, Int.reduceToNat, forall_const, implies_true, a5, Ent.mk3, bF, bp, bA, a8, br, bj, bL, bC, a6, a4, bm, bP, bz, cP, rn, cz, cz.renCs, aE, aF, aQ, aQ.viewOks, az, bq, bq.flatBs, ay, ar, aA, ah, aW, bM, bM.keysBs, aT, am, aZ, bR, be, cq, ae, ae.passKs, aN, aY, af, af.lendKs, cJ, cp, cu, bD, setInn, ap, cL, cS, aR, bn, cj, bT, aJ, aO, Glob.gl, aP, cF, bG, cc, bg, ak, cH, cZ, cB, c6, cK, aj, aj.ptrOnlys, aq, aB, cD, aH, bf, bI, ca, aL, bB, bU, Nat.reduceBEq, undef]
def e59 : Ent Try.prog := .of2 59 (fun _ _ => True) (fun (x : Recv) (sent : List Gs) => .tup [enc (if geE x sent = 0 then (geF x.gain x.symbols sent sent.length).1 else 0), enc (if geE x sent = 0 then (geF x.gain x.symbols sent sent.length).2 else 0), enc (geE x sent)]) (fun _ _ => ⟨trivial, trivial, trivial, trivial⟩) (fun x sent _ => Greatest_c x sent)
theorem RGreatest_c (x : Recv) (sent : List Gs) (hok : RecvOk x) (h2 : symErr sent = 0) : FC Try.prog 65 [enc x, enc sent] [] (.tup [enc (if geR x sent = 0 then (geF x.gain x.symbols sent sent.length).1 else 0), enc (if geR x sent = 0 then (geF x.gain x.symbols sent sent.length).2 else 0), enc (geR x sent)]) [] := by
  refine fc_intro' is65 (by simp) (fun cx hl => S_run [] 800 ?_)
  by_cases h3 : sent.length = x.symbols.length
  rotate_left
  · have hR : geR x sent = 13 := by unfold geR; rw [if_pos h3]
    rw [hR]
    obtain ⟨o, g, l⟩ := x
    have h3' : ¬ (sent.length : Int) = (l.length : Int) := by simp only at h3; omega
    delta c65
    simp (maxSteps := 4000000) -implicitDefEqProofs only [rv65, enc_recv, h3', InR, Int.cast_ofNat_Int, Int.natCast_one, Int.natCast_zero, Int.reduceAdd, Int.reduceSub, Int.reduceMul, Int.reduceLT, Int.reduceLE, Int.reduceTMod, Int.reduceTDiv, Int.reduceNeg, Int.reduceEq, Nat.reducePow, Int.reducePow, ne_eq, not_false_eq_true, Ent.of0, Ent.of1, Ent.of2, Ent.of3, V, bV, bl, bu, bW, cM, cT, gt, lk, cb, cG, ce, bX, cg, cn, cn.subCs, cV, a3, bh, bO, ax, bH, bJ, aC, bK, bw, aV, bv, av, cC, cO, cQ, ag, aK, bQ, bS, b0, cU, cR, aD, au, bY, bo, zC, argS, bE, cI, cY, cN, ai, aw, aI, aU, co, leC, cm, bZ, cd, c7, bN, aM, aX, cW, an, cr, a7, a7.viewCs, a9, a9.flatCs, aG, aG.LensOks, Value.oneCell', ↓reduceIte, ite_true, ite_false, if_true, if_false, Nat.reduceAdd, Nat.reduceSub, Nat.reduceMul, Nat.reduceEqDiff, Nat.reduceLT, Nat.reduceLeDiff, reduceCtorEq, Int.reduceToNat, forall_const, implies_true, a5, Ent.mk3, bF, bp, bA, a8, br, bj, bL, bC, a6, a4, bm, bP, bz, cP, rn, cz, cz.renCs, aE, aF, aQ, aQ.viewOks, az, bq, bq.flatBs, ay, ar, aA, ah, aW, bM, bM.keysBs, aT, am, aZ, bR, be, cq, ae, ae.passKs, aN, aY, af, af.lendKs, cJ, cp, cu, bD, setInn, ap, cL, cS, aR, bn, cj, bT, aJ, aO, Glob.gl, aP, cF, bG, cc, bg, ak, cH, cZ, cB, c6, cK, aj, aj.ptrOnlys, aq, aB, cD, aH, bf, bI, ca, aL, bB, bU, Nat.reduceBEq, undef]
  obtain ⟨y1, y2, y3⟩ := sym_of h2
  have hg := hok.gn
  have hle := hok.len
  have hsy := hok.sym
  obtain ⟨o, g, l⟩ := x
  simp only at hg hle hsy h3
  have hgR : geR ⟨o, g, l⟩ sent = if sent.all (fun s => decide (fitG g s)) then 0 else 8 := by unfold geR; rw [if_neg (fun h => h h3)]
  rw [hgR]
  have h3' : (sent.length : Int) = (l.length : Int) := by omega
  delta c65
  simp (maxSteps := 4000000) -implicitDefEqProofs only [rv65, enc_recv, h3', InR, Int.cast_ofNat_Int, Int.natCast_one, Int.natCast_zero, Int.reduceAdd, Int.reduceSub, Int.reduceMul, Int.reduceLT, Int.reduceLE, Int.reduceTMod, Int.reduceTDiv, Int.reduceNeg, Int.reduceEq, Nat.reducePow, Int.reducePow, ne_eq, not_false_eq_true, Ent.of0, Ent.of1, Ent.of2, Ent.of3, V, bV, bl, bu, bW, cM, cT, gt, lk, cb, cG, ce, bX, cg, cn, cn.subCs, cV, a3, bh, bO, ax, bH, bJ, aC, bK, bw, aV, bv, av, cC, cO, cQ, ag, aK, bQ, bS, b0, cU, cR, aD, au, bY, bo, zC, argS, bE, cI, cY, cN, ai, aw, aI, aU, co, leC, cm, bZ, cd, c7, bN, aM, aX, cW, an, cr, a7, a7.viewCs, a9, a9.flatCs, aG, aG.LensOks, Value.oneCell', ↓reduceIte, ite_true, ite_false, if_true, if_false, Nat.reduceAdd, Nat.reduceSub, Nat.reduceMul, Nat.reduceEqDiff, Nat.reduceLT, Nat.reduceLeDiff, reduceCtorEq, Int.reduceToNat, forall_const, implies_true, a5, Ent.mk3, bF, bp, bA, a8, br, bj, bL, bC, a6, a4, bm, bP, bz, cP, rn, cz, cz.renCs, aE, aF, aQ, aQ.viewOks, az, bq, bq.flatBs, ay, ar, aA, ah, aW, bM, bM.keysBs, aT, am, aZ, bR, be, cq, ae, ae.passKs, aN, aY, af, af.lendKs, cJ, cp, cu, bD, setInn, ap, cL, cS, aR, bn, cj, bT, aJ, aO, Glob.gl, aP, cF, bG, cc, bg, ak, cH, cZ, cB, c6, cK, aj, aj.ptrOnlys, aq, aB, cD, aH, bf, bI, ca, aL, bB, bU, Nat.reduceBEq, undef]
  refine S_forU sent.length (fun i => [(7, .s (.int .i64 (i : Int)))]) (fun _ => []) (fun i => ∀ j, j < i → fitG g (sent.getD j ⟨0, 0⟩)) (by omega) ?_ (fun i hi hv => S_run [e89] 800 ?_)
  · simp (maxSteps := 4000000) -implicitDefEqProofs only [Ent.of0, Ent.of1, Ent.of2, Ent.of3, V, bV, bl, bu, bW, cM, cT, gt, lk, cb, cG, ce, bX, cg, cn, cn.subCs, cV, a3, bh, bO, ax, bH, bJ, aC, bK, bw, aV, bv, av, cC, cO, cQ, ag, aK, bQ, bS, b0, cU, cR, aD, au, bY, bo, zC, argS, bE, cI, cY, cN, ai, aw, aI, aU, co, leC, cm, bZ, cd, c7, bN, aM, aX, cW, an, cr, a7, a7.viewCs, a9, a9.flatCs, aG, aG.LensOks, Value.oneCell', ↓reduceIte, ite_true, ite_false, if_true, if_false, Nat.reduceAdd, Nat.reduceSub, Nat.reduceMul, Nat.reduceEqDiff, Nat.reduceLT, Nat.reduceLeDiff, reduceCtorEq, Int.reduceToNat, forall_const, implies_true, a5, Ent.mk3, bF, bp, bA, a8, br, bj, bL, bC, a6, a4, bm, bP, bz, cP, rn, cz, cz.renCs, aE, aF, aQ, aQ.viewOks, az, bq, bq.flatBs, ay, ar, aA, ah, aW, bM, bM.keysBs, aT, am, aZ, bR, be, cq, ae, ae.passKs, aN, aY, af, af.lendKs, cJ, cp, cu, bD, setInn, ap, cL, cS, aR, bn, cj, bT, aJ, aO, Glob.gl, aP, cF, bG, cc, bg, ak, cH, cZ, cB, c6, cK, aj, aj.ptrOnlys, aq, aB, cD, aH, bf, bI, ca, aL, bB, bU, Nat.reduceBEq, undef]; simp
  · by_cases h : i < sent.length
    · have hi4 : (i : Int) < (l.length : Int) := by omega
      have hi5 : (i : Int) < (sent.length : Int) := by omega
      have b1 := (y3 _ (getD_mem ⟨0, 0⟩ h))
      simp only [bd] at b1
      have q1 := prod_bd (a := (sent.getD i ⟨0, 0⟩).re) (by omega) hg
      have q2 := prod_bd (a := (sent.getD i ⟨0, 0⟩).im) (by omega) hg
      have k1 : g * (sent.getD i ⟨0, 0⟩).re = (sent.getD i ⟨0, 0⟩).re * g := Int.mul_comm _ _
      have k2 : g * (sent.getD i ⟨0, 0⟩).im = (sent.getD i ⟨0, 0⟩).im * g := Int.mul_comm _ _
      by_cases f : fitG g (sent.getD i ⟨0, 0⟩)
      · have hs : smallG ⟨(sent.getD i ⟨0, 0⟩).re * g, (sent.getD i ⟨0, 0⟩).im * g⟩ 100000000 = true := by simpa [smallG, fitG] using f
        have hv' : ∀ j, j < i + 1 → fitG g (sent.getD j ⟨0, 0⟩) := fun j hj => by
          by_cases hj2 : j = i
          · rw [hj2]; exact f
          · exact hv j (by omega)
        delta c65l1
        simp (maxSteps := 4000000) -implicitDefEqProofs only [h3', hi4, hi5, h, e89, k1, k2, hs, InR, Int.cast_ofNat_Int, Int.natCast_one, Int.natCast_zero, Int.reduceAdd, Int.reduceSub, Int.reduceMul, Int.reduceLT, Int.reduceLE, Int.reduceTMod, Int.reduceTDiv, Int.reduceNeg, Int.reduceEq, Nat.reducePow, Int.reducePow, ne_eq, not_false_eq_true, Ent.of0, Ent.of1, Ent.of2, Ent.of3, V, bV, bl, bu, bW, cM, cT, gt, lk, cb, cG, ce, bX, cg, cn, cn.subCs, cV, a3, bh, bO, ax, bH, bJ, aC, bK, bw, aV, bv, av, cC, cO, cQ, ag, aK, bQ, bS, b0, cU, cR, aD, au, bY, bo, zC, argS, bE, cI, cY, cN, ai, aw, aI, aU, co, leC, cm, bZ, cd, c7, bN, aM, aX, cW, an, cr, a7, a7.viewCs, a9, a9.flatCs, aG, aG.LensOks, Value.oneCell', ↓reduceIte, ite_true, ite_false, if_true, if_false, Nat.reduceAdd, Nat.reduceSub, Nat.reduceMul, Nat.reduceEqDiff, Nat.reduceLT, Nat.reduceLeDiff, reduceCtorEq, Int.reduceToNat, forall_const, implies_true, a5, Ent.mk3, bF, bp, bA, a8, br, bj, bL, bC, a6, a4, bm, bP, bz, cP, rn, cz, cz.renCs, aE, aF, aQ, aQ.viewOks, az, bq, bq.flatBs, ay, ar, aA, ah, aW, bM, bM.keysBs, aT, am, aZ, bR, be, cq, ae, ae.passKs, aN, aY, af, af.lendKs, cJ, cp, cu, bD, setInn, ap, cL, cS, aR, bn, cj, bT, aJ, aO, Glob.gl, aP, cF, bG, cc, bg, ak, cH, cZ, cB, c6, cK, aj, aj.ptrOnlys, aq, aB, cD, aH, bf, bI, ca, aL, bB, bU, Nat.reduceBEq, undef]
        and_intros <;> first | omega | exact fun j hj => hv' j hj | rfl | trivial
      · have hs : smallG ⟨(sent.getD i ⟨0, 0⟩).re * g, (sent.getD i ⟨0, 0⟩).im * g⟩ 100000000 = false := by
          cases hq : smallG ⟨(sent.getD i ⟨0, 0⟩).re * g, (sent.getD i ⟨0, 0⟩).im * g⟩ 100000000 with
          | false => rfl
          | true => exact absurd (by simpa [smallG, fitG] using hq) f
        have hA : sent.all (fun s => decide (fitG g s)) = false := by
          rw [List.all_eq_false]
          exact ⟨_, getD_mem ⟨0, 0⟩ h, by simpa using f⟩
        rw [hA]
        delta c65l1
        simp (maxSteps := 4000000) -implicitDefEqProofs only [rv65, h3', hi4, hi5, h, e89, k1, k2, hs, InR, Int.cast_ofNat_Int, Int.natCast_one, Int.natCast_zero, Int.reduceAdd, Int.reduceSub, Int.reduceMul, Int.reduceLT, Int.reduceLE, Int.reduceTMod, Int.reduceTDiv, Int.reduceNeg, Int.reduceEq, Nat.reducePow, Int.reducePow, ne_eq, not_false_eq_true, Ent.of0, Ent.of1, Ent.of2, Ent.of3, V, bV, bl, bu, bW, cM, cT, gt, lk, cb, cG, ce, bX, cg, cn, cn.subCs, cV, a3, bh, bO, ax, bH, bJ, aC, bK, bw, aV, bv, av, cC, cO, cQ, ag, aK, bQ, bS, b0, cU, cR, aD, au, bY, bo, zC, argS, bE, cI, cY, cN, ai, aw, aI, aU, co, leC, cm, bZ, cd, c7, bN, aM, aX, cW, an, cr, a7, a7.viewCs, a9, a9.flatCs, aG, aG.LensOks, Value.oneCell', ↓reduceIte, ite_true, ite_false, if_true, if_false, Nat.reduceAdd, Nat.reduceSub, Nat.reduceMul, Nat.reduceEqDiff, Nat.reduceLT, Nat.reduceLeDiff, reduceCtorEq, Int.reduceToNat, forall_const, implies_true, a5, Ent.mk3, bF, bp, bA, a8, br, bj, bL, bC, a6, a4, bm, bP, bz, cP, rn, cz, cz.renCs, aE, aF, aQ, aQ.viewOks, az, bq, bq.flatBs, ay, ar, aA, ah, aW, bM, bM.keysBs, aT, am, aZ, bR, be, cq, ae, ae.passKs, aN, aY, af, af.lendKs, cJ, cp, cu, bD, setInn, ap, cL, cS, aR, bn, cj, bT, aJ, aO, Glob.gl, aP, cF, bG, cc, bg, ak, cH, cZ, cB, c6, cK, aj, aj.ptrOnlys, aq, aB, cD, aH, bf, bI, ca, aL, bB, bU, Nat.reduceBEq, undef]
        and_intros <;> omega
    · have hie : i = sent.length := by omega
      have hi4 : ¬ (i : Int) < (l.length : Int) := by omega
      have hA : sent.all (fun s => decide (fitG g s)) = true := by
        rw [List.all_eq_true]
        intro s hs
        obtain ⟨j, hj, rfl⟩ := List.getElem_of_mem hs
        have := hv j (by omega)
        rw [List.getD_eq_getElem?_getD, List.getElem?_eq_getElem hj] at this
        simpa using this
      rw [hA]
      have hfit : ∀ j, j < sent.length → fitG g (sent.getD j ⟨0, 0⟩) := fun j hj => hv j (by omega)
      clear hv
      subst hie
      delta c65l1
      simp (maxSteps := 4000000) -implicitDefEqProofs only [h3', hi4, InR, Int.cast_ofNat_Int, Int.natCast_one, Int.natCast_zero, Int.reduceAdd, Int.reduceSub, Int.reduceMul, Int.reduceLT, Int.reduceLE, Int.reduceTMod, Int.reduceTDiv, Int.reduceNeg, Int.reduceEq, Nat.reducePow, Int.reducePow, ne_eq, not_false_eq_true, Ent.of0, Ent.of1, Ent.of2, Ent.of3, V, bV, bl, bu, bW, cM, cT, gt, lk, cb, cG, ce, bX, cg, cn, cn.subCs, cV, a3, bh, bO, ax, bH, bJ, aC, bK, bw, aV, bv, av, cC, cO, cQ, ag, aK, bQ, bS, b0, cU, cR, aD, au, bY, bo, zC, argS, bE, cI, cY, cN, ai, aw, aI, aU, co, leC, cm, bZ, cd, c7, bN, aM, aX, cW, an, cr, a7, a7.viewCs, a9, a9.flatCs, aG, aG.LensOks, Value.oneCell', ↓reduceIte, ite_true, ite_false, if_true, if_false, Nat.reduceAdd, Nat.reduceSub, Nat.reduceMul, Nat.reduceEqDiff, Nat.reduceLT, Nat.reduceLeDiff, reduceCtorEq, Int.reduceToNat, forall_const, implies_true, a5, Ent.mk3, bF, bp, bA, a8, br, bj, bL, bC, a6, a4, bm, bP, bz, cP, rn, cz, cz.renCs, aE, aF, aQ, aQ.viewOks, az, bq, bq.flatBs, ay, ar, aA, ah, aW, bM, bM.keysBs, aT, am, aZ, bR, be, cq, ae, ae.passKs, aN, aY, af, af.lendKs, cJ, cp, cu, bD, setInn, ap, cL, cS, aR, bn, cj, bT, aJ, aO, Glob.gl, aP, cF, bG, cc, bg, ak, cH, cZ, cB, c6, cK, aj, aj.ptrOnlys, aq, aB, cD, aH, bf, bI, ca, aL, bB, bU, Nat.reduceBEq, undef]
      refine S_forU sent.length (fun i => [(10, .s (.int .i64 (i : Int))), (8, .s (.int .i64 (geF g l sent i).1)), (9, .s (.int .i64 (geF g l sent i).2))]) (fun _ => []) (fun _ => True) trivial ?_ (fun i hi _ => S_run [e33] 800 ?_)
      · simp (maxSteps := 4000000) -implicitDefEqProofs only [Ent.of0, Ent.of1, Ent.of2, Ent.of3, V, bV, bl, bu, bW, cM, cT, gt, lk, cb, cG, ce, bX, cg, cn, cn.subCs, cV, a3, bh, bO, ax, bH, bJ, aC, bK, bw, aV, bv, av, cC, cO, cQ, ag, aK, bQ, bS, b0, cU, cR, aD, au, bY, bo, zC, argS, bE, cI, cY, cN, ai, aw, aI, aU, co, leC, cm, bZ, cd, c7, bN, aM, aX, cW, an, cr, a7, a7.viewCs, a9, a9.flatCs, aG, aG.LensOks, Value.oneCell', ↓reduceIte, ite_true, ite_false, if_true, if_false, Nat.reduceAdd, Nat.reduceSub, Nat.reduceMul, Nat.reduceEqDiff, Nat.reduceLT, Nat.reduceLeDiff, reduceCtorEq, Int.reduceToNat, forall_const, implies_true, a5, Ent.mk3, bF, bp, bA, a8, br, bj, bL, bC, a6, a4, bm, bP, bz, cP, rn, cz, cz.renCs, aE, aF, aQ, aQ.viewOks, az, bq, bq.flatBs, ay, ar, aA, ah, aW, bM, bM.keysBs, aT, am, aZ, bR, be, cq, ae, ae.passKs, aN, aY, af, af.lendKs, cJ, cp, cu, bD, setInn, ap, cL, cS, aR, bn, cj, bT, aJ, aO, Glob.gl, aP, cF, bG, cc, bg, ak, cH, cZ, cB, c6, cK, aj, aj.ptrOnlys, aq, aB, cD, aH, bf, bI, ca, aL, bB, bU, Nat.reduceBEq, undef]; simp [geF]
      · by_cases h : i < sent.length
        · have hil : i < l.length := by omega
          have hi4 : (i : Int) < (l.length : Int) := by omega
          have hi5 : (i : Int) < (sent.length : Int) := by omega
          have b1 := hfit i h
          simp only [fitG] at b1
          have k1 : g * (sent.getD i ⟨0, 0⟩).re = (sent.getD i ⟨0, 0⟩).re * g := Int.mul_comm _ _
          have k2 : g * (sent.getD i ⟨0, 0⟩).im = (sent.getD i ⟨0, 0⟩).im * g := Int.mul_comm _ _
          have b2 := hsy _ (getD_mem ⟨0, 0⟩ hil)
          have b3 := geF_bd g l sent hsy i (by omega) (fun j hj => hfit j (by omega))
          have hge : geF g l sent (i + 1) = if errM ((l.getD i ⟨0, 0⟩).re - (sent.getD i ⟨0, 0⟩).re * g) ((l.getD i ⟨0, 0⟩).im - (sent.getD i ⟨0, 0⟩).im * g) > (geF g l sent i).1 then (errM ((l.getD i ⟨0, 0⟩).re - (sent.getD i ⟨0, 0⟩).re * g) ((l.getD i ⟨0, 0⟩).im - (sent.getD i ⟨0, 0⟩).im * g), (i : Int)) else geF g l sent i := rfl
          by_cases hq : errM ((l.getD i ⟨0, 0⟩).re - (sent.getD i ⟨0, 0⟩).re * g) ((l.getD i ⟨0, 0⟩).im - (sent.getD i ⟨0, 0⟩).im * g) > (geF g l sent i).1
          · rw [if_pos hq] at hge
            delta c65l2
            simp (maxSteps := 4000000) -implicitDefEqProofs only [mx2, h3', hil, h, hi4, hi5, e33, k1, k2, hq, hge, InR, Int.cast_ofNat_Int, Int.natCast_one, Int.natCast_zero, Int.reduceAdd, Int.reduceSub, Int.reduceMul, Int.reduceLT, Int.reduceLE, Int.reduceTMod, Int.reduceTDiv, Int.reduceNeg, Int.reduceEq, Nat.reducePow, Int.reducePow, ne_eq, not_false_eq_true, Ent.of0, Ent.of1, Ent.of2, Ent.of3, V, bV, bl, bu, bW, cM, cT, gt, lk, cb, cG, ce, bX, cg, cn, cn.subCs, cV, a3, bh, bO, ax, bH, bJ, aC, bK, bw, aV, bv, av, cC, cO, ag, aK, bQ, bS, b0, cU, cR, aD, au, bY, bo, zC, argS, bE, cI, cY, cN, ai, aw, aI, aU, co, leC, cm, bZ, cd, c7, bN, aM, aX, cW, an, cr, a7, a7.viewCs, a9, a9.flatCs, aG, aG.LensOks, Value.oneCell', ↓reduceIte, ite_true, ite_false, if_true, if_false, Nat.reduceAdd, Nat.reduceSub, Nat.reduceMul, Nat.reduceEqDiff, Nat.reduceLT, Nat.reduceLeDiff, reduceCtorEq, Int.reduceToNat, forall_const, implies_true, a5, Ent.mk3, bF, bp, bA, a8, br, bj, bL, bC, a6, a4, bm, bP, bz, cP, rn, cz, cz.renCs, aE, aF, aQ, aQ.viewOks, az, bq, bq.flatBs, ay, ar, aA, ah, aW, bM, bM.keysBs, aT, am, aZ, bR, be, cq, ae, ae.passKs, aN, aY, af, af.lendKs, cJ, cp, cu, bD, setInn, ap, cL, cS, aR, bn, cj, bT, aJ, aO, Glob.gl, aP, cF, bG, cc, bg, ak, cH, cZ, cB, c6, cK, aj, aj.ptrOnlys, aq, aB, cD, aH, bf, bI, ca, aL, bB, bU, Nat.reduceBEq, undef]
            and_intros <;> first | omega | rfl | trivial
          · rw [if_neg hq] at hge
            delta c65l2
            simp (maxSteps := 4000000) -implicitDefEqProofs only [mx2, h3', hil, h, hi4, hi5, e33, k1, k2, hq, hge, InR, Int.cast_ofNat_Int, Int.natCast_one, Int.natCast_zero, Int.reduceAdd, Int.reduceSub, Int.reduceMul, Int.reduceLT, Int.reduceLE, Int.reduceTMod, Int.reduceTDiv, Int.reduceNeg, Int.reduceEq, Nat.reducePow, Int.reducePow, ne_eq, not_false_eq_true, Ent.of0, Ent.of1, Ent.of2, Ent.of3, V, bV, bl, bu, bW, cM, cT, gt, lk, cb, cG, ce, bX, cg, cn, cn.subCs, cV, a3, bh, bO, ax, bH, bJ, aC, bK, bw, aV, bv, av, cC, cO, ag, aK, bQ, bS, b0, cU, cR, aD, au, bY, bo, zC, argS, bE, cI, cY, cN, ai, aw, aI, aU, co, leC, cm, bZ, cd, c7, bN, aM, aX, cW, an, cr, a7, a7.viewCs, a9, a9.flatCs, aG, aG.LensOks, Value.oneCell', ↓reduceIte, ite_true, ite_false, if_true, if_false, Nat.reduceAdd, Nat.reduceSub, Nat.reduceMul, Nat.reduceEqDiff, Nat.reduceLT, Nat.reduceLeDiff, reduceCtorEq, Int.reduceToNat, forall_const, implies_true, a5, Ent.mk3, bF, bp, bA, a8, br, bj, bL, bC, a6, a4, bm, bP, bz, cP, rn, cz, cz.renCs, aE, aF, aQ, aQ.viewOks, az, bq, bq.flatBs, ay, ar, aA, ah, aW, bM, bM.keysBs, aT, am, aZ, bR, be, cq, ae, ae.passKs, aN, aY, af, af.lendKs, cJ, cp, cu, bD, setInn, ap, cL, cS, aR, bn, cj, bT, aJ, aO, Glob.gl, aP, cF, bG, cc, bg, ak, cH, cZ, cB, c6, cK, aj, aj.ptrOnlys, aq, aB, cD, aH, bf, bI, ca, aL, bB, bU, Nat.reduceBEq, undef]
            and_intros <;> first | omega | rfl | trivial
        · have hie : i = sent.length := by omega
          have hi4 : ¬ (i : Int) < (l.length : Int) := by omega
          subst hie
          delta c65l2
          simp (maxSteps := 4000000) -implicitDefEqProofs only [rv65, h3', hi4, InR, Int.cast_ofNat_Int, Int.natCast_one, Int.natCast_zero, Int.reduceAdd, Int.reduceSub, Int.reduceMul, Int.reduceLT, Int.reduceLE, Int.reduceTMod, Int.reduceTDiv, Int.reduceNeg, Int.reduceEq, Nat.reducePow, Int.reducePow, ne_eq, not_false_eq_true, Ent.of0, Ent.of1, Ent.of2, Ent.of3, V, bV, bl, bu, bW, cM, cT, gt, lk, cb, cG, ce, bX, cg, cn, cn.subCs, cV, a3, bh, bO, ax, bH, bJ, aC, bK, bw, aV, bv, av, cC, cO, cQ, ag, aK, bQ, bS, b0, cU, cR, aD, au, bY, bo, zC, argS, bE, cI, cY, cN, ai, aw, aI, aU, co, leC, cm, bZ, cd, c7, bN, aM, aX, cW, an, cr, a7, a7.viewCs, a9, a9.flatCs, aG, aG.LensOks, Value.oneCell', ↓reduceIte, ite_true, ite_false, if_true, if_false, Nat.reduceAdd, Nat.reduceSub, Nat.reduceMul, Nat.reduceEqDiff, Nat.reduceLT, Nat.reduceLeDiff, reduceCtorEq, Int.reduceToNat, forall_const, implies_true, a5, Ent.mk3, bF, bp, bA, a8, br, bj, bL, bC, a6, a4, bm, bP, bz, cP, rn, cz, cz.renCs, aE, aF, aQ, aQ.viewOks, az, bq, bq.flatBs, ay, ar, aA, ah, aW, bM, bM.keysBs, aT, am, aZ, bR, be, cq, ae, ae.passKs, aN, aY, af, af.lendKs, cJ, cp, cu, bD, setInn, ap, cL, cS, aR, bn, cj, bT, aJ, aO, Glob.gl, aP, cF, bG, cc, bg, ak, cH, cZ, cB, c6, cK, aj, aj.ptrOnlys, aq, aB, cD, aH, bf, bI, ca, aL, bB, bU, Nat.reduceBEq, undef]
def e65 : Ent Try.prog := .of2 65 (fun x sent => RecvOk x ∧ symErr sent = 0) (fun (x : Recv) (sent : List Gs) => .tup [enc (if geR x sent = 0 then (geF x.gain x.symbols sent sent.length).1 else 0), enc (if geR x sent = 0 then (geF x.gain x.symbols sent sent.length).2 else 0), enc (geR x sent)]) (fun _ _ => ⟨trivial, trivial, trivial, trivial⟩) (fun x sent h => RGreatest_c x sent h.1 h.2)
end Go.Proofs.Ytfgpbmjmoobcnaa
end
section
open Go Go.Am
open Go.Am.Dat (cells)
namespace Go.Proofs.Ytfgpbmjmoobcnaa
set_option maxHeartbeats 4000000
set_option maxRecDepth 100000
set_option linter.unusedSimpArgs false
def agr (h s : Int) : Prop := (0 < s → h = 0) ∧ (s < 0 → h = 1)
def agree : List Int → List Int → Prop
  | h :: hs, s :: ss => agr h s ∧ agree hs ss
  | [], [] => True
  | _, _ => False
theorem agree_append : ∀ {a b a' b' : List Int}, agree a b → agree a' b' → agree (a ++ a') (b ++ b')
  | [], [], _, _, _, h => h
  | _ :: _, _ :: _, _, _, h1, h2 => ⟨h1.1, agree_append h1.2 h2⟩
  | [], _ :: _, _, _, h, _ => h.elim
  | _ :: _, [], _, _, h, _ => h.elim
theorem agree_len : ∀ {a b : List Int}, agree a b → a.length = b.length
  | [], [], _ => rfl
  | _ :: _, _ :: _, h => by rw [List.length_cons, List.length_cons, agree_len h.2]
  | [], _ :: _, h => h.elim
  | _ :: _, [], h => h.elim
theorem agree_getD : ∀ {a b : List Int} {i : Nat}, agree a b → i < b.length → agr (a.getD i 0) (b.getD i 0)
  | _ :: _, _ :: _, 0, h, _ => h.1
  | _ :: _, _ :: _, i + 1, h, hi => agree_getD (i := i) h.2 (by simpa using hi)
  | [], [], _, _, hi => by simp at hi
  | [], _ :: _, _, h, _ => h.elim
  | _ :: _, [], _, h, _ => h.elim
theorem minS_lem {l : List Int} {x : Int} (h : x ∈ l) : minS l ≤ x := by
  cases l with
  | nil => cases h
  | cons y t => exact minS_le t y x h
theorem near_ne : ([(1, 0), (2, 0), (2, 1), (3, 0), (3, 1), (3, 2)] : List (Nat × Nat)).all (fun a => ([0, 1] : List Int).all fun b => !((List.range (2 ^ a.1)).filter fun (k : Nat) => decide (((ofLevelI a.1 (2 * (k : Int) - (2 ^ a.1 - 1))).map fun m => (bitsOfS m a.1 a.1).getD a.2 0) = some b)).isEmpty) = true := by decide +kernel
theorem near_min {c bt : Nat} {b : Int} {sq : List Int} (hc : c = 1 ∨ c = 2 ∨ c = 3) (hb : bt < c) (h01 : b = 0 ∨ b = 1) (hl : sq.length = 2 ^ c) : minS sq ≤ minS (nearS c bt b sq) := by
  have h := near_ne
  rw [List.all_eq_true] at h
  have h1 := h (c, bt) (by
    rcases hc with rfl | rfl | rfl
    · have : bt = 0 := by omega
      subst this; decide
    · have : bt = 0 ∨ bt = 1 := by omega
      rcases this with rfl | rfl <;> decide
    · have : bt = 0 ∨ bt = 1 ∨ bt = 2 := by omega
      rcases this with rfl | rfl | rfl <;> decide)
  rw [List.all_eq_true] at h1
  have h2 := h1 b (by rcases h01 with rfl | rfl <;> simp)
  have hpos : 0 < (nearS c bt b sq).length := by
    unfold nearS
    rw [List.length_map]
    simp only [Bool.not_eq_true'] at h2
    exact List.length_pos_iff.2 (fun e => by rw [e] at h2; cases h2)
  have hm := minS_in _ hpos
  obtain ⟨k, hk, he⟩ := List.mem_map.1 hm
  have hk2 := List.mem_range.1 (List.mem_filter.1 hk).1
  rw [← he]
  exact minS_lem (getD_mem 0 (by omega))
theorem hard_soft {c bt : Nat} {sq : List Int} (hc : c = 1 ∨ c = 2 ∨ c = 3) (hb : bt < c) (hl : sq.length = 2 ^ c) : agr ((hardS c sq).getD bt 0) ((softS c sq).getD bt 0) := by
  have hS : (softS c sq).getD bt 0 = minS (nearS c bt 1 sq) - minS (nearS c bt 0 sq) := by unfold softS; rw [rng_getD _ _ hb]
  obtain ⟨i, h1, h2⟩ := hard_idx hl
  rw [lvls_length] at h2
  have hi : i < sq.length := by omega
  have hmin : sq.getD i 0 = minS sq := by
    unfold idxOfI at h1
    cases hq : sq.findIdx? (fun x => decide (minS sq = x)) with
    | none => rw [hq] at h1; simp only at h1; omega
    | some j =>
      rw [hq] at h1
      have hij : j = i := by simp only at h1; omega
      subst hij
      have := (List.findIdx?_eq_some_iff_getElem.1 hq).2.1
      rw [List.getD_eq_getElem?_getD, List.getElem?_eq_getElem hi]
      simpa using Eq.symm (of_decide_eq_true this)
  have hsm := ofLevelI_some hc _ (getD_mem 0 (by rw [lvls_length]; exact h2 : i < (lvls c).length))
  cases hq : ofLevelI c ((lvls c).getD i 0) with
  | none => rw [hq] at hsm; cases hsm
  | some m =>
    have hH : hardS c sq = bitsOfS m c c := by unfold hardS; rw [h1, Int.toNat_natCast, hq]
    rw [hH, hS]
    have hmem : ∀ b, (bitsOfS m c c).getD bt 0 = b → minS (nearS c bt b sq) ≤ minS sq := fun b e => by
      rw [← hmin]
      refine minS_lem (List.mem_map.2 ⟨i, List.mem_filter.2 ⟨List.mem_range.2 h2, ?_⟩, rfl⟩)
      rw [lvls_getD h2] at hq
      rw [hq]; simpa using e
    have g0 := near_min (b := 0) hc hb (.inl rfl) hl
    have g1 := near_min (b := 1) hc hb (.inr rfl) hl
    rcases bits_getD (bitsOfS_ok m c c) bt with e | e
    · have := hmem 0 e
      rw [e]; exact ⟨fun _ => rfl, fun h => by omega⟩
    · have := hmem 1 e
      rw [e]; exact ⟨fun h => by omega, fun _ => rfl⟩
theorem turns_agree {c : Nat} (hc : c = 1 ∨ c = 2 ∨ c = 3) {a b s t : List Int} (h1 : ∀ i, i < c → agr (a.getD i 0) (s.getD i 0)) (h2 : ∀ i, i < c → agr (b.getD i 0) (t.getD i 0)) : agree (turnsS c a b) (turnsS c s t) := by
  rcases hc with rfl | rfl | rfl
  · exact ⟨h1 0 (by omega), h2 0 (by omega), trivial⟩
  · exact ⟨h1 0 (by omega), h2 0 (by omega), h1 1 (by omega), h2 1 (by omega), trivial⟩
  · exact ⟨h1 0 (by omega), h2 0 (by omega), h1 1 (by omega), h2 1 (by omega), h1 2 (by omega), h2 2 (by omega), trivial⟩
theorem judged_agree {c : Nat} (hc : c = 1 ∨ c = 2 ∨ c = 3) (g : Int) : ∀ l : List Gs, agree (judgedS c (hardS c) g l) (judgedS c (softS c) g l)
  | [] => trivial
  | x :: l => by
    have hsql : ∀ n, (sqS c g n).length = 2 ^ c := fun n => by rw [sqS, List.length_map, lvls_length]
    have e : ∀ T, judgedS c T g (x :: l) = turnsS c (T (sqS c g x.re)) (T (sqS c g x.im)) ++ judgedS c T g l := fun T => by simp [judgedS]
    rw [e, e]
    exact agree_append (turns_agree hc (fun i hi => hard_soft hc hi (hsql _)) (fun i hi => hard_soft hc hi (hsql _))) (judged_agree hc g l)
theorem all_agree {x : Recv} (hx : RecvOk x) : agree (judgeAll hardS x) (judgeAll softS x) := by
  unfold judgeAll
  refine judged_agree ?_ _ _
  rcases hx.ord with h | h | h <;> rw [h] <;> decide
end Go.Proofs.Ytfgpbmjmoobcnaa
end
section
open Go Go.Am
open Go.Am.Dat (cells)
namespace Go.Proofs.Ytfgpbmjmoobcnaa
set_option maxHeartbeats 4000000
set_option maxRecDepth 100000
set_option linter.unusedSimpArgs false
theorem SymbolReceives_c (x : Recv) (sent : List Gs) : FC Try.prog 10 [enc x, enc sent] [] (enc true) [] := by
  refine fc_intro' is10 (by simp) (fun cx hl => S_run [e15, e22, e57, e56, e58, e60, e59, e61, e62, e63, e37] 1500 ?_)
  obtain ⟨o, g, l⟩ := x
  by_cases hw1 : (l.length : Int) ≤ 8 ∨ 200 < (l.length : Int) ∧ (l.length : Int) ≤ 202
  rotate_left
  · delta c10
    simp (maxSteps := 4000000) -implicitDefEqProofs only [rv10, e15, e22, enc_recv, decV_recv, hw1, Int.cast_ofNat_Int, Int.natCast_one, Int.natCast_zero, Int.reduceAdd, Int.reduceSub, Int.reduceMul, Int.reduceLT, Int.reduceLE, Int.reduceTMod, Int.reduceTDiv, Int.reduceNeg, Int.reduceEq, Nat.reducePow, Int.reducePow, ne_eq, not_false_eq_true, Ent.of0, Ent.of1, Ent.of2, Ent.of3, V, bV, bl, bu, bW, cM, cT, gt, lk, cb, cG, ce, bX, cg, cn, cn.subCs, cV, a3, bh, bO, ax, bH, bJ, aC, bK, bw, aV, bv, av, cC, cO, cQ, ag, aK, bQ, bS, b0, cU, cR, aD, au, bY, bo, zC, argS, bE, cI, cY, cN, ai, aw, aI, aU, co, leC, cm, bZ, cd, c7, bN, aM, aX, cW, an, cr, a7, a7.viewCs, a9, a9.flatCs, aG, aG.LensOks, Value.oneCell', ↓reduceIte, ite_true, ite_false, if_true, if_false, Nat.reduceAdd, Nat.reduceSub, Nat.reduceMul, Nat.reduceEqDiff, Nat.reduceLT, Nat.reduceLeDiff, reduceCtorEq, Int.reduceToNat, forall_const, implies_true, a5, Ent.mk3, bF, bp, bA, a8, br, bj, bL, bC, a6, a4, bm, bP, bz, cP, rn, cz, cz.renCs, aE, aF, aQ, aQ.viewOks, az, bq, bq.flatBs, ay, ar, aA, ah, aW, bM, bM.keysBs, aT, am, aZ, bR, be, cq, ae, ae.passKs, aN, aY, af, af.lendKs, cJ, cp, cu, bD, setInn, ap, cL, cS, aR, bn, cj, bT, aJ, aO, Glob.gl, aP, cF, bG, cc, bg, ak, cH, cZ, cB, c6, cK, aj, aj.ptrOnlys, aq, aB, cD, aH, bf, bI, ca, aL, bB, bU, Nat.reduceBEq, undef]
  by_cases hw2 : (sent.length : Int) ≤ 8 ∨ 200 < (sent.length : Int) ∧ (sent.length : Int) ≤ 202
  rotate_left
  · delta c10
    simp (maxSteps := 4000000) -implicitDefEqProofs only [rv10, e15, e22, enc_recv, decV_recv, hw1, hw2, Int.cast_ofNat_Int, Int.natCast_one, Int.natCast_zero, Int.reduceAdd, Int.reduceSub, Int.reduceMul, Int.reduceLT, Int.reduceLE, Int.reduceTMod, Int.reduceTDiv, Int.reduceNeg, Int.reduceEq, Nat.reducePow, Int.reducePow, ne_eq, not_false_eq_true, Ent.of0, Ent.of1, Ent.of2, Ent.of3, V, bV, bl, bu, bW, cM, cT, gt, lk, cb, cG, ce, bX, cg, cn, cn.subCs, cV, a3, bh, bO, ax, bH, bJ, aC, bK, bw, aV, bv, av, cC, cO, cQ, ag, aK, bQ, bS, b0, cU, cR, aD, au, bY, bo, zC, argS, bE, cI, cY, cN, ai, aw, aI, aU, co, leC, cm, bZ, cd, c7, bN, aM, aX, cW, an, cr, a7, a7.viewCs, a9, a9.flatCs, aG, aG.LensOks, Value.oneCell', ↓reduceIte, ite_true, ite_false, if_true, if_false, Nat.reduceAdd, Nat.reduceSub, Nat.reduceMul, Nat.reduceEqDiff, Nat.reduceLT, Nat.reduceLeDiff, reduceCtorEq, Int.reduceToNat, forall_const, implies_true, a5, Ent.mk3, bF, bp, bA, a8, br, bj, bL, bC, a6, a4, bm, bP, bz, cP, rn, cz, cz.renCs, aE, aF, aQ, aQ.viewOks, az, bq, bq.flatBs, ay, ar, aA, ah, aW, bM, bM.keysBs, aT, am, aZ, bR, be, cq, ae, ae.passKs, aN, aY, af, af.lendKs, cJ, cp, cu, bD, setInn, ap, cL, cS, aR, bn, cj, bT, aJ, aO, Glob.gl, aP, cF, bG, cc, bg, ak, cH, cZ, cB, c6, cK, aj, aj.ptrOnlys, aq, aB, cD, aH, bf, bI, ca, aL, bB, bU, Nat.reduceBEq, undef]
  have b1 : l.length ≤ 1000000 := by omega
  have b2 : sent.length ≤ 1000000 := by omega
  by_cases hr : recvErr ⟨o, g, l⟩ = 0
  rotate_left
  · have hE : geE ⟨o, g, l⟩ sent = recvErr ⟨o, g, l⟩ := by unfold geE; rw [if_pos hr]
    delta c10
    simp (maxSteps := 4000000) -implicitDefEqProofs only [rv10, e15, e22, e57, e56, e58, e60, e59, e61, enc_recv, decV_recv, hw1, hw2, b1, b2, hr, hE, InR, Int.cast_ofNat_Int, Int.natCast_one, Int.natCast_zero, Int.reduceAdd, Int.reduceSub, Int.reduceMul, Int.reduceLT, Int.reduceLE, Int.reduceTMod, Int.reduceTDiv, Int.reduceNeg, Int.reduceEq, Nat.reducePow, Int.reducePow, ne_eq, not_false_eq_true, Ent.of0, Ent.of1, Ent.of2, Ent.of3, V, bV, bl, bu, bW, cM, cT, gt, lk, cb, cG, ce, bX, cg, cn, cn.subCs, cV, a3, bh, bO, ax, bH, bJ, aC, bK, bw, aV, bv, av, cC, cO, cQ, ag, aK, bQ, bS, b0, cU, cR, aD, au, bY, bo, zC, argS, bE, cI, cY, cN, ai, aw, aI, aU, co, leC, cm, bZ, cd, c7, bN, aM, aX, cW, an, cr, a7, a7.viewCs, a9, a9.flatCs, aG, aG.LensOks, Value.oneCell', ↓reduceIte, ite_true, ite_false, if_true, if_false, Nat.reduceAdd, Nat.reduceSub, Nat.reduceMul, Nat.reduceEqDiff, Nat.reduceLT, Nat.reduceLeDiff, reduceCtorEq, Int.reduceToNat, forall_const, implies_true, a5, Ent.mk3, bF, bp, bA, a8, br, bj, bL, bC, a6, a4, bm, bP, bz, cP, rn, cz, cz.renCs, aE, aF, aQ, aQ.viewOks, az, bq, bq.flatBs, ay, ar, aA, ah, aW, bM, bM.keysBs, aT, am, aZ, bR, be, cq, ae, ae.passKs, aN, aY, af, af.lendKs, cJ, cp, cu, bD, setInn, ap, cL, cS, aR, bn, cj, bT, aJ, aO, Glob.gl, aP, cF, bG, cc, bg, ak, cH, cZ, cB, c6, cK, aj, aj.ptrOnlys, aq, aB, cD, aH, bf, bI, ca, aL, bB, bU, Nat.reduceBEq, undef]
  have hok := recvOk_of hr
  have hag := all_agree hok
  have hll := agree_len hag
  have hE : geE ⟨o, g, l⟩ sent = if symErr sent ≠ 0 then symErr sent else geR ⟨o, g, l⟩ sent := by unfold geE; rw [if_neg (fun h => h hr)]
  have hSl : (judgeAll softS ⟨o, g, l⟩).length ≤ 6 * l.length := judged_len (by rcases hok.ord with h | h | h <;> rw [h] <;> decide) _ _ _
  have hge : ∀ i, i < (judgeAll softS ⟨o, g, l⟩).length → agr ((judgeAll hardS ⟨o, g, l⟩).getD i 0) ((judgeAll softS ⟨o, g, l⟩).getD i 0) := fun i hi => agree_getD hag hi
  delta c10
  simp (maxSteps := 4000000) -implicitDefEqProofs only [rv10, e15, e22, e57, e56, e58, e60, e59, e61, e62, e63, e37, enc_recv, decV_recv, hw1, hw2, b1, b2, hr, hok, hll, InR, Int.cast_ofNat_Int, Int.natCast_one, Int.natCast_zero, Int.reduceAdd, Int.reduceSub, Int.reduceMul, Int.reduceLT, Int.reduceLE, Int.reduceTMod, Int.reduceTDiv, Int.reduceNeg, Int.reduceEq, Nat.reducePow, Int.reducePow, ne_eq, not_false_eq_true, Ent.of0, Ent.of1, Ent.of2, Ent.of3, V, bV, bl, bu, bW, cM, cT, gt, lk, cb, cG, ce, bX, cg, cn, cn.subCs, cV, a3, bh, bO, ax, bH, bJ, aC, bK, bw, aV, bv, av, cC, cO, cQ, ag, aK, bQ, bS, b0, cU, cR, aD, au, bY, bo, zC, argS, bE, cI, cY, cN, ai, aw, aI, aU, co, leC, cm, bZ, cd, c7, bN, aM, aX, cW, an, cr, a7, a7.viewCs, a9, a9.flatCs, aG, aG.LensOks, Value.oneCell', ↓reduceIte, ite_true, ite_false, if_true, if_false, Nat.reduceAdd, Nat.reduceSub, Nat.reduceMul, Nat.reduceEqDiff, Nat.reduceLT, Nat.reduceLeDiff, reduceCtorEq, Int.reduceToNat, forall_const, implies_true, a5, Ent.mk3, bF, bp, bA, a8, br, bj, bL, bC, a6, a4, bm, bP, bz, cP, rn, cz, cz.renCs, aE, aF, aQ, aQ.viewOks, az, bq, bq.flatBs, ay, ar, aA, ah, aW, bM, bM.keysBs, aT, am, aZ, bR, be, cq, ae, ae.passKs, aN, aY, af, af.lendKs, cJ, cp, cu, bD, setInn, ap, cL, cS, aR, bn, cj, bT, aJ, aO, Glob.gl, aP, cF, bG, cc, bg, ak, cH, cZ, cB, c6, cK, aj, aj.ptrOnlys, aq, aB, cD, aH, bf, bI, ca, aL, bB, bU, Nat.reduceBEq, undef]
  generalize judgeAll hardS ⟨o, g, l⟩ = H at *
  generalize judgeAll softS ⟨o, g, l⟩ = S at *
  refine S_forU S.length (fun i => [(13, .s (.int .i64 (i : Int)))]) (fun _ => []) (fun _ => True) trivial ?_ (fun i hi _ => S_run [e64, e65] 1500 ?_)
  · simp (maxSteps := 4000000) -implicitDefEqProofs only [Ent.of0, Ent.of1, Ent.of2, Ent.of3, V, bV, bl, bu, bW, cM, cT, gt, lk, cb, cG, ce, bX, cg, cn, cn.subCs, cV, a3, bh, bO, ax, bH, bJ, aC, bK, bw, aV, bv, av, cC, cO, cQ, ag, aK, bQ, bS, b0, cU, cR, aD, au, bY, bo, zC, argS, bE, cI, cY, cN, ai, aw, aI, aU, co, leC, cm, bZ, cd, c7, bN, aM, aX, cW, an, cr, a7, a7.viewCs, a9, a9.flatCs, aG, aG.LensOks, Value.oneCell', ↓reduceIte, ite_true, ite_false, if_true, if_false, Nat.reduceAdd, Nat.reduceSub, Nat.reduceMul, Nat.reduceEqDiff, Nat.reduceLT, Nat.reduceLeDiff, reduceCtorEq, Int.reduceToNat, forall_const, implies_true, a5, Ent.mk3, bF, bp, bA, a8, br, bj, bL, bC, a6, a4, bm, bP, bz, cP, rn, cz, cz.renCs, aE, aF, aQ, aQ.viewOks, az, bq, bq.flatBs, ay, ar, aA, ah, aW, bM, bM.keysBs, aT, am, aZ, bR, be, cq, ae, ae.passKs, aN, aY, af, af.lendKs, cJ, cp, cu, bD, setInn, ap, cL, cS, aR, bn, cj, bT, aJ, aO, Glob.gl, aP, cF, bG, cc, bg, ak, cH, cZ, cB, c6, cK, aj, aj.ptrOnlys, aq, aB, cD, aH, bf, bI, ca, aL, bB, bU, Nat.reduceBEq, undef]; simp
  · by_cases h : i < S.length
    · have hi2 : (i : Int) < (S.length : Int) := by omega
      have hi3 : (i : Int) < (H.length : Int) := by omega
      have hi4 : i < H.length := by omega
      obtain ⟨a1, a2⟩ := hge i h
      rcases Int.lt_trichotomy (S.getD i 0) 0 with hs | hs | hs
      · have hh := a2 hs
        have hs2 : ¬ S.getD i 0 > 0 := by omega
        delta c10l1
        simp (maxSteps := 4000000) -implicitDefEqProofs only [hi2, hi3, hi4, h, hs, hs2, hh, InR, Int.cast_ofNat_Int, Int.natCast_one, Int.natCast_zero, Int.reduceAdd, Int.reduceSub, Int.reduceMul, Int.reduceLT, Int.reduceLE, Int.reduceTMod, Int.reduceTDiv, Int.reduceNeg, Int.reduceEq, Nat.reducePow, Int.reducePow, ne_eq, not_false_eq_true, Ent.of0, Ent.of1, Ent.of2, Ent.of3, V, bV, bl, bu, bW, cM, cT, gt, lk, cb, cG, ce, bX, cg, cn, cn.subCs, cV, a3, bh, bO, ax, bH, bJ, aC, bK, bw, aV, bv, av, cC, cO, cQ, ag, aK, bQ, bS, b0, cU, cR, aD, au, bY, bo, zC, argS, bE, cI, cY, cN, ai, aw, aI, aU, co, leC, cm, bZ, cd, c7, bN, aM, aX, cW, an, cr, a7, a7.viewCs, a9, a9.flatCs, aG, aG.LensOks, Value.oneCell', ↓reduceIte, ite_true, ite_false, if_true, if_false, Nat.reduceAdd, Nat.reduceSub, Nat.reduceMul, Nat.reduceEqDiff, Nat.reduceLT, Nat.reduceLeDiff, reduceCtorEq, Int.reduceToNat, forall_const, implies_true, a5, Ent.mk3, bF, bp, bA, a8, br, bj, bL, bC, a6, a4, bm, bP, bz, cP, rn, cz, cz.renCs, aE, aF, aQ, aQ.viewOks, az, bq, bq.flatBs, ay, ar, aA, ah, aW, bM, bM.keysBs, aT, am, aZ, bR, be, cq, ae, ae.passKs, aN, aY, af, af.lendKs, cJ, cp, cu, bD, setInn, ap, cL, cS, aR, bn, cj, bT, aJ, aO, Glob.gl, aP, cF, bG, cc, bg, ak, cH, cZ, cB, c6, cK, aj, aj.ptrOnlys, aq, aB, cD, aH, bf, bI, ca, aL, bB, bU, Nat.reduceBEq, undef]
        omega
      · delta c10l1
        simp (maxSteps := 4000000) -implicitDefEqProofs only [hi2, hi3, hi4, h, hs, InR, Int.cast_ofNat_Int, Int.natCast_one, Int.natCast_zero, Int.reduceAdd, Int.reduceSub, Int.reduceMul, Int.reduceLT, Int.reduceLE, Int.reduceTMod, Int.reduceTDiv, Int.reduceNeg, Int.reduceEq, Nat.reducePow, Int.reducePow, ne_eq, not_false_eq_true, Ent.of0, Ent.of1, Ent.of2, Ent.of3, V, bV, bl, bu, bW, cM, cT, gt, lk, cb, cG, ce, bX, cg, cn, cn.subCs, cV, a3, bh, bO, ax, bH, bJ, aC, bK, bw, aV, bv, av, cC, cO, cQ, ag, aK, bQ, bS, b0, cU, cR, aD, au, bY, bo, zC, argS, bE, cI, cY, cN, ai, aw, aI, aU, co, leC, cm, bZ, cd, c7, bN, aM, aX, cW, an, cr, a7, a7.viewCs, a9, a9.flatCs, aG, aG.LensOks, Value.oneCell', ↓reduceIte, ite_true, ite_false, if_true, if_false, Nat.reduceAdd, Nat.reduceSub, Nat.reduceMul, Nat.reduceEqDiff, Nat.reduceLT, Nat.reduceLeDiff, reduceCtorEq, Int.reduceToNat, forall_const, implies_true, a5, Ent.mk3, bF, bp, bA, a8, br, bj, bL, bC, a6, a4, bm, bP, bz, cP, rn, cz, cz.renCs, aE, aF, aQ, aQ.viewOks, az, bq, bq.flatBs, ay, ar, aA, ah, aW, bM, bM.keysBs, aT, am, aZ, bR, be, cq, ae, ae.passKs, aN, aY, af, af.lendKs, cJ, cp, cu, bD, setInn, ap, cL, cS, aR, bn, cj, bT, aJ, aO, Glob.gl, aP, cF, bG, cc, bg, ak, cH, cZ, cB, c6, cK, aj, aj.ptrOnlys, aq, aB, cD, aH, bf, bI, ca, aL, bB, bU, Nat.reduceBEq, undef]
        omega
      · have hh := a1 hs
        have hs2 : ¬ S.getD i 0 < 0 := by omega
        have hs3 : S.getD i 0 > 0 := hs
        delta c10l1
        simp (maxSteps := 4000000) -implicitDefEqProofs only [hi2, hi3, hi4, h, hs3, hs2, hh, InR, Int.cast_ofNat_Int, Int.natCast_one, Int.natCast_zero, Int.reduceAdd, Int.reduceSub, Int.reduceMul, Int.reduceLT, Int.reduceLE, Int.reduceTMod, Int.reduceTDiv, Int.reduceNeg, Int.reduceEq, Nat.reducePow, Int.reducePow, ne_eq, not_false_eq_true, Ent.of0, Ent.of1, Ent.of2, Ent.of3, V, bV, bl, bu, bW, cM, cT, gt, lk, cb, cG, ce, bX, cg, cn, cn.subCs, cV, a3, bh, bO, ax, bH, bJ, aC, bK, bw, aV, bv, av, cC, cO, cQ, ag, aK, bQ, bS, b0, cU, cR, aD, au, bY, bo, zC, argS, bE, cI, cY, cN, ai, aw, aI, aU, co, leC, cm, bZ, cd, c7, bN, aM, aX, cW, an, cr, a7, a7.viewCs, a9, a9.flatCs, aG, aG.LensOks, Value.oneCell', ↓reduceIte, ite_true, ite_false, if_true, if_false, Nat.reduceAdd, Nat.reduceSub, Nat.reduceMul, Nat.reduceEqDiff, Nat.reduceLT, Nat.reduceLeDiff, reduceCtorEq, Int.reduceToNat, forall_const, implies_true, a5, Ent.mk3, bF, bp, bA, a8, br, bj, bL, bC, a6, a4, bm, bP, bz, cP, rn, cz, cz.renCs, aE, aF, aQ, aQ.viewOks, az, bq, bq.flatBs, ay, ar, aA, ah, aW, bM, bM.keysBs, aT, am, aZ, bR, be, cq, ae, ae.passKs, aN, aY, af, af.lendKs, cJ, cp, cu, bD, setInn, ap, cL, cS, aR, bn, cj, bT, aJ, aO, Glob.gl, aP, cF, bG, cc, bg, ak, cH, cZ, cB, c6, cK, aj, aj.ptrOnlys, aq, aB, cD, aH, bf, bI, ca, aL, bB, bU, Nat.reduceBEq, undef]
        omega
    · have hi2 : ¬ (i : Int) < (S.length : Int) := by omega
      by_cases hz : symErr sent = 0
      · rw [if_neg (fun h => h hz)] at hE
        delta c10l1
        simp (maxSteps := 4000000) -implicitDefEqProofs only [rv10, hi2, e64, e65, enc_recv, decV_recv, hok, hz, hE, InR, Int.cast_ofNat_Int, Int.natCast_one, Int.natCast_zero, Int.reduceAdd, Int.reduceSub, Int.reduceMul, Int.reduceLT, Int.reduceLE, Int.reduceTMod, Int.reduceTDiv, Int.reduceNeg, Int.reduceEq, Nat.reducePow, Int.reducePow, ne_eq, not_false_eq_true, Ent.of0, Ent.of1, Ent.of2, Ent.of3, V, bV, bl, bu, bW, cM, cT, gt, lk, cb, cG, ce, bX, cg, cn, cn.subCs, cV, a3, bh, bO, ax, bH, bJ, aC, bK, bw, aV, bv, av, cC, cO, cQ, ag, aK, bQ, bS, b0, cU, cR, aD, au, bY, bo, zC, argS, bE, cI, cY, cN, ai, aw, aI, aU, co, leC, cm, bZ, cd, c7, bN, aM, aX, cW, an, cr, a7, a7.viewCs, a9, a9.flatCs, aG, aG.LensOks, Value.oneCell', ↓reduceIte, ite_true, ite_false, if_true, if_false, Nat.reduceAdd, Nat.reduceSub, Nat.reduceMul, Nat.reduceEqDiff, Nat.reduceLT, Nat.reduceLeDiff, reduceCtorEq, Int.reduceToNat, forall_const, implies_true, a5, Ent.mk3, bF, bp, bA, a8, br, bj, bL, bC, a6, a4, bm, bP, bz, cP, rn, cz, cz.renCs, aE, aF, aQ, aQ.viewOks, az, bq, bq.flatBs, ay, ar, aA, ah, aW, bM, bM.keysBs, aT, am, aZ, bR, be, cq, ae, ae.passKs, aN, aY, af, af.lendKs, cJ, cp, cu, bD, setInn, ap, cL, cS, aR, bn, cj, bT, aJ, aO, Glob.gl, aP, cF, bG, cc, bg, ak, cH, cZ, cB, c6, cK, aj, aj.ptrOnlys, aq, aB, cD, aH, bf, bI, ca, aL, bB, bU, Nat.reduceBEq, undef]
      · rw [if_pos hz] at hE
        delta c10l1
        simp (maxSteps := 4000000) -implicitDefEqProofs only [rv10, hi2, e64, enc_recv, decV_recv, hz, hE, InR, Int.cast_ofNat_Int, Int.natCast_one, Int.natCast_zero, Int.reduceAdd, Int.reduceSub, Int.reduceMul, Int.reduceLT, Int.reduceLE, Int.reduceTMod, Int.reduceTDiv, Int.reduceNeg, Int.reduceEq, Nat.reducePow, Int.reducePow, ne_eq, not_false_eq_true, Ent.of0, Ent.of1, Ent.of2, Ent.of3, V, bV, bl, bu, bW, cM, cT, gt, lk, cb, cG, ce, bX, cg, cn, cn.subCs, cV, a3, bh, bO, ax, bH, bJ, aC, bK, bw, aV, bv, av, cC, cO, cQ, ag, aK, bQ, bS, b0, cU, cR, aD, au, bY, bo, zC, argS, bE, cI, cY, cN, ai, aw, aI, aU, co, leC, cm, bZ, cd, c7, bN, aM, aX, cW, an, cr, a7, a7.viewCs, a9, a9.flatCs, aG, aG.LensOks, Value.oneCell', ↓reduceIte, ite_true, ite_false, if_true, if_false, Nat.reduceAdd, Nat.reduceSub, Nat.reduceMul, Nat.reduceEqDiff, Nat.reduceLT, Nat.reduceLeDiff, reduceCtorEq, Int.reduceToNat, forall_const, implies_true, a5, Ent.mk3, bF, bp, bA, a8, br, bj, bL, bC, a6, a4, bm, bP, bz, cP, rn, cz, cz.renCs, aE, aF, aQ, aQ.viewOks, az, bq, bq.flatBs, ay, ar, aA, ah, aW, bM, bM.keysBs, aT, am, aZ, bR, be, cq, ae, ae.passKs, aN, aY, af, af.lendKs, cJ, cp, cu, bD, setInn, ap, cL, cS, aR, bn, cj, bT, aJ, aO, Glob.gl, aP, cF, bG, cc, bg, ak, cH, cZ, cB, c6, cK, aj, aj.ptrOnlys, aq, aB, cD, aH, bf, bI, ca, aL, bB, bU, Nat.reduceBEq, undef]
end Go.Proofs.Ytfgpbmjmoobcnaa
end
section
open Go Go.Am
open Go.Am.Dat (cells)
namespace Go.Proofs.Ytfgpbmjmoobcnaa
open Go.ChangeShapes Go.WideShapes Go.ChangeAt Go.RowKit
set_option linter.unusedVariables false
theorem own : ownKnob Try.prog.godebug = none := by kernel_rfl
theorem laidOut : laidOutB Try.prog = true := by kernel_rfl
theorem glob0 : Glob.gl Try.prog = [] := rfl
theorem rInt : ReadsAs Try.prog 3 Int := ReadsAs.int Try.underlying3 (by kernel_rfl)
theorem rGauss : ReadsAs Try.prog 48 Gs := by
  refine ⟨by kernel_rfl, by decide, fun en w sp fuel cs x h => ?_⟩
  obtain ⟨l, a, ha, h1⟩ := field_rd rInt Try.underlying48 h 0 rfl rfl
  obtain ⟨_, b, hb, h2⟩ := field_rd rInt Try.underlying48 h 1 rfl rfl
  refine ⟨⟨a, b⟩, rfl, l.trans (by kernel_rfl), fun j c hj => ?_⟩
  match j, hj with
  | 0, hj => cases hj; exact h1 0 _ rfl
  | 1, hj => cases hj; exact h2 0 _ rfl
theorem rGausses : ReadsAs Try.prog 35 (List Gs) := ReadsAs.list rGauss Try.underlying35 (by kernel_rfl)
theorem rRecv : ReadsAs Try.prog 79 Recv := by
  refine ⟨by kernel_rfl, by decide, fun en w sp fuel cs x h => ?_⟩
  obtain ⟨l, a0, e0, h0⟩ := field_rd rInt Try.underlying79 h 0 rfl rfl
  obtain ⟨_, a1, e1, h1⟩ := field_rd rInt Try.underlying79 h 1 rfl rfl
  obtain ⟨_, a2, e2, h2⟩ := field_rd rGausses Try.underlying79 h 2 rfl rfl
  refine ⟨⟨a0, a1, a2⟩, rfl, l.trans (by kernel_rfl), fun j c hj => ?_⟩
  match j, hj with
  | 0, hj => cases hj; exact h0 0 _ rfl
  | 1, hj => cases hj; exact h1 0 _ rfl
  | 2, hj => cases hj; exact h2 0 _ rfl
set_option maxRecDepth 100000 in
theorem lifted10 (os : Os) (started : os.Started) (H : Type) (en : TypeId × Value → H) :
    ReturnsInHanded {} Try.checked os 10 .any (Rows.symbolReceivesSpec.pre6 en Try.prog Try.f10 Rows.symbolReceivesRow.domain false) (Rows.symbolReceivesSpec.post en Try.prog Try.f10 false true false false) := by
  refine returnsInHanded_of_change (C := Try.checked) own started (by kernel_rfl) Try.func10
    (ChangeSpec.witness6 (enc := en) (C := Try.checked) false ⟨#[], #[.agg #[.int .i64 0, .int .i64 0, .slice none 0 0], .slice none 0 0], []⟩ 8 (by kernel_rfl) (by kernel_rfl) (by kernel_rfl) (by kernel_rfl)) ?_
  intro W base args ds gs before hval0 hW hcnd _
  have hval : ∀ (j : Nat) t v, Try.f10.params[j]? = some t → args[j]? = some v → Value.okWide Try.prog W .any base t v := hval0
  have hW' := hW
  obtain ⟨p, q, hA0, hV, rfl, hfz, hnd⟩ := hW
  have hA : DataW.TrodAll en Try.prog W 0 (fun _ => true) true Try.f10.params.toList args.toList ds p := hA0
  rw [Try.params10] at hA hval
  obtain ⟨v0, vs0, d0, ds0, p0, q0, hargs, rfl, rfl, h0, r0⟩ := trodAll_cons hA
  obtain ⟨v1, vs1, d1, ds1, p1, q1, rfl, rfl, rfl, h1, r1⟩ := trodAll_cons r0
  obtain ⟨rfl, rfl, rfl⟩ := trodAll_nil r1
  obtain rfl : args = #[v0, v1] := by cases args; simp_all
  obtain ⟨rfl, rfl⟩ := trodVars_none hV
  have lt0 : ∀ x ∈ p0, x.block < W.heap.size := by obtain ⟨m, hm⟩ := h0; exact DataW.trod_lt m _ _ _ hm
  have lt1 : ∀ x ∈ p1, x.block < W.heap.size := by obtain ⟨m, hm⟩ := h1; exact DataW.trod_lt m _ _ _ hm
  obtain ⟨x0, hx0⟩ := rRecv.argS rfl Try.underlying79 (hval 0 79 v0 rfl rfl) h0
  obtain ⟨x1, hx1⟩ := rGausses.arg Try.underlying35 (hval 1 35 v1 rfl rfl) h1
  clear hA0 hval0
  refine (law_walk glob0 (SymbolReceives_c x0 x1) (W := W) (vs := #[v0, v1]) rfl (fun j c hj E => ?_)).mono fun e W' ⟨he, bel⟩ => ?_
  · match j, hj with
    | 0, hj => cases hj; exact hx0 E
    | 1, hj => cases hj; exact hx1 E
  · subst he
    exact ⟨_, rfl, _, _, _, [], _, [], hW', trodAll_mk1 (shut_bool Try.underlying4 _), (trodAll_cons_mk (Below.trod laidOut (by kernel_rfl) (of_decide_eq_true (by kernel_rfl)) h0 bel lt0) (trodAll_cons_mk (Below.trod laidOut (by kernel_rfl) (of_decide_eq_true (by kernel_rfl)) h1 bel lt1) trodAll_mk0)), rfl, bel.frame _, fun h => by cases h⟩
theorem over10 : Rows.symbolReceivesRow.holds Try.pinned (OpenSpec.ofChange Rows.symbolReceivesSpec) :=
  OpenClaim.holds_of_wide 10 Try.f10 rfl rfl rfl rfl rfl rfl rfl ⟨rfl, rfl, rfl, rfl, rfl⟩ rfl rfl rfl rfl rfl (by kernel_rfl) Try.func10 (by kernel_rfl)
    (of_decide_eq_true (by kernel_rfl)) (by unfold Func.isWrapper; first | (rw [if_pos (by decide +kernel)]; kernel_rfl) | (rw [if_neg (by decide +kernel)]; exact ⟨rfl, rfl⟩))
    (fun os started H en _ => lifted10 os started H en)
theorem SymbolReceives_holds : Rows.SymbolReceivesSaid := over10
#print axioms SymbolReceives_holds
end Go.Proofs.Ytfgpbmjmoobcnaa
end
