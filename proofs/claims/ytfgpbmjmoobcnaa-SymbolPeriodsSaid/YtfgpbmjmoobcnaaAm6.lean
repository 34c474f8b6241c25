/- SymbolPeriods returns true for every input and never panics: behind its period a register is the same, and behind no fewer steps; a jump over a sum is one jump behind the other; one step is what Next does; conditions: none beyond the given statement. -/
import Derived.Test.YtfgpbmjmoobcnaaRows
import Derived.ProofKit
import Derived.Test.YtfgpbmjmoobcnaaAm5
set_option linter.all false
section
open Go Go.Am
open Go.Am.Dat (cells)
namespace Go.Proofs.Ytfgpbmjmoobcnaa
set_option maxHeartbeats 4000000
set_option maxRecDepth 100000
set_option linter.unusedSimpArgs false
set_option linter.unusedVariables false
theorem period_c (w : Wire) (hw : PerOk w) : FC Try.prog 126 [.agg (wireC w)] [] (enc (perW w : Int)) [] := by
  have hsp := perW_spec hw
  have hok := hw.ok
  have hok1 := runW_ok hok
  have hsm := runW_same w
  have hdr : ∀ i, runW w (i + 1) = stepS (runW w i) := fun i => rfl
  obtain ⟨⟨p1, p2⟩, p3, p4⟩ := hsp
  generalize hN : perW w = N at *
  obtain ⟨M, rfl⟩ : ∃ M, N = M + 1 := ⟨N - 1, by omega⟩
  have hweta : ({ bits := w.bits, taps := w.taps, top := w.top } : Wire) = w := rfl
  have hw1 : runW w 1 = stepS w := rfl
  refine fc_introC [] D.is126 (by simp) trivial trivial trivial trivial (fun cx _ hl _ => S_run [e109] 800 ?_)
  delta D.c126
  simp (maxSteps := 4000000) -implicitDefEqProofs only [D.rv126, wireC, Ent.of0, Ent.of1, Ent.of2, Ent.of3, V, bO, bt, bE, cb, cN, cU, gt, lk, cJ, bQ, cm, cr, bM, cn, cn.subCs, cT, bg, a9, cg, az, a3, bn, aJ, bz, bo, aY, bF, ax, cu, cO, c6, aq, aX, bR, cI, cj, cY, cR, aV, an, bY, bj, zC, argS, bG, cH, cP, cW, ah, aw, aW, aA, cd, leC, ca, bP, cG, cS, bU, ay, aL, cK, au, cp, a7, a7.viewCs, bH, bH.flatCs, aR, aR.LensOks, Value.oneCell', ↓reduceIte, ite_true, ite_false, if_true, if_false, Nat.reduceAdd, Nat.reduceSub, Nat.reduceMul, Nat.reduceEqDiff, Nat.reduceLT, Nat.reduceLeDiff, reduceCtorEq, Int.reduceToNat, forall_const, implies_true, bm, Ent.mk3, bC, bu, bw, a5, a6, aZ, bK, bB, bI, bJ, bk, cD, bD, cQ, rn, bT, bT.renCs, aT, aU, aN, aN.viewOks, aI, a8, a8.flatBs, aG, ag, aH, ar, aQ, bv, bv.keysBs, aE, am, bp, bS, be, cC, af, af.passKs, aB, aO, ae, ae.lendKs, bV, cq, bW, bq, setInn, ai, cZ, cL, aC, bf, bZ, cc, aD, aP, Glob.gl, av, co, bL, b0, br, aj, bX, cM, cB, cV, bN, ap, ap.ptrOnlys, ak, aK, cz, aM, a4, bA, ce, aF, bh, cF, Nat.reduceBEq, undef]
  refine S_draw [] 200 ?_
  simp (maxSteps := 4000000) -implicitDefEqProofs only [drS, robL, robC, reC, fixS, opSlots, AOp.reads, true_or, or_true, false_or, Ent.of0, Ent.of1, Ent.of2, Ent.of3, V, bO, bt, bE, cb, cN, cU, gt, lk, cJ, bQ, cm, cr, bM, cn, cn.subCs, cT, bg, a9, cg, az, a3, bn, aJ, bz, bo, aY, bF, ax, cu, cO, c6, aq, aX, bR, cI, cj, cY, cR, aV, an, bY, bj, zC, argS, bG, cH, cP, cW, ah, aw, aW, aA, cd, leC, ca, bP, cG, cS, bU, ay, aL, cK, au, cp, a7, a7.viewCs, bH, bH.flatCs, aR, aR.LensOks, Value.oneCell', ↓reduceIte, ite_true, ite_false, if_true, if_false, Nat.reduceAdd, Nat.reduceSub, Nat.reduceMul, Nat.reduceEqDiff, Nat.reduceLT, Nat.reduceLeDiff, reduceCtorEq, Int.reduceToNat, forall_const, implies_true, bm, Ent.mk3, bC, bu, bw, a5, a6, aZ, bK, bB, bI, bJ, bk, cD, bD, cQ, rn, bT, bT.renCs, aT, aU, aN, aN.viewOks, aI, a8, a8.flatBs, aG, ag, aH, ar, aQ, bv, bv.keysBs, aE, am, bp, bS, be, cC, af, af.passKs, aB, aO, ae, ae.lendKs, bV, cq, bW, bq, setInn, ai, cZ, cL, aC, bf, bZ, cc, aD, aP, Glob.gl, av, co, bL, b0, br, aj, bX, cM, cB, cV, bN, ap, ap.ptrOnlys, ak, aK, cz, aM, a4, bA, ce, aF, bh, cF, Nat.reduceBEq, undef]
  refine S_run [e109] 800 ?_
  simp (maxSteps := 4000000) -implicitDefEqProofs only [e109, wireI, Int.toNat_natCast, hweta, hok, Ent.of0, Ent.of1, Ent.of2, Ent.of3, V, bO, bt, bE, cb, cN, cU, gt, lk, cJ, bQ, cm, cr, bM, cn, cn.subCs, cT, bg, a9, cg, az, a3, bn, aJ, bz, bo, aY, bF, ax, cu, cO, c6, aq, aX, bR, cI, cj, cY, cR, aV, an, bY, bj, zC, argS, bG, cH, cP, cW, ah, aw, aW, aA, cd, leC, ca, bP, cG, cS, bU, ay, aL, cK, au, cp, a7, a7.viewCs, bH, bH.flatCs, aR, aR.LensOks, Value.oneCell', ↓reduceIte, ite_true, ite_false, if_true, if_false, Nat.reduceAdd, Nat.reduceSub, Nat.reduceMul, Nat.reduceEqDiff, Nat.reduceLT, Nat.reduceLeDiff, reduceCtorEq, Int.reduceToNat, forall_const, implies_true, bm, Ent.mk3, bC, bu, bw, a5, a6, aZ, bK, bB, bI, bJ, bk, cD, bD, cQ, rn, bT, bT.renCs, aT, aU, aN, aN.viewOks, aI, a8, a8.flatBs, aG, ag, aH, ar, aQ, bv, bv.keysBs, aE, am, bp, bS, be, cC, af, af.passKs, aB, aO, ae, ae.lendKs, bV, cq, bW, bq, setInn, ai, cZ, cL, aC, bf, bZ, cc, aD, aP, Glob.gl, av, co, bL, b0, br, aj, bX, cM, cB, cV, bN, ap, ap.ptrOnlys, ak, aK, cz, aM, a4, bA, ce, aF, bh, cF, Nat.reduceBEq, undef]
  refine ⟨by omega, ?_⟩
  refine S_forU M (fun i => [(3, .s (.int .i64 ((i : Int) + 1)))]) (fun i => [(4, .box (wireC (runW w (i + 1))))]) (fun _ => True) trivial ?_ (fun i hi _ => S_run [e109] 800 ?_)
  · simp (maxSteps := 4000000) -implicitDefEqProofs only [wireC, hw1, Ent.of0, Ent.of1, Ent.of2, Ent.of3, V, bO, bt, bE, cb, cN, cU, gt, lk, cJ, bQ, cm, cr, bM, cn, cn.subCs, cT, bg, a9, cg, az, a3, bn, aJ, bz, bo, aY, bF, ax, cu, cO, c6, aq, aX, bR, cI, cj, cY, cR, aV, an, bY, bj, zC, argS, bG, cH, cP, cW, ah, aw, aW, aA, cd, leC, ca, bP, cG, cS, bU, ay, aL, cK, au, cp, a7, a7.viewCs, bH, bH.flatCs, aR, aR.LensOks, Value.oneCell', ↓reduceIte, ite_true, ite_false, if_true, if_false, Nat.reduceAdd, Nat.reduceSub, Nat.reduceMul, Nat.reduceEqDiff, Nat.reduceLT, Nat.reduceLeDiff, reduceCtorEq, Int.reduceToNat, forall_const, implies_true, bm, Ent.mk3, bC, bu, bw, a5, a6, aZ, bK, bB, bI, bJ, bk, cD, bD, cQ, rn, bT, bT.renCs, aT, aU, aN, aN.viewOks, aI, a8, a8.flatBs, aG, ag, aH, ar, aQ, bv, bv.keysBs, aE, am, bp, bS, be, cC, af, af.passKs, aB, aO, ae, ae.lendKs, bV, cq, bW, bq, setInn, ai, cZ, cL, aC, bf, bZ, cc, aD, aP, Glob.gl, av, co, bL, b0, br, aj, bX, cM, cB, cV, bN, ap, ap.ptrOnlys, ak, aK, cz, aM, a4, bA, ce, aF, bh, cF, Nat.reduceBEq, undef]
    exact ⟨rfl, rfl⟩
  · have hok2 := hok1 (i + 1)
    have hsm2 := hsm (i + 1)
    have hne : (runW w (i + 1)).bits ≠ w.bits ∨ i = M := by
      by_cases h : i = M
      · exact .inr h
      · exact .inl (p4 (i + 1) (by omega) (by omega))
    by_cases h : i = M
    · subst h
      delta D.c126l1
      simp (maxSteps := 4000000) -implicitDefEqProofs only [D.rv126, wireC, p3, Ent.of0, Ent.of1, Ent.of2, Ent.of3, V, bO, bt, bE, cb, cN, cU, gt, lk, cJ, bQ, cm, cr, bM, cn, cn.subCs, cT, bg, a9, cg, az, a3, bn, aJ, bz, bo, aY, bF, ax, cu, cO, c6, aq, aX, bR, cI, cj, cY, cR, aV, an, bY, bj, zC, argS, bG, cH, cP, cW, ah, aw, aW, aA, cd, leC, ca, bP, cG, cS, bU, ay, aL, cK, au, cp, a7, a7.viewCs, bH, bH.flatCs, aR, aR.LensOks, Value.oneCell', ↓reduceIte, ite_true, ite_false, if_true, if_false, Nat.reduceAdd, Nat.reduceSub, Nat.reduceMul, Nat.reduceEqDiff, Nat.reduceLT, Nat.reduceLeDiff, reduceCtorEq, Int.reduceToNat, forall_const, implies_true, bm, Ent.mk3, bC, bu, bw, a5, a6, aZ, bK, bB, bI, bJ, bk, cD, bD, cQ, rn, bT, bT.renCs, aT, aU, aN, aN.viewOks, aI, a8, a8.flatBs, aG, ag, aH, ar, aQ, bv, bv.keysBs, aE, am, bp, bS, be, cC, af, af.passKs, aB, aO, ae, ae.lendKs, bV, cq, bW, bq, setInn, ai, cZ, cL, aC, bf, bZ, cc, aD, aP, Glob.gl, av, co, bL, b0, br, aj, bX, cM, cB, cV, bN, ap, ap.ptrOnlys, ak, aK, cz, aM, a4, bA, ce, aF, bh, cF, Nat.reduceBEq, undef]
      omega
    · have h2 : ¬ ((runW w (i + 1)).bits : Int) = (w.bits : Int) := by
        rcases hne with h3 | h3
        · omega
        · exact absurd h3 h
      have hweta2 : ({ bits := (runW w (i + 1)).bits, taps := (runW w (i + 1)).taps, top := (runW w (i + 1)).top } : Wire) = runW w (i + 1) := rfl
      delta D.c126l1
      simp (maxSteps := 4000000) -implicitDefEqProofs only [D.rv126, wireC, h2, e109, wireI, Int.toNat_natCast, hweta2, hok2, InR, Ent.of0, Ent.of1, Ent.of2, Ent.of3, V, bO, bt, bE, cb, cN, cU, gt, lk, cJ, bQ, cm, cr, bM, cn, cn.subCs, cT, bg, a9, cg, az, a3, bn, aJ, bz, bo, aY, bF, ax, cu, cO, c6, aq, aX, bR, cI, cj, cY, cR, aV, an, bY, bj, zC, argS, bG, cH, cP, cW, ah, aw, aW, aA, cd, leC, ca, bP, cG, cS, bU, ay, aL, cK, au, cp, a7, a7.viewCs, bH, bH.flatCs, aR, aR.LensOks, Value.oneCell', ↓reduceIte, ite_true, ite_false, if_true, if_false, Nat.reduceAdd, Nat.reduceSub, Nat.reduceMul, Nat.reduceEqDiff, Nat.reduceLT, Nat.reduceLeDiff, reduceCtorEq, Int.reduceToNat, forall_const, implies_true, bm, Ent.mk3, bC, bu, bw, a5, a6, aZ, bK, bB, bI, bJ, bk, cD, bD, cQ, rn, bT, bT.renCs, aT, aU, aN, aN.viewOks, aI, a8, a8.flatBs, aG, ag, aH, ar, aQ, bv, bv.keysBs, aE, am, bp, bS, be, cC, af, af.passKs, aB, aO, ae, ae.lendKs, bV, cq, bW, bq, setInn, ai, cZ, cL, aC, bf, bZ, cc, aD, aP, Glob.gl, av, co, bL, b0, br, aj, bX, cM, cB, cV, bN, ap, ap.ptrOnlys, ak, aK, cz, aM, a4, bA, ce, aF, bh, cF, Nat.reduceBEq, undef]
      exact ⟨by omega, by omega, by omega, by omega, rfl⟩
def e126 : Ent Try.prog := .mk3 126 (fun args chs => match args, chs with
    | [.agg [.s (.int .u16 b), .s (.int .u16 t), .s (.int .i64 p)]], [] => some ((0 ≤ b ∧ 0 ≤ t ∧ 0 ≤ p) ∧ PerOk (wireI b t p), enc (perW (wireI b t p) : Int), [], [])
    | _, _ => none) (by
  intro args chs p r chs' nk hs hp
  split at hs
  · simp only [Option.some.injEq, Prod.mk.injEq] at hs
    obtain ⟨rfl, rfl, rfl, rfl⟩ := hs
    obtain ⟨⟨h1, h2, h3⟩, hw⟩ := hp
    rename_i b t p
    have hc : wireC (wireI b t p) = [.s (.int .u16 b), .s (.int .u16 t), .s (.int .i64 p)] := by
      simp only [wireC, wireI, Int.toNat_of_nonneg h1, Int.toNat_of_nonneg h2, Int.toNat_of_nonneg h3]
    have := period_c (wireI b t p) hw
    rw [hc] at this
    exact ⟨this, .plain trivial⟩
  · cases hs)
theorem Period_c (r : Reg) : FC Try.prog 78 [enc r] [] (.tup [enc (if regErr r = 0 then (perR r : Int) else 0), enc (regErr r)]) [] := by
  refine fc_intro' is78 (by simp) (fun cx hl => S_run [e70, e108, e126] 800 ?_)
  have heta : ({ length := r.length, taps := r.taps, state := r.state } : Reg) = r := rfl
  by_cases he : regErr r = 0
  rotate_left
  · delta c78
    simp (maxSteps := 4000000) -implicitDefEqProofs only [rv78, e70, enc_reg, decV_reg, heta, he, Ent.of0, Ent.of1, Ent.of2, Ent.of3, V, bO, bt, bE, cb, cN, cU, gt, lk, cJ, bQ, cm, cr, bM, cn, cn.subCs, cT, bg, a9, cg, az, a3, bn, aJ, bz, bo, aY, bF, ax, cu, cO, c6, aq, aX, bR, cI, cj, cY, cR, aV, an, bY, bj, zC, argS, bG, cH, cP, cW, ah, aw, aW, aA, cd, leC, ca, bP, cG, cS, bU, ay, aL, cK, au, cp, a7, a7.viewCs, bH, bH.flatCs, aR, aR.LensOks, Value.oneCell', ↓reduceIte, ite_true, ite_false, if_true, if_false, Nat.reduceAdd, Nat.reduceSub, Nat.reduceMul, Nat.reduceEqDiff, Nat.reduceLT, Nat.reduceLeDiff, reduceCtorEq, Int.reduceToNat, forall_const, implies_true, bm, Ent.mk3, bC, bu, bw, a5, a6, aZ, bK, bB, bI, bJ, bk, cD, bD, cQ, rn, bT, bT.renCs, aT, aU, aN, aN.viewOks, aI, a8, a8.flatBs, aG, ag, aH, ar, aQ, bv, bv.keysBs, aE, am, bp, bS, be, cC, af, af.passKs, aB, aO, ae, ae.lendKs, bV, cq, bW, bq, setInn, ai, cZ, cL, aC, bf, bZ, cc, aD, aP, Glob.gl, av, co, bL, b0, br, aj, bX, cM, cB, cV, bN, ap, ap.ptrOnlys, ak, aK, cz, aM, a4, bA, ce, aF, bh, cF, Nat.reduceBEq, undef]
  have hr := regOk_of he
  have hp := perOk_wire hr
  have hpw := perW_wire hr
  have hweta : ({ bits := (wireW r).bits, taps := (wireW r).taps, top := (wireW r).top } : Wire) = wireW r := rfl
  delta c78
  simp (maxSteps := 4000000) -implicitDefEqProofs only [rv78, e70, e108, e126, enc_reg, decV_reg, heta, he, hr, hp, hpw, wireI, hweta, Int.toNat_natCast, Ent.of0, Ent.of1, Ent.of2, Ent.of3, V, bO, bt, bE, cb, cN, cU, gt, lk, cJ, bQ, cm, cr, bM, cn, cn.subCs, cT, bg, a9, cg, az, a3, bn, aJ, bz, bo, aY, bF, ax, cu, cO, c6, aq, aX, bR, cI, cj, cY, cR, aV, an, bY, bj, zC, argS, bG, cH, cP, cW, ah, aw, aW, aA, cd, leC, ca, bP, cG, cS, bU, ay, aL, cK, au, cp, a7, a7.viewCs, bH, bH.flatCs, aR, aR.LensOks, Value.oneCell', ↓reduceIte, ite_true, ite_false, if_true, if_false, Nat.reduceAdd, Nat.reduceSub, Nat.reduceMul, Nat.reduceEqDiff, Nat.reduceLT, Nat.reduceLeDiff, reduceCtorEq, Int.reduceToNat, forall_const, implies_true, bm, Ent.mk3, bC, bu, bw, a5, a6, aZ, bK, bB, bI, bJ, bk, cD, bD, cQ, rn, bT, bT.renCs, aT, aU, aN, aN.viewOks, aI, a8, a8.flatBs, aG, ag, aH, ar, aQ, bv, bv.keysBs, aE, am, bp, bS, be, cC, af, af.passKs, aB, aO, ae, ae.lendKs, bV, cq, bW, bq, setInn, ai, cZ, cL, aC, bf, bZ, cc, aD, aP, Glob.gl, av, co, bL, b0, br, aj, bX, cM, cB, cV, bN, ap, ap.ptrOnlys, ak, aK, cz, aM, a4, bA, ce, aF, bh, cF, Nat.reduceBEq, undef]
  omega
def e78 : Ent Try.prog := .of1 78 (fun _ => True) (fun r : Reg => .tup [enc (if regErr r = 0 then (perR r : Int) else 0), enc (regErr r)]) (fun _ => ⟨trivial, trivial, trivial⟩) (fun r _ => Period_c r)
def jumpErr (r : Reg) (n : Int) : Int := if regErr r ≠ 0 then regErr r else if 0 ≤ n ∧ n ≤ 1000000000 then 0 else 2
theorem Jumped_c (r : Reg) (n : Int) : FC Try.prog 73 [enc r, enc n] [] (.tup [if jumpErr r n = 0 then enc (runR r (n.toNat % perR r)) else zregC, enc (jumpErr r n)]) [] := by
  refine fc_introC [] is73 (by simp) trivial trivial trivial trivial (fun cx _ hl _ => S_run [e70, e103, e82, e80, e108, e126] 800 ?_)
  have hfs : firstS [regErr r, if 0 ≤ n ∧ n ≤ 1000000000 then 0 else 2] = jumpErr r n := by
    unfold jumpErr
    simp only [firstS]
    grind
  have heta : ({ length := r.length, taps := r.taps, state := r.state } : Reg) = r := rfl
  by_cases he : jumpErr r n = 0
  rotate_left
  · delta c73
    simp (maxSteps := 4000000) -implicitDefEqProofs only [rv73, e70, e103, e82, e80, enc_reg, decV_reg, heta, hfs, he, zregC, InR, Ent.of0, Ent.of1, Ent.of2, Ent.of3, V, bO, bt, bE, cb, cN, cU, gt, lk, cJ, bQ, cm, cr, bM, cn, cn.subCs, cT, bg, a9, cg, az, a3, bn, aJ, bz, bo, aY, bF, ax, cu, cO, c6, aq, aX, bR, cI, cj, cY, cR, aV, an, bY, bj, zC, argS, bG, cH, cP, cW, ah, aw, aW, aA, cd, leC, ca, bP, cG, cS, bU, ay, aL, cK, au, cp, a7, a7.viewCs, bH, bH.flatCs, aR, aR.LensOks, Value.oneCell', ↓reduceIte, ite_true, ite_false, if_true, if_false, Nat.reduceAdd, Nat.reduceSub, Nat.reduceMul, Nat.reduceEqDiff, Nat.reduceLT, Nat.reduceLeDiff, reduceCtorEq, Int.reduceToNat, forall_const, implies_true, bm, Ent.mk3, bC, bu, bw, a5, a6, aZ, bK, bB, bI, bJ, bk, cD, bD, cQ, rn, bT, bT.renCs, aT, aU, aN, aN.viewOks, aI, a8, a8.flatBs, aG, ag, aH, ar, aQ, bv, bv.keysBs, aE, am, bp, bS, be, cC, af, af.passKs, aB, aO, ae, ae.lendKs, bV, cq, bW, bq, setInn, ai, cZ, cL, aC, bf, bZ, cc, aD, aP, Glob.gl, av, co, bL, b0, br, aj, bX, cM, cB, cV, bN, ap, ap.ptrOnlys, ak, aK, cz, aM, a4, bA, ce, aF, bh, cF, Nat.reduceBEq, undef]
  have hre : regErr r = 0 := by
    unfold jumpErr at he
    split at he
    · contradiction
    · rename_i h; simpa using h
  have hn : 0 ≤ n ∧ n ≤ 1000000000 := by
    unfold jumpErr at he
    rw [if_neg (by simpa using hre)] at he
    split at he
    · assumption
    · cases he
  have hr := regOk_of hre
  obtain ⟨N, rfl⟩ : ∃ N : Nat, n = (N : Int) := ⟨n.toNat, by omega⟩
  have hp := perOk_wire hr
  have hpw := perW_wire hr
  have hsp := perR_spec hr
  have hok := runW_ok (wireW_ok hr)
  have hmod : (N : Int).tmod (perR r : Int) = ((N % perR r : Nat) : Int) := by
    rw [Int.tmod_eq_emod_of_nonneg (by omega)]; push_cast; rfl
  have hweta : ({ bits := (wireW r).bits, taps := (wireW r).taps, top := (wireW r).top } : Wire) = wireW r := rfl
  have hml : N % perR r < perR r := Nat.mod_lt _ (by omega)
  have htl := hr.tl
  have htl2 : r.taps.length ≤ 1000000 := by omega
  have ht := hr.ne
  delta c73
  simp (maxSteps := 4000000) -implicitDefEqProofs only [rv73, e70, e103, e82, e80, e108, e126, enc_reg, decV_reg, heta, hfs, he, hr, hp, hpw, hmod, wireI, hweta, Int.toNat_natCast, InR, Ent.of0, Ent.of1, Ent.of2, Ent.of3, V, bO, bt, bE, cb, cN, cU, gt, lk, cJ, bQ, cm, cr, bM, cn, cn.subCs, cT, bg, a9, cg, az, a3, bn, aJ, bz, bo, aY, bF, ax, cu, cO, c6, aq, aX, bR, cI, cj, cY, cR, aV, an, bY, bj, zC, argS, bG, cH, cP, cW, ah, aw, aW, aA, cd, leC, ca, bP, cG, cS, bU, ay, aL, cK, au, cp, a7, a7.viewCs, bH, bH.flatCs, aR, aR.LensOks, Value.oneCell', ↓reduceIte, ite_true, ite_false, if_true, if_false, Nat.reduceAdd, Nat.reduceSub, Nat.reduceMul, Nat.reduceEqDiff, Nat.reduceLT, Nat.reduceLeDiff, reduceCtorEq, Int.reduceToNat, forall_const, implies_true, bm, Ent.mk3, bC, bu, bw, a5, a6, aZ, bK, bB, bI, bJ, bk, cD, bD, cQ, rn, bT, bT.renCs, aT, aU, aN, aN.viewOks, aI, a8, a8.flatBs, aG, ag, aH, ar, aQ, bv, bv.keysBs, aE, am, bp, bS, be, cC, af, af.passKs, aB, aO, ae, ae.lendKs, bV, cq, bW, bq, setInn, ai, cZ, cL, aC, bf, bZ, cc, aD, aP, Glob.gl, av, co, bL, b0, br, aj, bX, cM, cB, cV, bN, ap, ap.ptrOnlys, ak, aK, cz, aM, a4, bA, ce, aF, bh, cF, Nat.reduceBEq, undef]
  generalize N % perR r = k at *
  refine ⟨by omega, by omega, ?_⟩
  refine S_forU k (fun i => [(25, .s (.int .i64 (i : Int)))]) (fun i => [(7, .box (wireC (runW (wireW r) i)))]) (fun _ => True) trivial ?_ (fun i hi _ => S_run [e109, e124] 800 ?_)
  · simp (maxSteps := 4000000) -implicitDefEqProofs only [wireC, runW, Ent.of0, Ent.of1, Ent.of2, Ent.of3, V, bO, bt, bE, cb, cN, cU, gt, lk, cJ, bQ, cm, cr, bM, cn, cn.subCs, cT, bg, a9, cg, az, a3, bn, aJ, bz, bo, aY, bF, ax, cu, cO, c6, aq, aX, bR, cI, cj, cY, cR, aV, an, bY, bj, zC, argS, bG, cH, cP, cW, ah, aw, aW, aA, cd, leC, ca, bP, cG, cS, bU, ay, aL, cK, au, cp, a7, a7.viewCs, bH, bH.flatCs, aR, aR.LensOks, Value.oneCell', ↓reduceIte, ite_true, ite_false, if_true, if_false, Nat.reduceAdd, Nat.reduceSub, Nat.reduceMul, Nat.reduceEqDiff, Nat.reduceLT, Nat.reduceLeDiff, reduceCtorEq, Int.reduceToNat, forall_const, implies_true, bm, Ent.mk3, bC, bu, bw, a5, a6, aZ, bK, bB, bI, bJ, bk, cD, bD, cQ, rn, bT, bT.renCs, aT, aU, aN, aN.viewOks, aI, a8, a8.flatBs, aG, ag, aH, ar, aQ, bv, bv.keysBs, aE, am, bp, bS, be, cC, af, af.passKs, aB, aO, ae, ae.lendKs, bV, cq, bW, bq, setInn, ai, cZ, cL, aC, bf, bZ, cc, aD, aP, Glob.gl, av, co, bL, b0, br, aj, bX, cM, cB, cV, bN, ap, ap.ptrOnlys, ak, aK, cz, aM, a4, bA, ce, aF, bh, cF, Nat.reduceBEq, undef]; simp
  · have hok2 := hok i
    have hweta2 : ({ bits := (runW (wireW r) i).bits, taps := (runW (wireW r) i).taps, top := (runW (wireW r) i).top } : Wire) = runW (wireW r) i := rfl
    by_cases h : i < k
    · have hi2 : (i : Int) < (k : Int) := by omega
      delta c73l1
      simp (maxSteps := 4000000) -implicitDefEqProofs only [rv73, wireC, hi2, e109, wireI, Int.toNat_natCast, hweta2, hok2, InR, Ent.of0, Ent.of1, Ent.of2, Ent.of3, V, bO, bt, bE, cb, cN, cU, gt, lk, cJ, bQ, cm, cr, bM, cn, cn.subCs, cT, bg, a9, cg, az, a3, bn, aJ, bz, bo, aY, bF, ax, cu, cO, c6, aq, aX, bR, cI, cj, cY, cR, aV, an, bY, bj, zC, argS, bG, cH, cP, cW, ah, aw, aW, aA, cd, leC, ca, bP, cG, cS, bU, ay, aL, cK, au, cp, a7, a7.viewCs, bH, bH.flatCs, aR, aR.LensOks, Value.oneCell', ↓reduceIte, ite_true, ite_false, if_true, if_false, Nat.reduceAdd, Nat.reduceSub, Nat.reduceMul, Nat.reduceEqDiff, Nat.reduceLT, Nat.reduceLeDiff, reduceCtorEq, Int.reduceToNat, forall_const, implies_true, bm, Ent.mk3, bC, bu, bw, a5, a6, aZ, bK, bB, bI, bJ, bk, cD, bD, cQ, rn, bT, bT.renCs, aT, aU, aN, aN.viewOks, aI, a8, a8.flatBs, aG, ag, aH, ar, aQ, bv, bv.keysBs, aE, am, bp, bS, be, cC, af, af.passKs, aB, aO, ae, ae.lendKs, bV, cq, bW, bq, setInn, ai, cZ, cL, aC, bf, bZ, cc, aD, aP, Glob.gl, av, co, bL, b0, br, aj, bX, cM, cB, cV, bN, ap, ap.ptrOnlys, ak, aK, cz, aM, a4, bA, ce, aF, bh, cF, Nat.reduceBEq, undef]
      exact ⟨by omega, by omega, h, by omega, rfl⟩
    · have hi2 : ¬ (i : Int) < (k : Int) := by omega
      have hie : i = k := by omega
      subst hie
      have hb := behind_run hr i
      delta c73l1
      simp (maxSteps := 4000000) -implicitDefEqProofs only [rv73, wireC, hi2, e109, e124, decV_reg, wireI, Int.toNat_natCast, hweta2, hok2, ht, htl2, hb, enc_reg, he, InR, Ent.of0, Ent.of1, Ent.of2, Ent.of3, V, bO, bt, bE, cb, cN, cU, gt, lk, cJ, bQ, cm, cr, bM, cn, cn.subCs, cT, bg, a9, cg, az, a3, bn, aJ, bz, bo, aY, bF, ax, cu, cO, c6, aq, aX, bR, cI, cj, cY, cR, aV, an, bY, bj, zC, argS, bG, cH, cP, cW, ah, aw, aW, aA, cd, leC, ca, bP, cG, cS, bU, ay, aL, cK, au, cp, a7, a7.viewCs, bH, bH.flatCs, aR, aR.LensOks, Value.oneCell', ↓reduceIte, ite_true, ite_false, if_true, if_false, Nat.reduceAdd, Nat.reduceSub, Nat.reduceMul, Nat.reduceEqDiff, Nat.reduceLT, Nat.reduceLeDiff, reduceCtorEq, Int.reduceToNat, forall_const, implies_true, bm, Ent.mk3, bC, bu, bw, a5, a6, aZ, bK, bB, bI, bJ, bk, cD, bD, cQ, rn, bT, bT.renCs, aT, aU, aN, aN.viewOks, aI, a8, a8.flatBs, aG, ag, aH, ar, aQ, bv, bv.keysBs, aE, am, bp, bS, be, cC, af, af.passKs, aB, aO, ae, ae.lendKs, bV, cq, bW, bq, setInn, ai, cZ, cL, aC, bf, bZ, cc, aD, aP, Glob.gl, av, co, bL, b0, br, aj, bX, cM, cB, cV, bN, ap, ap.ptrOnlys, ak, aK, cz, aM, a4, bA, ce, aF, bh, cF, Nat.reduceBEq, undef]
      refine ⟨by omega, ?_⟩
      rw [← hb]
def e73 : Ent Try.prog := .of2 73 (fun _ _ => True) (fun (r : Reg) (n : Int) => .tup [if jumpErr r n = 0 then enc (runR r (n.toNat % perR r)) else zregC, enc (jumpErr r n)]) (fun r n => ⟨wf_regC _, trivial, trivial⟩) (fun r n _ => Jumped_c r n)
end Go.Proofs.Ytfgpbmjmoobcnaa
end
section
open Go Go.Am
open Go.Am.Dat (cells)
namespace Go.Proofs.Ytfgpbmjmoobcnaa
set_option maxHeartbeats 4000000
set_option maxRecDepth 100000
set_option linter.unusedSimpArgs false
set_option linter.unusedVariables false
theorem FC.leA2 {P : Program} [Glob P] {f : FuncId} {a b a' b' : C} {chs : Chs} {r : C} {chs' : Chs} (h1 : leC a a') (h2 : leC b b') (hf : FC P f [a', b'] chs r chs') : FC P f [a, b] chs r chs' :=
  ⟨hf.1, fun E U vs w hg ha hi => hf.2 E U vs w hg ⟨ha.1, fun j c hj => by
    match j, hj with
    | 0, hj => cases hj; exact leC_rep h1 (ha.2 0 a rfl)
    | 1, hj => cases hj; exact leC_rep h2 (ha.2 1 b rfl)⟩ hi⟩
theorem SameRegZ_c (a b : Int) : FC Try.prog 74 [.agg [.s (.int .i64 a), .s (.slice none 0 0), .s (.slice none 0 0)], .agg [.s (.int .i64 b), .s (.slice none 0 0), .s (.slice none 0 0)]] [] (enc (decide (a = b))) [] := by
  have h := SameReg_c' ⟨a, [], []⟩ ⟨b, [], []⟩
  have e : decide ((⟨a, [], []⟩ : Reg) = ⟨b, [], []⟩) = decide (a = b) := by rw [decide_eq_decide]; simp
  rw [e] at h
  exact FC.leA2 (a' := enc (⟨a, [], []⟩ : Reg)) (b' := enc (⟨b, [], []⟩ : Reg)) ⟨rfl, trivial, trivial, trivial⟩ ⟨rfl, trivial, trivial, trivial⟩ h
def e74Z : Ent Try.prog := .mk3 74 (fun args chs => match args, chs with
    | [.agg [.s (.int .i64 a), .s (.slice none 0 0), .s (.slice none 0 0)], .agg [.s (.int .i64 b), .s (.slice none 0 0), .s (.slice none 0 0)]], [] => some (True, enc (decide (a = b)), [], [])
    | [.agg [.s (.int .i64 a), .sl 1 t, .sl 1 s], .agg [.s (.int .i64 b), .sl 1 t2, .sl 1 s2]], [] => (decL t : Option (List Int)).bind fun t' => (decL s : Option (List Int)).bind fun s' => (decL t2 : Option (List Int)).bind fun t2' => (decL s2 : Option (List Int)).bind fun s2' => some (True, enc (decide ((⟨a, t', s'⟩ : Reg) = ⟨b, t2', s2'⟩)), [], [])
    | _, _ => none) (by
  intro args chs p r chs' nk hs hp
  split at hs
  · simp only [Option.some.injEq, Prod.mk.injEq] at hs
    obtain ⟨rfl, rfl, rfl, rfl⟩ := hs
    exact ⟨SameRegZ_c _ _, .plain trivial⟩
  · simp only [Option.bind_eq_some_iff, Option.some.injEq, Prod.mk.injEq] at hs
    obtain ⟨t', ht, s', hs', t2', ht2, s2', hs2', rfl, rfl, rfl, rfl⟩ := hs
    have := decL_ok ht
    subst this
    have := decL_ok hs'
    subst this
    have := decL_ok ht2
    subst this
    have := decL_ok hs2'
    subst this
    exact ⟨SameReg_c' ⟨_, t', s'⟩ ⟨_, t2', s2'⟩, .plain trivial⟩
  · cases hs)
theorem short_len {r : Reg} (hs : shortS r = true) : r.taps.length ≤ 1000000 ∧ r.state.length ≤ 1000000 := by
  unfold shortS at hs
  simp at hs
  omega
end Go.Proofs.Ytfgpbmjmoobcnaa
end
section
open Go Go.Am
open Go.Am.Dat (cells)
namespace Go.Proofs.Ytfgpbmjmoobcnaa
set_option maxHeartbeats 4000000
set_option maxRecDepth 100000
set_option linter.unusedSimpArgs false
set_option linter.unusedVariables false
def regBx (r : Reg) : List C := [.s (.int .i64 r.length), .sl 1 (r.taps.map cells), .sl 1 (r.state.map cells)]
structure RgF (r : Reg) : Prop where
  ok : RegOk r
  err : regErr r = 0
  tl : r.taps.length ≤ 1000000
  sl : r.state.length ≤ 1000000
  p1 : 1 ≤ perR r
  p2 : perR r ≤ 1024
theorem rgF {r : Reg} (h : RegOk r) : RgF r := by
  have h1 := h.tl
  have h2 := h.stl
  have h3 := h.len
  have h4 := (perR_spec h).1
  exact ⟨h, regErr_ok h, by omega, by omega, h4.1, h4.2⟩
theorem jumpErr_ok {r : Reg} (h : RegOk r) {n : Int} (hn : 0 ≤ n ∧ n ≤ 1000000000) : jumpErr r n = 0 := by
  unfold jumpErr
  rw [if_neg (by simpa using regErr_ok h), if_pos hn]
theorem per_k1 (cx : Cx) (r : Reg) (a b : Int) (hr : RegOk r) (ha : 0 ≤ a ∧ a ≤ 500000000) (hb : 0 ≤ b ∧ b ≤ 500000000) : SG Try.prog cx (bG D.rv14 [] (enc true) []) [.c (.cut D.c14k1)] ⟨[(1, .s (.int .i64 a)), (2, .s (.int .i64 b)), (3, .ptr 3 0)], [(3, .box (regBx r))]⟩ := by
  have f := rgF hr
  obtain ⟨f1, f2, f3, f4, f5, f6⟩ := f
  obtain ⟨A, rfl⟩ : ∃ A : Nat, a = (A : Int) := ⟨a.toNat, by omega⟩
  obtain ⟨B, rfl⟩ : ∃ B : Nat, b = (B : Int) := ⟨b.toNat, by omega⟩
  have hx1 := rgF (runR_ok hr (A % perR r))
  have hx2 := per_run hr (A % perR r)
  have hx3 : runR (runR r (A % perR r)) (B % perR r) = runR r ((A + B) % perR r) := by
    rw [← runR_add, ← run_mod hr, ← run_mod hr ((A + B) % perR r)]
    congr 1
    simp [Nat.add_mod]
  have hab : ((A : Int) + (B : Int)) = ((A + B : Nat) : Int) := by push_cast; rfl
  have jA := jumpErr_ok hr (n := (A : Int)) (by omega)
  have jAB := jumpErr_ok hr (n := ((A + B : Nat) : Int)) (by omega)
  have jB := jumpErr_ok (runR_ok hr (A % perR r)) (n := (B : Int)) (by omega)
  generalize hX : runR r (A % perR r) = X at *
  generalize hY : runR r ((A + B) % perR r) = Y at *
  obtain ⟨g1, g2, g3, g4, g5, g6⟩ := hx1
  rw [← hx2] at hx3
  have heta : ({ length := r.length, taps := r.taps, state := r.state } : Reg) = r := rfl
  have hetaX : ({ length := X.length, taps := X.taps, state := X.state } : Reg) = X := rfl
  have hetaY : ({ length := Y.length, taps := Y.taps, state := Y.state } : Reg) = Y := rfl
  have hdec : ∀ a : Reg, decide (a = a) = true := fun a => decide_eq_true rfl
  have hab2 : (A : Int) + (B : Int) ≤ 9223372036854775807 := by omega
  refine S_uncut (S_run [e43, e73, e44, e74Z] 1500 ?_)
  delta D.c14k1
  simp (maxSteps := 4000000) -implicitDefEqProofs only [D.rv14, regBx, enc_reg, decV_reg, heta, hetaX, hetaY, e43, e73, e44, e74Z, f2, f3, f4, g2, g3, g4, jA, jB, Int.toNat_natCast, hX, hY, hx3, hdec, hab, jAB, InR, Ent.of0, Ent.of1, Ent.of2, Ent.of3, V, bO, bt, bE, cb, cN, cU, gt, lk, cJ, bQ, cm, cr, bM, cn, cn.subCs, cT, bg, a9, cg, az, a3, bn, aJ, bz, bo, aY, bF, ax, cu, cO, c6, aq, aX, bR, cI, cj, cY, cR, aV, an, bY, bj, zC, argS, bG, cH, cP, cW, ah, aw, aW, aA, cd, leC, ca, bP, cG, cS, bU, ay, aL, cK, au, cp, a7, a7.viewCs, bH, bH.flatCs, aR, aR.LensOks, Value.oneCell', ↓reduceIte, ite_true, ite_false, if_true, if_false, Nat.reduceAdd, Nat.reduceSub, Nat.reduceMul, Nat.reduceEqDiff, Nat.reduceLT, Nat.reduceLeDiff, reduceCtorEq, Int.reduceToNat, forall_const, implies_true, bm, Ent.mk3, bC, bu, bw, a5, a6, aZ, bK, bB, bI, bJ, bk, cD, bD, cQ, rn, bT, bT.renCs, aT, aU, aN, aN.viewOks, aI, a8, a8.flatBs, aG, ag, aH, ar, aQ, bv, bv.keysBs, aE, am, bp, bS, be, cC, af, af.passKs, aB, aO, ae, ae.lendKs, bV, cq, bW, bq, setInn, ai, cZ, cL, aC, bf, bZ, cc, aD, aP, Glob.gl, av, co, bL, b0, br, aj, bX, cM, cB, cV, bN, ap, ap.ptrOnlys, ak, aK, cz, aM, a4, bA, ce, aF, bh, cF, Nat.reduceBEq, undef]
  omega
theorem per_k2 (cx : Cx) (r : Reg) (A : Nat) (b : Int) (hr : RegOk r) (ha : A ≤ 500000000) (hb : 0 ≤ b ∧ b ≤ 500000000) : SG Try.prog cx (bG D.rv14 [] (enc true) []) [.c (.cut D.c14k2)] ⟨[(1, .s (.int .i64 (A : Int))), (2, .s (.int .i64 b)), (3, .ptr 3 0), (7, .s (.int .i64 (perR r : Int))), (11, .ptr 11 0)], [(3, .box (regBx r)), (11, .box (regBx (runR r (A % perR r))))]⟩ := by
  obtain ⟨f1, f2, f3, f4, f5, f6⟩ := rgF hr
  have hsp := (perR_spec hr).2.2 (A % perR r)
  have hm : (A : Int) % (perR r : Int) = ((A % perR r : Nat) : Int) := by push_cast; rfl
  have hlt : A % perR r < perR r := Nat.mod_lt _ f5
  generalize A % perR r = m at *
  generalize hX : runR r m = X at *
  have hp0 : (0 : Int) < (perR r : Int) ∧ (perR r : Int) ≤ 4611686018427387903 := by omega
  have hR := per_k1 cx r (A : Int) b hr (by omega) hb
  refine S_uncut (S_run [e31, e37] 1500 ?_)
  by_cases h0 : m = 0
  · subst h0
    have h1 : ((0 : Nat) : Int) = 0 := rfl
    delta D.c14k2
    simp (maxSteps := 4000000) -implicitDefEqProofs only [D.rv14, regBx, e31, e37, hm, hp0, h1, Ent.of0, Ent.of1, Ent.of2, Ent.of3, V, bO, bt, bE, cb, cN, cU, gt, lk, cJ, bQ, cm, cr, bM, cn, cn.subCs, cT, bg, a9, cg, az, a3, bn, aJ, bz, bo, aY, bF, ax, cu, cO, c6, aq, aX, bR, cI, cj, cY, cR, aV, an, bY, bj, zC, argS, bG, cH, cP, cW, ah, aw, aW, aA, cd, leC, ca, bP, cG, cS, bU, ay, aL, cK, au, cp, a7, a7.viewCs, bH, bH.flatCs, aR, aR.LensOks, Value.oneCell', ↓reduceIte, ite_true, ite_false, if_true, if_false, Nat.reduceAdd, Nat.reduceSub, Nat.reduceMul, Nat.reduceEqDiff, Nat.reduceLT, Nat.reduceLeDiff, reduceCtorEq, Int.reduceToNat, forall_const, implies_true, bm, Ent.mk3, bC, bu, bw, a5, a6, aZ, bK, bB, bI, bJ, bk, cD, bD, cQ, rn, bT, bT.renCs, aT, aU, aN, aN.viewOks, aI, a8, a8.flatBs, aG, ag, aH, ar, aQ, bv, bv.keysBs, aE, am, bp, bS, be, cC, af, af.passKs, aB, aO, ae, ae.lendKs, bV, cq, bW, bq, setInn, ai, cZ, cL, aC, bf, bZ, cc, aD, aP, Glob.gl, av, co, bL, b0, br, aj, bX, cM, cB, cV, bN, ap, ap.ptrOnlys, ak, aK, cz, aM, a4, bA, ce, aF, bh, cF, Nat.reduceBEq, undef]
    refine S_leS ?_ hR
    simp (maxSteps := 4000000) -implicitDefEqProofs only [regBx, Ent.of0, Ent.of1, Ent.of2, Ent.of3, V, bO, bt, bE, cb, cN, cU, gt, lk, cJ, bQ, cm, cr, bM, cn, cn.subCs, cT, bg, a9, cg, az, a3, bn, aJ, bz, bo, aY, bF, ax, cu, cO, c6, aq, aX, bR, cI, cj, cY, cR, aV, an, bY, bj, zC, argS, bG, cH, cP, cW, ah, aw, aW, aA, cd, leC, ca, bP, cG, cS, bU, ay, aL, cK, au, cp, a7, a7.viewCs, bH, bH.flatCs, aR, aR.LensOks, Value.oneCell', ↓reduceIte, ite_true, ite_false, if_true, if_false, Nat.reduceAdd, Nat.reduceSub, Nat.reduceMul, Nat.reduceEqDiff, Nat.reduceLT, Nat.reduceLeDiff, reduceCtorEq, Int.reduceToNat, forall_const, implies_true, bm, Ent.mk3, bC, bu, bw, a5, a6, aZ, bK, bB, bI, bJ, bk, cD, bD, cQ, rn, bT, bT.renCs, aT, aU, aN, aN.viewOks, aI, a8, a8.flatBs, aG, ag, aH, ar, aQ, bv, bv.keysBs, aE, am, bp, bS, be, cC, af, af.passKs, aB, aO, ae, ae.lendKs, bV, cq, bW, bq, setInn, ai, cZ, cL, aC, bf, bZ, cc, aD, aP, Glob.gl, av, co, bL, b0, br, aj, bX, cM, cB, cV, bN, ap, ap.ptrOnlys, ak, aK, cz, aM, a4, bA, ce, aF, bh, cF, Nat.reduceBEq, undef]
  · have h1 : ¬ (m : Int) = 0 := by omega
    have h2 := hsp (by omega) hlt
    delta D.c14k2
    simp (maxSteps := 4000000) -implicitDefEqProofs only [D.rv14, regBx, e31, e37, hm, hp0, h1, h2, Ent.of0, Ent.of1, Ent.of2, Ent.of3, V, bO, bt, bE, cb, cN, cU, gt, lk, cJ, bQ, cm, cr, bM, cn, cn.subCs, cT, bg, a9, cg, az, a3, bn, aJ, bz, bo, aY, bF, ax, cu, cO, c6, aq, aX, bR, cI, cj, cY, cR, aV, an, bY, bj, zC, argS, bG, cH, cP, cW, ah, aw, aW, aA, cd, leC, ca, bP, cG, cS, bU, ay, aL, cK, au, cp, a7, a7.viewCs, bH, bH.flatCs, aR, aR.LensOks, Value.oneCell', ↓reduceIte, ite_true, ite_false, if_true, if_false, Nat.reduceAdd, Nat.reduceSub, Nat.reduceMul, Nat.reduceEqDiff, Nat.reduceLT, Nat.reduceLeDiff, reduceCtorEq, Int.reduceToNat, forall_const, implies_true, bm, Ent.mk3, bC, bu, bw, a5, a6, aZ, bK, bB, bI, bJ, bk, cD, bD, cQ, rn, bT, bT.renCs, aT, aU, aN, aN.viewOks, aI, a8, a8.flatBs, aG, ag, aH, ar, aQ, bv, bv.keysBs, aE, am, bp, bS, be, cC, af, af.passKs, aB, aO, ae, ae.lendKs, bV, cq, bW, bq, setInn, ai, cZ, cL, aC, bf, bZ, cc, aD, aP, Glob.gl, av, co, bL, b0, br, aj, bX, cM, cB, cV, bN, ap, ap.ptrOnlys, ak, aK, cz, aM, a4, bA, ce, aF, bh, cF, Nat.reduceBEq, undef]
    refine S_leS ?_ hR
    simp (maxSteps := 4000000) -implicitDefEqProofs only [regBx, Ent.of0, Ent.of1, Ent.of2, Ent.of3, V, bO, bt, bE, cb, cN, cU, gt, lk, cJ, bQ, cm, cr, bM, cn, cn.subCs, cT, bg, a9, cg, az, a3, bn, aJ, bz, bo, aY, bF, ax, cu, cO, c6, aq, aX, bR, cI, cj, cY, cR, aV, an, bY, bj, zC, argS, bG, cH, cP, cW, ah, aw, aW, aA, cd, leC, ca, bP, cG, cS, bU, ay, aL, cK, au, cp, a7, a7.viewCs, bH, bH.flatCs, aR, aR.LensOks, Value.oneCell', ↓reduceIte, ite_true, ite_false, if_true, if_false, Nat.reduceAdd, Nat.reduceSub, Nat.reduceMul, Nat.reduceEqDiff, Nat.reduceLT, Nat.reduceLeDiff, reduceCtorEq, Int.reduceToNat, forall_const, implies_true, bm, Ent.mk3, bC, bu, bw, a5, a6, aZ, bK, bB, bI, bJ, bk, cD, bD, cQ, rn, bT, bT.renCs, aT, aU, aN, aN.viewOks, aI, a8, a8.flatBs, aG, ag, aH, ar, aQ, bv, bv.keysBs, aE, am, bp, bS, be, cC, af, af.passKs, aB, aO, ae, ae.lendKs, bV, cq, bW, bq, setInn, ai, cZ, cL, aC, bf, bZ, cc, aD, aP, Glob.gl, av, co, bL, b0, br, aj, bX, cM, cB, cV, bN, ap, ap.ptrOnlys, ak, aK, cz, aM, a4, bA, ce, aF, bh, cF, Nat.reduceBEq, undef]
def perK3 : AC := .seq (.seq (.region false [⟨some 86, none, .mv (.tmp 10), false⟩, ⟨some 87, none, .bin .neq 25 (.tmp 86) (.const (.int .i64 0)), false⟩, ⟨some 88, none, .mv (.tmp 87), false⟩, ⟨some 89, some (88, false), .mv (.tmp 12), false⟩, ⟨some 90, some (88, false), .bin .neq 25 (.tmp 89) (.const (.int .i64 0)), false⟩, ⟨some 91, none, .pick (.tmp 88) (.const (.bool true)) (.tmp 90), false⟩, ⟨some 92, none, .mv (.tmp 91), false⟩, ⟨some 93, some (92, false), .mv (.tmp 15), false⟩, ⟨some 94, some (92, false), .bin .neq 25 (.tmp 93) (.const (.int .i64 0)), false⟩, ⟨some 95, none, .pick (.tmp 92) (.const (.bool true)) (.tmp 94), false⟩, ⟨some 96, none, .mv (.tmp 95), false⟩, ⟨some 97, some (96, false), .mv (.tmp 17), false⟩, ⟨some 98, some (96, false), .bin .neq 25 (.tmp 97) (.const (.int .i64 0)), false⟩, ⟨some 99, none, .pick (.tmp 96) (.const (.bool true)) (.tmp 98), false⟩, ⟨some 100, none, .mv (.tmp 99), false⟩, ⟨some 101, some (100, false), .load true 3 (.tmp 9), false⟩, ⟨some 102, some (100, false), .load true 3 (.tmp 3), false⟩, ⟨some 103, some (100, false), .call (.func 74) [(.tmp 101), (.tmp 102)], false⟩, ⟨some 104, some (100, false), .un .not (.tmp 103), false⟩, ⟨some 105, none, .pick (.tmp 100) (.const (.bool true)) (.tmp 104), false⟩, ⟨some 106, none, .mv (.tmp 105), false⟩, ⟨some 107, some (106, false), .load true 3 (.tmp 14), false⟩, ⟨some 108, some (106, false), .load true 3 (.tmp 16), false⟩, ⟨some 109, some (106, false), .call (.func 74) [(.tmp 107), (.tmp 108)], false⟩, ⟨some 110, some (106, false), .un .not (.tmp 109), false⟩, ⟨some 111, none, .pick (.tmp 106) (.const (.bool true)) (.tmp 110), false⟩]) (.keep [1, 2, 3, 7, 11, 111] (.cond (.tmp 111) (.seq (.region false [⟨some 6, none, .mv (.const (.bool false)), false⟩]) (.keep [6] (.ret))) (.skip)))) (.keep [1, 2, 3, 7, 11] (.cut D.c14k2))
theorem perK3_eq : D.c14k3 = perK3 := rfl
theorem per_k3 (cx : Cx) (r : Reg) (A : Nat) (b : Int) (hr : RegOk r) (ha : A ≤ 500000000) (hb : 0 ≤ b ∧ b ≤ 500000000) : SG Try.prog cx (bG D.rv14 [] (enc true) []) [.c (.cut D.c14k3)] ⟨[(1, .s (.int .i64 (A : Int))), (2, .s (.int .i64 b)), (3, .ptr 3 0), (7, .s (.int .i64 (perR r : Int))), (9, .ptr 9 0), (10, .s (.int .i64 0)), (11, .ptr 11 0), (12, .s (.int .i64 0)), (14, .ptr 14 0), (15, .s (.int .i64 0)), (16, .ptr 16 0), (17, .s (.int .i64 0))], [(3, .box (regBx r)), (9, .box (regBx r)), (11, .box (regBx (runR r (A % perR r)))), (14, .box (regBx (nextR r))), (16, .box (regBx (nextR r)))]⟩ := by
  have hR := per_k2 cx r A b hr ha hb
  generalize nextR r = X at *
  generalize runR r (A % perR r) = Z at *
  generalize perR r = p at *
  have heta : ({ length := r.length, taps := r.taps, state := r.state } : Reg) = r := rfl
  have hetaX : ({ length := X.length, taps := X.taps, state := X.state } : Reg) = X := rfl
  have hdec : ∀ a : Reg, decide (a = a) = true := fun a => decide_eq_true rfl
  rw [perK3_eq]
  refine S_uncut (S_run [e74] 1500 ?_)
  simp (maxSteps := 4000000) -implicitDefEqProofs only [perK3, D.rv14, regBx, enc_reg, decV_reg, heta, hetaX, e74, hdec, Ent.of0, Ent.of1, Ent.of2, Ent.of3, V, bO, bt, bE, cb, cN, cU, gt, lk, cJ, bQ, cm, cr, bM, cn, cn.subCs, cT, bg, a9, cg, az, a3, bn, aJ, bz, bo, aY, bF, ax, cu, cO, c6, aq, aX, bR, cI, cj, cY, cR, aV, an, bY, bj, zC, argS, bG, cH, cP, cW, ah, aw, aW, aA, cd, leC, ca, bP, cG, cS, bU, ay, aL, cK, au, cp, a7, a7.viewCs, bH, bH.flatCs, aR, aR.LensOks, Value.oneCell', ↓reduceIte, ite_true, ite_false, if_true, if_false, Nat.reduceAdd, Nat.reduceSub, Nat.reduceMul, Nat.reduceEqDiff, Nat.reduceLT, Nat.reduceLeDiff, reduceCtorEq, Int.reduceToNat, forall_const, implies_true, bm, Ent.mk3, bC, bu, bw, a5, a6, aZ, bK, bB, bI, bJ, bk, cD, bD, cQ, rn, bT, bT.renCs, aT, aU, aN, aN.viewOks, aI, a8, a8.flatBs, aG, ag, aH, ar, aQ, bv, bv.keysBs, aE, am, bp, bS, be, cC, af, af.passKs, aB, aO, ae, ae.lendKs, bV, cq, bW, bq, setInn, ai, cZ, cL, aC, bf, bZ, cc, aD, aP, Glob.gl, av, co, bL, b0, br, aj, bX, cM, cB, cV, bN, ap, ap.ptrOnlys, ak, aK, cz, aM, a4, bA, ce, aF, bh, cF, Nat.reduceBEq, undef]
  refine S_leS ?_ hR
  simp (maxSteps := 4000000) -implicitDefEqProofs only [regBx, Ent.of0, Ent.of1, Ent.of2, Ent.of3, V, bO, bt, bE, cb, cN, cU, gt, lk, cJ, bQ, cm, cr, bM, cn, cn.subCs, cT, bg, a9, cg, az, a3, bn, aJ, bz, bo, aY, bF, ax, cu, cO, c6, aq, aX, bR, cI, cj, cY, cR, aV, an, bY, bj, zC, argS, bG, cH, cP, cW, ah, aw, aW, aA, cd, leC, ca, bP, cG, cS, bU, ay, aL, cK, au, cp, a7, a7.viewCs, bH, bH.flatCs, aR, aR.LensOks, Value.oneCell', ↓reduceIte, ite_true, ite_false, if_true, if_false, Nat.reduceAdd, Nat.reduceSub, Nat.reduceMul, Nat.reduceEqDiff, Nat.reduceLT, Nat.reduceLeDiff, reduceCtorEq, Int.reduceToNat, forall_const, implies_true, bm, Ent.mk3, bC, bu, bw, a5, a6, aZ, bK, bB, bI, bJ, bk, cD, bD, cQ, rn, bT, bT.renCs, aT, aU, aN, aN.viewOks, aI, a8, a8.flatBs, aG, ag, aH, ar, aQ, bv, bv.keysBs, aE, am, bp, bS, be, cC, af, af.passKs, aB, aO, ae, ae.lendKs, bV, cq, bW, bq, setInn, ai, cZ, cL, aC, bf, bZ, cc, aD, aP, Glob.gl, av, co, bL, b0, br, aj, bX, cM, cB, cV, bN, ap, ap.ptrOnlys, ak, aK, cz, aM, a4, bA, ce, aF, bh, cF, Nat.reduceBEq, undef]
theorem per_k4 (cx : Cx) (r : Reg) (A : Nat) (b : Int) (hr : RegOk r) (ha : A ≤ 500000000) (hb : 0 ≤ b ∧ b ≤ 500000000) : SG Try.prog cx (bG D.rv14 [] (enc true) []) [.c (.cut D.c14k4)] ⟨[(1, .s (.int .i64 (A : Int))), (2, .s (.int .i64 b)), (3, .ptr 3 0), (7, .s (.int .i64 (perR r : Int))), (9, .ptr 9 0), (10, .s (.int .i64 0)), (11, .ptr 11 0), (12, .s (.int .i64 0))], [(3, .box (regBx r)), (9, .box (regBx r)), (11, .box (regBx (runR r (A % perR r))))]⟩ := by
  obtain ⟨f1, f2, f3, f4, f5, f6⟩ := rgF hr
  have hR := per_k3 cx r A b hr ha hb
  have j1 := jumpErr_ok hr (n := 1) (by omega)
  have h1 : (1 : Int).toNat = 1 := rfl
  have hn : runR r (1 % perR r) = nextR r := run_mod hr 1
  generalize hpr : perR r = p at *
  have heta : ({ length := r.length, taps := r.taps, state := r.state } : Reg) = r := rfl
  refine S_uncut (S_run [e43, e71, e73] 1500 ?_)
  delta D.c14k4
  simp (maxSteps := 4000000) -implicitDefEqProofs only [D.rv14, regBx, enc_reg, decV_reg, heta, e43, e71, e73, f2, f3, f4, j1, h1, hpr, hn, Ent.of0, Ent.of1, Ent.of2, Ent.of3, V, bO, bt, bE, cb, cN, cU, gt, lk, cJ, bQ, cm, cr, bM, cn, cn.subCs, cT, bg, a9, cg, az, a3, bn, aJ, bz, bo, aY, bF, ax, cu, cO, c6, aq, aX, bR, cI, cj, cY, cR, aV, an, bY, bj, zC, argS, bG, cH, cP, cW, ah, aw, aW, aA, cd, leC, ca, bP, cG, cS, bU, ay, aL, cK, au, cp, a7, a7.viewCs, bH, bH.flatCs, aR, aR.LensOks, Value.oneCell', ↓reduceIte, ite_true, ite_false, if_true, if_false, Nat.reduceAdd, Nat.reduceSub, Nat.reduceMul, Nat.reduceEqDiff, Nat.reduceLT, Nat.reduceLeDiff, reduceCtorEq, Int.reduceToNat, forall_const, implies_true, bm, Ent.mk3, bC, bu, bw, a5, a6, aZ, bK, bB, bI, bJ, bk, cD, bD, cQ, rn, bT, bT.renCs, aT, aU, aN, aN.viewOks, aI, a8, a8.flatBs, aG, ag, aH, ar, aQ, bv, bv.keysBs, aE, am, bp, bS, be, cC, af, af.passKs, aB, aO, ae, ae.lendKs, bV, cq, bW, bq, setInn, ai, cZ, cL, aC, bf, bZ, cc, aD, aP, Glob.gl, av, co, bL, b0, br, aj, bX, cM, cB, cV, bN, ap, ap.ptrOnlys, ak, aK, cz, aM, a4, bA, ce, aF, bh, cF, Nat.reduceBEq, undef]
  refine S_leS ?_ hR
  simp (maxSteps := 4000000) -implicitDefEqProofs only [regBx, Ent.of0, Ent.of1, Ent.of2, Ent.of3, V, bO, bt, bE, cb, cN, cU, gt, lk, cJ, bQ, cm, cr, bM, cn, cn.subCs, cT, bg, a9, cg, az, a3, bn, aJ, bz, bo, aY, bF, ax, cu, cO, c6, aq, aX, bR, cI, cj, cY, cR, aV, an, bY, bj, zC, argS, bG, cH, cP, cW, ah, aw, aW, aA, cd, leC, ca, bP, cG, cS, bU, ay, aL, cK, au, cp, a7, a7.viewCs, bH, bH.flatCs, aR, aR.LensOks, Value.oneCell', ↓reduceIte, ite_true, ite_false, if_true, if_false, Nat.reduceAdd, Nat.reduceSub, Nat.reduceMul, Nat.reduceEqDiff, Nat.reduceLT, Nat.reduceLeDiff, reduceCtorEq, Int.reduceToNat, forall_const, implies_true, bm, Ent.mk3, bC, bu, bw, a5, a6, aZ, bK, bB, bI, bJ, bk, cD, bD, cQ, rn, bT, bT.renCs, aT, aU, aN, aN.viewOks, aI, a8, a8.flatBs, aG, ag, aH, ar, aQ, bv, bv.keysBs, aE, am, bp, bS, be, cC, af, af.passKs, aB, aO, ae, ae.lendKs, bV, cq, bW, bq, setInn, ai, cZ, cL, aC, bf, bZ, cc, aD, aP, Glob.gl, av, co, bL, b0, br, aj, bX, cM, cB, cV, bN, ap, ap.ptrOnlys, ak, aK, cz, aM, a4, bA, ce, aF, bh, cF, Nat.reduceBEq, undef]
theorem per_k5 (cx : Cx) (r : Reg) (A : Nat) (b : Int) (hr : RegOk r) (ha : A ≤ 500000000) (hb : 0 ≤ b ∧ b ≤ 500000000) : SG Try.prog cx (bG D.rv14 [] (enc true) []) [.c (.cut D.c14k5)] ⟨[(1, .s (.int .i64 (A : Int))), (2, .s (.int .i64 b)), (3, .ptr 3 0), (7, .s (.int .i64 (perR r : Int)))], [(3, .box (regBx r))]⟩ := by
  obtain ⟨f1, f2, f3, f4, f5, f6⟩ := rgF hr
  have hR := per_k4 cx r A b hr ha hb
  have hm : (A : Int) % (perR r : Int) = ((A % perR r : Nat) : Int) := by push_cast; rfl
  have hlt : A % perR r < perR r := Nat.mod_lt _ f5
  have j1 := jumpErr_ok hr (n := (perR r : Int)) (by omega)
  have j2 := jumpErr_ok hr (n := ((A % perR r : Nat) : Int)) (by omega)
  have h1 : perR r % perR r = 0 := Nat.mod_self _
  have h2 : A % perR r % perR r = A % perR r := Nat.mod_mod _ _
  have h3 : runR r 0 = r := rfl
  have hp0 : (0 : Int) < (perR r : Int) ∧ (perR r : Int) ≤ 4611686018427387903 := by omega
  have heta : ({ length := r.length, taps := r.taps, state := r.state } : Reg) = r := rfl
  generalize hpr : perR r = p at *
  refine S_uncut (S_run [e43, e31, e73] 1500 ?_)
  delta D.c14k5
  simp (maxSteps := 4000000) -implicitDefEqProofs only [D.rv14, regBx, enc_reg, decV_reg, heta, e43, e31, e73, f2, f3, f4, hm, hp0, hpr, j1, j2, h1, h2, h3, Int.toNat_natCast, Ent.of0, Ent.of1, Ent.of2, Ent.of3, V, bO, bt, bE, cb, cN, cU, gt, lk, cJ, bQ, cm, cr, bM, cn, cn.subCs, cT, bg, a9, cg, az, a3, bn, aJ, bz, bo, aY, bF, ax, cu, cO, c6, aq, aX, bR, cI, cj, cY, cR, aV, an, bY, bj, zC, argS, bG, cH, cP, cW, ah, aw, aW, aA, cd, leC, ca, bP, cG, cS, bU, ay, aL, cK, au, cp, a7, a7.viewCs, bH, bH.flatCs, aR, aR.LensOks, Value.oneCell', ↓reduceIte, ite_true, ite_false, if_true, if_false, Nat.reduceAdd, Nat.reduceSub, Nat.reduceMul, Nat.reduceEqDiff, Nat.reduceLT, Nat.reduceLeDiff, reduceCtorEq, Int.reduceToNat, forall_const, implies_true, bm, Ent.mk3, bC, bu, bw, a5, a6, aZ, bK, bB, bI, bJ, bk, cD, bD, cQ, rn, bT, bT.renCs, aT, aU, aN, aN.viewOks, aI, a8, a8.flatBs, aG, ag, aH, ar, aQ, bv, bv.keysBs, aE, am, bp, bS, be, cC, af, af.passKs, aB, aO, ae, ae.lendKs, bV, cq, bW, bq, setInn, ai, cZ, cL, aC, bf, bZ, cc, aD, aP, Glob.gl, av, co, bL, b0, br, aj, bX, cM, cB, cV, bN, ap, ap.ptrOnlys, ak, aK, cz, aM, a4, bA, ce, aF, bh, cF, Nat.reduceBEq, undef]
  refine S_leS ?_ hR
  simp (maxSteps := 4000000) -implicitDefEqProofs only [regBx, Ent.of0, Ent.of1, Ent.of2, Ent.of3, V, bO, bt, bE, cb, cN, cU, gt, lk, cJ, bQ, cm, cr, bM, cn, cn.subCs, cT, bg, a9, cg, az, a3, bn, aJ, bz, bo, aY, bF, ax, cu, cO, c6, aq, aX, bR, cI, cj, cY, cR, aV, an, bY, bj, zC, argS, bG, cH, cP, cW, ah, aw, aW, aA, cd, leC, ca, bP, cG, cS, bU, ay, aL, cK, au, cp, a7, a7.viewCs, bH, bH.flatCs, aR, aR.LensOks, Value.oneCell', ↓reduceIte, ite_true, ite_false, if_true, if_false, Nat.reduceAdd, Nat.reduceSub, Nat.reduceMul, Nat.reduceEqDiff, Nat.reduceLT, Nat.reduceLeDiff, reduceCtorEq, Int.reduceToNat, forall_const, implies_true, bm, Ent.mk3, bC, bu, bw, a5, a6, aZ, bK, bB, bI, bJ, bk, cD, bD, cQ, rn, bT, bT.renCs, aT, aU, aN, aN.viewOks, aI, a8, a8.flatBs, aG, ag, aH, ar, aQ, bv, bv.keysBs, aE, am, bp, bS, be, cC, af, af.passKs, aB, aO, ae, ae.lendKs, bV, cq, bW, bq, setInn, ai, cZ, cL, aC, bf, bZ, cc, aD, aP, Glob.gl, av, co, bL, b0, br, aj, bX, cM, cB, cV, bN, ap, ap.ptrOnlys, ak, aK, cz, aM, a4, bA, ce, aF, bh, cF, Nat.reduceBEq, undef]
theorem SymbolPeriods_c (r : Reg) (a b : Int) : FC Try.prog 14 [enc r, enc a, enc b] [] (enc true) [] := by
  refine fc_intro' D.is14 (by simp) (fun cx hl => S_run [e15, e41, e44, e32, e43, e78] 1500 ?_)
  have heta : ({ length := r.length, taps := r.taps, state := r.state } : Reg) = r := rfl
  by_cases hs : shortS r = true
  rotate_left
  · have hs : shortS r = false := by simpa using hs
    delta D.c14
    simp (maxSteps := 4000000) -implicitDefEqProofs only [D.rv14, enc_reg, decV_reg, heta, e15, e41, hs, Ent.of0, Ent.of1, Ent.of2, Ent.of3, V, bO, bt, bE, cb, cN, cU, gt, lk, cJ, bQ, cm, cr, bM, cn, cn.subCs, cT, bg, a9, cg, az, a3, bn, aJ, bz, bo, aY, bF, ax, cu, cO, c6, aq, aX, bR, cI, cj, cY, cR, aV, an, bY, bj, zC, argS, bG, cH, cP, cW, ah, aw, aW, aA, cd, leC, ca, bP, cG, cS, bU, ay, aL, cK, au, cp, a7, a7.viewCs, bH, bH.flatCs, aR, aR.LensOks, Value.oneCell', ↓reduceIte, ite_true, ite_false, if_true, if_false, Nat.reduceAdd, Nat.reduceSub, Nat.reduceMul, Nat.reduceEqDiff, Nat.reduceLT, Nat.reduceLeDiff, reduceCtorEq, Int.reduceToNat, forall_const, implies_true, bm, Ent.mk3, bC, bu, bw, a5, a6, aZ, bK, bB, bI, bJ, bk, cD, bD, cQ, rn, bT, bT.renCs, aT, aU, aN, aN.viewOks, aI, a8, a8.flatBs, aG, ag, aH, ar, aQ, bv, bv.keysBs, aE, am, bp, bS, be, cC, af, af.passKs, aB, aO, ae, ae.lendKs, bV, cq, bW, bq, setInn, ai, cZ, cL, aC, bf, bZ, cc, aD, aP, Glob.gl, av, co, bL, b0, br, aj, bX, cM, cB, cV, bN, ap, ap.ptrOnlys, ak, aK, cz, aM, a4, bA, ce, aF, bh, cF, Nat.reduceBEq, undef]
  have hsl := short_len hs
  by_cases hre : regErr r = 0
  rotate_left
  · delta D.c14
    simp (maxSteps := 4000000) -implicitDefEqProofs only [D.rv14, enc_reg, decV_reg, heta, e15, e41, e44, hs, hre, Ent.of0, Ent.of1, Ent.of2, Ent.of3, V, bO, bt, bE, cb, cN, cU, gt, lk, cJ, bQ, cm, cr, bM, cn, cn.subCs, cT, bg, a9, cg, az, a3, bn, aJ, bz, bo, aY, bF, ax, cu, cO, c6, aq, aX, bR, cI, cj, cY, cR, aV, an, bY, bj, zC, argS, bG, cH, cP, cW, ah, aw, aW, aA, cd, leC, ca, bP, cG, cS, bU, ay, aL, cK, au, cp, a7, a7.viewCs, bH, bH.flatCs, aR, aR.LensOks, Value.oneCell', ↓reduceIte, ite_true, ite_false, if_true, if_false, Nat.reduceAdd, Nat.reduceSub, Nat.reduceMul, Nat.reduceEqDiff, Nat.reduceLT, Nat.reduceLeDiff, reduceCtorEq, Int.reduceToNat, forall_const, implies_true, bm, Ent.mk3, bC, bu, bw, a5, a6, aZ, bK, bB, bI, bJ, bk, cD, bD, cQ, rn, bT, bT.renCs, aT, aU, aN, aN.viewOks, aI, a8, a8.flatBs, aG, ag, aH, ar, aQ, bv, bv.keysBs, aE, am, bp, bS, be, cC, af, af.passKs, aB, aO, ae, ae.lendKs, bV, cq, bW, bq, setInn, ai, cZ, cL, aC, bf, bZ, cc, aD, aP, Glob.gl, av, co, bL, b0, br, aj, bX, cM, cB, cV, bN, ap, ap.ptrOnlys, ak, aK, cz, aM, a4, bA, ce, aF, bh, cF, Nat.reduceBEq, undef]
  by_cases ha : 0 ≤ a ∧ a ≤ 500000000
  rotate_left
  · delta D.c14
    simp (maxSteps := 4000000) -implicitDefEqProofs only [D.rv14, enc_reg, decV_reg, heta, e15, e41, e44, e32, hs, hre, ha, Ent.of0, Ent.of1, Ent.of2, Ent.of3, V, bO, bt, bE, cb, cN, cU, gt, lk, cJ, bQ, cm, cr, bM, cn, cn.subCs, cT, bg, a9, cg, az, a3, bn, aJ, bz, bo, aY, bF, ax, cu, cO, c6, aq, aX, bR, cI, cj, cY, cR, aV, an, bY, bj, zC, argS, bG, cH, cP, cW, ah, aw, aW, aA, cd, leC, ca, bP, cG, cS, bU, ay, aL, cK, au, cp, a7, a7.viewCs, bH, bH.flatCs, aR, aR.LensOks, Value.oneCell', ↓reduceIte, ite_true, ite_false, if_true, if_false, Nat.reduceAdd, Nat.reduceSub, Nat.reduceMul, Nat.reduceEqDiff, Nat.reduceLT, Nat.reduceLeDiff, reduceCtorEq, Int.reduceToNat, forall_const, implies_true, bm, Ent.mk3, bC, bu, bw, a5, a6, aZ, bK, bB, bI, bJ, bk, cD, bD, cQ, rn, bT, bT.renCs, aT, aU, aN, aN.viewOks, aI, a8, a8.flatBs, aG, ag, aH, ar, aQ, bv, bv.keysBs, aE, am, bp, bS, be, cC, af, af.passKs, aB, aO, ae, ae.lendKs, bV, cq, bW, bq, setInn, ai, cZ, cL, aC, bf, bZ, cc, aD, aP, Glob.gl, av, co, bL, b0, br, aj, bX, cM, cB, cV, bN, ap, ap.ptrOnlys, ak, aK, cz, aM, a4, bA, ce, aF, bh, cF, Nat.reduceBEq, undef]
  by_cases hb : 0 ≤ b ∧ b ≤ 500000000
  rotate_left
  · delta D.c14
    simp (maxSteps := 4000000) -implicitDefEqProofs only [D.rv14, enc_reg, decV_reg, heta, e15, e41, e44, e32, hs, hre, ha, hb, Ent.of0, Ent.of1, Ent.of2, Ent.of3, V, bO, bt, bE, cb, cN, cU, gt, lk, cJ, bQ, cm, cr, bM, cn, cn.subCs, cT, bg, a9, cg, az, a3, bn, aJ, bz, bo, aY, bF, ax, cu, cO, c6, aq, aX, bR, cI, cj, cY, cR, aV, an, bY, bj, zC, argS, bG, cH, cP, cW, ah, aw, aW, aA, cd, leC, ca, bP, cG, cS, bU, ay, aL, cK, au, cp, a7, a7.viewCs, bH, bH.flatCs, aR, aR.LensOks, Value.oneCell', ↓reduceIte, ite_true, ite_false, if_true, if_false, Nat.reduceAdd, Nat.reduceSub, Nat.reduceMul, Nat.reduceEqDiff, Nat.reduceLT, Nat.reduceLeDiff, reduceCtorEq, Int.reduceToNat, forall_const, implies_true, bm, Ent.mk3, bC, bu, bw, a5, a6, aZ, bK, bB, bI, bJ, bk, cD, bD, cQ, rn, bT, bT.renCs, aT, aU, aN, aN.viewOks, aI, a8, a8.flatBs, aG, ag, aH, ar, aQ, bv, bv.keysBs, aE, am, bp, bS, be, cC, af, af.passKs, aB, aO, ae, ae.lendKs, bV, cq, bW, bq, setInn, ai, cZ, cL, aC, bf, bZ, cc, aD, aP, Glob.gl, av, co, bL, b0, br, aj, bX, cM, cB, cV, bN, ap, ap.ptrOnlys, ak, aK, cz, aM, a4, bA, ce, aF, bh, cF, Nat.reduceBEq, undef]
  have hr := regOk_of hre
  obtain ⟨A, rfl⟩ : ∃ A : Nat, a = (A : Int) := ⟨a.toNat, by omega⟩
  obtain ⟨f1, f2, f3, f4, f5, f6⟩ := rgF hr
  have hR := per_k5 cx r A b hr (by omega) hb
  have hp : (1 : Int) ≤ (perR r : Int) ∧ (perR r : Int) ≤ 1024 := by omega
  delta D.c14
  simp (maxSteps := 4000000) -implicitDefEqProofs only [D.rv14, enc_reg, decV_reg, heta, e15, e41, e44, e32, e43, e78, hs, hsl, hre, ha, hb, hp, Ent.of0, Ent.of1, Ent.of2, Ent.of3, V, bO, bt, bE, cb, cN, cU, gt, lk, cJ, bQ, cm, cr, bM, cn, cn.subCs, cT, bg, a9, cg, az, a3, bn, aJ, bz, bo, aY, bF, ax, cu, cO, c6, aq, aX, bR, cI, cj, cY, cR, aV, an, bY, bj, zC, argS, bG, cH, cP, cW, ah, aw, aW, aA, cd, leC, ca, bP, cG, cS, bU, ay, aL, cK, au, cp, a7, a7.viewCs, bH, bH.flatCs, aR, aR.LensOks, Value.oneCell', ↓reduceIte, ite_true, ite_false, if_true, if_false, Nat.reduceAdd, Nat.reduceSub, Nat.reduceMul, Nat.reduceEqDiff, Nat.reduceLT, Nat.reduceLeDiff, reduceCtorEq, Int.reduceToNat, forall_const, implies_true, bm, Ent.mk3, bC, bu, bw, a5, a6, aZ, bK, bB, bI, bJ, bk, cD, bD, cQ, rn, bT, bT.renCs, aT, aU, aN, aN.viewOks, aI, a8, a8.flatBs, aG, ag, aH, ar, aQ, bv, bv.keysBs, aE, am, bp, bS, be, cC, af, af.passKs, aB, aO, ae, ae.lendKs, bV, cq, bW, bq, setInn, ai, cZ, cL, aC, bf, bZ, cc, aD, aP, Glob.gl, av, co, bL, b0, br, aj, bX, cM, cB, cV, bN, ap, ap.ptrOnlys, ak, aK, cz, aM, a4, bA, ce, aF, bh, cF, Nat.reduceBEq, undef]
  refine S_leS ?_ hR
  simp (maxSteps := 4000000) -implicitDefEqProofs only [regBx, Ent.of0, Ent.of1, Ent.of2, Ent.of3, V, bO, bt, bE, cb, cN, cU, gt, lk, cJ, bQ, cm, cr, bM, cn, cn.subCs, cT, bg, a9, cg, az, a3, bn, aJ, bz, bo, aY, bF, ax, cu, cO, c6, aq, aX, bR, cI, cj, cY, cR, aV, an, bY, bj, zC, argS, bG, cH, cP, cW, ah, aw, aW, aA, cd, leC, ca, bP, cG, cS, bU, ay, aL, cK, au, cp, a7, a7.viewCs, bH, bH.flatCs, aR, aR.LensOks, Value.oneCell', ↓reduceIte, ite_true, ite_false, if_true, if_false, Nat.reduceAdd, Nat.reduceSub, Nat.reduceMul, Nat.reduceEqDiff, Nat.reduceLT, Nat.reduceLeDiff, reduceCtorEq, Int.reduceToNat, forall_const, implies_true, bm, Ent.mk3, bC, bu, bw, a5, a6, aZ, bK, bB, bI, bJ, bk, cD, bD, cQ, rn, bT, bT.renCs, aT, aU, aN, aN.viewOks, aI, a8, a8.flatBs, aG, ag, aH, ar, aQ, bv, bv.keysBs, aE, am, bp, bS, be, cC, af, af.passKs, aB, aO, ae, ae.lendKs, bV, cq, bW, bq, setInn, ai, cZ, cL, aC, bf, bZ, cc, aD, aP, Glob.gl, av, co, bL, b0, br, aj, bX, cM, cB, cV, bN, ap, ap.ptrOnlys, ak, aK, cz, aM, a4, bA, ce, aF, bh, cF, Nat.reduceBEq, undef]
end Go.Proofs.Ytfgpbmjmoobcnaa
end
section
open Go Go.Am
open Go.Am.Dat (cells)
namespace Go.Proofs.Ytfgpbmjmoobcnaa
open Go.ChangeShapes Go.WideShapes Go.ChangeAt Go.RowKit
set_option linter.unusedVariables false
theorem own : ownKnob Try.prog.godebug = none := by kernel_rfl
theorem laidOut : laidOutB Try.prog = true := by kernel_rfl
theorem glob0 : Glob.gl Try.prog = [] := rfl
theorem rInt : ReadsAs Try.prog 3 Int := ReadsAs.int Try.underlying3 (by kernel_rfl)
theorem rInts : ReadsAs Try.prog 33 (List Int) := ReadsAs.list rInt Try.underlying33 (by kernel_rfl)
theorem rReg : ReadsAs Try.prog 59 Reg := by
  refine ⟨by kernel_rfl, by decide, fun en w sp fuel cs x h => ?_⟩
  obtain ⟨l, a0, e0, h0⟩ := field_rd rInt Try.underlying59 h 0 rfl rfl
  obtain ⟨_, a1, e1, h1⟩ := field_rd rInts Try.underlying59 h 1 rfl rfl
  obtain ⟨_, a2, e2, h2⟩ := field_rd rInts Try.underlying59 h 2 rfl rfl
  refine ⟨⟨a0, a1, a2⟩, rfl, l.trans (by kernel_rfl), fun j c hj => ?_⟩
  match j, hj with
  | 0, hj => cases hj; exact h0 0 _ rfl
  | 1, hj => cases hj; exact h1 0 _ rfl
  | 2, hj => cases hj; exact h2 0 _ rfl
set_option maxRecDepth 100000 in
theorem lifted14 (os : Os) (started : os.Started) (H : Type) (en : TypeId × Value → H) :
    ReturnsInHanded {} Try.checked os 14 .any (Rows.symbolPeriodsSpec.pre6 en Try.prog Try.f14 Rows.symbolPeriodsRow.domain false) (Rows.symbolPeriodsSpec.post en Try.prog Try.f14 false true false false) := by
  refine returnsInHanded_of_change (C := Try.checked) own started (by kernel_rfl) Try.func14
    (ChangeSpec.witness6 (enc := en) (C := Try.checked) false ⟨#[], #[.agg #[.int .i64 0, .slice none 0 0, .slice none 0 0], .int .i64 0, .int .i64 0], []⟩ 8 (by kernel_rfl) (by kernel_rfl) (by kernel_rfl) (by kernel_rfl)) ?_
  intro W base args ds gs before hval0 hW hcnd _
  have hval : ∀ (j : Nat) t v, Try.f14.params[j]? = some t → args[j]? = some v → Value.okWide Try.prog W .any base t v := hval0
  have hW' := hW
  obtain ⟨p, q, hA0, hV, rfl, hfz, hnd⟩ := hW
  have hA : DataW.TrodAll en Try.prog W 0 (fun _ => true) true Try.f14.params.toList args.toList ds p := hA0
  rw [Try.params14] at hA hval
  obtain ⟨v0, vs0, d0, ds0, p0, q0, hargs, rfl, rfl, h0, r0⟩ := trodAll_cons hA
  obtain ⟨v1, vs1, d1, ds1, p1, q1, rfl, rfl, rfl, h1, r1⟩ := trodAll_cons r0
  obtain ⟨v2, vs2, d2, ds2, p2, q2, rfl, rfl, rfl, h2, r2⟩ := trodAll_cons r1
  obtain ⟨rfl, rfl, rfl⟩ := trodAll_nil r2
  obtain rfl : args = #[v0, v1, v2] := by cases args; simp_all
  obtain ⟨rfl, rfl⟩ := trodVars_none hV
  have lt0 : ∀ x ∈ p0, x.block < W.heap.size := by obtain ⟨m, hm⟩ := h0; exact DataW.trod_lt m _ _ _ hm
  obtain ⟨x0, hx0⟩ := rReg.argS rfl Try.underlying59 (hval 0 59 v0 rfl rfl) h0
  obtain ⟨x1, rfl, rfl, rfl, w1⟩ := open_int Try.underlying3 (hval 1 3 v1 rfl rfl) h1
  obtain ⟨x2, rfl, rfl, rfl, w2⟩ := open_int Try.underlying3 (hval 2 3 v2 rfl rfl) h2
  clear hA0 hval0
  refine (law_walk glob0 (SymbolPeriods_c x0 x1 x2) (W := W) (vs := #[v0, .int .i64 x1, .int .i64 x2]) rfl (fun j c hj E => ?_)).mono fun e W' ⟨he, bel⟩ => ?_
  · match j, hj with
    | 0, hj => cases hj; exact hx0 E
    | 1, hj => cases hj; exact .d (.s _)
    | 2, hj => cases hj; exact .d (.s _)
  · subst he
    exact ⟨_, rfl, _, _, _, [], _, [], hW', trodAll_mk1 (shut_bool Try.underlying4 _), (trodAll_cons_mk (Below.trod laidOut (by kernel_rfl) (of_decide_eq_true (by kernel_rfl)) h0 bel lt0) (trodAll_cons_mk (shut_int Try.underlying3 w1) (trodAll_cons_mk (shut_int Try.underlying3 w2) trodAll_mk0))), rfl, bel.frame _, fun h => by cases h⟩
theorem over14 : Rows.symbolPeriodsRow.holds Try.pinned (OpenSpec.ofChange Rows.symbolPeriodsSpec) :=
  OpenClaim.holds_of_wide 14 Try.f14 rfl rfl rfl rfl rfl rfl rfl ⟨rfl, rfl, rfl, rfl, rfl⟩ rfl rfl rfl rfl rfl (by kernel_rfl) Try.func14 (by kernel_rfl)
    (of_decide_eq_true (by kernel_rfl)) (by unfold Func.isWrapper; first | (rw [if_pos (by decide +kernel)]; kernel_rfl) | (rw [if_neg (by decide +kernel)]; exact ⟨rfl, rfl⟩))
    (fun os started H en _ => lifted14 os started H en)
theorem SymbolPeriods_holds : Rows.SymbolPeriodsSaid := over14
#print axioms SymbolPeriods_holds
end Go.Proofs.Ytfgpbmjmoobcnaa
end
