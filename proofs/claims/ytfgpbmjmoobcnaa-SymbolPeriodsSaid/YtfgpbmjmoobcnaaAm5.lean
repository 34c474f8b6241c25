/- Part 5 of the proof of: SymbolPeriods returns true for every input and never panics: behind its period a register is the same, and behind no fewer steps; a jump over a sum is one jump behind the other; one step is what Next does; conditions: none beyond the given statement. -/
import Derived.Test.YtfgpbmjmoobcnaaAm4
set_option linter.all false
section
open Go Go.Am
open Go.Am.Dat (cells)
namespace Go.Proofs.Ytfgpbmjmoobcnaa
set_option maxHeartbeats 4000000
set_option linter.unusedSimpArgs false
theorem modulated_c (n : Int) (l : List Int) : FC Try.prog 24 [enc n, enc l] [] (.tup [enc (if modErr n l = 0 then modS n.toNat l (l.length / n.toNat) else []), enc (modErr n l)]) [] := by
  refine fc_introC [] is24 (by simp) trivial trivial trivial trivial (fun cx hcx hl _ => S_run [e95, e98, e80, e99] 800 ?_)
  by_cases hf : firstS [orderErrS n, bitsErrS l] = 0
  · have ho : orderErrS n = 0 := by simp only [firstS] at hf; grind
    have hbe : bitsErrS l = 0 := by simp only [firstS] at hf; grind
    have hn : n = 2 ∨ n = 4 ∨ n = 6 := by unfold orderErrS at ho; grind
    obtain ⟨m, rfl⟩ : ∃ m : Nat, n = (m : Int) := ⟨n.toNat, by omega⟩
    have hm : 0 < m := by omega
    have hmne : ¬ (m : Int) = 0 := by omega
    obtain ⟨hl0, hl4, hbits⟩ := bitsErrS_ok hbe
    have htm : (l.length : Int).tmod (m : Int) = ((l.length % m : Nat) : Int) := by
      rw [Int.tmod_eq_emod_of_nonneg (by omega)]; push_cast; rfl
    have hem : (l.length : Int) % (m : Int) = ((l.length % m : Nat) : Int) := by push_cast; rfl
    by_cases hr : l.length % m = 0
    · have hr2 : ((l.length % m : Nat) : Int) = 0 := by omega
      have hme : modErr m l = 0 := by unfold modErr; rw [if_neg (fun h => h ho), if_neg (fun h => h hbe), hem, if_neg (fun h => h hr2)]
      delta c24
      simp (maxSteps := 4000000) -implicitDefEqProofs only [rv24, e95, e98, e80, e99, hf, htm, hr2, hme, Int.toNat_natCast, InR, Ent.of0, Ent.of1, Ent.of2, Ent.of3, V, bO, bt, bE, cb, cN, cU, gt, lk, cJ, bQ, cm, cr, bM, cn, cn.subCs, cT, bg, a9, cg, az, a3, bn, aJ, bz, bo, aY, bF, ax, cu, cO, c6, aq, aX, bR, cI, cj, cY, cR, aV, an, bY, bj, zC, argS, bG, cH, cP, cW, ah, aw, aW, aA, cd, leC, ca, bP, cG, cS, bU, ay, aL, cK, au, cp, a7, a7.viewCs, bH, bH.flatCs, aR, aR.LensOks, Value.oneCell', ↓reduceIte, ite_true, ite_false, if_true, if_false, Nat.reduceAdd, Nat.reduceSub, Nat.reduceMul, Nat.reduceEqDiff, Nat.reduceLT, Nat.reduceLeDiff, reduceCtorEq, Int.reduceToNat, forall_const, implies_true, bm, Ent.mk3, bC, bu, bw, a5, a6, aZ, bK, bB, bI, bJ, bk, cD, bD, cQ, rn, bT, bT.renCs, aT, aU, aN, aN.viewOks, aI, a8, a8.flatBs, aG, ag, aH, ar, aQ, bv, bv.keysBs, aE, am, bp, bS, be, cC, af, af.passKs, aB, aO, ae, ae.lendKs, bV, cq, bW, bq, setInn, ai, cZ, cL, aC, bf, bZ, cc, aD, aP, Glob.gl, av, co, bL, b0, br, aj, bX, cM, cB, cV, bN, ap, ap.ptrOnlys, ak, aK, cz, aM, a4, bA, ce, aF, bh, cF, Nat.reduceBEq, undef]
      refine ⟨hmne, by omega, ?_⟩
      obtain ⟨N, hN⟩ : ∃ N, l.length / m = N := ⟨_, rfl⟩
      have hlN : l.length = N * m := by rw [← hN]; exact (Nat.div_mul_cancel (Nat.dvd_of_mod_eq_zero hr)).symm
      have hN0 : 0 < N := by rcases Nat.eq_zero_or_pos N with e | e; (rw [e, Nat.zero_mul] at hlN; omega); exact e
      have hNl : N ≤ 400 := by
        have := Nat.le_mul_of_pos_right N hm
        omega
      rw [hN]
      refine S_sh 200000 (by rw [hcx.2.2]; exact Nat.le_refl _) (by rfl) ?_
      simp (maxSteps := 4000000) -implicitDefEqProofs only [Ent.of0, Ent.of1, Ent.of2, Ent.of3, V, bO, bt, bE, cb, cN, cU, gt, lk, cJ, bQ, cm, cr, bM, cn, cn.subCs, cT, bg, a9, cg, az, a3, bn, aJ, bz, bo, aY, bF, ax, cu, cO, c6, aq, aX, bR, cI, cj, cY, cR, aV, an, bY, bj, zC, argS, bG, cH, cP, cW, ah, aw, aW, aA, cd, leC, ca, bP, cG, cS, bU, ay, aL, cK, au, cp, a7, a7.viewCs, bH, bH.flatCs, aR, aR.LensOks, Value.oneCell', ↓reduceIte, ite_true, ite_false, if_true, if_false, Nat.reduceAdd, Nat.reduceSub, Nat.reduceMul, Nat.reduceEqDiff, Nat.reduceLT, Nat.reduceLeDiff, reduceCtorEq, Int.reduceToNat, forall_const, implies_true, bm, Ent.mk3, bC, bu, bw, a5, a6, aZ, bK, bB, bI, bJ, bk, cD, bD, cQ, rn, bT, bT.renCs, aT, aU, aN, aN.viewOks, aI, a8, a8.flatBs, aG, ag, aH, ar, aQ, bv, bv.keysBs, aE, am, bp, bS, be, cC, af, af.passKs, aB, aO, ae, ae.lendKs, bV, cq, bW, bq, setInn, ai, cZ, cL, aC, bf, bZ, cc, aD, aP, Glob.gl, av, co, bL, b0, br, aj, bX, cM, cB, cV, bN, ap, ap.ptrOnlys, ak, aK, cz, aM, a4, bA, ce, aF, bh, cF, Nat.reduceBEq, undef]
      have hcells : ∀ i, i ≠ 0 → (if i = 0 then C.s (.slice none 0 0) else C.isl 2 48 ((modS m l i).map cells)) = C.isl 2 48 ((modS m l i).map cells) := fun i hi => if_neg hi
      refine S_rangeFunc (f := 130) (first := []) (caps := [.ptr 200025 0, .ptr 201025 0]) (ich := [(200025, .box [.sl 1 (l.map cells)]), (201025, .box [.s (.int .i64 (m : Int))])]) (kr := 100000) (vals := chunkV l m) (N := N) (fin := true) [200007]
        (fun i => [(200007, .box [if i = 0 then .s (.slice none 0 0) else .isl 2 48 ((modS m l i).map cells)])])
        hcx.2.1 rfl (chunk_c l m N hm hN0 hlN (by omega)) ⟨?_, ?_⟩ ⟨fun c hc => ?_, fun k c hc => ?_⟩ ?_ (fun i hi => ?_) (fun k hk => ?_) (fun i hi => ?_) (fun i hi cx' _ hcx' => S_run [] 800 ?_) (fun _ => ?_)
      · simp (maxSteps := 4000000) -implicitDefEqProofs only [Ent.of0, Ent.of1, Ent.of2, Ent.of3, V, bO, bt, bE, cb, cN, cU, gt, lk, cJ, bQ, cm, cr, bM, cn, cn.subCs, cT, bg, a9, cg, az, a3, bn, aJ, bz, bo, aY, bF, ax, cu, cO, c6, aq, aX, bR, cI, cj, cY, cR, aV, an, bY, bj, zC, argS, bG, cH, cP, cW, ah, aw, aW, aA, cd, leC, ca, bP, cG, cS, bU, ay, aL, cK, au, cp, a7, a7.viewCs, bH, bH.flatCs, aR, aR.LensOks, Value.oneCell', ↓reduceIte, ite_true, ite_false, if_true, if_false, Nat.reduceAdd, Nat.reduceSub, Nat.reduceMul, Nat.reduceEqDiff, Nat.reduceLT, Nat.reduceLeDiff, reduceCtorEq, Int.reduceToNat, forall_const, implies_true, bm, Ent.mk3, bC, bu, bw, a5, a6, aZ, bK, bB, bI, bJ, bk, cD, bD, cQ, rn, bT, bT.renCs, aT, aU, aN, aN.viewOks, aI, a8, a8.flatBs, aG, ag, aH, ar, aQ, bv, bv.keysBs, aE, am, bp, bS, be, cC, af, af.passKs, aB, aO, ae, ae.lendKs, bV, cq, bW, bq, setInn, ai, cZ, cL, aC, bf, bZ, cc, aD, aP, Glob.gl, av, co, bL, b0, br, aj, bX, cM, cB, cV, bN, ap, ap.ptrOnlys, ak, aK, cz, aM, a4, bA, ce, aF, bh, cF, Nat.reduceBEq, undef]
      · simp (maxSteps := 4000000) -implicitDefEqProofs only [Ent.of0, Ent.of1, Ent.of2, Ent.of3, V, bO, bt, bE, cb, cN, cU, gt, lk, cJ, bQ, cm, cr, bM, cn, cn.subCs, cT, bg, a9, cg, az, a3, bn, aJ, bz, bo, aY, bF, ax, cu, cO, c6, aq, aX, bR, cI, cj, cY, cR, aV, an, bY, bj, zC, argS, bG, cH, cP, cW, ah, aw, aW, aA, cd, leC, ca, bP, cG, cS, bU, ay, aL, cK, au, cp, a7, a7.viewCs, bH, bH.flatCs, aR, aR.LensOks, Value.oneCell', ↓reduceIte, ite_true, ite_false, if_true, if_false, Nat.reduceAdd, Nat.reduceSub, Nat.reduceMul, Nat.reduceEqDiff, Nat.reduceLT, Nat.reduceLeDiff, reduceCtorEq, Int.reduceToNat, forall_const, implies_true, bm, Ent.mk3, bC, bu, bw, a5, a6, aZ, bK, bB, bI, bJ, bk, cD, bD, cQ, rn, bT, bT.renCs, aT, aU, aN, aN.viewOks, aI, a8, a8.flatBs, aG, ag, aH, ar, aQ, bv, bv.keysBs, aE, am, bp, bS, be, cC, af, af.passKs, aB, aO, ae, ae.lendKs, bV, cq, bW, bq, setInn, ai, cZ, cL, aC, bf, bZ, cc, aD, aP, Glob.gl, av, co, bL, b0, br, aj, bX, cM, cB, cV, bN, ap, ap.ptrOnlys, ak, aK, cz, aM, a4, bA, ce, aF, bh, cF, Nat.reduceBEq, undef]
      · simp only [List.nil_append, List.mem_cons, List.not_mem_nil, or_false] at hc
        rcases hc with rfl | rfl <;> simp [keysIn, aL]
      · simp only [List.mem_cons, Prod.mk.injEq, List.not_mem_nil, or_false] at hc
        rcases hc with ⟨rfl, rfl⟩ | ⟨rfl, rfl⟩ <;> exact ⟨trivial, trivial⟩
      · simp (maxSteps := 4000000) -implicitDefEqProofs only [Ent.of0, Ent.of1, Ent.of2, Ent.of3, V, bO, bt, bE, cb, cN, cU, gt, lk, cJ, bQ, cm, cr, bM, cn, cn.subCs, cT, bg, a9, cg, az, a3, bn, aJ, bz, bo, aY, bF, ax, cu, cO, c6, aq, aX, bR, cI, cj, cY, cR, aV, an, bY, bj, zC, argS, bG, cH, cP, cW, ah, aw, aW, aA, cd, leC, ca, bP, cG, cS, bU, ay, aL, cK, au, cp, a7, a7.viewCs, bH, bH.flatCs, aR, aR.LensOks, Value.oneCell', ↓reduceIte, ite_true, ite_false, if_true, if_false, Nat.reduceAdd, Nat.reduceSub, Nat.reduceMul, Nat.reduceEqDiff, Nat.reduceLT, Nat.reduceLeDiff, reduceCtorEq, Int.reduceToNat, forall_const, implies_true, bm, Ent.mk3, bC, bu, bw, a5, a6, aZ, bK, bB, bI, bJ, bk, cD, bD, cQ, rn, bT, bT.renCs, aT, aU, aN, aN.viewOks, aI, a8, a8.flatBs, aG, ag, aH, ar, aQ, bv, bv.keysBs, aE, am, bp, bS, be, cC, af, af.passKs, aB, aO, ae, ae.lendKs, bV, cq, bW, bq, setInn, ai, cZ, cL, aC, bf, bZ, cc, aD, aP, Glob.gl, av, co, bL, b0, br, aj, bX, cM, cB, cV, bN, ap, ap.ptrOnlys, ak, aK, cz, aM, a4, bA, ce, aF, bh, cF, Nat.reduceBEq, undef]
      · simp (maxSteps := 4000000) -implicitDefEqProofs only [Ent.of0, Ent.of1, Ent.of2, Ent.of3, V, bO, bt, bE, cb, cN, cU, gt, lk, cJ, bQ, cm, cr, bM, cn, cn.subCs, cT, bg, a9, cg, az, a3, bn, aJ, bz, bo, aY, bF, ax, cu, cO, c6, aq, aX, bR, cI, cj, cY, cR, aV, an, bY, bj, zC, argS, bG, cH, cP, cW, ah, aw, aW, aA, cd, leC, ca, bP, cG, cS, bU, ay, aL, cK, au, cp, a7, a7.viewCs, bH, bH.flatCs, aR, aR.LensOks, Value.oneCell', ↓reduceIte, ite_true, ite_false, if_true, if_false, Nat.reduceAdd, Nat.reduceSub, Nat.reduceMul, Nat.reduceEqDiff, Nat.reduceLT, Nat.reduceLeDiff, reduceCtorEq, Int.reduceToNat, forall_const, implies_true, bm, Ent.mk3, bC, bu, bw, a5, a6, aZ, bK, bB, bI, bJ, bk, cD, bD, cQ, rn, bT, bT.renCs, aT, aU, aN, aN.viewOks, aI, a8, a8.flatBs, aG, ag, aH, ar, aQ, bv, bv.keysBs, aE, am, bp, bS, be, cC, af, af.passKs, aB, aO, ae, ae.lendKs, bV, cq, bW, bq, setInn, ai, cZ, cL, aC, bf, bZ, cc, aD, aP, Glob.gl, av, co, bL, b0, br, aj, bX, cM, cB, cV, bN, ap, ap.ptrOnlys, ak, aK, cz, aM, a4, bA, ce, aF, bh, cF, Nat.reduceBEq, undef]
        simp
      · rw [hcx.2.2]
        simp only [List.mem_cons, List.not_mem_nil, or_false] at hk
        omega
      · refine ⟨rfl, fun c hc => ?_⟩
        simp only [chunkV, List.mem_singleton] at hc; subst hc; trivial
      · simp (maxSteps := 4000000) -implicitDefEqProofs only [chunkV, Ent.of0, Ent.of1, Ent.of2, Ent.of3, V, bO, bt, bE, cb, cN, cU, gt, lk, cJ, bQ, cm, cr, bM, cn, cn.subCs, cT, bg, a9, cg, az, a3, bn, aJ, bz, bo, aY, bF, ax, cu, cO, c6, aq, aX, bR, cI, cj, cY, cR, aV, an, bY, bj, zC, argS, bG, cH, cP, cW, ah, aw, aW, aA, cd, leC, ca, bP, cG, cS, bU, ay, aL, cK, au, cp, a7, a7.viewCs, bH, bH.flatCs, aR, aR.LensOks, Value.oneCell', ↓reduceIte, ite_true, ite_false, if_true, if_false, Nat.reduceAdd, Nat.reduceSub, Nat.reduceMul, Nat.reduceEqDiff, Nat.reduceLT, Nat.reduceLeDiff, reduceCtorEq, Int.reduceToNat, forall_const, implies_true, bm, Ent.mk3, bC, bu, bw, a5, a6, aZ, bK, bB, bI, bJ, bk, cD, bD, cQ, rn, bT, bT.renCs, aT, aU, aN, aN.viewOks, aI, a8, a8.flatBs, aG, ag, aH, ar, aQ, bv, bv.keysBs, aE, am, bp, bS, be, cC, af, af.passKs, aB, aO, ae, ae.lendKs, bV, cq, bW, bq, setInn, ai, cZ, cL, aC, bf, bZ, cc, aD, aP, Glob.gl, av, co, bL, b0, br, aj, bX, cM, cB, cV, bN, ap, ap.ptrOnlys, ak, aK, cz, aM, a4, bA, ce, aF, bh, cF, Nat.reduceBEq, undef]
        intro cx'' _ _
        refine S_run [e96] 800 ?_
        obtain ⟨g1, g2⟩ := chunk_ok hlN hbits hi
        have g3 : (chunkAt l m i).length = 2 ∨ (chunkAt l m i).length = 4 ∨ (chunkAt l m i).length = 6 := by omega
        cases i with
        | zero =>
          have h1 : [[C.s (.int .i64 (pointS (chunkAt l m 0)).re), C.s (.int .i64 (pointS (chunkAt l m 0)).im)]] = (modS m l 1).map cells := by simp [modS, List.range_succ, cells_gs]
          have hl1 := modS_length m l 1
          delta c24r1
          simp (maxSteps := 4000000) -implicitDefEqProofs only [e96, g2, g3, h1, InR, Ent.of0, Ent.of1, Ent.of2, Ent.of3, V, bO, bt, bE, cb, cN, cU, gt, lk, cJ, bQ, cm, cr, bM, cn, cn.subCs, cT, bg, a9, cg, az, a3, bn, aJ, bz, bo, aY, bF, ax, cu, cO, c6, aq, aX, bR, cI, cj, cY, cR, aV, an, bY, bj, zC, argS, bG, cH, cP, cW, ah, aw, aW, aA, cd, leC, ca, bP, cG, cS, bU, ay, aL, cK, au, cp, a7, a7.viewCs, bH, bH.flatCs, aR, aR.LensOks, Value.oneCell', ↓reduceIte, ite_true, ite_false, if_true, if_false, Nat.reduceAdd, Nat.reduceSub, Nat.reduceMul, Nat.reduceEqDiff, Nat.reduceLT, Nat.reduceLeDiff, reduceCtorEq, Int.reduceToNat, forall_const, implies_true, bm, Ent.mk3, bC, bu, bw, a5, a6, aZ, bK, bB, bI, bJ, bk, cD, bD, cQ, rn, bT, bT.renCs, aT, aU, aN, aN.viewOks, aI, a8, a8.flatBs, aG, ag, aH, ar, aQ, bv, bv.keysBs, aE, am, bp, bS, be, cC, af, af.passKs, aB, aO, ae, ae.lendKs, bV, cq, bW, bq, setInn, ai, cZ, cL, aC, bf, bZ, cc, aD, aP, Glob.gl, av, co, bL, b0, br, aj, bX, cM, cB, cV, bN, ap, ap.ptrOnlys, ak, aK, cz, aM, a4, bA, ce, aF, bh, cF, Nat.reduceBEq, undef]
          exact ⟨⟨by omega, by omega⟩, by decide, .inr trivial⟩
        | succ i =>
          have h1 : (modS m l (i + 1)).map cells ++ [[C.s (.int .i64 (pointS (chunkAt l m (i + 1))).re), C.s (.int .i64 (pointS (chunkAt l m (i + 1))).im)]] = (modS m l (i + 1 + 1)).map cells := by rw [modS_succ m l (i + 1), List.map_append]; rfl
          have h2 := modS_length m l (i + 1)
          delta c24r1
          simp (maxSteps := 4000000) -implicitDefEqProofs only [e96, g2, g3, h1, h2, Nat.succ_ne_zero, InR, Ent.of0, Ent.of1, Ent.of2, Ent.of3, V, bO, bt, bE, cb, cN, cU, gt, lk, cJ, bQ, cm, cr, bM, cn, cn.subCs, cT, bg, a9, cg, az, a3, bn, aJ, bz, bo, aY, bF, ax, cu, cO, c6, aq, aX, bR, cI, cj, cY, cR, aV, an, bY, bj, zC, argS, bG, cH, cP, cW, ah, aw, aW, aA, cd, leC, ca, bP, cG, cS, bU, ay, aL, cK, au, cp, a7, a7.viewCs, bH, bH.flatCs, aR, aR.LensOks, Value.oneCell', ↓reduceIte, ite_true, ite_false, if_true, if_false, Nat.reduceAdd, Nat.reduceSub, Nat.reduceMul, Nat.reduceEqDiff, Nat.reduceLT, Nat.reduceLeDiff, reduceCtorEq, Int.reduceToNat, forall_const, implies_true, bm, Ent.mk3, bC, bu, bw, a5, a6, aZ, bK, bB, bI, bJ, bk, cD, bD, cQ, rn, bT, bT.renCs, aT, aU, aN, aN.viewOks, aI, a8, a8.flatBs, aG, ag, aH, ar, aQ, bv, bv.keysBs, aE, am, bp, bS, be, cC, af, af.passKs, aB, aO, ae, ae.lendKs, bV, cq, bW, bq, setInn, ai, cZ, cL, aC, bf, bZ, cc, aD, aP, Glob.gl, av, co, bL, b0, br, aj, bX, cM, cB, cV, bN, ap, ap.ptrOnlys, ak, aK, cz, aM, a4, bA, ce, aF, bh, cF, Nat.reduceBEq, undef]
          exact ⟨⟨by decide, by omega, by omega⟩, by decide, .inr trivial⟩
      · rw [if_neg (by omega : ¬ N = 0)]
        refine S_fzb 200007 rfl (S_run [] 800 ?_)
        simp (maxSteps := 4000000) -implicitDefEqProofs only [rv24, hme, Ent.of0, Ent.of1, Ent.of2, Ent.of3, V, bO, bt, bE, cb, cN, cU, gt, lk, cJ, bQ, cm, cr, bM, cn, cn.subCs, cT, bg, a9, cg, az, a3, bn, aJ, bz, bo, aY, bF, ax, cu, cO, c6, aq, aX, bR, cI, cj, cY, cR, aV, an, bY, bj, zC, argS, bG, cH, cP, cW, ah, aw, aW, aA, cd, leC, ca, bP, cG, cS, bU, ay, aL, cK, au, cp, a7, a7.viewCs, bH, bH.flatCs, aR, aR.LensOks, Value.oneCell', ↓reduceIte, ite_true, ite_false, if_true, if_false, Nat.reduceAdd, Nat.reduceSub, Nat.reduceMul, Nat.reduceEqDiff, Nat.reduceLT, Nat.reduceLeDiff, reduceCtorEq, Int.reduceToNat, forall_const, implies_true, bm, Ent.mk3, bC, bu, bw, a5, a6, aZ, bK, bB, bI, bJ, bk, cD, bD, cQ, rn, bT, bT.renCs, aT, aU, aN, aN.viewOks, aI, a8, a8.flatBs, aG, ag, aH, ar, aQ, bv, bv.keysBs, aE, am, bp, bS, be, cC, af, af.passKs, aB, aO, ae, ae.lendKs, bV, cq, bW, bq, setInn, ai, cZ, cL, aC, bf, bZ, cc, aD, aP, Glob.gl, av, co, bL, b0, br, aj, bX, cM, cB, cV, bN, ap, ap.ptrOnlys, ak, aK, cz, aM, a4, bA, ce, aF, bh, cF, Nat.reduceBEq, undef]
    · have hr2 : ¬ ((l.length % m : Nat) : Int) = 0 := by omega
      have hme : modErr m l = 10 := by unfold modErr; rw [if_neg (fun h => h ho), if_neg (fun h => h hbe), hem, if_pos hr2]
      have h10 : ¬ (10 : Int) = 0 := by decide
      delta c24
      simp (maxSteps := 4000000) -implicitDefEqProofs only [rv24, e95, e98, e80, e99, hf, htm, hr2, hme, h10, InR, Ent.of0, Ent.of1, Ent.of2, Ent.of3, V, bO, bt, bE, cb, cN, cU, gt, lk, cJ, bQ, cm, cr, bM, cn, cn.subCs, cT, bg, a9, cg, az, a3, bn, aJ, bz, bo, aY, bF, ax, cu, cO, c6, aq, aX, bR, cI, cj, cY, cR, aV, an, bY, bj, zC, argS, bG, cH, cP, cW, ah, aw, aW, aA, cd, leC, ca, bP, cG, cS, bU, ay, aL, cK, au, cp, a7, a7.viewCs, bH, bH.flatCs, aR, aR.LensOks, Value.oneCell', ↓reduceIte, ite_true, ite_false, if_true, if_false, Nat.reduceAdd, Nat.reduceSub, Nat.reduceMul, Nat.reduceEqDiff, Nat.reduceLT, Nat.reduceLeDiff, reduceCtorEq, Int.reduceToNat, forall_const, implies_true, bm, Ent.mk3, bC, bu, bw, a5, a6, aZ, bK, bB, bI, bJ, bk, cD, bD, cQ, rn, bT, bT.renCs, aT, aU, aN, aN.viewOks, aI, a8, a8.flatBs, aG, ag, aH, ar, aQ, bv, bv.keysBs, aE, am, bp, bS, be, cC, af, af.passKs, aB, aO, ae, ae.lendKs, bV, cq, bW, bq, setInn, ai, cZ, cL, aC, bf, bZ, cc, aD, aP, Glob.gl, av, co, bL, b0, br, aj, bX, cM, cB, cV, bN, ap, ap.ptrOnlys, ak, aK, cz, aM, a4, bA, ce, aF, bh, cF, Nat.reduceBEq, undef]
      exact hmne
  · have hme : modErr n l = firstS [orderErrS n, bitsErrS l] := by
      unfold modErr; simp only [firstS] at hf ⊢; grind
    delta c24
    simp (maxSteps := 4000000) -implicitDefEqProofs only [rv24, e95, e98, e80, e99, hf, hme, InR, Ent.of0, Ent.of1, Ent.of2, Ent.of3, V, bO, bt, bE, cb, cN, cU, gt, lk, cJ, bQ, cm, cr, bM, cn, cn.subCs, cT, bg, a9, cg, az, a3, bn, aJ, bz, bo, aY, bF, ax, cu, cO, c6, aq, aX, bR, cI, cj, cY, cR, aV, an, bY, bj, zC, argS, bG, cH, cP, cW, ah, aw, aW, aA, cd, leC, ca, bP, cG, cS, bU, ay, aL, cK, au, cp, a7, a7.viewCs, bH, bH.flatCs, aR, aR.LensOks, Value.oneCell', ↓reduceIte, ite_true, ite_false, if_true, if_false, Nat.reduceAdd, Nat.reduceSub, Nat.reduceMul, Nat.reduceEqDiff, Nat.reduceLT, Nat.reduceLeDiff, reduceCtorEq, Int.reduceToNat, forall_const, implies_true, bm, Ent.mk3, bC, bu, bw, a5, a6, aZ, bK, bB, bI, bJ, bk, cD, bD, cQ, rn, bT, bT.renCs, aT, aU, aN, aN.viewOks, aI, a8, a8.flatBs, aG, ag, aH, ar, aQ, bv, bv.keysBs, aE, am, bp, bS, be, cC, af, af.passKs, aB, aO, ae, ae.lendKs, bV, cq, bW, bq, setInn, ai, cZ, cL, aC, bf, bZ, cc, aD, aP, Glob.gl, av, co, bL, b0, br, aj, bX, cM, cB, cV, bN, ap, ap.ptrOnlys, ak, aK, cz, aM, a4, bA, ce, aF, bh, cF, Nat.reduceBEq, undef]
def e24 : Ent Try.prog := .of2 24 (fun _ _ => True) (fun (n : Int) (l : List Int) => .tup [enc (if modErr n l = 0 then modS n.toNat l (l.length / n.toNat) else []), enc (modErr n l)]) (fun _ _ => ⟨trivial, trivial, trivial⟩) (fun n l _ => modulated_c n l)
end Go.Proofs.Ytfgpbmjmoobcnaa
end
section
open Go Go.Am
open Go.Am.Dat (cells)
namespace Go.Proofs.Ytfgpbmjmoobcnaa
set_option maxHeartbeats 4000000
set_option maxRecDepth 100000
set_option linter.unusedSimpArgs false
def ofLevelI (c : Nat) (n : Int) : Option Nat := (List.range (2 ^ c)).find? fun i => decide (levelS (bitsOfS i c c) = n)
def ofLevelC (c : Nat) (n : Int) : C := match ofLevelI c n with | some i => enc (bitsOfS i c c) | none => .s (.slice none 0 0)
theorem ofLevel_c (c : Nat) (n : Int) (hc : 1 ≤ c ∧ c ≤ 6) : FC Try.prog 104 [enc (c : Int), enc n] [] (ofLevelC c n) [] := by
  have hp : 2 ^ c ≤ 2 ^ 6 := Nat.pow_le_pow_right (by decide) hc.2
  refine fc_intro' is104 (by simp) (fun cx hl => S_run [] 800 ?_)
  have hm : min c IntKind.i64.bits = c := Nat.min_eq_left (by show c ≤ 64; omega)
  have hpc : (1 : Int) * 2 ^ c = ((2 ^ c : Nat) : Int) := by push_cast; rw [Int.one_mul]
  have hq1 : (0 : Int) < 2 ^ c := Int.pow_pos (by decide)
  have hq2 : (2 : Int) ^ c ≤ 64 := by exact_mod_cast hp
  delta c104
  simp (maxSteps := 4000000) -implicitDefEqProofs only [rv104, hm, hpc, InR, Ent.of0, Ent.of1, Ent.of2, Ent.of3, V, bO, bt, bE, cb, cN, cU, gt, lk, cJ, bQ, cm, cr, bM, cn, cn.subCs, cT, bg, a9, cg, az, a3, bn, aJ, bz, bo, aY, bF, ax, cu, cO, c6, aq, aX, bR, cI, cj, cY, cR, aV, an, bY, bj, zC, argS, bG, cH, cP, cW, ah, aw, aW, aA, cd, leC, ca, bP, cG, cS, bU, ay, aL, cK, au, cp, a7, a7.viewCs, bH, bH.flatCs, aR, aR.LensOks, Value.oneCell', ↓reduceIte, ite_true, ite_false, if_true, if_false, Nat.reduceAdd, Nat.reduceSub, Nat.reduceMul, Nat.reduceEqDiff, Nat.reduceLT, Nat.reduceLeDiff, reduceCtorEq, Int.reduceToNat, forall_const, implies_true, bm, Ent.mk3, bC, bu, bw, a5, a6, aZ, bK, bB, bI, bJ, bk, cD, bD, cQ, rn, bT, bT.renCs, aT, aU, aN, aN.viewOks, aI, a8, a8.flatBs, aG, ag, aH, ar, aQ, bv, bv.keysBs, aE, am, bp, bS, be, cC, af, af.passKs, aB, aO, ae, ae.lendKs, bV, cq, bW, bq, setInn, ai, cZ, cL, aC, bf, bZ, cc, aD, aP, Glob.gl, av, co, bL, b0, br, aj, bX, cM, cB, cV, bN, ap, ap.ptrOnlys, ak, aK, cz, aM, a4, bA, ce, aF, bh, cF, Nat.reduceBEq, undef]
  refine ⟨by omega, ?_⟩
  refine S_forU (2 ^ c) (fun i => [(9, .s (.int .i64 (i : Int)))]) (fun _ => []) (fun i => ∀ j, j < i → ¬ levelS (bitsOfS j c c) = n) (by omega) ?_ (fun i hi hv => S_run [e97, e106] 800 ?_)
  · simp (maxSteps := 4000000) -implicitDefEqProofs only [Ent.of0, Ent.of1, Ent.of2, Ent.of3, V, bO, bt, bE, cb, cN, cU, gt, lk, cJ, bQ, cm, cr, bM, cn, cn.subCs, cT, bg, a9, cg, az, a3, bn, aJ, bz, bo, aY, bF, ax, cu, cO, c6, aq, aX, bR, cI, cj, cY, cR, aV, an, bY, bj, zC, argS, bG, cH, cP, cW, ah, aw, aW, aA, cd, leC, ca, bP, cG, cS, bU, ay, aL, cK, au, cp, a7, a7.viewCs, bH, bH.flatCs, aR, aR.LensOks, Value.oneCell', ↓reduceIte, ite_true, ite_false, if_true, if_false, Nat.reduceAdd, Nat.reduceSub, Nat.reduceMul, Nat.reduceEqDiff, Nat.reduceLT, Nat.reduceLeDiff, reduceCtorEq, Int.reduceToNat, forall_const, implies_true, bm, Ent.mk3, bC, bu, bw, a5, a6, aZ, bK, bB, bI, bJ, bk, cD, bD, cQ, rn, bT, bT.renCs, aT, aU, aN, aN.viewOks, aI, a8, a8.flatBs, aG, ag, aH, ar, aQ, bv, bv.keysBs, aE, am, bp, bS, be, cC, af, af.passKs, aB, aO, ae, ae.lendKs, bV, cq, bW, bq, setInn, ai, cZ, cL, aC, bf, bZ, cc, aD, aP, Glob.gl, av, co, bL, b0, br, aj, bX, cM, cB, cV, bN, ap, ap.ptrOnlys, ak, aK, cz, aM, a4, bA, ce, aF, bh, cF, Nat.reduceBEq, undef]; simp
  · by_cases h : i < 2 ^ c
    · have hi2 : (i : Int) < ((2 ^ c : Nat) : Int) := by omega
      have hlen := bitsOfS_length i c c
      have hok := bitsOfS_ok i c c
      delta c104l1
      simp (maxSteps := 4000000) -implicitDefEqProofs only [rv104, hi2, h, e97, e106, Int.toNat_natCast, hlen, hok, InR, Ent.of0, Ent.of1, Ent.of2, Ent.of3, V, bO, bt, bE, cb, cN, cU, gt, lk, cJ, bQ, cm, cr, bM, cn, cn.subCs, cT, bg, a9, cg, az, a3, bn, aJ, bz, bo, aY, bF, ax, cu, cO, c6, aq, aX, bR, cI, cj, cY, cR, aV, an, bY, bj, zC, argS, bG, cH, cP, cW, ah, aw, aW, aA, cd, leC, ca, bP, cG, cS, bU, ay, aL, cK, au, cp, a7, a7.viewCs, bH, bH.flatCs, aR, aR.LensOks, Value.oneCell', ↓reduceIte, ite_true, ite_false, if_true, if_false, Nat.reduceAdd, Nat.reduceSub, Nat.reduceMul, Nat.reduceEqDiff, Nat.reduceLT, Nat.reduceLeDiff, reduceCtorEq, Int.reduceToNat, forall_const, implies_true, bm, Ent.mk3, bC, bu, bw, a5, a6, aZ, bK, bB, bI, bJ, bk, cD, bD, cQ, rn, bT, bT.renCs, aT, aU, aN, aN.viewOks, aI, a8, a8.flatBs, aG, ag, aH, ar, aQ, bv, bv.keysBs, aE, am, bp, bS, be, cC, af, af.passKs, aB, aO, ae, ae.lendKs, bV, cq, bW, bq, setInn, ai, cZ, cL, aC, bf, bZ, cc, aD, aP, Glob.gl, av, co, bL, b0, br, aj, bX, cM, cB, cV, bN, ap, ap.ptrOnlys, ak, aK, cz, aM, a4, bA, ce, aF, bh, cF, Nat.reduceBEq, undef]
      refine ⟨by omega, by omega, ?_⟩
      split
      · rename_i he
        have hn : ofLevelI c n = some i := by
          unfold ofLevelI
          rw [List.find?_range_eq_some]
          exact ⟨by simpa using he, List.mem_range.2 h, fun j hj => by simpa using hv j hj⟩
        simp only [ofLevelC, hn, enc_list, sz_int]
      · rename_i he
        refine ⟨by omega, fun j hj => ?_, by push_cast; rfl⟩
        by_cases hj2 : j = i
        · rw [hj2]; exact he
        · exact hv j (by omega)
    · have hi2 : ¬ (i : Int) < ((2 ^ c : Nat) : Int) := by omega
      have hn : ofLevelI c n = none := by
        unfold ofLevelI
        rw [List.find?_eq_none]
        intro x hx
        simpa using hv x (by have := List.mem_range.1 hx; omega)
      delta c104l1
      simp (maxSteps := 4000000) -implicitDefEqProofs only [rv104, hi2, ofLevelC, hn, InR, Ent.of0, Ent.of1, Ent.of2, Ent.of3, V, bO, bt, bE, cb, cN, cU, gt, lk, cJ, bQ, cm, cr, bM, cn, cn.subCs, cT, bg, a9, cg, az, a3, bn, aJ, bz, bo, aY, bF, ax, cu, cO, c6, aq, aX, bR, cI, cj, cY, cR, aV, an, bY, bj, zC, argS, bG, cH, cP, cW, ah, aw, aW, aA, cd, leC, ca, bP, cG, cS, bU, ay, aL, cK, au, cp, a7, a7.viewCs, bH, bH.flatCs, aR, aR.LensOks, Value.oneCell', ↓reduceIte, ite_true, ite_false, if_true, if_false, Nat.reduceAdd, Nat.reduceSub, Nat.reduceMul, Nat.reduceEqDiff, Nat.reduceLT, Nat.reduceLeDiff, reduceCtorEq, Int.reduceToNat, forall_const, implies_true, bm, Ent.mk3, bC, bu, bw, a5, a6, aZ, bK, bB, bI, bJ, bk, cD, bD, cQ, rn, bT, bT.renCs, aT, aU, aN, aN.viewOks, aI, a8, a8.flatBs, aG, ag, aH, ar, aQ, bv, bv.keysBs, aE, am, bp, bS, be, cC, af, af.passKs, aB, aO, ae, ae.lendKs, bV, cq, bW, bq, setInn, ai, cZ, cL, aC, bf, bZ, cc, aD, aP, Glob.gl, av, co, bL, b0, br, aj, bX, cM, cB, cV, bN, ap, ap.ptrOnlys, ak, aK, cz, aM, a4, bA, ce, aF, bh, cF, Nat.reduceBEq, undef]
def minS : List Int → Int
  | [] => 0
  | x :: l => l.foldl (fun a b => if b < a then b else a) x
theorem min_c (l : List Int) (h0 : 0 < l.length) : FC Try.prog 139 [enc l] [] (enc (minS l)) [] := by
  obtain ⟨x, t, rfl⟩ : ∃ x t, l = x :: t := by cases l with | nil => simp at h0 | cons x t => exact ⟨x, t, rfl⟩
  refine fc_intro' is139 (by simp) (fun cx hl => S_run [] 800 ?_)
  simp only [V, bO, bt, bE, cb, cN, cU, gt, lk, cJ, bQ, cm, cr, bM, cn, cn.subCs, cT, bg, a9, cg, az, a3, bn, aJ, bz, bo, aY, bF, ax, cu, cO, c6, aq, aX, bR, cI, cj, cY, cR, aV, an, bY, bj, zC, argS, bG, cH, cP, cW, ah, aw, aW, aA, cd, leC, ca, bP, cG, cS, bU, ay, aL, cK, au, cp, a7, a7.viewCs, bH, bH.flatCs, aR, aR.LensOks, Value.oneCell', ↓reduceIte, ite_true, ite_false, if_true, if_false, Nat.reduceAdd, Nat.reduceSub, Nat.reduceMul, Nat.reduceEqDiff, Nat.reduceLT, Nat.reduceLeDiff, reduceCtorEq, Int.reduceToNat, forall_const, implies_true, bm, Ent.mk3, bC, bu, bw, a5, a6, aZ, bK, bB, bI, bJ, bk, cD, bD, cQ, rn, bT, bT.renCs, aT, aU, aN, aN.viewOks, aI, a8, a8.flatBs, aG, ag, aH, ar, aQ, bv, bv.keysBs, aE, am, bp, bS, be, cC, af, af.passKs, aB, aO, ae, ae.lendKs, bV, cq, bW, bq, setInn, ai, cZ, cL, aC, bf, bZ, cc, aD, aP, Glob.gl, av, co, bL, b0, br, aj, bX, cM, cB, cV, bN, ap, ap.ptrOnlys, ak, aK, cz, aM, a4, bA, ce, aF, bh, cF, Nat.reduceBEq, undef] at hl
  have hlen := hl.list (l := x :: t)
  have h1 : ¬ ((t.length + 1 : Nat) : Int) < 1 := by omega
  delta c139
  simp (maxSteps := 4000000) -implicitDefEqProofs only [rv139, h1, Ent.of0, Ent.of1, Ent.of2, Ent.of3, V, bO, bt, bE, cb, cN, cU, gt, lk, cJ, bQ, cm, cr, bM, cn, cn.subCs, cT, bg, a9, cg, az, a3, bn, aJ, bz, bo, aY, bF, ax, cu, cO, c6, aq, aX, bR, cI, cj, cY, cR, aV, an, bY, bj, zC, argS, bG, cH, cP, cW, ah, aw, aW, aA, cd, leC, ca, bP, cG, cS, bU, ay, aL, cK, au, cp, a7, a7.viewCs, bH, bH.flatCs, aR, aR.LensOks, Value.oneCell', ↓reduceIte, ite_true, ite_false, if_true, if_false, Nat.reduceAdd, Nat.reduceSub, Nat.reduceMul, Nat.reduceEqDiff, Nat.reduceLT, Nat.reduceLeDiff, reduceCtorEq, Int.reduceToNat, forall_const, implies_true, bm, Ent.mk3, bC, bu, bw, a5, a6, aZ, bK, bB, bI, bJ, bk, cD, bD, cQ, rn, bT, bT.renCs, aT, aU, aN, aN.viewOks, aI, a8, a8.flatBs, aG, ag, aH, ar, aQ, bv, bv.keysBs, aE, am, bp, bS, be, cC, af, af.passKs, aB, aO, ae, ae.lendKs, bV, cq, bW, bq, setInn, ai, cZ, cL, aC, bf, bZ, cc, aD, aP, Glob.gl, av, co, bL, b0, br, aj, bX, cM, cB, cV, bN, ap, ap.ptrOnlys, ak, aK, cz, aM, a4, bA, ce, aF, bh, cF, Nat.reduceBEq, undef]
  refine ⟨by omega, ?_⟩
  refine S_loopU (α := Nat × Int) (fun v => [(4, .s (.int .i64 ((v.1 : Int) + 1))), (3, .s (.int .i64 v.2))]) (fun _ => []) (fun v => v.1 ≤ t.length ∧ minS (x :: t) = (t.drop v.1).foldl (fun a b => if b < a then b else a) v.2) (fun v => t.length - v.1) (0, x) ⟨Nat.zero_le _, rfl⟩ ?_ (fun v hv => S_run [] 800 ?_)
  · simp (maxSteps := 4000000) -implicitDefEqProofs only [Ent.of0, Ent.of1, Ent.of2, Ent.of3, V, bO, bt, bE, cb, cN, cU, gt, lk, cJ, bQ, cm, cr, bM, cn, cn.subCs, cT, bg, a9, cg, az, a3, bn, aJ, bz, bo, aY, bF, ax, cu, cO, c6, aq, aX, bR, cI, cj, cY, cR, aV, an, bY, bj, zC, argS, bG, cH, cP, cW, ah, aw, aW, aA, cd, leC, ca, bP, cG, cS, bU, ay, aL, cK, au, cp, a7, a7.viewCs, bH, bH.flatCs, aR, aR.LensOks, Value.oneCell', ↓reduceIte, ite_true, ite_false, if_true, if_false, Nat.reduceAdd, Nat.reduceSub, Nat.reduceMul, Nat.reduceEqDiff, Nat.reduceLT, Nat.reduceLeDiff, reduceCtorEq, Int.reduceToNat, forall_const, implies_true, bm, Ent.mk3, bC, bu, bw, a5, a6, aZ, bK, bB, bI, bJ, bk, cD, bD, cQ, rn, bT, bT.renCs, aT, aU, aN, aN.viewOks, aI, a8, a8.flatBs, aG, ag, aH, ar, aQ, bv, bv.keysBs, aE, am, bp, bS, be, cC, af, af.passKs, aB, aO, ae, ae.lendKs, bV, cq, bW, bq, setInn, ai, cZ, cL, aC, bf, bZ, cc, aD, aP, Glob.gl, av, co, bL, b0, br, aj, bX, cM, cB, cV, bN, ap, ap.ptrOnlys, ak, aK, cz, aM, a4, bA, ce, aF, bh, cF, Nat.reduceBEq, undef]; simp
  · obtain ⟨i, m⟩ := v
    obtain ⟨hv1, hv2⟩ := hv
    simp only at hv1 hv2
    have ht : ((i : Int) + 1).toNat = i + 1 := by omega
    by_cases h : i < t.length
    · have hi2 : (i : Int) + 1 < ((t.length + 1 : Nat) : Int) := by omega
      rw [drop_getD 0 h, List.foldl_cons] at hv2
      delta c139l1
      simp (maxSteps := 4000000) -implicitDefEqProofs only [rv139, hi2, h, ht, cO, c6, InR, Ent.of0, Ent.of1, Ent.of2, Ent.of3, V, bO, bt, bE, cb, cN, cU, gt, lk, cJ, bQ, cm, cr, bM, cn, cn.subCs, cT, bg, a9, cg, az, a3, bn, aJ, bz, bo, aY, bF, ax, cu, cO, c6, aq, aX, bR, cI, cj, cY, cR, aV, an, bY, bj, zC, argS, bG, cH, cP, cW, ah, aw, aW, aA, cd, leC, ca, bP, cG, cS, bU, ay, aL, cK, au, cp, a7, a7.viewCs, bH, bH.flatCs, aR, aR.LensOks, Value.oneCell', ↓reduceIte, ite_true, ite_false, if_true, if_false, Nat.reduceAdd, Nat.reduceSub, Nat.reduceMul, Nat.reduceEqDiff, Nat.reduceLT, Nat.reduceLeDiff, reduceCtorEq, Int.reduceToNat, forall_const, implies_true, bm, Ent.mk3, bC, bu, bw, a5, a6, aZ, bK, bB, bI, bJ, bk, cD, bD, cQ, rn, bT, bT.renCs, aT, aU, aN, aN.viewOks, aI, a8, a8.flatBs, aG, ag, aH, ar, aQ, bv, bv.keysBs, aE, am, bp, bS, be, cC, af, af.passKs, aB, aO, ae, ae.lendKs, bV, cq, bW, bq, setInn, ai, cZ, cL, aC, bf, bZ, cc, aD, aP, Glob.gl, av, co, bL, b0, br, aj, bX, cM, cB, cV, bN, ap, ap.ptrOnlys, ak, aK, cz, aM, a4, bA, ce, aF, bh, cF, Nat.reduceBEq, undef]
      simp only [List.length_cons] at hlen
      exact ⟨by omega, by omega, (i + 1, if t.getD i 0 < m then t.getD i 0 else m), ⟨h, hv2⟩, by simp only; omega, rfl, by push_cast; rfl⟩
    · have hi2 : ¬ (i : Int) + 1 < ((t.length + 1 : Nat) : Int) := by omega
      rw [List.drop_eq_nil_of_le (by omega)] at hv2
      delta c139l1
      simp (maxSteps := 4000000) -implicitDefEqProofs only [rv139, hi2, ht, InR, Ent.of0, Ent.of1, Ent.of2, Ent.of3, V, bO, bt, bE, cb, cN, cU, gt, lk, cJ, bQ, cm, cr, bM, cn, cn.subCs, cT, bg, a9, cg, az, a3, bn, aJ, bz, bo, aY, bF, ax, cu, cO, c6, aq, aX, bR, cI, cj, cY, cR, aV, an, bY, bj, zC, argS, bG, cH, cP, cW, ah, aw, aW, aA, cd, leC, ca, bP, cG, cS, bU, ay, aL, cK, au, cp, a7, a7.viewCs, bH, bH.flatCs, aR, aR.LensOks, Value.oneCell', ↓reduceIte, ite_true, ite_false, if_true, if_false, Nat.reduceAdd, Nat.reduceSub, Nat.reduceMul, Nat.reduceEqDiff, Nat.reduceLT, Nat.reduceLeDiff, reduceCtorEq, Int.reduceToNat, forall_const, implies_true, bm, Ent.mk3, bC, bu, bw, a5, a6, aZ, bK, bB, bI, bJ, bk, cD, bD, cQ, rn, bT, bT.renCs, aT, aU, aN, aN.viewOks, aI, a8, a8.flatBs, aG, ag, aH, ar, aQ, bv, bv.keysBs, aE, am, bp, bS, be, cC, af, af.passKs, aB, aO, ae, ae.lendKs, bV, cq, bW, bq, setInn, ai, cZ, cL, aC, bf, bZ, cc, aD, aP, Glob.gl, av, co, bL, b0, br, aj, bX, cM, cB, cV, bN, ap, ap.ptrOnlys, ak, aK, cz, aM, a4, bA, ce, aF, bh, cF, Nat.reduceBEq, undef]
      rw [hv2]; rfl
def e139 : Ent Try.prog := .of1 139 (fun l => 0 < l.length) (fun l : List Int => enc (minS l)) (fun _ => trivial) (fun l h => min_c l h)
theorem countOf_c (l : List Int) (c : Nat) (hc : 1 ≤ c ∧ c ≤ 3) (hl : l.length = 2 ^ c) : FC Try.prog 137 [enc l] [] (enc (c : Int)) [] := by
  have : c = 1 ∨ c = 2 ∨ c = 3 := by omega
  rcases this with rfl | rfl | rfl
  all_goals
    have m0 : min 0 64 = 0 := rfl
    have m1 : min 1 64 = 1 := rfl
    have m2 : min 2 64 = 2 := rfl
    have m3 : min 3 64 = 3 := rfl
    refine fc_intro' is137 (by simp) (fun cx _ => S_runU [] 300 ?_)
    delta c137 c137l1
    simp (maxSteps := 4000000) -implicitDefEqProofs only [rv137, hl, IntKind.bits, m0, m1, m2, m3, InR, Int.cast_ofNat_Int, Int.natCast_one, Int.natCast_zero, Int.reduceAdd, Int.reduceSub, Int.reduceMul, Int.reduceLT, Int.reduceLE, Int.reduceTMod, Int.reduceTDiv, Int.reduceNeg, Int.reduceEq, Nat.reducePow, Int.reducePow, ne_eq, not_false_eq_true, Ent.of0, Ent.of1, Ent.of2, Ent.of3, V, bO, bt, bE, cb, cN, cU, gt, lk, cJ, bQ, cm, cr, bM, cn, cn.subCs, cT, bg, a9, cg, az, a3, bn, aJ, bz, bo, aY, bF, ax, cu, cO, c6, aq, aX, bR, cI, cj, cY, cR, aV, an, bY, bj, zC, argS, bG, cH, cP, cW, ah, aw, aW, aA, cd, leC, ca, bP, cG, cS, bU, ay, aL, cK, au, cp, a7, a7.viewCs, bH, bH.flatCs, aR, aR.LensOks, Value.oneCell', ↓reduceIte, ite_true, ite_false, if_true, if_false, Nat.reduceAdd, Nat.reduceSub, Nat.reduceMul, Nat.reduceEqDiff, Nat.reduceLT, Nat.reduceLeDiff, reduceCtorEq, Int.reduceToNat, forall_const, implies_true, bm, Ent.mk3, bC, bu, bw, a5, a6, aZ, bK, bB, bI, bJ, bk, cD, bD, cQ, rn, bT, bT.renCs, aT, aU, aN, aN.viewOks, aI, a8, a8.flatBs, aG, ag, aH, ar, aQ, bv, bv.keysBs, aE, am, bp, bS, be, cC, af, af.passKs, aB, aO, ae, ae.lendKs, bV, cq, bW, bq, setInn, ai, cZ, cL, aC, bf, bZ, cc, aD, aP, Glob.gl, av, co, bL, b0, br, aj, bX, cM, cB, cV, bN, ap, ap.ptrOnlys, ak, aK, cz, aM, a4, bA, ce, aF, bh, cF, Nat.reduceBEq, undef]
end Go.Proofs.Ytfgpbmjmoobcnaa
end
section
open Go Go.Am
open Go.Am.Dat (cells)
namespace Go.Proofs.Ytfgpbmjmoobcnaa
set_option maxHeartbeats 4000000
set_option maxRecDepth 100000
set_option linter.unusedSimpArgs false
def e104 : Ent Try.prog where
  id := 104
  sp := fun args chs => match args, chs with
    | [.s (.int .i64 c), .s (.int .i64 n)], [] => some (1 ≤ c ∧ c ≤ 6, ofLevelC c.toNat n, [], [])
    | _, _ => none
  ok := by
    intro args chs p r chs' nk hs hp
    split at hs
    · simp only [Option.some.injEq, Prod.mk.injEq] at hs
      obtain ⟨rfl, rfl, rfl, rfl⟩ := hs
      rename_i c n
      have := ofLevel_c c.toNat n (by omega)
      rw [Int.toNat_of_nonneg (by omega)] at this
      refine ⟨this, .plain ?_⟩
      unfold ofLevelC
      split <;> trivial
    · cases hs
def lvls (c : Nat) : List Int := (List.range (2 ^ c)).map fun (k : Nat) => 2 * (k : Int) - (2 ^ c - 1)
def nearS (c i : Nat) (b : Int) (sq : List Int) : List Int :=
  ((List.range (2 ^ c)).filter fun (k : Nat) => decide (((ofLevelI c (2 * (k : Int) - (2 ^ c - 1))).map fun m => (bitsOfS m c c).getD i 0) = some b)).map fun k => sq.getD k 0
def softS (c : Nat) (sq : List Int) : List Int := (List.range c).map fun i => minS (nearS c i 1 sq) - minS (nearS c i 0 sq)
theorem minS_mem : ∀ (l : List Int) (x : Int), l.foldl (fun a b => if b < a then b else a) x ∈ x :: l
  | [], x => by simp
  | y :: l, x => by
    simp only [List.foldl_cons]
    have := minS_mem l (if y < x then y else x)
    rcases List.mem_cons.1 this with h | h
    · rw [h]; split <;> simp
    · exact List.mem_cons_of_mem _ (List.mem_cons_of_mem _ h)
theorem minS_bd {l : List Int} {B : Int} (h0 : 0 < l.length) (h : ∀ x ∈ l, 0 ≤ x ∧ x ≤ B) : 0 ≤ minS l ∧ minS l ≤ B := by
  cases l with
  | nil => simp at h0
  | cons x t => exact h _ (minS_mem t x)
def ctE (c : Nat) (hc : 1 ≤ c ∧ c ≤ 3) : Ent Try.prog := .of1 137 (fun l => l.length = 2 ^ c) (fun _ : List Int => enc (c : Int)) (fun _ => trivial) (fun l h => countOf_c l c hc h)
end Go.Proofs.Ytfgpbmjmoobcnaa
end
section
open Go Go.Am
open Go.Am.Dat (cells)
namespace Go.Proofs.Ytfgpbmjmoobcnaa
set_option maxHeartbeats 4000000
set_option maxRecDepth 100000
set_option linter.unusedSimpArgs false
theorem Mod_c (n by_ : Int) (h : 0 < by_ ∧ by_ ≤ 4611686018427387903) : FC Try.prog 31 [enc n, enc by_] [] (enc (n % by_)) [] := by
  refine fc_intro' is31 (by simp) (fun cx hl => S_run [] 800 ?_)
  delta c31
  simp (maxSteps := 4000000) -implicitDefEqProofs only [rv31, InR, Ent.of0, Ent.of1, Ent.of2, Ent.of3, V, bO, bt, bE, cb, cN, cU, gt, lk, cJ, bQ, cm, cr, bM, cn, cn.subCs, cT, bg, a9, cg, az, a3, bn, aJ, bz, bo, aY, bF, ax, cu, cO, c6, aq, aX, bR, cI, cj, cY, cR, aV, an, bY, bj, zC, argS, bG, cH, cP, cW, ah, aw, aW, aA, cd, leC, ca, bP, cG, cS, bU, ay, aL, cK, au, cp, a7, a7.viewCs, bH, bH.flatCs, aR, aR.LensOks, Value.oneCell', ↓reduceIte, ite_true, ite_false, if_true, if_false, Nat.reduceAdd, Nat.reduceSub, Nat.reduceMul, Nat.reduceEqDiff, Nat.reduceLT, Nat.reduceLeDiff, reduceCtorEq, Int.reduceToNat, forall_const, implies_true, bm, Ent.mk3, bC, bu, bw, a5, a6, aZ, bK, bB, bI, bJ, bk, cD, bD, cQ, rn, bT, bT.renCs, aT, aU, aN, aN.viewOks, aI, a8, a8.flatBs, aG, ag, aH, ar, aQ, bv, bv.keysBs, aE, am, bp, bS, be, cC, af, af.passKs, aB, aO, ae, ae.lendKs, bV, cq, bW, bq, setInn, ai, cZ, cL, aC, bf, bZ, cc, aD, aP, Glob.gl, av, co, bL, b0, br, aj, bX, cM, cB, cV, bN, ap, ap.ptrOnlys, ak, aK, cz, aM, a4, bA, ce, aF, bh, cF, Nat.reduceBEq, undef]
  have h1 : n.tmod by_ < by_ := Int.tmod_lt_of_pos n h.1
  have h2 : -by_ < n.tmod by_ := Int.lt_tmod_of_pos n h.1
  have h3 := Int.emod_nonneg n (show by_ ≠ 0 by omega)
  have h4 := Int.emod_lt_of_pos n h.1
  refine ⟨by omega, ?_⟩
  have e : n % by_ = if n.tmod by_ < 0 then n.tmod by_ + by_ else n.tmod by_ := by
    have hk : (n.tmod by_) % by_ = n % by_ := by
      conv => rhs; rw [← Int.mul_tdiv_add_tmod n by_]
      rw [Int.mul_add_emod_self_left]
    split
    · rw [← hk, ← Int.add_emod_right, Int.emod_eq_of_lt (by omega) (by omega)]
    · rw [← hk, Int.emod_eq_of_lt (by omega) (by omega)]
  rw [e]
  split
  · exact ⟨by omega, rfl⟩
  · rfl
def e31 : Ent Try.prog := .of2 31 (fun _ b => 0 < b ∧ b ≤ 4611686018427387903) (fun n b : Int => enc (n % b)) (fun _ _ => trivial) (fun n b h => Mod_c n b h)
end Go.Proofs.Ytfgpbmjmoobcnaa
end
section
open Go Go.Am
open Go.Am.Dat (cells)
namespace Go.Proofs.Ytfgpbmjmoobcnaa
set_option maxHeartbeats 4000000
set_option maxRecDepth 100000
set_option linter.unusedSimpArgs false
theorem soft1_c (s0 s1 : Int) (h : ∀ s ∈ [s0, s1], 0 ≤ s ∧ s ≤ 4611686018427387903) : FC Try.prog 117 [enc (lvls 1), enc [s0, s1]] [] (enc (softS 1 [s0, s1])) [] := by
  have l0 : ofLevelC 1 (-1) = .sl 1 [[.s (.int .i64 1)]] := by rfl
  have l1 : ofLevelC 1 1 = .sl 1 [[.s (.int .i64 0)]] := by rfl
  have hl : lvls 1 = [-1, 1] := by decide
  have ht : Int.toNat 1 = 1 := rfl
  have hs : softS 1 [s0, s1] = [minS [s0] - minS [s1]] := by rfl
  have q00 := minS_bd (l := [s1]) (by simp) (fun x hx => h x (by simp at hx ⊢; grind))
  have q01 := minS_bd (l := [s0]) (by simp) (fun x hx => h x (by simp at hx ⊢; grind))
  rw [hl, hs]
  refine fc_intro' is117 (by simp) (fun cx _ => S_runU [ctE 1 (by decide), e104, e139] 4000 ?_)
  delta c117 c117l1 c117l2
  simp (maxSteps := 4000000) -implicitDefEqProofs only [rv117, ctE, e104, e139, ht, l0, l1, InR, Int.cast_ofNat_Int, Int.natCast_one, Int.natCast_zero, Int.reduceAdd, Int.reduceSub, Int.reduceMul, Int.reduceLT, Int.reduceLE, Int.reduceTMod, Int.reduceTDiv, Int.reduceNeg, Int.reduceEq, Nat.reducePow, Int.reducePow, ne_eq, not_false_eq_true, Ent.of0, Ent.of1, Ent.of2, Ent.of3, V, bO, bt, bE, cb, cN, cU, gt, lk, cJ, bQ, cm, cr, bM, cn, cn.subCs, cT, bg, a9, cg, az, a3, bn, aJ, bz, bo, aY, bF, ax, cu, cO, c6, aq, aX, bR, cI, cj, cY, cR, aV, an, bY, bj, zC, argS, bG, cH, cP, cW, ah, aw, aW, aA, cd, leC, ca, bP, cG, cS, bU, ay, aL, cK, au, cp, a7, a7.viewCs, bH, bH.flatCs, aR, aR.LensOks, Value.oneCell', ↓reduceIte, ite_true, ite_false, if_true, if_false, Nat.reduceAdd, Nat.reduceSub, Nat.reduceMul, Nat.reduceEqDiff, Nat.reduceLT, Nat.reduceLeDiff, reduceCtorEq, Int.reduceToNat, forall_const, implies_true, bm, Ent.mk3, bC, bu, bw, a5, a6, aZ, bK, bB, bI, bJ, bk, cD, bD, cQ, rn, bT, bT.renCs, aT, aU, aN, aN.viewOks, aI, a8, a8.flatBs, aG, ag, aH, ar, aQ, bv, bv.keysBs, aE, am, bp, bS, be, cC, af, af.passKs, aB, aO, ae, ae.lendKs, bV, cq, bW, bq, setInn, ai, cZ, cL, aC, bf, bZ, cc, aD, aP, Glob.gl, av, co, bL, b0, br, aj, bX, cM, cB, cV, bN, ap, ap.ptrOnlys, ak, aK, cz, aM, a4, bA, ce, aF, bh, cF, Nat.reduceBEq, undef]
  omega
theorem soft2_c (s0 s1 s2 s3 : Int) (h : ∀ s ∈ [s0, s1, s2, s3], 0 ≤ s ∧ s ≤ 4611686018427387903) : FC Try.prog 117 [enc (lvls 2), enc [s0, s1, s2, s3]] [] (enc (softS 2 [s0, s1, s2, s3])) [] := by
  have l0 : ofLevelC 2 (-3) = .sl 1 [[.s (.int .i64 1)], [.s (.int .i64 1)]] := by rfl
  have l1 : ofLevelC 2 (-1) = .sl 1 [[.s (.int .i64 1)], [.s (.int .i64 0)]] := by rfl
  have l2 : ofLevelC 2 1 = .sl 1 [[.s (.int .i64 0)], [.s (.int .i64 0)]] := by rfl
  have l3 : ofLevelC 2 3 = .sl 1 [[.s (.int .i64 0)], [.s (.int .i64 1)]] := by rfl
  have hl : lvls 2 = [-3, -1, 1, 3] := by decide
  have ht : Int.toNat 2 = 2 := rfl
  have hs : softS 2 [s0, s1, s2, s3] = [minS [s0, s1] - minS [s2, s3], minS [s0, s3] - minS [s1, s2]] := by rfl
  have q00 := minS_bd (l := [s2, s3]) (by simp) (fun x hx => h x (by simp at hx ⊢; grind))
  have q01 := minS_bd (l := [s0, s1]) (by simp) (fun x hx => h x (by simp at hx ⊢; grind))
  have q10 := minS_bd (l := [s1, s2]) (by simp) (fun x hx => h x (by simp at hx ⊢; grind))
  have q11 := minS_bd (l := [s0, s3]) (by simp) (fun x hx => h x (by simp at hx ⊢; grind))
  rw [hl, hs]
  refine fc_intro' is117 (by simp) (fun cx _ => S_runU [ctE 2 (by decide), e104, e139] 4000 ?_)
  delta c117 c117l1 c117l2
  simp (maxSteps := 4000000) -implicitDefEqProofs only [rv117, ctE, e104, e139, ht, l0, l1, l2, l3, InR, Int.cast_ofNat_Int, Int.natCast_one, Int.natCast_zero, Int.reduceAdd, Int.reduceSub, Int.reduceMul, Int.reduceLT, Int.reduceLE, Int.reduceTMod, Int.reduceTDiv, Int.reduceNeg, Int.reduceEq, Nat.reducePow, Int.reducePow, ne_eq, not_false_eq_true, Ent.of0, Ent.of1, Ent.of2, Ent.of3, V, bO, bt, bE, cb, cN, cU, gt, lk, cJ, bQ, cm, cr, bM, cn, cn.subCs, cT, bg, a9, cg, az, a3, bn, aJ, bz, bo, aY, bF, ax, cu, cO, c6, aq, aX, bR, cI, cj, cY, cR, aV, an, bY, bj, zC, argS, bG, cH, cP, cW, ah, aw, aW, aA, cd, leC, ca, bP, cG, cS, bU, ay, aL, cK, au, cp, a7, a7.viewCs, bH, bH.flatCs, aR, aR.LensOks, Value.oneCell', ↓reduceIte, ite_true, ite_false, if_true, if_false, Nat.reduceAdd, Nat.reduceSub, Nat.reduceMul, Nat.reduceEqDiff, Nat.reduceLT, Nat.reduceLeDiff, reduceCtorEq, Int.reduceToNat, forall_const, implies_true, bm, Ent.mk3, bC, bu, bw, a5, a6, aZ, bK, bB, bI, bJ, bk, cD, bD, cQ, rn, bT, bT.renCs, aT, aU, aN, aN.viewOks, aI, a8, a8.flatBs, aG, ag, aH, ar, aQ, bv, bv.keysBs, aE, am, bp, bS, be, cC, af, af.passKs, aB, aO, ae, ae.lendKs, bV, cq, bW, bq, setInn, ai, cZ, cL, aC, bf, bZ, cc, aD, aP, Glob.gl, av, co, bL, b0, br, aj, bX, cM, cB, cV, bN, ap, ap.ptrOnlys, ak, aK, cz, aM, a4, bA, ce, aF, bh, cF, Nat.reduceBEq, undef]
  omega
theorem soft3_c (s0 s1 s2 s3 s4 s5 s6 s7 : Int) (h : ∀ s ∈ [s0, s1, s2, s3, s4, s5, s6, s7], 0 ≤ s ∧ s ≤ 4611686018427387903) : FC Try.prog 117 [enc (lvls 3), enc [s0, s1, s2, s3, s4, s5, s6, s7]] [] (enc (softS 3 [s0, s1, s2, s3, s4, s5, s6, s7])) [] := by
  have l0 : ofLevelC 3 (-7) = .sl 1 [[.s (.int .i64 1)], [.s (.int .i64 1)], [.s (.int .i64 1)]] := by rfl
  have l1 : ofLevelC 3 (-5) = .sl 1 [[.s (.int .i64 1)], [.s (.int .i64 1)], [.s (.int .i64 0)]] := by rfl
  have l2 : ofLevelC 3 (-3) = .sl 1 [[.s (.int .i64 1)], [.s (.int .i64 0)], [.s (.int .i64 0)]] := by rfl
  have l3 : ofLevelC 3 (-1) = .sl 1 [[.s (.int .i64 1)], [.s (.int .i64 0)], [.s (.int .i64 1)]] := by rfl
  have l4 : ofLevelC 3 1 = .sl 1 [[.s (.int .i64 0)], [.s (.int .i64 0)], [.s (.int .i64 1)]] := by rfl
  have l5 : ofLevelC 3 3 = .sl 1 [[.s (.int .i64 0)], [.s (.int .i64 0)], [.s (.int .i64 0)]] := by rfl
  have l6 : ofLevelC 3 5 = .sl 1 [[.s (.int .i64 0)], [.s (.int .i64 1)], [.s (.int .i64 0)]] := by rfl
  have l7 : ofLevelC 3 7 = .sl 1 [[.s (.int .i64 0)], [.s (.int .i64 1)], [.s (.int .i64 1)]] := by rfl
  have hl : lvls 3 = [-7, -5, -3, -1, 1, 3, 5, 7] := by decide
  have ht : Int.toNat 3 = 3 := rfl
  have hs : softS 3 [s0, s1, s2, s3, s4, s5, s6, s7] = [minS [s0, s1, s2, s3] - minS [s4, s5, s6, s7], minS [s0, s1, s6, s7] - minS [s2, s3, s4, s5], minS [s0, s3, s4, s7] - minS [s1, s2, s5, s6]] := by rfl
  have q00 := minS_bd (l := [s4, s5, s6, s7]) (by simp) (fun x hx => h x (by simp at hx ⊢; grind))
  have q01 := minS_bd (l := [s0, s1, s2, s3]) (by simp) (fun x hx => h x (by simp at hx ⊢; grind))
  have q10 := minS_bd (l := [s2, s3, s4, s5]) (by simp) (fun x hx => h x (by simp at hx ⊢; grind))
  have q11 := minS_bd (l := [s0, s1, s6, s7]) (by simp) (fun x hx => h x (by simp at hx ⊢; grind))
  have q20 := minS_bd (l := [s1, s2, s5, s6]) (by simp) (fun x hx => h x (by simp at hx ⊢; grind))
  have q21 := minS_bd (l := [s0, s3, s4, s7]) (by simp) (fun x hx => h x (by simp at hx ⊢; grind))
  rw [hl, hs]
  refine fc_intro' is117 (by simp) (fun cx _ => S_runU [ctE 3 (by decide), e104, e139] 4000 ?_)
  delta c117 c117l1 c117l2
  simp (maxSteps := 4000000) -implicitDefEqProofs only [rv117, ctE, e104, e139, ht, l0, l1, l2, l3, l4, l5, l6, l7, InR, Int.cast_ofNat_Int, Int.natCast_one, Int.natCast_zero, Int.reduceAdd, Int.reduceSub, Int.reduceMul, Int.reduceLT, Int.reduceLE, Int.reduceTMod, Int.reduceTDiv, Int.reduceNeg, Int.reduceEq, Nat.reducePow, Int.reducePow, ne_eq, not_false_eq_true, Ent.of0, Ent.of1, Ent.of2, Ent.of3, V, bO, bt, bE, cb, cN, cU, gt, lk, cJ, bQ, cm, cr, bM, cn, cn.subCs, cT, bg, a9, cg, az, a3, bn, aJ, bz, bo, aY, bF, ax, cu, cO, c6, aq, aX, bR, cI, cj, cY, cR, aV, an, bY, bj, zC, argS, bG, cH, cP, cW, ah, aw, aW, aA, cd, leC, ca, bP, cG, cS, bU, ay, aL, cK, au, cp, a7, a7.viewCs, bH, bH.flatCs, aR, aR.LensOks, Value.oneCell', ↓reduceIte, ite_true, ite_false, if_true, if_false, Nat.reduceAdd, Nat.reduceSub, Nat.reduceMul, Nat.reduceEqDiff, Nat.reduceLT, Nat.reduceLeDiff, reduceCtorEq, Int.reduceToNat, forall_const, implies_true, bm, Ent.mk3, bC, bu, bw, a5, a6, aZ, bK, bB, bI, bJ, bk, cD, bD, cQ, rn, bT, bT.renCs, aT, aU, aN, aN.viewOks, aI, a8, a8.flatBs, aG, ag, aH, ar, aQ, bv, bv.keysBs, aE, am, bp, bS, be, cC, af, af.passKs, aB, aO, ae, ae.lendKs, bV, cq, bW, bq, setInn, ai, cZ, cL, aC, bf, bZ, cc, aD, aP, Glob.gl, av, co, bL, b0, br, aj, bX, cM, cB, cV, bN, ap, ap.ptrOnlys, ak, aK, cz, aM, a4, bA, ce, aF, bh, cF, Nat.reduceBEq, undef]
  omega
theorem soft_c (c : Nat) (hc : c = 1 ∨ c = 2 ∨ c = 3) (sq : List Int) (hl : sq.length = 2 ^ c) (hb : ∀ s ∈ sq, 0 ≤ s ∧ s ≤ 4611686018427387903) : FC Try.prog 117 [enc (lvls c), enc sq] [] (enc (softS c sq)) [] := by
  rcases hc with rfl | rfl | rfl
  · match sq, hl with
    | [a, b], _ => exact soft1_c a b hb
  · match sq, hl with
    | [a, b, c, d], _ => exact soft2_c a b c d hb
  · match sq, hl with
    | [a, b, c, d, e, f, g, h], _ => exact soft3_c a b c d e f g h hb
end Go.Proofs.Ytfgpbmjmoobcnaa
end
section
open Go Go.Am
open Go.Am.Dat (cells)
namespace Go.Proofs.Ytfgpbmjmoobcnaa
set_option maxHeartbeats 4000000
set_option maxRecDepth 100000
set_option linter.unusedSimpArgs false
structure Recv where
  order : Int
  gain : Int
  symbols : List Gs
instance : DatL Recv where
  sz := 3
  agg := true
  cells g := [.s (.int .i64 g.order), .s (.int .i64 g.gain), .sl 2 (g.symbols.map cells)]
  dec | [.s (.int .i64 a), .s (.int .i64 b), .sl 2 t] => (decL t).map fun t' => ⟨a, b, t'⟩ | _ => none
  ok := by
    intro l a h
    split at h
    · simp only [Option.map_eq_some_iff] at h
      obtain ⟨t', h1, rfl⟩ := h
      rw [decL_ok h1]
    · cases h
  data := fun a => rfl
  one := fun h => by cases h
  dec_cells := fun a => by simp [decL_map]
theorem enc_recv (g : Recv) : enc g = .agg [.s (.int .i64 g.order), .s (.int .i64 g.gain), .sl 2 (g.symbols.map cells)] := rfl
theorem decV_recv (a b : Int) (t : List (List C)) : decV (.agg [C.s (.int .i64 a), .s (.int .i64 b), .sl 2 t]) = (decL t).map fun t' => (⟨a, b, t'⟩ : Recv) := rfl
def recvErr (x : Recv) : Int := firstS [orderErrS x.order, if 1 ≤ x.gain ∧ x.gain ≤ 10000000 then 0 else 2, symErr x.symbols]
theorem receivedErr_c (x : Recv) : FC Try.prog 114 [enc x] [] (enc (recvErr x)) [] := by
  obtain ⟨o, g, l⟩ := x
  refine fc_intro' is114 (by simp) (fun cx hl => S_run [e95, e103, e82, e118, e80] 800 ?_)
  delta c114
  simp (maxSteps := 4000000) -implicitDefEqProofs only [rv114, e95, e103, e82, e118, e80, enc_recv, Ent.of0, Ent.of1, Ent.of2, Ent.of3, V, bO, bt, bE, cb, cN, cU, gt, lk, cJ, bQ, cm, cr, bM, cn, cn.subCs, cT, bg, a9, cg, az, a3, bn, aJ, bz, bo, aY, bF, ax, cu, cO, c6, aq, aX, bR, cI, cj, cY, cR, aV, an, bY, bj, zC, argS, bG, cH, cP, cW, ah, aw, aW, aA, cd, leC, ca, bP, cG, cS, bU, ay, aL, cK, au, cp, a7, a7.viewCs, bH, bH.flatCs, aR, aR.LensOks, Value.oneCell', ↓reduceIte, ite_true, ite_false, if_true, if_false, Nat.reduceAdd, Nat.reduceSub, Nat.reduceMul, Nat.reduceEqDiff, Nat.reduceLT, Nat.reduceLeDiff, reduceCtorEq, Int.reduceToNat, forall_const, implies_true, bm, Ent.mk3, bC, bu, bw, a5, a6, aZ, bK, bB, bI, bJ, bk, cD, bD, cQ, rn, bT, bT.renCs, aT, aU, aN, aN.viewOks, aI, a8, a8.flatBs, aG, ag, aH, ar, aQ, bv, bv.keysBs, aE, am, bp, bS, be, cC, af, af.passKs, aB, aO, ae, ae.lendKs, bV, cq, bW, bq, setInn, ai, cZ, cL, aC, bf, bZ, cc, aD, aP, Glob.gl, av, co, bL, b0, br, aj, bX, cM, cB, cV, bN, ap, ap.ptrOnlys, ak, aK, cz, aM, a4, bA, ce, aF, bh, cF, Nat.reduceBEq, undef]
  rfl
def e114 : Ent Try.prog := .of1 114 (fun _ => True) (fun x : Recv => enc (recvErr x)) (fun _ => trivial) (fun x _ => receivedErr_c x)
def sqS (c : Nat) (gain n : Int) : List Int := (lvls c).map fun l => (n - l * gain) * (n - l * gain)
end Go.Proofs.Ytfgpbmjmoobcnaa
end
section
open Go Go.Am
open Go.Am.Dat (cells)
namespace Go.Proofs.Ytfgpbmjmoobcnaa
set_option maxHeartbeats 4000000
set_option maxRecDepth 100000
set_option linter.unusedSimpArgs false
theorem lvls_bd {c : Nat} (hc : c = 1 ∨ c = 2 ∨ c = 3) : ∀ l ∈ lvls c, -7 ≤ l ∧ l ≤ 7 := by
  rcases hc with rfl | rfl | rfl <;> decide
theorem lvls_length (c : Nat) : (lvls c).length = 2 ^ c := by simp [lvls]
theorem sq_bd {d B : Int} (h : -B ≤ d ∧ d ≤ B) : 0 ≤ d * d ∧ d * d ≤ B * B := by
  have h1 := Int.mul_nonneg (show 0 ≤ B - d by omega) (show 0 ≤ B + d by omega)
  rw [Int.sub_mul, Int.mul_add, Int.mul_add, Int.mul_comm d B] at h1
  refine ⟨?_, by omega⟩
  rcases Int.le_total 0 d with h0 | h0
  · exact Int.mul_nonneg h0 h0
  · exact Int.mul_nonneg_of_nonpos_of_nonpos h0 h0
theorem lg_bd {t g : Int} (ht : -7 ≤ t ∧ t ≤ 7) (hg : 1 ≤ g ∧ g ≤ 10000000) : -70000000 ≤ t * g ∧ t * g ≤ 70000000 := by
  have : t = -7 ∨ t = -6 ∨ t = -5 ∨ t = -4 ∨ t = -3 ∨ t = -2 ∨ t = -1 ∨ t = 0 ∨ t = 1 ∨ t = 2 ∨ t = 3 ∨ t = 4 ∨ t = 5 ∨ t = 6 ∨ t = 7 := by omega
  rcases this with rfl | rfl | rfl | rfl | rfl | rfl | rfl | rfl | rfl | rfl | rfl | rfl | rfl | rfl | rfl <;> omega
theorem part_c (f : FuncId) (T : List Int → List Int) (c : Nat) (hc : c = 1 ∨ c = 2 ∨ c = 3) (hf : ∀ sq : List Int, sq.length = 2 ^ c → (∀ s ∈ sq, 0 ≤ s ∧ s ≤ 4611686018427387903) → FC Try.prog f [enc (lvls c), enc sq] [] (enc (T sq)) [])
    (x : Recv) (n : Int) (hg : 1 ≤ x.gain ∧ x.gain ≤ 10000000) (hn : -100000000 ≤ n ∧ n ≤ 100000000) :
    FC Try.prog 136 [enc n, .ptr 100000 0, .ptr 100001 0, .ptr 100002 0] [(100000, .box [enc (lvls c)]), (100001, .box (cells x)), (100002, .box [.fn (.func f) [] []])] (enc (T (sqS c x.gain n))) [(100000, .box [enc (lvls c)]), (100001, .box (cells x)), (100002, .box [.fn (.func f) [] []])] := by
  obtain ⟨o, g, l⟩ := x
  simp only at hg
  have hcl : cells (⟨o, g, l⟩ : Recv) = [.s (.int .i64 o), .s (.int .i64 g), .sl 2 (l.map cells)] := rfl
  rw [hcl]
  have hll := lvls_length c
  have hlb := lvls_bd hc
  have hp : 2 ^ c ≤ 8 := by rcases hc with rfl | rfl | rfl <;> decide
  have hsq : sqS c g n = (lvls c).map fun l => (n - l * g) * (n - l * g) := rfl
  generalize lvls c = L at *
  refine fc_introC [] is136 (by simp) (by simp [bX]) (by simp [ay, aL, cg]) (by simp [ay, aL, cg]) (by simp [aj, lk]) (fun cx _ _ _ => S_run [] 800 ?_)
  delta c136
  simp (maxSteps := 4000000) -implicitDefEqProofs only [rv136, InR, Ent.of0, Ent.of1, Ent.of2, Ent.of3, V, bO, bt, bE, cb, cN, cU, gt, lk, cJ, bQ, cm, cr, bM, cn, cn.subCs, cT, bg, a9, cg, az, a3, bn, aJ, bz, bo, aY, bF, ax, cu, cO, c6, aq, aX, bR, cI, cj, cY, cR, aV, an, bY, bj, zC, argS, bG, cH, cP, cW, ah, aw, aW, aA, cd, leC, ca, bP, cG, cS, bU, ay, aL, cK, au, cp, a7, a7.viewCs, bH, bH.flatCs, aR, aR.LensOks, Value.oneCell', ↓reduceIte, ite_true, ite_false, if_true, if_false, Nat.reduceAdd, Nat.reduceSub, Nat.reduceMul, Nat.reduceEqDiff, Nat.reduceLT, Nat.reduceLeDiff, reduceCtorEq, Int.reduceToNat, forall_const, implies_true, bm, Ent.mk3, bC, bu, bw, a5, a6, aZ, bK, bB, bI, bJ, bk, cD, bD, cQ, rn, bT, bT.renCs, aT, aU, aN, aN.viewOks, aI, a8, a8.flatBs, aG, ag, aH, ar, aQ, bv, bv.keysBs, aE, am, bp, bS, be, cC, af, af.passKs, aB, aO, ae, ae.lendKs, bV, cq, bW, bq, setInn, ai, cZ, cL, aC, bf, bZ, cc, aD, aP, Glob.gl, av, co, bL, b0, br, aj, bX, cM, cB, cV, bN, ap, ap.ptrOnlys, ak, aK, cz, aM, a4, bA, ce, aF, bh, cF, Nat.reduceBEq, undef]
  refine S_forU L.length (fun i => [(11, .s (.int .i64 (i : Int)))]) (fun i => [(6, .row 1 3 (((L.take i).map fun l => (n - l * g) * (n - l * g)).map cells))]) (fun _ => True) trivial ?_ (fun i hi _ => S_run [.of2 f (fun a b => a = L ∧ b.length = 2 ^ c ∧ ∀ s ∈ b, 0 ≤ s ∧ s ≤ 4611686018427387903) (fun _ b => enc (T b)) (fun _ _ => trivial) (fun a b h => by obtain ⟨rfl, h1, h2⟩ := h; exact hf b h1 h2)] 800 ?_)
  · simp (maxSteps := 4000000) -implicitDefEqProofs only [Ent.of0, Ent.of1, Ent.of2, Ent.of3, V, bO, bt, bE, cb, cN, cU, gt, lk, cJ, bQ, cm, cr, bM, cn, cn.subCs, cT, bg, a9, cg, az, a3, bn, aJ, bz, bo, aY, bF, ax, cu, cO, c6, aq, aX, bR, cI, cj, cY, cR, aV, an, bY, bj, zC, argS, bG, cH, cP, cW, ah, aw, aW, aA, cd, leC, ca, bP, cG, cS, bU, ay, aL, cK, au, cp, a7, a7.viewCs, bH, bH.flatCs, aR, aR.LensOks, Value.oneCell', ↓reduceIte, ite_true, ite_false, if_true, if_false, Nat.reduceAdd, Nat.reduceSub, Nat.reduceMul, Nat.reduceEqDiff, Nat.reduceLT, Nat.reduceLeDiff, reduceCtorEq, Int.reduceToNat, forall_const, implies_true, bm, Ent.mk3, bC, bu, bw, a5, a6, aZ, bK, bB, bI, bJ, bk, cD, bD, cQ, rn, bT, bT.renCs, aT, aU, aN, aN.viewOks, aI, a8, a8.flatBs, aG, ag, aH, ar, aQ, bv, bv.keysBs, aE, am, bp, bS, be, cC, af, af.passKs, aB, aO, ae, ae.lendKs, bV, cq, bW, bq, setInn, ai, cZ, cL, aC, bf, bZ, cc, aD, aP, Glob.gl, av, co, bL, b0, br, aj, bX, cM, cB, cV, bN, ap, ap.ptrOnlys, ak, aK, cz, aM, a4, bA, ce, aF, bh, cF, Nat.reduceBEq, undef]; simp
  · by_cases h : i < L.length
    · have hi2 : (i : Int) < (L.length : Int) := by omega
      have hm : L.getD i 0 ∈ L := by rw [List.getD_eq_getElem?_getD, List.getElem?_eq_getElem h]; exact List.getElem_mem _
      have b1 := lg_bd (hlb _ hm) hg
      have b2 := sq_bd (d := n - L.getD i 0 * g) (B := 170000000) (by omega)
      have htk : ((L.take i).map fun l => (n - l * g) * (n - l * g)).map cells ++ [[C.s (.int .i64 ((n - L.getD i 0 * g) * (n - L.getD i 0 * g)))]] = ((L.take (i + 1)).map fun l => (n - l * g) * (n - l * g)).map cells := by
        rw [take_getD 0 h, List.map_append, List.map_append]; rfl
      have htl : (L.take i).length = i := by rw [List.length_take]; omega
      delta c136l1
      simp (maxSteps := 4000000) -implicitDefEqProofs only [hi2, h, htk, InR, Ent.of0, Ent.of1, Ent.of2, Ent.of3, V, bO, bt, bE, cb, cN, cU, gt, lk, cJ, bQ, cm, cr, bM, cn, cn.subCs, cT, bg, a9, cg, az, a3, bn, aJ, bz, bo, aY, bF, ax, cu, cO, c6, aq, aX, bR, cI, cj, cY, cR, aV, an, bY, bj, zC, argS, bG, cH, cP, cW, ah, aw, aW, aA, cd, leC, ca, bP, cG, cS, bU, ay, aL, cK, au, cp, a7, a7.viewCs, bH, bH.flatCs, aR, aR.LensOks, Value.oneCell', ↓reduceIte, ite_true, ite_false, if_true, if_false, Nat.reduceAdd, Nat.reduceSub, Nat.reduceMul, Nat.reduceEqDiff, Nat.reduceLT, Nat.reduceLeDiff, reduceCtorEq, Int.reduceToNat, forall_const, implies_true, bm, Ent.mk3, bC, bu, bw, a5, a6, aZ, bK, bB, bI, bJ, bk, cD, bD, cQ, rn, bT, bT.renCs, aT, aU, aN, aN.viewOks, aI, a8, a8.flatBs, aG, ag, aH, ar, aQ, bv, bv.keysBs, aE, am, bp, bS, be, cC, af, af.passKs, aB, aO, ae, ae.lendKs, bV, cq, bW, bq, setInn, ai, cZ, cL, aC, bf, bZ, cc, aD, aP, Glob.gl, av, co, bL, b0, br, aj, bX, cM, cB, cV, bN, ap, ap.ptrOnlys, ak, aK, cz, aM, a4, bA, ce, aF, bh, cF, Nat.reduceBEq, undef]
      exact ⟨by omega, by omega, by omega, by omega, by omega, by omega, by omega, by omega, by push_cast; rfl⟩
    · have hi2 : ¬ (i : Int) < (L.length : Int) := by omega
      have hie : i = L.length := by omega
      subst hie
      have htk : L.take L.length = L := List.take_length
      delta c136l1
      simp (maxSteps := 4000000) -implicitDefEqProofs only [hi2, rv136, htk, hsq, InR, Ent.of0, Ent.of1, Ent.of2, Ent.of3, V, bO, bt, bE, cb, cN, cU, gt, lk, cJ, bQ, cm, cr, bM, cn, cn.subCs, cT, bg, a9, cg, az, a3, bn, aJ, bz, bo, aY, bF, ax, cu, cO, c6, aq, aX, bR, cI, cj, cY, cR, aV, an, bY, bj, zC, argS, bG, cH, cP, cW, ah, aw, aW, aA, cd, leC, ca, bP, cG, cS, bU, ay, aL, cK, au, cp, a7, a7.viewCs, bH, bH.flatCs, aR, aR.LensOks, Value.oneCell', ↓reduceIte, ite_true, ite_false, if_true, if_false, Nat.reduceAdd, Nat.reduceSub, Nat.reduceMul, Nat.reduceEqDiff, Nat.reduceLT, Nat.reduceLeDiff, reduceCtorEq, Int.reduceToNat, forall_const, implies_true, bm, Ent.mk3, bC, bu, bw, a5, a6, aZ, bK, bB, bI, bJ, bk, cD, bD, cQ, rn, bT, bT.renCs, aT, aU, aN, aN.viewOks, aI, a8, a8.flatBs, aG, ag, aH, ar, aQ, bv, bv.keysBs, aE, am, bp, bS, be, cC, af, af.passKs, aB, aO, ae, ae.lendKs, bV, cq, bW, bq, setInn, ai, cZ, cL, aC, bf, bZ, cc, aD, aP, Glob.gl, av, co, bL, b0, br, aj, bX, cM, cB, cV, bN, ap, ap.ptrOnlys, ak, aK, cz, aM, a4, bA, ce, aF, bh, cF, Nat.reduceBEq, undef]
      refine ⟨hll, fun s hs => ?_⟩
      obtain ⟨t, ht, rfl⟩ := List.mem_map.1 hs
      have b1 := lg_bd (hlb _ ht) hg
      have b2 := sq_bd (d := n - t * g) (B := 170000000) (by omega)
      omega
end Go.Proofs.Ytfgpbmjmoobcnaa
end
section
open Go Go.Am
open Go.Am.Dat (cells)
namespace Go.Proofs.Ytfgpbmjmoobcnaa
set_option maxHeartbeats 4000000
set_option maxRecDepth 20000
set_option linter.unusedSimpArgs false
def RepR (a : List Fz) (r : List Gs) : Prop := a.length = r.length ∧ ∀ i, i < r.length → IsC (a.getD i ⟨0, 0⟩) (r.getD i ⟨0, 0⟩)
def RepM (a : List (List Fz)) (m : List (List Gs)) : Prop := a.length = m.length ∧ ∀ i, i < m.length → RepR (a.getD i []) (m.getD i [])
def gridS (m : List (List Gs)) : List (List Fz) := m.map fun r => r.map toW
theorem getD_map' {α β : Type} (f : α → β) (l : List α) (i : Nat) (d : α) (e : β) (h : i < l.length) : (l.map f).getD i e = f (l.getD i d) := by
  rw [List.getD_eq_getElem?_getD, List.getD_eq_getElem?_getD, List.getElem?_map, List.getElem?_eq_getElem h]; rfl
theorem grid_rep {m : List (List Gs)} (h : ∀ r ∈ m, ∀ g ∈ r, bd g 9007199254740991) : RepM (gridS m) m := by
  refine ⟨by simp [gridS], fun i hi => ?_⟩
  rw [gridS, getD_map' _ m i [] [] hi]
  refine ⟨by simp, fun j hj => ?_⟩
  rw [getD_map' _ _ j ⟨0, 0⟩ _ hj]
  exact isC_toW (h _ (getD_mem [] hi) _ (getD_mem _ hj))
theorem gridOf_c (m : List (List Gs)) (hm : m.length ≤ 1000) (hr : ∀ r ∈ m, r.length ≤ 1000000) : FC Try.prog 84 [enc m] [] (enc (gridS m)) [] := by
  refine fc_intro' is84 (by simp) (fun cx hl => S_run [] 800 ?_)
  delta c84
  simp (maxSteps := 4000000) -implicitDefEqProofs only [rv84, Ent.of0, Ent.of1, Ent.of2, Ent.of3, V, bO, bt, bE, cb, cN, cU, gt, lk, cJ, bQ, cm, cr, bM, cn, cn.subCs, cT, bg, a9, cg, az, a3, bn, aJ, bz, bo, aY, bF, ax, cu, cO, c6, aq, aX, bR, cI, cj, cY, cR, aV, an, bY, bj, zC, argS, bG, cH, cP, cW, ah, aw, aW, aA, cd, leC, ca, bP, cG, cS, bU, ay, aL, cK, au, cp, a7, a7.viewCs, bH, bH.flatCs, aR, aR.LensOks, Value.oneCell', ↓reduceIte, ite_true, ite_false, if_true, if_false, Nat.reduceAdd, Nat.reduceSub, Nat.reduceMul, Nat.reduceEqDiff, Nat.reduceLT, Nat.reduceLeDiff, reduceCtorEq, Int.reduceToNat, forall_const, implies_true, bm, Ent.mk3, bC, bu, bw, a5, a6, aZ, bK, bB, bI, bJ, bk, cD, bD, cQ, rn, bT, bT.renCs, aT, aU, aN, aN.viewOks, aI, a8, a8.flatBs, aG, ag, aH, ar, aQ, bv, bv.keysBs, aE, am, bp, bS, be, cC, af, af.passKs, aB, aO, ae, ae.lendKs, bV, cq, bW, bq, setInn, ai, cZ, cL, aC, bf, bZ, cc, aD, aP, Glob.gl, av, co, bL, b0, br, aj, bX, cM, cB, cV, bN, ap, ap.ptrOnlys, ak, aK, cz, aM, a4, bA, ce, aF, bh, cF, Nat.reduceBEq, undef]
  refine S_forU m.length (fun i => [(11, .s (.int .i64 i))]) (fun i => [(3, .row 1 152 ((gridS (m.take i)).map cells))]) (fun _ => True) trivial ?_ (fun i hi _ => S_run [] 800 ?_)
  · simp (maxSteps := 4000000) -implicitDefEqProofs only [gridS, Ent.of0, Ent.of1, Ent.of2, Ent.of3, V, bO, bt, bE, cb, cN, cU, gt, lk, cJ, bQ, cm, cr, bM, cn, cn.subCs, cT, bg, a9, cg, az, a3, bn, aJ, bz, bo, aY, bF, ax, cu, cO, c6, aq, aX, bR, cI, cj, cY, cR, aV, an, bY, bj, zC, argS, bG, cH, cP, cW, ah, aw, aW, aA, cd, leC, ca, bP, cG, cS, bU, ay, aL, cK, au, cp, a7, a7.viewCs, bH, bH.flatCs, aR, aR.LensOks, Value.oneCell', ↓reduceIte, ite_true, ite_false, if_true, if_false, Nat.reduceAdd, Nat.reduceSub, Nat.reduceMul, Nat.reduceEqDiff, Nat.reduceLT, Nat.reduceLeDiff, reduceCtorEq, Int.reduceToNat, forall_const, implies_true, bm, Ent.mk3, bC, bu, bw, a5, a6, aZ, bK, bB, bI, bJ, bk, cD, bD, cQ, rn, bT, bT.renCs, aT, aU, aN, aN.viewOks, aI, a8, a8.flatBs, aG, ag, aH, ar, aQ, bv, bv.keysBs, aE, am, bp, bS, be, cC, af, af.passKs, aB, aO, ae, ae.lendKs, bV, cq, bW, bq, setInn, ai, cZ, cL, aC, bf, bZ, cc, aD, aP, Glob.gl, av, co, bL, b0, br, aj, bX, cM, cB, cV, bN, ap, ap.ptrOnlys, ak, aK, cz, aM, a4, bA, ce, aF, bh, cF, Nat.reduceBEq, undef]; simp
  · by_cases h : i < m.length
    · have hi2 : (i : Int) < (m.length : Int) := by omega
      have hrl := hr _ (getD_mem [] h)
      delta c84l2
      simp (maxSteps := 4000000) -implicitDefEqProofs only [hi2, getD_list, h, Ent.of0, Ent.of1, Ent.of2, Ent.of3, V, bO, bt, bE, cb, cN, cU, gt, lk, cJ, bQ, cm, cr, bM, cn, cn.subCs, cT, bg, a9, cg, az, a3, bn, aJ, bz, bo, aY, bF, ax, cu, cO, c6, aq, aX, bR, cI, cj, cY, cR, aV, an, bY, bj, zC, argS, bG, cH, cP, cW, ah, aw, aW, aA, cd, leC, ca, bP, cG, cS, bU, ay, aL, cK, au, cp, a7, a7.viewCs, bH, bH.flatCs, aR, aR.LensOks, Value.oneCell', ↓reduceIte, ite_true, ite_false, if_true, if_false, Nat.reduceAdd, Nat.reduceSub, Nat.reduceMul, Nat.reduceEqDiff, Nat.reduceLT, Nat.reduceLeDiff, reduceCtorEq, Int.reduceToNat, forall_const, implies_true, bm, Ent.mk3, bC, bu, bw, a5, a6, aZ, bK, bB, bI, bJ, bk, cD, bD, cQ, rn, bT, bT.renCs, aT, aU, aN, aN.viewOks, aI, a8, a8.flatBs, aG, ag, aH, ar, aQ, bv, bv.keysBs, aE, am, bp, bS, be, cC, af, af.passKs, aB, aO, ae, ae.lendKs, bV, cq, bW, bq, setInn, ai, cZ, cL, aC, bf, bZ, cc, aD, aP, Glob.gl, av, co, bL, b0, br, aj, bX, cM, cB, cV, bN, ap, ap.ptrOnlys, ak, aK, cz, aM, a4, bA, ce, aF, bh, cF, Nat.reduceBEq, undef]
      refine ⟨by omega, ?_⟩
      generalize hR : m.getD i [] = R at *
      refine S_forU R.length (fun j => [(17, .s (.int .i64 j))]) (fun j => [(6, .row 1 153 (((R.take j).map toW).map cells))]) (fun _ => True) trivial ?_ (fun j hj _ => S_run [] 800 ?_)
      · simp (maxSteps := 4000000) -implicitDefEqProofs only [Ent.of0, Ent.of1, Ent.of2, Ent.of3, V, bO, bt, bE, cb, cN, cU, gt, lk, cJ, bQ, cm, cr, bM, cn, cn.subCs, cT, bg, a9, cg, az, a3, bn, aJ, bz, bo, aY, bF, ax, cu, cO, c6, aq, aX, bR, cI, cj, cY, cR, aV, an, bY, bj, zC, argS, bG, cH, cP, cW, ah, aw, aW, aA, cd, leC, ca, bP, cG, cS, bU, ay, aL, cK, au, cp, a7, a7.viewCs, bH, bH.flatCs, aR, aR.LensOks, Value.oneCell', ↓reduceIte, ite_true, ite_false, if_true, if_false, Nat.reduceAdd, Nat.reduceSub, Nat.reduceMul, Nat.reduceEqDiff, Nat.reduceLT, Nat.reduceLeDiff, reduceCtorEq, Int.reduceToNat, forall_const, implies_true, bm, Ent.mk3, bC, bu, bw, a5, a6, aZ, bK, bB, bI, bJ, bk, cD, bD, cQ, rn, bT, bT.renCs, aT, aU, aN, aN.viewOks, aI, a8, a8.flatBs, aG, ag, aH, ar, aQ, bv, bv.keysBs, aE, am, bp, bS, be, cC, af, af.passKs, aB, aO, ae, ae.lendKs, bV, cq, bW, bq, setInn, ai, cZ, cL, aC, bf, bZ, cc, aD, aP, Glob.gl, av, co, bL, b0, br, aj, bX, cM, cB, cV, bN, ap, ap.ptrOnlys, ak, aK, cz, aM, a4, bA, ce, aF, bh, cF, Nat.reduceBEq, undef]; simp
      · by_cases hjl : j < R.length
        · have hj2 : (j : Int) < (R.length : Int) := by omega
          have htk : ((R.take j).map toW).map cells ++ [[C.s (.complex .f64 (FloatKind.f64.nearest (R.getD j ⟨0, 0⟩).re) (FloatKind.f64.nearest (R.getD j ⟨0, 0⟩).im))]] = ((R.take (j + 1)).map toW).map cells := by
            rw [take_getD ⟨0, 0⟩ hjl, List.map_append, List.map_append]; rfl
          have htl : (R.take j).length = j := by rw [List.length_take]; omega
          delta c84l1
          simp (maxSteps := 4000000) -implicitDefEqProofs only [hj2, hjl, cu, htk, htl, InR, Ent.of0, Ent.of1, Ent.of2, Ent.of3, V, bO, bt, bE, cb, cN, cU, gt, lk, cJ, bQ, cm, cr, bM, cn, cn.subCs, cT, bg, a9, cg, az, a3, bn, aJ, bz, bo, aY, bF, ax, cu, cO, c6, aq, aX, bR, cI, cj, cY, cR, aV, an, bY, bj, zC, argS, bG, cH, cP, cW, ah, aw, aW, aA, cd, leC, ca, bP, cG, cS, bU, ay, aL, cK, au, cp, a7, a7.viewCs, bH, bH.flatCs, aR, aR.LensOks, Value.oneCell', ↓reduceIte, ite_true, ite_false, if_true, if_false, Nat.reduceAdd, Nat.reduceSub, Nat.reduceMul, Nat.reduceEqDiff, Nat.reduceLT, Nat.reduceLeDiff, reduceCtorEq, Int.reduceToNat, forall_const, implies_true, bm, Ent.mk3, bC, bu, bw, a5, a6, aZ, bK, bB, bI, bJ, bk, cD, bD, cQ, rn, bT, bT.renCs, aT, aU, aN, aN.viewOks, aI, a8, a8.flatBs, aG, ag, aH, ar, aQ, bv, bv.keysBs, aE, am, bp, bS, be, cC, af, af.passKs, aB, aO, ae, ae.lendKs, bV, cq, bW, bq, setInn, ai, cZ, cL, aC, bf, bZ, cc, aD, aP, Glob.gl, av, co, bL, b0, br, aj, bX, cM, cB, cV, bN, ap, ap.ptrOnlys, ak, aK, cz, aM, a4, bA, ce, aF, bh, cF, Nat.reduceBEq, undef]
          and_intros <;> first | omega | rfl | trivial
        · have : j = R.length := by omega
          subst this
          have hj2 : ¬ (R.length : Int) < (R.length : Int) := by omega
          have htk : (gridS (m.take i)).map cells ++ [[C.sl 1 ((R.map toW).map cells)]] = (gridS (m.take (i + 1))).map cells := by
            rw [take_getD [] h, hR, gridS, gridS, List.map_append, List.map_append]; rfl
          have htl : (gridS (m.take i)).length = i := by rw [gridS, List.length_map, List.length_take]; omega
          delta c84l1
          simp (maxSteps := 4000000) -implicitDefEqProofs only [hj2, List.take_length, htk, htl, InR, Ent.of0, Ent.of1, Ent.of2, Ent.of3, V, bO, bt, bE, cb, cN, cU, gt, lk, cJ, bQ, cm, cr, bM, cn, cn.subCs, cT, bg, a9, cg, az, a3, bn, aJ, bz, bo, aY, bF, ax, cu, cO, c6, aq, aX, bR, cI, cj, cY, cR, aV, an, bY, bj, zC, argS, bG, cH, cP, cW, ah, aw, aW, aA, cd, leC, ca, bP, cG, cS, bU, ay, aL, cK, au, cp, a7, a7.viewCs, bH, bH.flatCs, aR, aR.LensOks, Value.oneCell', ↓reduceIte, ite_true, ite_false, if_true, if_false, Nat.reduceAdd, Nat.reduceSub, Nat.reduceMul, Nat.reduceEqDiff, Nat.reduceLT, Nat.reduceLeDiff, reduceCtorEq, Int.reduceToNat, forall_const, implies_true, bm, Ent.mk3, bC, bu, bw, a5, a6, aZ, bK, bB, bI, bJ, bk, cD, bD, cQ, rn, bT, bT.renCs, aT, aU, aN, aN.viewOks, aI, a8, a8.flatBs, aG, ag, aH, ar, aQ, bv, bv.keysBs, aE, am, bp, bS, be, cC, af, af.passKs, aB, aO, ae, ae.lendKs, bV, cq, bW, bq, setInn, ai, cZ, cL, aC, bf, bZ, cc, aD, aP, Glob.gl, av, co, bL, b0, br, aj, bX, cM, cB, cV, bN, ap, ap.ptrOnlys, ak, aK, cz, aM, a4, bA, ce, aF, bh, cF, Nat.reduceBEq, undef]
          and_intros <;> first | omega | rfl | trivial
    · have : i = m.length := by omega
      subst this
      have hi2 : ¬ (m.length : Int) < (m.length : Int) := by omega
      delta c84l2
      simp (maxSteps := 4000000) -implicitDefEqProofs only [hi2, rv84, List.take_length, Ent.of0, Ent.of1, Ent.of2, Ent.of3, V, bO, bt, bE, cb, cN, cU, gt, lk, cJ, bQ, cm, cr, bM, cn, cn.subCs, cT, bg, a9, cg, az, a3, bn, aJ, bz, bo, aY, bF, ax, cu, cO, c6, aq, aX, bR, cI, cj, cY, cR, aV, an, bY, bj, zC, argS, bG, cH, cP, cW, ah, aw, aW, aA, cd, leC, ca, bP, cG, cS, bU, ay, aL, cK, au, cp, a7, a7.viewCs, bH, bH.flatCs, aR, aR.LensOks, Value.oneCell', ↓reduceIte, ite_true, ite_false, if_true, if_false, Nat.reduceAdd, Nat.reduceSub, Nat.reduceMul, Nat.reduceEqDiff, Nat.reduceLT, Nat.reduceLeDiff, reduceCtorEq, Int.reduceToNat, forall_const, implies_true, bm, Ent.mk3, bC, bu, bw, a5, a6, aZ, bK, bB, bI, bJ, bk, cD, bD, cQ, rn, bT, bT.renCs, aT, aU, aN, aN.viewOks, aI, a8, a8.flatBs, aG, ag, aH, ar, aQ, bv, bv.keysBs, aE, am, bp, bS, be, cC, af, af.passKs, aB, aO, ae, ae.lendKs, bV, cq, bW, bq, setInn, ai, cZ, cL, aC, bf, bZ, cc, aD, aP, Glob.gl, av, co, bL, b0, br, aj, bX, cM, cB, cV, bN, ap, ap.ptrOnlys, ak, aK, cz, aM, a4, bA, ce, aF, bh, cF, Nat.reduceBEq, undef]
def e84 : Ent Try.prog := .of1 84 (fun m => m.length ≤ 1000 ∧ ∀ r ∈ m, r.length ≤ 1000000) (fun m : List (List Gs) => enc (gridS m)) (fun _ => trivial) (fun m h => gridOf_c m h.1 h.2)
end Go.Proofs.Ytfgpbmjmoobcnaa
end
section
open Go Go.Am
open Go.Am.Dat (cells)
namespace Go.Proofs.Ytfgpbmjmoobcnaa
set_option maxHeartbeats 4000000
set_option maxRecDepth 20000
set_option linter.unusedSimpArgs false
def dotW (row : List Fz) (o : List (List Fz)) (i : Nat) : Nat → Fz
  | 0 => ⟨0, 0⟩
  | k + 1 => addW (dotW row o i k) (mulW (row.getD k ⟨0, 0⟩) ((o.getD k []).getD i ⟨0, 0⟩))
def rowW (o : List (List Fz)) (row : List Fz) : List Fz := (List.range (o.getD 0 []).length).map fun i => dotW row o i o.length
def timesW (a o : List (List Fz)) : List (List Fz) := a.map (rowW o)
def sumW (row : List Fz) (o : List (List Fz)) (n k j : Nat) : List Fz := (List.range n).map fun i => if i < j then dotW row o i (k + 1) else dotW row o i k
theorem sumW_get {row : List Fz} {o : List (List Fz)} {n k j : Nat} (h : j < n) : (sumW row o n k j).getD j ⟨0, 0⟩ = dotW row o j k := by
  simp [sumW, h]
theorem sumW_set {row : List Fz} {o : List (List Fz)} {n k j : Nat} (h : j < n) : ((sumW row o n k j).map cells).set j [C.s (.complex .f64 (dotW row o j (k + 1)).x (dotW row o j (k + 1)).y)] = (sumW row o n k (j + 1)).map cells := by
  have e : [C.s (.complex .f64 (dotW row o j (k + 1)).x (dotW row o j (k + 1)).y)] = cells (dotW row o j (k + 1)) := rfl
  rw [e, ← List.map_set]
  congr 1
  apply List.ext_getElem?
  intro i
  simp only [sumW, List.getElem?_set, List.getElem?_map, List.length_map, List.length_range]
  by_cases hi : j = i
  · subst hi; simp [h]
  · rw [if_neg hi]
    by_cases hin : i < n
    · simp only [List.getElem?_range hin, Option.map_some, Option.some.injEq]
      have : (i < j + 1) = (i < j) := by apply propext; omega
      simp only [this]
    · rw [List.getElem?_eq_none (by simpa using hin)]; rfl
theorem sumW_next (row : List Fz) (o : List (List Fz)) (n k : Nat) : sumW row o n k n = sumW row o n (k + 1) 0 := by
  unfold sumW
  refine List.map_congr_left fun i hi => ?_
  have : i < n := by simpa using hi
  simp [this]
theorem rng_getD {α : Type} {n i : Nat} (f : Nat → α) (d : α) (h : i < n) : ((List.range n).map f).getD i d = f i := by
  rw [List.getD_eq_getElem?_getD, List.getElem?_map, List.getElem?_range h]; rfl
theorem sumW_zero (row : List Fz) (o : List (List Fz)) (n : Nat) : (sumW row o n 0 0).map cells = List.replicate n [C.s (.complex .f64 0 0)] := by
  unfold sumW
  rw [List.map_map, List.eq_replicate_iff]
  refine ⟨by simp, fun b hb => ?_⟩
  obtain ⟨i, _, rfl⟩ := List.mem_map.1 hb
  simp [dotW, cells_fz]
theorem dot_c {a o : List (List Fz)} {m ls : List (List Gs)} {A B : Nat} (hf : Fits m ls A B) (hs : 8 * (A * B) ≤ 9007199254740991) (ha : RepM a m) (ho : RepM o ls) {r i : Nat} (hr : r < m.length) (hi : i < (ls.getD 0 []).length) : ∀ k, k ≤ ls.length → IsC (dotW (a.getD r []) o i k) (dotS (m.getD r []) ls i k) ∧
    (k < ls.length → aX .mul ((a.getD r []).getD k ⟨0, 0⟩).x ((a.getD r []).getD k ⟨0, 0⟩).y ((o.getD k []).getD i ⟨0, 0⟩).x ((o.getD k []).getD i ⟨0, 0⟩).y = some ((mulW ((a.getD r []).getD k ⟨0, 0⟩) ((o.getD k []).getD i ⟨0, 0⟩)).x, (mulW ((a.getD r []).getD k ⟨0, 0⟩) ((o.getD k []).getD i ⟨0, 0⟩)).y) ∧
      aX .add (dotW (a.getD r []) o i k).x (dotW (a.getD r []) o i k).y (mulW ((a.getD r []).getD k ⟨0, 0⟩) ((o.getD k []).getD i ⟨0, 0⟩)).x (mulW ((a.getD r []).getD k ⟨0, 0⟩) ((o.getD k []).getD i ⟨0, 0⟩)).y = some ((dotW (a.getD r []) o i (k + 1)).x, (dotW (a.getD r []) o i (k + 1)).y) ∧
      IsC (dotW (a.getD r []) o i (k + 1)) (dotS (m.getD r []) ls i (k + 1))) := by
  have hrm : m.getD r [] ∈ m := getD_mem [] hr
  have hcol := hf.cols _ hrm
  have step : ∀ k, k < ls.length → IsC (dotW (a.getD r []) o i k) (dotS (m.getD r []) ls i k) → (aX .mul ((a.getD r []).getD k ⟨0, 0⟩).x ((a.getD r []).getD k ⟨0, 0⟩).y ((o.getD k []).getD i ⟨0, 0⟩).x ((o.getD k []).getD i ⟨0, 0⟩).y = some ((mulW ((a.getD r []).getD k ⟨0, 0⟩) ((o.getD k []).getD i ⟨0, 0⟩)).x, (mulW ((a.getD r []).getD k ⟨0, 0⟩) ((o.getD k []).getD i ⟨0, 0⟩)).y) ∧
      aX .add (dotW (a.getD r []) o i k).x (dotW (a.getD r []) o i k).y (mulW ((a.getD r []).getD k ⟨0, 0⟩) ((o.getD k []).getD i ⟨0, 0⟩)).x (mulW ((a.getD r []).getD k ⟨0, 0⟩) ((o.getD k []).getD i ⟨0, 0⟩)).y = some ((dotW (a.getD r []) o i (k + 1)).x, (dotW (a.getD r []) o i (k + 1)).y) ∧
      IsC (dotW (a.getD r []) o i (k + 1)) (dotS (m.getD r []) ls i (k + 1))) := fun k hk hd => by
    have hik : i < (ls.getD k []).length := by rw [hf.len _ (getD_mem [] hk)]; exact hi
    have b1 := hf.ma _ hrm _ (getD_mem ⟨0, 0⟩ (by omega : k < (m.getD r []).length))
    have b2 := hf.mb _ (getD_mem [] hk) _ (getD_mem ⟨0, 0⟩ hik)
    have b3 := bd_dot hf hrm hi k (by omega)
    have hle := hf.le
    obtain ⟨m1, m2⟩ := mulW_c ((ha.2 r hr).2 k (by omega)) ((ho.2 k hk).2 i hik) b1 b2 (by omega)
    have b4 := bd_gmul b1 b2
    obtain ⟨a1, a2⟩ := addW_c hd m2 b3 b4 (by
      have : k * (2 * (A * B)) ≤ 3 * (2 * (A * B)) := Nat.mul_le_mul_right _ (by omega)
      omega)
    exact ⟨m1, a1, a2⟩
  intro k
  induction k with
  | zero => intro _; exact ⟨isC_zero, fun h => step 0 h isC_zero⟩
  | succ k ih =>
    intro hk
    have := ((ih (by omega)).2 (by omega)).2.2
    exact ⟨this, fun h => step (k + 1) h this⟩
theorem times_rep {a o : List (List Fz)} {m ls : List (List Gs)} {A B : Nat} (hf : Fits m ls A B) (hs : 8 * (A * B) ≤ 9007199254740991) (ha : RepM a m) (ho : RepM o ls) : RepM (timesW a o) (applS m ls) := by
  have hp := hf.pos
  refine ⟨by simp [timesW, applS, ha.1], fun r hr => ?_⟩
  have hr' : r < m.length := by simpa [applS] using hr
  rw [timesW, applS, getD_map' _ a r [] [] (by rw [ha.1]; exact hr'), getD_map' _ m r [] [] hr']
  have hl : (o.getD 0 []).length = (ls.getD 0 []).length := (ho.2 0 hp).1
  refine ⟨by simp only [rowW, rowS', List.length_map, List.length_range, hl], fun i hi => ?_⟩
  have hi' : i < (ls.getD 0 []).length := by simpa [rowS'] using hi
  have := (dot_c hf hs ha ho hr' hi' ls.length (Nat.le_refl _)).1
  have e1 : (rowW o (a.getD r [])).getD i ⟨0, 0⟩ = dotW (a.getD r []) o i ls.length := by rw [rowW, hl, ho.1, rng_getD _ _ hi']
  have e2 : (rowS' ls (m.getD r [])).getD i ⟨0, 0⟩ = dotS (m.getD r []) ls i ls.length := by rw [rowS', rng_getD _ _ hi']
  rw [e1, e2]; exact this
theorem gridTimes_c (a o : List (List Fz)) (m ls : List (List Gs)) (A B : Nat) (hf : Fits m ls A B) (hs : 8 * (A * B) ≤ 9007199254740991) (ha : RepM a m) (ho : RepM o ls) : FC Try.prog 86 [enc a, enc o] [] (enc (timesW a o)) [] := by
  refine fc_intro' is86 (by simp) (fun cx hl => S_run [] 800 ?_)
  have hp := hf.pos
  have hle := hf.le
  have hmle := hf.mle
  have hsh := hf.short
  have hoL := ho.1
  have haL := ha.1
  have hn0 : (o.getD 0 []).length = (ls.getD 0 []).length := (ho.2 0 hp).1
  generalize hn : (ls.getD 0 []).length = n at *
  have ho0 : 0 < o.length := by omega
  delta c86
  simp (maxSteps := 4000000) -implicitDefEqProofs only [rv86, Ent.of0, Ent.of1, Ent.of2, Ent.of3, V, bO, bt, bE, cb, cN, cU, gt, lk, cJ, bQ, cm, cr, bM, cn, cn.subCs, cT, bg, a9, cg, az, a3, bn, aJ, bz, bo, aY, bF, ax, cu, cO, c6, aq, aX, bR, cI, cj, cY, cR, aV, an, bY, bj, zC, argS, bG, cH, cP, cW, ah, aw, aW, aA, cd, leC, ca, bP, cG, cS, bU, ay, aL, cK, au, cp, a7, a7.viewCs, bH, bH.flatCs, aR, aR.LensOks, Value.oneCell', ↓reduceIte, ite_true, ite_false, if_true, if_false, Nat.reduceAdd, Nat.reduceSub, Nat.reduceMul, Nat.reduceEqDiff, Nat.reduceLT, Nat.reduceLeDiff, reduceCtorEq, Int.reduceToNat, forall_const, implies_true, bm, Ent.mk3, bC, bu, bw, a5, a6, aZ, bK, bB, bI, bJ, bk, cD, bD, cQ, rn, bT, bT.renCs, aT, aU, aN, aN.viewOks, aI, a8, a8.flatBs, aG, ag, aH, ar, aQ, bv, bv.keysBs, aE, am, bp, bS, be, cC, af, af.passKs, aB, aO, ae, ae.lendKs, bV, cq, bW, bq, setInn, ai, cZ, cL, aC, bf, bZ, cc, aD, aP, Glob.gl, av, co, bL, b0, br, aj, bX, cM, cB, cV, bN, ap, ap.ptrOnlys, ak, aK, cz, aM, a4, bA, ce, aF, bh, cF, Nat.reduceBEq, undef]
  refine S_forU a.length (fun i => [(15, .s (.int .i64 i))]) (fun i => [(5, .row 1 152 ((timesW (a.take i) o).map cells))]) (fun _ => True) trivial ?_ (fun i hi _ => S_run [] 800 ?_)
  · simp (maxSteps := 4000000) -implicitDefEqProofs only [timesW, Ent.of0, Ent.of1, Ent.of2, Ent.of3, V, bO, bt, bE, cb, cN, cU, gt, lk, cJ, bQ, cm, cr, bM, cn, cn.subCs, cT, bg, a9, cg, az, a3, bn, aJ, bz, bo, aY, bF, ax, cu, cO, c6, aq, aX, bR, cI, cj, cY, cR, aV, an, bY, bj, zC, argS, bG, cH, cP, cW, ah, aw, aW, aA, cd, leC, ca, bP, cG, cS, bU, ay, aL, cK, au, cp, a7, a7.viewCs, bH, bH.flatCs, aR, aR.LensOks, Value.oneCell', ↓reduceIte, ite_true, ite_false, if_true, if_false, Nat.reduceAdd, Nat.reduceSub, Nat.reduceMul, Nat.reduceEqDiff, Nat.reduceLT, Nat.reduceLeDiff, reduceCtorEq, Int.reduceToNat, forall_const, implies_true, bm, Ent.mk3, bC, bu, bw, a5, a6, aZ, bK, bB, bI, bJ, bk, cD, bD, cQ, rn, bT, bT.renCs, aT, aU, aN, aN.viewOks, aI, a8, a8.flatBs, aG, ag, aH, ar, aQ, bv, bv.keysBs, aE, am, bp, bS, be, cC, af, af.passKs, aB, aO, ae, ae.lendKs, bV, cq, bW, bq, setInn, ai, cZ, cL, aC, bf, bZ, cc, aD, aP, Glob.gl, av, co, bL, b0, br, aj, bX, cM, cB, cV, bN, ap, ap.ptrOnlys, ak, aK, cz, aM, a4, bA, ce, aF, bh, cF, Nat.reduceBEq, undef]; simp
  · by_cases h : i < a.length
    · have hi2 : (i : Int) < (a.length : Int) := by omega
      have him : i < m.length := by omega
      have hcol : (a.getD i []).length = ls.length := by rw [(ha.2 i him).1]; exact hf.cols _ (getD_mem [] him)
      delta c86l3
      simp (maxSteps := 4000000) -implicitDefEqProofs only [sz_fz, hi2, getD_list, h, ho0, hn0, Int.toNat_natCast, InR, Ent.of0, Ent.of1, Ent.of2, Ent.of3, V, bO, bt, bE, cb, cN, cU, gt, lk, cJ, bQ, cm, cr, bM, cn, cn.subCs, cT, bg, a9, cg, az, a3, bn, aJ, bz, bo, aY, bF, ax, cu, cO, c6, aq, aX, bR, cI, cj, cY, cR, aV, an, bY, bj, zC, argS, bG, cH, cP, cW, ah, aw, aW, aA, cd, leC, ca, bP, cG, cS, bU, ay, aL, cK, au, cp, a7, a7.viewCs, bH, bH.flatCs, aR, aR.LensOks, Value.oneCell', ↓reduceIte, ite_true, ite_false, if_true, if_false, Nat.reduceAdd, Nat.reduceSub, Nat.reduceMul, Nat.reduceEqDiff, Nat.reduceLT, Nat.reduceLeDiff, reduceCtorEq, Int.reduceToNat, forall_const, implies_true, bm, Ent.mk3, bC, bu, bw, a5, a6, aZ, bK, bB, bI, bJ, bk, cD, bD, cQ, rn, bT, bT.renCs, aT, aU, aN, aN.viewOks, aI, a8, a8.flatBs, aG, ag, aH, ar, aQ, bv, bv.keysBs, aE, am, bp, bS, be, cC, af, af.passKs, aB, aO, ae, ae.lendKs, bV, cq, bW, bq, setInn, ai, cZ, cL, aC, bf, bZ, cc, aD, aP, Glob.gl, av, co, bL, b0, br, aj, bX, cM, cB, cV, bN, ap, ap.ptrOnlys, ak, aK, cz, aM, a4, bA, ce, aF, bh, cF, Nat.reduceBEq, undef]
      refine ⟨by omega, by omega, by omega, ?_⟩
      generalize hR : a.getD i [] = R at *
      refine S_forU R.length (fun k => [(26, .s (.int .i64 k))]) (fun k => [(23, .row 1 153 ((sumW R o n k 0).map cells))]) (fun _ => True) trivial ?_ (fun k hk _ => S_run [] 800 ?_)
      · simp (maxSteps := 4000000) -implicitDefEqProofs only [sumW_zero, Ent.of0, Ent.of1, Ent.of2, Ent.of3, V, bO, bt, bE, cb, cN, cU, gt, lk, cJ, bQ, cm, cr, bM, cn, cn.subCs, cT, bg, a9, cg, az, a3, bn, aJ, bz, bo, aY, bF, ax, cu, cO, c6, aq, aX, bR, cI, cj, cY, cR, aV, an, bY, bj, zC, argS, bG, cH, cP, cW, ah, aw, aW, aA, cd, leC, ca, bP, cG, cS, bU, ay, aL, cK, au, cp, a7, a7.viewCs, bH, bH.flatCs, aR, aR.LensOks, Value.oneCell', ↓reduceIte, ite_true, ite_false, if_true, if_false, Nat.reduceAdd, Nat.reduceSub, Nat.reduceMul, Nat.reduceEqDiff, Nat.reduceLT, Nat.reduceLeDiff, reduceCtorEq, Int.reduceToNat, forall_const, implies_true, bm, Ent.mk3, bC, bu, bw, a5, a6, aZ, bK, bB, bI, bJ, bk, cD, bD, cQ, rn, bT, bT.renCs, aT, aU, aN, aN.viewOks, aI, a8, a8.flatBs, aG, ag, aH, ar, aQ, bv, bv.keysBs, aE, am, bp, bS, be, cC, af, af.passKs, aB, aO, ae, ae.lendKs, bV, cq, bW, bq, setInn, ai, cZ, cL, aC, bf, bZ, cc, aD, aP, Glob.gl, av, co, bL, b0, br, aj, bX, cM, cB, cV, bN, ap, ap.ptrOnlys, ak, aK, cz, aM, a4, bA, ce, aF, bh, cF, Nat.reduceBEq, undef]; simp
      · by_cases hkl : k < R.length
        · have hk2 : (k : Int) < (R.length : Int) := by omega
          have hko : k < o.length := by omega
          have hkn : (o.getD k []).length = n := by rw [(ho.2 k (by omega)).1, ← hn]; exact hf.len _ (getD_mem [] (by omega))
          delta c86l2
          simp (maxSteps := 4000000) -implicitDefEqProofs only [hk2, hkl, hko, getD_list, getD_fz, sz_fz, Ent.of0, Ent.of1, Ent.of2, Ent.of3, V, bO, bt, bE, cb, cN, cU, gt, lk, cJ, bQ, cm, cr, bM, cn, cn.subCs, cT, bg, a9, cg, az, a3, bn, aJ, bz, bo, aY, bF, ax, cu, cO, c6, aq, aX, bR, cI, cj, cY, cR, aV, an, bY, bj, zC, argS, bG, cH, cP, cW, ah, aw, aW, aA, cd, leC, ca, bP, cG, cS, bU, ay, aL, cK, au, cp, a7, a7.viewCs, bH, bH.flatCs, aR, aR.LensOks, Value.oneCell', ↓reduceIte, ite_true, ite_false, if_true, if_false, Nat.reduceAdd, Nat.reduceSub, Nat.reduceMul, Nat.reduceEqDiff, Nat.reduceLT, Nat.reduceLeDiff, reduceCtorEq, Int.reduceToNat, forall_const, implies_true, bm, Ent.mk3, bC, bu, bw, a5, a6, aZ, bK, bB, bI, bJ, bk, cD, bD, cQ, rn, bT, bT.renCs, aT, aU, aN, aN.viewOks, aI, a8, a8.flatBs, aG, ag, aH, ar, aQ, bv, bv.keysBs, aE, am, bp, bS, be, cC, af, af.passKs, aB, aO, ae, ae.lendKs, bV, cq, bW, bq, setInn, ai, cZ, cL, aC, bf, bZ, cc, aD, aP, Glob.gl, av, co, bL, b0, br, aj, bX, cM, cB, cV, bN, ap, ap.ptrOnlys, ak, aK, cz, aM, a4, bA, ce, aF, bh, cF, Nat.reduceBEq, undef]
          refine ⟨by omega, by omega, ?_⟩
          refine S_forU n (fun j => [(36, .s (.int .i64 j))]) (fun j => [(23, .row 1 153 ((sumW R o n k j).map cells))]) (fun _ => True) trivial ?_ (fun j hj _ => S_run [] 800 ?_)
          · simp (maxSteps := 4000000) -implicitDefEqProofs only [Ent.of0, Ent.of1, Ent.of2, Ent.of3, V, bO, bt, bE, cb, cN, cU, gt, lk, cJ, bQ, cm, cr, bM, cn, cn.subCs, cT, bg, a9, cg, az, a3, bn, aJ, bz, bo, aY, bF, ax, cu, cO, c6, aq, aX, bR, cI, cj, cY, cR, aV, an, bY, bj, zC, argS, bG, cH, cP, cW, ah, aw, aW, aA, cd, leC, ca, bP, cG, cS, bU, ay, aL, cK, au, cp, a7, a7.viewCs, bH, bH.flatCs, aR, aR.LensOks, Value.oneCell', ↓reduceIte, ite_true, ite_false, if_true, if_false, Nat.reduceAdd, Nat.reduceSub, Nat.reduceMul, Nat.reduceEqDiff, Nat.reduceLT, Nat.reduceLeDiff, reduceCtorEq, Int.reduceToNat, forall_const, implies_true, bm, Ent.mk3, bC, bu, bw, a5, a6, aZ, bK, bB, bI, bJ, bk, cD, bD, cQ, rn, bT, bT.renCs, aT, aU, aN, aN.viewOks, aI, a8, a8.flatBs, aG, ag, aH, ar, aQ, bv, bv.keysBs, aE, am, bp, bS, be, cC, af, af.passKs, aB, aO, ae, ae.lendKs, bV, cq, bW, bq, setInn, ai, cZ, cL, aC, bf, bZ, cc, aD, aP, Glob.gl, av, co, bL, b0, br, aj, bX, cM, cB, cV, bN, ap, ap.ptrOnlys, ak, aK, cz, aM, a4, bA, ce, aF, bh, cF, Nat.reduceBEq, undef]; simp
          · by_cases hjl : j < n
            · have hj2 : (j : Int) < (n : Int) := by omega
              have hjk : j < (o.getD k []).length := by omega
              obtain ⟨d1, d2⟩ := dot_c hf hs ha ho him (by omega : j < (ls.getD 0 []).length) k (by omega)
              rw [hR] at d1 d2
              obtain ⟨d3, d4, d5⟩ := d2 (by omega)
              have hsl : (sumW R o n k j).length = n := by simp [sumW]
              have hsg := sumW_get (row := R) (o := o) (k := k) hjl
              have hsg' : ((sumW R o n k j).map cells).getD j [] = [C.s (.complex .f64 (dotW R o j k).x (dotW R o j k).y)] := by rw [getD_map' cells _ j ⟨0, 0⟩ _ (by omega), hsg]; rfl
              have hss := sumW_set (row := R) (o := o) (k := k) hjl
              simp only [aX] at d3 d4
              delta c86l1
              simp (maxSteps := 4000000) -implicitDefEqProofs only [sz_fz, hj2, hjl, hjk, hkn, cu, getD_fz, hsg, d3, d4, hsl, hsg', hss, aJ, InR, Ent.of0, Ent.of1, Ent.of2, Ent.of3, V, bO, bt, bE, cb, cN, cU, gt, lk, cJ, bQ, cm, cr, bM, cn, cn.subCs, cT, bg, a9, cg, az, a3, bn, aJ, bz, bo, aY, bF, ax, cu, cO, c6, aq, aX, bR, cI, cj, cY, cR, aV, an, bY, bj, zC, argS, bG, cH, cP, cW, ah, aw, aW, aA, cd, leC, ca, bP, cG, cS, bU, ay, aL, cK, au, cp, a7, a7.viewCs, bH, bH.flatCs, aR, aR.LensOks, Value.oneCell', ↓reduceIte, ite_true, ite_false, if_true, if_false, Nat.reduceAdd, Nat.reduceSub, Nat.reduceMul, Nat.reduceEqDiff, Nat.reduceLT, Nat.reduceLeDiff, reduceCtorEq, Int.reduceToNat, forall_const, implies_true, bm, Ent.mk3, bC, bu, bw, a5, a6, aZ, bK, bB, bI, bJ, bk, cD, bD, cQ, rn, bT, bT.renCs, aT, aU, aN, aN.viewOks, aI, a8, a8.flatBs, aG, ag, aH, ar, aQ, bv, bv.keysBs, aE, am, bp, bS, be, cC, af, af.passKs, aB, aO, ae, ae.lendKs, bV, cq, bW, bq, setInn, ai, cZ, cL, aC, bf, bZ, cc, aD, aP, Glob.gl, av, co, bL, b0, br, aj, bX, cM, cB, cV, bN, ap, ap.ptrOnlys, ak, aK, cz, aM, a4, bA, ce, aF, bh, cF, Nat.reduceBEq, undef]
              and_intros <;> first | omega | rfl | trivial
            · have : j = n := by omega
              subst this
              have hj2 : ¬ (j : Int) < (j : Int) := by omega
              have hsn := sumW_next R o j k
              delta c86l1
              simp (maxSteps := 4000000) -implicitDefEqProofs only [hj2, hkn, hsn, InR, Ent.of0, Ent.of1, Ent.of2, Ent.of3, V, bO, bt, bE, cb, cN, cU, gt, lk, cJ, bQ, cm, cr, bM, cn, cn.subCs, cT, bg, a9, cg, az, a3, bn, aJ, bz, bo, aY, bF, ax, cu, cO, c6, aq, aX, bR, cI, cj, cY, cR, aV, an, bY, bj, zC, argS, bG, cH, cP, cW, ah, aw, aW, aA, cd, leC, ca, bP, cG, cS, bU, ay, aL, cK, au, cp, a7, a7.viewCs, bH, bH.flatCs, aR, aR.LensOks, Value.oneCell', ↓reduceIte, ite_true, ite_false, if_true, if_false, Nat.reduceAdd, Nat.reduceSub, Nat.reduceMul, Nat.reduceEqDiff, Nat.reduceLT, Nat.reduceLeDiff, reduceCtorEq, Int.reduceToNat, forall_const, implies_true, bm, Ent.mk3, bC, bu, bw, a5, a6, aZ, bK, bB, bI, bJ, bk, cD, bD, cQ, rn, bT, bT.renCs, aT, aU, aN, aN.viewOks, aI, a8, a8.flatBs, aG, ag, aH, ar, aQ, bv, bv.keysBs, aE, am, bp, bS, be, cC, af, af.passKs, aB, aO, ae, ae.lendKs, bV, cq, bW, bq, setInn, ai, cZ, cL, aC, bf, bZ, cc, aD, aP, Glob.gl, av, co, bL, b0, br, aj, bX, cM, cB, cV, bN, ap, ap.ptrOnlys, ak, aK, cz, aM, a4, bA, ce, aF, bh, cF, Nat.reduceBEq, undef]
              and_intros <;> first | omega | rfl | trivial
        · have : k = R.length := by omega
          subst this
          have hk2 : ¬ (R.length : Int) < (R.length : Int) := by omega
          have hrow : rowW o R = sumW R o n R.length 0 := by
            rw [rowW, hn0, hcol, ← hoL, sumW]
            refine List.map_congr_left fun i _ => ?_
            simp
          have htk : (timesW (a.take i) o).map cells ++ [[C.sl 1 ((sumW R o n R.length 0).map cells)]] = (timesW (a.take (i + 1)) o).map cells := by
            rw [take_getD [] h, hR, timesW, timesW, List.map_append, List.map_append, ← hrow]; rfl
          have htl : (timesW (a.take i) o).length = i := by rw [timesW, List.length_map, List.length_take]; omega
          delta c86l2
          simp (maxSteps := 4000000) -implicitDefEqProofs only [hk2, htk, htl, InR, Ent.of0, Ent.of1, Ent.of2, Ent.of3, V, bO, bt, bE, cb, cN, cU, gt, lk, cJ, bQ, cm, cr, bM, cn, cn.subCs, cT, bg, a9, cg, az, a3, bn, aJ, bz, bo, aY, bF, ax, cu, cO, c6, aq, aX, bR, cI, cj, cY, cR, aV, an, bY, bj, zC, argS, bG, cH, cP, cW, ah, aw, aW, aA, cd, leC, ca, bP, cG, cS, bU, ay, aL, cK, au, cp, a7, a7.viewCs, bH, bH.flatCs, aR, aR.LensOks, Value.oneCell', ↓reduceIte, ite_true, ite_false, if_true, if_false, Nat.reduceAdd, Nat.reduceSub, Nat.reduceMul, Nat.reduceEqDiff, Nat.reduceLT, Nat.reduceLeDiff, reduceCtorEq, Int.reduceToNat, forall_const, implies_true, bm, Ent.mk3, bC, bu, bw, a5, a6, aZ, bK, bB, bI, bJ, bk, cD, bD, cQ, rn, bT, bT.renCs, aT, aU, aN, aN.viewOks, aI, a8, a8.flatBs, aG, ag, aH, ar, aQ, bv, bv.keysBs, aE, am, bp, bS, be, cC, af, af.passKs, aB, aO, ae, ae.lendKs, bV, cq, bW, bq, setInn, ai, cZ, cL, aC, bf, bZ, cc, aD, aP, Glob.gl, av, co, bL, b0, br, aj, bX, cM, cB, cV, bN, ap, ap.ptrOnlys, ak, aK, cz, aM, a4, bA, ce, aF, bh, cF, Nat.reduceBEq, undef]
          and_intros <;> first | omega | rfl | trivial
    · have : i = a.length := by omega
      subst this
      have hi2 : ¬ (a.length : Int) < (a.length : Int) := by omega
      delta c86l3
      simp (maxSteps := 4000000) -implicitDefEqProofs only [hi2, rv86, List.take_length, Ent.of0, Ent.of1, Ent.of2, Ent.of3, V, bO, bt, bE, cb, cN, cU, gt, lk, cJ, bQ, cm, cr, bM, cn, cn.subCs, cT, bg, a9, cg, az, a3, bn, aJ, bz, bo, aY, bF, ax, cu, cO, c6, aq, aX, bR, cI, cj, cY, cR, aV, an, bY, bj, zC, argS, bG, cH, cP, cW, ah, aw, aW, aA, cd, leC, ca, bP, cG, cS, bU, ay, aL, cK, au, cp, a7, a7.viewCs, bH, bH.flatCs, aR, aR.LensOks, Value.oneCell', ↓reduceIte, ite_true, ite_false, if_true, if_false, Nat.reduceAdd, Nat.reduceSub, Nat.reduceMul, Nat.reduceEqDiff, Nat.reduceLT, Nat.reduceLeDiff, reduceCtorEq, Int.reduceToNat, forall_const, implies_true, bm, Ent.mk3, bC, bu, bw, a5, a6, aZ, bK, bB, bI, bJ, bk, cD, bD, cQ, rn, bT, bT.renCs, aT, aU, aN, aN.viewOks, aI, a8, a8.flatBs, aG, ag, aH, ar, aQ, bv, bv.keysBs, aE, am, bp, bS, be, cC, af, af.passKs, aB, aO, ae, ae.lendKs, bV, cq, bW, bq, setInn, ai, cZ, cL, aC, bf, bZ, cc, aD, aP, Glob.gl, av, co, bL, b0, br, aj, bX, cM, cB, cV, bN, ap, ap.ptrOnlys, ak, aK, cz, aM, a4, bA, ce, aF, bh, cF, Nat.reduceBEq, undef]
theorem RepM.len {a : List (List Fz)} {m : List (List Gs)} (h : RepM a m) : a.length = m.length := h.1
end Go.Proofs.Ytfgpbmjmoobcnaa
end
section
open Go Go.Am
open Go.Am.Dat (cells)
namespace Go.Proofs.Ytfgpbmjmoobcnaa
set_option maxHeartbeats 4000000
set_option maxRecDepth 20000
set_option linter.unusedSimpArgs false
def ofM (w : List (List Fz)) : List (List Gs) := w.map fun r => r.map ofW
theorem ofW_c {z : Fz} {g : Gs} (h : IsC z g) : ofW z = g := by
  unfold ofW
  rw [(ofF_c h.1).2, (ofF_c h.2).2]
theorem ofM_c {w : List (List Fz)} {m : List (List Gs)} (h : RepM w m) : ofM w = m := by
  apply List.ext_getElem
  · simpa [ofM] using h.1
  · intro i h1 h2
    have h3 := h.2 i h2
    have hw : i < w.length := by rw [h.1]; exact h2
    have e1 : (ofM w)[i] = (w.getD i []).map ofW := by simp [ofM, List.getD_eq_getElem?_getD, List.getElem?_eq_getElem hw]
    have e2 : m[i] = m.getD i [] := by rw [List.getD_eq_getElem?_getD, List.getElem?_eq_getElem h2]; rfl
    rw [e1, e2]
    apply List.ext_getElem
    · simpa using h3.1
    · intro j j1 j2
      have h4 := h3.2 j j2
      have hwj : j < (w.getD i []).length := by rw [h3.1]; exact j2
      have e3 : ((w.getD i []).map ofW)[j] = ofW ((w.getD i []).getD j ⟨0, 0⟩) := by
        rw [List.getElem_map]; congr 1
        rw [List.getD_eq_getElem?_getD (l := w.getD i []), List.getElem?_eq_getElem hwj]; rfl
      have e4 : (m.getD i [])[j] = (m.getD i []).getD j ⟨0, 0⟩ := by rw [List.getD_eq_getElem?_getD (l := m.getD i []), List.getElem?_eq_getElem j2]; rfl
      rw [e3, e4]; exact ofW_c h4
structure RowsOk (w : List (List Fz)) (m : List (List Gs)) : Prop where
  rep : RepM w m
  short : m.length ≤ 1000
  shorts : ∀ r ∈ m, r.length ≤ 1000000
  small : ∀ r ∈ m, ∀ g ∈ r, bd g 9007199254740991
end Go.Proofs.Ytfgpbmjmoobcnaa
end
section
open Go Go.Am
open Go.Am.Dat (cells)
namespace Go.Proofs.Ytfgpbmjmoobcnaa
set_option maxHeartbeats 4000000
set_option maxRecDepth 100000
set_option linter.unusedSimpArgs false
def turnsS (c : Nat) (a b : List Int) : List Int := (List.range c).flatMap fun i => [a.getD i 0, b.getD i 0]
theorem turnsS_succ (c : Nat) (a b : List Int) : turnsS (c + 1) a b = turnsS c a b ++ [a.getD c 0, b.getD c 0] := by simp [turnsS, List.range_succ]
theorem turnsS_length (a b : List Int) : ∀ c, (turnsS c a b).length = 2 * c
  | 0 => rfl
  | c + 1 => by rw [turnsS_succ, List.length_append, turnsS_length a b c]; simp; omega
def judgedS (c : Nat) (T : List Int → List Int) (gain : Int) (l : List Gs) : List Int := l.flatMap fun g => turnsS c (T (sqS c gain g.re)) (T (sqS c gain g.im))
def e136 (f : FuncId) (T : List Int → List Int) (c : Nat) (hc : c = 1 ∨ c = 2 ∨ c = 3) (hf : ∀ sq : List Int, sq.length = 2 ^ c → (∀ s ∈ sq, 0 ≤ s ∧ s ≤ 4611686018427387903) → FC Try.prog f [enc (lvls c), enc sq] [] (enc (T sq)) []) : Ent Try.prog where
  id := 136
  sp := fun _ _ => none
  ok := by intro _ _ _ _ _ _ h; cases h
  kp := fun args chs => match args, chs with
    | [.s (.int .i64 n), .ptr k1 o1, .ptr k2 o2, .ptr k3 o3], [(k1', .box [.sl 1 L]), (k2', .box [.s (.int .i64 o), .s (.int .i64 g), .sl 2 l]), (k3', .box [.fn (.func f') [] []])] =>
      some ((k1 = 100000 ∧ o1 = 0 ∧ k2 = 100001 ∧ o2 = 0 ∧ k3 = 100002 ∧ o3 = 0 ∧ k1' = 100000 ∧ k2' = 100001 ∧ k3' = 100002 ∧ f' = f ∧ L = (lvls c).map cells ∧ ∃ l' : List Gs, l = l'.map cells) ∧ (1 ≤ g ∧ g ≤ 10000000) ∧ -100000000 ≤ n ∧ n ≤ 100000000, enc (T (sqS c g n)))
    | _, _ => none
  kpok := by
    intro args chs p r hs hp
    split at hs
    · rename_i n k1 o1 k2 o2 k3 o3 k1' L k2' o g l k3' f'
      simp only [Option.some.injEq, Prod.mk.injEq] at hs
      obtain ⟨rfl, rfl⟩ := hs
      obtain ⟨⟨rfl, rfl, rfl, rfl, rfl, rfl, rfl, rfl, rfl, hff, rfl, l', rfl⟩, hg, hn⟩ := hp
      subst hff
      exact ⟨part_c f' T c hc hf ⟨o, g, l'⟩ n hg hn, rfl, trivial⟩
    · cases hs
theorem judged_c (f : FuncId) (T : List Int → List Int) (c : Nat) (hc : c = 1 ∨ c = 2 ∨ c = 3) (hf : ∀ sq : List Int, sq.length = 2 ^ c → (∀ s ∈ sq, 0 ≤ s ∧ s ≤ 4611686018427387903) → FC Try.prog f [enc (lvls c), enc sq] [] (enc (T sq)) [])
    (hT : ∀ sq : List Int, sq.length = 2 ^ c → (T sq).length = c) (g : Int) (l : List Gs) (hg : 1 ≤ g ∧ g ≤ 10000000) (hn : ∀ s ∈ l, (-100000000 ≤ s.re ∧ s.re ≤ 100000000) ∧ -100000000 ≤ s.im ∧ s.im ≤ 100000000) (hll : l.length ≤ 1000) :
    FC Try.prog 115 [enc (⟨2 * (c : Int), g, l⟩ : Recv), .fn (.func f) [] []] [] (enc (judgedS c T g l)) [] := by
  have hlc := lvls_length c
  have hq : (2 * (c : Int)).tdiv 2 = (c : Int) := by rw [Int.mul_comm]; exact Int.mul_tdiv_cancel _ (by decide)
  have hmin : min c IntKind.i64.bits = c := by rcases hc with rfl | rfl | rfl <;> decide
  have hP : (2 : Int) ^ c = ((2 ^ c : Nat) : Int) := by push_cast; rfl
  have hPb : 2 ≤ 2 ^ c ∧ 2 ^ c ≤ 8 := by rcases hc with rfl | rfl | rfl <;> decide
  have hget : ∀ i, i < 2 ^ c → (lvls c).getD i 0 = 2 * (i : Int) - ((2 ^ c : Nat) - 1) := fun i hi => by
    have hi' : i < (lvls c).length := by omega
    rw [List.getD_eq_getElem?_getD, List.getElem?_eq_getElem hi']
    simp [lvls]
  refine fc_introC [] is115 (by simp) trivial trivial trivial trivial (fun cx hcx hl _ => S_run [] 800 ?_)
  delta c115
  simp (maxSteps := 4000000) -implicitDefEqProofs only [rv115, enc_recv, hq, hmin, hP, Int.one_mul, InR, Ent.of0, Ent.of1, Ent.of2, Ent.of3, V, bO, bt, bE, cb, cN, cU, gt, lk, cJ, bQ, cm, cr, bM, cn, cn.subCs, cT, bg, a9, cg, az, a3, bn, aJ, bz, bo, aY, bF, ax, cu, cO, c6, aq, aX, bR, cI, cj, cY, cR, aV, an, bY, bj, zC, argS, bG, cH, cP, cW, ah, aw, aW, aA, cd, leC, ca, bP, cG, cS, bU, ay, aL, cK, au, cp, a7, a7.viewCs, bH, bH.flatCs, aR, aR.LensOks, Value.oneCell', ↓reduceIte, ite_true, ite_false, if_true, if_false, Nat.reduceAdd, Nat.reduceSub, Nat.reduceMul, Nat.reduceEqDiff, Nat.reduceLT, Nat.reduceLeDiff, reduceCtorEq, Int.reduceToNat, forall_const, implies_true, bm, Ent.mk3, bC, bu, bw, a5, a6, aZ, bK, bB, bI, bJ, bk, cD, bD, cQ, rn, bT, bT.renCs, aT, aU, aN, aN.viewOks, aI, a8, a8.flatBs, aG, ag, aH, ar, aQ, bv, bv.keysBs, aE, am, bp, bS, be, cC, af, af.passKs, aB, aO, ae, ae.lendKs, bV, cq, bW, bq, setInn, ai, cZ, cL, aC, bf, bZ, cc, aD, aP, Glob.gl, av, co, bL, b0, br, aj, bX, cM, cB, cV, bN, ap, ap.ptrOnlys, ak, aK, cz, aM, a4, bA, ce, aF, bh, cF, Nat.reduceBEq, undef]
  refine ⟨by omega, by omega, by omega, ?_⟩
  refine S_forU (2 ^ c) (fun i => [(7, .s (.int .i64 (2 * (i : Int) - ((2 ^ c : Nat) - 1))))]) (fun i => [(6, .box [if i = 0 then .s (.slice none 0 0) else .isl 1 3 (((lvls c).take i).map cells)])]) (fun _ => True) trivial ?_ (fun i hi _ => ?_)
  · simp (maxSteps := 4000000) -implicitDefEqProofs only [Ent.of0, Ent.of1, Ent.of2, Ent.of3, V, bO, bt, bE, cb, cN, cU, gt, lk, cJ, bQ, cm, cr, bM, cn, cn.subCs, cT, bg, a9, cg, az, a3, bn, aJ, bz, bo, aY, bF, ax, cu, cO, c6, aq, aX, bR, cI, cj, cY, cR, aV, an, bY, bj, zC, argS, bG, cH, cP, cW, ah, aw, aW, aA, cd, leC, ca, bP, cG, cS, bU, ay, aL, cK, au, cp, a7, a7.viewCs, bH, bH.flatCs, aR, aR.LensOks, Value.oneCell', ↓reduceIte, ite_true, ite_false, if_true, if_false, Nat.reduceAdd, Nat.reduceSub, Nat.reduceMul, Nat.reduceEqDiff, Nat.reduceLT, Nat.reduceLeDiff, reduceCtorEq, Int.reduceToNat, forall_const, implies_true, bm, Ent.mk3, bC, bu, bw, a5, a6, aZ, bK, bB, bI, bJ, bk, cD, bD, cQ, rn, bT, bT.renCs, aT, aU, aN, aN.viewOks, aI, a8, a8.flatBs, aG, ag, aH, ar, aQ, bv, bv.keysBs, aE, am, bp, bS, be, cC, af, af.passKs, aB, aO, ae, ae.lendKs, bV, cq, bW, bq, setInn, ai, cZ, cL, aC, bf, bZ, cc, aD, aP, Glob.gl, av, co, bL, b0, br, aj, bX, cM, cB, cV, bN, ap, ap.ptrOnlys, ak, aK, cz, aM, a4, bA, ce, aF, bh, cF, Nat.reduceBEq, undef]; omega
  · by_cases h : i < 2 ^ c
    · have htk : ((lvls c).take i).map cells ++ [[C.s (.int .i64 (2 * (i : Int) - ((2 ^ c : Nat) - 1)))]] = ((lvls c).take (i + 1)).map cells := by
        rw [take_getD 0 (by omega : i < (lvls c).length), List.map_append, hget i h]; rfl
      have hlt : ((lvls c).take i).length = i := by rw [List.length_take]; omega
      have hlt2 : 2 * (i : Int) - (((2 ^ c : Nat) : Int) - 1) < ((2 ^ c : Nat) : Int) := by omega
      refine S_run [] 800 ?_
      cases i with
      | zero =>
        delta c115l1
        simp (maxSteps := 4000000) -implicitDefEqProofs only [hq, hmin, hP, Int.one_mul, hlt2, h, InR, Ent.of0, Ent.of1, Ent.of2, Ent.of3, V, bO, bt, bE, cb, cN, cU, gt, lk, cJ, bQ, cm, cr, bM, cn, cn.subCs, cT, bg, a9, cg, az, a3, bn, aJ, bz, bo, aY, bF, ax, cu, cO, c6, aq, aX, bR, cI, cj, cY, cR, aV, an, bY, bj, zC, argS, bG, cH, cP, cW, ah, aw, aW, aA, cd, leC, ca, bP, cG, cS, bU, ay, aL, cK, au, cp, a7, a7.viewCs, bH, bH.flatCs, aR, aR.LensOks, Value.oneCell', ↓reduceIte, ite_true, ite_false, if_true, if_false, Nat.reduceAdd, Nat.reduceSub, Nat.reduceMul, Nat.reduceEqDiff, Nat.reduceLT, Nat.reduceLeDiff, reduceCtorEq, Int.reduceToNat, forall_const, implies_true, bm, Ent.mk3, bC, bu, bw, a5, a6, aZ, bK, bB, bI, bJ, bk, cD, bD, cQ, rn, bT, bT.renCs, aT, aU, aN, aN.viewOks, aI, a8, a8.flatBs, aG, ag, aH, ar, aQ, bv, bv.keysBs, aE, am, bp, bS, be, cC, af, af.passKs, aB, aO, ae, ae.lendKs, bV, cq, bW, bq, setInn, ai, cZ, cL, aC, bf, bZ, cc, aD, aP, Glob.gl, av, co, bL, b0, br, aj, bX, cM, cB, cV, bN, ap, ap.ptrOnlys, ak, aK, cz, aM, a4, bA, ce, aF, bh, cF, Nat.reduceBEq, undef]
        refine ⟨by omega, by omega, by omega, by push_cast; omega, ?_⟩
        rw [← htk]; rfl
      | succ i =>
        delta c115l1
        simp (maxSteps := 4000000) -implicitDefEqProofs only [hq, hmin, hP, Int.one_mul, hlt, hlt2, h, htk, Nat.succ_ne_zero, InR, Ent.of0, Ent.of1, Ent.of2, Ent.of3, V, bO, bt, bE, cb, cN, cU, gt, lk, cJ, bQ, cm, cr, bM, cn, cn.subCs, cT, bg, a9, cg, az, a3, bn, aJ, bz, bo, aY, bF, ax, cu, cO, c6, aq, aX, bR, cI, cj, cY, cR, aV, an, bY, bj, zC, argS, bG, cH, cP, cW, ah, aw, aW, aA, cd, leC, ca, bP, cG, cS, bU, ay, aL, cK, au, cp, a7, a7.viewCs, bH, bH.flatCs, aR, aR.LensOks, Value.oneCell', ↓reduceIte, ite_true, ite_false, if_true, if_false, Nat.reduceAdd, Nat.reduceSub, Nat.reduceMul, Nat.reduceEqDiff, Nat.reduceLT, Nat.reduceLeDiff, reduceCtorEq, Int.reduceToNat, forall_const, implies_true, bm, Ent.mk3, bC, bu, bw, a5, a6, aZ, bK, bB, bI, bJ, bk, cD, bD, cQ, rn, bT, bT.renCs, aT, aU, aN, aN.viewOks, aI, a8, a8.flatBs, aG, ag, aH, ar, aQ, bv, bv.keysBs, aE, am, bp, bS, be, cC, af, af.passKs, aB, aO, ae, ae.lendKs, bV, cq, bW, bq, setInn, ai, cZ, cL, aC, bf, bZ, cc, aD, aP, Glob.gl, av, co, bL, b0, br, aj, bX, cM, cB, cV, bN, ap, ap.ptrOnlys, ak, aK, cz, aM, a4, bA, ce, aF, bh, cF, Nat.reduceBEq, undef]
        exact ⟨by omega, by omega, by omega, by omega, by push_cast; omega⟩
    · have hlt2 : ¬ 2 * (i : Int) - (((2 ^ c : Nat) : Int) - 1) < ((2 ^ c : Nat) : Int) := by omega
      have hie : i = 2 ^ c := by omega
      subst hie
      have hi0 : 2 ^ c ≠ 0 := by omega
      have htk : (lvls c).take (2 ^ c) = lvls c := by rw [← hlc]; exact List.take_length
      refine S_run [] 800 ?_
      delta c115l1
      simp (maxSteps := 4000000) -implicitDefEqProofs only [hq, hmin, hP, Int.one_mul, hlt2, hi0, htk, InR, Ent.of0, Ent.of1, Ent.of2, Ent.of3, V, bO, bt, bE, cb, cN, cU, gt, lk, cJ, bQ, cm, cr, bM, cn, cn.subCs, cT, bg, a9, cg, az, a3, bn, aJ, bz, bo, aY, bF, ax, cu, cO, c6, aq, aX, bR, cI, cj, cY, cR, aV, an, bY, bj, zC, argS, bG, cH, cP, cW, ah, aw, aW, aA, cd, leC, ca, bP, cG, cS, bU, ay, aL, cK, au, cp, a7, a7.viewCs, bH, bH.flatCs, aR, aR.LensOks, Value.oneCell', ↓reduceIte, ite_true, ite_false, if_true, if_false, Nat.reduceAdd, Nat.reduceSub, Nat.reduceMul, Nat.reduceEqDiff, Nat.reduceLT, Nat.reduceLeDiff, reduceCtorEq, Int.reduceToNat, forall_const, implies_true, bm, Ent.mk3, bC, bu, bw, a5, a6, aZ, bK, bB, bI, bJ, bk, cD, bD, cQ, rn, bT, bT.renCs, aT, aU, aN, aN.viewOks, aI, a8, a8.flatBs, aG, ag, aH, ar, aQ, bv, bv.keysBs, aE, am, bp, bS, be, cC, af, af.passKs, aB, aO, ae, ae.lendKs, bV, cq, bW, bq, setInn, ai, cZ, cL, aC, bf, bZ, cc, aD, aP, Glob.gl, av, co, bL, b0, br, aj, bX, cM, cB, cV, bN, ap, ap.ptrOnlys, ak, aK, cz, aM, a4, bA, ce, aF, bh, cF, Nat.reduceBEq, undef]
      refine ⟨by omega, S_fzb 6 rfl ?_⟩
      simp (maxSteps := 4000000) -implicitDefEqProofs only [Ent.of0, Ent.of1, Ent.of2, Ent.of3, V, bO, bt, bE, cb, cN, cU, gt, lk, cJ, bQ, cm, cr, bM, cn, cn.subCs, cT, bg, a9, cg, az, a3, bn, aJ, bz, bo, aY, bF, ax, cu, cO, c6, aq, aX, bR, cI, cj, cY, cR, aV, an, bY, bj, zC, argS, bG, cH, cP, cW, ah, aw, aW, aA, cd, leC, ca, bP, cG, cS, bU, ay, aL, cK, au, cp, a7, a7.viewCs, bH, bH.flatCs, aR, aR.LensOks, Value.oneCell', ↓reduceIte, ite_true, ite_false, if_true, if_false, Nat.reduceAdd, Nat.reduceSub, Nat.reduceMul, Nat.reduceEqDiff, Nat.reduceLT, Nat.reduceLeDiff, reduceCtorEq, Int.reduceToNat, forall_const, implies_true, bm, Ent.mk3, bC, bu, bw, a5, a6, aZ, bK, bB, bI, bJ, bk, cD, bD, cQ, rn, bT, bT.renCs, aT, aU, aN, aN.viewOks, aI, a8, a8.flatBs, aG, ag, aH, ar, aQ, bv, bv.keysBs, aE, am, bp, bS, be, cC, af, af.passKs, aB, aO, ae, ae.lendKs, bV, cq, bW, bq, setInn, ai, cZ, cL, aC, bf, bZ, cc, aD, aP, Glob.gl, av, co, bL, b0, br, aj, bX, cM, cB, cV, bN, ap, ap.ptrOnlys, ak, aK, cz, aM, a4, bA, ce, aF, bh, cF, Nat.reduceBEq, undef]
      refine S_forU l.length (fun i => [(35, .s (.int .i64 (i : Int)))]) (fun i => [(9, .row 1 3 ((judgedS c T g (l.take i)).map cells))]) (fun _ => True) trivial ?_ (fun i hi _ => S_run [e136 f T c hc hf] 800 ?_)
      · simp (maxSteps := 4000000) -implicitDefEqProofs only [judgedS, Ent.of0, Ent.of1, Ent.of2, Ent.of3, V, bO, bt, bE, cb, cN, cU, gt, lk, cJ, bQ, cm, cr, bM, cn, cn.subCs, cT, bg, a9, cg, az, a3, bn, aJ, bz, bo, aY, bF, ax, cu, cO, c6, aq, aX, bR, cI, cj, cY, cR, aV, an, bY, bj, zC, argS, bG, cH, cP, cW, ah, aw, aW, aA, cd, leC, ca, bP, cG, cS, bU, ay, aL, cK, au, cp, a7, a7.viewCs, bH, bH.flatCs, aR, aR.LensOks, Value.oneCell', ↓reduceIte, ite_true, ite_false, if_true, if_false, Nat.reduceAdd, Nat.reduceSub, Nat.reduceMul, Nat.reduceEqDiff, Nat.reduceLT, Nat.reduceLeDiff, reduceCtorEq, Int.reduceToNat, forall_const, implies_true, bm, Ent.mk3, bC, bu, bw, a5, a6, aZ, bK, bB, bI, bJ, bk, cD, bD, cQ, rn, bT, bT.renCs, aT, aU, aN, aN.viewOks, aI, a8, a8.flatBs, aG, ag, aH, ar, aQ, bv, bv.keysBs, aE, am, bp, bS, be, cC, af, af.passKs, aB, aO, ae, ae.lendKs, bV, cq, bW, bq, setInn, ai, cZ, cL, aC, bf, bZ, cc, aD, aP, Glob.gl, av, co, bL, b0, br, aj, bX, cM, cB, cV, bN, ap, ap.ptrOnlys, ak, aK, cz, aM, a4, bA, ce, aF, bh, cF, Nat.reduceBEq, undef]
        exact ⟨rfl, rfl⟩
      · by_cases h : i < l.length
        · have hi2 : (i : Int) < (l.length : Int) := by omega
          have hgm : l.getD i ⟨0, 0⟩ ∈ l := getD_mem _ h
          have hn1 := hn _ hgm
          have hsql : ∀ n, (sqS c g n).length = 2 ^ c := fun n => by rw [sqS, List.length_map, hlc]
          have hT1 := hT _ (hsql (l.getD i ⟨0, 0⟩).re)
          have hT2 := hT _ (hsql (l.getD i ⟨0, 0⟩).im)
          delta c115l3
          simp (maxSteps := 4000000) -implicitDefEqProofs only [hi2, h, e136, hT1, InR, Ent.of0, Ent.of1, Ent.of2, Ent.of3, V, bO, bt, bE, cb, cN, cU, gt, lk, cJ, bQ, cm, cr, bM, cn, cn.subCs, cT, bg, a9, cg, az, a3, bn, aJ, bz, bo, aY, bF, ax, cu, cO, c6, aq, aX, bR, cI, cj, cY, cR, aV, an, bY, bj, zC, argS, bG, cH, cP, cW, ah, aw, aW, aA, cd, leC, ca, bP, cG, cS, bU, ay, aL, cK, au, cp, a7, a7.viewCs, bH, bH.flatCs, aR, aR.LensOks, Value.oneCell', ↓reduceIte, ite_true, ite_false, if_true, if_false, Nat.reduceAdd, Nat.reduceSub, Nat.reduceMul, Nat.reduceEqDiff, Nat.reduceLT, Nat.reduceLeDiff, reduceCtorEq, Int.reduceToNat, forall_const, implies_true, bm, Ent.mk3, bC, bu, bw, a5, a6, aZ, bK, bB, bI, bJ, bk, cD, bD, cQ, rn, bT, bT.renCs, aT, aU, aN, aN.viewOks, aI, a8, a8.flatBs, aG, ag, aH, ar, aQ, bv, bv.keysBs, aE, am, bp, bS, be, cC, af, af.passKs, aB, aO, ae, ae.lendKs, bV, cq, bW, bq, setInn, ai, cZ, cL, aC, bf, bZ, cc, aD, aP, Glob.gl, av, co, bL, b0, br, aj, bX, cM, cB, cV, bN, ap, ap.ptrOnlys, ak, aK, cz, aM, a4, bA, ce, aF, bh, cF, Nat.reduceBEq, undef]
          refine ⟨by omega, ⟨⟨l, rfl⟩, hg, hn1.1⟩, ⟨⟨l, rfl⟩, hg, hn1.2⟩, ?_⟩
          have hjs : judgedS c T g (l.take (i + 1)) = judgedS c T g (l.take i) ++ turnsS c (T (sqS c g (l.getD i ⟨0, 0⟩).re)) (T (sqS c g (l.getD i ⟨0, 0⟩).im)) := by
            rw [take_getD ⟨0, 0⟩ h, judgedS, judgedS, List.flatMap_append]; simp
          have hjl : (judgedS c T g (l.take i)).length ≤ 6000 := by
            have e : ∀ (m : List Gs), (judgedS c T g m).length ≤ 6 * m.length := fun m => by
              induction m with
              | nil => simp [judgedS]
              | cons x m ih =>
                have : judgedS c T g (x :: m) = turnsS c (T (sqS c g x.re)) (T (sqS c g x.im)) ++ judgedS c T g m := by simp [judgedS]
                rw [this, List.length_append, List.length_cons]
                have h2 : (turnsS c (T (sqS c g x.re)) (T (sqS c g x.im))).length ≤ 6 := by
                  rcases hc with rfl | rfl | rfl <;> simp [turnsS, List.range_succ]
                omega
            have := e (l.take i)
            rw [List.length_take] at this
            omega
          generalize T (sqS c g (l.getD i ⟨0, 0⟩).re) = X at *
          generalize T (sqS c g (l.getD i ⟨0, 0⟩).im) = Y at *
          generalize judgedS c T g (l.take i) = J at *
          refine S_forU c (fun j => [(49, .s (.int .i64 (j : Int)))]) (fun j => [(9, .row 1 3 ((J ++ turnsS j X Y).map cells))]) (fun _ => True) trivial ?_ (fun j hj _ => S_run [] 800 ?_)
          · simp (maxSteps := 4000000) -implicitDefEqProofs only [Ent.of0, Ent.of1, Ent.of2, Ent.of3, V, bO, bt, bE, cb, cN, cU, gt, lk, cJ, bQ, cm, cr, bM, cn, cn.subCs, cT, bg, a9, cg, az, a3, bn, aJ, bz, bo, aY, bF, ax, cu, cO, c6, aq, aX, bR, cI, cj, cY, cR, aV, an, bY, bj, zC, argS, bG, cH, cP, cW, ah, aw, aW, aA, cd, leC, ca, bP, cG, cS, bU, ay, aL, cK, au, cp, a7, a7.viewCs, bH, bH.flatCs, aR, aR.LensOks, Value.oneCell', ↓reduceIte, ite_true, ite_false, if_true, if_false, Nat.reduceAdd, Nat.reduceSub, Nat.reduceMul, Nat.reduceEqDiff, Nat.reduceLT, Nat.reduceLeDiff, reduceCtorEq, Int.reduceToNat, forall_const, implies_true, bm, Ent.mk3, bC, bu, bw, a5, a6, aZ, bK, bB, bI, bJ, bk, cD, bD, cQ, rn, bT, bT.renCs, aT, aU, aN, aN.viewOks, aI, a8, a8.flatBs, aG, ag, aH, ar, aQ, bv, bv.keysBs, aE, am, bp, bS, be, cC, af, af.passKs, aB, aO, ae, ae.lendKs, bV, cq, bW, bq, setInn, ai, cZ, cL, aC, bf, bZ, cc, aD, aP, Glob.gl, av, co, bL, b0, br, aj, bX, cM, cB, cV, bN, ap, ap.ptrOnlys, ak, aK, cz, aM, a4, bA, ce, aF, bh, cF, Nat.reduceBEq, undef]
            exact ⟨rfl, by simp [turnsS]⟩
          · have htl := turnsS_length X Y j
            by_cases hjc : j < c
            · have hj2 : (j : Int) < (c : Int) := by omega
              have hj3 : j < X.length := by omega
              have hj4 : j < Y.length := by omega
              have htk : (J ++ turnsS j X Y).map cells ++ [[C.s (.int .i64 (X.getD j 0))], [C.s (.int .i64 (Y.getD j 0))]] = (J ++ turnsS (j + 1) X Y).map cells := by
                rw [turnsS_succ, ← List.append_assoc, List.map_append (l₁ := J ++ turnsS j X Y)]; rfl
              have hll : (J ++ turnsS j X Y).length ≤ 6012 := by rw [List.length_append]; omega
              delta c115l2
              simp (maxSteps := 4000000) -implicitDefEqProofs only [hj2, hj3, hj4, htk, InR, Ent.of0, Ent.of1, Ent.of2, Ent.of3, V, bO, bt, bE, cb, cN, cU, gt, lk, cJ, bQ, cm, cr, bM, cn, cn.subCs, cT, bg, a9, cg, az, a3, bn, aJ, bz, bo, aY, bF, ax, cu, cO, c6, aq, aX, bR, cI, cj, cY, cR, aV, an, bY, bj, zC, argS, bG, cH, cP, cW, ah, aw, aW, aA, cd, leC, ca, bP, cG, cS, bU, ay, aL, cK, au, cp, a7, a7.viewCs, bH, bH.flatCs, aR, aR.LensOks, Value.oneCell', ↓reduceIte, ite_true, ite_false, if_true, if_false, Nat.reduceAdd, Nat.reduceSub, Nat.reduceMul, Nat.reduceEqDiff, Nat.reduceLT, Nat.reduceLeDiff, reduceCtorEq, Int.reduceToNat, forall_const, implies_true, bm, Ent.mk3, bC, bu, bw, a5, a6, aZ, bK, bB, bI, bJ, bk, cD, bD, cQ, rn, bT, bT.renCs, aT, aU, aN, aN.viewOks, aI, a8, a8.flatBs, aG, ag, aH, ar, aQ, bv, bv.keysBs, aE, am, bp, bS, be, cC, af, af.passKs, aB, aO, ae, ae.lendKs, bV, cq, bW, bq, setInn, ai, cZ, cL, aC, bf, bZ, cc, aD, aP, Glob.gl, av, co, bL, b0, br, aj, bX, cM, cB, cV, bN, ap, ap.ptrOnlys, ak, aK, cz, aM, a4, bA, ce, aF, bh, cF, Nat.reduceBEq, undef]
              and_intros <;> first | omega | rfl | trivial
            · have hj2 : ¬ (j : Int) < (c : Int) := by omega
              have hjc : j = c := by omega
              subst hjc
              delta c115l2
              simp (maxSteps := 4000000) -implicitDefEqProofs only [hj2, hjs, InR, Ent.of0, Ent.of1, Ent.of2, Ent.of3, V, bO, bt, bE, cb, cN, cU, gt, lk, cJ, bQ, cm, cr, bM, cn, cn.subCs, cT, bg, a9, cg, az, a3, bn, aJ, bz, bo, aY, bF, ax, cu, cO, c6, aq, aX, bR, cI, cj, cY, cR, aV, an, bY, bj, zC, argS, bG, cH, cP, cW, ah, aw, aW, aA, cd, leC, ca, bP, cG, cS, bU, ay, aL, cK, au, cp, a7, a7.viewCs, bH, bH.flatCs, aR, aR.LensOks, Value.oneCell', ↓reduceIte, ite_true, ite_false, if_true, if_false, Nat.reduceAdd, Nat.reduceSub, Nat.reduceMul, Nat.reduceEqDiff, Nat.reduceLT, Nat.reduceLeDiff, reduceCtorEq, Int.reduceToNat, forall_const, implies_true, bm, Ent.mk3, bC, bu, bw, a5, a6, aZ, bK, bB, bI, bJ, bk, cD, bD, cQ, rn, bT, bT.renCs, aT, aU, aN, aN.viewOks, aI, a8, a8.flatBs, aG, ag, aH, ar, aQ, bv, bv.keysBs, aE, am, bp, bS, be, cC, af, af.passKs, aB, aO, ae, ae.lendKs, bV, cq, bW, bq, setInn, ai, cZ, cL, aC, bf, bZ, cc, aD, aP, Glob.gl, av, co, bL, b0, br, aj, bX, cM, cB, cV, bN, ap, ap.ptrOnlys, ak, aK, cz, aM, a4, bA, ce, aF, bh, cF, Nat.reduceBEq, undef]
              and_intros <;> first | omega | rfl | trivial
        · have hi2 : ¬ (i : Int) < (l.length : Int) := by omega
          have hie : i = l.length := by omega
          subst hie
          delta c115l3
          simp (maxSteps := 4000000) -implicitDefEqProofs only [hi2, rv115, List.take_length, InR, Ent.of0, Ent.of1, Ent.of2, Ent.of3, V, bO, bt, bE, cb, cN, cU, gt, lk, cJ, bQ, cm, cr, bM, cn, cn.subCs, cT, bg, a9, cg, az, a3, bn, aJ, bz, bo, aY, bF, ax, cu, cO, c6, aq, aX, bR, cI, cj, cY, cR, aV, an, bY, bj, zC, argS, bG, cH, cP, cW, ah, aw, aW, aA, cd, leC, ca, bP, cG, cS, bU, ay, aL, cK, au, cp, a7, a7.viewCs, bH, bH.flatCs, aR, aR.LensOks, Value.oneCell', ↓reduceIte, ite_true, ite_false, if_true, if_false, Nat.reduceAdd, Nat.reduceSub, Nat.reduceMul, Nat.reduceEqDiff, Nat.reduceLT, Nat.reduceLeDiff, reduceCtorEq, Int.reduceToNat, forall_const, implies_true, bm, Ent.mk3, bC, bu, bw, a5, a6, aZ, bK, bB, bI, bJ, bk, cD, bD, cQ, rn, bT, bT.renCs, aT, aU, aN, aN.viewOks, aI, a8, a8.flatBs, aG, ag, aH, ar, aQ, bv, bv.keysBs, aE, am, bp, bS, be, cC, af, af.passKs, aB, aO, ae, ae.lendKs, bV, cq, bW, bq, setInn, ai, cZ, cL, aC, bf, bZ, cc, aD, aP, Glob.gl, av, co, bL, b0, br, aj, bX, cM, cB, cV, bN, ap, ap.ptrOnlys, ak, aK, cz, aM, a4, bA, ce, aF, bh, cF, Nat.reduceBEq, undef]
end Go.Proofs.Ytfgpbmjmoobcnaa
end
section
open Go Go.Am
open Go.Am.Dat (cells)
namespace Go.Proofs.Ytfgpbmjmoobcnaa
set_option maxHeartbeats 4000000
set_option maxRecDepth 100000
set_option linter.unusedSimpArgs false
theorem softS_length (c : Nat) (sq : List Int) : (softS c sq).length = c := by simp [softS]
def e115 (f : FuncId) (T : Nat → List Int → List Int) (hj : ∀ (c : Nat) (g : Int) (l : List Gs), (c = 1 ∨ c = 2 ∨ c = 3) → 1 ≤ g ∧ g ≤ 10000000 → (∀ s ∈ l, (-100000000 ≤ s.re ∧ s.re ≤ 100000000) ∧ -100000000 ≤ s.im ∧ s.im ≤ 100000000) → l.length ≤ 1000 →
    FC Try.prog 115 [enc (⟨2 * (c : Int), g, l⟩ : Recv), .fn (.func f) [] []] [] (enc (judgedS c (T c) g l)) []) : Ent Try.prog := .mk3 115 (fun args chs => match args, chs with
    | [.agg [.s (.int .i64 o), .s (.int .i64 g), .sl 2 t], .fn (.func f') [] []], [] => (decL t : Option (List Gs)).bind fun l => some (f' = f ∧ recvErr ⟨o, g, l⟩ = 0, enc (judgedS (o.toNat / 2) (T (o.toNat / 2)) g l), [], [])
    | _, _ => none) (by
  intro args chs p r chs' nk hs hp
  split at hs
  · rename_i o g t f'
    simp only [Option.bind_eq_some_iff, Option.some.injEq, Prod.mk.injEq] at hs
    obtain ⟨l, hl, rfl, rfl, rfl, rfl⟩ := hs
    obtain ⟨hff, hr⟩ := hp
    have := decL_ok hl
    subst this
    have hz := firstS_zero hr
    have z1 : orderErrS o = 0 := hz _ (by simp [recvErr])
    have z2 : (if 1 ≤ g ∧ g ≤ 10000000 then (0 : Int) else 2) = 0 := hz _ (by simp)
    have z3 : symErr l = 0 := hz _ (by simp)
    have ho : o = 2 ∨ o = 4 ∨ o = 6 := by
      unfold orderErrS at z1
      split at z1
      · assumption
      · cases z1
    have hg : 1 ≤ g ∧ g ≤ 10000000 := by
      split at z2
      · assumption
      · cases z2
    have hl2 : l.length ≤ 1000 := by
      unfold symErr at z3
      grind
    have hn : ∀ s ∈ l, (-100000000 ≤ s.re ∧ s.re ≤ 100000000) ∧ -100000000 ≤ s.im ∧ s.im ≤ 100000000 := by
      have : l.all (smallG · 100000000) = true := by
        unfold symErr at z3
        grind
      intro s hs
      have := List.all_eq_true.1 this s hs
      simpa [smallG] using this
    have e : o = 2 * ((o.toNat / 2 : Nat) : Int) := by rcases ho with rfl | rfl | rfl <;> rfl
    have := hj (o.toNat / 2) g l (by rcases ho with rfl | rfl | rfl <;> simp) hg hn hl2
    rw [← e] at this
    subst hff
    exact ⟨this, .plain trivial⟩
  · cases hs)
def judgeAll (T : Nat → List Int → List Int) (x : Recv) : List Int := judgedS (x.order.toNat / 2) (T (x.order.toNat / 2)) x.gain x.symbols
theorem Soft_c (x : Recv) : FC Try.prog 58 [enc x] [] (.tup [enc (if recvErr x = 0 then judgeAll softS x else []), enc (recvErr x)]) [] := by
  refine fc_intro' is58 (by simp) (fun cx hl => S_run [e114, e115 117 softS (fun c g l hc hg hn hl => judged_c 117 (softS c) c hc (fun sq h1 h2 => soft_c c hc sq h1 h2) (fun sq _ => softS_length c sq) g l hg hn hl)] 800 ?_)
  obtain ⟨o, g, l⟩ := x
  delta c58
  simp (maxSteps := 4000000) -implicitDefEqProofs only [rv58, e114, e115, enc_recv, decV_recv, Ent.of0, Ent.of1, Ent.of2, Ent.of3, V, bO, bt, bE, cb, cN, cU, gt, lk, cJ, bQ, cm, cr, bM, cn, cn.subCs, cT, bg, a9, cg, az, a3, bn, aJ, bz, bo, aY, bF, ax, cu, cO, c6, aq, aX, bR, cI, cj, cY, cR, aV, an, bY, bj, zC, argS, bG, cH, cP, cW, ah, aw, aW, aA, cd, leC, ca, bP, cG, cS, bU, ay, aL, cK, au, cp, a7, a7.viewCs, bH, bH.flatCs, aR, aR.LensOks, Value.oneCell', ↓reduceIte, ite_true, ite_false, if_true, if_false, Nat.reduceAdd, Nat.reduceSub, Nat.reduceMul, Nat.reduceEqDiff, Nat.reduceLT, Nat.reduceLeDiff, reduceCtorEq, Int.reduceToNat, forall_const, implies_true, bm, Ent.mk3, bC, bu, bw, a5, a6, aZ, bK, bB, bI, bJ, bk, cD, bD, cQ, rn, bT, bT.renCs, aT, aU, aN, aN.viewOks, aI, a8, a8.flatBs, aG, ag, aH, ar, aQ, bv, bv.keysBs, aE, am, bp, bS, be, cC, af, af.passKs, aB, aO, ae, ae.lendKs, bV, cq, bW, bq, setInn, ai, cZ, cL, aC, bf, bZ, cc, aD, aP, Glob.gl, av, co, bL, b0, br, aj, bX, cM, cB, cV, bN, ap, ap.ptrOnlys, ak, aK, cz, aM, a4, bA, ce, aF, bh, cF, Nat.reduceBEq, undef]
  by_cases h : recvErr ⟨o, g, l⟩ = 0
  · simp only [h, if_true, decide_true, judgeAll, Bool.false_eq_true, if_false, not_true_eq_false, decide_false, true_and]
  · rw [if_pos h, if_neg h]; trivial
def e58 : Ent Try.prog := .of1 58 (fun _ => True) (fun x : Recv => .tup [enc (if recvErr x = 0 then judgeAll softS x else []), enc (recvErr x)]) (fun _ => ⟨trivial, trivial, trivial⟩) (fun x _ => Soft_c x)
end Go.Proofs.Ytfgpbmjmoobcnaa
end
section
open Go Go.Am
open Go.Am.Dat (cells)
namespace Go.Proofs.Ytfgpbmjmoobcnaa
set_option maxHeartbeats 4000000
set_option maxRecDepth 20000
set_option linter.unusedSimpArgs false
theorem rowsD_c (w : List (List Fz)) (m : List (List Gs)) (h : RowsOk w m) : FC Try.prog 87 [enc w] [] (.own 3) [(3, .deep 2 48 35 none (m.map fun r => r.map cells))] := by
  refine fc_introC [3] D.is87 (by simp) trivial trivial (by simp [ay, aL, cg]) trivial (fun cx _ hl _ => S_run [] 800 ?_)
  obtain ⟨hrep, hm, hr, hb⟩ := h
  have hwm := hrep.1
  delta D.c87
  simp (maxSteps := 4000000) -implicitDefEqProofs only [D.rv87, Ent.of0, Ent.of1, Ent.of2, Ent.of3, V, bO, bt, bE, cb, cN, cU, gt, lk, cJ, bQ, cm, cr, bM, cn, cn.subCs, cT, bg, a9, cg, az, a3, bn, aJ, bz, bo, aY, bF, ax, cu, cO, c6, aq, aX, bR, cI, cj, cY, cR, aV, an, bY, bj, zC, argS, bG, cH, cP, cW, ah, aw, aW, aA, cd, leC, ca, bP, cG, cS, bU, ay, aL, cK, au, cp, a7, a7.viewCs, bH, bH.flatCs, aR, aR.LensOks, Value.oneCell', ↓reduceIte, ite_true, ite_false, if_true, if_false, Nat.reduceAdd, Nat.reduceSub, Nat.reduceMul, Nat.reduceEqDiff, Nat.reduceLT, Nat.reduceLeDiff, reduceCtorEq, Int.reduceToNat, forall_const, implies_true, bm, Ent.mk3, bC, bu, bw, a5, a6, aZ, bK, bB, bI, bJ, bk, cD, bD, cQ, rn, bT, bT.renCs, aT, aU, aN, aN.viewOks, aI, a8, a8.flatBs, aG, ag, aH, ar, aQ, bv, bv.keysBs, aE, am, bp, bS, be, cC, af, af.passKs, aB, aO, ae, ae.lendKs, bV, cq, bW, bq, setInn, ai, cZ, cL, aC, bf, bZ, cc, aD, aP, Glob.gl, av, co, bL, b0, br, aj, bX, cM, cB, cV, bN, ap, ap.ptrOnlys, ak, aK, cz, aM, a4, bA, ce, aF, bh, cF, Nat.reduceBEq, undef]
  refine ⟨by simp, ?_⟩
  refine S_forU w.length (fun i => [(11, .s (.int .i64 i))]) (fun i => [(3, .deep 2 48 35 none ((m.take i).map fun r => r.map cells))]) (fun _ => True) trivial ?_ (fun i hi _ => S_run [] 800 ?_)
  · simp (maxSteps := 4000000) -implicitDefEqProofs only [Ent.of0, Ent.of1, Ent.of2, Ent.of3, V, bO, bt, bE, cb, cN, cU, gt, lk, cJ, bQ, cm, cr, bM, cn, cn.subCs, cT, bg, a9, cg, az, a3, bn, aJ, bz, bo, aY, bF, ax, cu, cO, c6, aq, aX, bR, cI, cj, cY, cR, aV, an, bY, bj, zC, argS, bG, cH, cP, cW, ah, aw, aW, aA, cd, leC, ca, bP, cG, cS, bU, ay, aL, cK, au, cp, a7, a7.viewCs, bH, bH.flatCs, aR, aR.LensOks, Value.oneCell', ↓reduceIte, ite_true, ite_false, if_true, if_false, Nat.reduceAdd, Nat.reduceSub, Nat.reduceMul, Nat.reduceEqDiff, Nat.reduceLT, Nat.reduceLeDiff, reduceCtorEq, Int.reduceToNat, forall_const, implies_true, bm, Ent.mk3, bC, bu, bw, a5, a6, aZ, bK, bB, bI, bJ, bk, cD, bD, cQ, rn, bT, bT.renCs, aT, aU, aN, aN.viewOks, aI, a8, a8.flatBs, aG, ag, aH, ar, aQ, bv, bv.keysBs, aE, am, bp, bS, be, cC, af, af.passKs, aB, aO, ae, ae.lendKs, bV, cq, bW, bq, setInn, ai, cZ, cL, aC, bf, bZ, cc, aD, aP, Glob.gl, av, co, bL, b0, br, aj, bX, cM, cB, cV, bN, ap, ap.ptrOnlys, ak, aK, cz, aM, a4, bA, ce, aF, bh, cF, Nat.reduceBEq, undef]; simp
  · delta D.c87l2
    by_cases h : i < w.length
    · have hi2 : (i : Int) < (w.length : Int) := by omega
      have him : i < m.length := by omega
      have hrl := hr _ (getD_mem [] him)
      have hbl := hb _ (getD_mem [] him)
      obtain ⟨q1, q2⟩ := hrep.2 i him
      have htkm : ((m.take i).map fun r => r.map cells) ++ [(m.getD i []).map cells] = (m.take (i + 1)).map fun r => r.map cells := by
        rw [take_getD [] him, List.map_append]; rfl
      have htlm : (m.take i).length = i := by rw [List.length_take]; omega
      simp (maxSteps := 4000000) -implicitDefEqProofs only [sz_fz, hi2, getD_list, h, Ent.of0, Ent.of1, Ent.of2, Ent.of3, V, bO, bt, bE, cb, cN, cU, gt, lk, cJ, bQ, cm, cr, bM, cn, cn.subCs, cT, bg, a9, cg, az, a3, bn, aJ, bz, bo, aY, bF, ax, cu, cO, c6, aq, aX, bR, cI, cj, cY, cR, aV, an, bY, bj, zC, argS, bG, cH, cP, cW, ah, aw, aW, aA, cd, leC, ca, bP, cG, cS, bU, ay, aL, cK, au, cp, a7, a7.viewCs, bH, bH.flatCs, aR, aR.LensOks, Value.oneCell', ↓reduceIte, ite_true, ite_false, if_true, if_false, Nat.reduceAdd, Nat.reduceSub, Nat.reduceMul, Nat.reduceEqDiff, Nat.reduceLT, Nat.reduceLeDiff, reduceCtorEq, Int.reduceToNat, forall_const, implies_true, bm, Ent.mk3, bC, bu, bw, a5, a6, aZ, bK, bB, bI, bJ, bk, cD, bD, cQ, rn, bT, bT.renCs, aT, aU, aN, aN.viewOks, aI, a8, a8.flatBs, aG, ag, aH, ar, aQ, bv, bv.keysBs, aE, am, bp, bS, be, cC, af, af.passKs, aB, aO, ae, ae.lendKs, bV, cq, bW, bq, setInn, ai, cZ, cL, aC, bf, bZ, cc, aD, aP, Glob.gl, av, co, bL, b0, br, aj, bX, cM, cB, cV, bN, ap, ap.ptrOnlys, ak, aK, cz, aM, a4, bA, ce, aF, bh, cF, Nat.reduceBEq, undef]
      refine ⟨by omega, ?_⟩
      generalize hR : w.getD i [] = R at *
      generalize hG : m.getD i [] = G at *
      refine S_forU R.length (fun j => [(17, .s (.int .i64 j))]) (fun j => [(6, .row 2 48 ((G.take j).map cells))]) (fun _ => True) trivial ?_ (fun j hj _ => S_run [] 800 ?_)
      · simp (maxSteps := 4000000) -implicitDefEqProofs only [Ent.of0, Ent.of1, Ent.of2, Ent.of3, V, bO, bt, bE, cb, cN, cU, gt, lk, cJ, bQ, cm, cr, bM, cn, cn.subCs, cT, bg, a9, cg, az, a3, bn, aJ, bz, bo, aY, bF, ax, cu, cO, c6, aq, aX, bR, cI, cj, cY, cR, aV, an, bY, bj, zC, argS, bG, cH, cP, cW, ah, aw, aW, aA, cd, leC, ca, bP, cG, cS, bU, ay, aL, cK, au, cp, a7, a7.viewCs, bH, bH.flatCs, aR, aR.LensOks, Value.oneCell', ↓reduceIte, ite_true, ite_false, if_true, if_false, Nat.reduceAdd, Nat.reduceSub, Nat.reduceMul, Nat.reduceEqDiff, Nat.reduceLT, Nat.reduceLeDiff, reduceCtorEq, Int.reduceToNat, forall_const, implies_true, bm, Ent.mk3, bC, bu, bw, a5, a6, aZ, bK, bB, bI, bJ, bk, cD, bD, cQ, rn, bT, bT.renCs, aT, aU, aN, aN.viewOks, aI, a8, a8.flatBs, aG, ag, aH, ar, aQ, bv, bv.keysBs, aE, am, bp, bS, be, cC, af, af.passKs, aB, aO, ae, ae.lendKs, bV, cq, bW, bq, setInn, ai, cZ, cL, aC, bf, bZ, cc, aD, aP, Glob.gl, av, co, bL, b0, br, aj, bX, cM, cB, cV, bN, ap, ap.ptrOnlys, ak, aK, cz, aM, a4, bA, ce, aF, bh, cF, Nat.reduceBEq, undef]; simp
      · delta D.c87l1
        by_cases hjl : j < R.length
        · have hj2 : (j : Int) < (R.length : Int) := by omega
          have hjG : j < G.length := by omega
          have htk : (G.take j).map cells ++ [[C.s (.int .i64 (G.getD j ⟨0, 0⟩).re), C.s (.int .i64 (G.getD j ⟨0, 0⟩).im)]] = (G.take (j + 1)).map cells := by
            rw [take_getD ⟨0, 0⟩ hjG, List.map_append]; rfl
          have htl : (G.take j).length = j := by rw [List.length_take]; omega
          obtain ⟨z1, z2⟩ := q2 j hjG
          have t1 := toInt_F z1
          have t2 := toInt_F z2
          obtain ⟨b1, b2⟩ := hbl _ (getD_mem ⟨0, 0⟩ hjG)
          simp (maxSteps := 4000000) -implicitDefEqProofs only [hj2, hjl, cu, getD_fz, t1, t2, htk, htl, IntKind.min, IntKind.max, IntKind.signed, IntKind.bits, InR, Ent.of0, Ent.of1, Ent.of2, Ent.of3, V, bO, bt, bE, cb, cN, cU, gt, lk, cJ, bQ, cm, cr, bM, cn, cn.subCs, cT, bg, a9, cg, az, a3, bn, aJ, bz, bo, aY, bF, ax, cu, cO, c6, aq, aX, bR, cI, cj, cY, cR, aV, an, bY, bj, zC, argS, bG, cH, cP, cW, ah, aw, aW, aA, cd, leC, ca, bP, cG, cS, bU, ay, aL, cK, au, cp, a7, a7.viewCs, bH, bH.flatCs, aR, aR.LensOks, Value.oneCell', ↓reduceIte, ite_true, ite_false, if_true, if_false, Nat.reduceAdd, Nat.reduceSub, Nat.reduceMul, Nat.reduceEqDiff, Nat.reduceLT, Nat.reduceLeDiff, reduceCtorEq, Int.reduceToNat, forall_const, implies_true, bm, Ent.mk3, bC, bu, bw, a5, a6, aZ, bK, bB, bI, bJ, bk, cD, bD, cQ, rn, bT, bT.renCs, aT, aU, aN, aN.viewOks, aI, a8, a8.flatBs, aG, ag, aH, ar, aQ, bv, bv.keysBs, aE, am, bp, bS, be, cC, af, af.passKs, aB, aO, ae, ae.lendKs, bV, cq, bW, bq, setInn, ai, cZ, cL, aC, bf, bZ, cc, aD, aP, Glob.gl, av, co, bL, b0, br, aj, bX, cM, cB, cV, bN, ap, ap.ptrOnlys, ak, aK, cz, aM, a4, bA, ce, aF, bh, cF, Nat.reduceBEq, undef]
          simp only [Int.reducePow] at *
          and_intros <;> first | omega | rfl | trivial
        · have : j = R.length := by omega
          subst this
          have hj2 : ¬ (R.length : Int) < (R.length : Int) := by omega
          have hG2 : G.take R.length = G := by rw [q1]; exact List.take_length
          simp (maxSteps := 4000000) -implicitDefEqProofs only [hj2, hG2, htkm, htlm, InR, Ent.of0, Ent.of1, Ent.of2, Ent.of3, V, bO, bt, bE, cb, cN, cU, gt, lk, cJ, bQ, cm, cr, bM, cn, cn.subCs, cT, bg, a9, cg, az, a3, bn, aJ, bz, bo, aY, bF, ax, cu, cO, c6, aq, aX, bR, cI, cj, cY, cR, aV, an, bY, bj, zC, argS, bG, cH, cP, cW, ah, aw, aW, aA, cd, leC, ca, bP, cG, cS, bU, ay, aL, cK, au, cp, a7, a7.viewCs, bH, bH.flatCs, aR, aR.LensOks, Value.oneCell', ↓reduceIte, ite_true, ite_false, if_true, if_false, Nat.reduceAdd, Nat.reduceSub, Nat.reduceMul, Nat.reduceEqDiff, Nat.reduceLT, Nat.reduceLeDiff, reduceCtorEq, Int.reduceToNat, forall_const, implies_true, bm, Ent.mk3, bC, bu, bw, a5, a6, aZ, bK, bB, bI, bJ, bk, cD, bD, cQ, rn, bT, bT.renCs, aT, aU, aN, aN.viewOks, aI, a8, a8.flatBs, aG, ag, aH, ar, aQ, bv, bv.keysBs, aE, am, bp, bS, be, cC, af, af.passKs, aB, aO, ae, ae.lendKs, bV, cq, bW, bq, setInn, ai, cZ, cL, aC, bf, bZ, cc, aD, aP, Glob.gl, av, co, bL, b0, br, aj, bX, cM, cB, cV, bN, ap, ap.ptrOnlys, ak, aK, cz, aM, a4, bA, ce, aF, bh, cF, Nat.reduceBEq, undef]
          and_intros <;> first | omega | rfl | trivial
    · have : i = w.length := by omega
      subst this
      have hi2 : ¬ (w.length : Int) < (w.length : Int) := by omega
      have hm2 : m.take w.length = m := by rw [hwm]; exact List.take_length
      simp (maxSteps := 4000000) -implicitDefEqProofs only [hi2, D.rv87, hm2, Ent.of0, Ent.of1, Ent.of2, Ent.of3, V, bO, bt, bE, cb, cN, cU, gt, lk, cJ, bQ, cm, cr, bM, cn, cn.subCs, cT, bg, a9, cg, az, a3, bn, aJ, bz, bo, aY, bF, ax, cu, cO, c6, aq, aX, bR, cI, cj, cY, cR, aV, an, bY, bj, zC, argS, bG, cH, cP, cW, ah, aw, aW, aA, cd, leC, ca, bP, cG, cS, bU, ay, aL, cK, au, cp, a7, a7.viewCs, bH, bH.flatCs, aR, aR.LensOks, Value.oneCell', ↓reduceIte, ite_true, ite_false, if_true, if_false, Nat.reduceAdd, Nat.reduceSub, Nat.reduceMul, Nat.reduceEqDiff, Nat.reduceLT, Nat.reduceLeDiff, reduceCtorEq, Int.reduceToNat, forall_const, implies_true, bm, Ent.mk3, bC, bu, bw, a5, a6, aZ, bK, bB, bI, bJ, bk, cD, bD, cQ, rn, bT, bT.renCs, aT, aU, aN, aN.viewOks, aI, a8, a8.flatBs, aG, ag, aH, ar, aQ, bv, bv.keysBs, aE, am, bp, bS, be, cC, af, af.passKs, aB, aO, ae, ae.lendKs, bV, cq, bW, bq, setInn, ai, cZ, cL, aC, bf, bZ, cc, aD, aP, Glob.gl, av, co, bL, b0, br, aj, bX, cM, cB, cV, bN, ap, ap.ptrOnlys, ak, aK, cz, aM, a4, bA, ce, aF, bh, cF, Nat.reduceBEq, undef]
def adjS (m : List (List Gs)) : List (List Gs) :=
  match m with
  | [[_]] => [[⟨1, 0⟩]]
  | [[a, b], [c, d]] => [[d, gsub ⟨0, 0⟩ b], [gsub ⟨0, 0⟩ c, a]]
  | _ => []
theorem zadd {b : Gs} (hb : bd b 1000) : addOk ⟨0, 0⟩ b := ⟨0, 1000, ⟨by simp, by simp⟩, hb, by omega⟩
theorem adj1_c (a : Gs) : FC Try.prog 85 [enc [[a]]] [] (enc (adjS [[a]])) [] := by
  refine fc_intro' is85 (by simp) (fun cx hl => S_run [e113] 800 ?_)
  delta c85
  simp (maxSteps := 4000000) -implicitDefEqProofs only [rv85, e113, adjS, Int.cast_ofNat_Int, Int.natCast_one, Int.natCast_zero, Int.reduceAdd, Int.reduceSub, Int.reduceMul, Int.reduceLT, Int.reduceLE, Int.reduceTMod, Int.reduceTDiv, Int.reduceNeg, Int.reduceEq, Nat.reducePow, Int.reducePow, ne_eq, not_false_eq_true, Ent.of0, Ent.of1, Ent.of2, Ent.of3, V, bO, bt, bE, cb, cN, cU, gt, lk, cJ, bQ, cm, cr, bM, cn, cn.subCs, cT, bg, a9, cg, az, a3, bn, aJ, bz, bo, aY, bF, ax, cu, cO, c6, aq, aX, bR, cI, cj, cY, cR, aV, an, bY, bj, zC, argS, bG, cH, cP, cW, ah, aw, aW, aA, cd, leC, ca, bP, cG, cS, bU, ay, aL, cK, au, cp, a7, a7.viewCs, bH, bH.flatCs, aR, aR.LensOks, Value.oneCell', ↓reduceIte, ite_true, ite_false, if_true, if_false, Nat.reduceAdd, Nat.reduceSub, Nat.reduceMul, Nat.reduceEqDiff, Nat.reduceLT, Nat.reduceLeDiff, reduceCtorEq, Int.reduceToNat, forall_const, implies_true, bm, Ent.mk3, bC, bu, bw, a5, a6, aZ, bK, bB, bI, bJ, bk, cD, bD, cQ, rn, bT, bT.renCs, aT, aU, aN, aN.viewOks, aI, a8, a8.flatBs, aG, ag, aH, ar, aQ, bv, bv.keysBs, aE, am, bp, bS, be, cC, af, af.passKs, aB, aO, ae, ae.lendKs, bV, cq, bW, bq, setInn, ai, cZ, cL, aC, bf, bZ, cc, aD, aP, Glob.gl, av, co, bL, b0, br, aj, bX, cM, cB, cV, bN, ap, ap.ptrOnlys, ak, aK, cz, aM, a4, bA, ce, aF, bh, cF, Nat.reduceBEq, undef]
theorem adj2_c (a b c d : Gs) (h1 : bd b 1000) (h2 : bd c 1000) : FC Try.prog 85 [enc [[a, b], [c, d]]] [] (enc (adjS [[a, b], [c, d]])) [] := by
  have m1 := zadd h1
  have m2 := zadd h2
  refine fc_intro' is85 (by simp) (fun cx hl => S_run [e113] 800 ?_)
  delta c85
  simp (maxSteps := 4000000) -implicitDefEqProofs only [rv85, e113, adjS, m1, m2, gs_eta, Int.cast_ofNat_Int, Int.natCast_one, Int.natCast_zero, Int.reduceAdd, Int.reduceSub, Int.reduceMul, Int.reduceLT, Int.reduceLE, Int.reduceTMod, Int.reduceTDiv, Int.reduceNeg, Int.reduceEq, Nat.reducePow, Int.reducePow, ne_eq, not_false_eq_true, Ent.of0, Ent.of1, Ent.of2, Ent.of3, V, bO, bt, bE, cb, cN, cU, gt, lk, cJ, bQ, cm, cr, bM, cn, cn.subCs, cT, bg, a9, cg, az, a3, bn, aJ, bz, bo, aY, bF, ax, cu, cO, c6, aq, aX, bR, cI, cj, cY, cR, aV, an, bY, bj, zC, argS, bG, cH, cP, cW, ah, aw, aW, aA, cd, leC, ca, bP, cG, cS, bU, ay, aL, cK, au, cp, a7, a7.viewCs, bH, bH.flatCs, aR, aR.LensOks, Value.oneCell', ↓reduceIte, ite_true, ite_false, if_true, if_false, Nat.reduceAdd, Nat.reduceSub, Nat.reduceMul, Nat.reduceEqDiff, Nat.reduceLT, Nat.reduceLeDiff, reduceCtorEq, Int.reduceToNat, forall_const, implies_true, bm, Ent.mk3, bC, bu, bw, a5, a6, aZ, bK, bB, bI, bJ, bk, cD, bD, cQ, rn, bT, bT.renCs, aT, aU, aN, aN.viewOks, aI, a8, a8.flatBs, aG, ag, aH, ar, aQ, bv, bv.keysBs, aE, am, bp, bS, be, cC, af, af.passKs, aB, aO, ae, ae.lendKs, bV, cq, bW, bq, setInn, ai, cZ, cL, aC, bf, bZ, cc, aD, aP, Glob.gl, av, co, bL, b0, br, aj, bX, cM, cB, cV, bN, ap, ap.ptrOnlys, ak, aK, cz, aM, a4, bA, ce, aF, bh, cF, Nat.reduceBEq, undef]
end Go.Proofs.Ytfgpbmjmoobcnaa
end
section
open Go Go.Am
open Go.Am.Dat (cells)
namespace Go.Proofs.Ytfgpbmjmoobcnaa
set_option maxHeartbeats 4000000
set_option maxRecDepth 20000
set_option linter.unusedSimpArgs false
def xjC (F : Gs → Gs) (x : List Gs) (j : Nat) : List (List C) := ((x.take j).map F ++ x.drop j).map cells
def riC (F : Gs → Gs) (O : List (List Gs)) (i : Nat) : List (List (List C)) := ((O.take i).map (fun x => x.map F) ++ O.drop i).map fun r => r.map cells
def rjC (F : Gs → Gs) (O : List (List Gs)) (i j : Nat) : List (List (List C)) := ((O.take i).map fun x => (x.map F).map cells) ++ xjC F (O.getD i []) j :: (O.drop (i + 1)).map fun r => r.map cells
variable {F : Gs → Gs} {O : List (List Gs)} {x : List Gs} {i j : Nat}
theorem xjC_length (h : j ≤ x.length) : (xjC F x j).length = x.length := by
  simp [xjC]; omega
theorem xjC_get (h : j < x.length) (d : List C) : (xjC F x j).getD j d = cells (x.getD j ⟨0, 0⟩) := by
  have e : x.drop j = x.getD j ⟨0, 0⟩ :: x.drop (j + 1) := drop_getD _ h
  have hl : ((x.take j).map F).length = j := by simp; omega
  rw [xjC, e, List.map_append, List.getD_eq_getElem?_getD, List.getElem?_append_right (by simp; omega)]
  simp [Nat.min_eq_left (Nat.le_of_lt h)]
theorem xjC_set (h : j < x.length) : (xjC F x j).set j (cells (F (x.getD j ⟨0, 0⟩))) = xjC F x (j + 1) := by
  have e : x.drop j = x.getD j ⟨0, 0⟩ :: x.drop (j + 1) := drop_getD _ h
  have hl : ((x.take j).map F).length = j := by simp; omega
  rw [xjC, xjC, e, take_getD ⟨0, 0⟩ h]
  simp only [List.map_append, List.map_cons, List.map_nil, List.append_assoc, List.cons_append, List.nil_append]
  rw [List.set_append_right _ _ (by simp; omega)]
  simp [Nat.min_eq_left (Nat.le_of_lt h)]
theorem xjC_get' (h : j < x.length) (d : List C) : (xjC F x (j + 1)).getD j d = cells (F (x.getD j ⟨0, 0⟩)) := by
  rw [← xjC_set h, List.getD_eq_getElem?_getD, List.getElem?_set_self (by rw [xjC_length (by omega)]; exact h)]; rfl
theorem rjC_length (h : i < O.length) : (rjC F O i j).length = O.length := by
  simp [rjC]; omega
theorem rjC_get (h : i < O.length) (d : List (List C)) : (rjC F O i j).getD i d = xjC F (O.getD i []) j := by
  rw [rjC, List.getD_eq_getElem?_getD, List.getElem?_append_right (by simp; omega)]
  simp [Nat.min_eq_left (Nat.le_of_lt h)]
theorem rjC_set (h : i < O.length) : (rjC F O i j).set i (xjC F (O.getD i []) (j + 1)) = rjC F O i (j + 1) := by
  rw [rjC, rjC, List.set_append_right _ _ (by simp; omega)]
  simp [Nat.min_eq_left (Nat.le_of_lt h)]
theorem riC_rj (h : i < O.length) : riC F O i = rjC F O i 0 := by
  have e : O.drop i = O.getD i [] :: O.drop (i + 1) := drop_getD _ h
  rw [riC, rjC, e, List.map_append, List.map_map]
  simp [xjC, Function.comp_def]
theorem rjC_ri (h : i < O.length) : rjC F O i (O.getD i []).length = riC F O (i + 1) := by
  rw [riC, rjC, take_getD [] h]
  simp [xjC, Function.comp_def]
theorem riC_zero : riC F O 0 = O.map fun r => r.map cells := by simp [riC]
theorem riC_all : riC F O O.length = (O.map fun x => x.map F).map fun r => r.map cells := by simp [riC]
end Go.Proofs.Ytfgpbmjmoobcnaa
end
section
open Go Go.Am
open Go.Am.Dat (cells)
namespace Go.Proofs.Ytfgpbmjmoobcnaa
set_option maxHeartbeats 4000000
set_option maxRecDepth 20000
set_option linter.unusedSimpArgs false
def adjOk (m : List (List Gs)) : Prop := (∃ a, m = [[a]]) ∨ ∃ a b c d, m = [[a, b], [c, d]] ∧ bd b 1000 ∧ bd c 1000
def e85 : Ent Try.prog := .of1 85 adjOk (fun m : List (List Gs) => enc (adjS m)) (fun _ => trivial) (fun m h => by
  rcases h with ⟨a, rfl⟩ | ⟨a, b, c, d, rfl, h1, h2⟩
  · exact adj1_c a
  · exact adj2_c a b c d h1 h2)
def timesOk (a o : List (List Fz)) : Prop := ∃ m ls A B, Fits m ls A B ∧ 8 * (A * B) ≤ 9007199254740991 ∧ RepM a m ∧ RepM o ls
def e86 : Ent Try.prog := .of2 86 timesOk (fun a o : List (List Fz) => enc (timesW a o)) (fun _ _ => trivial) (fun a o h => by
  obtain ⟨m, ls, A, B, h1, h2, h3, h4⟩ := h
  exact gridTimes_c a o m ls A B h1 h2 h3 h4)
def e87D : Ent Try.prog := .mk3 87 (fun args chs => match args, chs with
    | [.sl 1 t], [] => (decL t : Option (List (List Fz))).bind fun w => some (RowsOk w (ofM w), .own 3, [(3, .deep 2 48 35 none ((ofM w).map fun r => r.map cells))], [3])
    | _, _ => none) (by
  intro args chs p r chs' nk hs hp
  split at hs
  · simp only [Option.bind_eq_some_iff, Option.some.injEq, Prod.mk.injEq] at hs
    obtain ⟨w, hw, rfl, rfl, rfl, rfl⟩ := hs
    have := decL_ok hw
    subst this
    refine ⟨rowsD_c w _ hp, ⟨fun k c h => .inl ?_, fun k cs h => by simp at h, by simp [keysIn], fun k c h => ?_⟩⟩
    · simp only [List.mem_singleton, Prod.mk.injEq] at h; rw [h.1]; exact List.mem_singleton.2 rfl
    · simp only [List.mem_singleton, Prod.mk.injEq] at h; rw [h.2]; trivial
  · cases hs)
theorem sym_of {l : List Gs} (h : symErr l = 0) : 0 < l.length ∧ l.length ≤ 200 ∧ ∀ g ∈ l, bd g 100000000 := by
  unfold symErr at h
  split at h
  · cases h
  · split at h
    · cases h
    · split at h
      · rename_i h1 h2 h3
        exact ⟨by omega, by omega, fun g hg => smallG_bd (by simpa using List.all_eq_true.1 h3 g hg)⟩
      · cases h
theorem lay_of {r : List (List Gs)} (h : layErr r = 0) : 0 < r.length ∧ r.length ≤ 4 ∧ ∀ x ∈ r, x.length = (r.getD 0 []).length ∧ 0 < x.length ∧ x.length ≤ 200 ∧ ∀ g ∈ x, bd g 100000000 := by
  unfold layErr at h
  split at h
  · cases h
  · split at h
    · cases h
    · refine ⟨by omega, by omega, fun x hx => ?_⟩
      have := firstS_zero h _ (List.mem_map.2 ⟨x, hx, rfl⟩)
      by_cases h1 : symErr x = 0
      · rw [if_neg (by simpa using h1)] at this
        obtain ⟨q1, q2, q3⟩ := sym_of h1
        refine ⟨?_, q1, q2, q3⟩
        split at this
        · cases this
        · omega
      · rw [if_pos h1] at this; exact absurd this h1
theorem det_of {m : List (List Gs)} (h : symDetE m = 0) : adjOk m ∧ (∀ x ∈ m, x.length = m.length ∧ ∀ g ∈ x, bd g 1000) ∧ 0 < m.length ∧ m.length ≤ 2 := by
  unfold symDetE at h
  by_cases h1 : matErr m = 0
  · rw [if_neg (by simpa using h1)] at h
    have hr := right_of h1
    unfold detE at h
    split at h
    · cases h
    · split at h
      · cases h
      · rename_i h2 h3
        have hb : ∀ x ∈ m, x.length = m.length ∧ ∀ g ∈ x, bd g 1000 := fun x hx => ⟨by have := (hr.row x hx).1; omega, fun g hg => smallG_bd ((hr.row x hx).2.2.2 g hg)⟩
        refine ⟨?_, hb, hr.pos, by omega⟩
        match m, hb, hr.pos, h3 with
        | [x], hb, _, _ =>
          obtain ⟨q1, q2⟩ := hb x (by simp)
          match x, q1 with
          | [a], _ => exact .inl ⟨a, rfl⟩
        | [x, y], hb, _, _ =>
          obtain ⟨q1, q2⟩ := hb x (by simp)
          obtain ⟨q3, q4⟩ := hb y (by simp)
          match x, y, q1, q3, q2, q4 with
          | [a, b], [c, d], _, _, q2, q4 => exact .inr ⟨a, b, c, d, rfl, q2 b (by simp), q4 c (by simp)⟩
        | _ :: _ :: _ :: _, _, _, h3 => simp at h3
  · rw [if_pos h1] at h; exact absurd h h1
theorem adjS_length {m : List (List Gs)} (ha : adjOk m) : (adjS m).length = m.length ∧ ∀ x ∈ adjS m, x.length = m.length := by
  rcases ha with ⟨a, rfl⟩ | ⟨a, b, c, d, rfl, _, _⟩ <;> simp [adjS]
theorem adj_fits {m r : List (List Gs)} (ha : adjOk m) (hm : ∀ x ∈ m, x.length = m.length ∧ ∀ g ∈ x, bd g 1000) (hl : layErr r = 0) (hrm : r.length = m.length) : Fits (adjS m) r 1000 100000000 := by
  obtain ⟨h1, h2, h3⟩ := lay_of hl
  obtain ⟨g1, g2⟩ := adjS_length ha
  refine ⟨h1, h2, by omega, fun x hx => (h3 x hx).1, ?_, fun x hx => by rw [g2 x hx, hrm], ?_, fun x hx g hg => (h3 x hx).2.2.2 g hg, by omega⟩
  · have := (h3 _ (getD_mem [] h1)).2.2.1; omega
  · rcases ha with ⟨a, rfl⟩ | ⟨a, b, c, d, rfl, h1, h2⟩
    · intro x hx g hg
      simp [adjS] at hx; subst hx; simp at hg; subst hg
      constructor <;> simp
    · have ha := (hm [a, b] (by simp)).2 a (by simp)
      have hd := (hm [c, d] (by simp)).2 d (by simp)
      intro x hx g hg
      simp only [bd] at *
      simp only [adjS, List.mem_cons, List.not_mem_nil, or_false] at hx
      rcases hx with rfl | rfl <;> simp only [List.mem_cons, List.not_mem_nil, or_false] at hg <;> rcases hg with rfl | rfl <;> (try simp only [gsub]) <;> omega
def eqErr (m r : List (List Gs)) : Int := firstS [symDetE m, layErr r, if r.length = m.length then 0 else 13, if symDetS m = ⟨0, 0⟩ then 27 else 0]
def gainS (m : List (List Gs)) : Int := (gmul (symDetS m) (gconj (symDetS m))).re
def eqOut (m r : List (List Gs)) : List (List Gs) := (applS (adjS m) r).map fun x => x.map (gmul (gconj (symDetS m)))
def eqE (m r : List (List Gs)) : Int := if eqErr m r ≠ 0 then eqErr m r else if gainS m > 10000000 then 8 else if (eqOut m r).all fun x => x.all (smallG · 100000000) then 0 else 8
theorem Equalized_c (m r : List (List Gs)) : FC Try.prog 17 [enc m, enc r] [] (.tup [enc (if eqE m r = 0 then eqOut m r else []), enc (if eqE m r = 0 then gainS m else 0), enc (eqE m r)]) [] := by
  refine fc_introC [] D.is17 (by simp) trivial trivial trivial trivial (fun cx _ hl _ => S_run [e49, e81, e82, e80, e83, e84, e85, e86, e87D] 800 ?_)
  have hEq : firstS [symDetE m, layErr r, if (r.length : Int) = (m.length : Int) then 0 else 13, if (decide ((symDetS m).re = 0) && decide ((symDetS m).im = 0)) = false then 0 else 27] = eqErr m r := by
    have e1 : (if (r.length : Int) = (m.length : Int) then (0 : Int) else 13) = if r.length = m.length then 0 else 13 := by
      by_cases h : r.length = m.length
      · simp [h]
      · rw [if_neg h, if_neg (by omega)]
    have e2 : (if (decide ((symDetS m).re = 0) && decide ((symDetS m).im = 0)) = false then (0 : Int) else 27) = if symDetS m = ⟨0, 0⟩ then 27 else 0 := by
      by_cases h : symDetS m = ⟨0, 0⟩
      · rw [h]; simp
      · rw [if_neg h, if_pos]
        rw [Bool.and_eq_false_iff]
        by_cases h1 : (symDetS m).re = 0
        · right
          simp only [decide_eq_false_iff_not]
          intro h2
          apply h
          cases hq : symDetS m
          rw [hq] at h1 h2
          simp only at h1 h2
          rw [h1, h2]
        · left; simpa using h1
    rw [e1, e2]; rfl
  by_cases he : eqErr m r = 0
  · have hz := firstS_zero he
    have z1 : symDetE m = 0 := hz _ (by simp)
    have z2 : layErr r = 0 := hz _ (by simp)
    have z3 : r.length = m.length := by
      have : (if r.length = m.length then (0 : Int) else 13) = 0 := hz _ (by simp)
      split at this
      · assumption
      · cases this
    obtain ⟨d1, d2, d3, d4⟩ := det_of z1
    have hf := adj_fits d1 d2 z2 z3
    obtain ⟨l1, l2, l3⟩ := lay_of z2
    have hga : RepM (gridS (adjS m)) (adjS m) := grid_rep fun x hx g hg => by
      have := hf.ma x hx g hg
      simp only [bd] at *; omega
    have hgr : RepM (gridS r) r := grid_rep fun x hx g hg => by
      have := hf.mb x hx g hg
      simp only [bd] at *; omega
    have hrep := times_rep hf (by omega) hga hgr
    have hO := ofM_c hrep
    have hOl : (applS (adjS m) r).length = m.length := by simp [applS, (adjS_length d1).1]
    rw [he] at hEq
    delta D.c17
    simp (maxSteps := 4000000) -implicitDefEqProofs only [D.rv17, e49, e81, e82, e80, e83, e84, e85, e86, e87D, hEq, hO, Ent.of0, Ent.of1, Ent.of2, Ent.of3, V, bO, bt, bE, cb, cN, cU, gt, lk, cJ, bQ, cm, cr, bM, cn, cn.subCs, cT, bg, a9, cg, az, a3, bn, aJ, bz, bo, aY, bF, ax, cu, cO, c6, aq, aX, bR, cI, cj, cY, cR, aV, an, bY, bj, zC, argS, bG, cH, cP, cW, ah, aw, aW, aA, cd, leC, ca, bP, cG, cS, bU, ay, aL, cK, au, cp, a7, a7.viewCs, bH, bH.flatCs, aR, aR.LensOks, Value.oneCell', ↓reduceIte, ite_true, ite_false, if_true, if_false, Nat.reduceAdd, Nat.reduceSub, Nat.reduceMul, Nat.reduceEqDiff, Nat.reduceLT, Nat.reduceLeDiff, reduceCtorEq, Int.reduceToNat, forall_const, implies_true, bm, Ent.mk3, bC, bu, bw, a5, a6, aZ, bK, bB, bI, bJ, bk, cD, bD, cQ, rn, bT, bT.renCs, aT, aU, aN, aN.viewOks, aI, a8, a8.flatBs, aG, ag, aH, ar, aQ, bv, bv.keysBs, aE, am, bp, bS, be, cC, af, af.passKs, aB, aO, ae, ae.lendKs, bV, cq, bW, bq, setInn, ai, cZ, cL, aC, bf, bZ, cc, aD, aP, Glob.gl, av, co, bL, b0, br, aj, bX, cM, cB, cV, bN, ap, ap.ptrOnlys, ak, aK, cz, aM, a4, bA, ce, aF, bh, cF, Nat.reduceBEq, undef]
    have hbd : bd (symDetS m) 4000000 := by
      have e : symDetS m = detS m := by unfold symDetS symDetE at *; split at z1 <;> simp_all
      rw [e]
      rcases d1 with ⟨a, rfl⟩ | ⟨a, b, c, d, rfl, _, _⟩
      · have := (d2 [a] (by simp)).2 a (by simp)
        simp only [detS, bd] at *; omega
      · have ha := (d2 [a, b] (by simp)).2 a (by simp)
        have hb := (d2 [a, b] (by simp)).2 b (by simp)
        have hc := (d2 [c, d] (by simp)).2 c (by simp)
        have hd := (d2 [c, d] (by simp)).2 d (by simp)
        have q1 := bd_gmul ha hd
        have q2 := bd_gmul hb hc
        simp only [detS, bd, gsub] at *
        omega
    have hgc : gconj (symDetS m) = ⟨(symDetS m).re, -(symDetS m).im⟩ := rfl
    have hgain : gainS m = (gmul (symDetS m) ⟨(symDetS m).re, -(symDetS m).im⟩).re := rfl
    have hgain2 : gainS m = (symDetS m).re * (symDetS m).re + (symDetS m).im * (symDetS m).im := by
      rw [hgain]; simp only [gmul]; rw [Int.mul_neg]; omega
    have heE : eqE m r = if gainS m > 10000000 then 8 else if (eqOut m r).all fun x => x.all (smallG · 100000000) then 0 else 8 := by unfold eqE; rw [if_neg (by simpa using he)]
    have hout : eqOut m r = (applS (adjS m) r).map fun x => x.map (gmul (gconj (symDetS m))) := rfl
    refine ⟨by simp only [bd, InR] at *; omega, ⟨4000000, 4000000, hbd, by simp only [bd] at *; omega, by omega⟩, ?_⟩
    rw [← hgain]
    by_cases hG : gainS m > 10000000
    · rw [if_pos hG, heE, if_pos hG]
      exact ⟨trivial, rfl, rfl⟩
    · rw [if_neg hG]
      rw [if_neg hG] at heE
      have hal := adjS_length d1
      have hrows : ∀ x ∈ applS (adjS m) r, x.length ≤ 1000000 ∧ ∀ g ∈ x, bd g 800000000000 := fun x hx => by
        obtain ⟨row, hrow, rfl⟩ := List.mem_map.1 hx
        refine ⟨by simp only [rowS', List.length_map, List.length_range]; exact hf.short, fun g hg => ?_⟩
        obtain ⟨k, hk, rfl⟩ := List.mem_map.1 hg
        have := bd_dot hf hrow (by simpa using hk) r.length (Nat.le_refl _)
        have h4 : r.length * (2 * (1000 * 100000000)) ≤ 4 * (2 * (1000 * 100000000)) := Nat.mul_le_mul_right _ l2
        simp only [bd] at *; omega
      refine ⟨d1, ⟨by omega, fun x hx => by rw [hal.2 x hx]; omega⟩, ⟨by omega, fun x hx => by have := (l3 x hx).2.2.1; omega⟩, ⟨_, _, _, _, hf, by omega, hga, hgr⟩, ⟨hrep, by omega, fun x hx => (hrows x hx).1, fun x hx g hg => by have := (hrows x hx).2 g hg; simp only [bd] at *; omega⟩, ?_⟩
      have hback : bd (gconj (symDetS m)) 4000 := by
        have sq : ∀ a b : Int, a * a + b * b ≤ 10000000 → a.natAbs ≤ 4000 := fun a b h => by
          rcases Nat.lt_or_ge 4000 a.natAbs with h1 | h1
          · have h2 : 4001 * 4001 ≤ a.natAbs * a.natAbs := Nat.mul_le_mul h1 h1
            have h3 : ((a.natAbs * a.natAbs : Nat) : Int) = a * a := by rw [← Int.natAbs_mul_self]
            have h4 : (0 : Int) ≤ b * b := by rw [← Int.natAbs_mul_self]; omega
            omega
          · exact h1
        have q1 := sq (symDetS m).re (symDetS m).im (by omega)
        have q2 := sq (symDetS m).im (symDetS m).re (by omega)
        simp only [bd, gconj] at *; omega
      generalize hF : gmul (gconj (symDetS m)) = F at *
      generalize hOO : applS (adjS m) r = O at *
      rw [hgc] at hF hback
      have hFg : ∀ g, gmul ⟨(symDetS m).re, -(symDetS m).im⟩ g = F g := fun g => by rw [← hF]
      generalize hB : (⟨(symDetS m).re, -(symDetS m).im⟩ : Gs) = B at *
      generalize (symDetS m).re = Dr at *
      generalize (symDetS m).im = Di at *
      generalize eqE m r = E at *
      generalize eqOut m r = Out at *
      generalize gainS m = n at *
      clear hF hgain hgain2 hgc hbd hEq he hz z1 z2 z3 d1 d2 hf l3 hga hgr hrep hO hal hOO hG
      subst hB
      refine S_forU O.length (fun i => [(60, .s (.int .i64 (i : Int)))]) (fun i => [(57, .deep 2 48 35 none (riC F O i))]) (fun i => ((O.take i).all fun x => x.all fun g => smallG (F g) 100000000) = true) (by simp) ?_ (fun i hi hv => S_run [e83, e88] 800 ?_)
      · simp (maxSteps := 4000000) -implicitDefEqProofs only [riC_zero, Ent.of0, Ent.of1, Ent.of2, Ent.of3, V, bO, bt, bE, cb, cN, cU, gt, lk, cJ, bQ, cm, cr, bM, cn, cn.subCs, cT, bg, a9, cg, az, a3, bn, aJ, bz, bo, aY, bF, ax, cu, cO, c6, aq, aX, bR, cI, cj, cY, cR, aV, an, bY, bj, zC, argS, bG, cH, cP, cW, ah, aw, aW, aA, cd, leC, ca, bP, cG, cS, bU, ay, aL, cK, au, cp, a7, a7.viewCs, bH, bH.flatCs, aR, aR.LensOks, Value.oneCell', ↓reduceIte, ite_true, ite_false, if_true, if_false, Nat.reduceAdd, Nat.reduceSub, Nat.reduceMul, Nat.reduceEqDiff, Nat.reduceLT, Nat.reduceLeDiff, reduceCtorEq, Int.reduceToNat, forall_const, implies_true, bm, Ent.mk3, bC, bu, bw, a5, a6, aZ, bK, bB, bI, bJ, bk, cD, bD, cQ, rn, bT, bT.renCs, aT, aU, aN, aN.viewOks, aI, a8, a8.flatBs, aG, ag, aH, ar, aQ, bv, bv.keysBs, aE, am, bp, bS, be, cC, af, af.passKs, aB, aO, ae, ae.lendKs, bV, cq, bW, bq, setInn, ai, cZ, cL, aC, bf, bZ, cc, aD, aP, Glob.gl, av, co, bL, b0, br, aj, bX, cM, cB, cV, bN, ap, ap.ptrOnlys, ak, aK, cz, aM, a4, bA, ce, aF, bh, cF, Nat.reduceBEq, undef]
        rfl
      · delta D.c17l2
        by_cases h : i < O.length
        · have hi2 : (i : Int) < (O.length : Int) := by omega
          have r1 : (rjC F O i 0).length = O.length := rjC_length h
          have r2 : (rjC F O i 0).getD i [] = xjC F (O.getD i []) 0 := rjC_get h []
          have r3 : (xjC F (O.getD i []) 0).length = (O.getD i []).length := xjC_length (by omega)
          rw [riC_rj h]
          simp (maxSteps := 4000000) -implicitDefEqProofs only [hi2, r1, r2, r3, h, InR, Ent.of0, Ent.of1, Ent.of2, Ent.of3, V, bO, bt, bE, cb, cN, cU, gt, lk, cJ, bQ, cm, cr, bM, cn, cn.subCs, cT, bg, a9, cg, az, a3, bn, aJ, bz, bo, aY, bF, ax, cu, cO, c6, aq, aX, bR, cI, cj, cY, cR, aV, an, bY, bj, zC, argS, bG, cH, cP, cW, ah, aw, aW, aA, cd, leC, ca, bP, cG, cS, bU, ay, aL, cK, au, cp, a7, a7.viewCs, bH, bH.flatCs, aR, aR.LensOks, Value.oneCell', ↓reduceIte, ite_true, ite_false, if_true, if_false, Nat.reduceAdd, Nat.reduceSub, Nat.reduceMul, Nat.reduceEqDiff, Nat.reduceLT, Nat.reduceLeDiff, reduceCtorEq, Int.reduceToNat, forall_const, implies_true, bm, Ent.mk3, bC, bu, bw, a5, a6, aZ, bK, bB, bI, bJ, bk, cD, bD, cQ, rn, bT, bT.renCs, aT, aU, aN, aN.viewOks, aI, a8, a8.flatBs, aG, ag, aH, ar, aQ, bv, bv.keysBs, aE, am, bp, bS, be, cC, af, af.passKs, aB, aO, ae, ae.lendKs, bV, cq, bW, bq, setInn, ai, cZ, cL, aC, bf, bZ, cc, aD, aP, Glob.gl, av, co, bL, b0, br, aj, bX, cM, cB, cV, bN, ap, ap.ptrOnlys, ak, aK, cz, aM, a4, bA, ce, aF, bh, cF, Nat.reduceBEq, undef]
          refine ⟨by omega, by simp, by simp, ?_⟩
          have hXm := hrows _ (getD_mem [] h)
          have htk : O.take (i + 1) = O.take i ++ [O.getD i []] := take_getD [] h
          have hXmem : O.getD i [] ∈ O := getD_mem [] h
          have rn := rjC_ri (F := F) h
          have g1 : ∀ j, (rjC F O i j).length = O.length := fun j => rjC_length h
          have g2 : ∀ j, (rjC F O i j).getD i [] = xjC F (O.getD i []) j := fun j => rjC_get h []
          have g3 : ∀ j, (rjC F O i j).set i (xjC F (O.getD i []) (j + 1)) = rjC F O i (j + 1) := fun j => rjC_set h
          generalize hX : O.getD i [] = X at *
          refine S_forU X.length (fun j => [(66, .s (.int .i64 (j : Int)))]) (fun j => [(57, .deep 2 48 35 none (rjC F O i j))]) (fun j => ((X.take j).all fun g => smallG (F g) 100000000) = true) (by simp) ?_ (fun j hj hw => S_run [e83, e88] 800 ?_)
          · simp (maxSteps := 4000000) -implicitDefEqProofs only [Ent.of0, Ent.of1, Ent.of2, Ent.of3, V, bO, bt, bE, cb, cN, cU, gt, lk, cJ, bQ, cm, cr, bM, cn, cn.subCs, cT, bg, a9, cg, az, a3, bn, aJ, bz, bo, aY, bF, ax, cu, cO, c6, aq, aX, bR, cI, cj, cY, cR, aV, an, bY, bj, zC, argS, bG, cH, cP, cW, ah, aw, aW, aA, cd, leC, ca, bP, cG, cS, bU, ay, aL, cK, au, cp, a7, a7.viewCs, bH, bH.flatCs, aR, aR.LensOks, Value.oneCell', ↓reduceIte, ite_true, ite_false, if_true, if_false, Nat.reduceAdd, Nat.reduceSub, Nat.reduceMul, Nat.reduceEqDiff, Nat.reduceLT, Nat.reduceLeDiff, reduceCtorEq, Int.reduceToNat, forall_const, implies_true, bm, Ent.mk3, bC, bu, bw, a5, a6, aZ, bK, bB, bI, bJ, bk, cD, bD, cQ, rn, bT, bT.renCs, aT, aU, aN, aN.viewOks, aI, a8, a8.flatBs, aG, ag, aH, ar, aQ, bv, bv.keysBs, aE, am, bp, bS, be, cC, af, af.passKs, aB, aO, ae, ae.lendKs, bV, cq, bW, bq, setInn, ai, cZ, cL, aC, bf, bZ, cc, aD, aP, Glob.gl, av, co, bL, b0, br, aj, bX, cM, cB, cV, bN, ap, ap.ptrOnlys, ak, aK, cz, aM, a4, bA, ce, aF, bh, cF, Nat.reduceBEq, undef]; rfl
          · delta D.c17l1
            by_cases hjl : j < X.length
            · have hj2 : (j : Int) < (X.length : Int) := by omega
              have g4 : (xjC F X j).length = X.length := xjC_length (by omega)
              have g4' : (xjC F X (j + 1)).length = X.length := xjC_length (by omega)
              have g5 : (xjC F X j).getD j [] = [.s (.int .i64 (X.getD j ⟨0, 0⟩).re), .s (.int .i64 (X.getD j ⟨0, 0⟩).im)] := xjC_get hjl []
              have g6 : (xjC F X (j + 1)).getD j [] = [.s (.int .i64 (F (X.getD j ⟨0, 0⟩)).re), .s (.int .i64 (F (X.getD j ⟨0, 0⟩)).im)] := xjC_get' hjl []
              have g7 : (xjC F X j).set j [.s (.int .i64 (F (X.getD j ⟨0, 0⟩)).re), .s (.int .i64 (F (X.getD j ⟨0, 0⟩)).im)] = xjC F X (j + 1) := xjC_set hjl
              have hgm := getD_mem ⟨0, 0⟩ hjl
              have hm1 : mulOk ⟨Dr, -Di⟩ (X.getD j ⟨0, 0⟩) := ⟨4000, 800000000000, hback, hXm.2 _ hgm, by omega⟩
              have htk2 : X.take (j + 1) = X.take j ++ [X.getD j ⟨0, 0⟩] := take_getD _ hjl
              simp (maxSteps := 4000000) -implicitDefEqProofs only [hj2, g1, g2, g3, g4, g4', g5, g6, g7, h, hjl, gs_eta, hFg, hm1, e83, e88, aJ, D.rv17, InR, Ent.of0, Ent.of1, Ent.of2, Ent.of3, V, bO, bt, bE, cb, cN, cU, gt, lk, cJ, bQ, cm, cr, bM, cn, cn.subCs, cT, bg, a9, cg, az, a3, bn, aJ, bz, bo, aY, bF, ax, cu, cO, c6, aq, aX, bR, cI, cj, cY, cR, aV, an, bY, bj, zC, argS, bG, cH, cP, cW, ah, aw, aW, aA, cd, leC, ca, bP, cG, cS, bU, ay, aL, cK, au, cp, a7, a7.viewCs, bH, bH.flatCs, aR, aR.LensOks, Value.oneCell', ↓reduceIte, ite_true, ite_false, if_true, if_false, Nat.reduceAdd, Nat.reduceSub, Nat.reduceMul, Nat.reduceEqDiff, Nat.reduceLT, Nat.reduceLeDiff, reduceCtorEq, Int.reduceToNat, forall_const, implies_true, bm, Ent.mk3, bC, bu, bw, a5, a6, aZ, bK, bB, bI, bJ, bk, cD, bD, cQ, rn, bT, bT.renCs, aT, aU, aN, aN.viewOks, aI, a8, a8.flatBs, aG, ag, aH, ar, aQ, bv, bv.keysBs, aE, am, bp, bS, be, cC, af, af.passKs, aB, aO, ae, ae.lendKs, bV, cq, bW, bq, setInn, ai, cZ, cL, aC, bf, bZ, cc, aD, aP, Glob.gl, av, co, bL, b0, br, aj, bX, cM, cB, cV, bN, ap, ap.ptrOnlys, ak, aK, cz, aM, a4, bA, ce, aF, bh, cF, Nat.reduceBEq, undef]
              have hne : (none : Option Nat) ≠ some i := by simp
              have hj0 : (0 : Int) ≤ (j : Int) := by omega
              refine ⟨⟨hne, hj0⟩, hne, ⟨hne, hj0⟩, hne, ⟨hne, hj0⟩, hne, by omega, ?_⟩
              by_cases hs : smallG (F (X.getD j ⟨0, 0⟩)) 100000000 = false
              · rw [if_pos hs]
                have hE8 : E = 8 := by
                  rw [heE, if_neg]
                  rw [hout]
                  intro ha
                  have h1 := List.all_eq_true.1 ha _ (List.mem_map.2 ⟨X, hXmem, rfl⟩)
                  have h2 := List.all_eq_true.1 h1 _ (List.mem_map.2 ⟨_, hgm, rfl⟩)
                  rw [hs] at h2; cases h2
                rw [hE8]
                exact ⟨trivial, rfl, rfl⟩
              · rw [if_neg hs]
                refine ⟨by omega, ?_, by omega⟩
                rw [htk2, List.all_append, hw]
                simpa using hs
            · have hje : j = X.length := by omega
              subst hje
              have hj2 : ¬ (X.length : Int) < (X.length : Int) := by omega
              simp (maxSteps := 4000000) -implicitDefEqProofs only [hj2, rn, h, htk, InR, Ent.of0, Ent.of1, Ent.of2, Ent.of3, V, bO, bt, bE, cb, cN, cU, gt, lk, cJ, bQ, cm, cr, bM, cn, cn.subCs, cT, bg, a9, cg, az, a3, bn, aJ, bz, bo, aY, bF, ax, cu, cO, c6, aq, aX, bR, cI, cj, cY, cR, aV, an, bY, bj, zC, argS, bG, cH, cP, cW, ah, aw, aW, aA, cd, leC, ca, bP, cG, cS, bU, ay, aL, cK, au, cp, a7, a7.viewCs, bH, bH.flatCs, aR, aR.LensOks, Value.oneCell', ↓reduceIte, ite_true, ite_false, if_true, if_false, Nat.reduceAdd, Nat.reduceSub, Nat.reduceMul, Nat.reduceEqDiff, Nat.reduceLT, Nat.reduceLeDiff, reduceCtorEq, Int.reduceToNat, forall_const, implies_true, bm, Ent.mk3, bC, bu, bw, a5, a6, aZ, bK, bB, bI, bJ, bk, cD, bD, cQ, rn, bT, bT.renCs, aT, aU, aN, aN.viewOks, aI, a8, a8.flatBs, aG, ag, aH, ar, aQ, bv, bv.keysBs, aE, am, bp, bS, be, cC, af, af.passKs, aB, aO, ae, ae.lendKs, bV, cq, bW, bq, setInn, ai, cZ, cL, aC, bf, bZ, cc, aD, aP, Glob.gl, av, co, bL, b0, br, aj, bX, cM, cB, cV, bN, ap, ap.ptrOnlys, ak, aK, cz, aM, a4, bA, ce, aF, bh, cF, Nat.reduceBEq, undef]
              rw [List.take_length] at hw
              refine ⟨by omega, ?_, by omega⟩
              rw [List.all_append, hv]
              simp only [List.all_cons, List.all_nil, Bool.and_true, Bool.true_and]
              exact hw
        · have hie : i = O.length := by omega
          subst hie
          have hi2 : ¬ (O.length : Int) < (O.length : Int) := by omega
          rw [riC_all]
          simp (maxSteps := 4000000) -implicitDefEqProofs only [hi2, D.rv17, InR, Ent.of0, Ent.of1, Ent.of2, Ent.of3, V, bO, bt, bE, cb, cN, cU, gt, lk, cJ, bQ, cm, cr, bM, cn, cn.subCs, cT, bg, a9, cg, az, a3, bn, aJ, bz, bo, aY, bF, ax, cu, cO, c6, aq, aX, bR, cI, cj, cY, cR, aV, an, bY, bj, zC, argS, bG, cH, cP, cW, ah, aw, aW, aA, cd, leC, ca, bP, cG, cS, bU, ay, aL, cK, au, cp, a7, a7.viewCs, bH, bH.flatCs, aR, aR.LensOks, Value.oneCell', ↓reduceIte, ite_true, ite_false, if_true, if_false, Nat.reduceAdd, Nat.reduceSub, Nat.reduceMul, Nat.reduceEqDiff, Nat.reduceLT, Nat.reduceLeDiff, reduceCtorEq, Int.reduceToNat, forall_const, implies_true, bm, Ent.mk3, bC, bu, bw, a5, a6, aZ, bK, bB, bI, bJ, bk, cD, bD, cQ, rn, bT, bT.renCs, aT, aU, aN, aN.viewOks, aI, a8, a8.flatBs, aG, ag, aH, ar, aQ, bv, bv.keysBs, aE, am, bp, bS, be, cC, af, af.passKs, aB, aO, ae, ae.lendKs, bV, cq, bW, bq, setInn, ai, cZ, cL, aC, bf, bZ, cc, aD, aP, Glob.gl, av, co, bL, b0, br, aj, bX, cM, cB, cV, bN, ap, ap.ptrOnlys, ak, aK, cz, aM, a4, bA, ce, aF, bh, cF, Nat.reduceBEq, undef]
          rw [List.take_length] at hv
          have hE0 : E = 0 := by
            rw [heE, if_pos]
            rw [hout, List.all_map]
            simpa [Function.comp_def, List.all_map] using hv
          rw [hE0, if_pos rfl, if_pos rfl, hout]
          refine ⟨?_, rfl, rfl⟩
          simp only [List.map_map]
          rfl
  · have hE : eqE m r = eqErr m r := by unfold eqE; rw [if_pos he]
    delta D.c17
    simp (maxSteps := 4000000) -implicitDefEqProofs only [D.rv17, e49, e81, e82, e80, e83, Ent.of0, Ent.of1, Ent.of2, Ent.of3, V, bO, bt, bE, cb, cN, cU, gt, lk, cJ, bQ, cm, cr, bM, cn, cn.subCs, cT, bg, a9, cg, az, a3, bn, aJ, bz, bo, aY, bF, ax, cu, cO, c6, aq, aX, bR, cI, cj, cY, cR, aV, an, bY, bj, zC, argS, bG, cH, cP, cW, ah, aw, aW, aA, cd, leC, ca, bP, cG, cS, bU, ay, aL, cK, au, cp, a7, a7.viewCs, bH, bH.flatCs, aR, aR.LensOks, Value.oneCell', ↓reduceIte, ite_true, ite_false, if_true, if_false, Nat.reduceAdd, Nat.reduceSub, Nat.reduceMul, Nat.reduceEqDiff, Nat.reduceLT, Nat.reduceLeDiff, reduceCtorEq, Int.reduceToNat, forall_const, implies_true, bm, Ent.mk3, bC, bu, bw, a5, a6, aZ, bK, bB, bI, bJ, bk, cD, bD, cQ, rn, bT, bT.renCs, aT, aU, aN, aN.viewOks, aI, a8, a8.flatBs, aG, ag, aH, ar, aQ, bv, bv.keysBs, aE, am, bp, bS, be, cC, af, af.passKs, aB, aO, ae, ae.lendKs, bV, cq, bW, bq, setInn, ai, cZ, cL, aC, bf, bZ, cc, aD, aP, Glob.gl, av, co, bL, b0, br, aj, bX, cM, cB, cV, bN, ap, ap.ptrOnlys, ak, aK, cz, aM, a4, bA, ce, aF, bh, cF, Nat.reduceBEq, undef]
    rw [hEq, if_pos he, hE, if_neg he, if_neg he]
    exact ⟨trivial, rfl, rfl⟩
end Go.Proofs.Ytfgpbmjmoobcnaa
end
section
open Go Go.Am
open Go.Am.Dat (cells)
namespace Go.Proofs.Ytfgpbmjmoobcnaa
set_option maxHeartbeats 4000000
set_option maxRecDepth 100000
set_option linter.unusedSimpArgs false
def regX : Reg := ⟨3, [0, 1], [1, 0, 0]⟩
theorem Register_c : FC Try.prog 79 [] [] (enc regX) [] := by
  refine fc_intro' is79 (by simp) (fun cx hl => S_run [] 800 ?_)
  delta c79
  simp (maxSteps := 4000000) -implicitDefEqProofs only [rv79, regX, enc_reg, aJ, Ent.of0, Ent.of1, Ent.of2, Ent.of3, V, bO, bt, bE, cb, cN, cU, gt, lk, cJ, bQ, cm, cr, bM, cn, cn.subCs, cT, bg, a9, cg, az, a3, bn, aJ, bz, bo, aY, bF, ax, cu, cO, c6, aq, aX, bR, cI, cj, cY, cR, aV, an, bY, bj, zC, argS, bG, cH, cP, cW, ah, aw, aW, aA, cd, leC, ca, bP, cG, cS, bU, ay, aL, cK, au, cp, a7, a7.viewCs, bH, bH.flatCs, aR, aR.LensOks, Value.oneCell', ↓reduceIte, ite_true, ite_false, if_true, if_false, Nat.reduceAdd, Nat.reduceSub, Nat.reduceMul, Nat.reduceEqDiff, Nat.reduceLT, Nat.reduceLeDiff, reduceCtorEq, Int.reduceToNat, forall_const, implies_true, bm, Ent.mk3, bC, bu, bw, a5, a6, aZ, bK, bB, bI, bJ, bk, cD, bD, cQ, rn, bT, bT.renCs, aT, aU, aN, aN.viewOks, aI, a8, a8.flatBs, aG, ag, aH, ar, aQ, bv, bv.keysBs, aE, am, bp, bS, be, cC, af, af.passKs, aB, aO, ae, ae.lendKs, bV, cq, bW, bq, setInn, ai, cZ, cL, aC, bf, bZ, cc, aD, aP, Glob.gl, av, co, bL, b0, br, aj, bX, cM, cB, cV, bN, ap, ap.ptrOnlys, ak, aK, cz, aM, a4, bA, ce, aF, bh, cF, Nat.reduceBEq, undef]
def e79 : Ent Try.prog := .of0 79 (enc regX) (by simp [enc_reg, regX, keysIn, keysIn.keysIns]) Register_c
def mX : List (List Gs) := [[⟨1, 0⟩, ⟨0, 1⟩], [⟨0, 0⟩, ⟨2, 0⟩]]
def rX : List (List Gs) := [[⟨2, 1⟩], [⟨2, 2⟩]]
theorem eqX : FC Try.prog 17 [enc mX, enc rX] [] (.tup [enc [[(⟨12, 0⟩ : Gs)], [⟨4, 4⟩]], enc (4 : Int), enc (0 : Int)]) [] := by
  have s7 : eqE mX rX = 0 := by decide +kernel
  have s8 : eqOut mX rX = [[⟨12, 0⟩], [⟨4, 4⟩]] := by decide +kernel
  have s9 : gainS mX = 4 := by decide +kernel
  have := Equalized_c mX rX
  rwa [s7, if_pos rfl, if_pos rfl, s8, s9] at this
def e17X : Ent Try.prog := .mk3 17 (fun args chs => match chs with | [] => some (args = [enc mX, enc rX], .tup [enc [[(⟨12, 0⟩ : Gs)], [⟨4, 4⟩]], enc (4 : Int), enc (0 : Int)], [], []) | _ => none) (by
  intro args chs p r chs' nk hs hp
  split at hs
  · simp only [Option.some.injEq, Prod.mk.injEq] at hs
    obtain ⟨rfl, rfl, rfl, rfl⟩ := hs
    subst hp
    exact ⟨eqX, .plain (by simp [enc_list, enc_int, keysIn, keysIn.keysIns])⟩
  · cases hs)
theorem awake_c : FC Try.prog 15 [] [] (enc true) [] := by
  have s1 : sequenceErr ⟨3, [0, 1], [1, 0, 0]⟩ 7 = 0 := by decide +kernel
  have s2 : seqS (wireW ⟨3, [0, 1], [1, 0, 0]⟩) 7 = [1, 0, 0, 1, 0, 1, 1] := by decide +kernel
  have s3 : modErr 4 [0, 1, 1, 0] = 0 := by decide +kernel
  have s4 : modS 4 [0, 1, 1, 0] 1 = [⟨3, -1⟩] := by decide +kernel
  have s5 : recvErr ⟨4, 2, [⟨5, 1⟩]⟩ = 0 := by decide +kernel
  have s6 : judgeAll softS ⟨4, 2, [⟨5, 1⟩]⟩ = [48, 8, -8, 24] := by decide +kernel
  have t7 : Int.toNat 7 = 7 := rfl
  have t4 : Int.toNat 4 = 4 := rfl
  have d1 : (4 : Nat) / 4 = 1 := rfl
  refine fc_intro' is15 (by simp) (fun cx hl => S_run [e79, e72, e24] 800 ?_)
  delta c15
  simp (maxSteps := 4000000) -implicitDefEqProofs only [rv15, e79, regX, e72, e24, enc_reg, decV_reg, s1, s2, s3, s4, t7, t4, d1, Int.cast_ofNat_Int, Int.natCast_one, Int.natCast_zero, Int.reduceAdd, Int.reduceSub, Int.reduceMul, Int.reduceLT, Int.reduceLE, Int.reduceTMod, Int.reduceTDiv, Int.reduceNeg, Int.reduceEq, Nat.reducePow, Int.reducePow, ne_eq, not_false_eq_true, Ent.of0, Ent.of1, Ent.of2, Ent.of3, V, bO, bt, bE, cb, cN, cU, gt, lk, cJ, bQ, cm, cr, bM, cn, cn.subCs, cT, bg, a9, cg, az, a3, bn, aJ, bz, bo, aY, bF, ax, cu, cO, c6, aq, aX, bR, cI, cj, cY, cR, aV, an, bY, bj, zC, argS, bG, cH, cP, cW, ah, aw, aW, aA, cd, leC, ca, bP, cG, cS, bU, ay, aL, cK, au, cp, a7, a7.viewCs, bH, bH.flatCs, aR, aR.LensOks, Value.oneCell', ↓reduceIte, ite_true, ite_false, if_true, if_false, Nat.reduceAdd, Nat.reduceSub, Nat.reduceMul, Nat.reduceEqDiff, Nat.reduceLT, Nat.reduceLeDiff, reduceCtorEq, Int.reduceToNat, forall_const, implies_true, bm, Ent.mk3, bC, bu, bw, a5, a6, aZ, bK, bB, bI, bJ, bk, cD, bD, cQ, rn, bT, bT.renCs, aT, aU, aN, aN.viewOks, aI, a8, a8.flatBs, aG, ag, aH, ar, aQ, bv, bv.keysBs, aE, am, bp, bS, be, cC, af, af.passKs, aB, aO, ae, ae.lendKs, bV, cq, bW, bq, setInn, ai, cZ, cL, aC, bf, bZ, cc, aD, aP, Glob.gl, av, co, bL, b0, br, aj, bX, cM, cB, cV, bN, ap, ap.ptrOnlys, ak, aK, cz, aM, a4, bA, ce, aF, bh, cF, Nat.reduceBEq, undef]
  refine D_run [e58] 800 ?_
  simp (maxSteps := 4000000) -implicitDefEqProofs only [e58, enc_recv, decV_recv, s5, s6, Int.cast_ofNat_Int, Int.natCast_one, Int.natCast_zero, Int.reduceAdd, Int.reduceSub, Int.reduceMul, Int.reduceLT, Int.reduceLE, Int.reduceTMod, Int.reduceTDiv, Int.reduceNeg, Int.reduceEq, Nat.reducePow, Int.reducePow, ne_eq, not_false_eq_true, Ent.of0, Ent.of1, Ent.of2, Ent.of3, V, bO, bt, bE, cb, cN, cU, gt, lk, cJ, bQ, cm, cr, bM, cn, cn.subCs, cT, bg, a9, cg, az, a3, bn, aJ, bz, bo, aY, bF, ax, cu, cO, c6, aq, aX, bR, cI, cj, cY, cR, aV, an, bY, bj, zC, argS, bG, cH, cP, cW, ah, aw, aW, aA, cd, leC, ca, bP, cG, cS, bU, ay, aL, cK, au, cp, a7, a7.viewCs, bH, bH.flatCs, aR, aR.LensOks, Value.oneCell', ↓reduceIte, ite_true, ite_false, if_true, if_false, Nat.reduceAdd, Nat.reduceSub, Nat.reduceMul, Nat.reduceEqDiff, Nat.reduceLT, Nat.reduceLeDiff, reduceCtorEq, Int.reduceToNat, forall_const, implies_true, bm, Ent.mk3, bC, bu, bw, a5, a6, aZ, bK, bB, bI, bJ, bk, cD, bD, cQ, rn, bT, bT.renCs, aT, aU, aN, aN.viewOks, aI, a8, a8.flatBs, aG, ag, aH, ar, aQ, bv, bv.keysBs, aE, am, bp, bS, be, cC, af, af.passKs, aB, aO, ae, ae.lendKs, bV, cq, bW, bq, setInn, ai, cZ, cL, aC, bf, bZ, cc, aD, aP, Glob.gl, av, co, bL, b0, br, aj, bX, cM, cB, cV, bN, ap, ap.ptrOnlys, ak, aK, cz, aM, a4, bA, ce, aF, bh, cF, Nat.reduceBEq, undef]
  refine D_run [e17X] 800 ?_
  simp (maxSteps := 4000000) -implicitDefEqProofs only [e17X, mX, rX, Int.cast_ofNat_Int, Int.natCast_one, Int.natCast_zero, Int.reduceAdd, Int.reduceSub, Int.reduceMul, Int.reduceLT, Int.reduceLE, Int.reduceTMod, Int.reduceTDiv, Int.reduceNeg, Int.reduceEq, Nat.reducePow, Int.reducePow, ne_eq, not_false_eq_true, Ent.of0, Ent.of1, Ent.of2, Ent.of3, V, bO, bt, bE, cb, cN, cU, gt, lk, cJ, bQ, cm, cr, bM, cn, cn.subCs, cT, bg, a9, cg, az, a3, bn, aJ, bz, bo, aY, bF, ax, cu, cO, c6, aq, aX, bR, cI, cj, cY, cR, aV, an, bY, bj, zC, argS, bG, cH, cP, cW, ah, aw, aW, aA, cd, leC, ca, bP, cG, cS, bU, ay, aL, cK, au, cp, a7, a7.viewCs, bH, bH.flatCs, aR, aR.LensOks, Value.oneCell', ↓reduceIte, ite_true, ite_false, if_true, if_false, Nat.reduceAdd, Nat.reduceSub, Nat.reduceMul, Nat.reduceEqDiff, Nat.reduceLT, Nat.reduceLeDiff, reduceCtorEq, Int.reduceToNat, forall_const, implies_true, bm, Ent.mk3, bC, bu, bw, a5, a6, aZ, bK, bB, bI, bJ, bk, cD, bD, cQ, rn, bT, bT.renCs, aT, aU, aN, aN.viewOks, aI, a8, a8.flatBs, aG, ag, aH, ar, aQ, bv, bv.keysBs, aE, am, bp, bS, be, cC, af, af.passKs, aB, aO, ae, ae.lendKs, bV, cq, bW, bq, setInn, ai, cZ, cL, aC, bf, bZ, cc, aD, aP, Glob.gl, av, co, bL, b0, br, aj, bX, cM, cB, cV, bN, ap, ap.ptrOnlys, ak, aK, cz, aM, a4, bA, ce, aF, bh, cF, Nat.reduceBEq, undef]
  refine D_run [e37, e27, e21] 800 ?_
  simp (maxSteps := 4000000) -implicitDefEqProofs only [e37, e27, e21, rv15, Int.cast_ofNat_Int, Int.natCast_one, Int.natCast_zero, Int.reduceAdd, Int.reduceSub, Int.reduceMul, Int.reduceLT, Int.reduceLE, Int.reduceTMod, Int.reduceTDiv, Int.reduceNeg, Int.reduceEq, Nat.reducePow, Int.reducePow, ne_eq, not_false_eq_true, Ent.of0, Ent.of1, Ent.of2, Ent.of3, V, bO, bt, bE, cb, cN, cU, gt, lk, cJ, bQ, cm, cr, bM, cn, cn.subCs, cT, bg, a9, cg, az, a3, bn, aJ, bz, bo, aY, bF, ax, cu, cO, c6, aq, aX, bR, cI, cj, cY, cR, aV, an, bY, bj, zC, argS, bG, cH, cP, cW, ah, aw, aW, aA, cd, leC, ca, bP, cG, cS, bU, ay, aL, cK, au, cp, a7, a7.viewCs, bH, bH.flatCs, aR, aR.LensOks, Value.oneCell', ↓reduceIte, ite_true, ite_false, if_true, if_false, Nat.reduceAdd, Nat.reduceSub, Nat.reduceMul, Nat.reduceEqDiff, Nat.reduceLT, Nat.reduceLeDiff, reduceCtorEq, Int.reduceToNat, forall_const, implies_true, bm, Ent.mk3, bC, bu, bw, a5, a6, aZ, bK, bB, bI, bJ, bk, cD, bD, cQ, rn, bT, bT.renCs, aT, aU, aN, aN.viewOks, aI, a8, a8.flatBs, aG, ag, aH, ar, aQ, bv, bv.keysBs, aE, am, bp, bS, be, cC, af, af.passKs, aB, aO, ae, ae.lendKs, bV, cq, bW, bq, setInn, ai, cZ, cL, aC, bf, bZ, cc, aD, aP, Glob.gl, av, co, bL, b0, br, aj, bX, cM, cB, cV, bN, ap, ap.ptrOnlys, ak, aK, cz, aM, a4, bA, ce, aF, bh, cF, Nat.reduceBEq, undef]
def e15 : Ent Try.prog := .of0 15 (enc true) trivial awake_c
end Go.Proofs.Ytfgpbmjmoobcnaa
end
section
open Go Go.Am
open Go.Am.Dat (cells)
namespace Go.Proofs.Ytfgpbmjmoobcnaa
set_option maxHeartbeats 4000000
set_option maxRecDepth 100000
set_option linter.unusedSimpArgs false
def shortS (r : Reg) : Bool := decide (r.taps.length ≤ 12) && decide (r.state.length ≤ 12)
theorem short_c (r : Reg) : FC Try.prog 41 [enc r] [] (enc (shortS r)) [] := by
  obtain ⟨len, taps, state⟩ := r
  refine fc_intro' is41 (by simp) (fun cx hl => S_run [] 800 ?_)
  by_cases h1 : taps.length ≤ 12
  · have h1' : (taps.length : Int) ≤ 12 := by omega
    by_cases h2 : state.length ≤ 12
    · have h2' : (state.length : Int) ≤ 12 := by omega
      delta c41
      simp (maxSteps := 4000000) -implicitDefEqProofs only [rv41, enc_reg, h1', h2', shortS, h1, h2, Int.cast_ofNat_Int, Int.natCast_one, Int.natCast_zero, Int.reduceAdd, Int.reduceSub, Int.reduceMul, Int.reduceLT, Int.reduceLE, Int.reduceTMod, Int.reduceTDiv, Int.reduceNeg, Int.reduceEq, Nat.reducePow, Int.reducePow, ne_eq, not_false_eq_true, Ent.of0, Ent.of1, Ent.of2, Ent.of3, V, bO, bt, bE, cb, cN, cU, gt, lk, cJ, bQ, cm, cr, bM, cn, cn.subCs, cT, bg, a9, cg, az, a3, bn, aJ, bz, bo, aY, bF, ax, cu, cO, c6, aq, aX, bR, cI, cj, cY, cR, aV, an, bY, bj, zC, argS, bG, cH, cP, cW, ah, aw, aW, aA, cd, leC, ca, bP, cG, cS, bU, ay, aL, cK, au, cp, a7, a7.viewCs, bH, bH.flatCs, aR, aR.LensOks, Value.oneCell', ↓reduceIte, ite_true, ite_false, if_true, if_false, Nat.reduceAdd, Nat.reduceSub, Nat.reduceMul, Nat.reduceEqDiff, Nat.reduceLT, Nat.reduceLeDiff, reduceCtorEq, Int.reduceToNat, forall_const, implies_true, bm, Ent.mk3, bC, bu, bw, a5, a6, aZ, bK, bB, bI, bJ, bk, cD, bD, cQ, rn, bT, bT.renCs, aT, aU, aN, aN.viewOks, aI, a8, a8.flatBs, aG, ag, aH, ar, aQ, bv, bv.keysBs, aE, am, bp, bS, be, cC, af, af.passKs, aB, aO, ae, ae.lendKs, bV, cq, bW, bq, setInn, ai, cZ, cL, aC, bf, bZ, cc, aD, aP, Glob.gl, av, co, bL, b0, br, aj, bX, cM, cB, cV, bN, ap, ap.ptrOnlys, ak, aK, cz, aM, a4, bA, ce, aF, bh, cF, Nat.reduceBEq, undef]
      try simp
    · have h2' : ¬ (state.length : Int) ≤ 12 := by omega
      delta c41
      simp (maxSteps := 4000000) -implicitDefEqProofs only [rv41, enc_reg, h1', h2', shortS, h1, h2, Int.cast_ofNat_Int, Int.natCast_one, Int.natCast_zero, Int.reduceAdd, Int.reduceSub, Int.reduceMul, Int.reduceLT, Int.reduceLE, Int.reduceTMod, Int.reduceTDiv, Int.reduceNeg, Int.reduceEq, Nat.reducePow, Int.reducePow, ne_eq, not_false_eq_true, Ent.of0, Ent.of1, Ent.of2, Ent.of3, V, bO, bt, bE, cb, cN, cU, gt, lk, cJ, bQ, cm, cr, bM, cn, cn.subCs, cT, bg, a9, cg, az, a3, bn, aJ, bz, bo, aY, bF, ax, cu, cO, c6, aq, aX, bR, cI, cj, cY, cR, aV, an, bY, bj, zC, argS, bG, cH, cP, cW, ah, aw, aW, aA, cd, leC, ca, bP, cG, cS, bU, ay, aL, cK, au, cp, a7, a7.viewCs, bH, bH.flatCs, aR, aR.LensOks, Value.oneCell', ↓reduceIte, ite_true, ite_false, if_true, if_false, Nat.reduceAdd, Nat.reduceSub, Nat.reduceMul, Nat.reduceEqDiff, Nat.reduceLT, Nat.reduceLeDiff, reduceCtorEq, Int.reduceToNat, forall_const, implies_true, bm, Ent.mk3, bC, bu, bw, a5, a6, aZ, bK, bB, bI, bJ, bk, cD, bD, cQ, rn, bT, bT.renCs, aT, aU, aN, aN.viewOks, aI, a8, a8.flatBs, aG, ag, aH, ar, aQ, bv, bv.keysBs, aE, am, bp, bS, be, cC, af, af.passKs, aB, aO, ae, ae.lendKs, bV, cq, bW, bq, setInn, ai, cZ, cL, aC, bf, bZ, cc, aD, aP, Glob.gl, av, co, bL, b0, br, aj, bX, cM, cB, cV, bN, ap, ap.ptrOnlys, ak, aK, cz, aM, a4, bA, ce, aF, bh, cF, Nat.reduceBEq, undef]
      try simp
  · have h1' : ¬ (taps.length : Int) ≤ 12 := by omega
    delta c41
    simp (maxSteps := 4000000) -implicitDefEqProofs only [rv41, enc_reg, h1', shortS, h1, Int.cast_ofNat_Int, Int.natCast_one, Int.natCast_zero, Int.reduceAdd, Int.reduceSub, Int.reduceMul, Int.reduceLT, Int.reduceLE, Int.reduceTMod, Int.reduceTDiv, Int.reduceNeg, Int.reduceEq, Nat.reducePow, Int.reducePow, ne_eq, not_false_eq_true, Ent.of0, Ent.of1, Ent.of2, Ent.of3, V, bO, bt, bE, cb, cN, cU, gt, lk, cJ, bQ, cm, cr, bM, cn, cn.subCs, cT, bg, a9, cg, az, a3, bn, aJ, bz, bo, aY, bF, ax, cu, cO, c6, aq, aX, bR, cI, cj, cY, cR, aV, an, bY, bj, zC, argS, bG, cH, cP, cW, ah, aw, aW, aA, cd, leC, ca, bP, cG, cS, bU, ay, aL, cK, au, cp, a7, a7.viewCs, bH, bH.flatCs, aR, aR.LensOks, Value.oneCell', ↓reduceIte, ite_true, ite_false, if_true, if_false, Nat.reduceAdd, Nat.reduceSub, Nat.reduceMul, Nat.reduceEqDiff, Nat.reduceLT, Nat.reduceLeDiff, reduceCtorEq, Int.reduceToNat, forall_const, implies_true, bm, Ent.mk3, bC, bu, bw, a5, a6, aZ, bK, bB, bI, bJ, bk, cD, bD, cQ, rn, bT, bT.renCs, aT, aU, aN, aN.viewOks, aI, a8, a8.flatBs, aG, ag, aH, ar, aQ, bv, bv.keysBs, aE, am, bp, bS, be, cC, af, af.passKs, aB, aO, ae, ae.lendKs, bV, cq, bW, bq, setInn, ai, cZ, cL, aC, bf, bZ, cc, aD, aP, Glob.gl, av, co, bL, b0, br, aj, bX, cM, cB, cV, bN, ap, ap.ptrOnlys, ak, aK, cz, aM, a4, bA, ce, aF, bh, cF, Nat.reduceBEq, undef]
    try simp
def e41 : Ent Try.prog := .of1 41 (fun _ => True) (fun r : Reg => enc (shortS r)) (fun _ => trivial) (fun r _ => short_c r)
theorem CopyReg_c (r : Reg) (h1 : r.taps.length ≤ 1000000) (h2 : r.state.length ≤ 1000000) : FC Try.prog 43 [enc r] [] (enc r) [] := by
  obtain ⟨len, taps, state⟩ := r
  simp only at h1 h2
  refine fc_intro' is43 (by simp) (fun cx hl => S_run [e25] 800 ?_)
  delta c43
  simp (maxSteps := 4000000) -implicitDefEqProofs only [rv43, e25, enc_reg, h1, h2, Ent.of0, Ent.of1, Ent.of2, Ent.of3, V, bO, bt, bE, cb, cN, cU, gt, lk, cJ, bQ, cm, cr, bM, cn, cn.subCs, cT, bg, a9, cg, az, a3, bn, aJ, bz, bo, aY, bF, ax, cu, cO, c6, aq, aX, bR, cI, cj, cY, cR, aV, an, bY, bj, zC, argS, bG, cH, cP, cW, ah, aw, aW, aA, cd, leC, ca, bP, cG, cS, bU, ay, aL, cK, au, cp, a7, a7.viewCs, bH, bH.flatCs, aR, aR.LensOks, Value.oneCell', ↓reduceIte, ite_true, ite_false, if_true, if_false, Nat.reduceAdd, Nat.reduceSub, Nat.reduceMul, Nat.reduceEqDiff, Nat.reduceLT, Nat.reduceLeDiff, reduceCtorEq, Int.reduceToNat, forall_const, implies_true, bm, Ent.mk3, bC, bu, bw, a5, a6, aZ, bK, bB, bI, bJ, bk, cD, bD, cQ, rn, bT, bT.renCs, aT, aU, aN, aN.viewOks, aI, a8, a8.flatBs, aG, ag, aH, ar, aQ, bv, bv.keysBs, aE, am, bp, bS, be, cC, af, af.passKs, aB, aO, ae, ae.lendKs, bV, cq, bW, bq, setInn, ai, cZ, cL, aC, bf, bZ, cc, aD, aP, Glob.gl, av, co, bL, b0, br, aj, bX, cM, cB, cV, bN, ap, ap.ptrOnlys, ak, aK, cz, aM, a4, bA, ce, aF, bh, cF, Nat.reduceBEq, undef]
def e43 : Ent Try.prog := .of1 43 (fun r => r.taps.length ≤ 1000000 ∧ r.state.length ≤ 1000000) (fun r : Reg => enc r) (fun _ => ⟨trivial, trivial, trivial, trivial⟩) (fun r h => CopyReg_c r h.1 h.2)
theorem SameReg_c (a b : Reg) : FC Try.prog 74 [enc a, enc b] [] (enc (decide (a.length = b.length) && decide (a.taps = b.taps) && decide (a.state = b.state))) [] := by
  obtain ⟨al, at', aS'⟩ := a
  obtain ⟨bl, bt', bs'⟩ := b
  refine fc_intro' is74 (by simp) (fun cx hl => S_run [e37] 800 ?_)
  by_cases h1 : al = bl
  · by_cases h2 : at' = bt'
    · delta c74
      simp (maxSteps := 4000000) -implicitDefEqProofs only [rv74, e37, enc_reg, h1, h2, Int.cast_ofNat_Int, Int.natCast_one, Int.natCast_zero, Int.reduceAdd, Int.reduceSub, Int.reduceMul, Int.reduceLT, Int.reduceLE, Int.reduceTMod, Int.reduceTDiv, Int.reduceNeg, Int.reduceEq, Nat.reducePow, Int.reducePow, ne_eq, not_false_eq_true, Ent.of0, Ent.of1, Ent.of2, Ent.of3, V, bO, bt, bE, cb, cN, cU, gt, lk, cJ, bQ, cm, cr, bM, cn, cn.subCs, cT, bg, a9, cg, az, a3, bn, aJ, bz, bo, aY, bF, ax, cu, cO, c6, aq, aX, bR, cI, cj, cY, cR, aV, an, bY, bj, zC, argS, bG, cH, cP, cW, ah, aw, aW, aA, cd, leC, ca, bP, cG, cS, bU, ay, aL, cK, au, cp, a7, a7.viewCs, bH, bH.flatCs, aR, aR.LensOks, Value.oneCell', ↓reduceIte, ite_true, ite_false, if_true, if_false, Nat.reduceAdd, Nat.reduceSub, Nat.reduceMul, Nat.reduceEqDiff, Nat.reduceLT, Nat.reduceLeDiff, reduceCtorEq, Int.reduceToNat, forall_const, implies_true, bm, Ent.mk3, bC, bu, bw, a5, a6, aZ, bK, bB, bI, bJ, bk, cD, bD, cQ, rn, bT, bT.renCs, aT, aU, aN, aN.viewOks, aI, a8, a8.flatBs, aG, ag, aH, ar, aQ, bv, bv.keysBs, aE, am, bp, bS, be, cC, af, af.passKs, aB, aO, ae, ae.lendKs, bV, cq, bW, bq, setInn, ai, cZ, cL, aC, bf, bZ, cc, aD, aP, Glob.gl, av, co, bL, b0, br, aj, bX, cM, cB, cV, bN, ap, ap.ptrOnlys, ak, aK, cz, aM, a4, bA, ce, aF, bh, cF, Nat.reduceBEq, undef]
      try simp
    · delta c74
      simp (maxSteps := 4000000) -implicitDefEqProofs only [rv74, e37, enc_reg, h1, h2, Int.cast_ofNat_Int, Int.natCast_one, Int.natCast_zero, Int.reduceAdd, Int.reduceSub, Int.reduceMul, Int.reduceLT, Int.reduceLE, Int.reduceTMod, Int.reduceTDiv, Int.reduceNeg, Int.reduceEq, Nat.reducePow, Int.reducePow, ne_eq, not_false_eq_true, Ent.of0, Ent.of1, Ent.of2, Ent.of3, V, bO, bt, bE, cb, cN, cU, gt, lk, cJ, bQ, cm, cr, bM, cn, cn.subCs, cT, bg, a9, cg, az, a3, bn, aJ, bz, bo, aY, bF, ax, cu, cO, c6, aq, aX, bR, cI, cj, cY, cR, aV, an, bY, bj, zC, argS, bG, cH, cP, cW, ah, aw, aW, aA, cd, leC, ca, bP, cG, cS, bU, ay, aL, cK, au, cp, a7, a7.viewCs, bH, bH.flatCs, aR, aR.LensOks, Value.oneCell', ↓reduceIte, ite_true, ite_false, if_true, if_false, Nat.reduceAdd, Nat.reduceSub, Nat.reduceMul, Nat.reduceEqDiff, Nat.reduceLT, Nat.reduceLeDiff, reduceCtorEq, Int.reduceToNat, forall_const, implies_true, bm, Ent.mk3, bC, bu, bw, a5, a6, aZ, bK, bB, bI, bJ, bk, cD, bD, cQ, rn, bT, bT.renCs, aT, aU, aN, aN.viewOks, aI, a8, a8.flatBs, aG, ag, aH, ar, aQ, bv, bv.keysBs, aE, am, bp, bS, be, cC, af, af.passKs, aB, aO, ae, ae.lendKs, bV, cq, bW, bq, setInn, ai, cZ, cL, aC, bf, bZ, cc, aD, aP, Glob.gl, av, co, bL, b0, br, aj, bX, cM, cB, cV, bN, ap, ap.ptrOnlys, ak, aK, cz, aM, a4, bA, ce, aF, bh, cF, Nat.reduceBEq, undef]
      try simp
  · delta c74
    simp (maxSteps := 4000000) -implicitDefEqProofs only [rv74, e37, enc_reg, h1, Int.cast_ofNat_Int, Int.natCast_one, Int.natCast_zero, Int.reduceAdd, Int.reduceSub, Int.reduceMul, Int.reduceLT, Int.reduceLE, Int.reduceTMod, Int.reduceTDiv, Int.reduceNeg, Int.reduceEq, Nat.reducePow, Int.reducePow, ne_eq, not_false_eq_true, Ent.of0, Ent.of1, Ent.of2, Ent.of3, V, bO, bt, bE, cb, cN, cU, gt, lk, cJ, bQ, cm, cr, bM, cn, cn.subCs, cT, bg, a9, cg, az, a3, bn, aJ, bz, bo, aY, bF, ax, cu, cO, c6, aq, aX, bR, cI, cj, cY, cR, aV, an, bY, bj, zC, argS, bG, cH, cP, cW, ah, aw, aW, aA, cd, leC, ca, bP, cG, cS, bU, ay, aL, cK, au, cp, a7, a7.viewCs, bH, bH.flatCs, aR, aR.LensOks, Value.oneCell', ↓reduceIte, ite_true, ite_false, if_true, if_false, Nat.reduceAdd, Nat.reduceSub, Nat.reduceMul, Nat.reduceEqDiff, Nat.reduceLT, Nat.reduceLeDiff, reduceCtorEq, Int.reduceToNat, forall_const, implies_true, bm, Ent.mk3, bC, bu, bw, a5, a6, aZ, bK, bB, bI, bJ, bk, cD, bD, cQ, rn, bT, bT.renCs, aT, aU, aN, aN.viewOks, aI, a8, a8.flatBs, aG, ag, aH, ar, aQ, bv, bv.keysBs, aE, am, bp, bS, be, cC, af, af.passKs, aB, aO, ae, ae.lendKs, bV, cq, bW, bq, setInn, ai, cZ, cL, aC, bf, bZ, cc, aD, aP, Glob.gl, av, co, bL, b0, br, aj, bX, cM, cB, cV, bN, ap, ap.ptrOnlys, ak, aK, cz, aM, a4, bA, ce, aF, bh, cF, Nat.reduceBEq, undef]
    try simp
theorem sameReg_eq (a b : Reg) : (decide (a.length = b.length) && decide (a.taps = b.taps) && decide (a.state = b.state)) = true ↔ a = b := by
  cases a; cases b; simp [and_assoc]
instance : DecidableEq Reg := fun a b => decidable_of_iff _ (sameReg_eq a b)
theorem SameReg_c' (a b : Reg) : FC Try.prog 74 [enc a, enc b] [] (enc (decide (a = b))) [] := by
  have h := SameReg_c a b
  have e : (decide (a.length = b.length) && decide (a.taps = b.taps) && decide (a.state = b.state)) = decide (a = b) := by
    rw [Bool.eq_iff_iff, sameReg_eq]; simp
  rwa [e] at h
def e74 : Ent Try.prog := .of2 74 (fun _ _ => True) (fun a b : Reg => enc (decide (a = b))) (fun _ _ => trivial) (fun a b _ => SameReg_c' a b)
theorem RCheck_c (r : Reg) : FC Try.prog 44 [enc r] [] (enc (regErr r)) [] := by
  obtain ⟨len, taps, state⟩ := r
  refine fc_intro' is44 (by simp) (fun cx hl => S_run [e32] 800 ?_)
  simp only [enc_reg, V, bO, bt, bE, cb, cN, cU, gt, lk, cJ, bQ, cm, cr, bM, cn, cn.subCs, cT, bg, a9, cg, az, a3, bn, aJ, bz, bo, aY, bF, ax, cu, cO, c6, aq, aX, bR, cI, cj, cY, cR, aV, an, bY, bj, zC, argS, bG, cH, cP, cW, ah, aw, aW, aA, cd, leC, ca, bP, cG, cS, bU, ay, aL, cK, au, cp, a7, a7.viewCs, bH, bH.flatCs, aR, aR.LensOks, Value.oneCell', ↓reduceIte, ite_true, ite_false, if_true, if_false, Nat.reduceAdd, Nat.reduceSub, Nat.reduceMul, Nat.reduceEqDiff, Nat.reduceLT, Nat.reduceLeDiff, reduceCtorEq, Int.reduceToNat, forall_const, implies_true, bm, Ent.mk3, bC, bu, bw, a5, a6, aZ, bK, bB, bI, bJ, bk, cD, bD, cQ, rn, bT, bT.renCs, aT, aU, aN, aN.viewOks, aI, a8, a8.flatBs, aG, ag, aH, ar, aQ, bv, bv.keysBs, aE, am, bp, bS, be, cC, af, af.passKs, aB, aO, ae, ae.lendKs, bV, cq, bW, bq, setInn, ai, cZ, cL, aC, bf, bZ, cc, aD, aP, Glob.gl, av, co, bL, b0, br, aj, bX, cM, cB, cV, bN, ap, ap.ptrOnlys, ak, aK, cz, aM, a4, bA, ce, aF, bh, cF, Nat.reduceBEq, undef] at hl
  have hlen := hl.1.list
  by_cases h0 : 2 ≤ len ∧ len ≤ 10
  rotate_left
  · have hr : regErr ⟨len, taps, state⟩ = 2 := by unfold regErr; rw [if_pos h0]
    rw [hr]
    delta c44
    simp (maxSteps := 4000000) -implicitDefEqProofs only [rv44, e32, enc_reg, h0, Int.cast_ofNat_Int, Int.natCast_one, Int.natCast_zero, Int.reduceAdd, Int.reduceSub, Int.reduceMul, Int.reduceLT, Int.reduceLE, Int.reduceTMod, Int.reduceTDiv, Int.reduceNeg, Int.reduceEq, Nat.reducePow, Int.reducePow, ne_eq, not_false_eq_true, Ent.of0, Ent.of1, Ent.of2, Ent.of3, V, bO, bt, bE, cb, cN, cU, gt, lk, cJ, bQ, cm, cr, bM, cn, cn.subCs, cT, bg, a9, cg, az, a3, bn, aJ, bz, bo, aY, bF, ax, cu, cO, c6, aq, aX, bR, cI, cj, cY, cR, aV, an, bY, bj, zC, argS, bG, cH, cP, cW, ah, aw, aW, aA, cd, leC, ca, bP, cG, cS, bU, ay, aL, cK, au, cp, a7, a7.viewCs, bH, bH.flatCs, aR, aR.LensOks, Value.oneCell', ↓reduceIte, ite_true, ite_false, if_true, if_false, Nat.reduceAdd, Nat.reduceSub, Nat.reduceMul, Nat.reduceEqDiff, Nat.reduceLT, Nat.reduceLeDiff, reduceCtorEq, Int.reduceToNat, forall_const, implies_true, bm, Ent.mk3, bC, bu, bw, a5, a6, aZ, bK, bB, bI, bJ, bk, cD, bD, cQ, rn, bT, bT.renCs, aT, aU, aN, aN.viewOks, aI, a8, a8.flatBs, aG, ag, aH, ar, aQ, bv, bv.keysBs, aE, am, bp, bS, be, cC, af, af.passKs, aB, aO, ae, ae.lendKs, bV, cq, bW, bq, setInn, ai, cZ, cL, aC, bf, bZ, cc, aD, aP, Glob.gl, av, co, bL, b0, br, aj, bX, cM, cB, cV, bN, ap, ap.ptrOnlys, ak, aK, cz, aM, a4, bA, ce, aF, bh, cF, Nat.reduceBEq, undef]
  by_cases h1 : taps.length = 0
  · have hr : regErr ⟨len, taps, state⟩ = 10 := by unfold regErr; rw [if_neg (fun h => h h0), if_pos h1]
    have h1' : (taps.length : Int) = 0 := by omega
    rw [hr]
    delta c44
    simp (maxSteps := 4000000) -implicitDefEqProofs only [rv44, e32, enc_reg, h0, h1', Int.cast_ofNat_Int, Int.natCast_one, Int.natCast_zero, Int.reduceAdd, Int.reduceSub, Int.reduceMul, Int.reduceLT, Int.reduceLE, Int.reduceTMod, Int.reduceTDiv, Int.reduceNeg, Int.reduceEq, Nat.reducePow, Int.reducePow, ne_eq, not_false_eq_true, Ent.of0, Ent.of1, Ent.of2, Ent.of3, V, bO, bt, bE, cb, cN, cU, gt, lk, cJ, bQ, cm, cr, bM, cn, cn.subCs, cT, bg, a9, cg, az, a3, bn, aJ, bz, bo, aY, bF, ax, cu, cO, c6, aq, aX, bR, cI, cj, cY, cR, aV, an, bY, bj, zC, argS, bG, cH, cP, cW, ah, aw, aW, aA, cd, leC, ca, bP, cG, cS, bU, ay, aL, cK, au, cp, a7, a7.viewCs, bH, bH.flatCs, aR, aR.LensOks, Value.oneCell', ↓reduceIte, ite_true, ite_false, if_true, if_false, Nat.reduceAdd, Nat.reduceSub, Nat.reduceMul, Nat.reduceEqDiff, Nat.reduceLT, Nat.reduceLeDiff, reduceCtorEq, Int.reduceToNat, forall_const, implies_true, bm, Ent.mk3, bC, bu, bw, a5, a6, aZ, bK, bB, bI, bJ, bk, cD, bD, cQ, rn, bT, bT.renCs, aT, aU, aN, aN.viewOks, aI, a8, a8.flatBs, aG, ag, aH, ar, aQ, bv, bv.keysBs, aE, am, bp, bS, be, cC, af, af.passKs, aB, aO, ae, ae.lendKs, bV, cq, bW, bq, setInn, ai, cZ, cL, aC, bf, bZ, cc, aD, aP, Glob.gl, av, co, bL, b0, br, aj, bX, cM, cB, cV, bN, ap, ap.ptrOnlys, ak, aK, cz, aM, a4, bA, ce, aF, bh, cF, Nat.reduceBEq, undef]
  have h1' : ¬ (taps.length : Int) = 0 := by omega
  have hr : regErr ⟨len, taps, state⟩ = if tapsErr len (-1) taps ≠ 0 then tapsErr len (-1) taps else if taps.getD 0 0 ≠ 0 then 3 else if (state.length : Int) ≠ len then 10 else if state.all isBit then 0 else 15 := by
    unfold regErr
    simp only
    rw [if_neg (fun h => h h0), if_neg h1]
  rw [hr]
  delta c44
  simp (maxSteps := 4000000) -implicitDefEqProofs only [rv44, e32, enc_reg, h0, h1', Int.cast_ofNat_Int, Int.natCast_one, Int.natCast_zero, Int.reduceAdd, Int.reduceSub, Int.reduceMul, Int.reduceLT, Int.reduceLE, Int.reduceTMod, Int.reduceTDiv, Int.reduceNeg, Int.reduceEq, Nat.reducePow, Int.reducePow, ne_eq, not_false_eq_true, Ent.of0, Ent.of1, Ent.of2, Ent.of3, V, bO, bt, bE, cb, cN, cU, gt, lk, cJ, bQ, cm, cr, bM, cn, cn.subCs, cT, bg, a9, cg, az, a3, bn, aJ, bz, bo, aY, bF, ax, cu, cO, c6, aq, aX, bR, cI, cj, cY, cR, aV, an, bY, bj, zC, argS, bG, cH, cP, cW, ah, aw, aW, aA, cd, leC, ca, bP, cG, cS, bU, ay, aL, cK, au, cp, a7, a7.viewCs, bH, bH.flatCs, aR, aR.LensOks, Value.oneCell', ↓reduceIte, ite_true, ite_false, if_true, if_false, Nat.reduceAdd, Nat.reduceSub, Nat.reduceMul, Nat.reduceEqDiff, Nat.reduceLT, Nat.reduceLeDiff, reduceCtorEq, Int.reduceToNat, forall_const, implies_true, bm, Ent.mk3, bC, bu, bw, a5, a6, aZ, bK, bB, bI, bJ, bk, cD, bD, cQ, rn, bT, bT.renCs, aT, aU, aN, aN.viewOks, aI, a8, a8.flatBs, aG, ag, aH, ar, aQ, bv, bv.keysBs, aE, am, bp, bS, be, cC, af, af.passKs, aB, aO, ae, ae.lendKs, bV, cq, bW, bq, setInn, ai, cZ, cL, aC, bf, bZ, cc, aD, aP, Glob.gl, av, co, bL, b0, br, aj, bX, cM, cB, cV, bN, ap, ap.ptrOnlys, ak, aK, cz, aM, a4, bA, ce, aF, bh, cF, Nat.reduceBEq, undef]
  refine S_forU taps.length (fun i => [(3, .s (.int .i64 (i : Int)))]) (fun _ => []) (fun i => tapsErr len (-1) taps = tapsErr len (if i = 0 then -1 else taps.getD (i - 1) 0) (taps.drop i)) (by simp) ?_ (fun i hi hv => S_run [e32, e102] 800 ?_)
  · simp (maxSteps := 4000000) -implicitDefEqProofs only [Ent.of0, Ent.of1, Ent.of2, Ent.of3, V, bO, bt, bE, cb, cN, cU, gt, lk, cJ, bQ, cm, cr, bM, cn, cn.subCs, cT, bg, a9, cg, az, a3, bn, aJ, bz, bo, aY, bF, ax, cu, cO, c6, aq, aX, bR, cI, cj, cY, cR, aV, an, bY, bj, zC, argS, bG, cH, cP, cW, ah, aw, aW, aA, cd, leC, ca, bP, cG, cS, bU, ay, aL, cK, au, cp, a7, a7.viewCs, bH, bH.flatCs, aR, aR.LensOks, Value.oneCell', ↓reduceIte, ite_true, ite_false, if_true, if_false, Nat.reduceAdd, Nat.reduceSub, Nat.reduceMul, Nat.reduceEqDiff, Nat.reduceLT, Nat.reduceLeDiff, reduceCtorEq, Int.reduceToNat, forall_const, implies_true, bm, Ent.mk3, bC, bu, bw, a5, a6, aZ, bK, bB, bI, bJ, bk, cD, bD, cQ, rn, bT, bT.renCs, aT, aU, aN, aN.viewOks, aI, a8, a8.flatBs, aG, ag, aH, ar, aQ, bv, bv.keysBs, aE, am, bp, bS, be, cC, af, af.passKs, aB, aO, ae, ae.lendKs, bV, cq, bW, bq, setInn, ai, cZ, cL, aC, bf, bZ, cc, aD, aP, Glob.gl, av, co, bL, b0, br, aj, bX, cM, cB, cV, bN, ap, ap.ptrOnlys, ak, aK, cz, aM, a4, bA, ce, aF, bh, cF, Nat.reduceBEq, undef]; simp
  · by_cases h : i < taps.length
    · have hi2 : (i : Int) < (taps.length : Int) := by omega
      rw [drop_getD 0 h, tapsErr] at hv
      have hnext : (if i + 1 = 0 then (-1 : Int) else taps.getD (i + 1 - 1) 0) = taps.getD i 0 := by rw [if_neg (by omega), Nat.add_sub_cancel]
      by_cases ht : 0 ≤ taps.getD i 0 ∧ taps.getD i 0 ≤ len - 1
      rotate_left
      · rw [if_pos ht] at hv
        delta c44l1
        simp (maxSteps := 4000000) -implicitDefEqProofs only [rv44, e32, hi2, h, ht, hv, InR, Int.cast_ofNat_Int, Int.natCast_one, Int.natCast_zero, Int.reduceAdd, Int.reduceSub, Int.reduceMul, Int.reduceLT, Int.reduceLE, Int.reduceTMod, Int.reduceTDiv, Int.reduceNeg, Int.reduceEq, Nat.reducePow, Int.reducePow, ne_eq, not_false_eq_true, Ent.of0, Ent.of1, Ent.of2, Ent.of3, V, bO, bt, bE, cb, cN, cU, gt, lk, cJ, bQ, cm, cr, bM, cn, cn.subCs, cT, bg, a9, cg, az, a3, bn, aJ, bz, bo, aY, bF, ax, cu, cO, c6, aq, aX, bR, cI, cj, cY, cR, aV, an, bY, bj, zC, argS, bG, cH, cP, cW, ah, aw, aW, aA, cd, leC, ca, bP, cG, cS, bU, ay, aL, cK, au, cp, a7, a7.viewCs, bH, bH.flatCs, aR, aR.LensOks, Value.oneCell', ↓reduceIte, ite_true, ite_false, if_true, if_false, Nat.reduceAdd, Nat.reduceSub, Nat.reduceMul, Nat.reduceEqDiff, Nat.reduceLT, Nat.reduceLeDiff, reduceCtorEq, Int.reduceToNat, forall_const, implies_true, bm, Ent.mk3, bC, bu, bw, a5, a6, aZ, bK, bB, bI, bJ, bk, cD, bD, cQ, rn, bT, bT.renCs, aT, aU, aN, aN.viewOks, aI, a8, a8.flatBs, aG, ag, aH, ar, aQ, bv, bv.keysBs, aE, am, bp, bS, be, cC, af, af.passKs, aB, aO, ae, ae.lendKs, bV, cq, bW, bq, setInn, ai, cZ, cL, aC, bf, bZ, cc, aD, aP, Glob.gl, av, co, bL, b0, br, aj, bX, cM, cB, cV, bN, ap, ap.ptrOnlys, ak, aK, cz, aM, a4, bA, ce, aF, bh, cF, Nat.reduceBEq, undef]
        try omega
      rw [if_neg (fun h => h ht)] at hv
      by_cases hi0 : i = 0
      · subst hi0
        rw [if_pos rfl, if_neg (fun h => h (by omega))] at hv
        have hz : (0 : Int) < (taps.length : Int) := by omega
        delta c44l1
        simp (maxSteps := 4000000) -implicitDefEqProofs only [rv44, e32, hi2, h, ht, hz, InR, Int.cast_ofNat_Int, Int.natCast_one, Int.natCast_zero, Int.reduceAdd, Int.reduceSub, Int.reduceMul, Int.reduceLT, Int.reduceLE, Int.reduceTMod, Int.reduceTDiv, Int.reduceNeg, Int.reduceEq, Nat.reducePow, Int.reducePow, ne_eq, not_false_eq_true, Ent.of0, Ent.of1, Ent.of2, Ent.of3, V, bO, bt, bE, cb, cN, cU, gt, lk, cJ, bQ, cm, cr, bM, cn, cn.subCs, cT, bg, a9, cg, az, a3, bn, aJ, bz, bo, aY, bF, ax, cu, cO, c6, aq, aX, bR, cI, cj, cY, cR, aV, an, bY, bj, zC, argS, bG, cH, cP, cW, ah, aw, aW, aA, cd, leC, ca, bP, cG, cS, bU, ay, aL, cK, au, cp, a7, a7.viewCs, bH, bH.flatCs, aR, aR.LensOks, Value.oneCell', ↓reduceIte, ite_true, ite_false, if_true, if_false, Nat.reduceAdd, Nat.reduceSub, Nat.reduceMul, Nat.reduceEqDiff, Nat.reduceLT, Nat.reduceLeDiff, reduceCtorEq, Int.reduceToNat, forall_const, implies_true, bm, Ent.mk3, bC, bu, bw, a5, a6, aZ, bK, bB, bI, bJ, bk, cD, bD, cQ, rn, bT, bT.renCs, aT, aU, aN, aN.viewOks, aI, a8, a8.flatBs, aG, ag, aH, ar, aQ, bv, bv.keysBs, aE, am, bp, bS, be, cC, af, af.passKs, aB, aO, ae, ae.lendKs, bV, cq, bW, bq, setInn, ai, cZ, cL, aC, bf, bZ, cc, aD, aP, Glob.gl, av, co, bL, b0, br, aj, bX, cM, cB, cV, bN, ap, ap.ptrOnlys, ak, aK, cz, aM, a4, bA, ce, aF, bh, cF, Nat.reduceBEq, undef]
        and_intros <;> first | omega | exact hv
      · rw [if_neg hi0] at hv
        have hz : (i : Int) > 0 := by omega
        have hz2 : (i : Int) - 1 = ((i - 1 : Nat) : Int) := by omega
        have hz3 : ((i - 1 : Nat) : Int) < (taps.length : Int) := by omega
        have hz4 : i - 1 < taps.length := by omega
        by_cases hlt : taps.getD (i - 1) 0 < taps.getD i 0
        · have hle : ¬ taps.getD i 0 ≤ taps.getD (i - 1) 0 := by omega
          rw [if_neg (fun h => h hlt)] at hv
          delta c44l1
          simp (maxSteps := 4000000) -implicitDefEqProofs only [rv44, e32, hi2, h, ht, hz, hz2, hz3, hz4, hle, Int.toNat_natCast, InR, Int.cast_ofNat_Int, Int.natCast_one, Int.natCast_zero, Int.reduceAdd, Int.reduceSub, Int.reduceMul, Int.reduceLT, Int.reduceLE, Int.reduceTMod, Int.reduceTDiv, Int.reduceNeg, Int.reduceEq, Nat.reducePow, Int.reducePow, ne_eq, not_false_eq_true, Ent.of0, Ent.of1, Ent.of2, Ent.of3, V, bO, bt, bE, cb, cN, cU, gt, lk, cJ, bQ, cm, cr, bM, cn, cn.subCs, cT, bg, a9, cg, az, a3, bn, aJ, bz, bo, aY, bF, ax, cu, cO, c6, aq, aX, bR, cI, cj, cY, cR, aV, an, bY, bj, zC, argS, bG, cH, cP, cW, ah, aw, aW, aA, cd, leC, ca, bP, cG, cS, bU, ay, aL, cK, au, cp, a7, a7.viewCs, bH, bH.flatCs, aR, aR.LensOks, Value.oneCell', ↓reduceIte, ite_true, ite_false, if_true, if_false, Nat.reduceAdd, Nat.reduceSub, Nat.reduceMul, Nat.reduceEqDiff, Nat.reduceLT, Nat.reduceLeDiff, reduceCtorEq, Int.reduceToNat, forall_const, implies_true, bm, Ent.mk3, bC, bu, bw, a5, a6, aZ, bK, bB, bI, bJ, bk, cD, bD, cQ, rn, bT, bT.renCs, aT, aU, aN, aN.viewOks, aI, a8, a8.flatBs, aG, ag, aH, ar, aQ, bv, bv.keysBs, aE, am, bp, bS, be, cC, af, af.passKs, aB, aO, ae, ae.lendKs, bV, cq, bW, bq, setInn, ai, cZ, cL, aC, bf, bZ, cc, aD, aP, Glob.gl, av, co, bL, b0, br, aj, bX, cM, cB, cV, bN, ap, ap.ptrOnlys, ak, aK, cz, aM, a4, bA, ce, aF, bh, cF, Nat.reduceBEq, undef]
          and_intros <;> first | omega | exact hv
        · have hle : taps.getD i 0 ≤ taps.getD (i - 1) 0 := by omega
          rw [if_pos hlt] at hv
          delta c44l1
          simp (maxSteps := 4000000) -implicitDefEqProofs only [rv44, e32, hi2, h, ht, hz, hz2, hz3, hz4, hle, hv, Int.toNat_natCast, InR, Int.cast_ofNat_Int, Int.natCast_one, Int.natCast_zero, Int.reduceAdd, Int.reduceSub, Int.reduceMul, Int.reduceLT, Int.reduceLE, Int.reduceTMod, Int.reduceTDiv, Int.reduceNeg, Int.reduceEq, Nat.reducePow, Int.reducePow, ne_eq, not_false_eq_true, Ent.of0, Ent.of1, Ent.of2, Ent.of3, V, bO, bt, bE, cb, cN, cU, gt, lk, cJ, bQ, cm, cr, bM, cn, cn.subCs, cT, bg, a9, cg, az, a3, bn, aJ, bz, bo, aY, bF, ax, cu, cO, c6, aq, aX, bR, cI, cj, cY, cR, aV, an, bY, bj, zC, argS, bG, cH, cP, cW, ah, aw, aW, aA, cd, leC, ca, bP, cG, cS, bU, ay, aL, cK, au, cp, a7, a7.viewCs, bH, bH.flatCs, aR, aR.LensOks, Value.oneCell', ↓reduceIte, ite_true, ite_false, if_true, if_false, Nat.reduceAdd, Nat.reduceSub, Nat.reduceMul, Nat.reduceEqDiff, Nat.reduceLT, Nat.reduceLeDiff, reduceCtorEq, Int.reduceToNat, forall_const, implies_true, bm, Ent.mk3, bC, bu, bw, a5, a6, aZ, bK, bB, bI, bJ, bk, cD, bD, cQ, rn, bT, bT.renCs, aT, aU, aN, aN.viewOks, aI, a8, a8.flatBs, aG, ag, aH, ar, aQ, bv, bv.keysBs, aE, am, bp, bS, be, cC, af, af.passKs, aB, aO, ae, ae.lendKs, bV, cq, bW, bq, setInn, ai, cZ, cL, aC, bf, bZ, cc, aD, aP, Glob.gl, av, co, bL, b0, br, aj, bX, cM, cB, cV, bN, ap, ap.ptrOnlys, ak, aK, cz, aM, a4, bA, ce, aF, bh, cF, Nat.reduceBEq, undef]
          try omega
    · have hie : i = taps.length := by omega
      have hi2 : ¬ (i : Int) < (taps.length : Int) := by omega
      have h0t : (0 : Int) < (taps.length : Int) := by omega
      have h0t' : 0 < taps.length := by omega
      rw [List.drop_eq_nil_of_le (by omega), tapsErr] at hv
      have hbit : (state.all fun b => decide (b = 0 ∨ b = 1)) = state.all isBit := by congr 1; funext b; unfold isBit; grind
      rw [hv]
      by_cases hA : taps.getD 0 0 = 0
      · by_cases hB : (state.length : Int) = len
        · cases hC : state.all isBit with
          | true =>
            rw [hC] at hbit
            delta c44l1
            simp (maxSteps := 4000000) -implicitDefEqProofs only [rv44, e32, e102, hi2, h0t, h0t', hA, hB, hbit, InR, Int.cast_ofNat_Int, Int.natCast_one, Int.natCast_zero, Int.reduceAdd, Int.reduceSub, Int.reduceMul, Int.reduceLT, Int.reduceLE, Int.reduceTMod, Int.reduceTDiv, Int.reduceNeg, Int.reduceEq, Nat.reducePow, Int.reducePow, ne_eq, not_false_eq_true, Ent.of0, Ent.of1, Ent.of2, Ent.of3, V, bO, bt, bE, cb, cN, cU, gt, lk, cJ, bQ, cm, cr, bM, cn, cn.subCs, cT, bg, a9, cg, az, a3, bn, aJ, bz, bo, aY, bF, ax, cu, cO, c6, aq, aX, bR, cI, cj, cY, cR, aV, an, bY, bj, zC, argS, bG, cH, cP, cW, ah, aw, aW, aA, cd, leC, ca, bP, cG, cS, bU, ay, aL, cK, au, cp, a7, a7.viewCs, bH, bH.flatCs, aR, aR.LensOks, Value.oneCell', ↓reduceIte, ite_true, ite_false, if_true, if_false, Nat.reduceAdd, Nat.reduceSub, Nat.reduceMul, Nat.reduceEqDiff, Nat.reduceLT, Nat.reduceLeDiff, reduceCtorEq, Int.reduceToNat, forall_const, implies_true, bm, Ent.mk3, bC, bu, bw, a5, a6, aZ, bK, bB, bI, bJ, bk, cD, bD, cQ, rn, bT, bT.renCs, aT, aU, aN, aN.viewOks, aI, a8, a8.flatBs, aG, ag, aH, ar, aQ, bv, bv.keysBs, aE, am, bp, bS, be, cC, af, af.passKs, aB, aO, ae, ae.lendKs, bV, cq, bW, bq, setInn, ai, cZ, cL, aC, bf, bZ, cc, aD, aP, Glob.gl, av, co, bL, b0, br, aj, bX, cM, cB, cV, bN, ap, ap.ptrOnlys, ak, aK, cz, aM, a4, bA, ce, aF, bh, cF, Nat.reduceBEq, undef]
            try simp [hA, hB]
          | false =>
            rw [hC] at hbit
            delta c44l1
            simp (maxSteps := 4000000) -implicitDefEqProofs only [rv44, e32, e102, hi2, h0t, h0t', hA, hB, hbit, InR, Int.cast_ofNat_Int, Int.natCast_one, Int.natCast_zero, Int.reduceAdd, Int.reduceSub, Int.reduceMul, Int.reduceLT, Int.reduceLE, Int.reduceTMod, Int.reduceTDiv, Int.reduceNeg, Int.reduceEq, Nat.reducePow, Int.reducePow, ne_eq, not_false_eq_true, Ent.of0, Ent.of1, Ent.of2, Ent.of3, V, bO, bt, bE, cb, cN, cU, gt, lk, cJ, bQ, cm, cr, bM, cn, cn.subCs, cT, bg, a9, cg, az, a3, bn, aJ, bz, bo, aY, bF, ax, cu, cO, c6, aq, aX, bR, cI, cj, cY, cR, aV, an, bY, bj, zC, argS, bG, cH, cP, cW, ah, aw, aW, aA, cd, leC, ca, bP, cG, cS, bU, ay, aL, cK, au, cp, a7, a7.viewCs, bH, bH.flatCs, aR, aR.LensOks, Value.oneCell', ↓reduceIte, ite_true, ite_false, if_true, if_false, Nat.reduceAdd, Nat.reduceSub, Nat.reduceMul, Nat.reduceEqDiff, Nat.reduceLT, Nat.reduceLeDiff, reduceCtorEq, Int.reduceToNat, forall_const, implies_true, bm, Ent.mk3, bC, bu, bw, a5, a6, aZ, bK, bB, bI, bJ, bk, cD, bD, cQ, rn, bT, bT.renCs, aT, aU, aN, aN.viewOks, aI, a8, a8.flatBs, aG, ag, aH, ar, aQ, bv, bv.keysBs, aE, am, bp, bS, be, cC, af, af.passKs, aB, aO, ae, ae.lendKs, bV, cq, bW, bq, setInn, ai, cZ, cL, aC, bf, bZ, cc, aD, aP, Glob.gl, av, co, bL, b0, br, aj, bX, cM, cB, cV, bN, ap, ap.ptrOnlys, ak, aK, cz, aM, a4, bA, ce, aF, bh, cF, Nat.reduceBEq, undef]
            try simp [hA, hB]
        · delta c44l1
          simp (maxSteps := 4000000) -implicitDefEqProofs only [rv44, e32, e102, hi2, h0t, h0t', hA, hB, InR, Int.cast_ofNat_Int, Int.natCast_one, Int.natCast_zero, Int.reduceAdd, Int.reduceSub, Int.reduceMul, Int.reduceLT, Int.reduceLE, Int.reduceTMod, Int.reduceTDiv, Int.reduceNeg, Int.reduceEq, Nat.reducePow, Int.reducePow, ne_eq, not_false_eq_true, Ent.of0, Ent.of1, Ent.of2, Ent.of3, V, bO, bt, bE, cb, cN, cU, gt, lk, cJ, bQ, cm, cr, bM, cn, cn.subCs, cT, bg, a9, cg, az, a3, bn, aJ, bz, bo, aY, bF, ax, cu, cO, c6, aq, aX, bR, cI, cj, cY, cR, aV, an, bY, bj, zC, argS, bG, cH, cP, cW, ah, aw, aW, aA, cd, leC, ca, bP, cG, cS, bU, ay, aL, cK, au, cp, a7, a7.viewCs, bH, bH.flatCs, aR, aR.LensOks, Value.oneCell', ↓reduceIte, ite_true, ite_false, if_true, if_false, Nat.reduceAdd, Nat.reduceSub, Nat.reduceMul, Nat.reduceEqDiff, Nat.reduceLT, Nat.reduceLeDiff, reduceCtorEq, Int.reduceToNat, forall_const, implies_true, bm, Ent.mk3, bC, bu, bw, a5, a6, aZ, bK, bB, bI, bJ, bk, cD, bD, cQ, rn, bT, bT.renCs, aT, aU, aN, aN.viewOks, aI, a8, a8.flatBs, aG, ag, aH, ar, aQ, bv, bv.keysBs, aE, am, bp, bS, be, cC, af, af.passKs, aB, aO, ae, ae.lendKs, bV, cq, bW, bq, setInn, ai, cZ, cL, aC, bf, bZ, cc, aD, aP, Glob.gl, av, co, bL, b0, br, aj, bX, cM, cB, cV, bN, ap, ap.ptrOnlys, ak, aK, cz, aM, a4, bA, ce, aF, bh, cF, Nat.reduceBEq, undef]
          try simp [hA, hB]
      · delta c44l1
        simp (maxSteps := 4000000) -implicitDefEqProofs only [rv44, e32, e102, hi2, h0t, h0t', hA, InR, Int.cast_ofNat_Int, Int.natCast_one, Int.natCast_zero, Int.reduceAdd, Int.reduceSub, Int.reduceMul, Int.reduceLT, Int.reduceLE, Int.reduceTMod, Int.reduceTDiv, Int.reduceNeg, Int.reduceEq, Nat.reducePow, Int.reducePow, ne_eq, not_false_eq_true, Ent.of0, Ent.of1, Ent.of2, Ent.of3, V, bO, bt, bE, cb, cN, cU, gt, lk, cJ, bQ, cm, cr, bM, cn, cn.subCs, cT, bg, a9, cg, az, a3, bn, aJ, bz, bo, aY, bF, ax, cu, cO, c6, aq, aX, bR, cI, cj, cY, cR, aV, an, bY, bj, zC, argS, bG, cH, cP, cW, ah, aw, aW, aA, cd, leC, ca, bP, cG, cS, bU, ay, aL, cK, au, cp, a7, a7.viewCs, bH, bH.flatCs, aR, aR.LensOks, Value.oneCell', ↓reduceIte, ite_true, ite_false, if_true, if_false, Nat.reduceAdd, Nat.reduceSub, Nat.reduceMul, Nat.reduceEqDiff, Nat.reduceLT, Nat.reduceLeDiff, reduceCtorEq, Int.reduceToNat, forall_const, implies_true, bm, Ent.mk3, bC, bu, bw, a5, a6, aZ, bK, bB, bI, bJ, bk, cD, bD, cQ, rn, bT, bT.renCs, aT, aU, aN, aN.viewOks, aI, a8, a8.flatBs, aG, ag, aH, ar, aQ, bv, bv.keysBs, aE, am, bp, bS, be, cC, af, af.passKs, aB, aO, ae, ae.lendKs, bV, cq, bW, bq, setInn, ai, cZ, cL, aC, bf, bZ, cc, aD, aP, Glob.gl, av, co, bL, b0, br, aj, bX, cM, cB, cV, bN, ap, ap.ptrOnlys, ak, aK, cz, aM, a4, bA, ce, aF, bh, cF, Nat.reduceBEq, undef]
        try simp [hA]
def e44 : Ent Try.prog := .of1 44 (fun _ => True) (fun r : Reg => enc (regErr r)) (fun _ => trivial) (fun r _ => RCheck_c r)
end Go.Proofs.Ytfgpbmjmoobcnaa
end
section
open Go Go.Am
open Go.Am.Dat (cells)
namespace Go.Proofs.Ytfgpbmjmoobcnaa
set_option maxHeartbeats 4000000
set_option maxRecDepth 100000
set_option linter.unusedSimpArgs false
set_option linter.unusedVariables false
def sumT (s ts : List Int) : Nat → Int
  | 0 => 0
  | i + 1 => sumT s ts i + s.getD (ts.getD i 0).toNat 0
def nextR (r : Reg) : Reg := ⟨r.length, r.taps, r.state.drop 1 ++ [sumT r.state r.taps r.taps.length % 2]⟩
theorem inc_len : ∀ (l : List Int) (lo hi : Int), l.Pairwise (· < ·) → (∀ t ∈ l, lo ≤ t ∧ t ≤ hi) → lo ≤ hi + 1 → (l.length : Int) ≤ hi + 1 - lo
  | [], lo, hi, _, _, h => by simp; omega
  | t :: l, lo, hi, hp, h, _ => by
    have h1 := List.pairwise_cons.1 hp
    have ht := h t List.mem_cons_self
    have := inc_len l (t + 1) hi h1.2 (fun x hx => ⟨by have := h1.1 x hx; omega, (h x (List.mem_cons_of_mem _ hx)).2⟩) (by omega)
    simp only [List.length_cons]
    omega
theorem RegOk.tl {r : Reg} (h : RegOk r) : r.taps.length ≤ 10 := by
  have := inc_len r.taps 0 9 h.inc (fun t ht => by have := h.taps t ht; have := h.len; omega) (by omega)
  omega
theorem sumT_mod (s ts : List Int) (n : Nat) : sumT s ts n % 2 = 0 ∨ sumT s ts n % 2 = 1 := by omega
theorem nextR_ok {r : Reg} (h : RegOk r) : RegOk (nextR r) := by
  have hl := h.len
  have hs := h.stl
  refine ⟨h.len, h.ne, h.taps, h.inc, h.zero, ?_, fun b hb => ?_⟩
  · show ((r.state.drop 1 ++ [sumT r.state r.taps r.taps.length % 2]).length : Int) = r.length
    rw [List.length_append, List.length_drop, List.length_singleton]
    omega
  · simp only [nextR, List.mem_append, List.mem_singleton] at hb
    rcases hb with hb | rfl
    · exact h.bits b (List.mem_of_mem_drop hb)
    · exact sumT_mod _ _ _
def runR (r : Reg) : Nat → Reg
  | 0 => r
  | i + 1 => nextR (runR r i)
theorem runR_ok {r : Reg} (h : RegOk r) : ∀ i, RegOk (runR r i)
  | 0 => h
  | i + 1 => nextR_ok (runR_ok h i)
end Go.Proofs.Ytfgpbmjmoobcnaa
end
section
open Go Go.Am
open Go.Am.Dat (cells)
namespace Go.Proofs.Ytfgpbmjmoobcnaa
set_option maxHeartbeats 4000000
set_option maxRecDepth 100000
set_option linter.unusedSimpArgs false
set_option linter.unusedVariables false
theorem bitsS_bit {l : List Int} (h : ∀ b ∈ l, b = 0 ∨ b = 1) : ∀ n i, (bitsS l n).testBit i = (decide (i < n) && decide (l.getD i 0 = 1))
  | 0, i => by simp [bitsS]
  | n + 1, i => by
    rw [bitsS, Nat.testBit_or, bitsS_bit h n i]
    have hb := bits_getD h n
    by_cases h1 : i = n
    · subst h1
      rcases hb with e | e <;> rw [e] <;> simp
    · have h2 : (i < n + 1) = (i < n) := propext (by omega)
      have h3 : ((l.getD n 0).toNat * 2 ^ n).testBit i = false := by
        rcases hb with e | e <;> rw [e] <;> simp [Nat.testBit_two_pow]
        omega
      rw [h3, Bool.or_false]
      simp only [h2]
theorem and_pow (n i : Nat) : n &&& 2 ^ i = (n.testBit i).toNat * 2 ^ i := by
  apply Nat.eq_of_testBit_eq
  intro j
  rw [Nat.testBit_and, Nat.testBit_two_pow]
  by_cases h : i = j
  · subst h
    cases hb : n.testBit i <;> simp
  · cases hb : n.testBit i <;> simp [h, Nat.testBit_two_pow]
theorem parS_add : ∀ t, t < 10 → ∀ a, a < 2 ^ t → parS (a ||| 2 ^ t) = 1 - parS a ∧ parS a ≤ 1 := by decide +kernel
theorem parS_lt (n : Nat) : parS n ≤ 1 := parF_le n n 0 (by omega)
theorem tapsS_lt2 {l : List Int} {m : Nat} : ∀ i, (∀ j, j < i → (l.getD j 0).toNat < m) → tapsS l i < 2 ^ m
  | 0, _ => by simp [tapsS]; exact Nat.pow_pos (by decide)
  | i + 1, h => Nat.or_lt_two_pow (tapsS_lt2 i fun j hj => h j (by omega)) (Nat.pow_lt_pow_right (by decide) (h i (by omega)))
theorem par_sum {r : Reg} (hr : RegOk r) : ∀ i, i ≤ r.taps.length → (parS (bitsS r.state r.state.length &&& tapsS r.taps i) : Int) = sumT r.state r.taps i % 2
  | 0, _ => by simp [tapsS, sumT]; rfl
  | i + 1, hi => by
    have ih := par_sum hr i (by omega)
    have hm : r.taps.getD i 0 ∈ r.taps := by rw [List.getD_eq_getElem?_getD, List.getElem?_eq_getElem (by omega)]; exact List.getElem_mem _
    have ht := hr.taps _ hm
    have hlen := hr.len
    have hst := hr.stl
    have hinc : ∀ j, j < i → (r.taps.getD j 0).toNat < (r.taps.getD i 0).toNat := fun j hj => by
      have h1 := List.pairwise_iff_getElem.1 hr.inc j i (by omega) (by omega) hj
      have hmj : r.taps.getD j 0 ∈ r.taps := by rw [List.getD_eq_getElem?_getD, List.getElem?_eq_getElem (by omega)]; exact List.getElem_mem _
      have htj := hr.taps _ hmj
      have e1 : r.taps.getD j 0 = r.taps[j] := by rw [List.getD_eq_getElem?_getD, List.getElem?_eq_getElem (by omega)]; rfl
      have e2 : r.taps.getD i 0 = r.taps[i] := by rw [List.getD_eq_getElem?_getD, List.getElem?_eq_getElem (by omega)]; rfl
      omega
    have hlt := tapsS_lt2 i hinc
    generalize htt : (r.taps.getD i 0).toNat = t at *
    have ht10 : t < 10 := by omega
    rw [tapsS, htt, Nat.and_or_distrib_left, and_pow, bitsS_bit hr.bits, sumT, htt]
    have hlt2 : bitsS r.state r.state.length &&& tapsS r.taps i < 2 ^ t := Nat.lt_of_le_of_lt Nat.and_le_right hlt
    have hb := bits_getD hr.bits t
    obtain ⟨g1, g2⟩ := parS_add t ht10 _ hlt2
    have htl : t < r.state.length := by omega
    rcases hb with e | e <;> rw [e]
    · simp [ih]
    · simp only [htl, decide_true, Bool.and_true, Bool.toNat_true, Nat.one_mul, g1]
      omega
theorem wire_next {r : Reg} (hr : RegOk r) : wireW (nextR r) = stepS (wireW r) := by
  have hp := par_sum hr _ (Nat.le_refl _)
  have hbits := hr.bits
  have hst := hr.stl
  have hlen := hr.len
  have hb2 := (nextR_ok hr).bits
  have hl2 : (nextR r).state.length = r.state.length := by
    have := (nextR_ok hr).stl
    have e : (nextR r).length = r.length := rfl
    omega
  unfold wireW stepS
  rw [Wire.mk.injEq]
  refine ⟨?_, rfl, rfl⟩
  show bitsS (nextR r).state (nextR r).state.length = bitsS r.state r.state.length / 2 ||| parS (bitsS r.state r.state.length &&& tapsS r.taps r.taps.length) * 2 ^ (r.length - 1).toNat
  rw [hl2]
  have hp1 := parS_lt (bitsS r.state r.state.length &&& tapsS r.taps r.taps.length)
  generalize parS (bitsS r.state r.state.length &&& tapsS r.taps r.taps.length) = p at hp hp1
  have htop : (r.length - 1).toNat = r.state.length - 1 := by omega
  rw [htop]
  apply Nat.eq_of_testBit_eq
  intro i
  rw [bitsS_bit hb2, Nat.testBit_or, ← Nat.testBit_succ, bitsS_bit hbits]
  have hg : (nextR r).state.getD i 0 = if i + 1 < r.state.length then r.state.getD (i + 1) 0 else if i + 1 = r.state.length then (p : Int) else 0 := by
    show (r.state.drop 1 ++ [sumT r.state r.taps r.taps.length % 2]).getD i 0 = _
    rw [← hp, List.getD_eq_getElem?_getD, List.getElem?_append, List.length_drop]
    by_cases h1 : i + 1 < r.state.length
    · rw [if_pos (by omega), if_pos h1, List.getElem?_drop, List.getD_eq_getElem?_getD, Nat.add_comm]
    · rw [if_neg (by omega), if_neg h1]
      by_cases h2 : i + 1 = r.state.length
      · rw [if_pos h2]
        have : i - (r.state.length - 1) = 0 := by omega
        rw [this]; rfl
      · rw [if_neg h2, List.getElem?_eq_none (by simp; omega)]; rfl
  rw [hg]
  have hp01 : p = 0 ∨ p = 1 := by omega
  by_cases h1 : i + 1 < r.state.length
  · have h3 : (p * 2 ^ (r.state.length - 1)).testBit i = false := by
      rcases hp01 with rfl | rfl <;> simp [Nat.testBit_two_pow]
      omega
    rw [h3, if_pos h1]
    simp [h1]
    omega
  · rw [if_neg h1]
    by_cases h2 : i + 1 = r.state.length
    · have e : r.state.length - 1 = i := by omega
      rw [if_pos h2, e]
      rcases hp01 with rfl | rfl <;> simp [h1] <;> omega
    · rw [if_neg h2]
      have h3 : (p * 2 ^ (r.state.length - 1)).testBit i = false := by
        rcases hp01 with rfl | rfl <;> simp [Nat.testBit_two_pow]
        omega
      rw [h3]
      simp [h1]
theorem wire_run {r : Reg} (hr : RegOk r) : ∀ i, runW (wireW r) i = wireW (runR r i)
  | 0 => rfl
  | i + 1 => by rw [runW, runR, wire_run hr i, wire_next (runR_ok hr i)]
theorem wire_out {r : Reg} (hr : RegOk r) : (outS (wireW r) : Int) = r.state.getD 0 0 := by
  have h := bitsS_bit hr.bits r.state.length 0
  have hl : 0 < r.state.length := by have := hr.len; have := hr.stl; omega
  rw [Nat.testBit_zero] at h
  have hb := bits_getD hr.bits 0
  show ((bitsS r.state r.state.length % 2 : Nat) : Int) = _
  rcases hb with e | e <;> rw [e] at h ⊢ <;> simp [hl] at h <;> omega
end Go.Proofs.Ytfgpbmjmoobcnaa
end
section
open Go Go.Am
open Go.Am.Dat (cells)
namespace Go.Proofs.Ytfgpbmjmoobcnaa
set_option maxHeartbeats 4000000
set_option maxRecDepth 100000
set_option linter.unusedSimpArgs false
set_option linter.unusedVariables false
theorem pigeon : ∀ (N : Nat) (f : Nat → Nat), (∀ i, i ≤ N → f i < N) → ∃ i j, i < j ∧ j ≤ N ∧ f i = f j
  | 0, f, h => absurd (h 0 (Nat.le_refl _)) (by omega)
  | N + 1, f, h => by
    by_cases hv : ∃ i, i ≤ N ∧ f i = f (N + 1)
    · obtain ⟨i, h1, h2⟩ := hv
      exact ⟨i, N + 1, by omega, Nat.le_refl _, h2⟩
    · have hv' : ∀ i, i ≤ N → f i ≠ f (N + 1) := fun i hi he => hv ⟨i, hi, he⟩
      have hN := h (N + 1) (Nat.le_refl _)
      obtain ⟨i, j, h1, h2, h3⟩ := pigeon N (fun i => if f i < f (N + 1) then f i else f i - 1) (fun i hi => by
        have h4 := h i (by omega)
        have h5 := hv' i hi
        show (if f i < f (N + 1) then f i else f i - 1) < N
        split <;> omega)
      refine ⟨i, j, h1, by omega, ?_⟩
      have h4 := hv' i (by omega)
      have h5 := hv' j h2
      have h3 : (if f i < f (N + 1) then f i else f i - 1) = if f j < f (N + 1) then f j else f j - 1 := h3
      split at h3 <;> split at h3 <;> omega
theorem bits_inj {a b : List Int} (ha : ∀ x ∈ a, x = 0 ∨ x = 1) (hb : ∀ x ∈ b, x = 0 ∨ x = 1) (hl : a.length = b.length) (h : bitsS a a.length = bitsS b b.length) : a = b := by
  apply List.ext_getElem hl
  intro i h1 h2
  have e : ∀ (m : List Int) (h : i < m.length), m[i] = m.getD i 0 := fun m h => by rw [List.getD_eq_getElem?_getD, List.getElem?_eq_getElem h]; rfl
  rw [e a h1, e b h2]
  have q1 := bitsS_bit ha a.length i
  have q2 := bitsS_bit hb b.length i
  rw [h, q2] at q1
  have g1 := bits_getD ha i
  have g2 := bits_getD hb i
  simp only [h1, h2, decide_true, Bool.true_and] at q1
  rcases g1 with g1 | g1 <;> rcases g2 with g2 | g2 <;> rw [g1, g2] at q1 ⊢ <;> simp at q1
theorem runR_same (r : Reg) : ∀ i, (runR r i).taps = r.taps ∧ (runR r i).length = r.length
  | 0 => ⟨rfl, rfl⟩
  | i + 1 => runR_same r i
theorem runR_add (r : Reg) (i : Nat) : ∀ j, runR r (i + j) = runR (runR r i) j
  | 0 => rfl
  | j + 1 => by show nextR (runR r (i + j)) = _; rw [runR_add r i j]; rfl
theorem reg_ext {a b : Reg} (h1 : a.length = b.length) (h2 : a.taps = b.taps) (h3 : a.state = b.state) : a = b := by
  cases a; cases b; simp_all
theorem sum_diff {s1 s2 ts : List Int} (hd : s1.drop 1 = s2.drop 1) (hz : ts.getD 0 0 = 0) (hinc : ts.Pairwise (· < ·)) : ∀ n, n + 1 ≤ ts.length → sumT s1 ts (n + 1) - sumT s2 ts (n + 1) = s1.getD 0 0 - s2.getD 0 0
  | 0, h => by simp only [sumT, hz]; simp
  | n + 1, h => by
    have ih := sum_diff hd hz hinc n (by omega)
    have h1 := List.pairwise_iff_getElem.1 hinc 0 (n + 1) (by omega) (by omega) (by omega)
    have e1 : ts.getD 0 0 = ts[0] := by rw [List.getD_eq_getElem?_getD, List.getElem?_eq_getElem (by omega)]; rfl
    have e2 : ts.getD (n + 1) 0 = ts[n + 1] := by rw [List.getD_eq_getElem?_getD, List.getElem?_eq_getElem (by omega)]; rfl
    obtain ⟨t, ht⟩ : ∃ t, (ts.getD (n + 1) 0).toNat = t + 1 := ⟨(ts.getD (n + 1) 0).toNat - 1, by omega⟩
    have e : s1.getD (t + 1) 0 = s2.getD (t + 1) 0 := by
      have q : (s1.drop 1).getD t 0 = (s2.drop 1).getD t 0 := by rw [hd]
      rw [List.getD_eq_getElem?_getD, List.getD_eq_getElem?_getD, List.getElem?_drop, List.getElem?_drop, Nat.add_comm 1 t] at q
      rw [List.getD_eq_getElem?_getD, List.getD_eq_getElem?_getD]
      exact q
    have E1 : sumT s1 ts (n + 1 + 1) = sumT s1 ts (n + 1) + s1.getD (ts.getD (n + 1) 0).toNat 0 := rfl
    have E2 : sumT s2 ts (n + 1 + 1) = sumT s2 ts (n + 1) + s2.getD (ts.getD (n + 1) 0).toNat 0 := rfl
    rw [ht] at E1 E2
    omega
theorem next_inj {a b : Reg} (ha : RegOk a) (hb : RegOk b) (h1 : a.length = b.length) (h2 : a.taps = b.taps) (h : (nextR a).state = (nextR b).state) : a = b := by
  refine reg_ext h1 h2 ?_
  have hla := ha.stl
  have hlb := hb.stl
  have hl : a.state.length = b.state.length := by omega
  have hlen := ha.len
  have h' : a.state.drop 1 ++ [sumT a.state a.taps a.taps.length % 2] = b.state.drop 1 ++ [sumT b.state b.taps b.taps.length % 2] := h
  obtain ⟨hd, hs⟩ := List.append_inj h' (by simp [hl])
  have hs : sumT a.state a.taps a.taps.length % 2 = sumT b.state b.taps b.taps.length % 2 := by simpa using hs
  rw [← h2] at hs
  have hne := ha.ne
  obtain ⟨n, hn⟩ : ∃ n, a.taps.length = n + 1 := ⟨a.taps.length - 1, by omega⟩
  have hdiff := sum_diff hd ha.zero ha.inc n (by omega)
  rw [hn] at hs
  have ga := bits_getD ha.bits 0
  have gb := bits_getD hb.bits 0
  have g0 : a.state.getD 0 0 = b.state.getD 0 0 := by omega
  cases hA : a.state with
  | nil => rw [hA] at hla; simp at hla; omega
  | cons x xs =>
    cases hB : b.state with
    | nil => rw [hB] at hlb; simp at hlb; omega
    | cons y ys =>
      rw [hA, hB] at hd g0
      simp at hd g0
      rw [hd, g0]
theorem run_back {r : Reg} (hr : RegOk r) : ∀ i j, (runR r i).state = (runR r (i + j)).state → (runR r j).state = r.state
  | 0, j, h => by rw [Nat.zero_add] at h; exact h.symm
  | i + 1, j, h => by
    have h1 : (nextR (runR r i)).state = (nextR (runR r (i + j))).state := by
      have e : i + 1 + j = (i + j) + 1 := by omega
      rw [e] at h
      exact h
    have h2 := next_inj (runR_ok hr i) (runR_ok hr (i + j)) (by rw [(runR_same r i).2, (runR_same r (i + j)).2]) (by rw [(runR_same r i).1, (runR_same r (i + j)).1]) h1
    exact run_back hr i j (by rw [← h2])
def perR (r : Reg) : Nat := ((List.range 1024).find? fun i => decide ((runR r (i + 1)).state = r.state)).getD 0 + 1
theorem per_ex {r : Reg} (hr : RegOk r) : ∃ i, i < 1024 ∧ (runR r (i + 1)).state = r.state := by
  obtain ⟨i, j, h1, h2, h3⟩ := pigeon 1024 (fun i => bitsS (runR r i).state (runR r i).state.length) (fun i _ => by
    have ho := runR_ok hr i
    have := bitsS_lt ho.bits (runR r i).state.length
    have hl := ho.stl
    have hlen := ho.len
    exact Nat.lt_of_lt_of_le this (Nat.pow_le_pow_right (by decide) (show (runR r i).state.length ≤ 10 by omega)))
  have ho := runR_ok hr i
  have hp := runR_ok hr j
  have hs1 := ho.stl
  have hs2 := hp.stl
  have e1 := (runR_same r i).2
  have e2 := (runR_same r j).2
  have h4 := bits_inj ho.bits hp.bits (by omega) h3
  have e : j = i + (j - i) := by omega
  rw [e] at h4
  have := run_back hr i (j - i) h4
  refine ⟨j - i - 1, by omega, ?_⟩
  rw [show j - i - 1 + 1 = j - i by omega]
  exact this
theorem perR_spec {r : Reg} (hr : RegOk r) : (1 ≤ perR r ∧ perR r ≤ 1024) ∧ (runR r (perR r)).state = r.state ∧ ∀ m, 0 < m → m < perR r → (runR r m).state ≠ r.state := by
  unfold perR
  cases hq : (List.range 1024).find? fun i => decide ((runR r (i + 1)).state = r.state) with
  | none =>
    exfalso
    obtain ⟨i, h1, h2⟩ := per_ex hr
    rw [List.find?_eq_none] at hq
    exact hq i (List.mem_range.2 h1) (by simpa using h2)
  | some i =>
    rw [List.find?_range_eq_some] at hq
    obtain ⟨h1, h2, h3⟩ := hq
    have h2 := List.mem_range.1 h2
    refine ⟨⟨by omega, by simp; omega⟩, by simpa using h1, fun m hm0 hm => ?_⟩
    have h4 := h3 (m - 1) (by simp at hm; omega)
    rw [show m - 1 + 1 = m by omega] at h4
    simpa using h4
theorem per_reg {r : Reg} (hr : RegOk r) : runR r (perR r) = r :=
  reg_ext (runR_same r _).2 (runR_same r _).1 (perR_spec hr).2.1
theorem run_mul {r : Reg} (hr : RegOk r) : ∀ k j, runR r (perR r * k + j) = runR r j
  | 0, j => by rw [Nat.mul_zero, Nat.zero_add]
  | k + 1, j => by
    rw [Nat.mul_succ, Nat.add_assoc, Nat.add_comm, Nat.add_assoc, Nat.add_comm j]
    rw [runR_add, per_reg hr]
    exact run_mul hr k j
theorem run_mod {r : Reg} (hr : RegOk r) (n : Nat) : runR r (n % perR r) = runR r n := by
  have := run_mul hr (n / perR r) (n % perR r)
  rw [Nat.div_add_mod] at this
  exact this.symm
theorem per_run {r : Reg} (hr : RegOk r) (i : Nat) : perR (runR r i) = perR r := by
  unfold perR
  have e : (fun k => decide ((runR (runR r i) (k + 1)).state = (runR r i).state)) = fun k => decide ((runR r (k + 1)).state = r.state) := by
    funext k
    rw [decide_eq_decide, ← runR_add]
    refine ⟨fun h => run_back hr i (k + 1) h.symm, fun h => ?_⟩
    have : runR r (k + 1) = r := reg_ext (runR_same r _).2 (runR_same r _).1 h
    rw [Nat.add_comm, runR_add, this]
  rw [e]
theorem regErr_ok {r : Reg} (h : RegOk r) : regErr r = 0 := by
  have ht : ∀ (l : List Int) (last : Int), l.Pairwise (· < ·) → (∀ t ∈ l, 0 ≤ t ∧ t ≤ r.length - 1) → (∀ t ∈ l, last < t) → tapsErr r.length last l = 0 := by
    intro l
    induction l with
    | nil => intro last _ _ _; rfl
    | cons t l ih =>
      intro last hp hb hl
      have h1 := hb t List.mem_cons_self
      have h2 := hl t List.mem_cons_self
      have h3 := List.pairwise_cons.1 hp
      rw [tapsErr, if_neg (by omega), if_neg (by omega)]
      exact ih t h3.2 (fun x hx => hb x (List.mem_cons_of_mem _ hx)) h3.1
  have h1 := ht r.taps (-1) h.inc h.taps (fun t ht => by have := h.taps t ht; omega)
  have h2 := h.len
  have h3 := h.ne
  have h4 := h.zero
  have h5 := h.stl
  unfold regErr
  rw [if_neg (by omega), if_neg (by omega), h1, if_neg (by simp), if_neg (by omega), if_neg (by omega), if_pos]
  rw [List.all_eq_true]
  intro b hb
  have := h.bits b hb
  simp only [isBit, decide_eq_true_eq]
  omega
end Go.Proofs.Ytfgpbmjmoobcnaa
end
section
open Go Go.Am
open Go.Am.Dat (cells)
namespace Go.Proofs.Ytfgpbmjmoobcnaa
set_option maxHeartbeats 4000000
set_option maxRecDepth 100000
set_option linter.unusedSimpArgs false
set_option linter.unusedVariables false
theorem Clone_c (l : List Int) (h : 0 < l.length ∧ l.length ≤ 1000000) : FC Try.prog 107 [enc l] [] (enc l) [] := by
  refine fc_intro' is107 (by simp) (fun cx hl => S_run [] 800 ?_)
  cases l with
  | nil => simp at h
  | cons a tl =>
    have h2 := h.2
    simp only [List.length_cons] at h2
    delta c107
    simp (maxSteps := 4000000) -implicitDefEqProofs only [rv107, List.map_cons, List.length_cons, Ent.of0, Ent.of1, Ent.of2, Ent.of3, V, bO, bt, bE, cb, cN, cU, gt, lk, cJ, bQ, cm, cr, bM, cn, cn.subCs, cT, bg, a9, cg, az, a3, bn, aJ, bz, bo, aY, bF, ax, cu, cO, c6, aq, aX, bR, cI, cj, cY, cR, aV, an, bY, bj, zC, argS, bG, cH, cP, cW, ah, aw, aW, aA, cd, leC, ca, bP, cG, cS, bU, ay, aL, cK, au, cp, a7, a7.viewCs, bH, bH.flatCs, aR, aR.LensOks, Value.oneCell', ↓reduceIte, ite_true, ite_false, if_true, if_false, Nat.reduceAdd, Nat.reduceSub, Nat.reduceMul, Nat.reduceEqDiff, Nat.reduceLT, Nat.reduceLeDiff, reduceCtorEq, Int.reduceToNat, forall_const, implies_true, bm, Ent.mk3, bC, bu, bw, a5, a6, aZ, bK, bB, bI, bJ, bk, cD, bD, cQ, rn, bT, bT.renCs, aT, aU, aN, aN.viewOks, aI, a8, a8.flatBs, aG, ag, aH, ar, aQ, bv, bv.keysBs, aE, am, bp, bS, be, cC, af, af.passKs, aB, aO, ae, ae.lendKs, bV, cq, bW, bq, setInn, ai, cZ, cL, aC, bf, bZ, cc, aD, aP, Glob.gl, av, co, bL, b0, br, aj, bX, cM, cB, cV, bN, ap, ap.ptrOnlys, ak, aK, cz, aM, a4, bA, ce, aF, bh, cF, Nat.reduceBEq, undef]
    omega
def e107 : Ent Try.prog := .of1 107 (fun l => 0 < l.length ∧ l.length ≤ 1000000) (fun l : List Int => enc l) (fun _ => trivial) (fun l h => Clone_c l h)
def stateL (w : Wire) (n : Nat) : List Int := (List.range n).map fun i => ((w.bits / 2 ^ i % 2 : Nat) : Int)
theorem stateL_succ (w : Wire) (n : Nat) : stateL w (n + 1) = stateL w n ++ [((w.bits / 2 ^ n % 2 : Nat) : Int)] := by simp [stateL, List.range_succ]
theorem stateL_len (w : Wire) (n : Nat) : (stateL w n).length = n := by simp [stateL]
theorem state_c (w : Wire) (hw : w.Ok) : FC Try.prog 142 [.agg (wireC w)] [] (enc (stateL w (w.top + 1))) [] := by
  obtain ⟨b, tp, top⟩ := w
  obtain ⟨h1, h2, h3⟩ := hw
  simp only at h1 h2 h3
  have hb : b < 65536 := Nat.lt_of_lt_of_le h2 (Nat.pow_le_pow_right (by decide) (by omega : top + 1 ≤ 16))
  refine fc_intro' is142 (by simp) (fun cx hl => S_run [] 800 ?_)
  delta c142
  simp (maxSteps := 4000000) -implicitDefEqProofs only [rv142, wireC, InR, Ent.of0, Ent.of1, Ent.of2, Ent.of3, V, bO, bt, bE, cb, cN, cU, gt, lk, cJ, bQ, cm, cr, bM, cn, cn.subCs, cT, bg, a9, cg, az, a3, bn, aJ, bz, bo, aY, bF, ax, cu, cO, c6, aq, aX, bR, cI, cj, cY, cR, aV, an, bY, bj, zC, argS, bG, cH, cP, cW, ah, aw, aW, aA, cd, leC, ca, bP, cG, cS, bU, ay, aL, cK, au, cp, a7, a7.viewCs, bH, bH.flatCs, aR, aR.LensOks, Value.oneCell', ↓reduceIte, ite_true, ite_false, if_true, if_false, Nat.reduceAdd, Nat.reduceSub, Nat.reduceMul, Nat.reduceEqDiff, Nat.reduceLT, Nat.reduceLeDiff, reduceCtorEq, Int.reduceToNat, forall_const, implies_true, bm, Ent.mk3, bC, bu, bw, a5, a6, aZ, bK, bB, bI, bJ, bk, cD, bD, cQ, rn, bT, bT.renCs, aT, aU, aN, aN.viewOks, aI, a8, a8.flatBs, aG, ag, aH, ar, aQ, bv, bv.keysBs, aE, am, bp, bS, be, cC, af, af.passKs, aB, aO, ae, ae.lendKs, bV, cq, bW, bq, setInn, ai, cZ, cL, aC, bf, bZ, cc, aD, aP, Glob.gl, av, co, bL, b0, br, aj, bX, cM, cB, cV, bN, ap, ap.ptrOnlys, ak, aK, cz, aM, a4, bA, ce, aF, bh, cF, Nat.reduceBEq, undef]
  refine ⟨by omega, ?_⟩
  refine S_forU (top + 1) (fun i => [(8, .s (.int .i64 (i : Int)))]) (fun i => [(3, .row 1 3 ((stateL ⟨b, tp, top⟩ i).map cells))]) (fun _ => True) trivial ?_ (fun i hi _ => S_run [] 800 ?_)
  · simp (maxSteps := 4000000) -implicitDefEqProofs only [stateL, Ent.of0, Ent.of1, Ent.of2, Ent.of3, V, bO, bt, bE, cb, cN, cU, gt, lk, cJ, bQ, cm, cr, bM, cn, cn.subCs, cT, bg, a9, cg, az, a3, bn, aJ, bz, bo, aY, bF, ax, cu, cO, c6, aq, aX, bR, cI, cj, cY, cR, aV, an, bY, bj, zC, argS, bG, cH, cP, cW, ah, aw, aW, aA, cd, leC, ca, bP, cG, cS, bU, ay, aL, cK, au, cp, a7, a7.viewCs, bH, bH.flatCs, aR, aR.LensOks, Value.oneCell', ↓reduceIte, ite_true, ite_false, if_true, if_false, Nat.reduceAdd, Nat.reduceSub, Nat.reduceMul, Nat.reduceEqDiff, Nat.reduceLT, Nat.reduceLeDiff, reduceCtorEq, Int.reduceToNat, forall_const, implies_true, bm, Ent.mk3, bC, bu, bw, a5, a6, aZ, bK, bB, bI, bJ, bk, cD, bD, cQ, rn, bT, bT.renCs, aT, aU, aN, aN.viewOks, aI, a8, a8.flatBs, aG, ag, aH, ar, aQ, bv, bv.keysBs, aE, am, bp, bS, be, cC, af, af.passKs, aB, aO, ae, ae.lendKs, bV, cq, bW, bq, setInn, ai, cZ, cL, aC, bf, bZ, cc, aD, aP, Glob.gl, av, co, bL, b0, br, aj, bX, cM, cB, cV, bN, ap, ap.ptrOnlys, ak, aK, cz, aM, a4, bA, ce, aF, bh, cF, Nat.reduceBEq, undef]; simp
  · have hll := stateL_len ⟨b, tp, top⟩ i
    by_cases h : i < top + 1
    · have hi2 : (i : Int) < (top : Int) + 1 := by omega
      have hmin : min i IntKind.u16.bits = i := Nat.min_eq_left (by show i ≤ 16; omega)
      have hpc : (2 : Int) ^ i = ((2 ^ i : Nat) : Int) := by push_cast; rfl
      have hdiv : (b : Int).fdiv (2 ^ i) = ((b / 2 ^ i : Nat) : Int) := by
        rw [Int.fdiv_eq_ediv_of_nonneg _ (by rw [hpc]; exact Int.natCast_nonneg _), hpc]; push_cast; rfl
      have hle : b / 2 ^ i < 65536 := Nat.lt_of_le_of_lt (Nat.div_le_self _ _) hb
      have hone : ((1 : Nat) : Int) = 1 := rfl
      have hand := and16 hle (show 1 < 65536 by decide)
      rw [hone, Nat.and_one_is_mod] at hand
      have hsu : (stateL ⟨b, tp, top⟩ i).map cells ++ [[C.s (.int .i64 ((b / 2 ^ i % 2 : Nat) : Int))]] = (stateL ⟨b, tp, top⟩ (i + 1)).map cells := by rw [stateL_succ, List.map_append]; rfl
      delta c142l1
      simp (maxSteps := 4000000) -implicitDefEqProofs only [rv142, hi2, hmin, hdiv, hand, hsu, hll, InR, Ent.of0, Ent.of1, Ent.of2, Ent.of3, V, bO, bt, bE, cb, cN, cU, gt, lk, cJ, bQ, cm, cr, bM, cn, cn.subCs, cT, bg, a9, cg, az, a3, bn, aJ, bz, bo, aY, bF, ax, cu, cO, c6, aq, aX, bR, cI, cj, cY, cR, aV, an, bY, bj, zC, argS, bG, cH, cP, cW, ah, aw, aW, aA, cd, leC, ca, bP, cG, cS, bU, ay, aL, cK, au, cp, a7, a7.viewCs, bH, bH.flatCs, aR, aR.LensOks, Value.oneCell', ↓reduceIte, ite_true, ite_false, if_true, if_false, Nat.reduceAdd, Nat.reduceSub, Nat.reduceMul, Nat.reduceEqDiff, Nat.reduceLT, Nat.reduceLeDiff, reduceCtorEq, Int.reduceToNat, forall_const, implies_true, bm, Ent.mk3, bC, bu, bw, a5, a6, aZ, bK, bB, bI, bJ, bk, cD, bD, cQ, rn, bT, bT.renCs, aT, aU, aN, aN.viewOks, aI, a8, a8.flatBs, aG, ag, aH, ar, aQ, bv, bv.keysBs, aE, am, bp, bS, be, cC, af, af.passKs, aB, aO, ae, ae.lendKs, bV, cq, bW, bq, setInn, ai, cZ, cL, aC, bf, bZ, cc, aD, aP, Glob.gl, av, co, bL, b0, br, aj, bX, cM, cB, cV, bN, ap, ap.ptrOnlys, ak, aK, cz, aM, a4, bA, ce, aF, bh, cF, Nat.reduceBEq, undef]
      omega
    · have hi2 : ¬ (i : Int) < (top : Int) + 1 := by omega
      have hie : i = top + 1 := by omega
      subst hie
      delta c142l1
      simp (maxSteps := 4000000) -implicitDefEqProofs only [rv142, hi2, InR, Ent.of0, Ent.of1, Ent.of2, Ent.of3, V, bO, bt, bE, cb, cN, cU, gt, lk, cJ, bQ, cm, cr, bM, cn, cn.subCs, cT, bg, a9, cg, az, a3, bn, aJ, bz, bo, aY, bF, ax, cu, cO, c6, aq, aX, bR, cI, cj, cY, cR, aV, an, bY, bj, zC, argS, bG, cH, cP, cW, ah, aw, aW, aA, cd, leC, ca, bP, cG, cS, bU, ay, aL, cK, au, cp, a7, a7.viewCs, bH, bH.flatCs, aR, aR.LensOks, Value.oneCell', ↓reduceIte, ite_true, ite_false, if_true, if_false, Nat.reduceAdd, Nat.reduceSub, Nat.reduceMul, Nat.reduceEqDiff, Nat.reduceLT, Nat.reduceLeDiff, reduceCtorEq, Int.reduceToNat, forall_const, implies_true, bm, Ent.mk3, bC, bu, bw, a5, a6, aZ, bK, bB, bI, bJ, bk, cD, bD, cQ, rn, bT, bT.renCs, aT, aU, aN, aN.viewOks, aI, a8, a8.flatBs, aG, ag, aH, ar, aQ, bv, bv.keysBs, aE, am, bp, bS, be, cC, af, af.passKs, aB, aO, ae, ae.lendKs, bV, cq, bW, bq, setInn, ai, cZ, cL, aC, bf, bZ, cc, aD, aP, Glob.gl, av, co, bL, b0, br, aj, bX, cM, cB, cV, bN, ap, ap.ptrOnlys, ak, aK, cz, aM, a4, bA, ce, aF, bh, cF, Nat.reduceBEq, undef]
def e142 : Ent Try.prog := .mk3 142 (fun args chs => match args, chs with
    | [.agg [.s (.int .u16 b), .s (.int .u16 t), .s (.int .i64 p)]], [] => some ((0 ≤ b ∧ 0 ≤ t ∧ 0 ≤ p) ∧ (wireI b t p).Ok, enc (stateL (wireI b t p) ((wireI b t p).top + 1)), [], [])
    | _, _ => none) (by
  intro args chs p r chs' nk hs hp
  split at hs
  · simp only [Option.some.injEq, Prod.mk.injEq] at hs
    obtain ⟨rfl, rfl, rfl, rfl⟩ := hs
    obtain ⟨⟨h1, h2, h3⟩, hw⟩ := hp
    rename_i b t p
    have hc : wireC (wireI b t p) = [.s (.int .u16 b), .s (.int .u16 t), .s (.int .i64 p)] := by
      simp only [wireC, wireI, Int.toNat_of_nonneg h1, Int.toNat_of_nonneg h2, Int.toNat_of_nonneg h3]
    have := state_c (wireI b t p) hw
    rw [hc] at this
    exact ⟨this, .plain trivial⟩
  · cases hs)
theorem behind_c (r : Reg) (w : Wire) (hw : w.Ok) (hr : 0 < r.taps.length ∧ r.taps.length ≤ 1000000) : FC Try.prog 124 [enc r, .agg (wireC w)] [] (enc (⟨r.length, r.taps, stateL w (w.top + 1)⟩ : Reg)) [] := by
  refine fc_intro' is124 (by simp) (fun cx hl => S_run [e107, e142] 800 ?_)
  have hweta : ({ bits := w.bits, taps := w.taps, top := w.top } : Wire) = w := rfl
  delta c124
  simp (maxSteps := 4000000) -implicitDefEqProofs only [rv124, wireC, enc_reg, e107, e142, wireI, Int.toNat_natCast, hweta, hr, hw, Ent.of0, Ent.of1, Ent.of2, Ent.of3, V, bO, bt, bE, cb, cN, cU, gt, lk, cJ, bQ, cm, cr, bM, cn, cn.subCs, cT, bg, a9, cg, az, a3, bn, aJ, bz, bo, aY, bF, ax, cu, cO, c6, aq, aX, bR, cI, cj, cY, cR, aV, an, bY, bj, zC, argS, bG, cH, cP, cW, ah, aw, aW, aA, cd, leC, ca, bP, cG, cS, bU, ay, aL, cK, au, cp, a7, a7.viewCs, bH, bH.flatCs, aR, aR.LensOks, Value.oneCell', ↓reduceIte, ite_true, ite_false, if_true, if_false, Nat.reduceAdd, Nat.reduceSub, Nat.reduceMul, Nat.reduceEqDiff, Nat.reduceLT, Nat.reduceLeDiff, reduceCtorEq, Int.reduceToNat, forall_const, implies_true, bm, Ent.mk3, bC, bu, bw, a5, a6, aZ, bK, bB, bI, bJ, bk, cD, bD, cQ, rn, bT, bT.renCs, aT, aU, aN, aN.viewOks, aI, a8, a8.flatBs, aG, ag, aH, ar, aQ, bv, bv.keysBs, aE, am, bp, bS, be, cC, af, af.passKs, aB, aO, ae, ae.lendKs, bV, cq, bW, bq, setInn, ai, cZ, cL, aC, bf, bZ, cc, aD, aP, Glob.gl, av, co, bL, b0, br, aj, bX, cM, cB, cV, bN, ap, ap.ptrOnlys, ak, aK, cz, aM, a4, bA, ce, aF, bh, cF, Nat.reduceBEq, undef]
  omega
def e124 : Ent Try.prog := .mk3 124 (fun args chs => match args, chs with
    | [.agg [.s (.int .i64 a), .sl 1 t, .sl 1 s], .agg [.s (.int .u16 b), .s (.int .u16 tp), .s (.int .i64 p)]], [] => (decL t : Option (List Int)).bind fun t' => (decL s : Option (List Int)).bind fun s' => some ((0 ≤ b ∧ 0 ≤ tp ∧ 0 ≤ p) ∧ (wireI b tp p).Ok ∧ 0 < t'.length ∧ t'.length ≤ 1000000, enc (⟨a, t', stateL (wireI b tp p) ((wireI b tp p).top + 1)⟩ : Reg), [], [])
    | _, _ => none) (by
  intro args chs q r chs' nk hs hp
  split at hs
  · simp only [Option.bind_eq_some_iff, Option.some.injEq, Prod.mk.injEq] at hs
    obtain ⟨t', ht, s', hs', rfl, rfl, rfl, rfl⟩ := hs
    have := decL_ok ht
    subst this
    have := decL_ok hs'
    subst this
    obtain ⟨⟨h1, h2, h3⟩, hw, h4⟩ := hp
    rename_i a b tp p
    have hc : wireC (wireI b tp p) = [.s (.int .u16 b), .s (.int .u16 tp), .s (.int .i64 p)] := by
      simp only [wireC, wireI, Int.toNat_of_nonneg h1, Int.toNat_of_nonneg h2, Int.toNat_of_nonneg h3]
    have := behind_c ⟨a, t', s'⟩ (wireI b tp p) hw h4
    rw [hc] at this
    exact ⟨this, .plain ⟨trivial, trivial, trivial, trivial⟩⟩
  · cases hs)
theorem state_wire {r : Reg} (hr : RegOk r) : stateL (wireW r) ((wireW r).top + 1) = r.state := by
  have hl := hr.len
  have hs := hr.stl
  have htop : (wireW r).top + 1 = r.state.length := by show (r.length - 1).toNat + 1 = _; omega
  rw [htop]
  apply List.ext_getElem (by rw [stateL_len])
  intro i h1 h2
  have h3 := bitsS_bit hr.bits r.state.length i
  have hb := bits_getD hr.bits i
  have e : r.state[i] = r.state.getD i 0 := by rw [List.getD_eq_getElem?_getD, List.getElem?_eq_getElem h2]; rfl
  rw [e]
  simp only [stateL, List.getElem_map, List.getElem_range]
  rw [Nat.testBit_eq_decide_div_mod_eq] at h3
  show ((bitsS r.state r.state.length / 2 ^ i % 2 : Nat) : Int) = _
  have h4 := Nat.mod_lt (bitsS r.state r.state.length / 2 ^ i) (show 0 < 2 by decide)
  rcases hb with g | g <;> rw [g] at h3 ⊢ <;> simp [h2] at h3 <;> omega
theorem behind_run {r : Reg} (hr : RegOk r) (i : Nat) : (⟨r.length, r.taps, stateL (runW (wireW r) i) ((runW (wireW r) i).top + 1)⟩ : Reg) = runR r i := by
  rw [wire_run hr i, state_wire (runR_ok hr i)]
  exact reg_ext (runR_same r i).2.symm (runR_same r i).1.symm rfl
def zregC : C := .agg [.s (.int .i64 0), .s (.slice none 0 0), .s (.slice none 0 0)]
theorem Next_c (r : Reg) : FC Try.prog 71 [enc r] [] (.tup [enc (if regErr r = 0 then r.state.getD 0 0 else 0), if regErr r = 0 then enc (nextR r) else zregC, enc (regErr r)]) [] := by
  refine fc_introC [] is71 (by simp) trivial trivial trivial trivial (fun cx _ hl _ => S_run [e70, e108, e109, e124] 800 ?_)
  have heta : ({ length := r.length, taps := r.taps, state := r.state } : Reg) = r := rfl
  by_cases he : regErr r = 0
  rotate_left
  · delta c71
    simp (maxSteps := 4000000) -implicitDefEqProofs only [rv71, e70, enc_reg, decV_reg, heta, he, zregC, Ent.of0, Ent.of1, Ent.of2, Ent.of3, V, bO, bt, bE, cb, cN, cU, gt, lk, cJ, bQ, cm, cr, bM, cn, cn.subCs, cT, bg, a9, cg, az, a3, bn, aJ, bz, bo, aY, bF, ax, cu, cO, c6, aq, aX, bR, cI, cj, cY, cR, aV, an, bY, bj, zC, argS, bG, cH, cP, cW, ah, aw, aW, aA, cd, leC, ca, bP, cG, cS, bU, ay, aL, cK, au, cp, a7, a7.viewCs, bH, bH.flatCs, aR, aR.LensOks, Value.oneCell', ↓reduceIte, ite_true, ite_false, if_true, if_false, Nat.reduceAdd, Nat.reduceSub, Nat.reduceMul, Nat.reduceEqDiff, Nat.reduceLT, Nat.reduceLeDiff, reduceCtorEq, Int.reduceToNat, forall_const, implies_true, bm, Ent.mk3, bC, bu, bw, a5, a6, aZ, bK, bB, bI, bJ, bk, cD, bD, cQ, rn, bT, bT.renCs, aT, aU, aN, aN.viewOks, aI, a8, a8.flatBs, aG, ag, aH, ar, aQ, bv, bv.keysBs, aE, am, bp, bS, be, cC, af, af.passKs, aB, aO, ae, ae.lendKs, bV, cq, bW, bq, setInn, ai, cZ, cL, aC, bf, bZ, cc, aD, aP, Glob.gl, av, co, bL, b0, br, aj, bX, cM, cB, cV, bN, ap, ap.ptrOnlys, ak, aK, cz, aM, a4, bA, ce, aF, bh, cF, Nat.reduceBEq, undef]
  have hr := regOk_of he
  have hw := wireW_ok hr
  have hw1 := stepS_ok hw
  have hweta : ({ bits := (wireW r).bits, taps := (wireW r).taps, top := (wireW r).top } : Wire) = wireW r := rfl
  have hweta2 : ({ bits := (stepS (wireW r)).bits, taps := (wireW r).taps, top := (wireW r).top } : Wire) = stepS (wireW r) := rfl
  have hout := wire_out hr
  have hb := behind_run hr 1
  have ht := hr.ne
  have htl := hr.tl
  have htl2 : r.taps.length ≤ 1000000 := by omega
  have e1 : runW (wireW r) 1 = stepS (wireW r) := rfl
  have e2 : runR r 1 = nextR r := rfl
  rw [e1, e2] at hb
  delta c71
  simp (maxSteps := 4000000) -implicitDefEqProofs only [rv71, e70, e108, e109, e124, enc_reg, decV_reg, heta, he, hr, hw, hw1, wireI, hweta, hweta2, Int.toNat_natCast, hout, ht, htl2, zregC, Ent.of0, Ent.of1, Ent.of2, Ent.of3, V, bO, bt, bE, cb, cN, cU, gt, lk, cJ, bQ, cm, cr, bM, cn, cn.subCs, cT, bg, a9, cg, az, a3, bn, aJ, bz, bo, aY, bF, ax, cu, cO, c6, aq, aX, bR, cI, cj, cY, cR, aV, an, bY, bj, zC, argS, bG, cH, cP, cW, ah, aw, aW, aA, cd, leC, ca, bP, cG, cS, bU, ay, aL, cK, au, cp, a7, a7.viewCs, bH, bH.flatCs, aR, aR.LensOks, Value.oneCell', ↓reduceIte, ite_true, ite_false, if_true, if_false, Nat.reduceAdd, Nat.reduceSub, Nat.reduceMul, Nat.reduceEqDiff, Nat.reduceLT, Nat.reduceLeDiff, reduceCtorEq, Int.reduceToNat, forall_const, implies_true, bm, Ent.mk3, bC, bu, bw, a5, a6, aZ, bK, bB, bI, bJ, bk, cD, bD, cQ, rn, bT, bT.renCs, aT, aU, aN, aN.viewOks, aI, a8, a8.flatBs, aG, ag, aH, ar, aQ, bv, bv.keysBs, aE, am, bp, bS, be, cC, af, af.passKs, aB, aO, ae, ae.lendKs, bV, cq, bW, bq, setInn, ai, cZ, cL, aC, bf, bZ, cc, aD, aP, Glob.gl, av, co, bL, b0, br, aj, bX, cM, cB, cV, bN, ap, ap.ptrOnlys, ak, aK, cz, aM, a4, bA, ce, aF, bh, cF, Nat.reduceBEq, undef]
  refine ⟨by omega, by omega, ?_⟩
  rw [← hb]
  rfl
theorem wf_regC {p : Prop} [Decidable p] (r : Reg) : keysIn [] (if p then enc r else zregC) := by
  split
  · exact ⟨trivial, trivial, trivial, trivial⟩
  · exact ⟨trivial, trivial, trivial, trivial⟩
def e71 : Ent Try.prog := .of1 71 (fun _ => True) (fun r : Reg => .tup [enc (if regErr r = 0 then r.state.getD 0 0 else 0), if regErr r = 0 then enc (nextR r) else zregC, enc (regErr r)]) (fun r => ⟨trivial, wf_regC _, trivial, trivial⟩) (fun r _ => Next_c r)
end Go.Proofs.Ytfgpbmjmoobcnaa
end
section
open Go Go.Am
open Go.Am.Dat (cells)
namespace Go.Proofs.Ytfgpbmjmoobcnaa
set_option maxHeartbeats 4000000
set_option maxRecDepth 100000
set_option linter.unusedSimpArgs false
set_option linter.unusedVariables false
def perW (w : Wire) : Nat := ((List.range 1024).find? fun i => decide ((runW w (i + 1)).bits = w.bits)).getD 0 + 1
structure PerOk (w : Wire) : Prop where
  ok : w.Ok
  ex : ∃ i, i < 1024 ∧ (runW w (i + 1)).bits = w.bits
theorem perW_spec {w : Wire} (hw : PerOk w) : (1 ≤ perW w ∧ perW w ≤ 1024) ∧ (runW w (perW w)).bits = w.bits ∧ ∀ m, 0 < m → m < perW w → (runW w m).bits ≠ w.bits := by
  unfold perW
  cases hq : (List.range 1024).find? fun i => decide ((runW w (i + 1)).bits = w.bits) with
  | none =>
    exfalso
    obtain ⟨i, h1, h2⟩ := hw.ex
    rw [List.find?_eq_none] at hq
    exact hq i (List.mem_range.2 h1) (by simpa using h2)
  | some i =>
    rw [List.find?_range_eq_some] at hq
    obtain ⟨h1, h2, h3⟩ := hq
    have h2 := List.mem_range.1 h2
    refine ⟨⟨by omega, by simp; omega⟩, by simpa using h1, fun m hm0 hm => ?_⟩
    have h4 := h3 (m - 1) (by simp at hm; omega)
    rw [show m - 1 + 1 = m by omega] at h4
    simpa using h4
theorem bits_iff {r : Reg} (hr : RegOk r) (n : Nat) : (runW (wireW r) n).bits = (wireW r).bits ↔ (runR r n).state = r.state := by
  rw [wire_run hr]
  have ho := runR_ok hr n
  have h1 := ho.stl
  have h2 := hr.stl
  have h3 := (runR_same r n).2
  constructor
  · intro h
    exact bits_inj ho.bits hr.bits (by omega) h
  · intro h
    show bitsS (runR r n).state (runR r n).state.length = bitsS r.state r.state.length
    rw [h]
theorem perW_wire {r : Reg} (hr : RegOk r) : perW (wireW r) = perR r := by
  unfold perW perR
  have e : (fun i => decide ((runW (wireW r) (i + 1)).bits = (wireW r).bits)) = fun i => decide ((runR r (i + 1)).state = r.state) := by
    funext i
    rw [decide_eq_decide]
    exact bits_iff hr (i + 1)
  rw [e]
theorem perOk_wire {r : Reg} (hr : RegOk r) : PerOk (wireW r) := by
  refine ⟨wireW_ok hr, ?_⟩
  obtain ⟨i, h1, h2⟩ := per_ex hr
  exact ⟨i, h1, (bits_iff hr (i + 1)).2 h2⟩
end Go.Proofs.Ytfgpbmjmoobcnaa
end
