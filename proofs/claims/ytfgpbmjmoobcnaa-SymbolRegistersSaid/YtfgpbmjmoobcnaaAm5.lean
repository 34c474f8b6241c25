/- Part 5 of the proof of: SymbolRegisters returns true for every input and never panics: which registers are right, what a step and several steps give out, and the register behind many, or the errors, are as the reference says; conditions: none beyond the given statement. -/
import Derived.Test.YtfgpbmjmoobcnaaAm4
set_option linter.all false
section
open Go Go.Am
open Go.Am.Dat (cells)
namespace Go.Proofs.Ytfgpbmjmoobcnaa
set_option maxHeartbeats 4000000
set_option linter.unusedSimpArgs false
theorem modulated_c (n : Int) (l : List Int) : FC Try.prog 24 [enc n, enc l] [] (.tup [enc (if modErr n l = 0 then modS n.toNat l (l.length / n.toNat) else []), enc (modErr n l)]) [] := by
  refine fc_introC [] is24 (by simp) trivial trivial trivial trivial (fun cx hcx hl _ => S_run [e95, e98, e80, e99] 800 ?_)
  by_cases hf : firstS [orderErrS n, bitsErrS l] = 0
  · have ho : orderErrS n = 0 := by simp only [firstS] at hf; grind
    have hbe : bitsErrS l = 0 := by simp only [firstS] at hf; grind
    have hn : n = 2 ∨ n = 4 ∨ n = 6 := by unfold orderErrS at ho; grind
    obtain ⟨m, rfl⟩ : ∃ m : Nat, n = (m : Int) := ⟨n.toNat, by omega⟩
    have hm : 0 < m := by omega
    have hmne : ¬ (m : Int) = 0 := by omega
    obtain ⟨hl0, hl4, hbits⟩ := bitsErrS_ok hbe
    have htm : (l.length : Int).tmod (m : Int) = ((l.length % m : Nat) : Int) := by
      rw [Int.tmod_eq_emod_of_nonneg (by omega)]; push_cast; rfl
    have hem : (l.length : Int) % (m : Int) = ((l.length % m : Nat) : Int) := by push_cast; rfl
    by_cases hr : l.length % m = 0
    · have hr2 : ((l.length % m : Nat) : Int) = 0 := by omega
      have hme : modErr m l = 0 := by unfold modErr; rw [if_neg (fun h => h ho), if_neg (fun h => h hbe), hem, if_neg (fun h => h hr2)]
      delta c24
      simp (maxSteps := 4000000) -implicitDefEqProofs only [rv24, e95, e98, e80, e99, hf, htm, hr2, hme, Int.toNat_natCast, InR, Ent.of0, Ent.of1, Ent.of2, Ent.of3, V, bS, bA, bB, ca, cL, cP, gt, lk, bR, cq, cg, cb, cF, bZ, bZ.subCs, cQ, a4, bj, b0, aO, bw, a3, aD, bI, a9, az, a8, aW, bX, cT, cZ, an, aH, cD, cc, cn, cV, cU, ay, ak, ce, bt, zC, argS, a7, cI, c6, cR, aj, aC, aI, aV, bP, leC, bT, cm, cp, cM, cG, aX, aP, cK, ap, cd, bm, bm.viewCs, bf, bf.flatCs, ax, ax.LensOks, Value.oneCell', ↓reduceIte, ite_true, ite_false, if_true, if_false, Nat.reduceAdd, Nat.reduceSub, Nat.reduceMul, Nat.reduceEqDiff, Nat.reduceLT, Nat.reduceLeDiff, reduceCtorEq, Int.reduceToNat, forall_const, implies_true, bv, Ent.mk3, bE, bC, be, a6, bL, a5, br, bK, bu, bh, bH, cu, bJ, cS, rn, co, co.renCs, aN, aT, aR, aR.viewOks, aJ, bz, bz.flatBs, aG, aq, aY, au, aA, bo, bo.keysBs, av, ar, bk, bM, bF, bW, af, af.passKs, aM, aU, ae, ae.lendKs, cr, bU, bV, bG, setInn, am, cW, cO, aB, aZ, bY, bN, aK, aw, Glob.gl, aQ, cj, bn, bQ, bD, ah, cC, cN, cz, cY, bO, ai, ai.ptrOnlys, ag, aL, cJ, aF, bp, bg, cH, aE, bq, cB, Nat.reduceBEq, undef]
      refine ⟨hmne, by omega, ?_⟩
      obtain ⟨N, hN⟩ : ∃ N, l.length / m = N := ⟨_, rfl⟩
      have hlN : l.length = N * m := by rw [← hN]; exact (Nat.div_mul_cancel (Nat.dvd_of_mod_eq_zero hr)).symm
      have hN0 : 0 < N := by rcases Nat.eq_zero_or_pos N with e | e; (rw [e, Nat.zero_mul] at hlN; omega); exact e
      have hNl : N ≤ 400 := by
        have := Nat.le_mul_of_pos_right N hm
        omega
      rw [hN]
      refine S_sh 200000 (by rw [hcx.2.2]; exact Nat.le_refl _) (by rfl) ?_
      simp (maxSteps := 4000000) -implicitDefEqProofs only [Ent.of0, Ent.of1, Ent.of2, Ent.of3, V, bS, bA, bB, ca, cL, cP, gt, lk, bR, cq, cg, cb, cF, bZ, bZ.subCs, cQ, a4, bj, b0, aO, bw, a3, aD, bI, a9, az, a8, aW, bX, cT, cZ, an, aH, cD, cc, cn, cV, cU, ay, ak, ce, bt, zC, argS, a7, cI, c6, cR, aj, aC, aI, aV, bP, leC, bT, cm, cp, cM, cG, aX, aP, cK, ap, cd, bm, bm.viewCs, bf, bf.flatCs, ax, ax.LensOks, Value.oneCell', ↓reduceIte, ite_true, ite_false, if_true, if_false, Nat.reduceAdd, Nat.reduceSub, Nat.reduceMul, Nat.reduceEqDiff, Nat.reduceLT, Nat.reduceLeDiff, reduceCtorEq, Int.reduceToNat, forall_const, implies_true, bv, Ent.mk3, bE, bC, be, a6, bL, a5, br, bK, bu, bh, bH, cu, bJ, cS, rn, co, co.renCs, aN, aT, aR, aR.viewOks, aJ, bz, bz.flatBs, aG, aq, aY, au, aA, bo, bo.keysBs, av, ar, bk, bM, bF, bW, af, af.passKs, aM, aU, ae, ae.lendKs, cr, bU, bV, bG, setInn, am, cW, cO, aB, aZ, bY, bN, aK, aw, Glob.gl, aQ, cj, bn, bQ, bD, ah, cC, cN, cz, cY, bO, ai, ai.ptrOnlys, ag, aL, cJ, aF, bp, bg, cH, aE, bq, cB, Nat.reduceBEq, undef]
      have hcells : ∀ i, i ≠ 0 → (if i = 0 then C.s (.slice none 0 0) else C.isl 2 48 ((modS m l i).map cells)) = C.isl 2 48 ((modS m l i).map cells) := fun i hi => if_neg hi
      refine S_rangeFunc (f := 130) (first := []) (caps := [.ptr 200025 0, .ptr 201025 0]) (ich := [(200025, .box [.sl 1 (l.map cells)]), (201025, .box [.s (.int .i64 (m : Int))])]) (kr := 100000) (vals := chunkV l m) (N := N) (fin := true) [200007]
        (fun i => [(200007, .box [if i = 0 then .s (.slice none 0 0) else .isl 2 48 ((modS m l i).map cells)])])
        hcx.2.1 rfl (chunk_c l m N hm hN0 hlN (by omega)) ⟨?_, ?_⟩ ⟨fun c hc => ?_, fun k c hc => ?_⟩ ?_ (fun i hi => ?_) (fun k hk => ?_) (fun i hi => ?_) (fun i hi cx' _ hcx' => S_run [] 800 ?_) (fun _ => ?_)
      · simp (maxSteps := 4000000) -implicitDefEqProofs only [Ent.of0, Ent.of1, Ent.of2, Ent.of3, V, bS, bA, bB, ca, cL, cP, gt, lk, bR, cq, cg, cb, cF, bZ, bZ.subCs, cQ, a4, bj, b0, aO, bw, a3, aD, bI, a9, az, a8, aW, bX, cT, cZ, an, aH, cD, cc, cn, cV, cU, ay, ak, ce, bt, zC, argS, a7, cI, c6, cR, aj, aC, aI, aV, bP, leC, bT, cm, cp, cM, cG, aX, aP, cK, ap, cd, bm, bm.viewCs, bf, bf.flatCs, ax, ax.LensOks, Value.oneCell', ↓reduceIte, ite_true, ite_false, if_true, if_false, Nat.reduceAdd, Nat.reduceSub, Nat.reduceMul, Nat.reduceEqDiff, Nat.reduceLT, Nat.reduceLeDiff, reduceCtorEq, Int.reduceToNat, forall_const, implies_true, bv, Ent.mk3, bE, bC, be, a6, bL, a5, br, bK, bu, bh, bH, cu, bJ, cS, rn, co, co.renCs, aN, aT, aR, aR.viewOks, aJ, bz, bz.flatBs, aG, aq, aY, au, aA, bo, bo.keysBs, av, ar, bk, bM, bF, bW, af, af.passKs, aM, aU, ae, ae.lendKs, cr, bU, bV, bG, setInn, am, cW, cO, aB, aZ, bY, bN, aK, aw, Glob.gl, aQ, cj, bn, bQ, bD, ah, cC, cN, cz, cY, bO, ai, ai.ptrOnlys, ag, aL, cJ, aF, bp, bg, cH, aE, bq, cB, Nat.reduceBEq, undef]
      · simp (maxSteps := 4000000) -implicitDefEqProofs only [Ent.of0, Ent.of1, Ent.of2, Ent.of3, V, bS, bA, bB, ca, cL, cP, gt, lk, bR, cq, cg, cb, cF, bZ, bZ.subCs, cQ, a4, bj, b0, aO, bw, a3, aD, bI, a9, az, a8, aW, bX, cT, cZ, an, aH, cD, cc, cn, cV, cU, ay, ak, ce, bt, zC, argS, a7, cI, c6, cR, aj, aC, aI, aV, bP, leC, bT, cm, cp, cM, cG, aX, aP, cK, ap, cd, bm, bm.viewCs, bf, bf.flatCs, ax, ax.LensOks, Value.oneCell', ↓reduceIte, ite_true, ite_false, if_true, if_false, Nat.reduceAdd, Nat.reduceSub, Nat.reduceMul, Nat.reduceEqDiff, Nat.reduceLT, Nat.reduceLeDiff, reduceCtorEq, Int.reduceToNat, forall_const, implies_true, bv, Ent.mk3, bE, bC, be, a6, bL, a5, br, bK, bu, bh, bH, cu, bJ, cS, rn, co, co.renCs, aN, aT, aR, aR.viewOks, aJ, bz, bz.flatBs, aG, aq, aY, au, aA, bo, bo.keysBs, av, ar, bk, bM, bF, bW, af, af.passKs, aM, aU, ae, ae.lendKs, cr, bU, bV, bG, setInn, am, cW, cO, aB, aZ, bY, bN, aK, aw, Glob.gl, aQ, cj, bn, bQ, bD, ah, cC, cN, cz, cY, bO, ai, ai.ptrOnlys, ag, aL, cJ, aF, bp, bg, cH, aE, bq, cB, Nat.reduceBEq, undef]
      · simp only [List.nil_append, List.mem_cons, List.not_mem_nil, or_false] at hc
        rcases hc with rfl | rfl <;> simp [keysIn, aP]
      · simp only [List.mem_cons, Prod.mk.injEq, List.not_mem_nil, or_false] at hc
        rcases hc with ⟨rfl, rfl⟩ | ⟨rfl, rfl⟩ <;> exact ⟨trivial, trivial⟩
      · simp (maxSteps := 4000000) -implicitDefEqProofs only [Ent.of0, Ent.of1, Ent.of2, Ent.of3, V, bS, bA, bB, ca, cL, cP, gt, lk, bR, cq, cg, cb, cF, bZ, bZ.subCs, cQ, a4, bj, b0, aO, bw, a3, aD, bI, a9, az, a8, aW, bX, cT, cZ, an, aH, cD, cc, cn, cV, cU, ay, ak, ce, bt, zC, argS, a7, cI, c6, cR, aj, aC, aI, aV, bP, leC, bT, cm, cp, cM, cG, aX, aP, cK, ap, cd, bm, bm.viewCs, bf, bf.flatCs, ax, ax.LensOks, Value.oneCell', ↓reduceIte, ite_true, ite_false, if_true, if_false, Nat.reduceAdd, Nat.reduceSub, Nat.reduceMul, Nat.reduceEqDiff, Nat.reduceLT, Nat.reduceLeDiff, reduceCtorEq, Int.reduceToNat, forall_const, implies_true, bv, Ent.mk3, bE, bC, be, a6, bL, a5, br, bK, bu, bh, bH, cu, bJ, cS, rn, co, co.renCs, aN, aT, aR, aR.viewOks, aJ, bz, bz.flatBs, aG, aq, aY, au, aA, bo, bo.keysBs, av, ar, bk, bM, bF, bW, af, af.passKs, aM, aU, ae, ae.lendKs, cr, bU, bV, bG, setInn, am, cW, cO, aB, aZ, bY, bN, aK, aw, Glob.gl, aQ, cj, bn, bQ, bD, ah, cC, cN, cz, cY, bO, ai, ai.ptrOnlys, ag, aL, cJ, aF, bp, bg, cH, aE, bq, cB, Nat.reduceBEq, undef]
      · simp (maxSteps := 4000000) -implicitDefEqProofs only [Ent.of0, Ent.of1, Ent.of2, Ent.of3, V, bS, bA, bB, ca, cL, cP, gt, lk, bR, cq, cg, cb, cF, bZ, bZ.subCs, cQ, a4, bj, b0, aO, bw, a3, aD, bI, a9, az, a8, aW, bX, cT, cZ, an, aH, cD, cc, cn, cV, cU, ay, ak, ce, bt, zC, argS, a7, cI, c6, cR, aj, aC, aI, aV, bP, leC, bT, cm, cp, cM, cG, aX, aP, cK, ap, cd, bm, bm.viewCs, bf, bf.flatCs, ax, ax.LensOks, Value.oneCell', ↓reduceIte, ite_true, ite_false, if_true, if_false, Nat.reduceAdd, Nat.reduceSub, Nat.reduceMul, Nat.reduceEqDiff, Nat.reduceLT, Nat.reduceLeDiff, reduceCtorEq, Int.reduceToNat, forall_const, implies_true, bv, Ent.mk3, bE, bC, be, a6, bL, a5, br, bK, bu, bh, bH, cu, bJ, cS, rn, co, co.renCs, aN, aT, aR, aR.viewOks, aJ, bz, bz.flatBs, aG, aq, aY, au, aA, bo, bo.keysBs, av, ar, bk, bM, bF, bW, af, af.passKs, aM, aU, ae, ae.lendKs, cr, bU, bV, bG, setInn, am, cW, cO, aB, aZ, bY, bN, aK, aw, Glob.gl, aQ, cj, bn, bQ, bD, ah, cC, cN, cz, cY, bO, ai, ai.ptrOnlys, ag, aL, cJ, aF, bp, bg, cH, aE, bq, cB, Nat.reduceBEq, undef]
        simp
      · rw [hcx.2.2]
        simp only [List.mem_cons, List.not_mem_nil, or_false] at hk
        omega
      · refine ⟨rfl, fun c hc => ?_⟩
        simp only [chunkV, List.mem_singleton] at hc; subst hc; trivial
      · simp (maxSteps := 4000000) -implicitDefEqProofs only [chunkV, Ent.of0, Ent.of1, Ent.of2, Ent.of3, V, bS, bA, bB, ca, cL, cP, gt, lk, bR, cq, cg, cb, cF, bZ, bZ.subCs, cQ, a4, bj, b0, aO, bw, a3, aD, bI, a9, az, a8, aW, bX, cT, cZ, an, aH, cD, cc, cn, cV, cU, ay, ak, ce, bt, zC, argS, a7, cI, c6, cR, aj, aC, aI, aV, bP, leC, bT, cm, cp, cM, cG, aX, aP, cK, ap, cd, bm, bm.viewCs, bf, bf.flatCs, ax, ax.LensOks, Value.oneCell', ↓reduceIte, ite_true, ite_false, if_true, if_false, Nat.reduceAdd, Nat.reduceSub, Nat.reduceMul, Nat.reduceEqDiff, Nat.reduceLT, Nat.reduceLeDiff, reduceCtorEq, Int.reduceToNat, forall_const, implies_true, bv, Ent.mk3, bE, bC, be, a6, bL, a5, br, bK, bu, bh, bH, cu, bJ, cS, rn, co, co.renCs, aN, aT, aR, aR.viewOks, aJ, bz, bz.flatBs, aG, aq, aY, au, aA, bo, bo.keysBs, av, ar, bk, bM, bF, bW, af, af.passKs, aM, aU, ae, ae.lendKs, cr, bU, bV, bG, setInn, am, cW, cO, aB, aZ, bY, bN, aK, aw, Glob.gl, aQ, cj, bn, bQ, bD, ah, cC, cN, cz, cY, bO, ai, ai.ptrOnlys, ag, aL, cJ, aF, bp, bg, cH, aE, bq, cB, Nat.reduceBEq, undef]
        intro cx'' _ _
        refine S_run [e96] 800 ?_
        obtain ⟨g1, g2⟩ := chunk_ok hlN hbits hi
        have g3 : (chunkAt l m i).length = 2 ∨ (chunkAt l m i).length = 4 ∨ (chunkAt l m i).length = 6 := by omega
        cases i with
        | zero =>
          have h1 : [[C.s (.int .i64 (pointS (chunkAt l m 0)).re), C.s (.int .i64 (pointS (chunkAt l m 0)).im)]] = (modS m l 1).map cells := by simp [modS, List.range_succ, cells_gs]
          have hl1 := modS_length m l 1
          delta c24r1
          simp (maxSteps := 4000000) -implicitDefEqProofs only [e96, g2, g3, h1, InR, Ent.of0, Ent.of1, Ent.of2, Ent.of3, V, bS, bA, bB, ca, cL, cP, gt, lk, bR, cq, cg, cb, cF, bZ, bZ.subCs, cQ, a4, bj, b0, aO, bw, a3, aD, bI, a9, az, a8, aW, bX, cT, cZ, an, aH, cD, cc, cn, cV, cU, ay, ak, ce, bt, zC, argS, a7, cI, c6, cR, aj, aC, aI, aV, bP, leC, bT, cm, cp, cM, cG, aX, aP, cK, ap, cd, bm, bm.viewCs, bf, bf.flatCs, ax, ax.LensOks, Value.oneCell', ↓reduceIte, ite_true, ite_false, if_true, if_false, Nat.reduceAdd, Nat.reduceSub, Nat.reduceMul, Nat.reduceEqDiff, Nat.reduceLT, Nat.reduceLeDiff, reduceCtorEq, Int.reduceToNat, forall_const, implies_true, bv, Ent.mk3, bE, bC, be, a6, bL, a5, br, bK, bu, bh, bH, cu, bJ, cS, rn, co, co.renCs, aN, aT, aR, aR.viewOks, aJ, bz, bz.flatBs, aG, aq, aY, au, aA, bo, bo.keysBs, av, ar, bk, bM, bF, bW, af, af.passKs, aM, aU, ae, ae.lendKs, cr, bU, bV, bG, setInn, am, cW, cO, aB, aZ, bY, bN, aK, aw, Glob.gl, aQ, cj, bn, bQ, bD, ah, cC, cN, cz, cY, bO, ai, ai.ptrOnlys, ag, aL, cJ, aF, bp, bg, cH, aE, bq, cB, Nat.reduceBEq, undef]
          exact ⟨⟨by omega, by omega⟩, by decide, .inr trivial⟩
        | succ i =>
          have h1 : (modS m l (i + 1)).map cells ++ [[C.s (.int .i64 (pointS (chunkAt l m (i + 1))).re), C.s (.int .i64 (pointS (chunkAt l m (i + 1))).im)]] = (modS m l (i + 1 + 1)).map cells := by rw [modS_succ m l (i + 1), List.map_append]; rfl
          have h2 := modS_length m l (i + 1)
          delta c24r1
          simp (maxSteps := 4000000) -implicitDefEqProofs only [e96, g2, g3, h1, h2, Nat.succ_ne_zero, InR, Ent.of0, Ent.of1, Ent.of2, Ent.of3, V, bS, bA, bB, ca, cL, cP, gt, lk, bR, cq, cg, cb, cF, bZ, bZ.subCs, cQ, a4, bj, b0, aO, bw, a3, aD, bI, a9, az, a8, aW, bX, cT, cZ, an, aH, cD, cc, cn, cV, cU, ay, ak, ce, bt, zC, argS, a7, cI, c6, cR, aj, aC, aI, aV, bP, leC, bT, cm, cp, cM, cG, aX, aP, cK, ap, cd, bm, bm.viewCs, bf, bf.flatCs, ax, ax.LensOks, Value.oneCell', ↓reduceIte, ite_true, ite_false, if_true, if_false, Nat.reduceAdd, Nat.reduceSub, Nat.reduceMul, Nat.reduceEqDiff, Nat.reduceLT, Nat.reduceLeDiff, reduceCtorEq, Int.reduceToNat, forall_const, implies_true, bv, Ent.mk3, bE, bC, be, a6, bL, a5, br, bK, bu, bh, bH, cu, bJ, cS, rn, co, co.renCs, aN, aT, aR, aR.viewOks, aJ, bz, bz.flatBs, aG, aq, aY, au, aA, bo, bo.keysBs, av, ar, bk, bM, bF, bW, af, af.passKs, aM, aU, ae, ae.lendKs, cr, bU, bV, bG, setInn, am, cW, cO, aB, aZ, bY, bN, aK, aw, Glob.gl, aQ, cj, bn, bQ, bD, ah, cC, cN, cz, cY, bO, ai, ai.ptrOnlys, ag, aL, cJ, aF, bp, bg, cH, aE, bq, cB, Nat.reduceBEq, undef]
          exact ⟨⟨by decide, by omega, by omega⟩, by decide, .inr trivial⟩
      · rw [if_neg (by omega : ¬ N = 0)]
        refine S_fzb 200007 rfl (S_run [] 800 ?_)
        simp (maxSteps := 4000000) -implicitDefEqProofs only [rv24, hme, Ent.of0, Ent.of1, Ent.of2, Ent.of3, V, bS, bA, bB, ca, cL, cP, gt, lk, bR, cq, cg, cb, cF, bZ, bZ.subCs, cQ, a4, bj, b0, aO, bw, a3, aD, bI, a9, az, a8, aW, bX, cT, cZ, an, aH, cD, cc, cn, cV, cU, ay, ak, ce, bt, zC, argS, a7, cI, c6, cR, aj, aC, aI, aV, bP, leC, bT, cm, cp, cM, cG, aX, aP, cK, ap, cd, bm, bm.viewCs, bf, bf.flatCs, ax, ax.LensOks, Value.oneCell', ↓reduceIte, ite_true, ite_false, if_true, if_false, Nat.reduceAdd, Nat.reduceSub, Nat.reduceMul, Nat.reduceEqDiff, Nat.reduceLT, Nat.reduceLeDiff, reduceCtorEq, Int.reduceToNat, forall_const, implies_true, bv, Ent.mk3, bE, bC, be, a6, bL, a5, br, bK, bu, bh, bH, cu, bJ, cS, rn, co, co.renCs, aN, aT, aR, aR.viewOks, aJ, bz, bz.flatBs, aG, aq, aY, au, aA, bo, bo.keysBs, av, ar, bk, bM, bF, bW, af, af.passKs, aM, aU, ae, ae.lendKs, cr, bU, bV, bG, setInn, am, cW, cO, aB, aZ, bY, bN, aK, aw, Glob.gl, aQ, cj, bn, bQ, bD, ah, cC, cN, cz, cY, bO, ai, ai.ptrOnlys, ag, aL, cJ, aF, bp, bg, cH, aE, bq, cB, Nat.reduceBEq, undef]
    · have hr2 : ¬ ((l.length % m : Nat) : Int) = 0 := by omega
      have hme : modErr m l = 10 := by unfold modErr; rw [if_neg (fun h => h ho), if_neg (fun h => h hbe), hem, if_pos hr2]
      have h10 : ¬ (10 : Int) = 0 := by decide
      delta c24
      simp (maxSteps := 4000000) -implicitDefEqProofs only [rv24, e95, e98, e80, e99, hf, htm, hr2, hme, h10, InR, Ent.of0, Ent.of1, Ent.of2, Ent.of3, V, bS, bA, bB, ca, cL, cP, gt, lk, bR, cq, cg, cb, cF, bZ, bZ.subCs, cQ, a4, bj, b0, aO, bw, a3, aD, bI, a9, az, a8, aW, bX, cT, cZ, an, aH, cD, cc, cn, cV, cU, ay, ak, ce, bt, zC, argS, a7, cI, c6, cR, aj, aC, aI, aV, bP, leC, bT, cm, cp, cM, cG, aX, aP, cK, ap, cd, bm, bm.viewCs, bf, bf.flatCs, ax, ax.LensOks, Value.oneCell', ↓reduceIte, ite_true, ite_false, if_true, if_false, Nat.reduceAdd, Nat.reduceSub, Nat.reduceMul, Nat.reduceEqDiff, Nat.reduceLT, Nat.reduceLeDiff, reduceCtorEq, Int.reduceToNat, forall_const, implies_true, bv, Ent.mk3, bE, bC, be, a6, bL, a5, br, bK, bu, bh, bH, cu, bJ, cS, rn, co, co.renCs, aN, aT, aR, aR.viewOks, aJ, bz, bz.flatBs, aG, aq, aY, au, aA, bo, bo.keysBs, av, ar, bk, bM, bF, bW, af, af.passKs, aM, aU, ae, ae.lendKs, cr, bU, bV, bG, setInn, am, cW, cO, aB, aZ, bY, bN, aK, aw, Glob.gl, aQ, cj, bn, bQ, bD, ah, cC, cN, cz, cY, bO, ai, ai.ptrOnlys, ag, aL, cJ, aF, bp, bg, cH, aE, bq, cB, Nat.reduceBEq, undef]
      exact hmne
  · have hme : modErr n l = firstS [orderErrS n, bitsErrS l] := by
      unfold modErr; simp only [firstS] at hf ⊢; grind
    delta c24
    simp (maxSteps := 4000000) -implicitDefEqProofs only [rv24, e95, e98, e80, e99, hf, hme, InR, Ent.of0, Ent.of1, Ent.of2, Ent.of3, V, bS, bA, bB, ca, cL, cP, gt, lk, bR, cq, cg, cb, cF, bZ, bZ.subCs, cQ, a4, bj, b0, aO, bw, a3, aD, bI, a9, az, a8, aW, bX, cT, cZ, an, aH, cD, cc, cn, cV, cU, ay, ak, ce, bt, zC, argS, a7, cI, c6, cR, aj, aC, aI, aV, bP, leC, bT, cm, cp, cM, cG, aX, aP, cK, ap, cd, bm, bm.viewCs, bf, bf.flatCs, ax, ax.LensOks, Value.oneCell', ↓reduceIte, ite_true, ite_false, if_true, if_false, Nat.reduceAdd, Nat.reduceSub, Nat.reduceMul, Nat.reduceEqDiff, Nat.reduceLT, Nat.reduceLeDiff, reduceCtorEq, Int.reduceToNat, forall_const, implies_true, bv, Ent.mk3, bE, bC, be, a6, bL, a5, br, bK, bu, bh, bH, cu, bJ, cS, rn, co, co.renCs, aN, aT, aR, aR.viewOks, aJ, bz, bz.flatBs, aG, aq, aY, au, aA, bo, bo.keysBs, av, ar, bk, bM, bF, bW, af, af.passKs, aM, aU, ae, ae.lendKs, cr, bU, bV, bG, setInn, am, cW, cO, aB, aZ, bY, bN, aK, aw, Glob.gl, aQ, cj, bn, bQ, bD, ah, cC, cN, cz, cY, bO, ai, ai.ptrOnlys, ag, aL, cJ, aF, bp, bg, cH, aE, bq, cB, Nat.reduceBEq, undef]
def e24 : Ent Try.prog := .of2 24 (fun _ _ => True) (fun (n : Int) (l : List Int) => .tup [enc (if modErr n l = 0 then modS n.toNat l (l.length / n.toNat) else []), enc (modErr n l)]) (fun _ _ => ⟨trivial, trivial, trivial⟩) (fun n l _ => modulated_c n l)
end Go.Proofs.Ytfgpbmjmoobcnaa
end
section
open Go Go.Am
open Go.Am.Dat (cells)
namespace Go.Proofs.Ytfgpbmjmoobcnaa
set_option maxHeartbeats 4000000
set_option maxRecDepth 100000
set_option linter.unusedSimpArgs false
def ofLevelI (c : Nat) (n : Int) : Option Nat := (List.range (2 ^ c)).find? fun i => decide (levelS (bitsOfS i c c) = n)
def ofLevelC (c : Nat) (n : Int) : C := match ofLevelI c n with | some i => enc (bitsOfS i c c) | none => .s (.slice none 0 0)
theorem ofLevel_c (c : Nat) (n : Int) (hc : 1 ≤ c ∧ c ≤ 6) : FC Try.prog 104 [enc (c : Int), enc n] [] (ofLevelC c n) [] := by
  have hp : 2 ^ c ≤ 2 ^ 6 := Nat.pow_le_pow_right (by decide) hc.2
  refine fc_intro' is104 (by simp) (fun cx hl => S_run [] 800 ?_)
  have hm : min c IntKind.i64.bits = c := Nat.min_eq_left (by show c ≤ 64; omega)
  have hpc : (1 : Int) * 2 ^ c = ((2 ^ c : Nat) : Int) := by push_cast; rw [Int.one_mul]
  have hq1 : (0 : Int) < 2 ^ c := Int.pow_pos (by decide)
  have hq2 : (2 : Int) ^ c ≤ 64 := by exact_mod_cast hp
  delta c104
  simp (maxSteps := 4000000) -implicitDefEqProofs only [rv104, hm, hpc, InR, Ent.of0, Ent.of1, Ent.of2, Ent.of3, V, bS, bA, bB, ca, cL, cP, gt, lk, bR, cq, cg, cb, cF, bZ, bZ.subCs, cQ, a4, bj, b0, aO, bw, a3, aD, bI, a9, az, a8, aW, bX, cT, cZ, an, aH, cD, cc, cn, cV, cU, ay, ak, ce, bt, zC, argS, a7, cI, c6, cR, aj, aC, aI, aV, bP, leC, bT, cm, cp, cM, cG, aX, aP, cK, ap, cd, bm, bm.viewCs, bf, bf.flatCs, ax, ax.LensOks, Value.oneCell', ↓reduceIte, ite_true, ite_false, if_true, if_false, Nat.reduceAdd, Nat.reduceSub, Nat.reduceMul, Nat.reduceEqDiff, Nat.reduceLT, Nat.reduceLeDiff, reduceCtorEq, Int.reduceToNat, forall_const, implies_true, bv, Ent.mk3, bE, bC, be, a6, bL, a5, br, bK, bu, bh, bH, cu, bJ, cS, rn, co, co.renCs, aN, aT, aR, aR.viewOks, aJ, bz, bz.flatBs, aG, aq, aY, au, aA, bo, bo.keysBs, av, ar, bk, bM, bF, bW, af, af.passKs, aM, aU, ae, ae.lendKs, cr, bU, bV, bG, setInn, am, cW, cO, aB, aZ, bY, bN, aK, aw, Glob.gl, aQ, cj, bn, bQ, bD, ah, cC, cN, cz, cY, bO, ai, ai.ptrOnlys, ag, aL, cJ, aF, bp, bg, cH, aE, bq, cB, Nat.reduceBEq, undef]
  refine ⟨by omega, ?_⟩
  refine S_forU (2 ^ c) (fun i => [(9, .s (.int .i64 (i : Int)))]) (fun _ => []) (fun i => ∀ j, j < i → ¬ levelS (bitsOfS j c c) = n) (by omega) ?_ (fun i hi hv => S_run [e97, e106] 800 ?_)
  · simp (maxSteps := 4000000) -implicitDefEqProofs only [Ent.of0, Ent.of1, Ent.of2, Ent.of3, V, bS, bA, bB, ca, cL, cP, gt, lk, bR, cq, cg, cb, cF, bZ, bZ.subCs, cQ, a4, bj, b0, aO, bw, a3, aD, bI, a9, az, a8, aW, bX, cT, cZ, an, aH, cD, cc, cn, cV, cU, ay, ak, ce, bt, zC, argS, a7, cI, c6, cR, aj, aC, aI, aV, bP, leC, bT, cm, cp, cM, cG, aX, aP, cK, ap, cd, bm, bm.viewCs, bf, bf.flatCs, ax, ax.LensOks, Value.oneCell', ↓reduceIte, ite_true, ite_false, if_true, if_false, Nat.reduceAdd, Nat.reduceSub, Nat.reduceMul, Nat.reduceEqDiff, Nat.reduceLT, Nat.reduceLeDiff, reduceCtorEq, Int.reduceToNat, forall_const, implies_true, bv, Ent.mk3, bE, bC, be, a6, bL, a5, br, bK, bu, bh, bH, cu, bJ, cS, rn, co, co.renCs, aN, aT, aR, aR.viewOks, aJ, bz, bz.flatBs, aG, aq, aY, au, aA, bo, bo.keysBs, av, ar, bk, bM, bF, bW, af, af.passKs, aM, aU, ae, ae.lendKs, cr, bU, bV, bG, setInn, am, cW, cO, aB, aZ, bY, bN, aK, aw, Glob.gl, aQ, cj, bn, bQ, bD, ah, cC, cN, cz, cY, bO, ai, ai.ptrOnlys, ag, aL, cJ, aF, bp, bg, cH, aE, bq, cB, Nat.reduceBEq, undef]; simp
  · by_cases h : i < 2 ^ c
    · have hi2 : (i : Int) < ((2 ^ c : Nat) : Int) := by omega
      have hlen := bitsOfS_length i c c
      have hok := bitsOfS_ok i c c
      delta c104l1
      simp (maxSteps := 4000000) -implicitDefEqProofs only [rv104, hi2, h, e97, e106, Int.toNat_natCast, hlen, hok, InR, Ent.of0, Ent.of1, Ent.of2, Ent.of3, V, bS, bA, bB, ca, cL, cP, gt, lk, bR, cq, cg, cb, cF, bZ, bZ.subCs, cQ, a4, bj, b0, aO, bw, a3, aD, bI, a9, az, a8, aW, bX, cT, cZ, an, aH, cD, cc, cn, cV, cU, ay, ak, ce, bt, zC, argS, a7, cI, c6, cR, aj, aC, aI, aV, bP, leC, bT, cm, cp, cM, cG, aX, aP, cK, ap, cd, bm, bm.viewCs, bf, bf.flatCs, ax, ax.LensOks, Value.oneCell', ↓reduceIte, ite_true, ite_false, if_true, if_false, Nat.reduceAdd, Nat.reduceSub, Nat.reduceMul, Nat.reduceEqDiff, Nat.reduceLT, Nat.reduceLeDiff, reduceCtorEq, Int.reduceToNat, forall_const, implies_true, bv, Ent.mk3, bE, bC, be, a6, bL, a5, br, bK, bu, bh, bH, cu, bJ, cS, rn, co, co.renCs, aN, aT, aR, aR.viewOks, aJ, bz, bz.flatBs, aG, aq, aY, au, aA, bo, bo.keysBs, av, ar, bk, bM, bF, bW, af, af.passKs, aM, aU, ae, ae.lendKs, cr, bU, bV, bG, setInn, am, cW, cO, aB, aZ, bY, bN, aK, aw, Glob.gl, aQ, cj, bn, bQ, bD, ah, cC, cN, cz, cY, bO, ai, ai.ptrOnlys, ag, aL, cJ, aF, bp, bg, cH, aE, bq, cB, Nat.reduceBEq, undef]
      refine ⟨by omega, by omega, ?_⟩
      split
      · rename_i he
        have hn : ofLevelI c n = some i := by
          unfold ofLevelI
          rw [List.find?_range_eq_some]
          exact ⟨by simpa using he, List.mem_range.2 h, fun j hj => by simpa using hv j hj⟩
        simp only [ofLevelC, hn, enc_list, sz_int]
      · rename_i he
        refine ⟨by omega, fun j hj => ?_, by push_cast; rfl⟩
        by_cases hj2 : j = i
        · rw [hj2]; exact he
        · exact hv j (by omega)
    · have hi2 : ¬ (i : Int) < ((2 ^ c : Nat) : Int) := by omega
      have hn : ofLevelI c n = none := by
        unfold ofLevelI
        rw [List.find?_eq_none]
        intro x hx
        simpa using hv x (by have := List.mem_range.1 hx; omega)
      delta c104l1
      simp (maxSteps := 4000000) -implicitDefEqProofs only [rv104, hi2, ofLevelC, hn, InR, Ent.of0, Ent.of1, Ent.of2, Ent.of3, V, bS, bA, bB, ca, cL, cP, gt, lk, bR, cq, cg, cb, cF, bZ, bZ.subCs, cQ, a4, bj, b0, aO, bw, a3, aD, bI, a9, az, a8, aW, bX, cT, cZ, an, aH, cD, cc, cn, cV, cU, ay, ak, ce, bt, zC, argS, a7, cI, c6, cR, aj, aC, aI, aV, bP, leC, bT, cm, cp, cM, cG, aX, aP, cK, ap, cd, bm, bm.viewCs, bf, bf.flatCs, ax, ax.LensOks, Value.oneCell', ↓reduceIte, ite_true, ite_false, if_true, if_false, Nat.reduceAdd, Nat.reduceSub, Nat.reduceMul, Nat.reduceEqDiff, Nat.reduceLT, Nat.reduceLeDiff, reduceCtorEq, Int.reduceToNat, forall_const, implies_true, bv, Ent.mk3, bE, bC, be, a6, bL, a5, br, bK, bu, bh, bH, cu, bJ, cS, rn, co, co.renCs, aN, aT, aR, aR.viewOks, aJ, bz, bz.flatBs, aG, aq, aY, au, aA, bo, bo.keysBs, av, ar, bk, bM, bF, bW, af, af.passKs, aM, aU, ae, ae.lendKs, cr, bU, bV, bG, setInn, am, cW, cO, aB, aZ, bY, bN, aK, aw, Glob.gl, aQ, cj, bn, bQ, bD, ah, cC, cN, cz, cY, bO, ai, ai.ptrOnlys, ag, aL, cJ, aF, bp, bg, cH, aE, bq, cB, Nat.reduceBEq, undef]
def minS : List Int → Int
  | [] => 0
  | x :: l => l.foldl (fun a b => if b < a then b else a) x
theorem min_c (l : List Int) (h0 : 0 < l.length) : FC Try.prog 139 [enc l] [] (enc (minS l)) [] := by
  obtain ⟨x, t, rfl⟩ : ∃ x t, l = x :: t := by cases l with | nil => simp at h0 | cons x t => exact ⟨x, t, rfl⟩
  refine fc_intro' is139 (by simp) (fun cx hl => S_run [] 800 ?_)
  simp only [V, bS, bA, bB, ca, cL, cP, gt, lk, bR, cq, cg, cb, cF, bZ, bZ.subCs, cQ, a4, bj, b0, aO, bw, a3, aD, bI, a9, az, a8, aW, bX, cT, cZ, an, aH, cD, cc, cn, cV, cU, ay, ak, ce, bt, zC, argS, a7, cI, c6, cR, aj, aC, aI, aV, bP, leC, bT, cm, cp, cM, cG, aX, aP, cK, ap, cd, bm, bm.viewCs, bf, bf.flatCs, ax, ax.LensOks, Value.oneCell', ↓reduceIte, ite_true, ite_false, if_true, if_false, Nat.reduceAdd, Nat.reduceSub, Nat.reduceMul, Nat.reduceEqDiff, Nat.reduceLT, Nat.reduceLeDiff, reduceCtorEq, Int.reduceToNat, forall_const, implies_true, bv, Ent.mk3, bE, bC, be, a6, bL, a5, br, bK, bu, bh, bH, cu, bJ, cS, rn, co, co.renCs, aN, aT, aR, aR.viewOks, aJ, bz, bz.flatBs, aG, aq, aY, au, aA, bo, bo.keysBs, av, ar, bk, bM, bF, bW, af, af.passKs, aM, aU, ae, ae.lendKs, cr, bU, bV, bG, setInn, am, cW, cO, aB, aZ, bY, bN, aK, aw, Glob.gl, aQ, cj, bn, bQ, bD, ah, cC, cN, cz, cY, bO, ai, ai.ptrOnlys, ag, aL, cJ, aF, bp, bg, cH, aE, bq, cB, Nat.reduceBEq, undef] at hl
  have hlen := hl.list (l := x :: t)
  have h1 : ¬ ((t.length + 1 : Nat) : Int) < 1 := by omega
  delta c139
  simp (maxSteps := 4000000) -implicitDefEqProofs only [rv139, h1, Ent.of0, Ent.of1, Ent.of2, Ent.of3, V, bS, bA, bB, ca, cL, cP, gt, lk, bR, cq, cg, cb, cF, bZ, bZ.subCs, cQ, a4, bj, b0, aO, bw, a3, aD, bI, a9, az, a8, aW, bX, cT, cZ, an, aH, cD, cc, cn, cV, cU, ay, ak, ce, bt, zC, argS, a7, cI, c6, cR, aj, aC, aI, aV, bP, leC, bT, cm, cp, cM, cG, aX, aP, cK, ap, cd, bm, bm.viewCs, bf, bf.flatCs, ax, ax.LensOks, Value.oneCell', ↓reduceIte, ite_true, ite_false, if_true, if_false, Nat.reduceAdd, Nat.reduceSub, Nat.reduceMul, Nat.reduceEqDiff, Nat.reduceLT, Nat.reduceLeDiff, reduceCtorEq, Int.reduceToNat, forall_const, implies_true, bv, Ent.mk3, bE, bC, be, a6, bL, a5, br, bK, bu, bh, bH, cu, bJ, cS, rn, co, co.renCs, aN, aT, aR, aR.viewOks, aJ, bz, bz.flatBs, aG, aq, aY, au, aA, bo, bo.keysBs, av, ar, bk, bM, bF, bW, af, af.passKs, aM, aU, ae, ae.lendKs, cr, bU, bV, bG, setInn, am, cW, cO, aB, aZ, bY, bN, aK, aw, Glob.gl, aQ, cj, bn, bQ, bD, ah, cC, cN, cz, cY, bO, ai, ai.ptrOnlys, ag, aL, cJ, aF, bp, bg, cH, aE, bq, cB, Nat.reduceBEq, undef]
  refine ⟨by omega, ?_⟩
  refine S_loopU (α := Nat × Int) (fun v => [(4, .s (.int .i64 ((v.1 : Int) + 1))), (3, .s (.int .i64 v.2))]) (fun _ => []) (fun v => v.1 ≤ t.length ∧ minS (x :: t) = (t.drop v.1).foldl (fun a b => if b < a then b else a) v.2) (fun v => t.length - v.1) (0, x) ⟨Nat.zero_le _, rfl⟩ ?_ (fun v hv => S_run [] 800 ?_)
  · simp (maxSteps := 4000000) -implicitDefEqProofs only [Ent.of0, Ent.of1, Ent.of2, Ent.of3, V, bS, bA, bB, ca, cL, cP, gt, lk, bR, cq, cg, cb, cF, bZ, bZ.subCs, cQ, a4, bj, b0, aO, bw, a3, aD, bI, a9, az, a8, aW, bX, cT, cZ, an, aH, cD, cc, cn, cV, cU, ay, ak, ce, bt, zC, argS, a7, cI, c6, cR, aj, aC, aI, aV, bP, leC, bT, cm, cp, cM, cG, aX, aP, cK, ap, cd, bm, bm.viewCs, bf, bf.flatCs, ax, ax.LensOks, Value.oneCell', ↓reduceIte, ite_true, ite_false, if_true, if_false, Nat.reduceAdd, Nat.reduceSub, Nat.reduceMul, Nat.reduceEqDiff, Nat.reduceLT, Nat.reduceLeDiff, reduceCtorEq, Int.reduceToNat, forall_const, implies_true, bv, Ent.mk3, bE, bC, be, a6, bL, a5, br, bK, bu, bh, bH, cu, bJ, cS, rn, co, co.renCs, aN, aT, aR, aR.viewOks, aJ, bz, bz.flatBs, aG, aq, aY, au, aA, bo, bo.keysBs, av, ar, bk, bM, bF, bW, af, af.passKs, aM, aU, ae, ae.lendKs, cr, bU, bV, bG, setInn, am, cW, cO, aB, aZ, bY, bN, aK, aw, Glob.gl, aQ, cj, bn, bQ, bD, ah, cC, cN, cz, cY, bO, ai, ai.ptrOnlys, ag, aL, cJ, aF, bp, bg, cH, aE, bq, cB, Nat.reduceBEq, undef]; simp
  · obtain ⟨i, m⟩ := v
    obtain ⟨hv1, hv2⟩ := hv
    simp only at hv1 hv2
    have ht : ((i : Int) + 1).toNat = i + 1 := by omega
    by_cases h : i < t.length
    · have hi2 : (i : Int) + 1 < ((t.length + 1 : Nat) : Int) := by omega
      rw [drop_getD 0 h, List.foldl_cons] at hv2
      delta c139l1
      simp (maxSteps := 4000000) -implicitDefEqProofs only [rv139, hi2, h, ht, cT, cZ, InR, Ent.of0, Ent.of1, Ent.of2, Ent.of3, V, bS, bA, bB, ca, cL, cP, gt, lk, bR, cq, cg, cb, cF, bZ, bZ.subCs, cQ, a4, bj, b0, aO, bw, a3, aD, bI, a9, az, a8, aW, bX, cT, cZ, an, aH, cD, cc, cn, cV, cU, ay, ak, ce, bt, zC, argS, a7, cI, c6, cR, aj, aC, aI, aV, bP, leC, bT, cm, cp, cM, cG, aX, aP, cK, ap, cd, bm, bm.viewCs, bf, bf.flatCs, ax, ax.LensOks, Value.oneCell', ↓reduceIte, ite_true, ite_false, if_true, if_false, Nat.reduceAdd, Nat.reduceSub, Nat.reduceMul, Nat.reduceEqDiff, Nat.reduceLT, Nat.reduceLeDiff, reduceCtorEq, Int.reduceToNat, forall_const, implies_true, bv, Ent.mk3, bE, bC, be, a6, bL, a5, br, bK, bu, bh, bH, cu, bJ, cS, rn, co, co.renCs, aN, aT, aR, aR.viewOks, aJ, bz, bz.flatBs, aG, aq, aY, au, aA, bo, bo.keysBs, av, ar, bk, bM, bF, bW, af, af.passKs, aM, aU, ae, ae.lendKs, cr, bU, bV, bG, setInn, am, cW, cO, aB, aZ, bY, bN, aK, aw, Glob.gl, aQ, cj, bn, bQ, bD, ah, cC, cN, cz, cY, bO, ai, ai.ptrOnlys, ag, aL, cJ, aF, bp, bg, cH, aE, bq, cB, Nat.reduceBEq, undef]
      simp only [List.length_cons] at hlen
      exact ⟨by omega, by omega, (i + 1, if t.getD i 0 < m then t.getD i 0 else m), ⟨h, hv2⟩, by simp only; omega, rfl, by push_cast; rfl⟩
    · have hi2 : ¬ (i : Int) + 1 < ((t.length + 1 : Nat) : Int) := by omega
      rw [List.drop_eq_nil_of_le (by omega)] at hv2
      delta c139l1
      simp (maxSteps := 4000000) -implicitDefEqProofs only [rv139, hi2, ht, InR, Ent.of0, Ent.of1, Ent.of2, Ent.of3, V, bS, bA, bB, ca, cL, cP, gt, lk, bR, cq, cg, cb, cF, bZ, bZ.subCs, cQ, a4, bj, b0, aO, bw, a3, aD, bI, a9, az, a8, aW, bX, cT, cZ, an, aH, cD, cc, cn, cV, cU, ay, ak, ce, bt, zC, argS, a7, cI, c6, cR, aj, aC, aI, aV, bP, leC, bT, cm, cp, cM, cG, aX, aP, cK, ap, cd, bm, bm.viewCs, bf, bf.flatCs, ax, ax.LensOks, Value.oneCell', ↓reduceIte, ite_true, ite_false, if_true, if_false, Nat.reduceAdd, Nat.reduceSub, Nat.reduceMul, Nat.reduceEqDiff, Nat.reduceLT, Nat.reduceLeDiff, reduceCtorEq, Int.reduceToNat, forall_const, implies_true, bv, Ent.mk3, bE, bC, be, a6, bL, a5, br, bK, bu, bh, bH, cu, bJ, cS, rn, co, co.renCs, aN, aT, aR, aR.viewOks, aJ, bz, bz.flatBs, aG, aq, aY, au, aA, bo, bo.keysBs, av, ar, bk, bM, bF, bW, af, af.passKs, aM, aU, ae, ae.lendKs, cr, bU, bV, bG, setInn, am, cW, cO, aB, aZ, bY, bN, aK, aw, Glob.gl, aQ, cj, bn, bQ, bD, ah, cC, cN, cz, cY, bO, ai, ai.ptrOnlys, ag, aL, cJ, aF, bp, bg, cH, aE, bq, cB, Nat.reduceBEq, undef]
      rw [hv2]; rfl
def e139 : Ent Try.prog := .of1 139 (fun l => 0 < l.length) (fun l : List Int => enc (minS l)) (fun _ => trivial) (fun l h => min_c l h)
theorem countOf_c (l : List Int) (c : Nat) (hc : 1 ≤ c ∧ c ≤ 3) (hl : l.length = 2 ^ c) : FC Try.prog 137 [enc l] [] (enc (c : Int)) [] := by
  have : c = 1 ∨ c = 2 ∨ c = 3 := by omega
  rcases this with rfl | rfl | rfl
  all_goals
    have m0 : min 0 64 = 0 := rfl
    have m1 : min 1 64 = 1 := rfl
    have m2 : min 2 64 = 2 := rfl
    have m3 : min 3 64 = 3 := rfl
    refine fc_intro' is137 (by simp) (fun cx _ => S_runU [] 300 ?_)
    delta c137 c137l1
    simp (maxSteps := 4000000) -implicitDefEqProofs only [rv137, hl, IntKind.bits, m0, m1, m2, m3, InR, Int.cast_ofNat_Int, Int.natCast_one, Int.natCast_zero, Int.reduceAdd, Int.reduceSub, Int.reduceMul, Int.reduceLT, Int.reduceLE, Int.reduceTMod, Int.reduceTDiv, Int.reduceNeg, Int.reduceEq, Nat.reducePow, Int.reducePow, ne_eq, not_false_eq_true, Ent.of0, Ent.of1, Ent.of2, Ent.of3, V, bS, bA, bB, ca, cL, cP, gt, lk, bR, cq, cg, cb, cF, bZ, bZ.subCs, cQ, a4, bj, b0, aO, bw, a3, aD, bI, a9, az, a8, aW, bX, cT, cZ, an, aH, cD, cc, cn, cV, cU, ay, ak, ce, bt, zC, argS, a7, cI, c6, cR, aj, aC, aI, aV, bP, leC, bT, cm, cp, cM, cG, aX, aP, cK, ap, cd, bm, bm.viewCs, bf, bf.flatCs, ax, ax.LensOks, Value.oneCell', ↓reduceIte, ite_true, ite_false, if_true, if_false, Nat.reduceAdd, Nat.reduceSub, Nat.reduceMul, Nat.reduceEqDiff, Nat.reduceLT, Nat.reduceLeDiff, reduceCtorEq, Int.reduceToNat, forall_const, implies_true, bv, Ent.mk3, bE, bC, be, a6, bL, a5, br, bK, bu, bh, bH, cu, bJ, cS, rn, co, co.renCs, aN, aT, aR, aR.viewOks, aJ, bz, bz.flatBs, aG, aq, aY, au, aA, bo, bo.keysBs, av, ar, bk, bM, bF, bW, af, af.passKs, aM, aU, ae, ae.lendKs, cr, bU, bV, bG, setInn, am, cW, cO, aB, aZ, bY, bN, aK, aw, Glob.gl, aQ, cj, bn, bQ, bD, ah, cC, cN, cz, cY, bO, ai, ai.ptrOnlys, ag, aL, cJ, aF, bp, bg, cH, aE, bq, cB, Nat.reduceBEq, undef]
end Go.Proofs.Ytfgpbmjmoobcnaa
end
section
open Go Go.Am
open Go.Am.Dat (cells)
namespace Go.Proofs.Ytfgpbmjmoobcnaa
set_option maxHeartbeats 4000000
set_option maxRecDepth 100000
set_option linter.unusedSimpArgs false
def e104 : Ent Try.prog where
  id := 104
  sp := fun args chs => match args, chs with
    | [.s (.int .i64 c), .s (.int .i64 n)], [] => some (1 ≤ c ∧ c ≤ 6, ofLevelC c.toNat n, [], [])
    | _, _ => none
  ok := by
    intro args chs p r chs' nk hs hp
    split at hs
    · simp only [Option.some.injEq, Prod.mk.injEq] at hs
      obtain ⟨rfl, rfl, rfl, rfl⟩ := hs
      rename_i c n
      have := ofLevel_c c.toNat n (by omega)
      rw [Int.toNat_of_nonneg (by omega)] at this
      refine ⟨this, .plain ?_⟩
      unfold ofLevelC
      split <;> trivial
    · cases hs
def lvls (c : Nat) : List Int := (List.range (2 ^ c)).map fun (k : Nat) => 2 * (k : Int) - (2 ^ c - 1)
def nearS (c i : Nat) (b : Int) (sq : List Int) : List Int :=
  ((List.range (2 ^ c)).filter fun (k : Nat) => decide (((ofLevelI c (2 * (k : Int) - (2 ^ c - 1))).map fun m => (bitsOfS m c c).getD i 0) = some b)).map fun k => sq.getD k 0
def softS (c : Nat) (sq : List Int) : List Int := (List.range c).map fun i => minS (nearS c i 1 sq) - minS (nearS c i 0 sq)
theorem minS_mem : ∀ (l : List Int) (x : Int), l.foldl (fun a b => if b < a then b else a) x ∈ x :: l
  | [], x => by simp
  | y :: l, x => by
    simp only [List.foldl_cons]
    have := minS_mem l (if y < x then y else x)
    rcases List.mem_cons.1 this with h | h
    · rw [h]; split <;> simp
    · exact List.mem_cons_of_mem _ (List.mem_cons_of_mem _ h)
theorem minS_bd {l : List Int} {B : Int} (h0 : 0 < l.length) (h : ∀ x ∈ l, 0 ≤ x ∧ x ≤ B) : 0 ≤ minS l ∧ minS l ≤ B := by
  cases l with
  | nil => simp at h0
  | cons x t => exact h _ (minS_mem t x)
def ctE (c : Nat) (hc : 1 ≤ c ∧ c ≤ 3) : Ent Try.prog := .of1 137 (fun l => l.length = 2 ^ c) (fun _ : List Int => enc (c : Int)) (fun _ => trivial) (fun l h => countOf_c l c hc h)
end Go.Proofs.Ytfgpbmjmoobcnaa
end
section
open Go Go.Am
open Go.Am.Dat (cells)
namespace Go.Proofs.Ytfgpbmjmoobcnaa
set_option maxHeartbeats 4000000
set_option maxRecDepth 100000
set_option linter.unusedSimpArgs false
theorem soft1_c (s0 s1 : Int) (h : ∀ s ∈ [s0, s1], 0 ≤ s ∧ s ≤ 4611686018427387903) : FC Try.prog 117 [enc (lvls 1), enc [s0, s1]] [] (enc (softS 1 [s0, s1])) [] := by
  have l0 : ofLevelC 1 (-1) = .sl 1 [[.s (.int .i64 1)]] := by rfl
  have l1 : ofLevelC 1 1 = .sl 1 [[.s (.int .i64 0)]] := by rfl
  have hl : lvls 1 = [-1, 1] := by decide
  have ht : Int.toNat 1 = 1 := rfl
  have hs : softS 1 [s0, s1] = [minS [s0] - minS [s1]] := by rfl
  have q00 := minS_bd (l := [s1]) (by simp) (fun x hx => h x (by simp at hx ⊢; grind))
  have q01 := minS_bd (l := [s0]) (by simp) (fun x hx => h x (by simp at hx ⊢; grind))
  rw [hl, hs]
  refine fc_intro' is117 (by simp) (fun cx _ => S_runU [ctE 1 (by decide), e104, e139] 4000 ?_)
  delta c117 c117l1 c117l2
  simp (maxSteps := 4000000) -implicitDefEqProofs only [rv117, ctE, e104, e139, ht, l0, l1, InR, Int.cast_ofNat_Int, Int.natCast_one, Int.natCast_zero, Int.reduceAdd, Int.reduceSub, Int.reduceMul, Int.reduceLT, Int.reduceLE, Int.reduceTMod, Int.reduceTDiv, Int.reduceNeg, Int.reduceEq, Nat.reducePow, Int.reducePow, ne_eq, not_false_eq_true, Ent.of0, Ent.of1, Ent.of2, Ent.of3, V, bS, bA, bB, ca, cL, cP, gt, lk, bR, cq, cg, cb, cF, bZ, bZ.subCs, cQ, a4, bj, b0, aO, bw, a3, aD, bI, a9, az, a8, aW, bX, cT, cZ, an, aH, cD, cc, cn, cV, cU, ay, ak, ce, bt, zC, argS, a7, cI, c6, cR, aj, aC, aI, aV, bP, leC, bT, cm, cp, cM, cG, aX, aP, cK, ap, cd, bm, bm.viewCs, bf, bf.flatCs, ax, ax.LensOks, Value.oneCell', ↓reduceIte, ite_true, ite_false, if_true, if_false, Nat.reduceAdd, Nat.reduceSub, Nat.reduceMul, Nat.reduceEqDiff, Nat.reduceLT, Nat.reduceLeDiff, reduceCtorEq, Int.reduceToNat, forall_const, implies_true, bv, Ent.mk3, bE, bC, be, a6, bL, a5, br, bK, bu, bh, bH, cu, bJ, cS, rn, co, co.renCs, aN, aT, aR, aR.viewOks, aJ, bz, bz.flatBs, aG, aq, aY, au, aA, bo, bo.keysBs, av, ar, bk, bM, bF, bW, af, af.passKs, aM, aU, ae, ae.lendKs, cr, bU, bV, bG, setInn, am, cW, cO, aB, aZ, bY, bN, aK, aw, Glob.gl, aQ, cj, bn, bQ, bD, ah, cC, cN, cz, cY, bO, ai, ai.ptrOnlys, ag, aL, cJ, aF, bp, bg, cH, aE, bq, cB, Nat.reduceBEq, undef]
  omega
theorem soft2_c (s0 s1 s2 s3 : Int) (h : ∀ s ∈ [s0, s1, s2, s3], 0 ≤ s ∧ s ≤ 4611686018427387903) : FC Try.prog 117 [enc (lvls 2), enc [s0, s1, s2, s3]] [] (enc (softS 2 [s0, s1, s2, s3])) [] := by
  have l0 : ofLevelC 2 (-3) = .sl 1 [[.s (.int .i64 1)], [.s (.int .i64 1)]] := by rfl
  have l1 : ofLevelC 2 (-1) = .sl 1 [[.s (.int .i64 1)], [.s (.int .i64 0)]] := by rfl
  have l2 : ofLevelC 2 1 = .sl 1 [[.s (.int .i64 0)], [.s (.int .i64 0)]] := by rfl
  have l3 : ofLevelC 2 3 = .sl 1 [[.s (.int .i64 0)], [.s (.int .i64 1)]] := by rfl
  have hl : lvls 2 = [-3, -1, 1, 3] := by decide
  have ht : Int.toNat 2 = 2 := rfl
  have hs : softS 2 [s0, s1, s2, s3] = [minS [s0, s1] - minS [s2, s3], minS [s0, s3] - minS [s1, s2]] := by rfl
  have q00 := minS_bd (l := [s2, s3]) (by simp) (fun x hx => h x (by simp at hx ⊢; grind))
  have q01 := minS_bd (l := [s0, s1]) (by simp) (fun x hx => h x (by simp at hx ⊢; grind))
  have q10 := minS_bd (l := [s1, s2]) (by simp) (fun x hx => h x (by simp at hx ⊢; grind))
  have q11 := minS_bd (l := [s0, s3]) (by simp) (fun x hx => h x (by simp at hx ⊢; grind))
  rw [hl, hs]
  refine fc_intro' is117 (by simp) (fun cx _ => S_runU [ctE 2 (by decide), e104, e139] 4000 ?_)
  delta c117 c117l1 c117l2
  simp (maxSteps := 4000000) -implicitDefEqProofs only [rv117, ctE, e104, e139, ht, l0, l1, l2, l3, InR, Int.cast_ofNat_Int, Int.natCast_one, Int.natCast_zero, Int.reduceAdd, Int.reduceSub, Int.reduceMul, Int.reduceLT, Int.reduceLE, Int.reduceTMod, Int.reduceTDiv, Int.reduceNeg, Int.reduceEq, Nat.reducePow, Int.reducePow, ne_eq, not_false_eq_true, Ent.of0, Ent.of1, Ent.of2, Ent.of3, V, bS, bA, bB, ca, cL, cP, gt, lk, bR, cq, cg, cb, cF, bZ, bZ.subCs, cQ, a4, bj, b0, aO, bw, a3, aD, bI, a9, az, a8, aW, bX, cT, cZ, an, aH, cD, cc, cn, cV, cU, ay, ak, ce, bt, zC, argS, a7, cI, c6, cR, aj, aC, aI, aV, bP, leC, bT, cm, cp, cM, cG, aX, aP, cK, ap, cd, bm, bm.viewCs, bf, bf.flatCs, ax, ax.LensOks, Value.oneCell', ↓reduceIte, ite_true, ite_false, if_true, if_false, Nat.reduceAdd, Nat.reduceSub, Nat.reduceMul, Nat.reduceEqDiff, Nat.reduceLT, Nat.reduceLeDiff, reduceCtorEq, Int.reduceToNat, forall_const, implies_true, bv, Ent.mk3, bE, bC, be, a6, bL, a5, br, bK, bu, bh, bH, cu, bJ, cS, rn, co, co.renCs, aN, aT, aR, aR.viewOks, aJ, bz, bz.flatBs, aG, aq, aY, au, aA, bo, bo.keysBs, av, ar, bk, bM, bF, bW, af, af.passKs, aM, aU, ae, ae.lendKs, cr, bU, bV, bG, setInn, am, cW, cO, aB, aZ, bY, bN, aK, aw, Glob.gl, aQ, cj, bn, bQ, bD, ah, cC, cN, cz, cY, bO, ai, ai.ptrOnlys, ag, aL, cJ, aF, bp, bg, cH, aE, bq, cB, Nat.reduceBEq, undef]
  omega
theorem soft3_c (s0 s1 s2 s3 s4 s5 s6 s7 : Int) (h : ∀ s ∈ [s0, s1, s2, s3, s4, s5, s6, s7], 0 ≤ s ∧ s ≤ 4611686018427387903) : FC Try.prog 117 [enc (lvls 3), enc [s0, s1, s2, s3, s4, s5, s6, s7]] [] (enc (softS 3 [s0, s1, s2, s3, s4, s5, s6, s7])) [] := by
  have l0 : ofLevelC 3 (-7) = .sl 1 [[.s (.int .i64 1)], [.s (.int .i64 1)], [.s (.int .i64 1)]] := by rfl
  have l1 : ofLevelC 3 (-5) = .sl 1 [[.s (.int .i64 1)], [.s (.int .i64 1)], [.s (.int .i64 0)]] := by rfl
  have l2 : ofLevelC 3 (-3) = .sl 1 [[.s (.int .i64 1)], [.s (.int .i64 0)], [.s (.int .i64 0)]] := by rfl
  have l3 : ofLevelC 3 (-1) = .sl 1 [[.s (.int .i64 1)], [.s (.int .i64 0)], [.s (.int .i64 1)]] := by rfl
  have l4 : ofLevelC 3 1 = .sl 1 [[.s (.int .i64 0)], [.s (.int .i64 0)], [.s (.int .i64 1)]] := by rfl
  have l5 : ofLevelC 3 3 = .sl 1 [[.s (.int .i64 0)], [.s (.int .i64 0)], [.s (.int .i64 0)]] := by rfl
  have l6 : ofLevelC 3 5 = .sl 1 [[.s (.int .i64 0)], [.s (.int .i64 1)], [.s (.int .i64 0)]] := by rfl
  have l7 : ofLevelC 3 7 = .sl 1 [[.s (.int .i64 0)], [.s (.int .i64 1)], [.s (.int .i64 1)]] := by rfl
  have hl : lvls 3 = [-7, -5, -3, -1, 1, 3, 5, 7] := by decide
  have ht : Int.toNat 3 = 3 := rfl
  have hs : softS 3 [s0, s1, s2, s3, s4, s5, s6, s7] = [minS [s0, s1, s2, s3] - minS [s4, s5, s6, s7], minS [s0, s1, s6, s7] - minS [s2, s3, s4, s5], minS [s0, s3, s4, s7] - minS [s1, s2, s5, s6]] := by rfl
  have q00 := minS_bd (l := [s4, s5, s6, s7]) (by simp) (fun x hx => h x (by simp at hx ⊢; grind))
  have q01 := minS_bd (l := [s0, s1, s2, s3]) (by simp) (fun x hx => h x (by simp at hx ⊢; grind))
  have q10 := minS_bd (l := [s2, s3, s4, s5]) (by simp) (fun x hx => h x (by simp at hx ⊢; grind))
  have q11 := minS_bd (l := [s0, s1, s6, s7]) (by simp) (fun x hx => h x (by simp at hx ⊢; grind))
  have q20 := minS_bd (l := [s1, s2, s5, s6]) (by simp) (fun x hx => h x (by simp at hx ⊢; grind))
  have q21 := minS_bd (l := [s0, s3, s4, s7]) (by simp) (fun x hx => h x (by simp at hx ⊢; grind))
  rw [hl, hs]
  refine fc_intro' is117 (by simp) (fun cx _ => S_runU [ctE 3 (by decide), e104, e139] 4000 ?_)
  delta c117 c117l1 c117l2
  simp (maxSteps := 4000000) -implicitDefEqProofs only [rv117, ctE, e104, e139, ht, l0, l1, l2, l3, l4, l5, l6, l7, InR, Int.cast_ofNat_Int, Int.natCast_one, Int.natCast_zero, Int.reduceAdd, Int.reduceSub, Int.reduceMul, Int.reduceLT, Int.reduceLE, Int.reduceTMod, Int.reduceTDiv, Int.reduceNeg, Int.reduceEq, Nat.reducePow, Int.reducePow, ne_eq, not_false_eq_true, Ent.of0, Ent.of1, Ent.of2, Ent.of3, V, bS, bA, bB, ca, cL, cP, gt, lk, bR, cq, cg, cb, cF, bZ, bZ.subCs, cQ, a4, bj, b0, aO, bw, a3, aD, bI, a9, az, a8, aW, bX, cT, cZ, an, aH, cD, cc, cn, cV, cU, ay, ak, ce, bt, zC, argS, a7, cI, c6, cR, aj, aC, aI, aV, bP, leC, bT, cm, cp, cM, cG, aX, aP, cK, ap, cd, bm, bm.viewCs, bf, bf.flatCs, ax, ax.LensOks, Value.oneCell', ↓reduceIte, ite_true, ite_false, if_true, if_false, Nat.reduceAdd, Nat.reduceSub, Nat.reduceMul, Nat.reduceEqDiff, Nat.reduceLT, Nat.reduceLeDiff, reduceCtorEq, Int.reduceToNat, forall_const, implies_true, bv, Ent.mk3, bE, bC, be, a6, bL, a5, br, bK, bu, bh, bH, cu, bJ, cS, rn, co, co.renCs, aN, aT, aR, aR.viewOks, aJ, bz, bz.flatBs, aG, aq, aY, au, aA, bo, bo.keysBs, av, ar, bk, bM, bF, bW, af, af.passKs, aM, aU, ae, ae.lendKs, cr, bU, bV, bG, setInn, am, cW, cO, aB, aZ, bY, bN, aK, aw, Glob.gl, aQ, cj, bn, bQ, bD, ah, cC, cN, cz, cY, bO, ai, ai.ptrOnlys, ag, aL, cJ, aF, bp, bg, cH, aE, bq, cB, Nat.reduceBEq, undef]
  omega
theorem soft_c (c : Nat) (hc : c = 1 ∨ c = 2 ∨ c = 3) (sq : List Int) (hl : sq.length = 2 ^ c) (hb : ∀ s ∈ sq, 0 ≤ s ∧ s ≤ 4611686018427387903) : FC Try.prog 117 [enc (lvls c), enc sq] [] (enc (softS c sq)) [] := by
  rcases hc with rfl | rfl | rfl
  · match sq, hl with
    | [a, b], _ => exact soft1_c a b hb
  · match sq, hl with
    | [a, b, c, d], _ => exact soft2_c a b c d hb
  · match sq, hl with
    | [a, b, c, d, e, f, g, h], _ => exact soft3_c a b c d e f g h hb
end Go.Proofs.Ytfgpbmjmoobcnaa
end
section
open Go Go.Am
open Go.Am.Dat (cells)
namespace Go.Proofs.Ytfgpbmjmoobcnaa
set_option maxHeartbeats 4000000
set_option maxRecDepth 100000
set_option linter.unusedSimpArgs false
structure Recv where
  order : Int
  gain : Int
  symbols : List Gs
instance : DatL Recv where
  sz := 3
  agg := true
  cells g := [.s (.int .i64 g.order), .s (.int .i64 g.gain), .sl 2 (g.symbols.map cells)]
  dec | [.s (.int .i64 a), .s (.int .i64 b), .sl 2 t] => (decL t).map fun t' => ⟨a, b, t'⟩ | _ => none
  ok := by
    intro l a h
    split at h
    · simp only [Option.map_eq_some_iff] at h
      obtain ⟨t', h1, rfl⟩ := h
      rw [decL_ok h1]
    · cases h
  data := fun a => rfl
  one := fun h => by cases h
  dec_cells := fun a => by simp [decL_map]
theorem enc_recv (g : Recv) : enc g = .agg [.s (.int .i64 g.order), .s (.int .i64 g.gain), .sl 2 (g.symbols.map cells)] := rfl
theorem decV_recv (a b : Int) (t : List (List C)) : decV (.agg [C.s (.int .i64 a), .s (.int .i64 b), .sl 2 t]) = (decL t).map fun t' => (⟨a, b, t'⟩ : Recv) := rfl
def recvErr (x : Recv) : Int := firstS [orderErrS x.order, if 1 ≤ x.gain ∧ x.gain ≤ 10000000 then 0 else 2, symErr x.symbols]
theorem receivedErr_c (x : Recv) : FC Try.prog 114 [enc x] [] (enc (recvErr x)) [] := by
  obtain ⟨o, g, l⟩ := x
  refine fc_intro' is114 (by simp) (fun cx hl => S_run [e95, e103, e82, e118, e80] 800 ?_)
  delta c114
  simp (maxSteps := 4000000) -implicitDefEqProofs only [rv114, e95, e103, e82, e118, e80, enc_recv, Ent.of0, Ent.of1, Ent.of2, Ent.of3, V, bS, bA, bB, ca, cL, cP, gt, lk, bR, cq, cg, cb, cF, bZ, bZ.subCs, cQ, a4, bj, b0, aO, bw, a3, aD, bI, a9, az, a8, aW, bX, cT, cZ, an, aH, cD, cc, cn, cV, cU, ay, ak, ce, bt, zC, argS, a7, cI, c6, cR, aj, aC, aI, aV, bP, leC, bT, cm, cp, cM, cG, aX, aP, cK, ap, cd, bm, bm.viewCs, bf, bf.flatCs, ax, ax.LensOks, Value.oneCell', ↓reduceIte, ite_true, ite_false, if_true, if_false, Nat.reduceAdd, Nat.reduceSub, Nat.reduceMul, Nat.reduceEqDiff, Nat.reduceLT, Nat.reduceLeDiff, reduceCtorEq, Int.reduceToNat, forall_const, implies_true, bv, Ent.mk3, bE, bC, be, a6, bL, a5, br, bK, bu, bh, bH, cu, bJ, cS, rn, co, co.renCs, aN, aT, aR, aR.viewOks, aJ, bz, bz.flatBs, aG, aq, aY, au, aA, bo, bo.keysBs, av, ar, bk, bM, bF, bW, af, af.passKs, aM, aU, ae, ae.lendKs, cr, bU, bV, bG, setInn, am, cW, cO, aB, aZ, bY, bN, aK, aw, Glob.gl, aQ, cj, bn, bQ, bD, ah, cC, cN, cz, cY, bO, ai, ai.ptrOnlys, ag, aL, cJ, aF, bp, bg, cH, aE, bq, cB, Nat.reduceBEq, undef]
  rfl
def e114 : Ent Try.prog := .of1 114 (fun _ => True) (fun x : Recv => enc (recvErr x)) (fun _ => trivial) (fun x _ => receivedErr_c x)
def sqS (c : Nat) (gain n : Int) : List Int := (lvls c).map fun l => (n - l * gain) * (n - l * gain)
end Go.Proofs.Ytfgpbmjmoobcnaa
end
section
open Go Go.Am
open Go.Am.Dat (cells)
namespace Go.Proofs.Ytfgpbmjmoobcnaa
set_option maxHeartbeats 4000000
set_option maxRecDepth 100000
set_option linter.unusedSimpArgs false
theorem lvls_bd {c : Nat} (hc : c = 1 ∨ c = 2 ∨ c = 3) : ∀ l ∈ lvls c, -7 ≤ l ∧ l ≤ 7 := by
  rcases hc with rfl | rfl | rfl <;> decide
theorem lvls_length (c : Nat) : (lvls c).length = 2 ^ c := by simp [lvls]
theorem sq_bd {d B : Int} (h : -B ≤ d ∧ d ≤ B) : 0 ≤ d * d ∧ d * d ≤ B * B := by
  have h1 := Int.mul_nonneg (show 0 ≤ B - d by omega) (show 0 ≤ B + d by omega)
  rw [Int.sub_mul, Int.mul_add, Int.mul_add, Int.mul_comm d B] at h1
  refine ⟨?_, by omega⟩
  rcases Int.le_total 0 d with h0 | h0
  · exact Int.mul_nonneg h0 h0
  · exact Int.mul_nonneg_of_nonpos_of_nonpos h0 h0
theorem lg_bd {t g : Int} (ht : -7 ≤ t ∧ t ≤ 7) (hg : 1 ≤ g ∧ g ≤ 10000000) : -70000000 ≤ t * g ∧ t * g ≤ 70000000 := by
  have : t = -7 ∨ t = -6 ∨ t = -5 ∨ t = -4 ∨ t = -3 ∨ t = -2 ∨ t = -1 ∨ t = 0 ∨ t = 1 ∨ t = 2 ∨ t = 3 ∨ t = 4 ∨ t = 5 ∨ t = 6 ∨ t = 7 := by omega
  rcases this with rfl | rfl | rfl | rfl | rfl | rfl | rfl | rfl | rfl | rfl | rfl | rfl | rfl | rfl | rfl <;> omega
theorem part_c (f : FuncId) (T : List Int → List Int) (c : Nat) (hc : c = 1 ∨ c = 2 ∨ c = 3) (hf : ∀ sq : List Int, sq.length = 2 ^ c → (∀ s ∈ sq, 0 ≤ s ∧ s ≤ 4611686018427387903) → FC Try.prog f [enc (lvls c), enc sq] [] (enc (T sq)) [])
    (x : Recv) (n : Int) (hg : 1 ≤ x.gain ∧ x.gain ≤ 10000000) (hn : -100000000 ≤ n ∧ n ≤ 100000000) :
    FC Try.prog 136 [enc n, .ptr 100000 0, .ptr 100001 0, .ptr 100002 0] [(100000, .box [enc (lvls c)]), (100001, .box (cells x)), (100002, .box [.fn (.func f) [] []])] (enc (T (sqS c x.gain n))) [(100000, .box [enc (lvls c)]), (100001, .box (cells x)), (100002, .box [.fn (.func f) [] []])] := by
  obtain ⟨o, g, l⟩ := x
  simp only at hg
  have hcl : cells (⟨o, g, l⟩ : Recv) = [.s (.int .i64 o), .s (.int .i64 g), .sl 2 (l.map cells)] := rfl
  rw [hcl]
  have hll := lvls_length c
  have hlb := lvls_bd hc
  have hp : 2 ^ c ≤ 8 := by rcases hc with rfl | rfl | rfl <;> decide
  have hsq : sqS c g n = (lvls c).map fun l => (n - l * g) * (n - l * g) := rfl
  generalize lvls c = L at *
  refine fc_introC [] is136 (by simp) (by simp [cC]) (by simp [aX, aP, b0]) (by simp [aX, aP, b0]) (by simp [ah, lk]) (fun cx _ _ _ => S_run [] 800 ?_)
  delta c136
  simp (maxSteps := 4000000) -implicitDefEqProofs only [rv136, InR, Ent.of0, Ent.of1, Ent.of2, Ent.of3, V, bS, bA, bB, ca, cL, cP, gt, lk, bR, cq, cg, cb, cF, bZ, bZ.subCs, cQ, a4, bj, b0, aO, bw, a3, aD, bI, a9, az, a8, aW, bX, cT, cZ, an, aH, cD, cc, cn, cV, cU, ay, ak, ce, bt, zC, argS, a7, cI, c6, cR, aj, aC, aI, aV, bP, leC, bT, cm, cp, cM, cG, aX, aP, cK, ap, cd, bm, bm.viewCs, bf, bf.flatCs, ax, ax.LensOks, Value.oneCell', ↓reduceIte, ite_true, ite_false, if_true, if_false, Nat.reduceAdd, Nat.reduceSub, Nat.reduceMul, Nat.reduceEqDiff, Nat.reduceLT, Nat.reduceLeDiff, reduceCtorEq, Int.reduceToNat, forall_const, implies_true, bv, Ent.mk3, bE, bC, be, a6, bL, a5, br, bK, bu, bh, bH, cu, bJ, cS, rn, co, co.renCs, aN, aT, aR, aR.viewOks, aJ, bz, bz.flatBs, aG, aq, aY, au, aA, bo, bo.keysBs, av, ar, bk, bM, bF, bW, af, af.passKs, aM, aU, ae, ae.lendKs, cr, bU, bV, bG, setInn, am, cW, cO, aB, aZ, bY, bN, aK, aw, Glob.gl, aQ, cj, bn, bQ, bD, ah, cC, cN, cz, cY, bO, ai, ai.ptrOnlys, ag, aL, cJ, aF, bp, bg, cH, aE, bq, cB, Nat.reduceBEq, undef]
  refine S_forU L.length (fun i => [(11, .s (.int .i64 (i : Int)))]) (fun i => [(6, .row 1 3 (((L.take i).map fun l => (n - l * g) * (n - l * g)).map cells))]) (fun _ => True) trivial ?_ (fun i hi _ => S_run [.of2 f (fun a b => a = L ∧ b.length = 2 ^ c ∧ ∀ s ∈ b, 0 ≤ s ∧ s ≤ 4611686018427387903) (fun _ b => enc (T b)) (fun _ _ => trivial) (fun a b h => by obtain ⟨rfl, h1, h2⟩ := h; exact hf b h1 h2)] 800 ?_)
  · simp (maxSteps := 4000000) -implicitDefEqProofs only [Ent.of0, Ent.of1, Ent.of2, Ent.of3, V, bS, bA, bB, ca, cL, cP, gt, lk, bR, cq, cg, cb, cF, bZ, bZ.subCs, cQ, a4, bj, b0, aO, bw, a3, aD, bI, a9, az, a8, aW, bX, cT, cZ, an, aH, cD, cc, cn, cV, cU, ay, ak, ce, bt, zC, argS, a7, cI, c6, cR, aj, aC, aI, aV, bP, leC, bT, cm, cp, cM, cG, aX, aP, cK, ap, cd, bm, bm.viewCs, bf, bf.flatCs, ax, ax.LensOks, Value.oneCell', ↓reduceIte, ite_true, ite_false, if_true, if_false, Nat.reduceAdd, Nat.reduceSub, Nat.reduceMul, Nat.reduceEqDiff, Nat.reduceLT, Nat.reduceLeDiff, reduceCtorEq, Int.reduceToNat, forall_const, implies_true, bv, Ent.mk3, bE, bC, be, a6, bL, a5, br, bK, bu, bh, bH, cu, bJ, cS, rn, co, co.renCs, aN, aT, aR, aR.viewOks, aJ, bz, bz.flatBs, aG, aq, aY, au, aA, bo, bo.keysBs, av, ar, bk, bM, bF, bW, af, af.passKs, aM, aU, ae, ae.lendKs, cr, bU, bV, bG, setInn, am, cW, cO, aB, aZ, bY, bN, aK, aw, Glob.gl, aQ, cj, bn, bQ, bD, ah, cC, cN, cz, cY, bO, ai, ai.ptrOnlys, ag, aL, cJ, aF, bp, bg, cH, aE, bq, cB, Nat.reduceBEq, undef]; simp
  · by_cases h : i < L.length
    · have hi2 : (i : Int) < (L.length : Int) := by omega
      have hm : L.getD i 0 ∈ L := by rw [List.getD_eq_getElem?_getD, List.getElem?_eq_getElem h]; exact List.getElem_mem _
      have b1 := lg_bd (hlb _ hm) hg
      have b2 := sq_bd (d := n - L.getD i 0 * g) (B := 170000000) (by omega)
      have htk : ((L.take i).map fun l => (n - l * g) * (n - l * g)).map cells ++ [[C.s (.int .i64 ((n - L.getD i 0 * g) * (n - L.getD i 0 * g)))]] = ((L.take (i + 1)).map fun l => (n - l * g) * (n - l * g)).map cells := by
        rw [take_getD 0 h, List.map_append, List.map_append]; rfl
      have htl : (L.take i).length = i := by rw [List.length_take]; omega
      delta c136l1
      simp (maxSteps := 4000000) -implicitDefEqProofs only [hi2, h, htk, InR, Ent.of0, Ent.of1, Ent.of2, Ent.of3, V, bS, bA, bB, ca, cL, cP, gt, lk, bR, cq, cg, cb, cF, bZ, bZ.subCs, cQ, a4, bj, b0, aO, bw, a3, aD, bI, a9, az, a8, aW, bX, cT, cZ, an, aH, cD, cc, cn, cV, cU, ay, ak, ce, bt, zC, argS, a7, cI, c6, cR, aj, aC, aI, aV, bP, leC, bT, cm, cp, cM, cG, aX, aP, cK, ap, cd, bm, bm.viewCs, bf, bf.flatCs, ax, ax.LensOks, Value.oneCell', ↓reduceIte, ite_true, ite_false, if_true, if_false, Nat.reduceAdd, Nat.reduceSub, Nat.reduceMul, Nat.reduceEqDiff, Nat.reduceLT, Nat.reduceLeDiff, reduceCtorEq, Int.reduceToNat, forall_const, implies_true, bv, Ent.mk3, bE, bC, be, a6, bL, a5, br, bK, bu, bh, bH, cu, bJ, cS, rn, co, co.renCs, aN, aT, aR, aR.viewOks, aJ, bz, bz.flatBs, aG, aq, aY, au, aA, bo, bo.keysBs, av, ar, bk, bM, bF, bW, af, af.passKs, aM, aU, ae, ae.lendKs, cr, bU, bV, bG, setInn, am, cW, cO, aB, aZ, bY, bN, aK, aw, Glob.gl, aQ, cj, bn, bQ, bD, ah, cC, cN, cz, cY, bO, ai, ai.ptrOnlys, ag, aL, cJ, aF, bp, bg, cH, aE, bq, cB, Nat.reduceBEq, undef]
      exact ⟨by omega, by omega, by omega, by omega, by omega, by omega, by omega, by omega, by push_cast; rfl⟩
    · have hi2 : ¬ (i : Int) < (L.length : Int) := by omega
      have hie : i = L.length := by omega
      subst hie
      have htk : L.take L.length = L := List.take_length
      delta c136l1
      simp (maxSteps := 4000000) -implicitDefEqProofs only [hi2, rv136, htk, hsq, InR, Ent.of0, Ent.of1, Ent.of2, Ent.of3, V, bS, bA, bB, ca, cL, cP, gt, lk, bR, cq, cg, cb, cF, bZ, bZ.subCs, cQ, a4, bj, b0, aO, bw, a3, aD, bI, a9, az, a8, aW, bX, cT, cZ, an, aH, cD, cc, cn, cV, cU, ay, ak, ce, bt, zC, argS, a7, cI, c6, cR, aj, aC, aI, aV, bP, leC, bT, cm, cp, cM, cG, aX, aP, cK, ap, cd, bm, bm.viewCs, bf, bf.flatCs, ax, ax.LensOks, Value.oneCell', ↓reduceIte, ite_true, ite_false, if_true, if_false, Nat.reduceAdd, Nat.reduceSub, Nat.reduceMul, Nat.reduceEqDiff, Nat.reduceLT, Nat.reduceLeDiff, reduceCtorEq, Int.reduceToNat, forall_const, implies_true, bv, Ent.mk3, bE, bC, be, a6, bL, a5, br, bK, bu, bh, bH, cu, bJ, cS, rn, co, co.renCs, aN, aT, aR, aR.viewOks, aJ, bz, bz.flatBs, aG, aq, aY, au, aA, bo, bo.keysBs, av, ar, bk, bM, bF, bW, af, af.passKs, aM, aU, ae, ae.lendKs, cr, bU, bV, bG, setInn, am, cW, cO, aB, aZ, bY, bN, aK, aw, Glob.gl, aQ, cj, bn, bQ, bD, ah, cC, cN, cz, cY, bO, ai, ai.ptrOnlys, ag, aL, cJ, aF, bp, bg, cH, aE, bq, cB, Nat.reduceBEq, undef]
      refine ⟨hll, fun s hs => ?_⟩
      obtain ⟨t, ht, rfl⟩ := List.mem_map.1 hs
      have b1 := lg_bd (hlb _ ht) hg
      have b2 := sq_bd (d := n - t * g) (B := 170000000) (by omega)
      omega
end Go.Proofs.Ytfgpbmjmoobcnaa
end
section
open Go Go.Am
open Go.Am.Dat (cells)
namespace Go.Proofs.Ytfgpbmjmoobcnaa
set_option maxHeartbeats 4000000
set_option maxRecDepth 20000
set_option linter.unusedSimpArgs false
def RepR (a : List Fz) (r : List Gs) : Prop := a.length = r.length ∧ ∀ i, i < r.length → IsC (a.getD i ⟨0, 0⟩) (r.getD i ⟨0, 0⟩)
def RepM (a : List (List Fz)) (m : List (List Gs)) : Prop := a.length = m.length ∧ ∀ i, i < m.length → RepR (a.getD i []) (m.getD i [])
def gridS (m : List (List Gs)) : List (List Fz) := m.map fun r => r.map toW
theorem getD_map' {α β : Type} (f : α → β) (l : List α) (i : Nat) (d : α) (e : β) (h : i < l.length) : (l.map f).getD i e = f (l.getD i d) := by
  rw [List.getD_eq_getElem?_getD, List.getD_eq_getElem?_getD, List.getElem?_map, List.getElem?_eq_getElem h]; rfl
theorem grid_rep {m : List (List Gs)} (h : ∀ r ∈ m, ∀ g ∈ r, bd g 9007199254740991) : RepM (gridS m) m := by
  refine ⟨by simp [gridS], fun i hi => ?_⟩
  rw [gridS, getD_map' _ m i [] [] hi]
  refine ⟨by simp, fun j hj => ?_⟩
  rw [getD_map' _ _ j ⟨0, 0⟩ _ hj]
  exact isC_toW (h _ (getD_mem [] hi) _ (getD_mem _ hj))
theorem gridOf_c (m : List (List Gs)) (hm : m.length ≤ 1000) (hr : ∀ r ∈ m, r.length ≤ 1000000) : FC Try.prog 84 [enc m] [] (enc (gridS m)) [] := by
  refine fc_intro' is84 (by simp) (fun cx hl => S_run [] 800 ?_)
  delta c84
  simp (maxSteps := 4000000) -implicitDefEqProofs only [rv84, Ent.of0, Ent.of1, Ent.of2, Ent.of3, V, bS, bA, bB, ca, cL, cP, gt, lk, bR, cq, cg, cb, cF, bZ, bZ.subCs, cQ, a4, bj, b0, aO, bw, a3, aD, bI, a9, az, a8, aW, bX, cT, cZ, an, aH, cD, cc, cn, cV, cU, ay, ak, ce, bt, zC, argS, a7, cI, c6, cR, aj, aC, aI, aV, bP, leC, bT, cm, cp, cM, cG, aX, aP, cK, ap, cd, bm, bm.viewCs, bf, bf.flatCs, ax, ax.LensOks, Value.oneCell', ↓reduceIte, ite_true, ite_false, if_true, if_false, Nat.reduceAdd, Nat.reduceSub, Nat.reduceMul, Nat.reduceEqDiff, Nat.reduceLT, Nat.reduceLeDiff, reduceCtorEq, Int.reduceToNat, forall_const, implies_true, bv, Ent.mk3, bE, bC, be, a6, bL, a5, br, bK, bu, bh, bH, cu, bJ, cS, rn, co, co.renCs, aN, aT, aR, aR.viewOks, aJ, bz, bz.flatBs, aG, aq, aY, au, aA, bo, bo.keysBs, av, ar, bk, bM, bF, bW, af, af.passKs, aM, aU, ae, ae.lendKs, cr, bU, bV, bG, setInn, am, cW, cO, aB, aZ, bY, bN, aK, aw, Glob.gl, aQ, cj, bn, bQ, bD, ah, cC, cN, cz, cY, bO, ai, ai.ptrOnlys, ag, aL, cJ, aF, bp, bg, cH, aE, bq, cB, Nat.reduceBEq, undef]
  refine S_forU m.length (fun i => [(11, .s (.int .i64 i))]) (fun i => [(3, .row 1 152 ((gridS (m.take i)).map cells))]) (fun _ => True) trivial ?_ (fun i hi _ => S_run [] 800 ?_)
  · simp (maxSteps := 4000000) -implicitDefEqProofs only [gridS, Ent.of0, Ent.of1, Ent.of2, Ent.of3, V, bS, bA, bB, ca, cL, cP, gt, lk, bR, cq, cg, cb, cF, bZ, bZ.subCs, cQ, a4, bj, b0, aO, bw, a3, aD, bI, a9, az, a8, aW, bX, cT, cZ, an, aH, cD, cc, cn, cV, cU, ay, ak, ce, bt, zC, argS, a7, cI, c6, cR, aj, aC, aI, aV, bP, leC, bT, cm, cp, cM, cG, aX, aP, cK, ap, cd, bm, bm.viewCs, bf, bf.flatCs, ax, ax.LensOks, Value.oneCell', ↓reduceIte, ite_true, ite_false, if_true, if_false, Nat.reduceAdd, Nat.reduceSub, Nat.reduceMul, Nat.reduceEqDiff, Nat.reduceLT, Nat.reduceLeDiff, reduceCtorEq, Int.reduceToNat, forall_const, implies_true, bv, Ent.mk3, bE, bC, be, a6, bL, a5, br, bK, bu, bh, bH, cu, bJ, cS, rn, co, co.renCs, aN, aT, aR, aR.viewOks, aJ, bz, bz.flatBs, aG, aq, aY, au, aA, bo, bo.keysBs, av, ar, bk, bM, bF, bW, af, af.passKs, aM, aU, ae, ae.lendKs, cr, bU, bV, bG, setInn, am, cW, cO, aB, aZ, bY, bN, aK, aw, Glob.gl, aQ, cj, bn, bQ, bD, ah, cC, cN, cz, cY, bO, ai, ai.ptrOnlys, ag, aL, cJ, aF, bp, bg, cH, aE, bq, cB, Nat.reduceBEq, undef]; simp
  · by_cases h : i < m.length
    · have hi2 : (i : Int) < (m.length : Int) := by omega
      have hrl := hr _ (getD_mem [] h)
      delta c84l2
      simp (maxSteps := 4000000) -implicitDefEqProofs only [hi2, getD_list, h, Ent.of0, Ent.of1, Ent.of2, Ent.of3, V, bS, bA, bB, ca, cL, cP, gt, lk, bR, cq, cg, cb, cF, bZ, bZ.subCs, cQ, a4, bj, b0, aO, bw, a3, aD, bI, a9, az, a8, aW, bX, cT, cZ, an, aH, cD, cc, cn, cV, cU, ay, ak, ce, bt, zC, argS, a7, cI, c6, cR, aj, aC, aI, aV, bP, leC, bT, cm, cp, cM, cG, aX, aP, cK, ap, cd, bm, bm.viewCs, bf, bf.flatCs, ax, ax.LensOks, Value.oneCell', ↓reduceIte, ite_true, ite_false, if_true, if_false, Nat.reduceAdd, Nat.reduceSub, Nat.reduceMul, Nat.reduceEqDiff, Nat.reduceLT, Nat.reduceLeDiff, reduceCtorEq, Int.reduceToNat, forall_const, implies_true, bv, Ent.mk3, bE, bC, be, a6, bL, a5, br, bK, bu, bh, bH, cu, bJ, cS, rn, co, co.renCs, aN, aT, aR, aR.viewOks, aJ, bz, bz.flatBs, aG, aq, aY, au, aA, bo, bo.keysBs, av, ar, bk, bM, bF, bW, af, af.passKs, aM, aU, ae, ae.lendKs, cr, bU, bV, bG, setInn, am, cW, cO, aB, aZ, bY, bN, aK, aw, Glob.gl, aQ, cj, bn, bQ, bD, ah, cC, cN, cz, cY, bO, ai, ai.ptrOnlys, ag, aL, cJ, aF, bp, bg, cH, aE, bq, cB, Nat.reduceBEq, undef]
      refine ⟨by omega, ?_⟩
      generalize hR : m.getD i [] = R at *
      refine S_forU R.length (fun j => [(17, .s (.int .i64 j))]) (fun j => [(6, .row 1 153 (((R.take j).map toW).map cells))]) (fun _ => True) trivial ?_ (fun j hj _ => S_run [] 800 ?_)
      · simp (maxSteps := 4000000) -implicitDefEqProofs only [Ent.of0, Ent.of1, Ent.of2, Ent.of3, V, bS, bA, bB, ca, cL, cP, gt, lk, bR, cq, cg, cb, cF, bZ, bZ.subCs, cQ, a4, bj, b0, aO, bw, a3, aD, bI, a9, az, a8, aW, bX, cT, cZ, an, aH, cD, cc, cn, cV, cU, ay, ak, ce, bt, zC, argS, a7, cI, c6, cR, aj, aC, aI, aV, bP, leC, bT, cm, cp, cM, cG, aX, aP, cK, ap, cd, bm, bm.viewCs, bf, bf.flatCs, ax, ax.LensOks, Value.oneCell', ↓reduceIte, ite_true, ite_false, if_true, if_false, Nat.reduceAdd, Nat.reduceSub, Nat.reduceMul, Nat.reduceEqDiff, Nat.reduceLT, Nat.reduceLeDiff, reduceCtorEq, Int.reduceToNat, forall_const, implies_true, bv, Ent.mk3, bE, bC, be, a6, bL, a5, br, bK, bu, bh, bH, cu, bJ, cS, rn, co, co.renCs, aN, aT, aR, aR.viewOks, aJ, bz, bz.flatBs, aG, aq, aY, au, aA, bo, bo.keysBs, av, ar, bk, bM, bF, bW, af, af.passKs, aM, aU, ae, ae.lendKs, cr, bU, bV, bG, setInn, am, cW, cO, aB, aZ, bY, bN, aK, aw, Glob.gl, aQ, cj, bn, bQ, bD, ah, cC, cN, cz, cY, bO, ai, ai.ptrOnlys, ag, aL, cJ, aF, bp, bg, cH, aE, bq, cB, Nat.reduceBEq, undef]; simp
      · by_cases hjl : j < R.length
        · have hj2 : (j : Int) < (R.length : Int) := by omega
          have htk : ((R.take j).map toW).map cells ++ [[C.s (.complex .f64 (FloatKind.f64.nearest (R.getD j ⟨0, 0⟩).re) (FloatKind.f64.nearest (R.getD j ⟨0, 0⟩).im))]] = ((R.take (j + 1)).map toW).map cells := by
            rw [take_getD ⟨0, 0⟩ hjl, List.map_append, List.map_append]; rfl
          have htl : (R.take j).length = j := by rw [List.length_take]; omega
          delta c84l1
          simp (maxSteps := 4000000) -implicitDefEqProofs only [hj2, hjl, bX, htk, htl, InR, Ent.of0, Ent.of1, Ent.of2, Ent.of3, V, bS, bA, bB, ca, cL, cP, gt, lk, bR, cq, cg, cb, cF, bZ, bZ.subCs, cQ, a4, bj, b0, aO, bw, a3, aD, bI, a9, az, a8, aW, bX, cT, cZ, an, aH, cD, cc, cn, cV, cU, ay, ak, ce, bt, zC, argS, a7, cI, c6, cR, aj, aC, aI, aV, bP, leC, bT, cm, cp, cM, cG, aX, aP, cK, ap, cd, bm, bm.viewCs, bf, bf.flatCs, ax, ax.LensOks, Value.oneCell', ↓reduceIte, ite_true, ite_false, if_true, if_false, Nat.reduceAdd, Nat.reduceSub, Nat.reduceMul, Nat.reduceEqDiff, Nat.reduceLT, Nat.reduceLeDiff, reduceCtorEq, Int.reduceToNat, forall_const, implies_true, bv, Ent.mk3, bE, bC, be, a6, bL, a5, br, bK, bu, bh, bH, cu, bJ, cS, rn, co, co.renCs, aN, aT, aR, aR.viewOks, aJ, bz, bz.flatBs, aG, aq, aY, au, aA, bo, bo.keysBs, av, ar, bk, bM, bF, bW, af, af.passKs, aM, aU, ae, ae.lendKs, cr, bU, bV, bG, setInn, am, cW, cO, aB, aZ, bY, bN, aK, aw, Glob.gl, aQ, cj, bn, bQ, bD, ah, cC, cN, cz, cY, bO, ai, ai.ptrOnlys, ag, aL, cJ, aF, bp, bg, cH, aE, bq, cB, Nat.reduceBEq, undef]
          and_intros <;> first | omega | rfl | trivial
        · have : j = R.length := by omega
          subst this
          have hj2 : ¬ (R.length : Int) < (R.length : Int) := by omega
          have htk : (gridS (m.take i)).map cells ++ [[C.sl 1 ((R.map toW).map cells)]] = (gridS (m.take (i + 1))).map cells := by
            rw [take_getD [] h, hR, gridS, gridS, List.map_append, List.map_append]; rfl
          have htl : (gridS (m.take i)).length = i := by rw [gridS, List.length_map, List.length_take]; omega
          delta c84l1
          simp (maxSteps := 4000000) -implicitDefEqProofs only [hj2, List.take_length, htk, htl, InR, Ent.of0, Ent.of1, Ent.of2, Ent.of3, V, bS, bA, bB, ca, cL, cP, gt, lk, bR, cq, cg, cb, cF, bZ, bZ.subCs, cQ, a4, bj, b0, aO, bw, a3, aD, bI, a9, az, a8, aW, bX, cT, cZ, an, aH, cD, cc, cn, cV, cU, ay, ak, ce, bt, zC, argS, a7, cI, c6, cR, aj, aC, aI, aV, bP, leC, bT, cm, cp, cM, cG, aX, aP, cK, ap, cd, bm, bm.viewCs, bf, bf.flatCs, ax, ax.LensOks, Value.oneCell', ↓reduceIte, ite_true, ite_false, if_true, if_false, Nat.reduceAdd, Nat.reduceSub, Nat.reduceMul, Nat.reduceEqDiff, Nat.reduceLT, Nat.reduceLeDiff, reduceCtorEq, Int.reduceToNat, forall_const, implies_true, bv, Ent.mk3, bE, bC, be, a6, bL, a5, br, bK, bu, bh, bH, cu, bJ, cS, rn, co, co.renCs, aN, aT, aR, aR.viewOks, aJ, bz, bz.flatBs, aG, aq, aY, au, aA, bo, bo.keysBs, av, ar, bk, bM, bF, bW, af, af.passKs, aM, aU, ae, ae.lendKs, cr, bU, bV, bG, setInn, am, cW, cO, aB, aZ, bY, bN, aK, aw, Glob.gl, aQ, cj, bn, bQ, bD, ah, cC, cN, cz, cY, bO, ai, ai.ptrOnlys, ag, aL, cJ, aF, bp, bg, cH, aE, bq, cB, Nat.reduceBEq, undef]
          and_intros <;> first | omega | rfl | trivial
    · have : i = m.length := by omega
      subst this
      have hi2 : ¬ (m.length : Int) < (m.length : Int) := by omega
      delta c84l2
      simp (maxSteps := 4000000) -implicitDefEqProofs only [hi2, rv84, List.take_length, Ent.of0, Ent.of1, Ent.of2, Ent.of3, V, bS, bA, bB, ca, cL, cP, gt, lk, bR, cq, cg, cb, cF, bZ, bZ.subCs, cQ, a4, bj, b0, aO, bw, a3, aD, bI, a9, az, a8, aW, bX, cT, cZ, an, aH, cD, cc, cn, cV, cU, ay, ak, ce, bt, zC, argS, a7, cI, c6, cR, aj, aC, aI, aV, bP, leC, bT, cm, cp, cM, cG, aX, aP, cK, ap, cd, bm, bm.viewCs, bf, bf.flatCs, ax, ax.LensOks, Value.oneCell', ↓reduceIte, ite_true, ite_false, if_true, if_false, Nat.reduceAdd, Nat.reduceSub, Nat.reduceMul, Nat.reduceEqDiff, Nat.reduceLT, Nat.reduceLeDiff, reduceCtorEq, Int.reduceToNat, forall_const, implies_true, bv, Ent.mk3, bE, bC, be, a6, bL, a5, br, bK, bu, bh, bH, cu, bJ, cS, rn, co, co.renCs, aN, aT, aR, aR.viewOks, aJ, bz, bz.flatBs, aG, aq, aY, au, aA, bo, bo.keysBs, av, ar, bk, bM, bF, bW, af, af.passKs, aM, aU, ae, ae.lendKs, cr, bU, bV, bG, setInn, am, cW, cO, aB, aZ, bY, bN, aK, aw, Glob.gl, aQ, cj, bn, bQ, bD, ah, cC, cN, cz, cY, bO, ai, ai.ptrOnlys, ag, aL, cJ, aF, bp, bg, cH, aE, bq, cB, Nat.reduceBEq, undef]
def e84 : Ent Try.prog := .of1 84 (fun m => m.length ≤ 1000 ∧ ∀ r ∈ m, r.length ≤ 1000000) (fun m : List (List Gs) => enc (gridS m)) (fun _ => trivial) (fun m h => gridOf_c m h.1 h.2)
end Go.Proofs.Ytfgpbmjmoobcnaa
end
section
open Go Go.Am
open Go.Am.Dat (cells)
namespace Go.Proofs.Ytfgpbmjmoobcnaa
set_option maxHeartbeats 4000000
set_option maxRecDepth 20000
set_option linter.unusedSimpArgs false
def dotW (row : List Fz) (o : List (List Fz)) (i : Nat) : Nat → Fz
  | 0 => ⟨0, 0⟩
  | k + 1 => addW (dotW row o i k) (mulW (row.getD k ⟨0, 0⟩) ((o.getD k []).getD i ⟨0, 0⟩))
def rowW (o : List (List Fz)) (row : List Fz) : List Fz := (List.range (o.getD 0 []).length).map fun i => dotW row o i o.length
def timesW (a o : List (List Fz)) : List (List Fz) := a.map (rowW o)
def sumW (row : List Fz) (o : List (List Fz)) (n k j : Nat) : List Fz := (List.range n).map fun i => if i < j then dotW row o i (k + 1) else dotW row o i k
theorem sumW_get {row : List Fz} {o : List (List Fz)} {n k j : Nat} (h : j < n) : (sumW row o n k j).getD j ⟨0, 0⟩ = dotW row o j k := by
  simp [sumW, h]
theorem sumW_set {row : List Fz} {o : List (List Fz)} {n k j : Nat} (h : j < n) : ((sumW row o n k j).map cells).set j [C.s (.complex .f64 (dotW row o j (k + 1)).x (dotW row o j (k + 1)).y)] = (sumW row o n k (j + 1)).map cells := by
  have e : [C.s (.complex .f64 (dotW row o j (k + 1)).x (dotW row o j (k + 1)).y)] = cells (dotW row o j (k + 1)) := rfl
  rw [e, ← List.map_set]
  congr 1
  apply List.ext_getElem?
  intro i
  simp only [sumW, List.getElem?_set, List.getElem?_map, List.length_map, List.length_range]
  by_cases hi : j = i
  · subst hi; simp [h]
  · rw [if_neg hi]
    by_cases hin : i < n
    · simp only [List.getElem?_range hin, Option.map_some, Option.some.injEq]
      have : (i < j + 1) = (i < j) := by apply propext; omega
      simp only [this]
    · rw [List.getElem?_eq_none (by simpa using hin)]; rfl
theorem sumW_next (row : List Fz) (o : List (List Fz)) (n k : Nat) : sumW row o n k n = sumW row o n (k + 1) 0 := by
  unfold sumW
  refine List.map_congr_left fun i hi => ?_
  have : i < n := by simpa using hi
  simp [this]
theorem rng_getD {α : Type} {n i : Nat} (f : Nat → α) (d : α) (h : i < n) : ((List.range n).map f).getD i d = f i := by
  rw [List.getD_eq_getElem?_getD, List.getElem?_map, List.getElem?_range h]; rfl
theorem sumW_zero (row : List Fz) (o : List (List Fz)) (n : Nat) : (sumW row o n 0 0).map cells = List.replicate n [C.s (.complex .f64 0 0)] := by
  unfold sumW
  rw [List.map_map, List.eq_replicate_iff]
  refine ⟨by simp, fun b hb => ?_⟩
  obtain ⟨i, _, rfl⟩ := List.mem_map.1 hb
  simp [dotW, cells_fz]
theorem dot_c {a o : List (List Fz)} {m ls : List (List Gs)} {A B : Nat} (hf : Fits m ls A B) (hs : 8 * (A * B) ≤ 9007199254740991) (ha : RepM a m) (ho : RepM o ls) {r i : Nat} (hr : r < m.length) (hi : i < (ls.getD 0 []).length) : ∀ k, k ≤ ls.length → IsC (dotW (a.getD r []) o i k) (dotS (m.getD r []) ls i k) ∧
    (k < ls.length → aH .mul ((a.getD r []).getD k ⟨0, 0⟩).x ((a.getD r []).getD k ⟨0, 0⟩).y ((o.getD k []).getD i ⟨0, 0⟩).x ((o.getD k []).getD i ⟨0, 0⟩).y = some ((mulW ((a.getD r []).getD k ⟨0, 0⟩) ((o.getD k []).getD i ⟨0, 0⟩)).x, (mulW ((a.getD r []).getD k ⟨0, 0⟩) ((o.getD k []).getD i ⟨0, 0⟩)).y) ∧
      aH .add (dotW (a.getD r []) o i k).x (dotW (a.getD r []) o i k).y (mulW ((a.getD r []).getD k ⟨0, 0⟩) ((o.getD k []).getD i ⟨0, 0⟩)).x (mulW ((a.getD r []).getD k ⟨0, 0⟩) ((o.getD k []).getD i ⟨0, 0⟩)).y = some ((dotW (a.getD r []) o i (k + 1)).x, (dotW (a.getD r []) o i (k + 1)).y) ∧
      IsC (dotW (a.getD r []) o i (k + 1)) (dotS (m.getD r []) ls i (k + 1))) := by
  have hrm : m.getD r [] ∈ m := getD_mem [] hr
  have hcol := hf.cols _ hrm
  have step : ∀ k, k < ls.length → IsC (dotW (a.getD r []) o i k) (dotS (m.getD r []) ls i k) → (aH .mul ((a.getD r []).getD k ⟨0, 0⟩).x ((a.getD r []).getD k ⟨0, 0⟩).y ((o.getD k []).getD i ⟨0, 0⟩).x ((o.getD k []).getD i ⟨0, 0⟩).y = some ((mulW ((a.getD r []).getD k ⟨0, 0⟩) ((o.getD k []).getD i ⟨0, 0⟩)).x, (mulW ((a.getD r []).getD k ⟨0, 0⟩) ((o.getD k []).getD i ⟨0, 0⟩)).y) ∧
      aH .add (dotW (a.getD r []) o i k).x (dotW (a.getD r []) o i k).y (mulW ((a.getD r []).getD k ⟨0, 0⟩) ((o.getD k []).getD i ⟨0, 0⟩)).x (mulW ((a.getD r []).getD k ⟨0, 0⟩) ((o.getD k []).getD i ⟨0, 0⟩)).y = some ((dotW (a.getD r []) o i (k + 1)).x, (dotW (a.getD r []) o i (k + 1)).y) ∧
      IsC (dotW (a.getD r []) o i (k + 1)) (dotS (m.getD r []) ls i (k + 1))) := fun k hk hd => by
    have hik : i < (ls.getD k []).length := by rw [hf.len _ (getD_mem [] hk)]; exact hi
    have b1 := hf.ma _ hrm _ (getD_mem ⟨0, 0⟩ (by omega : k < (m.getD r []).length))
    have b2 := hf.mb _ (getD_mem [] hk) _ (getD_mem ⟨0, 0⟩ hik)
    have b3 := bd_dot hf hrm hi k (by omega)
    have hle := hf.le
    obtain ⟨m1, m2⟩ := mulW_c ((ha.2 r hr).2 k (by omega)) ((ho.2 k hk).2 i hik) b1 b2 (by omega)
    have b4 := bd_gmul b1 b2
    obtain ⟨a1, a2⟩ := addW_c hd m2 b3 b4 (by
      have : k * (2 * (A * B)) ≤ 3 * (2 * (A * B)) := Nat.mul_le_mul_right _ (by omega)
      omega)
    exact ⟨m1, a1, a2⟩
  intro k
  induction k with
  | zero => intro _; exact ⟨isC_zero, fun h => step 0 h isC_zero⟩
  | succ k ih =>
    intro hk
    have := ((ih (by omega)).2 (by omega)).2.2
    exact ⟨this, fun h => step (k + 1) h this⟩
theorem times_rep {a o : List (List Fz)} {m ls : List (List Gs)} {A B : Nat} (hf : Fits m ls A B) (hs : 8 * (A * B) ≤ 9007199254740991) (ha : RepM a m) (ho : RepM o ls) : RepM (timesW a o) (applS m ls) := by
  have hp := hf.pos
  refine ⟨by simp [timesW, applS, ha.1], fun r hr => ?_⟩
  have hr' : r < m.length := by simpa [applS] using hr
  rw [timesW, applS, getD_map' _ a r [] [] (by rw [ha.1]; exact hr'), getD_map' _ m r [] [] hr']
  have hl : (o.getD 0 []).length = (ls.getD 0 []).length := (ho.2 0 hp).1
  refine ⟨by simp only [rowW, rowS', List.length_map, List.length_range, hl], fun i hi => ?_⟩
  have hi' : i < (ls.getD 0 []).length := by simpa [rowS'] using hi
  have := (dot_c hf hs ha ho hr' hi' ls.length (Nat.le_refl _)).1
  have e1 : (rowW o (a.getD r [])).getD i ⟨0, 0⟩ = dotW (a.getD r []) o i ls.length := by rw [rowW, hl, ho.1, rng_getD _ _ hi']
  have e2 : (rowS' ls (m.getD r [])).getD i ⟨0, 0⟩ = dotS (m.getD r []) ls i ls.length := by rw [rowS', rng_getD _ _ hi']
  rw [e1, e2]; exact this
theorem gridTimes_c (a o : List (List Fz)) (m ls : List (List Gs)) (A B : Nat) (hf : Fits m ls A B) (hs : 8 * (A * B) ≤ 9007199254740991) (ha : RepM a m) (ho : RepM o ls) : FC Try.prog 86 [enc a, enc o] [] (enc (timesW a o)) [] := by
  refine fc_intro' is86 (by simp) (fun cx hl => S_run [] 800 ?_)
  have hp := hf.pos
  have hle := hf.le
  have hmle := hf.mle
  have hsh := hf.short
  have hoL := ho.1
  have haL := ha.1
  have hn0 : (o.getD 0 []).length = (ls.getD 0 []).length := (ho.2 0 hp).1
  generalize hn : (ls.getD 0 []).length = n at *
  have ho0 : 0 < o.length := by omega
  delta c86
  simp (maxSteps := 4000000) -implicitDefEqProofs only [rv86, Ent.of0, Ent.of1, Ent.of2, Ent.of3, V, bS, bA, bB, ca, cL, cP, gt, lk, bR, cq, cg, cb, cF, bZ, bZ.subCs, cQ, a4, bj, b0, aO, bw, a3, aD, bI, a9, az, a8, aW, bX, cT, cZ, an, aH, cD, cc, cn, cV, cU, ay, ak, ce, bt, zC, argS, a7, cI, c6, cR, aj, aC, aI, aV, bP, leC, bT, cm, cp, cM, cG, aX, aP, cK, ap, cd, bm, bm.viewCs, bf, bf.flatCs, ax, ax.LensOks, Value.oneCell', ↓reduceIte, ite_true, ite_false, if_true, if_false, Nat.reduceAdd, Nat.reduceSub, Nat.reduceMul, Nat.reduceEqDiff, Nat.reduceLT, Nat.reduceLeDiff, reduceCtorEq, Int.reduceToNat, forall_const, implies_true, bv, Ent.mk3, bE, bC, be, a6, bL, a5, br, bK, bu, bh, bH, cu, bJ, cS, rn, co, co.renCs, aN, aT, aR, aR.viewOks, aJ, bz, bz.flatBs, aG, aq, aY, au, aA, bo, bo.keysBs, av, ar, bk, bM, bF, bW, af, af.passKs, aM, aU, ae, ae.lendKs, cr, bU, bV, bG, setInn, am, cW, cO, aB, aZ, bY, bN, aK, aw, Glob.gl, aQ, cj, bn, bQ, bD, ah, cC, cN, cz, cY, bO, ai, ai.ptrOnlys, ag, aL, cJ, aF, bp, bg, cH, aE, bq, cB, Nat.reduceBEq, undef]
  refine S_forU a.length (fun i => [(15, .s (.int .i64 i))]) (fun i => [(5, .row 1 152 ((timesW (a.take i) o).map cells))]) (fun _ => True) trivial ?_ (fun i hi _ => S_run [] 800 ?_)
  · simp (maxSteps := 4000000) -implicitDefEqProofs only [timesW, Ent.of0, Ent.of1, Ent.of2, Ent.of3, V, bS, bA, bB, ca, cL, cP, gt, lk, bR, cq, cg, cb, cF, bZ, bZ.subCs, cQ, a4, bj, b0, aO, bw, a3, aD, bI, a9, az, a8, aW, bX, cT, cZ, an, aH, cD, cc, cn, cV, cU, ay, ak, ce, bt, zC, argS, a7, cI, c6, cR, aj, aC, aI, aV, bP, leC, bT, cm, cp, cM, cG, aX, aP, cK, ap, cd, bm, bm.viewCs, bf, bf.flatCs, ax, ax.LensOks, Value.oneCell', ↓reduceIte, ite_true, ite_false, if_true, if_false, Nat.reduceAdd, Nat.reduceSub, Nat.reduceMul, Nat.reduceEqDiff, Nat.reduceLT, Nat.reduceLeDiff, reduceCtorEq, Int.reduceToNat, forall_const, implies_true, bv, Ent.mk3, bE, bC, be, a6, bL, a5, br, bK, bu, bh, bH, cu, bJ, cS, rn, co, co.renCs, aN, aT, aR, aR.viewOks, aJ, bz, bz.flatBs, aG, aq, aY, au, aA, bo, bo.keysBs, av, ar, bk, bM, bF, bW, af, af.passKs, aM, aU, ae, ae.lendKs, cr, bU, bV, bG, setInn, am, cW, cO, aB, aZ, bY, bN, aK, aw, Glob.gl, aQ, cj, bn, bQ, bD, ah, cC, cN, cz, cY, bO, ai, ai.ptrOnlys, ag, aL, cJ, aF, bp, bg, cH, aE, bq, cB, Nat.reduceBEq, undef]; simp
  · by_cases h : i < a.length
    · have hi2 : (i : Int) < (a.length : Int) := by omega
      have him : i < m.length := by omega
      have hcol : (a.getD i []).length = ls.length := by rw [(ha.2 i him).1]; exact hf.cols _ (getD_mem [] him)
      delta c86l3
      simp (maxSteps := 4000000) -implicitDefEqProofs only [sz_fz, hi2, getD_list, h, ho0, hn0, Int.toNat_natCast, InR, Ent.of0, Ent.of1, Ent.of2, Ent.of3, V, bS, bA, bB, ca, cL, cP, gt, lk, bR, cq, cg, cb, cF, bZ, bZ.subCs, cQ, a4, bj, b0, aO, bw, a3, aD, bI, a9, az, a8, aW, bX, cT, cZ, an, aH, cD, cc, cn, cV, cU, ay, ak, ce, bt, zC, argS, a7, cI, c6, cR, aj, aC, aI, aV, bP, leC, bT, cm, cp, cM, cG, aX, aP, cK, ap, cd, bm, bm.viewCs, bf, bf.flatCs, ax, ax.LensOks, Value.oneCell', ↓reduceIte, ite_true, ite_false, if_true, if_false, Nat.reduceAdd, Nat.reduceSub, Nat.reduceMul, Nat.reduceEqDiff, Nat.reduceLT, Nat.reduceLeDiff, reduceCtorEq, Int.reduceToNat, forall_const, implies_true, bv, Ent.mk3, bE, bC, be, a6, bL, a5, br, bK, bu, bh, bH, cu, bJ, cS, rn, co, co.renCs, aN, aT, aR, aR.viewOks, aJ, bz, bz.flatBs, aG, aq, aY, au, aA, bo, bo.keysBs, av, ar, bk, bM, bF, bW, af, af.passKs, aM, aU, ae, ae.lendKs, cr, bU, bV, bG, setInn, am, cW, cO, aB, aZ, bY, bN, aK, aw, Glob.gl, aQ, cj, bn, bQ, bD, ah, cC, cN, cz, cY, bO, ai, ai.ptrOnlys, ag, aL, cJ, aF, bp, bg, cH, aE, bq, cB, Nat.reduceBEq, undef]
      refine ⟨by omega, by omega, by omega, ?_⟩
      generalize hR : a.getD i [] = R at *
      refine S_forU R.length (fun k => [(26, .s (.int .i64 k))]) (fun k => [(23, .row 1 153 ((sumW R o n k 0).map cells))]) (fun _ => True) trivial ?_ (fun k hk _ => S_run [] 800 ?_)
      · simp (maxSteps := 4000000) -implicitDefEqProofs only [sumW_zero, Ent.of0, Ent.of1, Ent.of2, Ent.of3, V, bS, bA, bB, ca, cL, cP, gt, lk, bR, cq, cg, cb, cF, bZ, bZ.subCs, cQ, a4, bj, b0, aO, bw, a3, aD, bI, a9, az, a8, aW, bX, cT, cZ, an, aH, cD, cc, cn, cV, cU, ay, ak, ce, bt, zC, argS, a7, cI, c6, cR, aj, aC, aI, aV, bP, leC, bT, cm, cp, cM, cG, aX, aP, cK, ap, cd, bm, bm.viewCs, bf, bf.flatCs, ax, ax.LensOks, Value.oneCell', ↓reduceIte, ite_true, ite_false, if_true, if_false, Nat.reduceAdd, Nat.reduceSub, Nat.reduceMul, Nat.reduceEqDiff, Nat.reduceLT, Nat.reduceLeDiff, reduceCtorEq, Int.reduceToNat, forall_const, implies_true, bv, Ent.mk3, bE, bC, be, a6, bL, a5, br, bK, bu, bh, bH, cu, bJ, cS, rn, co, co.renCs, aN, aT, aR, aR.viewOks, aJ, bz, bz.flatBs, aG, aq, aY, au, aA, bo, bo.keysBs, av, ar, bk, bM, bF, bW, af, af.passKs, aM, aU, ae, ae.lendKs, cr, bU, bV, bG, setInn, am, cW, cO, aB, aZ, bY, bN, aK, aw, Glob.gl, aQ, cj, bn, bQ, bD, ah, cC, cN, cz, cY, bO, ai, ai.ptrOnlys, ag, aL, cJ, aF, bp, bg, cH, aE, bq, cB, Nat.reduceBEq, undef]; simp
      · by_cases hkl : k < R.length
        · have hk2 : (k : Int) < (R.length : Int) := by omega
          have hko : k < o.length := by omega
          have hkn : (o.getD k []).length = n := by rw [(ho.2 k (by omega)).1, ← hn]; exact hf.len _ (getD_mem [] (by omega))
          delta c86l2
          simp (maxSteps := 4000000) -implicitDefEqProofs only [hk2, hkl, hko, getD_list, getD_fz, sz_fz, Ent.of0, Ent.of1, Ent.of2, Ent.of3, V, bS, bA, bB, ca, cL, cP, gt, lk, bR, cq, cg, cb, cF, bZ, bZ.subCs, cQ, a4, bj, b0, aO, bw, a3, aD, bI, a9, az, a8, aW, bX, cT, cZ, an, aH, cD, cc, cn, cV, cU, ay, ak, ce, bt, zC, argS, a7, cI, c6, cR, aj, aC, aI, aV, bP, leC, bT, cm, cp, cM, cG, aX, aP, cK, ap, cd, bm, bm.viewCs, bf, bf.flatCs, ax, ax.LensOks, Value.oneCell', ↓reduceIte, ite_true, ite_false, if_true, if_false, Nat.reduceAdd, Nat.reduceSub, Nat.reduceMul, Nat.reduceEqDiff, Nat.reduceLT, Nat.reduceLeDiff, reduceCtorEq, Int.reduceToNat, forall_const, implies_true, bv, Ent.mk3, bE, bC, be, a6, bL, a5, br, bK, bu, bh, bH, cu, bJ, cS, rn, co, co.renCs, aN, aT, aR, aR.viewOks, aJ, bz, bz.flatBs, aG, aq, aY, au, aA, bo, bo.keysBs, av, ar, bk, bM, bF, bW, af, af.passKs, aM, aU, ae, ae.lendKs, cr, bU, bV, bG, setInn, am, cW, cO, aB, aZ, bY, bN, aK, aw, Glob.gl, aQ, cj, bn, bQ, bD, ah, cC, cN, cz, cY, bO, ai, ai.ptrOnlys, ag, aL, cJ, aF, bp, bg, cH, aE, bq, cB, Nat.reduceBEq, undef]
          refine ⟨by omega, by omega, ?_⟩
          refine S_forU n (fun j => [(36, .s (.int .i64 j))]) (fun j => [(23, .row 1 153 ((sumW R o n k j).map cells))]) (fun _ => True) trivial ?_ (fun j hj _ => S_run [] 800 ?_)
          · simp (maxSteps := 4000000) -implicitDefEqProofs only [Ent.of0, Ent.of1, Ent.of2, Ent.of3, V, bS, bA, bB, ca, cL, cP, gt, lk, bR, cq, cg, cb, cF, bZ, bZ.subCs, cQ, a4, bj, b0, aO, bw, a3, aD, bI, a9, az, a8, aW, bX, cT, cZ, an, aH, cD, cc, cn, cV, cU, ay, ak, ce, bt, zC, argS, a7, cI, c6, cR, aj, aC, aI, aV, bP, leC, bT, cm, cp, cM, cG, aX, aP, cK, ap, cd, bm, bm.viewCs, bf, bf.flatCs, ax, ax.LensOks, Value.oneCell', ↓reduceIte, ite_true, ite_false, if_true, if_false, Nat.reduceAdd, Nat.reduceSub, Nat.reduceMul, Nat.reduceEqDiff, Nat.reduceLT, Nat.reduceLeDiff, reduceCtorEq, Int.reduceToNat, forall_const, implies_true, bv, Ent.mk3, bE, bC, be, a6, bL, a5, br, bK, bu, bh, bH, cu, bJ, cS, rn, co, co.renCs, aN, aT, aR, aR.viewOks, aJ, bz, bz.flatBs, aG, aq, aY, au, aA, bo, bo.keysBs, av, ar, bk, bM, bF, bW, af, af.passKs, aM, aU, ae, ae.lendKs, cr, bU, bV, bG, setInn, am, cW, cO, aB, aZ, bY, bN, aK, aw, Glob.gl, aQ, cj, bn, bQ, bD, ah, cC, cN, cz, cY, bO, ai, ai.ptrOnlys, ag, aL, cJ, aF, bp, bg, cH, aE, bq, cB, Nat.reduceBEq, undef]; simp
          · by_cases hjl : j < n
            · have hj2 : (j : Int) < (n : Int) := by omega
              have hjk : j < (o.getD k []).length := by omega
              obtain ⟨d1, d2⟩ := dot_c hf hs ha ho him (by omega : j < (ls.getD 0 []).length) k (by omega)
              rw [hR] at d1 d2
              obtain ⟨d3, d4, d5⟩ := d2 (by omega)
              have hsl : (sumW R o n k j).length = n := by simp [sumW]
              have hsg := sumW_get (row := R) (o := o) (k := k) hjl
              have hsg' : ((sumW R o n k j).map cells).getD j [] = [C.s (.complex .f64 (dotW R o j k).x (dotW R o j k).y)] := by rw [getD_map' cells _ j ⟨0, 0⟩ _ (by omega), hsg]; rfl
              have hss := sumW_set (row := R) (o := o) (k := k) hjl
              simp only [aH] at d3 d4
              delta c86l1
              simp (maxSteps := 4000000) -implicitDefEqProofs only [sz_fz, hj2, hjl, hjk, hkn, bX, getD_fz, hsg, d3, d4, hsl, hsg', hss, aD, InR, Ent.of0, Ent.of1, Ent.of2, Ent.of3, V, bS, bA, bB, ca, cL, cP, gt, lk, bR, cq, cg, cb, cF, bZ, bZ.subCs, cQ, a4, bj, b0, aO, bw, a3, aD, bI, a9, az, a8, aW, bX, cT, cZ, an, aH, cD, cc, cn, cV, cU, ay, ak, ce, bt, zC, argS, a7, cI, c6, cR, aj, aC, aI, aV, bP, leC, bT, cm, cp, cM, cG, aX, aP, cK, ap, cd, bm, bm.viewCs, bf, bf.flatCs, ax, ax.LensOks, Value.oneCell', ↓reduceIte, ite_true, ite_false, if_true, if_false, Nat.reduceAdd, Nat.reduceSub, Nat.reduceMul, Nat.reduceEqDiff, Nat.reduceLT, Nat.reduceLeDiff, reduceCtorEq, Int.reduceToNat, forall_const, implies_true, bv, Ent.mk3, bE, bC, be, a6, bL, a5, br, bK, bu, bh, bH, cu, bJ, cS, rn, co, co.renCs, aN, aT, aR, aR.viewOks, aJ, bz, bz.flatBs, aG, aq, aY, au, aA, bo, bo.keysBs, av, ar, bk, bM, bF, bW, af, af.passKs, aM, aU, ae, ae.lendKs, cr, bU, bV, bG, setInn, am, cW, cO, aB, aZ, bY, bN, aK, aw, Glob.gl, aQ, cj, bn, bQ, bD, ah, cC, cN, cz, cY, bO, ai, ai.ptrOnlys, ag, aL, cJ, aF, bp, bg, cH, aE, bq, cB, Nat.reduceBEq, undef]
              and_intros <;> first | omega | rfl | trivial
            · have : j = n := by omega
              subst this
              have hj2 : ¬ (j : Int) < (j : Int) := by omega
              have hsn := sumW_next R o j k
              delta c86l1
              simp (maxSteps := 4000000) -implicitDefEqProofs only [hj2, hkn, hsn, InR, Ent.of0, Ent.of1, Ent.of2, Ent.of3, V, bS, bA, bB, ca, cL, cP, gt, lk, bR, cq, cg, cb, cF, bZ, bZ.subCs, cQ, a4, bj, b0, aO, bw, a3, aD, bI, a9, az, a8, aW, bX, cT, cZ, an, aH, cD, cc, cn, cV, cU, ay, ak, ce, bt, zC, argS, a7, cI, c6, cR, aj, aC, aI, aV, bP, leC, bT, cm, cp, cM, cG, aX, aP, cK, ap, cd, bm, bm.viewCs, bf, bf.flatCs, ax, ax.LensOks, Value.oneCell', ↓reduceIte, ite_true, ite_false, if_true, if_false, Nat.reduceAdd, Nat.reduceSub, Nat.reduceMul, Nat.reduceEqDiff, Nat.reduceLT, Nat.reduceLeDiff, reduceCtorEq, Int.reduceToNat, forall_const, implies_true, bv, Ent.mk3, bE, bC, be, a6, bL, a5, br, bK, bu, bh, bH, cu, bJ, cS, rn, co, co.renCs, aN, aT, aR, aR.viewOks, aJ, bz, bz.flatBs, aG, aq, aY, au, aA, bo, bo.keysBs, av, ar, bk, bM, bF, bW, af, af.passKs, aM, aU, ae, ae.lendKs, cr, bU, bV, bG, setInn, am, cW, cO, aB, aZ, bY, bN, aK, aw, Glob.gl, aQ, cj, bn, bQ, bD, ah, cC, cN, cz, cY, bO, ai, ai.ptrOnlys, ag, aL, cJ, aF, bp, bg, cH, aE, bq, cB, Nat.reduceBEq, undef]
              and_intros <;> first | omega | rfl | trivial
        · have : k = R.length := by omega
          subst this
          have hk2 : ¬ (R.length : Int) < (R.length : Int) := by omega
          have hrow : rowW o R = sumW R o n R.length 0 := by
            rw [rowW, hn0, hcol, ← hoL, sumW]
            refine List.map_congr_left fun i _ => ?_
            simp
          have htk : (timesW (a.take i) o).map cells ++ [[C.sl 1 ((sumW R o n R.length 0).map cells)]] = (timesW (a.take (i + 1)) o).map cells := by
            rw [take_getD [] h, hR, timesW, timesW, List.map_append, List.map_append, ← hrow]; rfl
          have htl : (timesW (a.take i) o).length = i := by rw [timesW, List.length_map, List.length_take]; omega
          delta c86l2
          simp (maxSteps := 4000000) -implicitDefEqProofs only [hk2, htk, htl, InR, Ent.of0, Ent.of1, Ent.of2, Ent.of3, V, bS, bA, bB, ca, cL, cP, gt, lk, bR, cq, cg, cb, cF, bZ, bZ.subCs, cQ, a4, bj, b0, aO, bw, a3, aD, bI, a9, az, a8, aW, bX, cT, cZ, an, aH, cD, cc, cn, cV, cU, ay, ak, ce, bt, zC, argS, a7, cI, c6, cR, aj, aC, aI, aV, bP, leC, bT, cm, cp, cM, cG, aX, aP, cK, ap, cd, bm, bm.viewCs, bf, bf.flatCs, ax, ax.LensOks, Value.oneCell', ↓reduceIte, ite_true, ite_false, if_true, if_false, Nat.reduceAdd, Nat.reduceSub, Nat.reduceMul, Nat.reduceEqDiff, Nat.reduceLT, Nat.reduceLeDiff, reduceCtorEq, Int.reduceToNat, forall_const, implies_true, bv, Ent.mk3, bE, bC, be, a6, bL, a5, br, bK, bu, bh, bH, cu, bJ, cS, rn, co, co.renCs, aN, aT, aR, aR.viewOks, aJ, bz, bz.flatBs, aG, aq, aY, au, aA, bo, bo.keysBs, av, ar, bk, bM, bF, bW, af, af.passKs, aM, aU, ae, ae.lendKs, cr, bU, bV, bG, setInn, am, cW, cO, aB, aZ, bY, bN, aK, aw, Glob.gl, aQ, cj, bn, bQ, bD, ah, cC, cN, cz, cY, bO, ai, ai.ptrOnlys, ag, aL, cJ, aF, bp, bg, cH, aE, bq, cB, Nat.reduceBEq, undef]
          and_intros <;> first | omega | rfl | trivial
    · have : i = a.length := by omega
      subst this
      have hi2 : ¬ (a.length : Int) < (a.length : Int) := by omega
      delta c86l3
      simp (maxSteps := 4000000) -implicitDefEqProofs only [hi2, rv86, List.take_length, Ent.of0, Ent.of1, Ent.of2, Ent.of3, V, bS, bA, bB, ca, cL, cP, gt, lk, bR, cq, cg, cb, cF, bZ, bZ.subCs, cQ, a4, bj, b0, aO, bw, a3, aD, bI, a9, az, a8, aW, bX, cT, cZ, an, aH, cD, cc, cn, cV, cU, ay, ak, ce, bt, zC, argS, a7, cI, c6, cR, aj, aC, aI, aV, bP, leC, bT, cm, cp, cM, cG, aX, aP, cK, ap, cd, bm, bm.viewCs, bf, bf.flatCs, ax, ax.LensOks, Value.oneCell', ↓reduceIte, ite_true, ite_false, if_true, if_false, Nat.reduceAdd, Nat.reduceSub, Nat.reduceMul, Nat.reduceEqDiff, Nat.reduceLT, Nat.reduceLeDiff, reduceCtorEq, Int.reduceToNat, forall_const, implies_true, bv, Ent.mk3, bE, bC, be, a6, bL, a5, br, bK, bu, bh, bH, cu, bJ, cS, rn, co, co.renCs, aN, aT, aR, aR.viewOks, aJ, bz, bz.flatBs, aG, aq, aY, au, aA, bo, bo.keysBs, av, ar, bk, bM, bF, bW, af, af.passKs, aM, aU, ae, ae.lendKs, cr, bU, bV, bG, setInn, am, cW, cO, aB, aZ, bY, bN, aK, aw, Glob.gl, aQ, cj, bn, bQ, bD, ah, cC, cN, cz, cY, bO, ai, ai.ptrOnlys, ag, aL, cJ, aF, bp, bg, cH, aE, bq, cB, Nat.reduceBEq, undef]
theorem RepM.len {a : List (List Fz)} {m : List (List Gs)} (h : RepM a m) : a.length = m.length := h.1
end Go.Proofs.Ytfgpbmjmoobcnaa
end
section
open Go Go.Am
open Go.Am.Dat (cells)
namespace Go.Proofs.Ytfgpbmjmoobcnaa
set_option maxHeartbeats 4000000
set_option maxRecDepth 20000
set_option linter.unusedSimpArgs false
def ofM (w : List (List Fz)) : List (List Gs) := w.map fun r => r.map ofW
theorem ofW_c {z : Fz} {g : Gs} (h : IsC z g) : ofW z = g := by
  unfold ofW
  rw [(ofF_c h.1).2, (ofF_c h.2).2]
theorem ofM_c {w : List (List Fz)} {m : List (List Gs)} (h : RepM w m) : ofM w = m := by
  apply List.ext_getElem
  · simpa [ofM] using h.1
  · intro i h1 h2
    have h3 := h.2 i h2
    have hw : i < w.length := by rw [h.1]; exact h2
    have e1 : (ofM w)[i] = (w.getD i []).map ofW := by simp [ofM, List.getD_eq_getElem?_getD, List.getElem?_eq_getElem hw]
    have e2 : m[i] = m.getD i [] := by rw [List.getD_eq_getElem?_getD, List.getElem?_eq_getElem h2]; rfl
    rw [e1, e2]
    apply List.ext_getElem
    · simpa using h3.1
    · intro j j1 j2
      have h4 := h3.2 j j2
      have hwj : j < (w.getD i []).length := by rw [h3.1]; exact j2
      have e3 : ((w.getD i []).map ofW)[j] = ofW ((w.getD i []).getD j ⟨0, 0⟩) := by
        rw [List.getElem_map]; congr 1
        rw [List.getD_eq_getElem?_getD (l := w.getD i []), List.getElem?_eq_getElem hwj]; rfl
      have e4 : (m.getD i [])[j] = (m.getD i []).getD j ⟨0, 0⟩ := by rw [List.getD_eq_getElem?_getD (l := m.getD i []), List.getElem?_eq_getElem j2]; rfl
      rw [e3, e4]; exact ofW_c h4
structure RowsOk (w : List (List Fz)) (m : List (List Gs)) : Prop where
  rep : RepM w m
  short : m.length ≤ 1000
  shorts : ∀ r ∈ m, r.length ≤ 1000000
  small : ∀ r ∈ m, ∀ g ∈ r, bd g 9007199254740991
end Go.Proofs.Ytfgpbmjmoobcnaa
end
section
open Go Go.Am
open Go.Am.Dat (cells)
namespace Go.Proofs.Ytfgpbmjmoobcnaa
set_option maxHeartbeats 4000000
set_option maxRecDepth 100000
set_option linter.unusedSimpArgs false
def turnsS (c : Nat) (a b : List Int) : List Int := (List.range c).flatMap fun i => [a.getD i 0, b.getD i 0]
theorem turnsS_succ (c : Nat) (a b : List Int) : turnsS (c + 1) a b = turnsS c a b ++ [a.getD c 0, b.getD c 0] := by simp [turnsS, List.range_succ]
theorem turnsS_length (a b : List Int) : ∀ c, (turnsS c a b).length = 2 * c
  | 0 => rfl
  | c + 1 => by rw [turnsS_succ, List.length_append, turnsS_length a b c]; simp; omega
def judgedS (c : Nat) (T : List Int → List Int) (gain : Int) (l : List Gs) : List Int := l.flatMap fun g => turnsS c (T (sqS c gain g.re)) (T (sqS c gain g.im))
def e136 (f : FuncId) (T : List Int → List Int) (c : Nat) (hc : c = 1 ∨ c = 2 ∨ c = 3) (hf : ∀ sq : List Int, sq.length = 2 ^ c → (∀ s ∈ sq, 0 ≤ s ∧ s ≤ 4611686018427387903) → FC Try.prog f [enc (lvls c), enc sq] [] (enc (T sq)) []) : Ent Try.prog where
  id := 136
  sp := fun _ _ => none
  ok := by intro _ _ _ _ _ _ h; cases h
  kp := fun args chs => match args, chs with
    | [.s (.int .i64 n), .ptr k1 o1, .ptr k2 o2, .ptr k3 o3], [(k1', .box [.sl 1 L]), (k2', .box [.s (.int .i64 o), .s (.int .i64 g), .sl 2 l]), (k3', .box [.fn (.func f') [] []])] =>
      some ((k1 = 100000 ∧ o1 = 0 ∧ k2 = 100001 ∧ o2 = 0 ∧ k3 = 100002 ∧ o3 = 0 ∧ k1' = 100000 ∧ k2' = 100001 ∧ k3' = 100002 ∧ f' = f ∧ L = (lvls c).map cells ∧ ∃ l' : List Gs, l = l'.map cells) ∧ (1 ≤ g ∧ g ≤ 10000000) ∧ -100000000 ≤ n ∧ n ≤ 100000000, enc (T (sqS c g n)))
    | _, _ => none
  kpok := by
    intro args chs p r hs hp
    split at hs
    · rename_i n k1 o1 k2 o2 k3 o3 k1' L k2' o g l k3' f'
      simp only [Option.some.injEq, Prod.mk.injEq] at hs
      obtain ⟨rfl, rfl⟩ := hs
      obtain ⟨⟨rfl, rfl, rfl, rfl, rfl, rfl, rfl, rfl, rfl, hff, rfl, l', rfl⟩, hg, hn⟩ := hp
      subst hff
      exact ⟨part_c f' T c hc hf ⟨o, g, l'⟩ n hg hn, rfl, trivial⟩
    · cases hs
theorem judged_c (f : FuncId) (T : List Int → List Int) (c : Nat) (hc : c = 1 ∨ c = 2 ∨ c = 3) (hf : ∀ sq : List Int, sq.length = 2 ^ c → (∀ s ∈ sq, 0 ≤ s ∧ s ≤ 4611686018427387903) → FC Try.prog f [enc (lvls c), enc sq] [] (enc (T sq)) [])
    (hT : ∀ sq : List Int, sq.length = 2 ^ c → (T sq).length = c) (g : Int) (l : List Gs) (hg : 1 ≤ g ∧ g ≤ 10000000) (hn : ∀ s ∈ l, (-100000000 ≤ s.re ∧ s.re ≤ 100000000) ∧ -100000000 ≤ s.im ∧ s.im ≤ 100000000) (hll : l.length ≤ 1000) :
    FC Try.prog 115 [enc (⟨2 * (c : Int), g, l⟩ : Recv), .fn (.func f) [] []] [] (enc (judgedS c T g l)) [] := by
  have hlc := lvls_length c
  have hq : (2 * (c : Int)).tdiv 2 = (c : Int) := by rw [Int.mul_comm]; exact Int.mul_tdiv_cancel _ (by decide)
  have hmin : min c IntKind.i64.bits = c := by rcases hc with rfl | rfl | rfl <;> decide
  have hP : (2 : Int) ^ c = ((2 ^ c : Nat) : Int) := by push_cast; rfl
  have hPb : 2 ≤ 2 ^ c ∧ 2 ^ c ≤ 8 := by rcases hc with rfl | rfl | rfl <;> decide
  have hget : ∀ i, i < 2 ^ c → (lvls c).getD i 0 = 2 * (i : Int) - ((2 ^ c : Nat) - 1) := fun i hi => by
    have hi' : i < (lvls c).length := by omega
    rw [List.getD_eq_getElem?_getD, List.getElem?_eq_getElem hi']
    simp [lvls]
  refine fc_introC [] is115 (by simp) trivial trivial trivial trivial (fun cx hcx hl _ => S_run [] 800 ?_)
  delta c115
  simp (maxSteps := 4000000) -implicitDefEqProofs only [rv115, enc_recv, hq, hmin, hP, Int.one_mul, InR, Ent.of0, Ent.of1, Ent.of2, Ent.of3, V, bS, bA, bB, ca, cL, cP, gt, lk, bR, cq, cg, cb, cF, bZ, bZ.subCs, cQ, a4, bj, b0, aO, bw, a3, aD, bI, a9, az, a8, aW, bX, cT, cZ, an, aH, cD, cc, cn, cV, cU, ay, ak, ce, bt, zC, argS, a7, cI, c6, cR, aj, aC, aI, aV, bP, leC, bT, cm, cp, cM, cG, aX, aP, cK, ap, cd, bm, bm.viewCs, bf, bf.flatCs, ax, ax.LensOks, Value.oneCell', ↓reduceIte, ite_true, ite_false, if_true, if_false, Nat.reduceAdd, Nat.reduceSub, Nat.reduceMul, Nat.reduceEqDiff, Nat.reduceLT, Nat.reduceLeDiff, reduceCtorEq, Int.reduceToNat, forall_const, implies_true, bv, Ent.mk3, bE, bC, be, a6, bL, a5, br, bK, bu, bh, bH, cu, bJ, cS, rn, co, co.renCs, aN, aT, aR, aR.viewOks, aJ, bz, bz.flatBs, aG, aq, aY, au, aA, bo, bo.keysBs, av, ar, bk, bM, bF, bW, af, af.passKs, aM, aU, ae, ae.lendKs, cr, bU, bV, bG, setInn, am, cW, cO, aB, aZ, bY, bN, aK, aw, Glob.gl, aQ, cj, bn, bQ, bD, ah, cC, cN, cz, cY, bO, ai, ai.ptrOnlys, ag, aL, cJ, aF, bp, bg, cH, aE, bq, cB, Nat.reduceBEq, undef]
  refine ⟨by omega, by omega, by omega, ?_⟩
  refine S_forU (2 ^ c) (fun i => [(7, .s (.int .i64 (2 * (i : Int) - ((2 ^ c : Nat) - 1))))]) (fun i => [(6, .box [if i = 0 then .s (.slice none 0 0) else .isl 1 3 (((lvls c).take i).map cells)])]) (fun _ => True) trivial ?_ (fun i hi _ => ?_)
  · simp (maxSteps := 4000000) -implicitDefEqProofs only [Ent.of0, Ent.of1, Ent.of2, Ent.of3, V, bS, bA, bB, ca, cL, cP, gt, lk, bR, cq, cg, cb, cF, bZ, bZ.subCs, cQ, a4, bj, b0, aO, bw, a3, aD, bI, a9, az, a8, aW, bX, cT, cZ, an, aH, cD, cc, cn, cV, cU, ay, ak, ce, bt, zC, argS, a7, cI, c6, cR, aj, aC, aI, aV, bP, leC, bT, cm, cp, cM, cG, aX, aP, cK, ap, cd, bm, bm.viewCs, bf, bf.flatCs, ax, ax.LensOks, Value.oneCell', ↓reduceIte, ite_true, ite_false, if_true, if_false, Nat.reduceAdd, Nat.reduceSub, Nat.reduceMul, Nat.reduceEqDiff, Nat.reduceLT, Nat.reduceLeDiff, reduceCtorEq, Int.reduceToNat, forall_const, implies_true, bv, Ent.mk3, bE, bC, be, a6, bL, a5, br, bK, bu, bh, bH, cu, bJ, cS, rn, co, co.renCs, aN, aT, aR, aR.viewOks, aJ, bz, bz.flatBs, aG, aq, aY, au, aA, bo, bo.keysBs, av, ar, bk, bM, bF, bW, af, af.passKs, aM, aU, ae, ae.lendKs, cr, bU, bV, bG, setInn, am, cW, cO, aB, aZ, bY, bN, aK, aw, Glob.gl, aQ, cj, bn, bQ, bD, ah, cC, cN, cz, cY, bO, ai, ai.ptrOnlys, ag, aL, cJ, aF, bp, bg, cH, aE, bq, cB, Nat.reduceBEq, undef]; omega
  · by_cases h : i < 2 ^ c
    · have htk : ((lvls c).take i).map cells ++ [[C.s (.int .i64 (2 * (i : Int) - ((2 ^ c : Nat) - 1)))]] = ((lvls c).take (i + 1)).map cells := by
        rw [take_getD 0 (by omega : i < (lvls c).length), List.map_append, hget i h]; rfl
      have hlt : ((lvls c).take i).length = i := by rw [List.length_take]; omega
      have hlt2 : 2 * (i : Int) - (((2 ^ c : Nat) : Int) - 1) < ((2 ^ c : Nat) : Int) := by omega
      refine S_run [] 800 ?_
      cases i with
      | zero =>
        delta c115l1
        simp (maxSteps := 4000000) -implicitDefEqProofs only [hq, hmin, hP, Int.one_mul, hlt2, h, InR, Ent.of0, Ent.of1, Ent.of2, Ent.of3, V, bS, bA, bB, ca, cL, cP, gt, lk, bR, cq, cg, cb, cF, bZ, bZ.subCs, cQ, a4, bj, b0, aO, bw, a3, aD, bI, a9, az, a8, aW, bX, cT, cZ, an, aH, cD, cc, cn, cV, cU, ay, ak, ce, bt, zC, argS, a7, cI, c6, cR, aj, aC, aI, aV, bP, leC, bT, cm, cp, cM, cG, aX, aP, cK, ap, cd, bm, bm.viewCs, bf, bf.flatCs, ax, ax.LensOks, Value.oneCell', ↓reduceIte, ite_true, ite_false, if_true, if_false, Nat.reduceAdd, Nat.reduceSub, Nat.reduceMul, Nat.reduceEqDiff, Nat.reduceLT, Nat.reduceLeDiff, reduceCtorEq, Int.reduceToNat, forall_const, implies_true, bv, Ent.mk3, bE, bC, be, a6, bL, a5, br, bK, bu, bh, bH, cu, bJ, cS, rn, co, co.renCs, aN, aT, aR, aR.viewOks, aJ, bz, bz.flatBs, aG, aq, aY, au, aA, bo, bo.keysBs, av, ar, bk, bM, bF, bW, af, af.passKs, aM, aU, ae, ae.lendKs, cr, bU, bV, bG, setInn, am, cW, cO, aB, aZ, bY, bN, aK, aw, Glob.gl, aQ, cj, bn, bQ, bD, ah, cC, cN, cz, cY, bO, ai, ai.ptrOnlys, ag, aL, cJ, aF, bp, bg, cH, aE, bq, cB, Nat.reduceBEq, undef]
        refine ⟨by omega, by omega, by omega, by push_cast; omega, ?_⟩
        rw [← htk]; rfl
      | succ i =>
        delta c115l1
        simp (maxSteps := 4000000) -implicitDefEqProofs only [hq, hmin, hP, Int.one_mul, hlt, hlt2, h, htk, Nat.succ_ne_zero, InR, Ent.of0, Ent.of1, Ent.of2, Ent.of3, V, bS, bA, bB, ca, cL, cP, gt, lk, bR, cq, cg, cb, cF, bZ, bZ.subCs, cQ, a4, bj, b0, aO, bw, a3, aD, bI, a9, az, a8, aW, bX, cT, cZ, an, aH, cD, cc, cn, cV, cU, ay, ak, ce, bt, zC, argS, a7, cI, c6, cR, aj, aC, aI, aV, bP, leC, bT, cm, cp, cM, cG, aX, aP, cK, ap, cd, bm, bm.viewCs, bf, bf.flatCs, ax, ax.LensOks, Value.oneCell', ↓reduceIte, ite_true, ite_false, if_true, if_false, Nat.reduceAdd, Nat.reduceSub, Nat.reduceMul, Nat.reduceEqDiff, Nat.reduceLT, Nat.reduceLeDiff, reduceCtorEq, Int.reduceToNat, forall_const, implies_true, bv, Ent.mk3, bE, bC, be, a6, bL, a5, br, bK, bu, bh, bH, cu, bJ, cS, rn, co, co.renCs, aN, aT, aR, aR.viewOks, aJ, bz, bz.flatBs, aG, aq, aY, au, aA, bo, bo.keysBs, av, ar, bk, bM, bF, bW, af, af.passKs, aM, aU, ae, ae.lendKs, cr, bU, bV, bG, setInn, am, cW, cO, aB, aZ, bY, bN, aK, aw, Glob.gl, aQ, cj, bn, bQ, bD, ah, cC, cN, cz, cY, bO, ai, ai.ptrOnlys, ag, aL, cJ, aF, bp, bg, cH, aE, bq, cB, Nat.reduceBEq, undef]
        exact ⟨by omega, by omega, by omega, by omega, by push_cast; omega⟩
    · have hlt2 : ¬ 2 * (i : Int) - (((2 ^ c : Nat) : Int) - 1) < ((2 ^ c : Nat) : Int) := by omega
      have hie : i = 2 ^ c := by omega
      subst hie
      have hi0 : 2 ^ c ≠ 0 := by omega
      have htk : (lvls c).take (2 ^ c) = lvls c := by rw [← hlc]; exact List.take_length
      refine S_run [] 800 ?_
      delta c115l1
      simp (maxSteps := 4000000) -implicitDefEqProofs only [hq, hmin, hP, Int.one_mul, hlt2, hi0, htk, InR, Ent.of0, Ent.of1, Ent.of2, Ent.of3, V, bS, bA, bB, ca, cL, cP, gt, lk, bR, cq, cg, cb, cF, bZ, bZ.subCs, cQ, a4, bj, b0, aO, bw, a3, aD, bI, a9, az, a8, aW, bX, cT, cZ, an, aH, cD, cc, cn, cV, cU, ay, ak, ce, bt, zC, argS, a7, cI, c6, cR, aj, aC, aI, aV, bP, leC, bT, cm, cp, cM, cG, aX, aP, cK, ap, cd, bm, bm.viewCs, bf, bf.flatCs, ax, ax.LensOks, Value.oneCell', ↓reduceIte, ite_true, ite_false, if_true, if_false, Nat.reduceAdd, Nat.reduceSub, Nat.reduceMul, Nat.reduceEqDiff, Nat.reduceLT, Nat.reduceLeDiff, reduceCtorEq, Int.reduceToNat, forall_const, implies_true, bv, Ent.mk3, bE, bC, be, a6, bL, a5, br, bK, bu, bh, bH, cu, bJ, cS, rn, co, co.renCs, aN, aT, aR, aR.viewOks, aJ, bz, bz.flatBs, aG, aq, aY, au, aA, bo, bo.keysBs, av, ar, bk, bM, bF, bW, af, af.passKs, aM, aU, ae, ae.lendKs, cr, bU, bV, bG, setInn, am, cW, cO, aB, aZ, bY, bN, aK, aw, Glob.gl, aQ, cj, bn, bQ, bD, ah, cC, cN, cz, cY, bO, ai, ai.ptrOnlys, ag, aL, cJ, aF, bp, bg, cH, aE, bq, cB, Nat.reduceBEq, undef]
      refine ⟨by omega, S_fzb 6 rfl ?_⟩
      simp (maxSteps := 4000000) -implicitDefEqProofs only [Ent.of0, Ent.of1, Ent.of2, Ent.of3, V, bS, bA, bB, ca, cL, cP, gt, lk, bR, cq, cg, cb, cF, bZ, bZ.subCs, cQ, a4, bj, b0, aO, bw, a3, aD, bI, a9, az, a8, aW, bX, cT, cZ, an, aH, cD, cc, cn, cV, cU, ay, ak, ce, bt, zC, argS, a7, cI, c6, cR, aj, aC, aI, aV, bP, leC, bT, cm, cp, cM, cG, aX, aP, cK, ap, cd, bm, bm.viewCs, bf, bf.flatCs, ax, ax.LensOks, Value.oneCell', ↓reduceIte, ite_true, ite_false, if_true, if_false, Nat.reduceAdd, Nat.reduceSub, Nat.reduceMul, Nat.reduceEqDiff, Nat.reduceLT, Nat.reduceLeDiff, reduceCtorEq, Int.reduceToNat, forall_const, implies_true, bv, Ent.mk3, bE, bC, be, a6, bL, a5, br, bK, bu, bh, bH, cu, bJ, cS, rn, co, co.renCs, aN, aT, aR, aR.viewOks, aJ, bz, bz.flatBs, aG, aq, aY, au, aA, bo, bo.keysBs, av, ar, bk, bM, bF, bW, af, af.passKs, aM, aU, ae, ae.lendKs, cr, bU, bV, bG, setInn, am, cW, cO, aB, aZ, bY, bN, aK, aw, Glob.gl, aQ, cj, bn, bQ, bD, ah, cC, cN, cz, cY, bO, ai, ai.ptrOnlys, ag, aL, cJ, aF, bp, bg, cH, aE, bq, cB, Nat.reduceBEq, undef]
      refine S_forU l.length (fun i => [(35, .s (.int .i64 (i : Int)))]) (fun i => [(9, .row 1 3 ((judgedS c T g (l.take i)).map cells))]) (fun _ => True) trivial ?_ (fun i hi _ => S_run [e136 f T c hc hf] 800 ?_)
      · simp (maxSteps := 4000000) -implicitDefEqProofs only [judgedS, Ent.of0, Ent.of1, Ent.of2, Ent.of3, V, bS, bA, bB, ca, cL, cP, gt, lk, bR, cq, cg, cb, cF, bZ, bZ.subCs, cQ, a4, bj, b0, aO, bw, a3, aD, bI, a9, az, a8, aW, bX, cT, cZ, an, aH, cD, cc, cn, cV, cU, ay, ak, ce, bt, zC, argS, a7, cI, c6, cR, aj, aC, aI, aV, bP, leC, bT, cm, cp, cM, cG, aX, aP, cK, ap, cd, bm, bm.viewCs, bf, bf.flatCs, ax, ax.LensOks, Value.oneCell', ↓reduceIte, ite_true, ite_false, if_true, if_false, Nat.reduceAdd, Nat.reduceSub, Nat.reduceMul, Nat.reduceEqDiff, Nat.reduceLT, Nat.reduceLeDiff, reduceCtorEq, Int.reduceToNat, forall_const, implies_true, bv, Ent.mk3, bE, bC, be, a6, bL, a5, br, bK, bu, bh, bH, cu, bJ, cS, rn, co, co.renCs, aN, aT, aR, aR.viewOks, aJ, bz, bz.flatBs, aG, aq, aY, au, aA, bo, bo.keysBs, av, ar, bk, bM, bF, bW, af, af.passKs, aM, aU, ae, ae.lendKs, cr, bU, bV, bG, setInn, am, cW, cO, aB, aZ, bY, bN, aK, aw, Glob.gl, aQ, cj, bn, bQ, bD, ah, cC, cN, cz, cY, bO, ai, ai.ptrOnlys, ag, aL, cJ, aF, bp, bg, cH, aE, bq, cB, Nat.reduceBEq, undef]
        exact ⟨rfl, rfl⟩
      · by_cases h : i < l.length
        · have hi2 : (i : Int) < (l.length : Int) := by omega
          have hgm : l.getD i ⟨0, 0⟩ ∈ l := getD_mem _ h
          have hn1 := hn _ hgm
          have hsql : ∀ n, (sqS c g n).length = 2 ^ c := fun n => by rw [sqS, List.length_map, hlc]
          have hT1 := hT _ (hsql (l.getD i ⟨0, 0⟩).re)
          have hT2 := hT _ (hsql (l.getD i ⟨0, 0⟩).im)
          delta c115l3
          simp (maxSteps := 4000000) -implicitDefEqProofs only [hi2, h, e136, hT1, InR, Ent.of0, Ent.of1, Ent.of2, Ent.of3, V, bS, bA, bB, ca, cL, cP, gt, lk, bR, cq, cg, cb, cF, bZ, bZ.subCs, cQ, a4, bj, b0, aO, bw, a3, aD, bI, a9, az, a8, aW, bX, cT, cZ, an, aH, cD, cc, cn, cV, cU, ay, ak, ce, bt, zC, argS, a7, cI, c6, cR, aj, aC, aI, aV, bP, leC, bT, cm, cp, cM, cG, aX, aP, cK, ap, cd, bm, bm.viewCs, bf, bf.flatCs, ax, ax.LensOks, Value.oneCell', ↓reduceIte, ite_true, ite_false, if_true, if_false, Nat.reduceAdd, Nat.reduceSub, Nat.reduceMul, Nat.reduceEqDiff, Nat.reduceLT, Nat.reduceLeDiff, reduceCtorEq, Int.reduceToNat, forall_const, implies_true, bv, Ent.mk3, bE, bC, be, a6, bL, a5, br, bK, bu, bh, bH, cu, bJ, cS, rn, co, co.renCs, aN, aT, aR, aR.viewOks, aJ, bz, bz.flatBs, aG, aq, aY, au, aA, bo, bo.keysBs, av, ar, bk, bM, bF, bW, af, af.passKs, aM, aU, ae, ae.lendKs, cr, bU, bV, bG, setInn, am, cW, cO, aB, aZ, bY, bN, aK, aw, Glob.gl, aQ, cj, bn, bQ, bD, ah, cC, cN, cz, cY, bO, ai, ai.ptrOnlys, ag, aL, cJ, aF, bp, bg, cH, aE, bq, cB, Nat.reduceBEq, undef]
          refine ⟨by omega, ⟨⟨l, rfl⟩, hg, hn1.1⟩, ⟨⟨l, rfl⟩, hg, hn1.2⟩, ?_⟩
          have hjs : judgedS c T g (l.take (i + 1)) = judgedS c T g (l.take i) ++ turnsS c (T (sqS c g (l.getD i ⟨0, 0⟩).re)) (T (sqS c g (l.getD i ⟨0, 0⟩).im)) := by
            rw [take_getD ⟨0, 0⟩ h, judgedS, judgedS, List.flatMap_append]; simp
          have hjl : (judgedS c T g (l.take i)).length ≤ 6000 := by
            have e : ∀ (m : List Gs), (judgedS c T g m).length ≤ 6 * m.length := fun m => by
              induction m with
              | nil => simp [judgedS]
              | cons x m ih =>
                have : judgedS c T g (x :: m) = turnsS c (T (sqS c g x.re)) (T (sqS c g x.im)) ++ judgedS c T g m := by simp [judgedS]
                rw [this, List.length_append, List.length_cons]
                have h2 : (turnsS c (T (sqS c g x.re)) (T (sqS c g x.im))).length ≤ 6 := by
                  rcases hc with rfl | rfl | rfl <;> simp [turnsS, List.range_succ]
                omega
            have := e (l.take i)
            rw [List.length_take] at this
            omega
          generalize T (sqS c g (l.getD i ⟨0, 0⟩).re) = X at *
          generalize T (sqS c g (l.getD i ⟨0, 0⟩).im) = Y at *
          generalize judgedS c T g (l.take i) = J at *
          refine S_forU c (fun j => [(49, .s (.int .i64 (j : Int)))]) (fun j => [(9, .row 1 3 ((J ++ turnsS j X Y).map cells))]) (fun _ => True) trivial ?_ (fun j hj _ => S_run [] 800 ?_)
          · simp (maxSteps := 4000000) -implicitDefEqProofs only [Ent.of0, Ent.of1, Ent.of2, Ent.of3, V, bS, bA, bB, ca, cL, cP, gt, lk, bR, cq, cg, cb, cF, bZ, bZ.subCs, cQ, a4, bj, b0, aO, bw, a3, aD, bI, a9, az, a8, aW, bX, cT, cZ, an, aH, cD, cc, cn, cV, cU, ay, ak, ce, bt, zC, argS, a7, cI, c6, cR, aj, aC, aI, aV, bP, leC, bT, cm, cp, cM, cG, aX, aP, cK, ap, cd, bm, bm.viewCs, bf, bf.flatCs, ax, ax.LensOks, Value.oneCell', ↓reduceIte, ite_true, ite_false, if_true, if_false, Nat.reduceAdd, Nat.reduceSub, Nat.reduceMul, Nat.reduceEqDiff, Nat.reduceLT, Nat.reduceLeDiff, reduceCtorEq, Int.reduceToNat, forall_const, implies_true, bv, Ent.mk3, bE, bC, be, a6, bL, a5, br, bK, bu, bh, bH, cu, bJ, cS, rn, co, co.renCs, aN, aT, aR, aR.viewOks, aJ, bz, bz.flatBs, aG, aq, aY, au, aA, bo, bo.keysBs, av, ar, bk, bM, bF, bW, af, af.passKs, aM, aU, ae, ae.lendKs, cr, bU, bV, bG, setInn, am, cW, cO, aB, aZ, bY, bN, aK, aw, Glob.gl, aQ, cj, bn, bQ, bD, ah, cC, cN, cz, cY, bO, ai, ai.ptrOnlys, ag, aL, cJ, aF, bp, bg, cH, aE, bq, cB, Nat.reduceBEq, undef]
            exact ⟨rfl, by simp [turnsS]⟩
          · have htl := turnsS_length X Y j
            by_cases hjc : j < c
            · have hj2 : (j : Int) < (c : Int) := by omega
              have hj3 : j < X.length := by omega
              have hj4 : j < Y.length := by omega
              have htk : (J ++ turnsS j X Y).map cells ++ [[C.s (.int .i64 (X.getD j 0))], [C.s (.int .i64 (Y.getD j 0))]] = (J ++ turnsS (j + 1) X Y).map cells := by
                rw [turnsS_succ, ← List.append_assoc, List.map_append (l₁ := J ++ turnsS j X Y)]; rfl
              have hll : (J ++ turnsS j X Y).length ≤ 6012 := by rw [List.length_append]; omega
              delta c115l2
              simp (maxSteps := 4000000) -implicitDefEqProofs only [hj2, hj3, hj4, htk, InR, Ent.of0, Ent.of1, Ent.of2, Ent.of3, V, bS, bA, bB, ca, cL, cP, gt, lk, bR, cq, cg, cb, cF, bZ, bZ.subCs, cQ, a4, bj, b0, aO, bw, a3, aD, bI, a9, az, a8, aW, bX, cT, cZ, an, aH, cD, cc, cn, cV, cU, ay, ak, ce, bt, zC, argS, a7, cI, c6, cR, aj, aC, aI, aV, bP, leC, bT, cm, cp, cM, cG, aX, aP, cK, ap, cd, bm, bm.viewCs, bf, bf.flatCs, ax, ax.LensOks, Value.oneCell', ↓reduceIte, ite_true, ite_false, if_true, if_false, Nat.reduceAdd, Nat.reduceSub, Nat.reduceMul, Nat.reduceEqDiff, Nat.reduceLT, Nat.reduceLeDiff, reduceCtorEq, Int.reduceToNat, forall_const, implies_true, bv, Ent.mk3, bE, bC, be, a6, bL, a5, br, bK, bu, bh, bH, cu, bJ, cS, rn, co, co.renCs, aN, aT, aR, aR.viewOks, aJ, bz, bz.flatBs, aG, aq, aY, au, aA, bo, bo.keysBs, av, ar, bk, bM, bF, bW, af, af.passKs, aM, aU, ae, ae.lendKs, cr, bU, bV, bG, setInn, am, cW, cO, aB, aZ, bY, bN, aK, aw, Glob.gl, aQ, cj, bn, bQ, bD, ah, cC, cN, cz, cY, bO, ai, ai.ptrOnlys, ag, aL, cJ, aF, bp, bg, cH, aE, bq, cB, Nat.reduceBEq, undef]
              and_intros <;> first | omega | rfl | trivial
            · have hj2 : ¬ (j : Int) < (c : Int) := by omega
              have hjc : j = c := by omega
              subst hjc
              delta c115l2
              simp (maxSteps := 4000000) -implicitDefEqProofs only [hj2, hjs, InR, Ent.of0, Ent.of1, Ent.of2, Ent.of3, V, bS, bA, bB, ca, cL, cP, gt, lk, bR, cq, cg, cb, cF, bZ, bZ.subCs, cQ, a4, bj, b0, aO, bw, a3, aD, bI, a9, az, a8, aW, bX, cT, cZ, an, aH, cD, cc, cn, cV, cU, ay, ak, ce, bt, zC, argS, a7, cI, c6, cR, aj, aC, aI, aV, bP, leC, bT, cm, cp, cM, cG, aX, aP, cK, ap, cd, bm, bm.viewCs, bf, bf.flatCs, ax, ax.LensOks, Value.oneCell', ↓reduceIte, ite_true, ite_false, if_true, if_false, Nat.reduceAdd, Nat.reduceSub, Nat.reduceMul, Nat.reduceEqDiff, Nat.reduceLT, Nat.reduceLeDiff, reduceCtorEq, Int.reduceToNat, forall_const, implies_true, bv, Ent.mk3, bE, bC, be, a6, bL, a5, br, bK, bu, bh, bH, cu, bJ, cS, rn, co, co.renCs, aN, aT, aR, aR.viewOks, aJ, bz, bz.flatBs, aG, aq, aY, au, aA, bo, bo.keysBs, av, ar, bk, bM, bF, bW, af, af.passKs, aM, aU, ae, ae.lendKs, cr, bU, bV, bG, setInn, am, cW, cO, aB, aZ, bY, bN, aK, aw, Glob.gl, aQ, cj, bn, bQ, bD, ah, cC, cN, cz, cY, bO, ai, ai.ptrOnlys, ag, aL, cJ, aF, bp, bg, cH, aE, bq, cB, Nat.reduceBEq, undef]
              and_intros <;> first | omega | rfl | trivial
        · have hi2 : ¬ (i : Int) < (l.length : Int) := by omega
          have hie : i = l.length := by omega
          subst hie
          delta c115l3
          simp (maxSteps := 4000000) -implicitDefEqProofs only [hi2, rv115, List.take_length, InR, Ent.of0, Ent.of1, Ent.of2, Ent.of3, V, bS, bA, bB, ca, cL, cP, gt, lk, bR, cq, cg, cb, cF, bZ, bZ.subCs, cQ, a4, bj, b0, aO, bw, a3, aD, bI, a9, az, a8, aW, bX, cT, cZ, an, aH, cD, cc, cn, cV, cU, ay, ak, ce, bt, zC, argS, a7, cI, c6, cR, aj, aC, aI, aV, bP, leC, bT, cm, cp, cM, cG, aX, aP, cK, ap, cd, bm, bm.viewCs, bf, bf.flatCs, ax, ax.LensOks, Value.oneCell', ↓reduceIte, ite_true, ite_false, if_true, if_false, Nat.reduceAdd, Nat.reduceSub, Nat.reduceMul, Nat.reduceEqDiff, Nat.reduceLT, Nat.reduceLeDiff, reduceCtorEq, Int.reduceToNat, forall_const, implies_true, bv, Ent.mk3, bE, bC, be, a6, bL, a5, br, bK, bu, bh, bH, cu, bJ, cS, rn, co, co.renCs, aN, aT, aR, aR.viewOks, aJ, bz, bz.flatBs, aG, aq, aY, au, aA, bo, bo.keysBs, av, ar, bk, bM, bF, bW, af, af.passKs, aM, aU, ae, ae.lendKs, cr, bU, bV, bG, setInn, am, cW, cO, aB, aZ, bY, bN, aK, aw, Glob.gl, aQ, cj, bn, bQ, bD, ah, cC, cN, cz, cY, bO, ai, ai.ptrOnlys, ag, aL, cJ, aF, bp, bg, cH, aE, bq, cB, Nat.reduceBEq, undef]
end Go.Proofs.Ytfgpbmjmoobcnaa
end
section
open Go Go.Am
open Go.Am.Dat (cells)
namespace Go.Proofs.Ytfgpbmjmoobcnaa
set_option maxHeartbeats 4000000
set_option maxRecDepth 100000
set_option linter.unusedSimpArgs false
theorem softS_length (c : Nat) (sq : List Int) : (softS c sq).length = c := by simp [softS]
def e115 (f : FuncId) (T : Nat → List Int → List Int) (hj : ∀ (c : Nat) (g : Int) (l : List Gs), (c = 1 ∨ c = 2 ∨ c = 3) → 1 ≤ g ∧ g ≤ 10000000 → (∀ s ∈ l, (-100000000 ≤ s.re ∧ s.re ≤ 100000000) ∧ -100000000 ≤ s.im ∧ s.im ≤ 100000000) → l.length ≤ 1000 →
    FC Try.prog 115 [enc (⟨2 * (c : Int), g, l⟩ : Recv), .fn (.func f) [] []] [] (enc (judgedS c (T c) g l)) []) : Ent Try.prog := .mk3 115 (fun args chs => match args, chs with
    | [.agg [.s (.int .i64 o), .s (.int .i64 g), .sl 2 t], .fn (.func f') [] []], [] => (decL t : Option (List Gs)).bind fun l => some (f' = f ∧ recvErr ⟨o, g, l⟩ = 0, enc (judgedS (o.toNat / 2) (T (o.toNat / 2)) g l), [], [])
    | _, _ => none) (by
  intro args chs p r chs' nk hs hp
  split at hs
  · rename_i o g t f'
    simp only [Option.bind_eq_some_iff, Option.some.injEq, Prod.mk.injEq] at hs
    obtain ⟨l, hl, rfl, rfl, rfl, rfl⟩ := hs
    obtain ⟨hff, hr⟩ := hp
    have := decL_ok hl
    subst this
    have hz := firstS_zero hr
    have z1 : orderErrS o = 0 := hz _ (by simp [recvErr])
    have z2 : (if 1 ≤ g ∧ g ≤ 10000000 then (0 : Int) else 2) = 0 := hz _ (by simp)
    have z3 : symErr l = 0 := hz _ (by simp)
    have ho : o = 2 ∨ o = 4 ∨ o = 6 := by
      unfold orderErrS at z1
      split at z1
      · assumption
      · cases z1
    have hg : 1 ≤ g ∧ g ≤ 10000000 := by
      split at z2
      · assumption
      · cases z2
    have hl2 : l.length ≤ 1000 := by
      unfold symErr at z3
      grind
    have hn : ∀ s ∈ l, (-100000000 ≤ s.re ∧ s.re ≤ 100000000) ∧ -100000000 ≤ s.im ∧ s.im ≤ 100000000 := by
      have : l.all (smallG · 100000000) = true := by
        unfold symErr at z3
        grind
      intro s hs
      have := List.all_eq_true.1 this s hs
      simpa [smallG] using this
    have e : o = 2 * ((o.toNat / 2 : Nat) : Int) := by rcases ho with rfl | rfl | rfl <;> rfl
    have := hj (o.toNat / 2) g l (by rcases ho with rfl | rfl | rfl <;> simp) hg hn hl2
    rw [← e] at this
    subst hff
    exact ⟨this, .plain trivial⟩
  · cases hs)
def judgeAll (T : Nat → List Int → List Int) (x : Recv) : List Int := judgedS (x.order.toNat / 2) (T (x.order.toNat / 2)) x.gain x.symbols
theorem Soft_c (x : Recv) : FC Try.prog 58 [enc x] [] (.tup [enc (if recvErr x = 0 then judgeAll softS x else []), enc (recvErr x)]) [] := by
  refine fc_intro' is58 (by simp) (fun cx hl => S_run [e114, e115 117 softS (fun c g l hc hg hn hl => judged_c 117 (softS c) c hc (fun sq h1 h2 => soft_c c hc sq h1 h2) (fun sq _ => softS_length c sq) g l hg hn hl)] 800 ?_)
  obtain ⟨o, g, l⟩ := x
  delta c58
  simp (maxSteps := 4000000) -implicitDefEqProofs only [rv58, e114, e115, enc_recv, decV_recv, Ent.of0, Ent.of1, Ent.of2, Ent.of3, V, bS, bA, bB, ca, cL, cP, gt, lk, bR, cq, cg, cb, cF, bZ, bZ.subCs, cQ, a4, bj, b0, aO, bw, a3, aD, bI, a9, az, a8, aW, bX, cT, cZ, an, aH, cD, cc, cn, cV, cU, ay, ak, ce, bt, zC, argS, a7, cI, c6, cR, aj, aC, aI, aV, bP, leC, bT, cm, cp, cM, cG, aX, aP, cK, ap, cd, bm, bm.viewCs, bf, bf.flatCs, ax, ax.LensOks, Value.oneCell', ↓reduceIte, ite_true, ite_false, if_true, if_false, Nat.reduceAdd, Nat.reduceSub, Nat.reduceMul, Nat.reduceEqDiff, Nat.reduceLT, Nat.reduceLeDiff, reduceCtorEq, Int.reduceToNat, forall_const, implies_true, bv, Ent.mk3, bE, bC, be, a6, bL, a5, br, bK, bu, bh, bH, cu, bJ, cS, rn, co, co.renCs, aN, aT, aR, aR.viewOks, aJ, bz, bz.flatBs, aG, aq, aY, au, aA, bo, bo.keysBs, av, ar, bk, bM, bF, bW, af, af.passKs, aM, aU, ae, ae.lendKs, cr, bU, bV, bG, setInn, am, cW, cO, aB, aZ, bY, bN, aK, aw, Glob.gl, aQ, cj, bn, bQ, bD, ah, cC, cN, cz, cY, bO, ai, ai.ptrOnlys, ag, aL, cJ, aF, bp, bg, cH, aE, bq, cB, Nat.reduceBEq, undef]
  by_cases h : recvErr ⟨o, g, l⟩ = 0
  · simp only [h, if_true, decide_true, judgeAll, Bool.false_eq_true, if_false, not_true_eq_false, decide_false, true_and]
  · rw [if_pos h, if_neg h]; trivial
def e58 : Ent Try.prog := .of1 58 (fun _ => True) (fun x : Recv => .tup [enc (if recvErr x = 0 then judgeAll softS x else []), enc (recvErr x)]) (fun _ => ⟨trivial, trivial, trivial⟩) (fun x _ => Soft_c x)
end Go.Proofs.Ytfgpbmjmoobcnaa
end
section
open Go Go.Am
open Go.Am.Dat (cells)
namespace Go.Proofs.Ytfgpbmjmoobcnaa
set_option maxHeartbeats 4000000
set_option maxRecDepth 20000
set_option linter.unusedSimpArgs false
theorem rowsD_c (w : List (List Fz)) (m : List (List Gs)) (h : RowsOk w m) : FC Try.prog 87 [enc w] [] (.own 3) [(3, .deep 2 48 35 none (m.map fun r => r.map cells))] := by
  refine fc_introC [3] D.is87 (by simp) trivial trivial (by simp [aX, aP, b0]) trivial (fun cx _ hl _ => S_run [] 800 ?_)
  obtain ⟨hrep, hm, hr, hb⟩ := h
  have hwm := hrep.1
  delta D.c87
  simp (maxSteps := 4000000) -implicitDefEqProofs only [D.rv87, Ent.of0, Ent.of1, Ent.of2, Ent.of3, V, bS, bA, bB, ca, cL, cP, gt, lk, bR, cq, cg, cb, cF, bZ, bZ.subCs, cQ, a4, bj, b0, aO, bw, a3, aD, bI, a9, az, a8, aW, bX, cT, cZ, an, aH, cD, cc, cn, cV, cU, ay, ak, ce, bt, zC, argS, a7, cI, c6, cR, aj, aC, aI, aV, bP, leC, bT, cm, cp, cM, cG, aX, aP, cK, ap, cd, bm, bm.viewCs, bf, bf.flatCs, ax, ax.LensOks, Value.oneCell', ↓reduceIte, ite_true, ite_false, if_true, if_false, Nat.reduceAdd, Nat.reduceSub, Nat.reduceMul, Nat.reduceEqDiff, Nat.reduceLT, Nat.reduceLeDiff, reduceCtorEq, Int.reduceToNat, forall_const, implies_true, bv, Ent.mk3, bE, bC, be, a6, bL, a5, br, bK, bu, bh, bH, cu, bJ, cS, rn, co, co.renCs, aN, aT, aR, aR.viewOks, aJ, bz, bz.flatBs, aG, aq, aY, au, aA, bo, bo.keysBs, av, ar, bk, bM, bF, bW, af, af.passKs, aM, aU, ae, ae.lendKs, cr, bU, bV, bG, setInn, am, cW, cO, aB, aZ, bY, bN, aK, aw, Glob.gl, aQ, cj, bn, bQ, bD, ah, cC, cN, cz, cY, bO, ai, ai.ptrOnlys, ag, aL, cJ, aF, bp, bg, cH, aE, bq, cB, Nat.reduceBEq, undef]
  refine ⟨by simp, ?_⟩
  refine S_forU w.length (fun i => [(11, .s (.int .i64 i))]) (fun i => [(3, .deep 2 48 35 none ((m.take i).map fun r => r.map cells))]) (fun _ => True) trivial ?_ (fun i hi _ => S_run [] 800 ?_)
  · simp (maxSteps := 4000000) -implicitDefEqProofs only [Ent.of0, Ent.of1, Ent.of2, Ent.of3, V, bS, bA, bB, ca, cL, cP, gt, lk, bR, cq, cg, cb, cF, bZ, bZ.subCs, cQ, a4, bj, b0, aO, bw, a3, aD, bI, a9, az, a8, aW, bX, cT, cZ, an, aH, cD, cc, cn, cV, cU, ay, ak, ce, bt, zC, argS, a7, cI, c6, cR, aj, aC, aI, aV, bP, leC, bT, cm, cp, cM, cG, aX, aP, cK, ap, cd, bm, bm.viewCs, bf, bf.flatCs, ax, ax.LensOks, Value.oneCell', ↓reduceIte, ite_true, ite_false, if_true, if_false, Nat.reduceAdd, Nat.reduceSub, Nat.reduceMul, Nat.reduceEqDiff, Nat.reduceLT, Nat.reduceLeDiff, reduceCtorEq, Int.reduceToNat, forall_const, implies_true, bv, Ent.mk3, bE, bC, be, a6, bL, a5, br, bK, bu, bh, bH, cu, bJ, cS, rn, co, co.renCs, aN, aT, aR, aR.viewOks, aJ, bz, bz.flatBs, aG, aq, aY, au, aA, bo, bo.keysBs, av, ar, bk, bM, bF, bW, af, af.passKs, aM, aU, ae, ae.lendKs, cr, bU, bV, bG, setInn, am, cW, cO, aB, aZ, bY, bN, aK, aw, Glob.gl, aQ, cj, bn, bQ, bD, ah, cC, cN, cz, cY, bO, ai, ai.ptrOnlys, ag, aL, cJ, aF, bp, bg, cH, aE, bq, cB, Nat.reduceBEq, undef]; simp
  · delta D.c87l2
    by_cases h : i < w.length
    · have hi2 : (i : Int) < (w.length : Int) := by omega
      have him : i < m.length := by omega
      have hrl := hr _ (getD_mem [] him)
      have hbl := hb _ (getD_mem [] him)
      obtain ⟨q1, q2⟩ := hrep.2 i him
      have htkm : ((m.take i).map fun r => r.map cells) ++ [(m.getD i []).map cells] = (m.take (i + 1)).map fun r => r.map cells := by
        rw [take_getD [] him, List.map_append]; rfl
      have htlm : (m.take i).length = i := by rw [List.length_take]; omega
      simp (maxSteps := 4000000) -implicitDefEqProofs only [sz_fz, hi2, getD_list, h, Ent.of0, Ent.of1, Ent.of2, Ent.of3, V, bS, bA, bB, ca, cL, cP, gt, lk, bR, cq, cg, cb, cF, bZ, bZ.subCs, cQ, a4, bj, b0, aO, bw, a3, aD, bI, a9, az, a8, aW, bX, cT, cZ, an, aH, cD, cc, cn, cV, cU, ay, ak, ce, bt, zC, argS, a7, cI, c6, cR, aj, aC, aI, aV, bP, leC, bT, cm, cp, cM, cG, aX, aP, cK, ap, cd, bm, bm.viewCs, bf, bf.flatCs, ax, ax.LensOks, Value.oneCell', ↓reduceIte, ite_true, ite_false, if_true, if_false, Nat.reduceAdd, Nat.reduceSub, Nat.reduceMul, Nat.reduceEqDiff, Nat.reduceLT, Nat.reduceLeDiff, reduceCtorEq, Int.reduceToNat, forall_const, implies_true, bv, Ent.mk3, bE, bC, be, a6, bL, a5, br, bK, bu, bh, bH, cu, bJ, cS, rn, co, co.renCs, aN, aT, aR, aR.viewOks, aJ, bz, bz.flatBs, aG, aq, aY, au, aA, bo, bo.keysBs, av, ar, bk, bM, bF, bW, af, af.passKs, aM, aU, ae, ae.lendKs, cr, bU, bV, bG, setInn, am, cW, cO, aB, aZ, bY, bN, aK, aw, Glob.gl, aQ, cj, bn, bQ, bD, ah, cC, cN, cz, cY, bO, ai, ai.ptrOnlys, ag, aL, cJ, aF, bp, bg, cH, aE, bq, cB, Nat.reduceBEq, undef]
      refine ⟨by omega, ?_⟩
      generalize hR : w.getD i [] = R at *
      generalize hG : m.getD i [] = G at *
      refine S_forU R.length (fun j => [(17, .s (.int .i64 j))]) (fun j => [(6, .row 2 48 ((G.take j).map cells))]) (fun _ => True) trivial ?_ (fun j hj _ => S_run [] 800 ?_)
      · simp (maxSteps := 4000000) -implicitDefEqProofs only [Ent.of0, Ent.of1, Ent.of2, Ent.of3, V, bS, bA, bB, ca, cL, cP, gt, lk, bR, cq, cg, cb, cF, bZ, bZ.subCs, cQ, a4, bj, b0, aO, bw, a3, aD, bI, a9, az, a8, aW, bX, cT, cZ, an, aH, cD, cc, cn, cV, cU, ay, ak, ce, bt, zC, argS, a7, cI, c6, cR, aj, aC, aI, aV, bP, leC, bT, cm, cp, cM, cG, aX, aP, cK, ap, cd, bm, bm.viewCs, bf, bf.flatCs, ax, ax.LensOks, Value.oneCell', ↓reduceIte, ite_true, ite_false, if_true, if_false, Nat.reduceAdd, Nat.reduceSub, Nat.reduceMul, Nat.reduceEqDiff, Nat.reduceLT, Nat.reduceLeDiff, reduceCtorEq, Int.reduceToNat, forall_const, implies_true, bv, Ent.mk3, bE, bC, be, a6, bL, a5, br, bK, bu, bh, bH, cu, bJ, cS, rn, co, co.renCs, aN, aT, aR, aR.viewOks, aJ, bz, bz.flatBs, aG, aq, aY, au, aA, bo, bo.keysBs, av, ar, bk, bM, bF, bW, af, af.passKs, aM, aU, ae, ae.lendKs, cr, bU, bV, bG, setInn, am, cW, cO, aB, aZ, bY, bN, aK, aw, Glob.gl, aQ, cj, bn, bQ, bD, ah, cC, cN, cz, cY, bO, ai, ai.ptrOnlys, ag, aL, cJ, aF, bp, bg, cH, aE, bq, cB, Nat.reduceBEq, undef]; simp
      · delta D.c87l1
        by_cases hjl : j < R.length
        · have hj2 : (j : Int) < (R.length : Int) := by omega
          have hjG : j < G.length := by omega
          have htk : (G.take j).map cells ++ [[C.s (.int .i64 (G.getD j ⟨0, 0⟩).re), C.s (.int .i64 (G.getD j ⟨0, 0⟩).im)]] = (G.take (j + 1)).map cells := by
            rw [take_getD ⟨0, 0⟩ hjG, List.map_append]; rfl
          have htl : (G.take j).length = j := by rw [List.length_take]; omega
          obtain ⟨z1, z2⟩ := q2 j hjG
          have t1 := toInt_F z1
          have t2 := toInt_F z2
          obtain ⟨b1, b2⟩ := hbl _ (getD_mem ⟨0, 0⟩ hjG)
          simp (maxSteps := 4000000) -implicitDefEqProofs only [hj2, hjl, bX, getD_fz, t1, t2, htk, htl, IntKind.min, IntKind.max, IntKind.signed, IntKind.bits, InR, Ent.of0, Ent.of1, Ent.of2, Ent.of3, V, bS, bA, bB, ca, cL, cP, gt, lk, bR, cq, cg, cb, cF, bZ, bZ.subCs, cQ, a4, bj, b0, aO, bw, a3, aD, bI, a9, az, a8, aW, bX, cT, cZ, an, aH, cD, cc, cn, cV, cU, ay, ak, ce, bt, zC, argS, a7, cI, c6, cR, aj, aC, aI, aV, bP, leC, bT, cm, cp, cM, cG, aX, aP, cK, ap, cd, bm, bm.viewCs, bf, bf.flatCs, ax, ax.LensOks, Value.oneCell', ↓reduceIte, ite_true, ite_false, if_true, if_false, Nat.reduceAdd, Nat.reduceSub, Nat.reduceMul, Nat.reduceEqDiff, Nat.reduceLT, Nat.reduceLeDiff, reduceCtorEq, Int.reduceToNat, forall_const, implies_true, bv, Ent.mk3, bE, bC, be, a6, bL, a5, br, bK, bu, bh, bH, cu, bJ, cS, rn, co, co.renCs, aN, aT, aR, aR.viewOks, aJ, bz, bz.flatBs, aG, aq, aY, au, aA, bo, bo.keysBs, av, ar, bk, bM, bF, bW, af, af.passKs, aM, aU, ae, ae.lendKs, cr, bU, bV, bG, setInn, am, cW, cO, aB, aZ, bY, bN, aK, aw, Glob.gl, aQ, cj, bn, bQ, bD, ah, cC, cN, cz, cY, bO, ai, ai.ptrOnlys, ag, aL, cJ, aF, bp, bg, cH, aE, bq, cB, Nat.reduceBEq, undef]
          simp only [Int.reducePow] at *
          and_intros <;> first | omega | rfl | trivial
        · have : j = R.length := by omega
          subst this
          have hj2 : ¬ (R.length : Int) < (R.length : Int) := by omega
          have hG2 : G.take R.length = G := by rw [q1]; exact List.take_length
          simp (maxSteps := 4000000) -implicitDefEqProofs only [hj2, hG2, htkm, htlm, InR, Ent.of0, Ent.of1, Ent.of2, Ent.of3, V, bS, bA, bB, ca, cL, cP, gt, lk, bR, cq, cg, cb, cF, bZ, bZ.subCs, cQ, a4, bj, b0, aO, bw, a3, aD, bI, a9, az, a8, aW, bX, cT, cZ, an, aH, cD, cc, cn, cV, cU, ay, ak, ce, bt, zC, argS, a7, cI, c6, cR, aj, aC, aI, aV, bP, leC, bT, cm, cp, cM, cG, aX, aP, cK, ap, cd, bm, bm.viewCs, bf, bf.flatCs, ax, ax.LensOks, Value.oneCell', ↓reduceIte, ite_true, ite_false, if_true, if_false, Nat.reduceAdd, Nat.reduceSub, Nat.reduceMul, Nat.reduceEqDiff, Nat.reduceLT, Nat.reduceLeDiff, reduceCtorEq, Int.reduceToNat, forall_const, implies_true, bv, Ent.mk3, bE, bC, be, a6, bL, a5, br, bK, bu, bh, bH, cu, bJ, cS, rn, co, co.renCs, aN, aT, aR, aR.viewOks, aJ, bz, bz.flatBs, aG, aq, aY, au, aA, bo, bo.keysBs, av, ar, bk, bM, bF, bW, af, af.passKs, aM, aU, ae, ae.lendKs, cr, bU, bV, bG, setInn, am, cW, cO, aB, aZ, bY, bN, aK, aw, Glob.gl, aQ, cj, bn, bQ, bD, ah, cC, cN, cz, cY, bO, ai, ai.ptrOnlys, ag, aL, cJ, aF, bp, bg, cH, aE, bq, cB, Nat.reduceBEq, undef]
          and_intros <;> first | omega | rfl | trivial
    · have : i = w.length := by omega
      subst this
      have hi2 : ¬ (w.length : Int) < (w.length : Int) := by omega
      have hm2 : m.take w.length = m := by rw [hwm]; exact List.take_length
      simp (maxSteps := 4000000) -implicitDefEqProofs only [hi2, D.rv87, hm2, Ent.of0, Ent.of1, Ent.of2, Ent.of3, V, bS, bA, bB, ca, cL, cP, gt, lk, bR, cq, cg, cb, cF, bZ, bZ.subCs, cQ, a4, bj, b0, aO, bw, a3, aD, bI, a9, az, a8, aW, bX, cT, cZ, an, aH, cD, cc, cn, cV, cU, ay, ak, ce, bt, zC, argS, a7, cI, c6, cR, aj, aC, aI, aV, bP, leC, bT, cm, cp, cM, cG, aX, aP, cK, ap, cd, bm, bm.viewCs, bf, bf.flatCs, ax, ax.LensOks, Value.oneCell', ↓reduceIte, ite_true, ite_false, if_true, if_false, Nat.reduceAdd, Nat.reduceSub, Nat.reduceMul, Nat.reduceEqDiff, Nat.reduceLT, Nat.reduceLeDiff, reduceCtorEq, Int.reduceToNat, forall_const, implies_true, bv, Ent.mk3, bE, bC, be, a6, bL, a5, br, bK, bu, bh, bH, cu, bJ, cS, rn, co, co.renCs, aN, aT, aR, aR.viewOks, aJ, bz, bz.flatBs, aG, aq, aY, au, aA, bo, bo.keysBs, av, ar, bk, bM, bF, bW, af, af.passKs, aM, aU, ae, ae.lendKs, cr, bU, bV, bG, setInn, am, cW, cO, aB, aZ, bY, bN, aK, aw, Glob.gl, aQ, cj, bn, bQ, bD, ah, cC, cN, cz, cY, bO, ai, ai.ptrOnlys, ag, aL, cJ, aF, bp, bg, cH, aE, bq, cB, Nat.reduceBEq, undef]
def adjS (m : List (List Gs)) : List (List Gs) :=
  match m with
  | [[_]] => [[⟨1, 0⟩]]
  | [[a, b], [c, d]] => [[d, gsub ⟨0, 0⟩ b], [gsub ⟨0, 0⟩ c, a]]
  | _ => []
theorem zadd {b : Gs} (hb : bd b 1000) : addOk ⟨0, 0⟩ b := ⟨0, 1000, ⟨by simp, by simp⟩, hb, by omega⟩
theorem adj1_c (a : Gs) : FC Try.prog 85 [enc [[a]]] [] (enc (adjS [[a]])) [] := by
  refine fc_intro' is85 (by simp) (fun cx hl => S_run [e113] 800 ?_)
  delta c85
  simp (maxSteps := 4000000) -implicitDefEqProofs only [rv85, e113, adjS, Int.cast_ofNat_Int, Int.natCast_one, Int.natCast_zero, Int.reduceAdd, Int.reduceSub, Int.reduceMul, Int.reduceLT, Int.reduceLE, Int.reduceTMod, Int.reduceTDiv, Int.reduceNeg, Int.reduceEq, Nat.reducePow, Int.reducePow, ne_eq, not_false_eq_true, Ent.of0, Ent.of1, Ent.of2, Ent.of3, V, bS, bA, bB, ca, cL, cP, gt, lk, bR, cq, cg, cb, cF, bZ, bZ.subCs, cQ, a4, bj, b0, aO, bw, a3, aD, bI, a9, az, a8, aW, bX, cT, cZ, an, aH, cD, cc, cn, cV, cU, ay, ak, ce, bt, zC, argS, a7, cI, c6, cR, aj, aC, aI, aV, bP, leC, bT, cm, cp, cM, cG, aX, aP, cK, ap, cd, bm, bm.viewCs, bf, bf.flatCs, ax, ax.LensOks, Value.oneCell', ↓reduceIte, ite_true, ite_false, if_true, if_false, Nat.reduceAdd, Nat.reduceSub, Nat.reduceMul, Nat.reduceEqDiff, Nat.reduceLT, Nat.reduceLeDiff, reduceCtorEq, Int.reduceToNat, forall_const, implies_true, bv, Ent.mk3, bE, bC, be, a6, bL, a5, br, bK, bu, bh, bH, cu, bJ, cS, rn, co, co.renCs, aN, aT, aR, aR.viewOks, aJ, bz, bz.flatBs, aG, aq, aY, au, aA, bo, bo.keysBs, av, ar, bk, bM, bF, bW, af, af.passKs, aM, aU, ae, ae.lendKs, cr, bU, bV, bG, setInn, am, cW, cO, aB, aZ, bY, bN, aK, aw, Glob.gl, aQ, cj, bn, bQ, bD, ah, cC, cN, cz, cY, bO, ai, ai.ptrOnlys, ag, aL, cJ, aF, bp, bg, cH, aE, bq, cB, Nat.reduceBEq, undef]
theorem adj2_c (a b c d : Gs) (h1 : bd b 1000) (h2 : bd c 1000) : FC Try.prog 85 [enc [[a, b], [c, d]]] [] (enc (adjS [[a, b], [c, d]])) [] := by
  have m1 := zadd h1
  have m2 := zadd h2
  refine fc_intro' is85 (by simp) (fun cx hl => S_run [e113] 800 ?_)
  delta c85
  simp (maxSteps := 4000000) -implicitDefEqProofs only [rv85, e113, adjS, m1, m2, gs_eta, Int.cast_ofNat_Int, Int.natCast_one, Int.natCast_zero, Int.reduceAdd, Int.reduceSub, Int.reduceMul, Int.reduceLT, Int.reduceLE, Int.reduceTMod, Int.reduceTDiv, Int.reduceNeg, Int.reduceEq, Nat.reducePow, Int.reducePow, ne_eq, not_false_eq_true, Ent.of0, Ent.of1, Ent.of2, Ent.of3, V, bS, bA, bB, ca, cL, cP, gt, lk, bR, cq, cg, cb, cF, bZ, bZ.subCs, cQ, a4, bj, b0, aO, bw, a3, aD, bI, a9, az, a8, aW, bX, cT, cZ, an, aH, cD, cc, cn, cV, cU, ay, ak, ce, bt, zC, argS, a7, cI, c6, cR, aj, aC, aI, aV, bP, leC, bT, cm, cp, cM, cG, aX, aP, cK, ap, cd, bm, bm.viewCs, bf, bf.flatCs, ax, ax.LensOks, Value.oneCell', ↓reduceIte, ite_true, ite_false, if_true, if_false, Nat.reduceAdd, Nat.reduceSub, Nat.reduceMul, Nat.reduceEqDiff, Nat.reduceLT, Nat.reduceLeDiff, reduceCtorEq, Int.reduceToNat, forall_const, implies_true, bv, Ent.mk3, bE, bC, be, a6, bL, a5, br, bK, bu, bh, bH, cu, bJ, cS, rn, co, co.renCs, aN, aT, aR, aR.viewOks, aJ, bz, bz.flatBs, aG, aq, aY, au, aA, bo, bo.keysBs, av, ar, bk, bM, bF, bW, af, af.passKs, aM, aU, ae, ae.lendKs, cr, bU, bV, bG, setInn, am, cW, cO, aB, aZ, bY, bN, aK, aw, Glob.gl, aQ, cj, bn, bQ, bD, ah, cC, cN, cz, cY, bO, ai, ai.ptrOnlys, ag, aL, cJ, aF, bp, bg, cH, aE, bq, cB, Nat.reduceBEq, undef]
end Go.Proofs.Ytfgpbmjmoobcnaa
end
section
open Go Go.Am
open Go.Am.Dat (cells)
namespace Go.Proofs.Ytfgpbmjmoobcnaa
set_option maxHeartbeats 4000000
set_option maxRecDepth 20000
set_option linter.unusedSimpArgs false
def xjC (F : Gs → Gs) (x : List Gs) (j : Nat) : List (List C) := ((x.take j).map F ++ x.drop j).map cells
def riC (F : Gs → Gs) (O : List (List Gs)) (i : Nat) : List (List (List C)) := ((O.take i).map (fun x => x.map F) ++ O.drop i).map fun r => r.map cells
def rjC (F : Gs → Gs) (O : List (List Gs)) (i j : Nat) : List (List (List C)) := ((O.take i).map fun x => (x.map F).map cells) ++ xjC F (O.getD i []) j :: (O.drop (i + 1)).map fun r => r.map cells
variable {F : Gs → Gs} {O : List (List Gs)} {x : List Gs} {i j : Nat}
theorem xjC_length (h : j ≤ x.length) : (xjC F x j).length = x.length := by
  simp [xjC]; omega
theorem xjC_get (h : j < x.length) (d : List C) : (xjC F x j).getD j d = cells (x.getD j ⟨0, 0⟩) := by
  have e : x.drop j = x.getD j ⟨0, 0⟩ :: x.drop (j + 1) := drop_getD _ h
  have hl : ((x.take j).map F).length = j := by simp; omega
  rw [xjC, e, List.map_append, List.getD_eq_getElem?_getD, List.getElem?_append_right (by simp; omega)]
  simp [Nat.min_eq_left (Nat.le_of_lt h)]
theorem xjC_set (h : j < x.length) : (xjC F x j).set j (cells (F (x.getD j ⟨0, 0⟩))) = xjC F x (j + 1) := by
  have e : x.drop j = x.getD j ⟨0, 0⟩ :: x.drop (j + 1) := drop_getD _ h
  have hl : ((x.take j).map F).length = j := by simp; omega
  rw [xjC, xjC, e, take_getD ⟨0, 0⟩ h]
  simp only [List.map_append, List.map_cons, List.map_nil, List.append_assoc, List.cons_append, List.nil_append]
  rw [List.set_append_right _ _ (by simp; omega)]
  simp [Nat.min_eq_left (Nat.le_of_lt h)]
theorem xjC_get' (h : j < x.length) (d : List C) : (xjC F x (j + 1)).getD j d = cells (F (x.getD j ⟨0, 0⟩)) := by
  rw [← xjC_set h, List.getD_eq_getElem?_getD, List.getElem?_set_self (by rw [xjC_length (by omega)]; exact h)]; rfl
theorem rjC_length (h : i < O.length) : (rjC F O i j).length = O.length := by
  simp [rjC]; omega
theorem rjC_get (h : i < O.length) (d : List (List C)) : (rjC F O i j).getD i d = xjC F (O.getD i []) j := by
  rw [rjC, List.getD_eq_getElem?_getD, List.getElem?_append_right (by simp; omega)]
  simp [Nat.min_eq_left (Nat.le_of_lt h)]
theorem rjC_set (h : i < O.length) : (rjC F O i j).set i (xjC F (O.getD i []) (j + 1)) = rjC F O i (j + 1) := by
  rw [rjC, rjC, List.set_append_right _ _ (by simp; omega)]
  simp [Nat.min_eq_left (Nat.le_of_lt h)]
theorem riC_rj (h : i < O.length) : riC F O i = rjC F O i 0 := by
  have e : O.drop i = O.getD i [] :: O.drop (i + 1) := drop_getD _ h
  rw [riC, rjC, e, List.map_append, List.map_map]
  simp [xjC, Function.comp_def]
theorem rjC_ri (h : i < O.length) : rjC F O i (O.getD i []).length = riC F O (i + 1) := by
  rw [riC, rjC, take_getD [] h]
  simp [xjC, Function.comp_def]
theorem riC_zero : riC F O 0 = O.map fun r => r.map cells := by simp [riC]
theorem riC_all : riC F O O.length = (O.map fun x => x.map F).map fun r => r.map cells := by simp [riC]
end Go.Proofs.Ytfgpbmjmoobcnaa
end
section
open Go Go.Am
open Go.Am.Dat (cells)
namespace Go.Proofs.Ytfgpbmjmoobcnaa
set_option maxHeartbeats 4000000
set_option maxRecDepth 20000
set_option linter.unusedSimpArgs false
def adjOk (m : List (List Gs)) : Prop := (∃ a, m = [[a]]) ∨ ∃ a b c d, m = [[a, b], [c, d]] ∧ bd b 1000 ∧ bd c 1000
def e85 : Ent Try.prog := .of1 85 adjOk (fun m : List (List Gs) => enc (adjS m)) (fun _ => trivial) (fun m h => by
  rcases h with ⟨a, rfl⟩ | ⟨a, b, c, d, rfl, h1, h2⟩
  · exact adj1_c a
  · exact adj2_c a b c d h1 h2)
def timesOk (a o : List (List Fz)) : Prop := ∃ m ls A B, Fits m ls A B ∧ 8 * (A * B) ≤ 9007199254740991 ∧ RepM a m ∧ RepM o ls
def e86 : Ent Try.prog := .of2 86 timesOk (fun a o : List (List Fz) => enc (timesW a o)) (fun _ _ => trivial) (fun a o h => by
  obtain ⟨m, ls, A, B, h1, h2, h3, h4⟩ := h
  exact gridTimes_c a o m ls A B h1 h2 h3 h4)
def e87D : Ent Try.prog := .mk3 87 (fun args chs => match args, chs with
    | [.sl 1 t], [] => (decL t : Option (List (List Fz))).bind fun w => some (RowsOk w (ofM w), .own 3, [(3, .deep 2 48 35 none ((ofM w).map fun r => r.map cells))], [3])
    | _, _ => none) (by
  intro args chs p r chs' nk hs hp
  split at hs
  · simp only [Option.bind_eq_some_iff, Option.some.injEq, Prod.mk.injEq] at hs
    obtain ⟨w, hw, rfl, rfl, rfl, rfl⟩ := hs
    have := decL_ok hw
    subst this
    refine ⟨rowsD_c w _ hp, ⟨fun k c h => .inl ?_, fun k cs h => by simp at h, by simp [keysIn], fun k c h => ?_⟩⟩
    · simp only [List.mem_singleton, Prod.mk.injEq] at h; rw [h.1]; exact List.mem_singleton.2 rfl
    · simp only [List.mem_singleton, Prod.mk.injEq] at h; rw [h.2]; trivial
  · cases hs)
theorem sym_of {l : List Gs} (h : symErr l = 0) : 0 < l.length ∧ l.length ≤ 200 ∧ ∀ g ∈ l, bd g 100000000 := by
  unfold symErr at h
  split at h
  · cases h
  · split at h
    · cases h
    · split at h
      · rename_i h1 h2 h3
        exact ⟨by omega, by omega, fun g hg => smallG_bd (by simpa using List.all_eq_true.1 h3 g hg)⟩
      · cases h
theorem lay_of {r : List (List Gs)} (h : layErr r = 0) : 0 < r.length ∧ r.length ≤ 4 ∧ ∀ x ∈ r, x.length = (r.getD 0 []).length ∧ 0 < x.length ∧ x.length ≤ 200 ∧ ∀ g ∈ x, bd g 100000000 := by
  unfold layErr at h
  split at h
  · cases h
  · split at h
    · cases h
    · refine ⟨by omega, by omega, fun x hx => ?_⟩
      have := firstS_zero h _ (List.mem_map.2 ⟨x, hx, rfl⟩)
      by_cases h1 : symErr x = 0
      · rw [if_neg (by simpa using h1)] at this
        obtain ⟨q1, q2, q3⟩ := sym_of h1
        refine ⟨?_, q1, q2, q3⟩
        split at this
        · cases this
        · omega
      · rw [if_pos h1] at this; exact absurd this h1
theorem det_of {m : List (List Gs)} (h : symDetE m = 0) : adjOk m ∧ (∀ x ∈ m, x.length = m.length ∧ ∀ g ∈ x, bd g 1000) ∧ 0 < m.length ∧ m.length ≤ 2 := by
  unfold symDetE at h
  by_cases h1 : matErr m = 0
  · rw [if_neg (by simpa using h1)] at h
    have hr := right_of h1
    unfold detE at h
    split at h
    · cases h
    · split at h
      · cases h
      · rename_i h2 h3
        have hb : ∀ x ∈ m, x.length = m.length ∧ ∀ g ∈ x, bd g 1000 := fun x hx => ⟨by have := (hr.row x hx).1; omega, fun g hg => smallG_bd ((hr.row x hx).2.2.2 g hg)⟩
        refine ⟨?_, hb, hr.pos, by omega⟩
        match m, hb, hr.pos, h3 with
        | [x], hb, _, _ =>
          obtain ⟨q1, q2⟩ := hb x (by simp)
          match x, q1 with
          | [a], _ => exact .inl ⟨a, rfl⟩
        | [x, y], hb, _, _ =>
          obtain ⟨q1, q2⟩ := hb x (by simp)
          obtain ⟨q3, q4⟩ := hb y (by simp)
          match x, y, q1, q3, q2, q4 with
          | [a, b], [c, d], _, _, q2, q4 => exact .inr ⟨a, b, c, d, rfl, q2 b (by simp), q4 c (by simp)⟩
        | _ :: _ :: _ :: _, _, _, h3 => simp at h3
  · rw [if_pos h1] at h; exact absurd h h1
theorem adjS_length {m : List (List Gs)} (ha : adjOk m) : (adjS m).length = m.length ∧ ∀ x ∈ adjS m, x.length = m.length := by
  rcases ha with ⟨a, rfl⟩ | ⟨a, b, c, d, rfl, _, _⟩ <;> simp [adjS]
theorem adj_fits {m r : List (List Gs)} (ha : adjOk m) (hm : ∀ x ∈ m, x.length = m.length ∧ ∀ g ∈ x, bd g 1000) (hl : layErr r = 0) (hrm : r.length = m.length) : Fits (adjS m) r 1000 100000000 := by
  obtain ⟨h1, h2, h3⟩ := lay_of hl
  obtain ⟨g1, g2⟩ := adjS_length ha
  refine ⟨h1, h2, by omega, fun x hx => (h3 x hx).1, ?_, fun x hx => by rw [g2 x hx, hrm], ?_, fun x hx g hg => (h3 x hx).2.2.2 g hg, by omega⟩
  · have := (h3 _ (getD_mem [] h1)).2.2.1; omega
  · rcases ha with ⟨a, rfl⟩ | ⟨a, b, c, d, rfl, h1, h2⟩
    · intro x hx g hg
      simp [adjS] at hx; subst hx; simp at hg; subst hg
      constructor <;> simp
    · have ha := (hm [a, b] (by simp)).2 a (by simp)
      have hd := (hm [c, d] (by simp)).2 d (by simp)
      intro x hx g hg
      simp only [bd] at *
      simp only [adjS, List.mem_cons, List.not_mem_nil, or_false] at hx
      rcases hx with rfl | rfl <;> simp only [List.mem_cons, List.not_mem_nil, or_false] at hg <;> rcases hg with rfl | rfl <;> (try simp only [gsub]) <;> omega
def eqErr (m r : List (List Gs)) : Int := firstS [symDetE m, layErr r, if r.length = m.length then 0 else 13, if symDetS m = ⟨0, 0⟩ then 27 else 0]
def gainS (m : List (List Gs)) : Int := (gmul (symDetS m) (gconj (symDetS m))).re
def eqOut (m r : List (List Gs)) : List (List Gs) := (applS (adjS m) r).map fun x => x.map (gmul (gconj (symDetS m)))
def eqE (m r : List (List Gs)) : Int := if eqErr m r ≠ 0 then eqErr m r else if gainS m > 10000000 then 8 else if (eqOut m r).all fun x => x.all (smallG · 100000000) then 0 else 8
theorem Equalized_c (m r : List (List Gs)) : FC Try.prog 17 [enc m, enc r] [] (.tup [enc (if eqE m r = 0 then eqOut m r else []), enc (if eqE m r = 0 then gainS m else 0), enc (eqE m r)]) [] := by
  refine fc_introC [] D.is17 (by simp) trivial trivial trivial trivial (fun cx _ hl _ => S_run [e49, e81, e82, e80, e83, e84, e85, e86, e87D] 800 ?_)
  have hEq : firstS [symDetE m, layErr r, if (r.length : Int) = (m.length : Int) then 0 else 13, if (decide ((symDetS m).re = 0) && decide ((symDetS m).im = 0)) = false then 0 else 27] = eqErr m r := by
    have e1 : (if (r.length : Int) = (m.length : Int) then (0 : Int) else 13) = if r.length = m.length then 0 else 13 := by
      by_cases h : r.length = m.length
      · simp [h]
      · rw [if_neg h, if_neg (by omega)]
    have e2 : (if (decide ((symDetS m).re = 0) && decide ((symDetS m).im = 0)) = false then (0 : Int) else 27) = if symDetS m = ⟨0, 0⟩ then 27 else 0 := by
      by_cases h : symDetS m = ⟨0, 0⟩
      · rw [h]; simp
      · rw [if_neg h, if_pos]
        rw [Bool.and_eq_false_iff]
        by_cases h1 : (symDetS m).re = 0
        · right
          simp only [decide_eq_false_iff_not]
          intro h2
          apply h
          cases hq : symDetS m
          rw [hq] at h1 h2
          simp only at h1 h2
          rw [h1, h2]
        · left; simpa using h1
    rw [e1, e2]; rfl
  by_cases he : eqErr m r = 0
  · have hz := firstS_zero he
    have z1 : symDetE m = 0 := hz _ (by simp)
    have z2 : layErr r = 0 := hz _ (by simp)
    have z3 : r.length = m.length := by
      have : (if r.length = m.length then (0 : Int) else 13) = 0 := hz _ (by simp)
      split at this
      · assumption
      · cases this
    obtain ⟨d1, d2, d3, d4⟩ := det_of z1
    have hf := adj_fits d1 d2 z2 z3
    obtain ⟨l1, l2, l3⟩ := lay_of z2
    have hga : RepM (gridS (adjS m)) (adjS m) := grid_rep fun x hx g hg => by
      have := hf.ma x hx g hg
      simp only [bd] at *; omega
    have hgr : RepM (gridS r) r := grid_rep fun x hx g hg => by
      have := hf.mb x hx g hg
      simp only [bd] at *; omega
    have hrep := times_rep hf (by omega) hga hgr
    have hO := ofM_c hrep
    have hOl : (applS (adjS m) r).length = m.length := by simp [applS, (adjS_length d1).1]
    rw [he] at hEq
    delta D.c17
    simp (maxSteps := 4000000) -implicitDefEqProofs only [D.rv17, e49, e81, e82, e80, e83, e84, e85, e86, e87D, hEq, hO, Ent.of0, Ent.of1, Ent.of2, Ent.of3, V, bS, bA, bB, ca, cL, cP, gt, lk, bR, cq, cg, cb, cF, bZ, bZ.subCs, cQ, a4, bj, b0, aO, bw, a3, aD, bI, a9, az, a8, aW, bX, cT, cZ, an, aH, cD, cc, cn, cV, cU, ay, ak, ce, bt, zC, argS, a7, cI, c6, cR, aj, aC, aI, aV, bP, leC, bT, cm, cp, cM, cG, aX, aP, cK, ap, cd, bm, bm.viewCs, bf, bf.flatCs, ax, ax.LensOks, Value.oneCell', ↓reduceIte, ite_true, ite_false, if_true, if_false, Nat.reduceAdd, Nat.reduceSub, Nat.reduceMul, Nat.reduceEqDiff, Nat.reduceLT, Nat.reduceLeDiff, reduceCtorEq, Int.reduceToNat, forall_const, implies_true, bv, Ent.mk3, bE, bC, be, a6, bL, a5, br, bK, bu, bh, bH, cu, bJ, cS, rn, co, co.renCs, aN, aT, aR, aR.viewOks, aJ, bz, bz.flatBs, aG, aq, aY, au, aA, bo, bo.keysBs, av, ar, bk, bM, bF, bW, af, af.passKs, aM, aU, ae, ae.lendKs, cr, bU, bV, bG, setInn, am, cW, cO, aB, aZ, bY, bN, aK, aw, Glob.gl, aQ, cj, bn, bQ, bD, ah, cC, cN, cz, cY, bO, ai, ai.ptrOnlys, ag, aL, cJ, aF, bp, bg, cH, aE, bq, cB, Nat.reduceBEq, undef]
    have hbd : bd (symDetS m) 4000000 := by
      have e : symDetS m = detS m := by unfold symDetS symDetE at *; split at z1 <;> simp_all
      rw [e]
      rcases d1 with ⟨a, rfl⟩ | ⟨a, b, c, d, rfl, _, _⟩
      · have := (d2 [a] (by simp)).2 a (by simp)
        simp only [detS, bd] at *; omega
      · have ha := (d2 [a, b] (by simp)).2 a (by simp)
        have hb := (d2 [a, b] (by simp)).2 b (by simp)
        have hc := (d2 [c, d] (by simp)).2 c (by simp)
        have hd := (d2 [c, d] (by simp)).2 d (by simp)
        have q1 := bd_gmul ha hd
        have q2 := bd_gmul hb hc
        simp only [detS, bd, gsub] at *
        omega
    have hgc : gconj (symDetS m) = ⟨(symDetS m).re, -(symDetS m).im⟩ := rfl
    have hgain : gainS m = (gmul (symDetS m) ⟨(symDetS m).re, -(symDetS m).im⟩).re := rfl
    have hgain2 : gainS m = (symDetS m).re * (symDetS m).re + (symDetS m).im * (symDetS m).im := by
      rw [hgain]; simp only [gmul]; rw [Int.mul_neg]; omega
    have heE : eqE m r = if gainS m > 10000000 then 8 else if (eqOut m r).all fun x => x.all (smallG · 100000000) then 0 else 8 := by unfold eqE; rw [if_neg (by simpa using he)]
    have hout : eqOut m r = (applS (adjS m) r).map fun x => x.map (gmul (gconj (symDetS m))) := rfl
    refine ⟨by simp only [bd, InR] at *; omega, ⟨4000000, 4000000, hbd, by simp only [bd] at *; omega, by omega⟩, ?_⟩
    rw [← hgain]
    by_cases hG : gainS m > 10000000
    · rw [if_pos hG, heE, if_pos hG]
      exact ⟨trivial, rfl, rfl⟩
    · rw [if_neg hG]
      rw [if_neg hG] at heE
      have hal := adjS_length d1
      have hrows : ∀ x ∈ applS (adjS m) r, x.length ≤ 1000000 ∧ ∀ g ∈ x, bd g 800000000000 := fun x hx => by
        obtain ⟨row, hrow, rfl⟩ := List.mem_map.1 hx
        refine ⟨by simp only [rowS', List.length_map, List.length_range]; exact hf.short, fun g hg => ?_⟩
        obtain ⟨k, hk, rfl⟩ := List.mem_map.1 hg
        have := bd_dot hf hrow (by simpa using hk) r.length (Nat.le_refl _)
        have h4 : r.length * (2 * (1000 * 100000000)) ≤ 4 * (2 * (1000 * 100000000)) := Nat.mul_le_mul_right _ l2
        simp only [bd] at *; omega
      refine ⟨d1, ⟨by omega, fun x hx => by rw [hal.2 x hx]; omega⟩, ⟨by omega, fun x hx => by have := (l3 x hx).2.2.1; omega⟩, ⟨_, _, _, _, hf, by omega, hga, hgr⟩, ⟨hrep, by omega, fun x hx => (hrows x hx).1, fun x hx g hg => by have := (hrows x hx).2 g hg; simp only [bd] at *; omega⟩, ?_⟩
      have hback : bd (gconj (symDetS m)) 4000 := by
        have sq : ∀ a b : Int, a * a + b * b ≤ 10000000 → a.natAbs ≤ 4000 := fun a b h => by
          rcases Nat.lt_or_ge 4000 a.natAbs with h1 | h1
          · have h2 : 4001 * 4001 ≤ a.natAbs * a.natAbs := Nat.mul_le_mul h1 h1
            have h3 : ((a.natAbs * a.natAbs : Nat) : Int) = a * a := by rw [← Int.natAbs_mul_self]
            have h4 : (0 : Int) ≤ b * b := by rw [← Int.natAbs_mul_self]; omega
            omega
          · exact h1
        have q1 := sq (symDetS m).re (symDetS m).im (by omega)
        have q2 := sq (symDetS m).im (symDetS m).re (by omega)
        simp only [bd, gconj] at *; omega
      generalize hF : gmul (gconj (symDetS m)) = F at *
      generalize hOO : applS (adjS m) r = O at *
      rw [hgc] at hF hback
      have hFg : ∀ g, gmul ⟨(symDetS m).re, -(symDetS m).im⟩ g = F g := fun g => by rw [← hF]
      generalize hB : (⟨(symDetS m).re, -(symDetS m).im⟩ : Gs) = B at *
      generalize (symDetS m).re = Dr at *
      generalize (symDetS m).im = Di at *
      generalize eqE m r = E at *
      generalize eqOut m r = Out at *
      generalize gainS m = n at *
      clear hF hgain hgain2 hgc hbd hEq he hz z1 z2 z3 d1 d2 hf l3 hga hgr hrep hO hal hOO hG
      subst hB
      refine S_forU O.length (fun i => [(60, .s (.int .i64 (i : Int)))]) (fun i => [(57, .deep 2 48 35 none (riC F O i))]) (fun i => ((O.take i).all fun x => x.all fun g => smallG (F g) 100000000) = true) (by simp) ?_ (fun i hi hv => S_run [e83, e88] 800 ?_)
      · simp (maxSteps := 4000000) -implicitDefEqProofs only [riC_zero, Ent.of0, Ent.of1, Ent.of2, Ent.of3, V, bS, bA, bB, ca, cL, cP, gt, lk, bR, cq, cg, cb, cF, bZ, bZ.subCs, cQ, a4, bj, b0, aO, bw, a3, aD, bI, a9, az, a8, aW, bX, cT, cZ, an, aH, cD, cc, cn, cV, cU, ay, ak, ce, bt, zC, argS, a7, cI, c6, cR, aj, aC, aI, aV, bP, leC, bT, cm, cp, cM, cG, aX, aP, cK, ap, cd, bm, bm.viewCs, bf, bf.flatCs, ax, ax.LensOks, Value.oneCell', ↓reduceIte, ite_true, ite_false, if_true, if_false, Nat.reduceAdd, Nat.reduceSub, Nat.reduceMul, Nat.reduceEqDiff, Nat.reduceLT, Nat.reduceLeDiff, reduceCtorEq, Int.reduceToNat, forall_const, implies_true, bv, Ent.mk3, bE, bC, be, a6, bL, a5, br, bK, bu, bh, bH, cu, bJ, cS, rn, co, co.renCs, aN, aT, aR, aR.viewOks, aJ, bz, bz.flatBs, aG, aq, aY, au, aA, bo, bo.keysBs, av, ar, bk, bM, bF, bW, af, af.passKs, aM, aU, ae, ae.lendKs, cr, bU, bV, bG, setInn, am, cW, cO, aB, aZ, bY, bN, aK, aw, Glob.gl, aQ, cj, bn, bQ, bD, ah, cC, cN, cz, cY, bO, ai, ai.ptrOnlys, ag, aL, cJ, aF, bp, bg, cH, aE, bq, cB, Nat.reduceBEq, undef]
        rfl
      · delta D.c17l2
        by_cases h : i < O.length
        · have hi2 : (i : Int) < (O.length : Int) := by omega
          have r1 : (rjC F O i 0).length = O.length := rjC_length h
          have r2 : (rjC F O i 0).getD i [] = xjC F (O.getD i []) 0 := rjC_get h []
          have r3 : (xjC F (O.getD i []) 0).length = (O.getD i []).length := xjC_length (by omega)
          rw [riC_rj h]
          simp (maxSteps := 4000000) -implicitDefEqProofs only [hi2, r1, r2, r3, h, InR, Ent.of0, Ent.of1, Ent.of2, Ent.of3, V, bS, bA, bB, ca, cL, cP, gt, lk, bR, cq, cg, cb, cF, bZ, bZ.subCs, cQ, a4, bj, b0, aO, bw, a3, aD, bI, a9, az, a8, aW, bX, cT, cZ, an, aH, cD, cc, cn, cV, cU, ay, ak, ce, bt, zC, argS, a7, cI, c6, cR, aj, aC, aI, aV, bP, leC, bT, cm, cp, cM, cG, aX, aP, cK, ap, cd, bm, bm.viewCs, bf, bf.flatCs, ax, ax.LensOks, Value.oneCell', ↓reduceIte, ite_true, ite_false, if_true, if_false, Nat.reduceAdd, Nat.reduceSub, Nat.reduceMul, Nat.reduceEqDiff, Nat.reduceLT, Nat.reduceLeDiff, reduceCtorEq, Int.reduceToNat, forall_const, implies_true, bv, Ent.mk3, bE, bC, be, a6, bL, a5, br, bK, bu, bh, bH, cu, bJ, cS, rn, co, co.renCs, aN, aT, aR, aR.viewOks, aJ, bz, bz.flatBs, aG, aq, aY, au, aA, bo, bo.keysBs, av, ar, bk, bM, bF, bW, af, af.passKs, aM, aU, ae, ae.lendKs, cr, bU, bV, bG, setInn, am, cW, cO, aB, aZ, bY, bN, aK, aw, Glob.gl, aQ, cj, bn, bQ, bD, ah, cC, cN, cz, cY, bO, ai, ai.ptrOnlys, ag, aL, cJ, aF, bp, bg, cH, aE, bq, cB, Nat.reduceBEq, undef]
          refine ⟨by omega, by simp, by simp, ?_⟩
          have hXm := hrows _ (getD_mem [] h)
          have htk : O.take (i + 1) = O.take i ++ [O.getD i []] := take_getD [] h
          have hXmem : O.getD i [] ∈ O := getD_mem [] h
          have rn := rjC_ri (F := F) h
          have g1 : ∀ j, (rjC F O i j).length = O.length := fun j => rjC_length h
          have g2 : ∀ j, (rjC F O i j).getD i [] = xjC F (O.getD i []) j := fun j => rjC_get h []
          have g3 : ∀ j, (rjC F O i j).set i (xjC F (O.getD i []) (j + 1)) = rjC F O i (j + 1) := fun j => rjC_set h
          generalize hX : O.getD i [] = X at *
          refine S_forU X.length (fun j => [(66, .s (.int .i64 (j : Int)))]) (fun j => [(57, .deep 2 48 35 none (rjC F O i j))]) (fun j => ((X.take j).all fun g => smallG (F g) 100000000) = true) (by simp) ?_ (fun j hj hw => S_run [e83, e88] 800 ?_)
          · simp (maxSteps := 4000000) -implicitDefEqProofs only [Ent.of0, Ent.of1, Ent.of2, Ent.of3, V, bS, bA, bB, ca, cL, cP, gt, lk, bR, cq, cg, cb, cF, bZ, bZ.subCs, cQ, a4, bj, b0, aO, bw, a3, aD, bI, a9, az, a8, aW, bX, cT, cZ, an, aH, cD, cc, cn, cV, cU, ay, ak, ce, bt, zC, argS, a7, cI, c6, cR, aj, aC, aI, aV, bP, leC, bT, cm, cp, cM, cG, aX, aP, cK, ap, cd, bm, bm.viewCs, bf, bf.flatCs, ax, ax.LensOks, Value.oneCell', ↓reduceIte, ite_true, ite_false, if_true, if_false, Nat.reduceAdd, Nat.reduceSub, Nat.reduceMul, Nat.reduceEqDiff, Nat.reduceLT, Nat.reduceLeDiff, reduceCtorEq, Int.reduceToNat, forall_const, implies_true, bv, Ent.mk3, bE, bC, be, a6, bL, a5, br, bK, bu, bh, bH, cu, bJ, cS, rn, co, co.renCs, aN, aT, aR, aR.viewOks, aJ, bz, bz.flatBs, aG, aq, aY, au, aA, bo, bo.keysBs, av, ar, bk, bM, bF, bW, af, af.passKs, aM, aU, ae, ae.lendKs, cr, bU, bV, bG, setInn, am, cW, cO, aB, aZ, bY, bN, aK, aw, Glob.gl, aQ, cj, bn, bQ, bD, ah, cC, cN, cz, cY, bO, ai, ai.ptrOnlys, ag, aL, cJ, aF, bp, bg, cH, aE, bq, cB, Nat.reduceBEq, undef]; rfl
          · delta D.c17l1
            by_cases hjl : j < X.length
            · have hj2 : (j : Int) < (X.length : Int) := by omega
              have g4 : (xjC F X j).length = X.length := xjC_length (by omega)
              have g4' : (xjC F X (j + 1)).length = X.length := xjC_length (by omega)
              have g5 : (xjC F X j).getD j [] = [.s (.int .i64 (X.getD j ⟨0, 0⟩).re), .s (.int .i64 (X.getD j ⟨0, 0⟩).im)] := xjC_get hjl []
              have g6 : (xjC F X (j + 1)).getD j [] = [.s (.int .i64 (F (X.getD j ⟨0, 0⟩)).re), .s (.int .i64 (F (X.getD j ⟨0, 0⟩)).im)] := xjC_get' hjl []
              have g7 : (xjC F X j).set j [.s (.int .i64 (F (X.getD j ⟨0, 0⟩)).re), .s (.int .i64 (F (X.getD j ⟨0, 0⟩)).im)] = xjC F X (j + 1) := xjC_set hjl
              have hgm := getD_mem ⟨0, 0⟩ hjl
              have hm1 : mulOk ⟨Dr, -Di⟩ (X.getD j ⟨0, 0⟩) := ⟨4000, 800000000000, hback, hXm.2 _ hgm, by omega⟩
              have htk2 : X.take (j + 1) = X.take j ++ [X.getD j ⟨0, 0⟩] := take_getD _ hjl
              simp (maxSteps := 4000000) -implicitDefEqProofs only [hj2, g1, g2, g3, g4, g4', g5, g6, g7, h, hjl, gs_eta, hFg, hm1, e83, e88, aD, D.rv17, InR, Ent.of0, Ent.of1, Ent.of2, Ent.of3, V, bS, bA, bB, ca, cL, cP, gt, lk, bR, cq, cg, cb, cF, bZ, bZ.subCs, cQ, a4, bj, b0, aO, bw, a3, aD, bI, a9, az, a8, aW, bX, cT, cZ, an, aH, cD, cc, cn, cV, cU, ay, ak, ce, bt, zC, argS, a7, cI, c6, cR, aj, aC, aI, aV, bP, leC, bT, cm, cp, cM, cG, aX, aP, cK, ap, cd, bm, bm.viewCs, bf, bf.flatCs, ax, ax.LensOks, Value.oneCell', ↓reduceIte, ite_true, ite_false, if_true, if_false, Nat.reduceAdd, Nat.reduceSub, Nat.reduceMul, Nat.reduceEqDiff, Nat.reduceLT, Nat.reduceLeDiff, reduceCtorEq, Int.reduceToNat, forall_const, implies_true, bv, Ent.mk3, bE, bC, be, a6, bL, a5, br, bK, bu, bh, bH, cu, bJ, cS, rn, co, co.renCs, aN, aT, aR, aR.viewOks, aJ, bz, bz.flatBs, aG, aq, aY, au, aA, bo, bo.keysBs, av, ar, bk, bM, bF, bW, af, af.passKs, aM, aU, ae, ae.lendKs, cr, bU, bV, bG, setInn, am, cW, cO, aB, aZ, bY, bN, aK, aw, Glob.gl, aQ, cj, bn, bQ, bD, ah, cC, cN, cz, cY, bO, ai, ai.ptrOnlys, ag, aL, cJ, aF, bp, bg, cH, aE, bq, cB, Nat.reduceBEq, undef]
              have hne : (none : Option Nat) ≠ some i := by simp
              have hj0 : (0 : Int) ≤ (j : Int) := by omega
              refine ⟨⟨hne, hj0⟩, hne, ⟨hne, hj0⟩, hne, ⟨hne, hj0⟩, hne, by omega, ?_⟩
              by_cases hs : smallG (F (X.getD j ⟨0, 0⟩)) 100000000 = false
              · rw [if_pos hs]
                have hE8 : E = 8 := by
                  rw [heE, if_neg]
                  rw [hout]
                  intro ha
                  have h1 := List.all_eq_true.1 ha _ (List.mem_map.2 ⟨X, hXmem, rfl⟩)
                  have h2 := List.all_eq_true.1 h1 _ (List.mem_map.2 ⟨_, hgm, rfl⟩)
                  rw [hs] at h2; cases h2
                rw [hE8]
                exact ⟨trivial, rfl, rfl⟩
              · rw [if_neg hs]
                refine ⟨by omega, ?_, by omega⟩
                rw [htk2, List.all_append, hw]
                simpa using hs
            · have hje : j = X.length := by omega
              subst hje
              have hj2 : ¬ (X.length : Int) < (X.length : Int) := by omega
              simp (maxSteps := 4000000) -implicitDefEqProofs only [hj2, rn, h, htk, InR, Ent.of0, Ent.of1, Ent.of2, Ent.of3, V, bS, bA, bB, ca, cL, cP, gt, lk, bR, cq, cg, cb, cF, bZ, bZ.subCs, cQ, a4, bj, b0, aO, bw, a3, aD, bI, a9, az, a8, aW, bX, cT, cZ, an, aH, cD, cc, cn, cV, cU, ay, ak, ce, bt, zC, argS, a7, cI, c6, cR, aj, aC, aI, aV, bP, leC, bT, cm, cp, cM, cG, aX, aP, cK, ap, cd, bm, bm.viewCs, bf, bf.flatCs, ax, ax.LensOks, Value.oneCell', ↓reduceIte, ite_true, ite_false, if_true, if_false, Nat.reduceAdd, Nat.reduceSub, Nat.reduceMul, Nat.reduceEqDiff, Nat.reduceLT, Nat.reduceLeDiff, reduceCtorEq, Int.reduceToNat, forall_const, implies_true, bv, Ent.mk3, bE, bC, be, a6, bL, a5, br, bK, bu, bh, bH, cu, bJ, cS, rn, co, co.renCs, aN, aT, aR, aR.viewOks, aJ, bz, bz.flatBs, aG, aq, aY, au, aA, bo, bo.keysBs, av, ar, bk, bM, bF, bW, af, af.passKs, aM, aU, ae, ae.lendKs, cr, bU, bV, bG, setInn, am, cW, cO, aB, aZ, bY, bN, aK, aw, Glob.gl, aQ, cj, bn, bQ, bD, ah, cC, cN, cz, cY, bO, ai, ai.ptrOnlys, ag, aL, cJ, aF, bp, bg, cH, aE, bq, cB, Nat.reduceBEq, undef]
              rw [List.take_length] at hw
              refine ⟨by omega, ?_, by omega⟩
              rw [List.all_append, hv]
              simp only [List.all_cons, List.all_nil, Bool.and_true, Bool.true_and]
              exact hw
        · have hie : i = O.length := by omega
          subst hie
          have hi2 : ¬ (O.length : Int) < (O.length : Int) := by omega
          rw [riC_all]
          simp (maxSteps := 4000000) -implicitDefEqProofs only [hi2, D.rv17, InR, Ent.of0, Ent.of1, Ent.of2, Ent.of3, V, bS, bA, bB, ca, cL, cP, gt, lk, bR, cq, cg, cb, cF, bZ, bZ.subCs, cQ, a4, bj, b0, aO, bw, a3, aD, bI, a9, az, a8, aW, bX, cT, cZ, an, aH, cD, cc, cn, cV, cU, ay, ak, ce, bt, zC, argS, a7, cI, c6, cR, aj, aC, aI, aV, bP, leC, bT, cm, cp, cM, cG, aX, aP, cK, ap, cd, bm, bm.viewCs, bf, bf.flatCs, ax, ax.LensOks, Value.oneCell', ↓reduceIte, ite_true, ite_false, if_true, if_false, Nat.reduceAdd, Nat.reduceSub, Nat.reduceMul, Nat.reduceEqDiff, Nat.reduceLT, Nat.reduceLeDiff, reduceCtorEq, Int.reduceToNat, forall_const, implies_true, bv, Ent.mk3, bE, bC, be, a6, bL, a5, br, bK, bu, bh, bH, cu, bJ, cS, rn, co, co.renCs, aN, aT, aR, aR.viewOks, aJ, bz, bz.flatBs, aG, aq, aY, au, aA, bo, bo.keysBs, av, ar, bk, bM, bF, bW, af, af.passKs, aM, aU, ae, ae.lendKs, cr, bU, bV, bG, setInn, am, cW, cO, aB, aZ, bY, bN, aK, aw, Glob.gl, aQ, cj, bn, bQ, bD, ah, cC, cN, cz, cY, bO, ai, ai.ptrOnlys, ag, aL, cJ, aF, bp, bg, cH, aE, bq, cB, Nat.reduceBEq, undef]
          rw [List.take_length] at hv
          have hE0 : E = 0 := by
            rw [heE, if_pos]
            rw [hout, List.all_map]
            simpa [Function.comp_def, List.all_map] using hv
          rw [hE0, if_pos rfl, if_pos rfl, hout]
          refine ⟨?_, rfl, rfl⟩
          simp only [List.map_map]
          rfl
  · have hE : eqE m r = eqErr m r := by unfold eqE; rw [if_pos he]
    delta D.c17
    simp (maxSteps := 4000000) -implicitDefEqProofs only [D.rv17, e49, e81, e82, e80, e83, Ent.of0, Ent.of1, Ent.of2, Ent.of3, V, bS, bA, bB, ca, cL, cP, gt, lk, bR, cq, cg, cb, cF, bZ, bZ.subCs, cQ, a4, bj, b0, aO, bw, a3, aD, bI, a9, az, a8, aW, bX, cT, cZ, an, aH, cD, cc, cn, cV, cU, ay, ak, ce, bt, zC, argS, a7, cI, c6, cR, aj, aC, aI, aV, bP, leC, bT, cm, cp, cM, cG, aX, aP, cK, ap, cd, bm, bm.viewCs, bf, bf.flatCs, ax, ax.LensOks, Value.oneCell', ↓reduceIte, ite_true, ite_false, if_true, if_false, Nat.reduceAdd, Nat.reduceSub, Nat.reduceMul, Nat.reduceEqDiff, Nat.reduceLT, Nat.reduceLeDiff, reduceCtorEq, Int.reduceToNat, forall_const, implies_true, bv, Ent.mk3, bE, bC, be, a6, bL, a5, br, bK, bu, bh, bH, cu, bJ, cS, rn, co, co.renCs, aN, aT, aR, aR.viewOks, aJ, bz, bz.flatBs, aG, aq, aY, au, aA, bo, bo.keysBs, av, ar, bk, bM, bF, bW, af, af.passKs, aM, aU, ae, ae.lendKs, cr, bU, bV, bG, setInn, am, cW, cO, aB, aZ, bY, bN, aK, aw, Glob.gl, aQ, cj, bn, bQ, bD, ah, cC, cN, cz, cY, bO, ai, ai.ptrOnlys, ag, aL, cJ, aF, bp, bg, cH, aE, bq, cB, Nat.reduceBEq, undef]
    rw [hEq, if_pos he, hE, if_neg he, if_neg he]
    exact ⟨trivial, rfl, rfl⟩
end Go.Proofs.Ytfgpbmjmoobcnaa
end
section
open Go Go.Am
open Go.Am.Dat (cells)
namespace Go.Proofs.Ytfgpbmjmoobcnaa
set_option maxHeartbeats 4000000
set_option maxRecDepth 100000
set_option linter.unusedSimpArgs false
def regX : Reg := ⟨3, [0, 1], [1, 0, 0]⟩
theorem Register_c : FC Try.prog 79 [] [] (enc regX) [] := by
  refine fc_intro' is79 (by simp) (fun cx hl => S_run [] 800 ?_)
  delta c79
  simp (maxSteps := 4000000) -implicitDefEqProofs only [rv79, regX, enc_reg, aD, Ent.of0, Ent.of1, Ent.of2, Ent.of3, V, bS, bA, bB, ca, cL, cP, gt, lk, bR, cq, cg, cb, cF, bZ, bZ.subCs, cQ, a4, bj, b0, aO, bw, a3, aD, bI, a9, az, a8, aW, bX, cT, cZ, an, aH, cD, cc, cn, cV, cU, ay, ak, ce, bt, zC, argS, a7, cI, c6, cR, aj, aC, aI, aV, bP, leC, bT, cm, cp, cM, cG, aX, aP, cK, ap, cd, bm, bm.viewCs, bf, bf.flatCs, ax, ax.LensOks, Value.oneCell', ↓reduceIte, ite_true, ite_false, if_true, if_false, Nat.reduceAdd, Nat.reduceSub, Nat.reduceMul, Nat.reduceEqDiff, Nat.reduceLT, Nat.reduceLeDiff, reduceCtorEq, Int.reduceToNat, forall_const, implies_true, bv, Ent.mk3, bE, bC, be, a6, bL, a5, br, bK, bu, bh, bH, cu, bJ, cS, rn, co, co.renCs, aN, aT, aR, aR.viewOks, aJ, bz, bz.flatBs, aG, aq, aY, au, aA, bo, bo.keysBs, av, ar, bk, bM, bF, bW, af, af.passKs, aM, aU, ae, ae.lendKs, cr, bU, bV, bG, setInn, am, cW, cO, aB, aZ, bY, bN, aK, aw, Glob.gl, aQ, cj, bn, bQ, bD, ah, cC, cN, cz, cY, bO, ai, ai.ptrOnlys, ag, aL, cJ, aF, bp, bg, cH, aE, bq, cB, Nat.reduceBEq, undef]
def e79 : Ent Try.prog := .of0 79 (enc regX) (by simp [enc_reg, regX, keysIn, keysIn.keysIns]) Register_c
def mX : List (List Gs) := [[⟨1, 0⟩, ⟨0, 1⟩], [⟨0, 0⟩, ⟨2, 0⟩]]
def rX : List (List Gs) := [[⟨2, 1⟩], [⟨2, 2⟩]]
theorem eqX : FC Try.prog 17 [enc mX, enc rX] [] (.tup [enc [[(⟨12, 0⟩ : Gs)], [⟨4, 4⟩]], enc (4 : Int), enc (0 : Int)]) [] := by
  have s7 : eqE mX rX = 0 := by decide +kernel
  have s8 : eqOut mX rX = [[⟨12, 0⟩], [⟨4, 4⟩]] := by decide +kernel
  have s9 : gainS mX = 4 := by decide +kernel
  have := Equalized_c mX rX
  rwa [s7, if_pos rfl, if_pos rfl, s8, s9] at this
def e17X : Ent Try.prog := .mk3 17 (fun args chs => match chs with | [] => some (args = [enc mX, enc rX], .tup [enc [[(⟨12, 0⟩ : Gs)], [⟨4, 4⟩]], enc (4 : Int), enc (0 : Int)], [], []) | _ => none) (by
  intro args chs p r chs' nk hs hp
  split at hs
  · simp only [Option.some.injEq, Prod.mk.injEq] at hs
    obtain ⟨rfl, rfl, rfl, rfl⟩ := hs
    subst hp
    exact ⟨eqX, .plain (by simp [enc_list, enc_int, keysIn, keysIn.keysIns])⟩
  · cases hs)
theorem awake_c : FC Try.prog 15 [] [] (enc true) [] := by
  have s1 : sequenceErr ⟨3, [0, 1], [1, 0, 0]⟩ 7 = 0 := by decide +kernel
  have s2 : seqS (wireW ⟨3, [0, 1], [1, 0, 0]⟩) 7 = [1, 0, 0, 1, 0, 1, 1] := by decide +kernel
  have s3 : modErr 4 [0, 1, 1, 0] = 0 := by decide +kernel
  have s4 : modS 4 [0, 1, 1, 0] 1 = [⟨3, -1⟩] := by decide +kernel
  have s5 : recvErr ⟨4, 2, [⟨5, 1⟩]⟩ = 0 := by decide +kernel
  have s6 : judgeAll softS ⟨4, 2, [⟨5, 1⟩]⟩ = [48, 8, -8, 24] := by decide +kernel
  have t7 : Int.toNat 7 = 7 := rfl
  have t4 : Int.toNat 4 = 4 := rfl
  have d1 : (4 : Nat) / 4 = 1 := rfl
  refine fc_intro' is15 (by simp) (fun cx hl => S_run [e79, e72, e24] 800 ?_)
  delta c15
  simp (maxSteps := 4000000) -implicitDefEqProofs only [rv15, e79, regX, e72, e24, enc_reg, decV_reg, s1, s2, s3, s4, t7, t4, d1, Int.cast_ofNat_Int, Int.natCast_one, Int.natCast_zero, Int.reduceAdd, Int.reduceSub, Int.reduceMul, Int.reduceLT, Int.reduceLE, Int.reduceTMod, Int.reduceTDiv, Int.reduceNeg, Int.reduceEq, Nat.reducePow, Int.reducePow, ne_eq, not_false_eq_true, Ent.of0, Ent.of1, Ent.of2, Ent.of3, V, bS, bA, bB, ca, cL, cP, gt, lk, bR, cq, cg, cb, cF, bZ, bZ.subCs, cQ, a4, bj, b0, aO, bw, a3, aD, bI, a9, az, a8, aW, bX, cT, cZ, an, aH, cD, cc, cn, cV, cU, ay, ak, ce, bt, zC, argS, a7, cI, c6, cR, aj, aC, aI, aV, bP, leC, bT, cm, cp, cM, cG, aX, aP, cK, ap, cd, bm, bm.viewCs, bf, bf.flatCs, ax, ax.LensOks, Value.oneCell', ↓reduceIte, ite_true, ite_false, if_true, if_false, Nat.reduceAdd, Nat.reduceSub, Nat.reduceMul, Nat.reduceEqDiff, Nat.reduceLT, Nat.reduceLeDiff, reduceCtorEq, Int.reduceToNat, forall_const, implies_true, bv, Ent.mk3, bE, bC, be, a6, bL, a5, br, bK, bu, bh, bH, cu, bJ, cS, rn, co, co.renCs, aN, aT, aR, aR.viewOks, aJ, bz, bz.flatBs, aG, aq, aY, au, aA, bo, bo.keysBs, av, ar, bk, bM, bF, bW, af, af.passKs, aM, aU, ae, ae.lendKs, cr, bU, bV, bG, setInn, am, cW, cO, aB, aZ, bY, bN, aK, aw, Glob.gl, aQ, cj, bn, bQ, bD, ah, cC, cN, cz, cY, bO, ai, ai.ptrOnlys, ag, aL, cJ, aF, bp, bg, cH, aE, bq, cB, Nat.reduceBEq, undef]
  refine D_run [e58] 800 ?_
  simp (maxSteps := 4000000) -implicitDefEqProofs only [e58, enc_recv, decV_recv, s5, s6, Int.cast_ofNat_Int, Int.natCast_one, Int.natCast_zero, Int.reduceAdd, Int.reduceSub, Int.reduceMul, Int.reduceLT, Int.reduceLE, Int.reduceTMod, Int.reduceTDiv, Int.reduceNeg, Int.reduceEq, Nat.reducePow, Int.reducePow, ne_eq, not_false_eq_true, Ent.of0, Ent.of1, Ent.of2, Ent.of3, V, bS, bA, bB, ca, cL, cP, gt, lk, bR, cq, cg, cb, cF, bZ, bZ.subCs, cQ, a4, bj, b0, aO, bw, a3, aD, bI, a9, az, a8, aW, bX, cT, cZ, an, aH, cD, cc, cn, cV, cU, ay, ak, ce, bt, zC, argS, a7, cI, c6, cR, aj, aC, aI, aV, bP, leC, bT, cm, cp, cM, cG, aX, aP, cK, ap, cd, bm, bm.viewCs, bf, bf.flatCs, ax, ax.LensOks, Value.oneCell', ↓reduceIte, ite_true, ite_false, if_true, if_false, Nat.reduceAdd, Nat.reduceSub, Nat.reduceMul, Nat.reduceEqDiff, Nat.reduceLT, Nat.reduceLeDiff, reduceCtorEq, Int.reduceToNat, forall_const, implies_true, bv, Ent.mk3, bE, bC, be, a6, bL, a5, br, bK, bu, bh, bH, cu, bJ, cS, rn, co, co.renCs, aN, aT, aR, aR.viewOks, aJ, bz, bz.flatBs, aG, aq, aY, au, aA, bo, bo.keysBs, av, ar, bk, bM, bF, bW, af, af.passKs, aM, aU, ae, ae.lendKs, cr, bU, bV, bG, setInn, am, cW, cO, aB, aZ, bY, bN, aK, aw, Glob.gl, aQ, cj, bn, bQ, bD, ah, cC, cN, cz, cY, bO, ai, ai.ptrOnlys, ag, aL, cJ, aF, bp, bg, cH, aE, bq, cB, Nat.reduceBEq, undef]
  refine D_run [e17X] 800 ?_
  simp (maxSteps := 4000000) -implicitDefEqProofs only [e17X, mX, rX, Int.cast_ofNat_Int, Int.natCast_one, Int.natCast_zero, Int.reduceAdd, Int.reduceSub, Int.reduceMul, Int.reduceLT, Int.reduceLE, Int.reduceTMod, Int.reduceTDiv, Int.reduceNeg, Int.reduceEq, Nat.reducePow, Int.reducePow, ne_eq, not_false_eq_true, Ent.of0, Ent.of1, Ent.of2, Ent.of3, V, bS, bA, bB, ca, cL, cP, gt, lk, bR, cq, cg, cb, cF, bZ, bZ.subCs, cQ, a4, bj, b0, aO, bw, a3, aD, bI, a9, az, a8, aW, bX, cT, cZ, an, aH, cD, cc, cn, cV, cU, ay, ak, ce, bt, zC, argS, a7, cI, c6, cR, aj, aC, aI, aV, bP, leC, bT, cm, cp, cM, cG, aX, aP, cK, ap, cd, bm, bm.viewCs, bf, bf.flatCs, ax, ax.LensOks, Value.oneCell', ↓reduceIte, ite_true, ite_false, if_true, if_false, Nat.reduceAdd, Nat.reduceSub, Nat.reduceMul, Nat.reduceEqDiff, Nat.reduceLT, Nat.reduceLeDiff, reduceCtorEq, Int.reduceToNat, forall_const, implies_true, bv, Ent.mk3, bE, bC, be, a6, bL, a5, br, bK, bu, bh, bH, cu, bJ, cS, rn, co, co.renCs, aN, aT, aR, aR.viewOks, aJ, bz, bz.flatBs, aG, aq, aY, au, aA, bo, bo.keysBs, av, ar, bk, bM, bF, bW, af, af.passKs, aM, aU, ae, ae.lendKs, cr, bU, bV, bG, setInn, am, cW, cO, aB, aZ, bY, bN, aK, aw, Glob.gl, aQ, cj, bn, bQ, bD, ah, cC, cN, cz, cY, bO, ai, ai.ptrOnlys, ag, aL, cJ, aF, bp, bg, cH, aE, bq, cB, Nat.reduceBEq, undef]
  refine D_run [e37, e27, e21] 800 ?_
  simp (maxSteps := 4000000) -implicitDefEqProofs only [e37, e27, e21, rv15, Int.cast_ofNat_Int, Int.natCast_one, Int.natCast_zero, Int.reduceAdd, Int.reduceSub, Int.reduceMul, Int.reduceLT, Int.reduceLE, Int.reduceTMod, Int.reduceTDiv, Int.reduceNeg, Int.reduceEq, Nat.reducePow, Int.reducePow, ne_eq, not_false_eq_true, Ent.of0, Ent.of1, Ent.of2, Ent.of3, V, bS, bA, bB, ca, cL, cP, gt, lk, bR, cq, cg, cb, cF, bZ, bZ.subCs, cQ, a4, bj, b0, aO, bw, a3, aD, bI, a9, az, a8, aW, bX, cT, cZ, an, aH, cD, cc, cn, cV, cU, ay, ak, ce, bt, zC, argS, a7, cI, c6, cR, aj, aC, aI, aV, bP, leC, bT, cm, cp, cM, cG, aX, aP, cK, ap, cd, bm, bm.viewCs, bf, bf.flatCs, ax, ax.LensOks, Value.oneCell', ↓reduceIte, ite_true, ite_false, if_true, if_false, Nat.reduceAdd, Nat.reduceSub, Nat.reduceMul, Nat.reduceEqDiff, Nat.reduceLT, Nat.reduceLeDiff, reduceCtorEq, Int.reduceToNat, forall_const, implies_true, bv, Ent.mk3, bE, bC, be, a6, bL, a5, br, bK, bu, bh, bH, cu, bJ, cS, rn, co, co.renCs, aN, aT, aR, aR.viewOks, aJ, bz, bz.flatBs, aG, aq, aY, au, aA, bo, bo.keysBs, av, ar, bk, bM, bF, bW, af, af.passKs, aM, aU, ae, ae.lendKs, cr, bU, bV, bG, setInn, am, cW, cO, aB, aZ, bY, bN, aK, aw, Glob.gl, aQ, cj, bn, bQ, bD, ah, cC, cN, cz, cY, bO, ai, ai.ptrOnlys, ag, aL, cJ, aF, bp, bg, cH, aE, bq, cB, Nat.reduceBEq, undef]
def e15 : Ent Try.prog := .of0 15 (enc true) trivial awake_c
end Go.Proofs.Ytfgpbmjmoobcnaa
end
section
open Go Go.Am
open Go.Am.Dat (cells)
namespace Go.Proofs.Ytfgpbmjmoobcnaa
set_option maxHeartbeats 4000000
set_option maxRecDepth 100000
set_option linter.unusedSimpArgs false
def shortS (r : Reg) : Bool := decide (r.taps.length ≤ 12) && decide (r.state.length ≤ 12)
theorem short_c (r : Reg) : FC Try.prog 41 [enc r] [] (enc (shortS r)) [] := by
  obtain ⟨len, taps, state⟩ := r
  refine fc_intro' is41 (by simp) (fun cx hl => S_run [] 800 ?_)
  by_cases h1 : taps.length ≤ 12
  · have h1' : (taps.length : Int) ≤ 12 := by omega
    by_cases h2 : state.length ≤ 12
    · have h2' : (state.length : Int) ≤ 12 := by omega
      delta c41
      simp (maxSteps := 4000000) -implicitDefEqProofs only [rv41, enc_reg, h1', h2', shortS, h1, h2, Int.cast_ofNat_Int, Int.natCast_one, Int.natCast_zero, Int.reduceAdd, Int.reduceSub, Int.reduceMul, Int.reduceLT, Int.reduceLE, Int.reduceTMod, Int.reduceTDiv, Int.reduceNeg, Int.reduceEq, Nat.reducePow, Int.reducePow, ne_eq, not_false_eq_true, Ent.of0, Ent.of1, Ent.of2, Ent.of3, V, bS, bA, bB, ca, cL, cP, gt, lk, bR, cq, cg, cb, cF, bZ, bZ.subCs, cQ, a4, bj, b0, aO, bw, a3, aD, bI, a9, az, a8, aW, bX, cT, cZ, an, aH, cD, cc, cn, cV, cU, ay, ak, ce, bt, zC, argS, a7, cI, c6, cR, aj, aC, aI, aV, bP, leC, bT, cm, cp, cM, cG, aX, aP, cK, ap, cd, bm, bm.viewCs, bf, bf.flatCs, ax, ax.LensOks, Value.oneCell', ↓reduceIte, ite_true, ite_false, if_true, if_false, Nat.reduceAdd, Nat.reduceSub, Nat.reduceMul, Nat.reduceEqDiff, Nat.reduceLT, Nat.reduceLeDiff, reduceCtorEq, Int.reduceToNat, forall_const, implies_true, bv, Ent.mk3, bE, bC, be, a6, bL, a5, br, bK, bu, bh, bH, cu, bJ, cS, rn, co, co.renCs, aN, aT, aR, aR.viewOks, aJ, bz, bz.flatBs, aG, aq, aY, au, aA, bo, bo.keysBs, av, ar, bk, bM, bF, bW, af, af.passKs, aM, aU, ae, ae.lendKs, cr, bU, bV, bG, setInn, am, cW, cO, aB, aZ, bY, bN, aK, aw, Glob.gl, aQ, cj, bn, bQ, bD, ah, cC, cN, cz, cY, bO, ai, ai.ptrOnlys, ag, aL, cJ, aF, bp, bg, cH, aE, bq, cB, Nat.reduceBEq, undef]
      try simp
    · have h2' : ¬ (state.length : Int) ≤ 12 := by omega
      delta c41
      simp (maxSteps := 4000000) -implicitDefEqProofs only [rv41, enc_reg, h1', h2', shortS, h1, h2, Int.cast_ofNat_Int, Int.natCast_one, Int.natCast_zero, Int.reduceAdd, Int.reduceSub, Int.reduceMul, Int.reduceLT, Int.reduceLE, Int.reduceTMod, Int.reduceTDiv, Int.reduceNeg, Int.reduceEq, Nat.reducePow, Int.reducePow, ne_eq, not_false_eq_true, Ent.of0, Ent.of1, Ent.of2, Ent.of3, V, bS, bA, bB, ca, cL, cP, gt, lk, bR, cq, cg, cb, cF, bZ, bZ.subCs, cQ, a4, bj, b0, aO, bw, a3, aD, bI, a9, az, a8, aW, bX, cT, cZ, an, aH, cD, cc, cn, cV, cU, ay, ak, ce, bt, zC, argS, a7, cI, c6, cR, aj, aC, aI, aV, bP, leC, bT, cm, cp, cM, cG, aX, aP, cK, ap, cd, bm, bm.viewCs, bf, bf.flatCs, ax, ax.LensOks, Value.oneCell', ↓reduceIte, ite_true, ite_false, if_true, if_false, Nat.reduceAdd, Nat.reduceSub, Nat.reduceMul, Nat.reduceEqDiff, Nat.reduceLT, Nat.reduceLeDiff, reduceCtorEq, Int.reduceToNat, forall_const, implies_true, bv, Ent.mk3, bE, bC, be, a6, bL, a5, br, bK, bu, bh, bH, cu, bJ, cS, rn, co, co.renCs, aN, aT, aR, aR.viewOks, aJ, bz, bz.flatBs, aG, aq, aY, au, aA, bo, bo.keysBs, av, ar, bk, bM, bF, bW, af, af.passKs, aM, aU, ae, ae.lendKs, cr, bU, bV, bG, setInn, am, cW, cO, aB, aZ, bY, bN, aK, aw, Glob.gl, aQ, cj, bn, bQ, bD, ah, cC, cN, cz, cY, bO, ai, ai.ptrOnlys, ag, aL, cJ, aF, bp, bg, cH, aE, bq, cB, Nat.reduceBEq, undef]
      try simp
  · have h1' : ¬ (taps.length : Int) ≤ 12 := by omega
    delta c41
    simp (maxSteps := 4000000) -implicitDefEqProofs only [rv41, enc_reg, h1', shortS, h1, Int.cast_ofNat_Int, Int.natCast_one, Int.natCast_zero, Int.reduceAdd, Int.reduceSub, Int.reduceMul, Int.reduceLT, Int.reduceLE, Int.reduceTMod, Int.reduceTDiv, Int.reduceNeg, Int.reduceEq, Nat.reducePow, Int.reducePow, ne_eq, not_false_eq_true, Ent.of0, Ent.of1, Ent.of2, Ent.of3, V, bS, bA, bB, ca, cL, cP, gt, lk, bR, cq, cg, cb, cF, bZ, bZ.subCs, cQ, a4, bj, b0, aO, bw, a3, aD, bI, a9, az, a8, aW, bX, cT, cZ, an, aH, cD, cc, cn, cV, cU, ay, ak, ce, bt, zC, argS, a7, cI, c6, cR, aj, aC, aI, aV, bP, leC, bT, cm, cp, cM, cG, aX, aP, cK, ap, cd, bm, bm.viewCs, bf, bf.flatCs, ax, ax.LensOks, Value.oneCell', ↓reduceIte, ite_true, ite_false, if_true, if_false, Nat.reduceAdd, Nat.reduceSub, Nat.reduceMul, Nat.reduceEqDiff, Nat.reduceLT, Nat.reduceLeDiff, reduceCtorEq, Int.reduceToNat, forall_const, implies_true, bv, Ent.mk3, bE, bC, be, a6, bL, a5, br, bK, bu, bh, bH, cu, bJ, cS, rn, co, co.renCs, aN, aT, aR, aR.viewOks, aJ, bz, bz.flatBs, aG, aq, aY, au, aA, bo, bo.keysBs, av, ar, bk, bM, bF, bW, af, af.passKs, aM, aU, ae, ae.lendKs, cr, bU, bV, bG, setInn, am, cW, cO, aB, aZ, bY, bN, aK, aw, Glob.gl, aQ, cj, bn, bQ, bD, ah, cC, cN, cz, cY, bO, ai, ai.ptrOnlys, ag, aL, cJ, aF, bp, bg, cH, aE, bq, cB, Nat.reduceBEq, undef]
    try simp
def e41 : Ent Try.prog := .of1 41 (fun _ => True) (fun r : Reg => enc (shortS r)) (fun _ => trivial) (fun r _ => short_c r)
theorem CopyReg_c (r : Reg) (h1 : r.taps.length ≤ 1000000) (h2 : r.state.length ≤ 1000000) : FC Try.prog 43 [enc r] [] (enc r) [] := by
  obtain ⟨len, taps, state⟩ := r
  simp only at h1 h2
  refine fc_intro' is43 (by simp) (fun cx hl => S_run [e25] 800 ?_)
  delta c43
  simp (maxSteps := 4000000) -implicitDefEqProofs only [rv43, e25, enc_reg, h1, h2, Ent.of0, Ent.of1, Ent.of2, Ent.of3, V, bS, bA, bB, ca, cL, cP, gt, lk, bR, cq, cg, cb, cF, bZ, bZ.subCs, cQ, a4, bj, b0, aO, bw, a3, aD, bI, a9, az, a8, aW, bX, cT, cZ, an, aH, cD, cc, cn, cV, cU, ay, ak, ce, bt, zC, argS, a7, cI, c6, cR, aj, aC, aI, aV, bP, leC, bT, cm, cp, cM, cG, aX, aP, cK, ap, cd, bm, bm.viewCs, bf, bf.flatCs, ax, ax.LensOks, Value.oneCell', ↓reduceIte, ite_true, ite_false, if_true, if_false, Nat.reduceAdd, Nat.reduceSub, Nat.reduceMul, Nat.reduceEqDiff, Nat.reduceLT, Nat.reduceLeDiff, reduceCtorEq, Int.reduceToNat, forall_const, implies_true, bv, Ent.mk3, bE, bC, be, a6, bL, a5, br, bK, bu, bh, bH, cu, bJ, cS, rn, co, co.renCs, aN, aT, aR, aR.viewOks, aJ, bz, bz.flatBs, aG, aq, aY, au, aA, bo, bo.keysBs, av, ar, bk, bM, bF, bW, af, af.passKs, aM, aU, ae, ae.lendKs, cr, bU, bV, bG, setInn, am, cW, cO, aB, aZ, bY, bN, aK, aw, Glob.gl, aQ, cj, bn, bQ, bD, ah, cC, cN, cz, cY, bO, ai, ai.ptrOnlys, ag, aL, cJ, aF, bp, bg, cH, aE, bq, cB, Nat.reduceBEq, undef]
def e43 : Ent Try.prog := .of1 43 (fun r => r.taps.length ≤ 1000000 ∧ r.state.length ≤ 1000000) (fun r : Reg => enc r) (fun _ => ⟨trivial, trivial, trivial, trivial⟩) (fun r h => CopyReg_c r h.1 h.2)
theorem SameReg_c (a b : Reg) : FC Try.prog 74 [enc a, enc b] [] (enc (decide (a.length = b.length) && decide (a.taps = b.taps) && decide (a.state = b.state))) [] := by
  obtain ⟨al, at', aS'⟩ := a
  obtain ⟨bl, bt', bs'⟩ := b
  refine fc_intro' is74 (by simp) (fun cx hl => S_run [e37] 800 ?_)
  by_cases h1 : al = bl
  · by_cases h2 : at' = bt'
    · delta c74
      simp (maxSteps := 4000000) -implicitDefEqProofs only [rv74, e37, enc_reg, h1, h2, Int.cast_ofNat_Int, Int.natCast_one, Int.natCast_zero, Int.reduceAdd, Int.reduceSub, Int.reduceMul, Int.reduceLT, Int.reduceLE, Int.reduceTMod, Int.reduceTDiv, Int.reduceNeg, Int.reduceEq, Nat.reducePow, Int.reducePow, ne_eq, not_false_eq_true, Ent.of0, Ent.of1, Ent.of2, Ent.of3, V, bS, bA, bB, ca, cL, cP, gt, lk, bR, cq, cg, cb, cF, bZ, bZ.subCs, cQ, a4, bj, b0, aO, bw, a3, aD, bI, a9, az, a8, aW, bX, cT, cZ, an, aH, cD, cc, cn, cV, cU, ay, ak, ce, bt, zC, argS, a7, cI, c6, cR, aj, aC, aI, aV, bP, leC, bT, cm, cp, cM, cG, aX, aP, cK, ap, cd, bm, bm.viewCs, bf, bf.flatCs, ax, ax.LensOks, Value.oneCell', ↓reduceIte, ite_true, ite_false, if_true, if_false, Nat.reduceAdd, Nat.reduceSub, Nat.reduceMul, Nat.reduceEqDiff, Nat.reduceLT, Nat.reduceLeDiff, reduceCtorEq, Int.reduceToNat, forall_const, implies_true, bv, Ent.mk3, bE, bC, be, a6, bL, a5, br, bK, bu, bh, bH, cu, bJ, cS, rn, co, co.renCs, aN, aT, aR, aR.viewOks, aJ, bz, bz.flatBs, aG, aq, aY, au, aA, bo, bo.keysBs, av, ar, bk, bM, bF, bW, af, af.passKs, aM, aU, ae, ae.lendKs, cr, bU, bV, bG, setInn, am, cW, cO, aB, aZ, bY, bN, aK, aw, Glob.gl, aQ, cj, bn, bQ, bD, ah, cC, cN, cz, cY, bO, ai, ai.ptrOnlys, ag, aL, cJ, aF, bp, bg, cH, aE, bq, cB, Nat.reduceBEq, undef]
      try simp
    · delta c74
      simp (maxSteps := 4000000) -implicitDefEqProofs only [rv74, e37, enc_reg, h1, h2, Int.cast_ofNat_Int, Int.natCast_one, Int.natCast_zero, Int.reduceAdd, Int.reduceSub, Int.reduceMul, Int.reduceLT, Int.reduceLE, Int.reduceTMod, Int.reduceTDiv, Int.reduceNeg, Int.reduceEq, Nat.reducePow, Int.reducePow, ne_eq, not_false_eq_true, Ent.of0, Ent.of1, Ent.of2, Ent.of3, V, bS, bA, bB, ca, cL, cP, gt, lk, bR, cq, cg, cb, cF, bZ, bZ.subCs, cQ, a4, bj, b0, aO, bw, a3, aD, bI, a9, az, a8, aW, bX, cT, cZ, an, aH, cD, cc, cn, cV, cU, ay, ak, ce, bt, zC, argS, a7, cI, c6, cR, aj, aC, aI, aV, bP, leC, bT, cm, cp, cM, cG, aX, aP, cK, ap, cd, bm, bm.viewCs, bf, bf.flatCs, ax, ax.LensOks, Value.oneCell', ↓reduceIte, ite_true, ite_false, if_true, if_false, Nat.reduceAdd, Nat.reduceSub, Nat.reduceMul, Nat.reduceEqDiff, Nat.reduceLT, Nat.reduceLeDiff, reduceCtorEq, Int.reduceToNat, forall_const, implies_true, bv, Ent.mk3, bE, bC, be, a6, bL, a5, br, bK, bu, bh, bH, cu, bJ, cS, rn, co, co.renCs, aN, aT, aR, aR.viewOks, aJ, bz, bz.flatBs, aG, aq, aY, au, aA, bo, bo.keysBs, av, ar, bk, bM, bF, bW, af, af.passKs, aM, aU, ae, ae.lendKs, cr, bU, bV, bG, setInn, am, cW, cO, aB, aZ, bY, bN, aK, aw, Glob.gl, aQ, cj, bn, bQ, bD, ah, cC, cN, cz, cY, bO, ai, ai.ptrOnlys, ag, aL, cJ, aF, bp, bg, cH, aE, bq, cB, Nat.reduceBEq, undef]
      try simp
  · delta c74
    simp (maxSteps := 4000000) -implicitDefEqProofs only [rv74, e37, enc_reg, h1, Int.cast_ofNat_Int, Int.natCast_one, Int.natCast_zero, Int.reduceAdd, Int.reduceSub, Int.reduceMul, Int.reduceLT, Int.reduceLE, Int.reduceTMod, Int.reduceTDiv, Int.reduceNeg, Int.reduceEq, Nat.reducePow, Int.reducePow, ne_eq, not_false_eq_true, Ent.of0, Ent.of1, Ent.of2, Ent.of3, V, bS, bA, bB, ca, cL, cP, gt, lk, bR, cq, cg, cb, cF, bZ, bZ.subCs, cQ, a4, bj, b0, aO, bw, a3, aD, bI, a9, az, a8, aW, bX, cT, cZ, an, aH, cD, cc, cn, cV, cU, ay, ak, ce, bt, zC, argS, a7, cI, c6, cR, aj, aC, aI, aV, bP, leC, bT, cm, cp, cM, cG, aX, aP, cK, ap, cd, bm, bm.viewCs, bf, bf.flatCs, ax, ax.LensOks, Value.oneCell', ↓reduceIte, ite_true, ite_false, if_true, if_false, Nat.reduceAdd, Nat.reduceSub, Nat.reduceMul, Nat.reduceEqDiff, Nat.reduceLT, Nat.reduceLeDiff, reduceCtorEq, Int.reduceToNat, forall_const, implies_true, bv, Ent.mk3, bE, bC, be, a6, bL, a5, br, bK, bu, bh, bH, cu, bJ, cS, rn, co, co.renCs, aN, aT, aR, aR.viewOks, aJ, bz, bz.flatBs, aG, aq, aY, au, aA, bo, bo.keysBs, av, ar, bk, bM, bF, bW, af, af.passKs, aM, aU, ae, ae.lendKs, cr, bU, bV, bG, setInn, am, cW, cO, aB, aZ, bY, bN, aK, aw, Glob.gl, aQ, cj, bn, bQ, bD, ah, cC, cN, cz, cY, bO, ai, ai.ptrOnlys, ag, aL, cJ, aF, bp, bg, cH, aE, bq, cB, Nat.reduceBEq, undef]
    try simp
theorem sameReg_eq (a b : Reg) : (decide (a.length = b.length) && decide (a.taps = b.taps) && decide (a.state = b.state)) = true ↔ a = b := by
  cases a; cases b; simp [and_assoc]
instance : DecidableEq Reg := fun a b => decidable_of_iff _ (sameReg_eq a b)
theorem SameReg_c' (a b : Reg) : FC Try.prog 74 [enc a, enc b] [] (enc (decide (a = b))) [] := by
  have h := SameReg_c a b
  have e : (decide (a.length = b.length) && decide (a.taps = b.taps) && decide (a.state = b.state)) = decide (a = b) := by
    rw [Bool.eq_iff_iff, sameReg_eq]; simp
  rwa [e] at h
theorem RCheck_c (r : Reg) : FC Try.prog 44 [enc r] [] (enc (regErr r)) [] := by
  obtain ⟨len, taps, state⟩ := r
  refine fc_intro' is44 (by simp) (fun cx hl => S_run [e32] 800 ?_)
  simp only [enc_reg, V, bS, bA, bB, ca, cL, cP, gt, lk, bR, cq, cg, cb, cF, bZ, bZ.subCs, cQ, a4, bj, b0, aO, bw, a3, aD, bI, a9, az, a8, aW, bX, cT, cZ, an, aH, cD, cc, cn, cV, cU, ay, ak, ce, bt, zC, argS, a7, cI, c6, cR, aj, aC, aI, aV, bP, leC, bT, cm, cp, cM, cG, aX, aP, cK, ap, cd, bm, bm.viewCs, bf, bf.flatCs, ax, ax.LensOks, Value.oneCell', ↓reduceIte, ite_true, ite_false, if_true, if_false, Nat.reduceAdd, Nat.reduceSub, Nat.reduceMul, Nat.reduceEqDiff, Nat.reduceLT, Nat.reduceLeDiff, reduceCtorEq, Int.reduceToNat, forall_const, implies_true, bv, Ent.mk3, bE, bC, be, a6, bL, a5, br, bK, bu, bh, bH, cu, bJ, cS, rn, co, co.renCs, aN, aT, aR, aR.viewOks, aJ, bz, bz.flatBs, aG, aq, aY, au, aA, bo, bo.keysBs, av, ar, bk, bM, bF, bW, af, af.passKs, aM, aU, ae, ae.lendKs, cr, bU, bV, bG, setInn, am, cW, cO, aB, aZ, bY, bN, aK, aw, Glob.gl, aQ, cj, bn, bQ, bD, ah, cC, cN, cz, cY, bO, ai, ai.ptrOnlys, ag, aL, cJ, aF, bp, bg, cH, aE, bq, cB, Nat.reduceBEq, undef] at hl
  have hlen := hl.1.list
  by_cases h0 : 2 ≤ len ∧ len ≤ 10
  rotate_left
  · have hr : regErr ⟨len, taps, state⟩ = 2 := by unfold regErr; rw [if_pos h0]
    rw [hr]
    delta c44
    simp (maxSteps := 4000000) -implicitDefEqProofs only [rv44, e32, enc_reg, h0, Int.cast_ofNat_Int, Int.natCast_one, Int.natCast_zero, Int.reduceAdd, Int.reduceSub, Int.reduceMul, Int.reduceLT, Int.reduceLE, Int.reduceTMod, Int.reduceTDiv, Int.reduceNeg, Int.reduceEq, Nat.reducePow, Int.reducePow, ne_eq, not_false_eq_true, Ent.of0, Ent.of1, Ent.of2, Ent.of3, V, bS, bA, bB, ca, cL, cP, gt, lk, bR, cq, cg, cb, cF, bZ, bZ.subCs, cQ, a4, bj, b0, aO, bw, a3, aD, bI, a9, az, a8, aW, bX, cT, cZ, an, aH, cD, cc, cn, cV, cU, ay, ak, ce, bt, zC, argS, a7, cI, c6, cR, aj, aC, aI, aV, bP, leC, bT, cm, cp, cM, cG, aX, aP, cK, ap, cd, bm, bm.viewCs, bf, bf.flatCs, ax, ax.LensOks, Value.oneCell', ↓reduceIte, ite_true, ite_false, if_true, if_false, Nat.reduceAdd, Nat.reduceSub, Nat.reduceMul, Nat.reduceEqDiff, Nat.reduceLT, Nat.reduceLeDiff, reduceCtorEq, Int.reduceToNat, forall_const, implies_true, bv, Ent.mk3, bE, bC, be, a6, bL, a5, br, bK, bu, bh, bH, cu, bJ, cS, rn, co, co.renCs, aN, aT, aR, aR.viewOks, aJ, bz, bz.flatBs, aG, aq, aY, au, aA, bo, bo.keysBs, av, ar, bk, bM, bF, bW, af, af.passKs, aM, aU, ae, ae.lendKs, cr, bU, bV, bG, setInn, am, cW, cO, aB, aZ, bY, bN, aK, aw, Glob.gl, aQ, cj, bn, bQ, bD, ah, cC, cN, cz, cY, bO, ai, ai.ptrOnlys, ag, aL, cJ, aF, bp, bg, cH, aE, bq, cB, Nat.reduceBEq, undef]
  by_cases h1 : taps.length = 0
  · have hr : regErr ⟨len, taps, state⟩ = 10 := by unfold regErr; rw [if_neg (fun h => h h0), if_pos h1]
    have h1' : (taps.length : Int) = 0 := by omega
    rw [hr]
    delta c44
    simp (maxSteps := 4000000) -implicitDefEqProofs only [rv44, e32, enc_reg, h0, h1', Int.cast_ofNat_Int, Int.natCast_one, Int.natCast_zero, Int.reduceAdd, Int.reduceSub, Int.reduceMul, Int.reduceLT, Int.reduceLE, Int.reduceTMod, Int.reduceTDiv, Int.reduceNeg, Int.reduceEq, Nat.reducePow, Int.reducePow, ne_eq, not_false_eq_true, Ent.of0, Ent.of1, Ent.of2, Ent.of3, V, bS, bA, bB, ca, cL, cP, gt, lk, bR, cq, cg, cb, cF, bZ, bZ.subCs, cQ, a4, bj, b0, aO, bw, a3, aD, bI, a9, az, a8, aW, bX, cT, cZ, an, aH, cD, cc, cn, cV, cU, ay, ak, ce, bt, zC, argS, a7, cI, c6, cR, aj, aC, aI, aV, bP, leC, bT, cm, cp, cM, cG, aX, aP, cK, ap, cd, bm, bm.viewCs, bf, bf.flatCs, ax, ax.LensOks, Value.oneCell', ↓reduceIte, ite_true, ite_false, if_true, if_false, Nat.reduceAdd, Nat.reduceSub, Nat.reduceMul, Nat.reduceEqDiff, Nat.reduceLT, Nat.reduceLeDiff, reduceCtorEq, Int.reduceToNat, forall_const, implies_true, bv, Ent.mk3, bE, bC, be, a6, bL, a5, br, bK, bu, bh, bH, cu, bJ, cS, rn, co, co.renCs, aN, aT, aR, aR.viewOks, aJ, bz, bz.flatBs, aG, aq, aY, au, aA, bo, bo.keysBs, av, ar, bk, bM, bF, bW, af, af.passKs, aM, aU, ae, ae.lendKs, cr, bU, bV, bG, setInn, am, cW, cO, aB, aZ, bY, bN, aK, aw, Glob.gl, aQ, cj, bn, bQ, bD, ah, cC, cN, cz, cY, bO, ai, ai.ptrOnlys, ag, aL, cJ, aF, bp, bg, cH, aE, bq, cB, Nat.reduceBEq, undef]
  have h1' : ¬ (taps.length : Int) = 0 := by omega
  have hr : regErr ⟨len, taps, state⟩ = if tapsErr len (-1) taps ≠ 0 then tapsErr len (-1) taps else if taps.getD 0 0 ≠ 0 then 3 else if (state.length : Int) ≠ len then 10 else if state.all isBit then 0 else 15 := by
    unfold regErr
    simp only
    rw [if_neg (fun h => h h0), if_neg h1]
  rw [hr]
  delta c44
  simp (maxSteps := 4000000) -implicitDefEqProofs only [rv44, e32, enc_reg, h0, h1', Int.cast_ofNat_Int, Int.natCast_one, Int.natCast_zero, Int.reduceAdd, Int.reduceSub, Int.reduceMul, Int.reduceLT, Int.reduceLE, Int.reduceTMod, Int.reduceTDiv, Int.reduceNeg, Int.reduceEq, Nat.reducePow, Int.reducePow, ne_eq, not_false_eq_true, Ent.of0, Ent.of1, Ent.of2, Ent.of3, V, bS, bA, bB, ca, cL, cP, gt, lk, bR, cq, cg, cb, cF, bZ, bZ.subCs, cQ, a4, bj, b0, aO, bw, a3, aD, bI, a9, az, a8, aW, bX, cT, cZ, an, aH, cD, cc, cn, cV, cU, ay, ak, ce, bt, zC, argS, a7, cI, c6, cR, aj, aC, aI, aV, bP, leC, bT, cm, cp, cM, cG, aX, aP, cK, ap, cd, bm, bm.viewCs, bf, bf.flatCs, ax, ax.LensOks, Value.oneCell', ↓reduceIte, ite_true, ite_false, if_true, if_false, Nat.reduceAdd, Nat.reduceSub, Nat.reduceMul, Nat.reduceEqDiff, Nat.reduceLT, Nat.reduceLeDiff, reduceCtorEq, Int.reduceToNat, forall_const, implies_true, bv, Ent.mk3, bE, bC, be, a6, bL, a5, br, bK, bu, bh, bH, cu, bJ, cS, rn, co, co.renCs, aN, aT, aR, aR.viewOks, aJ, bz, bz.flatBs, aG, aq, aY, au, aA, bo, bo.keysBs, av, ar, bk, bM, bF, bW, af, af.passKs, aM, aU, ae, ae.lendKs, cr, bU, bV, bG, setInn, am, cW, cO, aB, aZ, bY, bN, aK, aw, Glob.gl, aQ, cj, bn, bQ, bD, ah, cC, cN, cz, cY, bO, ai, ai.ptrOnlys, ag, aL, cJ, aF, bp, bg, cH, aE, bq, cB, Nat.reduceBEq, undef]
  refine S_forU taps.length (fun i => [(3, .s (.int .i64 (i : Int)))]) (fun _ => []) (fun i => tapsErr len (-1) taps = tapsErr len (if i = 0 then -1 else taps.getD (i - 1) 0) (taps.drop i)) (by simp) ?_ (fun i hi hv => S_run [e32, e102] 800 ?_)
  · simp (maxSteps := 4000000) -implicitDefEqProofs only [Ent.of0, Ent.of1, Ent.of2, Ent.of3, V, bS, bA, bB, ca, cL, cP, gt, lk, bR, cq, cg, cb, cF, bZ, bZ.subCs, cQ, a4, bj, b0, aO, bw, a3, aD, bI, a9, az, a8, aW, bX, cT, cZ, an, aH, cD, cc, cn, cV, cU, ay, ak, ce, bt, zC, argS, a7, cI, c6, cR, aj, aC, aI, aV, bP, leC, bT, cm, cp, cM, cG, aX, aP, cK, ap, cd, bm, bm.viewCs, bf, bf.flatCs, ax, ax.LensOks, Value.oneCell', ↓reduceIte, ite_true, ite_false, if_true, if_false, Nat.reduceAdd, Nat.reduceSub, Nat.reduceMul, Nat.reduceEqDiff, Nat.reduceLT, Nat.reduceLeDiff, reduceCtorEq, Int.reduceToNat, forall_const, implies_true, bv, Ent.mk3, bE, bC, be, a6, bL, a5, br, bK, bu, bh, bH, cu, bJ, cS, rn, co, co.renCs, aN, aT, aR, aR.viewOks, aJ, bz, bz.flatBs, aG, aq, aY, au, aA, bo, bo.keysBs, av, ar, bk, bM, bF, bW, af, af.passKs, aM, aU, ae, ae.lendKs, cr, bU, bV, bG, setInn, am, cW, cO, aB, aZ, bY, bN, aK, aw, Glob.gl, aQ, cj, bn, bQ, bD, ah, cC, cN, cz, cY, bO, ai, ai.ptrOnlys, ag, aL, cJ, aF, bp, bg, cH, aE, bq, cB, Nat.reduceBEq, undef]; simp
  · by_cases h : i < taps.length
    · have hi2 : (i : Int) < (taps.length : Int) := by omega
      rw [drop_getD 0 h, tapsErr] at hv
      have hnext : (if i + 1 = 0 then (-1 : Int) else taps.getD (i + 1 - 1) 0) = taps.getD i 0 := by rw [if_neg (by omega), Nat.add_sub_cancel]
      by_cases ht : 0 ≤ taps.getD i 0 ∧ taps.getD i 0 ≤ len - 1
      rotate_left
      · rw [if_pos ht] at hv
        delta c44l1
        simp (maxSteps := 4000000) -implicitDefEqProofs only [rv44, e32, hi2, h, ht, hv, InR, Int.cast_ofNat_Int, Int.natCast_one, Int.natCast_zero, Int.reduceAdd, Int.reduceSub, Int.reduceMul, Int.reduceLT, Int.reduceLE, Int.reduceTMod, Int.reduceTDiv, Int.reduceNeg, Int.reduceEq, Nat.reducePow, Int.reducePow, ne_eq, not_false_eq_true, Ent.of0, Ent.of1, Ent.of2, Ent.of3, V, bS, bA, bB, ca, cL, cP, gt, lk, bR, cq, cg, cb, cF, bZ, bZ.subCs, cQ, a4, bj, b0, aO, bw, a3, aD, bI, a9, az, a8, aW, bX, cT, cZ, an, aH, cD, cc, cn, cV, cU, ay, ak, ce, bt, zC, argS, a7, cI, c6, cR, aj, aC, aI, aV, bP, leC, bT, cm, cp, cM, cG, aX, aP, cK, ap, cd, bm, bm.viewCs, bf, bf.flatCs, ax, ax.LensOks, Value.oneCell', ↓reduceIte, ite_true, ite_false, if_true, if_false, Nat.reduceAdd, Nat.reduceSub, Nat.reduceMul, Nat.reduceEqDiff, Nat.reduceLT, Nat.reduceLeDiff, reduceCtorEq, Int.reduceToNat, forall_const, implies_true, bv, Ent.mk3, bE, bC, be, a6, bL, a5, br, bK, bu, bh, bH, cu, bJ, cS, rn, co, co.renCs, aN, aT, aR, aR.viewOks, aJ, bz, bz.flatBs, aG, aq, aY, au, aA, bo, bo.keysBs, av, ar, bk, bM, bF, bW, af, af.passKs, aM, aU, ae, ae.lendKs, cr, bU, bV, bG, setInn, am, cW, cO, aB, aZ, bY, bN, aK, aw, Glob.gl, aQ, cj, bn, bQ, bD, ah, cC, cN, cz, cY, bO, ai, ai.ptrOnlys, ag, aL, cJ, aF, bp, bg, cH, aE, bq, cB, Nat.reduceBEq, undef]
        try omega
      rw [if_neg (fun h => h ht)] at hv
      by_cases hi0 : i = 0
      · subst hi0
        rw [if_pos rfl, if_neg (fun h => h (by omega))] at hv
        have hz : (0 : Int) < (taps.length : Int) := by omega
        delta c44l1
        simp (maxSteps := 4000000) -implicitDefEqProofs only [rv44, e32, hi2, h, ht, hz, InR, Int.cast_ofNat_Int, Int.natCast_one, Int.natCast_zero, Int.reduceAdd, Int.reduceSub, Int.reduceMul, Int.reduceLT, Int.reduceLE, Int.reduceTMod, Int.reduceTDiv, Int.reduceNeg, Int.reduceEq, Nat.reducePow, Int.reducePow, ne_eq, not_false_eq_true, Ent.of0, Ent.of1, Ent.of2, Ent.of3, V, bS, bA, bB, ca, cL, cP, gt, lk, bR, cq, cg, cb, cF, bZ, bZ.subCs, cQ, a4, bj, b0, aO, bw, a3, aD, bI, a9, az, a8, aW, bX, cT, cZ, an, aH, cD, cc, cn, cV, cU, ay, ak, ce, bt, zC, argS, a7, cI, c6, cR, aj, aC, aI, aV, bP, leC, bT, cm, cp, cM, cG, aX, aP, cK, ap, cd, bm, bm.viewCs, bf, bf.flatCs, ax, ax.LensOks, Value.oneCell', ↓reduceIte, ite_true, ite_false, if_true, if_false, Nat.reduceAdd, Nat.reduceSub, Nat.reduceMul, Nat.reduceEqDiff, Nat.reduceLT, Nat.reduceLeDiff, reduceCtorEq, Int.reduceToNat, forall_const, implies_true, bv, Ent.mk3, bE, bC, be, a6, bL, a5, br, bK, bu, bh, bH, cu, bJ, cS, rn, co, co.renCs, aN, aT, aR, aR.viewOks, aJ, bz, bz.flatBs, aG, aq, aY, au, aA, bo, bo.keysBs, av, ar, bk, bM, bF, bW, af, af.passKs, aM, aU, ae, ae.lendKs, cr, bU, bV, bG, setInn, am, cW, cO, aB, aZ, bY, bN, aK, aw, Glob.gl, aQ, cj, bn, bQ, bD, ah, cC, cN, cz, cY, bO, ai, ai.ptrOnlys, ag, aL, cJ, aF, bp, bg, cH, aE, bq, cB, Nat.reduceBEq, undef]
        and_intros <;> first | omega | exact hv
      · rw [if_neg hi0] at hv
        have hz : (i : Int) > 0 := by omega
        have hz2 : (i : Int) - 1 = ((i - 1 : Nat) : Int) := by omega
        have hz3 : ((i - 1 : Nat) : Int) < (taps.length : Int) := by omega
        have hz4 : i - 1 < taps.length := by omega
        by_cases hlt : taps.getD (i - 1) 0 < taps.getD i 0
        · have hle : ¬ taps.getD i 0 ≤ taps.getD (i - 1) 0 := by omega
          rw [if_neg (fun h => h hlt)] at hv
          delta c44l1
          simp (maxSteps := 4000000) -implicitDefEqProofs only [rv44, e32, hi2, h, ht, hz, hz2, hz3, hz4, hle, Int.toNat_natCast, InR, Int.cast_ofNat_Int, Int.natCast_one, Int.natCast_zero, Int.reduceAdd, Int.reduceSub, Int.reduceMul, Int.reduceLT, Int.reduceLE, Int.reduceTMod, Int.reduceTDiv, Int.reduceNeg, Int.reduceEq, Nat.reducePow, Int.reducePow, ne_eq, not_false_eq_true, Ent.of0, Ent.of1, Ent.of2, Ent.of3, V, bS, bA, bB, ca, cL, cP, gt, lk, bR, cq, cg, cb, cF, bZ, bZ.subCs, cQ, a4, bj, b0, aO, bw, a3, aD, bI, a9, az, a8, aW, bX, cT, cZ, an, aH, cD, cc, cn, cV, cU, ay, ak, ce, bt, zC, argS, a7, cI, c6, cR, aj, aC, aI, aV, bP, leC, bT, cm, cp, cM, cG, aX, aP, cK, ap, cd, bm, bm.viewCs, bf, bf.flatCs, ax, ax.LensOks, Value.oneCell', ↓reduceIte, ite_true, ite_false, if_true, if_false, Nat.reduceAdd, Nat.reduceSub, Nat.reduceMul, Nat.reduceEqDiff, Nat.reduceLT, Nat.reduceLeDiff, reduceCtorEq, Int.reduceToNat, forall_const, implies_true, bv, Ent.mk3, bE, bC, be, a6, bL, a5, br, bK, bu, bh, bH, cu, bJ, cS, rn, co, co.renCs, aN, aT, aR, aR.viewOks, aJ, bz, bz.flatBs, aG, aq, aY, au, aA, bo, bo.keysBs, av, ar, bk, bM, bF, bW, af, af.passKs, aM, aU, ae, ae.lendKs, cr, bU, bV, bG, setInn, am, cW, cO, aB, aZ, bY, bN, aK, aw, Glob.gl, aQ, cj, bn, bQ, bD, ah, cC, cN, cz, cY, bO, ai, ai.ptrOnlys, ag, aL, cJ, aF, bp, bg, cH, aE, bq, cB, Nat.reduceBEq, undef]
          and_intros <;> first | omega | exact hv
        · have hle : taps.getD i 0 ≤ taps.getD (i - 1) 0 := by omega
          rw [if_pos hlt] at hv
          delta c44l1
          simp (maxSteps := 4000000) -implicitDefEqProofs only [rv44, e32, hi2, h, ht, hz, hz2, hz3, hz4, hle, hv, Int.toNat_natCast, InR, Int.cast_ofNat_Int, Int.natCast_one, Int.natCast_zero, Int.reduceAdd, Int.reduceSub, Int.reduceMul, Int.reduceLT, Int.reduceLE, Int.reduceTMod, Int.reduceTDiv, Int.reduceNeg, Int.reduceEq, Nat.reducePow, Int.reducePow, ne_eq, not_false_eq_true, Ent.of0, Ent.of1, Ent.of2, Ent.of3, V, bS, bA, bB, ca, cL, cP, gt, lk, bR, cq, cg, cb, cF, bZ, bZ.subCs, cQ, a4, bj, b0, aO, bw, a3, aD, bI, a9, az, a8, aW, bX, cT, cZ, an, aH, cD, cc, cn, cV, cU, ay, ak, ce, bt, zC, argS, a7, cI, c6, cR, aj, aC, aI, aV, bP, leC, bT, cm, cp, cM, cG, aX, aP, cK, ap, cd, bm, bm.viewCs, bf, bf.flatCs, ax, ax.LensOks, Value.oneCell', ↓reduceIte, ite_true, ite_false, if_true, if_false, Nat.reduceAdd, Nat.reduceSub, Nat.reduceMul, Nat.reduceEqDiff, Nat.reduceLT, Nat.reduceLeDiff, reduceCtorEq, Int.reduceToNat, forall_const, implies_true, bv, Ent.mk3, bE, bC, be, a6, bL, a5, br, bK, bu, bh, bH, cu, bJ, cS, rn, co, co.renCs, aN, aT, aR, aR.viewOks, aJ, bz, bz.flatBs, aG, aq, aY, au, aA, bo, bo.keysBs, av, ar, bk, bM, bF, bW, af, af.passKs, aM, aU, ae, ae.lendKs, cr, bU, bV, bG, setInn, am, cW, cO, aB, aZ, bY, bN, aK, aw, Glob.gl, aQ, cj, bn, bQ, bD, ah, cC, cN, cz, cY, bO, ai, ai.ptrOnlys, ag, aL, cJ, aF, bp, bg, cH, aE, bq, cB, Nat.reduceBEq, undef]
          try omega
    · have hie : i = taps.length := by omega
      have hi2 : ¬ (i : Int) < (taps.length : Int) := by omega
      have h0t : (0 : Int) < (taps.length : Int) := by omega
      have h0t' : 0 < taps.length := by omega
      rw [List.drop_eq_nil_of_le (by omega), tapsErr] at hv
      have hbit : (state.all fun b => decide (b = 0 ∨ b = 1)) = state.all isBit := by congr 1; funext b; unfold isBit; grind
      rw [hv]
      by_cases hA : taps.getD 0 0 = 0
      · by_cases hB : (state.length : Int) = len
        · cases hC : state.all isBit with
          | true =>
            rw [hC] at hbit
            delta c44l1
            simp (maxSteps := 4000000) -implicitDefEqProofs only [rv44, e32, e102, hi2, h0t, h0t', hA, hB, hbit, InR, Int.cast_ofNat_Int, Int.natCast_one, Int.natCast_zero, Int.reduceAdd, Int.reduceSub, Int.reduceMul, Int.reduceLT, Int.reduceLE, Int.reduceTMod, Int.reduceTDiv, Int.reduceNeg, Int.reduceEq, Nat.reducePow, Int.reducePow, ne_eq, not_false_eq_true, Ent.of0, Ent.of1, Ent.of2, Ent.of3, V, bS, bA, bB, ca, cL, cP, gt, lk, bR, cq, cg, cb, cF, bZ, bZ.subCs, cQ, a4, bj, b0, aO, bw, a3, aD, bI, a9, az, a8, aW, bX, cT, cZ, an, aH, cD, cc, cn, cV, cU, ay, ak, ce, bt, zC, argS, a7, cI, c6, cR, aj, aC, aI, aV, bP, leC, bT, cm, cp, cM, cG, aX, aP, cK, ap, cd, bm, bm.viewCs, bf, bf.flatCs, ax, ax.LensOks, Value.oneCell', ↓reduceIte, ite_true, ite_false, if_true, if_false, Nat.reduceAdd, Nat.reduceSub, Nat.reduceMul, Nat.reduceEqDiff, Nat.reduceLT, Nat.reduceLeDiff, reduceCtorEq, Int.reduceToNat, forall_const, implies_true, bv, Ent.mk3, bE, bC, be, a6, bL, a5, br, bK, bu, bh, bH, cu, bJ, cS, rn, co, co.renCs, aN, aT, aR, aR.viewOks, aJ, bz, bz.flatBs, aG, aq, aY, au, aA, bo, bo.keysBs, av, ar, bk, bM, bF, bW, af, af.passKs, aM, aU, ae, ae.lendKs, cr, bU, bV, bG, setInn, am, cW, cO, aB, aZ, bY, bN, aK, aw, Glob.gl, aQ, cj, bn, bQ, bD, ah, cC, cN, cz, cY, bO, ai, ai.ptrOnlys, ag, aL, cJ, aF, bp, bg, cH, aE, bq, cB, Nat.reduceBEq, undef]
            try simp [hA, hB]
          | false =>
            rw [hC] at hbit
            delta c44l1
            simp (maxSteps := 4000000) -implicitDefEqProofs only [rv44, e32, e102, hi2, h0t, h0t', hA, hB, hbit, InR, Int.cast_ofNat_Int, Int.natCast_one, Int.natCast_zero, Int.reduceAdd, Int.reduceSub, Int.reduceMul, Int.reduceLT, Int.reduceLE, Int.reduceTMod, Int.reduceTDiv, Int.reduceNeg, Int.reduceEq, Nat.reducePow, Int.reducePow, ne_eq, not_false_eq_true, Ent.of0, Ent.of1, Ent.of2, Ent.of3, V, bS, bA, bB, ca, cL, cP, gt, lk, bR, cq, cg, cb, cF, bZ, bZ.subCs, cQ, a4, bj, b0, aO, bw, a3, aD, bI, a9, az, a8, aW, bX, cT, cZ, an, aH, cD, cc, cn, cV, cU, ay, ak, ce, bt, zC, argS, a7, cI, c6, cR, aj, aC, aI, aV, bP, leC, bT, cm, cp, cM, cG, aX, aP, cK, ap, cd, bm, bm.viewCs, bf, bf.flatCs, ax, ax.LensOks, Value.oneCell', ↓reduceIte, ite_true, ite_false, if_true, if_false, Nat.reduceAdd, Nat.reduceSub, Nat.reduceMul, Nat.reduceEqDiff, Nat.reduceLT, Nat.reduceLeDiff, reduceCtorEq, Int.reduceToNat, forall_const, implies_true, bv, Ent.mk3, bE, bC, be, a6, bL, a5, br, bK, bu, bh, bH, cu, bJ, cS, rn, co, co.renCs, aN, aT, aR, aR.viewOks, aJ, bz, bz.flatBs, aG, aq, aY, au, aA, bo, bo.keysBs, av, ar, bk, bM, bF, bW, af, af.passKs, aM, aU, ae, ae.lendKs, cr, bU, bV, bG, setInn, am, cW, cO, aB, aZ, bY, bN, aK, aw, Glob.gl, aQ, cj, bn, bQ, bD, ah, cC, cN, cz, cY, bO, ai, ai.ptrOnlys, ag, aL, cJ, aF, bp, bg, cH, aE, bq, cB, Nat.reduceBEq, undef]
            try simp [hA, hB]
        · delta c44l1
          simp (maxSteps := 4000000) -implicitDefEqProofs only [rv44, e32, e102, hi2, h0t, h0t', hA, hB, InR, Int.cast_ofNat_Int, Int.natCast_one, Int.natCast_zero, Int.reduceAdd, Int.reduceSub, Int.reduceMul, Int.reduceLT, Int.reduceLE, Int.reduceTMod, Int.reduceTDiv, Int.reduceNeg, Int.reduceEq, Nat.reducePow, Int.reducePow, ne_eq, not_false_eq_true, Ent.of0, Ent.of1, Ent.of2, Ent.of3, V, bS, bA, bB, ca, cL, cP, gt, lk, bR, cq, cg, cb, cF, bZ, bZ.subCs, cQ, a4, bj, b0, aO, bw, a3, aD, bI, a9, az, a8, aW, bX, cT, cZ, an, aH, cD, cc, cn, cV, cU, ay, ak, ce, bt, zC, argS, a7, cI, c6, cR, aj, aC, aI, aV, bP, leC, bT, cm, cp, cM, cG, aX, aP, cK, ap, cd, bm, bm.viewCs, bf, bf.flatCs, ax, ax.LensOks, Value.oneCell', ↓reduceIte, ite_true, ite_false, if_true, if_false, Nat.reduceAdd, Nat.reduceSub, Nat.reduceMul, Nat.reduceEqDiff, Nat.reduceLT, Nat.reduceLeDiff, reduceCtorEq, Int.reduceToNat, forall_const, implies_true, bv, Ent.mk3, bE, bC, be, a6, bL, a5, br, bK, bu, bh, bH, cu, bJ, cS, rn, co, co.renCs, aN, aT, aR, aR.viewOks, aJ, bz, bz.flatBs, aG, aq, aY, au, aA, bo, bo.keysBs, av, ar, bk, bM, bF, bW, af, af.passKs, aM, aU, ae, ae.lendKs, cr, bU, bV, bG, setInn, am, cW, cO, aB, aZ, bY, bN, aK, aw, Glob.gl, aQ, cj, bn, bQ, bD, ah, cC, cN, cz, cY, bO, ai, ai.ptrOnlys, ag, aL, cJ, aF, bp, bg, cH, aE, bq, cB, Nat.reduceBEq, undef]
          try simp [hA, hB]
      · delta c44l1
        simp (maxSteps := 4000000) -implicitDefEqProofs only [rv44, e32, e102, hi2, h0t, h0t', hA, InR, Int.cast_ofNat_Int, Int.natCast_one, Int.natCast_zero, Int.reduceAdd, Int.reduceSub, Int.reduceMul, Int.reduceLT, Int.reduceLE, Int.reduceTMod, Int.reduceTDiv, Int.reduceNeg, Int.reduceEq, Nat.reducePow, Int.reducePow, ne_eq, not_false_eq_true, Ent.of0, Ent.of1, Ent.of2, Ent.of3, V, bS, bA, bB, ca, cL, cP, gt, lk, bR, cq, cg, cb, cF, bZ, bZ.subCs, cQ, a4, bj, b0, aO, bw, a3, aD, bI, a9, az, a8, aW, bX, cT, cZ, an, aH, cD, cc, cn, cV, cU, ay, ak, ce, bt, zC, argS, a7, cI, c6, cR, aj, aC, aI, aV, bP, leC, bT, cm, cp, cM, cG, aX, aP, cK, ap, cd, bm, bm.viewCs, bf, bf.flatCs, ax, ax.LensOks, Value.oneCell', ↓reduceIte, ite_true, ite_false, if_true, if_false, Nat.reduceAdd, Nat.reduceSub, Nat.reduceMul, Nat.reduceEqDiff, Nat.reduceLT, Nat.reduceLeDiff, reduceCtorEq, Int.reduceToNat, forall_const, implies_true, bv, Ent.mk3, bE, bC, be, a6, bL, a5, br, bK, bu, bh, bH, cu, bJ, cS, rn, co, co.renCs, aN, aT, aR, aR.viewOks, aJ, bz, bz.flatBs, aG, aq, aY, au, aA, bo, bo.keysBs, av, ar, bk, bM, bF, bW, af, af.passKs, aM, aU, ae, ae.lendKs, cr, bU, bV, bG, setInn, am, cW, cO, aB, aZ, bY, bN, aK, aw, Glob.gl, aQ, cj, bn, bQ, bD, ah, cC, cN, cz, cY, bO, ai, ai.ptrOnlys, ag, aL, cJ, aF, bp, bg, cH, aE, bq, cB, Nat.reduceBEq, undef]
        try simp [hA]
def e44 : Ent Try.prog := .of1 44 (fun _ => True) (fun r : Reg => enc (regErr r)) (fun _ => trivial) (fun r _ => RCheck_c r)
end Go.Proofs.Ytfgpbmjmoobcnaa
end
section
open Go Go.Am
open Go.Am.Dat (cells)
namespace Go.Proofs.Ytfgpbmjmoobcnaa
set_option maxHeartbeats 4000000
set_option maxRecDepth 100000
set_option linter.unusedSimpArgs false
set_option linter.unusedVariables false
theorem CopyIntsO_c (l : List Int) (h : l.length ≤ 1000000) : FC Try.prog 25 [enc l] [] (.own 3) [(3, .row 1 3 (l.map cells))] := by
  refine fc_introC [3] is25 (by simp) trivial trivial (by simp [aX, aP, b0]) trivial (fun cx _ hl _ => S_run [] 800 ?_)
  delta c25
  simp (maxSteps := 4000000) -implicitDefEqProofs only [rv25, Ent.of0, Ent.of1, Ent.of2, Ent.of3, V, bS, bA, bB, ca, cL, cP, gt, lk, bR, cq, cg, cb, cF, bZ, bZ.subCs, cQ, a4, bj, b0, aO, bw, a3, aD, bI, a9, az, a8, aW, bX, cT, cZ, an, aH, cD, cc, cn, cV, cU, ay, ak, ce, bt, zC, argS, a7, cI, c6, cR, aj, aC, aI, aV, bP, leC, bT, cm, cp, cM, cG, aX, aP, cK, ap, cd, bm, bm.viewCs, bf, bf.flatCs, ax, ax.LensOks, Value.oneCell', ↓reduceIte, ite_true, ite_false, if_true, if_false, Nat.reduceAdd, Nat.reduceSub, Nat.reduceMul, Nat.reduceEqDiff, Nat.reduceLT, Nat.reduceLeDiff, reduceCtorEq, Int.reduceToNat, forall_const, implies_true, bv, Ent.mk3, bE, bC, be, a6, bL, a5, br, bK, bu, bh, bH, cu, bJ, cS, rn, co, co.renCs, aN, aT, aR, aR.viewOks, aJ, bz, bz.flatBs, aG, aq, aY, au, aA, bo, bo.keysBs, av, ar, bk, bM, bF, bW, af, af.passKs, aM, aU, ae, ae.lendKs, cr, bU, bV, bG, setInn, am, cW, cO, aB, aZ, bY, bN, aK, aw, Glob.gl, aQ, cj, bn, bQ, bD, ah, cC, cN, cz, cY, bO, ai, ai.ptrOnlys, ag, aL, cJ, aF, bp, bg, cH, aE, bq, cB, Nat.reduceBEq, undef]
  omega
def ownEnt (f : FuncId) (hf : ∀ l : List Int, l.length ≤ 1000000 → FC Try.prog f [enc l] [] (.own 3) [(3, .row 1 3 (l.map cells))]) : Ent Try.prog := .mk3 f (fun args chs => match args, chs with
    | [.sl 1 t], [] => (decL t : Option (List Int)).bind fun l => some (l.length ≤ 1000000, .own 3, [(3, .row 1 3 (l.map cells))], [3])
    | _, _ => none) (by
  intro args chs p r chs' nk hs hp
  split at hs
  · simp only [Option.bind_eq_some_iff, Option.some.injEq, Prod.mk.injEq] at hs
    obtain ⟨w, hw, rfl, rfl, rfl, rfl⟩ := hs
    have := decL_ok hw
    subst this
    refine ⟨hf w hp, ⟨fun k c h => .inl ?_, fun k cs h => by simp at h, by simp [keysIn], fun k c h => ?_⟩⟩
    · simp only [List.mem_singleton, Prod.mk.injEq] at h; rw [h.1]; exact List.mem_singleton.2 rfl
    · simp only [List.mem_singleton, Prod.mk.injEq] at h; rw [h.2]; trivial
  · cases hs)
def e25O : Ent Try.prog := ownEnt 25 CopyIntsO_c
end Go.Proofs.Ytfgpbmjmoobcnaa
end
section
open Go Go.Am
open Go.Am.Dat (cells)
namespace Go.Proofs.Ytfgpbmjmoobcnaa
set_option maxHeartbeats 4000000
set_option maxRecDepth 100000
set_option linter.unusedSimpArgs false
set_option linter.unusedVariables false
def z3 : List C := [.s (.int .i64 0), .s (.slice none 0 0), .s (.slice none 0 0)]
def cpCh (len : Int) (taps state : List Int) (S : Nat → Bool) : Chs :=
  (if S 7 = true then [(10, .row 1 3 (state.map cells))] else []) ++ ((if S 4 = true then [(7, .row 1 3 (taps.map cells))] else []) ++
  [(2, .box (if S 9 = true then [.s (.int .i64 len), .own 7, .own 10] else z3)), (1, .box [.s (.int .i64 len), .sl 1 (taps.map cells), .sl 1 (state.map cells)])])
theorem cpCh_nd (len : Int) (taps state : List Int) (S : Nat → Bool) : ((cpCh len taps state S).map (·.1)).Nodup := by
  unfold cpCh
  cases S 7 <;> cases S 4 <;> simp
def cpOs : List AO := [⟨some 3, none, .faddr 0 (.tmp 1), false⟩, ⟨some 4, none, .load false 1 (.tmp 3), false⟩, ⟨some 5, none, .faddr 1 (.tmp 1), false⟩, ⟨some 6, none, .load false 1 (.tmp 5), false⟩, ⟨some 7, none, .call (.func 25) [(.tmp 6)], false⟩,
  ⟨some 8, none, .faddr 2 (.tmp 1), false⟩, ⟨some 9, none, .load false 1 (.tmp 8), false⟩, ⟨some 10, none, .call (.func 25) [(.tmp 9)], false⟩, ⟨some 11, none, .build [.int .i64 0, .slice none 0 0, .slice none 0 0] [(0, 1, (.tmp 4)), (1, 1, (.tmp 7)), (2, 1, (.tmp 10))], true⟩, ⟨none, none, .store false 3 (.tmp 2) (.tmp 11), true⟩]
def cpRb : List Nat := [1, 8, 9, 108, 109, 203, 204, 207, 208, 209, 304, 307, 308, 309, 407, 408, 409, 506, 507, 508, 509, 607, 608, 609, 708, 709, 809]
def cpWr (len : Int) (taps state : List Int) : List (Nat × Nat × C) :=
  [(0, 3, .ptr 1 0), (1, 4, .s (.int .i64 len)), (2, 5, .ptr 1 1), (3, 6, .sl 1 (taps.map cells)), (4, 7, .own 7), (5, 8, .ptr 1 2), (6, 9, .sl 1 (state.map cells)), (7, 10, .own 10), (8, 11, .agg [.s (.int .i64 len), .own 7, .own 10])]
def cpT0 : Slots := [(1, .ptr 1 0), (2, .ptr 2 0)]
theorem cp_draw {cx : Cx} {Q : ASt → Prop} {K : List It} {len : Int} {taps state : List Int} (h1 : taps.length ≤ 1000000) (h2 : state.length ≤ 1000000)
    (hend : SG Try.prog cx Q K ⟨famT (fun _ => true) cpT0 (cpWr len taps state), [(10, .row 1 3 (state.map cells)), (7, .row 1 3 (taps.map cells)), (2, .box [.s (.int .i64 len), .own 7, .own 10]), (1, .box [.s (.int .i64 len), .sl 1 (taps.map cells), .sl 1 (state.map cells)])]⟩) :
    SG Try.prog cx Q (.c (.draw 999 cpRb cpOs) :: K) ⟨cpT0, [(2, .box z3), (1, .box [.s (.int .i64 len), .sl 1 (taps.map cells), .sl 1 (state.map cells)])]⟩ := by
  refine S_fam (cpWr len taps state) (cpCh len taps state) (by simp [dstsNd, cpWr]) rfl (by simp) (fun S j ao hj hSj hp hs => ?_) (fun S hS => ?_)
  · have hs' : ∀ c ∈ cpRb, S (c % 100) = true → S (c / 100) = true := hs
    rcases j with _|_|_|_|_|_|_|_|_|_|j <;> simp only [cpOs, List.getElem?_cons_zero, List.getElem?_cons_succ, Nat.reduceAdd, List.getElem?_nil, reduceCtorEq, Option.some.injEq, Nat.zero_add] at hj
    · subst hj
      have hSj : S 0 = false := hSj
      simp [cpRb] at hp hs'
      have hn : S 8 = false ∧ S 9 = false := by
        simp only [hSj] at hs'
        grind
      refine ⟨⟨True, .ptr 1 0, cpCh len taps state (fun i => i == 0 || S i), []⟩, stepE_op rfl ?_, ⟨by simp [cpWr], by simp [cpWr]⟩, fun w _ _ _ => subC_nil _, fun x => subC_nil _, cpCh_nd _ _ _ _, fun p hp => lk_of_mem (cpCh_nd len taps state (fun i => i == 0 || S i)) hp⟩
      cases h4 : S 4 <;> cases h7 : S 7 <;> simp [opOk, cL, cP, famT, gt_cons, cpWr, cpT0, cpCh, hp, hn, hSj, h4, h7, lk, cO, ay, aO, bw, Value.oneCell', aD, bR, bI, z3, aB] <;> simp_all
    · subst hj
      have hSj : S 1 = false := hSj
      simp [cpRb] at hp hs'
      have hn : S 8 = false ∧ S 9 = false := by
        simp only [hSj] at hs'
        grind
      refine ⟨⟨True, .s (.int .i64 len), cpCh len taps state (fun i => i == 1 || S i), []⟩, stepE_op rfl ?_, ⟨by simp [cpWr], by simp [cpWr]⟩, fun w _ _ _ => subC_nil _, fun x => subC_nil _, cpCh_nd _ _ _ _, fun p hp => lk_of_mem (cpCh_nd len taps state (fun i => i == 1 || S i)) hp⟩
      cases h4 : S 4 <;> cases h7 : S 7 <;> simp [opOk, cL, cP, famT, gt_cons, cpWr, cpT0, cpCh, hp, hn, hSj, h4, h7, lk, cO, ay, aO, bw, Value.oneCell', aD, bR, bI, z3, aB] <;> simp_all
    · subst hj
      have hSj : S 2 = false := hSj
      simp [cpRb] at hp hs'
      have hn : S 8 = false ∧ S 9 = false := by
        simp only [hSj] at hs'
        grind
      refine ⟨⟨True, .ptr 1 1, cpCh len taps state (fun i => i == 2 || S i), []⟩, stepE_op rfl ?_, ⟨by simp [cpWr], by simp [cpWr]⟩, fun w _ _ _ => subC_nil _, fun x => subC_nil _, cpCh_nd _ _ _ _, fun p hp => lk_of_mem (cpCh_nd len taps state (fun i => i == 2 || S i)) hp⟩
      cases h4 : S 4 <;> cases h7 : S 7 <;> simp [opOk, cL, cP, famT, gt_cons, cpWr, cpT0, cpCh, hp, hn, hSj, h4, h7, lk, cO, ay, aO, bw, Value.oneCell', aD, bR, bI, z3, aB] <;> simp_all
    · subst hj
      have hSj : S 3 = false := hSj
      simp [cpRb] at hp hs'
      have hn : S 8 = false ∧ S 9 = false := by
        simp only [hSj] at hs'
        grind
      refine ⟨⟨True, .sl 1 (taps.map cells), cpCh len taps state (fun i => i == 3 || S i), []⟩, stepE_op rfl ?_, ⟨by simp [cpWr], by simp [cpWr]⟩, fun w _ _ _ => subC_nil _, fun x => subC_nil _, cpCh_nd _ _ _ _, fun p hp => lk_of_mem (cpCh_nd len taps state (fun i => i == 3 || S i)) hp⟩
      cases h4 : S 4 <;> cases h7 : S 7 <;> simp [opOk, cL, cP, famT, gt_cons, cpWr, cpT0, cpCh, hp, hn, hSj, h4, h7, lk, cO, ay, aO, bw, Value.oneCell', aD, bR, bI, z3, aB] <;> simp_all
    · subst hj
      have hSj : S 4 = false := hSj
      simp [cpRb] at hp hs'
      have hn : S 8 = false ∧ S 9 = false := by
        simp only [hSj] at hs'
        grind
      refine ⟨⟨True, .own 7, cpCh len taps state (fun i => i == 4 || S i), [(7, .c .any)]⟩, stepE_cal (L := [e25O]) rfl rfl ?_, ⟨by simp [cpWr], by simp [cpWr]⟩, by simp +contextual [cpWr, bZ, bZ.subCs, List.lookup, hn], fun x => ?_, cpCh_nd _ _ _ _, fun p hp => lk_of_mem (cpCh_nd len taps state (fun i => i == 4 || S i)) hp⟩
      · have h7 : S 7 = false := by simp only [hSj] at hs'; grind
        have e1 : cP Try.prog (famT S cpT0 (cpWr len taps state)) (.tmp 6) = .sl 1 (taps.map cells) := by simp [cP, famT, cpWr, cpT0, gt_cons, hp]
        simp only [List.map_cons, List.map_nil, e1]
        simp only [cpCh, hp, hn, h7, hSj]
        simp (maxSteps := 4000000) -implicitDefEqProofs only [calOk, e25O, ownEnt, h1, h2, z3, Ent.of0, Ent.of1, Ent.of2, Ent.of3, V, bS, bA, bB, ca, cL, cP, gt, lk, bR, cq, cg, cb, cF, bZ, bZ.subCs, cQ, a4, bj, b0, aO, bw, a3, aD, bI, a9, az, a8, aW, bX, cT, cZ, an, aH, cD, cc, cn, cV, cU, ay, ak, ce, bt, zC, argS, a7, cI, c6, cR, aj, aC, aI, aV, bP, leC, bT, cm, cp, cM, cG, aX, aP, cK, ap, cd, bm, bm.viewCs, bf, bf.flatCs, ax, ax.LensOks, Value.oneCell', ↓reduceIte, ite_true, ite_false, if_true, if_false, Nat.reduceAdd, Nat.reduceSub, Nat.reduceMul, Nat.reduceEqDiff, Nat.reduceLT, Nat.reduceLeDiff, reduceCtorEq, Int.reduceToNat, forall_const, implies_true, bv, Ent.mk3, bE, bC, be, a6, bL, a5, br, bK, bu, bh, bH, cu, bJ, cS, rn, co, co.renCs, aN, aT, aR, aR.viewOks, aJ, bz, bz.flatBs, aG, aq, aY, au, aA, bo, bo.keysBs, av, ar, bk, bM, bF, bW, af, af.passKs, aM, aU, ae, ae.lendKs, cr, bU, bV, bG, setInn, am, cW, cO, aB, aZ, bY, bN, aK, aw, Glob.gl, aQ, cj, bn, bQ, bD, ah, cC, cN, cz, cY, bO, ai, ai.ptrOnlys, ag, aL, cJ, aF, bp, bg, cH, aE, bq, cB, Nat.reduceBEq, undef]
      · simp only [cpT0, gt_cons]
        repeat' split
        all_goals simp [bZ, gt, lk, List.lookup]
    · subst hj
      have hSj : S 5 = false := hSj
      simp [cpRb] at hp hs'
      have hn : S 8 = false ∧ S 9 = false := by
        simp only [hSj] at hs'
        grind
      refine ⟨⟨True, .ptr 1 2, cpCh len taps state (fun i => i == 5 || S i), []⟩, stepE_op rfl ?_, ⟨by simp [cpWr], by simp [cpWr]⟩, fun w _ _ _ => subC_nil _, fun x => subC_nil _, cpCh_nd _ _ _ _, fun p hp => lk_of_mem (cpCh_nd len taps state (fun i => i == 5 || S i)) hp⟩
      cases h4 : S 4 <;> cases h7 : S 7 <;> simp [opOk, cL, cP, famT, gt_cons, cpWr, cpT0, cpCh, hp, hn, hSj, h4, h7, lk, cO, ay, aO, bw, Value.oneCell', aD, bR, bI, z3, aB] <;> simp_all
    · subst hj
      have hSj : S 6 = false := hSj
      simp [cpRb] at hp hs'
      have hn : S 8 = false ∧ S 9 = false := by
        simp only [hSj] at hs'
        grind
      refine ⟨⟨True, .sl 1 (state.map cells), cpCh len taps state (fun i => i == 6 || S i), []⟩, stepE_op rfl ?_, ⟨by simp [cpWr], by simp [cpWr]⟩, fun w _ _ _ => subC_nil _, fun x => subC_nil _, cpCh_nd _ _ _ _, fun p hp => lk_of_mem (cpCh_nd len taps state (fun i => i == 6 || S i)) hp⟩
      cases h4 : S 4 <;> cases h7 : S 7 <;> simp [opOk, cL, cP, famT, gt_cons, cpWr, cpT0, cpCh, hp, hn, hSj, h4, h7, lk, cO, ay, aO, bw, Value.oneCell', aD, bR, bI, z3, aB] <;> simp_all
    · subst hj
      have hSj : S 7 = false := hSj
      simp [cpRb] at hp hs'
      have hn : S 8 = false ∧ S 9 = false := by
        simp only [hSj] at hs'
        grind
      refine ⟨⟨True, .own 10, cpCh len taps state (fun i => i == 7 || S i), [(10, .c .any)]⟩, stepE_cal (L := [e25O]) rfl rfl ?_, ⟨by simp [cpWr], by simp [cpWr]⟩, by simp +contextual [cpWr, bZ, bZ.subCs, List.lookup, hn], fun x => ?_, cpCh_nd _ _ _ _, fun p hp => lk_of_mem (cpCh_nd len taps state (fun i => i == 7 || S i)) hp⟩
      · have h7 : S 7 = false := by exact hSj
        have e1 : cP Try.prog (famT S cpT0 (cpWr len taps state)) (.tmp 9) = .sl 1 (state.map cells) := by simp [cP, famT, cpWr, cpT0, gt_cons, hp]
        simp only [List.map_cons, List.map_nil, e1]
        simp only [cpCh, hp, hn, h7, hSj]
        simp (maxSteps := 4000000) -implicitDefEqProofs only [calOk, e25O, ownEnt, h1, h2, z3, Ent.of0, Ent.of1, Ent.of2, Ent.of3, V, bS, bA, bB, ca, cL, cP, gt, lk, bR, cq, cg, cb, cF, bZ, bZ.subCs, cQ, a4, bj, b0, aO, bw, a3, aD, bI, a9, az, a8, aW, bX, cT, cZ, an, aH, cD, cc, cn, cV, cU, ay, ak, ce, bt, zC, argS, a7, cI, c6, cR, aj, aC, aI, aV, bP, leC, bT, cm, cp, cM, cG, aX, aP, cK, ap, cd, bm, bm.viewCs, bf, bf.flatCs, ax, ax.LensOks, Value.oneCell', ↓reduceIte, ite_true, ite_false, if_true, if_false, Nat.reduceAdd, Nat.reduceSub, Nat.reduceMul, Nat.reduceEqDiff, Nat.reduceLT, Nat.reduceLeDiff, reduceCtorEq, Int.reduceToNat, forall_const, implies_true, bv, Ent.mk3, bE, bC, be, a6, bL, a5, br, bK, bu, bh, bH, cu, bJ, cS, rn, co, co.renCs, aN, aT, aR, aR.viewOks, aJ, bz, bz.flatBs, aG, aq, aY, au, aA, bo, bo.keysBs, av, ar, bk, bM, bF, bW, af, af.passKs, aM, aU, ae, ae.lendKs, cr, bU, bV, bG, setInn, am, cW, cO, aB, aZ, bY, bN, aK, aw, Glob.gl, aQ, cj, bn, bQ, bD, ah, cC, cN, cz, cY, bO, ai, ai.ptrOnlys, ag, aL, cJ, aF, bp, bg, cH, aE, bq, cB, Nat.reduceBEq, undef]
      · simp only [cpT0, gt_cons]
        repeat' split
        all_goals simp [bZ, gt, lk, List.lookup]
    · subst hj
      have hSj : S 8 = false := hSj
      simp [cpRb] at hp hs'
      have hn : S 9 = false := by
        simp only [hSj] at hs'
        grind
      refine ⟨⟨True, .agg [.s (.int .i64 len), .own 7, .own 10], cpCh len taps state (fun i => i == 8 || S i), []⟩, stepE_op rfl ?_, ⟨by simp [cpWr], by simp [cpWr]⟩, fun w _ _ _ => subC_nil _, fun x => subC_nil _, cpCh_nd _ _ _ _, fun p hp => lk_of_mem (cpCh_nd len taps state (fun i => i == 8 || S i)) hp⟩
      cases h4 : S 4 <;> cases h7 : S 7 <;> simp [opOk, cL, cP, famT, gt_cons, cpWr, cpT0, cpCh, hp, hn, hSj, h4, h7, lk, cO, ay, aO, bw, Value.oneCell', aD, bR, bI, z3, aB] <;> simp_all
    · subst hj
      have hSj : S 9 = false := hSj
      simp [cpRb] at hp hs'
      have hn : S 9 = false := by
        simp only [hSj] at hs'
        grind
      refine ⟨⟨True, .s undef, cpCh len taps state (fun i => i == 9 || S i), []⟩, stepE_op rfl ?_, by simp [cpWr], fun w _ _ _ => subC_nil _, fun x => subC_nil _, cpCh_nd _ _ _ _, fun p hp => lk_of_mem (cpCh_nd len taps state (fun i => i == 9 || S i)) hp⟩
      cases h4 : S 4 <;> cases h7 : S 7 <;> simp [opOk, cL, cP, famT, gt_cons, cpWr, cpT0, cpCh, hp, hn, hSj, h4, h7, lk, cO, ay, aO, bw, Value.oneCell', aD, bR, bI, z3, aB] <;> simp_all
  · have e : famT S cpT0 (cpWr len taps state) = famT (fun _ => true) cpT0 (cpWr len taps state) := by
      simp [famT, cpWr, hS, cpOs]
    have e2 : cpCh len taps state S = [(10, .row 1 3 (state.map cells)), (7, .row 1 3 (taps.map cells)), (2, .box [.s (.int .i64 len), .own 7, .own 10]), (1, .box [.s (.int .i64 len), .sl 1 (taps.map cells), .sl 1 (state.map cells)])] := by
      simp [cpCh, hS, cpOs]
    rw [e2]
    exact e ▸ hend
theorem CopyRegO_c (r : Reg) (h1 : r.taps.length ≤ 1000000) (h2 : r.state.length ≤ 1000000) : FC Try.prog 43 [enc r] [] (.agg [.s (.int .i64 r.length), .sl 1 (r.taps.map cells), .own 10]) [(10, .row 1 3 (r.state.map cells))] := by
  obtain ⟨len, taps, state⟩ := r
  simp only at h1 h2
  refine fc_introC [10] D.is43 (by simp) trivial trivial (by simp [aX, aP, b0]) trivial (fun cx _ hl _ => S_run [e25O] 800 ?_)
  delta D.c43
  simp (maxSteps := 4000000) -implicitDefEqProofs only [D.rv43, enc_reg, Ent.of0, Ent.of1, Ent.of2, Ent.of3, V, bS, bA, bB, ca, cL, cP, gt, lk, bR, cq, cg, cb, cF, bZ, bZ.subCs, cQ, a4, bj, b0, aO, bw, a3, aD, bI, a9, az, a8, aW, bX, cT, cZ, an, aH, cD, cc, cn, cV, cU, ay, ak, ce, bt, zC, argS, a7, cI, c6, cR, aj, aC, aI, aV, bP, leC, bT, cm, cp, cM, cG, aX, aP, cK, ap, cd, bm, bm.viewCs, bf, bf.flatCs, ax, ax.LensOks, Value.oneCell', ↓reduceIte, ite_true, ite_false, if_true, if_false, Nat.reduceAdd, Nat.reduceSub, Nat.reduceMul, Nat.reduceEqDiff, Nat.reduceLT, Nat.reduceLeDiff, reduceCtorEq, Int.reduceToNat, forall_const, implies_true, bv, Ent.mk3, bE, bC, be, a6, bL, a5, br, bK, bu, bh, bH, cu, bJ, cS, rn, co, co.renCs, aN, aT, aR, aR.viewOks, aJ, bz, bz.flatBs, aG, aq, aY, au, aA, bo, bo.keysBs, av, ar, bk, bM, bF, bW, af, af.passKs, aM, aU, ae, ae.lendKs, cr, bU, bV, bG, setInn, am, cW, cO, aB, aZ, bY, bN, aK, aw, Glob.gl, aQ, cj, bn, bQ, bD, ah, cC, cN, cz, cY, bO, ai, ai.ptrOnlys, ag, aL, cJ, aF, bp, bg, cH, aE, bq, cB, Nat.reduceBEq, undef]
  refine cp_draw h1 h2 ?_
  simp only [famT, cpWr, cpT0, if_true]
  refine S_run [] 800 ?_
  simp (maxSteps := 4000000) -implicitDefEqProofs only [D.rv43, Ent.of0, Ent.of1, Ent.of2, Ent.of3, V, bS, bA, bB, ca, cL, cP, gt, lk, bR, cq, cg, cb, cF, bZ, bZ.subCs, cQ, a4, bj, b0, aO, bw, a3, aD, bI, a9, az, a8, aW, bX, cT, cZ, an, aH, cD, cc, cn, cV, cU, ay, ak, ce, bt, zC, argS, a7, cI, c6, cR, aj, aC, aI, aV, bP, leC, bT, cm, cp, cM, cG, aX, aP, cK, ap, cd, bm, bm.viewCs, bf, bf.flatCs, ax, ax.LensOks, Value.oneCell', ↓reduceIte, ite_true, ite_false, if_true, if_false, Nat.reduceAdd, Nat.reduceSub, Nat.reduceMul, Nat.reduceEqDiff, Nat.reduceLT, Nat.reduceLeDiff, reduceCtorEq, Int.reduceToNat, forall_const, implies_true, bv, Ent.mk3, bE, bC, be, a6, bL, a5, br, bK, bu, bh, bH, cu, bJ, cS, rn, co, co.renCs, aN, aT, aR, aR.viewOks, aJ, bz, bz.flatBs, aG, aq, aY, au, aA, bo, bo.keysBs, av, ar, bk, bM, bF, bW, af, af.passKs, aM, aU, ae, ae.lendKs, cr, bU, bV, bG, setInn, am, cW, cO, aB, aZ, bY, bN, aK, aw, Glob.gl, aQ, cj, bn, bQ, bD, ah, cC, cN, cz, cY, bO, ai, ai.ptrOnlys, ag, aL, cJ, aF, bp, bg, cH, aE, bq, cB, Nat.reduceBEq, undef]
  trace_state
end Go.Proofs.Ytfgpbmjmoobcnaa
end
section
open Go Go.Am
open Go.Am.Dat (cells)
namespace Go.Proofs.Ytfgpbmjmoobcnaa
set_option maxHeartbeats 4000000
set_option maxRecDepth 100000
set_option linter.unusedSimpArgs false
set_option linter.unusedVariables false
def e43O : Ent Try.prog := .mk3 43 (fun args chs => match args, chs with
    | [.agg [.s (.int .i64 n), .sl 1 t, .sl 1 s]], [] => (decL t : Option (List Int)).bind fun t' => (decL s : Option (List Int)).bind fun s' => some (t'.length ≤ 1000000 ∧ s'.length ≤ 1000000, .agg [.s (.int .i64 n), .sl 1 (t'.map cells), .own 10], [(10, .row 1 3 (s'.map cells))], [10])
    | _, _ => none) (by
  intro args chs p r chs' nk hs hp
  split at hs
  · simp only [Option.bind_eq_some_iff, Option.some.injEq, Prod.mk.injEq] at hs
    obtain ⟨t', ht, s', hs', rfl, rfl, rfl, rfl⟩ := hs
    have := decL_ok ht
    subst this
    have := decL_ok hs'
    subst this
    rename_i n
    refine ⟨CopyRegO_c ⟨n, t', s'⟩ hp.1 hp.2, ⟨fun k c h => .inl ?_, fun k cs h => by simp at h, ⟨trivial, trivial, List.mem_singleton.2 rfl, trivial⟩, fun k c h => ?_⟩⟩
    · simp only [List.mem_singleton, Prod.mk.injEq] at h; rw [h.1]; exact List.mem_singleton.2 rfl
    · simp only [List.mem_singleton, Prod.mk.injEq] at h; rw [h.2]; trivial
  · cases hs)
def sumT (s ts : List Int) : Nat → Int
  | 0 => 0
  | i + 1 => sumT s ts i + s.getD (ts.getD i 0).toNat 0
def nextR (r : Reg) : Reg := ⟨r.length, r.taps, r.state.drop 1 ++ [sumT r.state r.taps r.taps.length % 2]⟩
theorem sumT_bd {s : List Int} (hs : ∀ b ∈ s, b = 0 ∨ b = 1) (ts : List Int) : ∀ i, 0 ≤ sumT s ts i ∧ sumT s ts i ≤ i
  | 0 => by simp [sumT]
  | i + 1 => by
    have h := sumT_bd hs ts i
    have hb := bits_getD hs (ts.getD i 0).toNat
    simp only [sumT]
    omega
theorem inc_len : ∀ (l : List Int) (lo hi : Int), l.Pairwise (· < ·) → (∀ t ∈ l, lo ≤ t ∧ t ≤ hi) → lo ≤ hi + 1 → (l.length : Int) ≤ hi + 1 - lo
  | [], lo, hi, _, _, h => by simp; omega
  | t :: l, lo, hi, hp, h, _ => by
    have h1 := List.pairwise_cons.1 hp
    have ht := h t List.mem_cons_self
    have := inc_len l (t + 1) hi h1.2 (fun x hx => ⟨by have := h1.1 x hx; omega, (h x (List.mem_cons_of_mem _ hx)).2⟩) (by omega)
    simp only [List.length_cons]
    omega
theorem RegOk.tl {r : Reg} (h : RegOk r) : r.taps.length ≤ 10 := by
  have := inc_len r.taps 0 9 h.inc (fun t ht => by have := h.taps t ht; have := h.len; omega) (by omega)
  omega
theorem RNext_c (r : Reg) (hr : RegOk r) : FC Try.prog 75 [enc r] [] (.tup [enc (r.state.getD 0 0), enc (nextR r)]) [] := by
  have htl := hr.tl
  have htaps := hr.taps
  have hbits := hr.bits
  have hlen0 := hr.len
  have hst := hr.stl
  obtain ⟨len, taps, state⟩ := r
  simp only at htaps hbits hlen0 hst htl
  refine fc_intro' is75 (by simp) (fun cx hl => S_run [e43O] 800 ?_)
  have hl1 : state.length ≤ 1000000 := by omega
  have hl2 : taps.length ≤ 1000000 := by omega
  delta c75
  simp (maxSteps := 4000000) -implicitDefEqProofs only [rv75, enc_reg, Ent.of0, Ent.of1, Ent.of2, Ent.of3, V, bS, bA, bB, ca, cL, cP, gt, lk, bR, cq, cg, cb, cF, bZ, bZ.subCs, cQ, a4, bj, b0, aO, bw, a3, aD, bI, a9, az, a8, aW, bX, cT, cZ, an, aH, cD, cc, cn, cV, cU, ay, ak, ce, bt, zC, argS, a7, cI, c6, cR, aj, aC, aI, aV, bP, leC, bT, cm, cp, cM, cG, aX, aP, cK, ap, cd, bm, bm.viewCs, bf, bf.flatCs, ax, ax.LensOks, Value.oneCell', ↓reduceIte, ite_true, ite_false, if_true, if_false, Nat.reduceAdd, Nat.reduceSub, Nat.reduceMul, Nat.reduceEqDiff, Nat.reduceLT, Nat.reduceLeDiff, reduceCtorEq, Int.reduceToNat, forall_const, implies_true, bv, Ent.mk3, bE, bC, be, a6, bL, a5, br, bK, bu, bh, bH, cu, bJ, cS, rn, co, co.renCs, aN, aT, aR, aR.viewOks, aJ, bz, bz.flatBs, aG, aq, aY, au, aA, bo, bo.keysBs, av, ar, bk, bM, bF, bW, af, af.passKs, aM, aU, ae, ae.lendKs, cr, bU, bV, bG, setInn, am, cW, cO, aB, aZ, bY, bN, aK, aw, Glob.gl, aQ, cj, bn, bQ, bD, ah, cC, cN, cz, cY, bO, ai, ai.ptrOnlys, ag, aL, cJ, aF, bp, bg, cH, aE, bq, cB, Nat.reduceBEq, undef]
  refine S_forU taps.length (fun i => [(4, .s (.int .i64 (sumT state taps i))), (5, .s (.int .i64 (i : Int)))]) (fun i => []) (fun i => True) trivial ?_ (fun i hi _ => S_run [e43O] 800 ?_)
  · simp (maxSteps := 4000000) -implicitDefEqProofs only [sumT, Ent.of0, Ent.of1, Ent.of2, Ent.of3, V, bS, bA, bB, ca, cL, cP, gt, lk, bR, cq, cg, cb, cF, bZ, bZ.subCs, cQ, a4, bj, b0, aO, bw, a3, aD, bI, a9, az, a8, aW, bX, cT, cZ, an, aH, cD, cc, cn, cV, cU, ay, ak, ce, bt, zC, argS, a7, cI, c6, cR, aj, aC, aI, aV, bP, leC, bT, cm, cp, cM, cG, aX, aP, cK, ap, cd, bm, bm.viewCs, bf, bf.flatCs, ax, ax.LensOks, Value.oneCell', ↓reduceIte, ite_true, ite_false, if_true, if_false, Nat.reduceAdd, Nat.reduceSub, Nat.reduceMul, Nat.reduceEqDiff, Nat.reduceLT, Nat.reduceLeDiff, reduceCtorEq, Int.reduceToNat, forall_const, implies_true, bv, Ent.mk3, bE, bC, be, a6, bL, a5, br, bK, bu, bh, bH, cu, bJ, cS, rn, co, co.renCs, aN, aT, aR, aR.viewOks, aJ, bz, bz.flatBs, aG, aq, aY, au, aA, bo, bo.keysBs, av, ar, bk, bM, bF, bW, af, af.passKs, aM, aU, ae, ae.lendKs, cr, bU, bV, bG, setInn, am, cW, cO, aB, aZ, bY, bN, aK, aw, Glob.gl, aQ, cj, bn, bQ, bD, ah, cC, cN, cz, cY, bO, ai, ai.ptrOnlys, ag, aL, cJ, aF, bp, bg, cH, aE, bq, cB, Nat.reduceBEq, undef]; simp
  · have hsb := sumT_bd hbits taps i
    by_cases h : i < taps.length
    · have hi2 : ((i : Int) < (taps.length : Int)) := by omega
      have htm : taps.getD i 0 ∈ taps := by rw [List.getD_eq_getElem?_getD, List.getElem?_eq_getElem h]; exact List.getElem_mem _
      have ht := htaps _ htm
      have hb := bits_getD hbits (taps.getD i 0).toNat
      delta c75l1
      simp (maxSteps := 4000000) -implicitDefEqProofs only [rv75, hi2, h, sumT, InR, Ent.of0, Ent.of1, Ent.of2, Ent.of3, V, bS, bA, bB, ca, cL, cP, gt, lk, bR, cq, cg, cb, cF, bZ, bZ.subCs, cQ, a4, bj, b0, aO, bw, a3, aD, bI, a9, az, a8, aW, bX, cT, cZ, an, aH, cD, cc, cn, cV, cU, ay, ak, ce, bt, zC, argS, a7, cI, c6, cR, aj, aC, aI, aV, bP, leC, bT, cm, cp, cM, cG, aX, aP, cK, ap, cd, bm, bm.viewCs, bf, bf.flatCs, ax, ax.LensOks, Value.oneCell', ↓reduceIte, ite_true, ite_false, if_true, if_false, Nat.reduceAdd, Nat.reduceSub, Nat.reduceMul, Nat.reduceEqDiff, Nat.reduceLT, Nat.reduceLeDiff, reduceCtorEq, Int.reduceToNat, forall_const, implies_true, bv, Ent.mk3, bE, bC, be, a6, bL, a5, br, bK, bu, bh, bH, cu, bJ, cS, rn, co, co.renCs, aN, aT, aR, aR.viewOks, aJ, bz, bz.flatBs, aG, aq, aY, au, aA, bo, bo.keysBs, av, ar, bk, bM, bF, bW, af, af.passKs, aM, aU, ae, ae.lendKs, cr, bU, bV, bG, setInn, am, cW, cO, aB, aZ, bY, bN, aK, aw, Glob.gl, aQ, cj, bn, bQ, bD, ah, cC, cN, cz, cY, bO, ai, ai.ptrOnlys, ag, aL, cJ, aF, bp, bg, cH, aE, bq, cB, Nat.reduceBEq, undef]
      omega
    · have hi2 : ¬ ((i : Int) < (taps.length : Int)) := by omega
      have hie : i = taps.length := by omega
      subst hie
      delta c75l1
      simp (maxSteps := 4000000) -implicitDefEqProofs only [rv75, hi2, e43O, hl1, hl2, InR, Ent.of0, Ent.of1, Ent.of2, Ent.of3, V, bS, bA, bB, ca, cL, cP, gt, lk, bR, cq, cg, cb, cF, bZ, bZ.subCs, cQ, a4, bj, b0, aO, bw, a3, aD, bI, a9, az, a8, aW, bX, cT, cZ, an, aH, cD, cc, cn, cV, cU, ay, ak, ce, bt, zC, argS, a7, cI, c6, cR, aj, aC, aI, aV, bP, leC, bT, cm, cp, cM, cG, aX, aP, cK, ap, cd, bm, bm.viewCs, bf, bf.flatCs, ax, ax.LensOks, Value.oneCell', ↓reduceIte, ite_true, ite_false, if_true, if_false, Nat.reduceAdd, Nat.reduceSub, Nat.reduceMul, Nat.reduceEqDiff, Nat.reduceLT, Nat.reduceLeDiff, reduceCtorEq, Int.reduceToNat, forall_const, implies_true, bv, Ent.mk3, bE, bC, be, a6, bL, a5, br, bK, bu, bh, bH, cu, bJ, cS, rn, co, co.renCs, aN, aT, aR, aR.viewOks, aJ, bz, bz.flatBs, aG, aq, aY, au, aA, bo, bo.keysBs, av, ar, bk, bM, bF, bW, af, af.passKs, aM, aU, ae, ae.lendKs, cr, bU, bV, bG, setInn, am, cW, cO, aB, aZ, bY, bN, aK, aw, Glob.gl, aQ, cj, bn, bQ, bD, ah, cC, cN, cz, cY, bO, ai, ai.ptrOnlys, ag, aL, cJ, aF, bp, bg, cH, aE, bq, cB, Nat.reduceBEq, undef]
      have hm2 : (sumT state taps taps.length).tmod 2 = sumT state taps taps.length % 2 := Int.tmod_eq_emod_of_nonneg (by omega)
      have htk : List.take state.length (List.map cells state) = List.map cells state := List.take_of_length_le (by simp)
      have hdl : (List.drop 1 (List.map cells state)).length = state.length - 1 := by simp
      rw [htk, hm2, hdl]
      refine ⟨by omega, by decide, by omega, by omega, ?_⟩
      simp only [nextR, List.map_append, List.map_drop, List.map_cons, List.map_nil, cells_int]
def e75 : Ent Try.prog := .of1 75 RegOk (fun r : Reg => .tup [enc (r.state.getD 0 0), enc (nextR r)]) (fun _ => ⟨trivial, ⟨trivial, trivial, trivial, trivial⟩, trivial⟩) (fun r h => RNext_c r h)
theorem sumT_mod (s ts : List Int) (n : Nat) : sumT s ts n % 2 = 0 ∨ sumT s ts n % 2 = 1 := by omega
theorem nextR_ok {r : Reg} (h : RegOk r) : RegOk (nextR r) := by
  have hl := h.len
  have hs := h.stl
  refine ⟨h.len, h.ne, h.taps, h.inc, h.zero, ?_, fun b hb => ?_⟩
  · show ((r.state.drop 1 ++ [sumT r.state r.taps r.taps.length % 2]).length : Int) = r.length
    rw [List.length_append, List.length_drop, List.length_singleton]
    omega
  · simp only [nextR, List.mem_append, List.mem_singleton] at hb
    rcases hb with hb | rfl
    · exact h.bits b (List.mem_of_mem_drop hb)
    · exact sumT_mod _ _ _
def runR (r : Reg) : Nat → Reg
  | 0 => r
  | i + 1 => nextR (runR r i)
theorem runR_ok {r : Reg} (h : RegOk r) : ∀ i, RegOk (runR r i)
  | 0 => h
  | i + 1 => nextR_ok (runR_ok h i)
def seqR (r : Reg) (n : Nat) : List Int := (List.range n).map fun i => (runR r i).state.getD 0 0
theorem seqR_succ (r : Reg) (n : Nat) : seqR r (n + 1) = seqR r n ++ [(runR r n).state.getD 0 0] := by simp [seqR, List.range_succ]
theorem seqR_length (r : Reg) (n : Nat) : (seqR r n).length = n := by simp [seqR]
end Go.Proofs.Ytfgpbmjmoobcnaa
end
section
open Go Go.Am
open Go.Am.Dat (cells)
namespace Go.Proofs.Ytfgpbmjmoobcnaa
set_option maxHeartbeats 4000000
set_option maxRecDepth 100000
set_option linter.unusedSimpArgs false
set_option linter.unusedVariables false
theorem RSequence_c (r : Reg) (hr : RegOk r) (n : Nat) (hn : n ≤ 1000000) : FC Try.prog 76 [enc r, enc (n : Int)] [] (.own 5) [(5, .row 1 3 ((seqR r n).map cells))] := by
  refine fc_introC [5] D.is76 (by simp) trivial trivial (by simp [aX, aP, b0]) trivial (fun cx _ hl _ => S_run [e75] 800 ?_)
  delta D.c76
  simp (maxSteps := 4000000) -implicitDefEqProofs only [D.rv76, enc_reg, Ent.of0, Ent.of1, Ent.of2, Ent.of3, V, bS, bA, bB, ca, cL, cP, gt, lk, bR, cq, cg, cb, cF, bZ, bZ.subCs, cQ, a4, bj, b0, aO, bw, a3, aD, bI, a9, az, a8, aW, bX, cT, cZ, an, aH, cD, cc, cn, cV, cU, ay, ak, ce, bt, zC, argS, a7, cI, c6, cR, aj, aC, aI, aV, bP, leC, bT, cm, cp, cM, cG, aX, aP, cK, ap, cd, bm, bm.viewCs, bf, bf.flatCs, ax, ax.LensOks, Value.oneCell', ↓reduceIte, ite_true, ite_false, if_true, if_false, Nat.reduceAdd, Nat.reduceSub, Nat.reduceMul, Nat.reduceEqDiff, Nat.reduceLT, Nat.reduceLeDiff, reduceCtorEq, Int.reduceToNat, forall_const, implies_true, bv, Ent.mk3, bE, bC, be, a6, bL, a5, br, bK, bu, bh, bH, cu, bJ, cS, rn, co, co.renCs, aN, aT, aR, aR.viewOks, aJ, bz, bz.flatBs, aG, aq, aY, au, aA, bo, bo.keysBs, av, ar, bk, bM, bF, bW, af, af.passKs, aM, aU, ae, ae.lendKs, cr, bU, bV, bG, setInn, am, cW, cO, aB, aZ, bY, bN, aK, aw, Glob.gl, aQ, cj, bn, bQ, bD, ah, cC, cN, cz, cY, bO, ai, ai.ptrOnlys, ag, aL, cJ, aF, bp, bg, cH, aE, bq, cB, Nat.reduceBEq, undef]
  have hrl : ∀ i, (seqR r i).length = i := seqR_length r
  refine S_forU n (fun i => [(6, .s (.int .i64 (i : Int)))]) (fun i => [(5, .row 1 3 ((seqR r i).map cells)), (2, .box [.s (.int .i64 (runR r i).length), .sl 1 ((runR r i).taps.map cells), .sl 1 ((runR r i).state.map cells)])]) (fun i => True) trivial ?_ (fun i hi _ => S_run [e75] 800 ?_)
  · simp (maxSteps := 4000000) -implicitDefEqProofs only [seqR, runR, Ent.of0, Ent.of1, Ent.of2, Ent.of3, V, bS, bA, bB, ca, cL, cP, gt, lk, bR, cq, cg, cb, cF, bZ, bZ.subCs, cQ, a4, bj, b0, aO, bw, a3, aD, bI, a9, az, a8, aW, bX, cT, cZ, an, aH, cD, cc, cn, cV, cU, ay, ak, ce, bt, zC, argS, a7, cI, c6, cR, aj, aC, aI, aV, bP, leC, bT, cm, cp, cM, cG, aX, aP, cK, ap, cd, bm, bm.viewCs, bf, bf.flatCs, ax, ax.LensOks, Value.oneCell', ↓reduceIte, ite_true, ite_false, if_true, if_false, Nat.reduceAdd, Nat.reduceSub, Nat.reduceMul, Nat.reduceEqDiff, Nat.reduceLT, Nat.reduceLeDiff, reduceCtorEq, Int.reduceToNat, forall_const, implies_true, bv, Ent.mk3, bE, bC, be, a6, bL, a5, br, bK, bu, bh, bH, cu, bJ, cS, rn, co, co.renCs, aN, aT, aR, aR.viewOks, aJ, bz, bz.flatBs, aG, aq, aY, au, aA, bo, bo.keysBs, av, ar, bk, bM, bF, bW, af, af.passKs, aM, aU, ae, ae.lendKs, cr, bU, bV, bG, setInn, am, cW, cO, aB, aZ, bY, bN, aK, aw, Glob.gl, aQ, cj, bn, bQ, bD, ah, cC, cN, cz, cY, bO, ai, ai.ptrOnlys, ag, aL, cJ, aF, bp, bg, cH, aE, bq, cB, Nat.reduceBEq, undef]; simp
  · have hok := runR_ok hr i
    have hli := hrl i
    by_cases h : i < n
    · have hi2 : ((i : Int) < (n : Int)) := by omega
      have hsu : (seqR r i).map cells ++ [[C.s (.int .i64 ((runR r i).state.getD 0 0))]] = (seqR r (i + 1)).map cells := by rw [seqR_succ, List.map_append]; rfl
      cases hG : runR r i with
      | mk qa qb qc =>
      rw [hG] at hok hsu
      have hnx : runR r (i + 1) = nextR ⟨qa, qb, qc⟩ := by rw [← hG]; rfl
      simp only at hsu
      delta D.c76l1
      simp (maxSteps := 4000000) -implicitDefEqProofs only [D.rv76, hi2, hG, e75, hok, enc_reg, decV_reg, InR, Int.cast_ofNat_Int, Int.natCast_one, Int.natCast_zero, Int.reduceAdd, Int.reduceSub, Int.reduceMul, Int.reduceLT, Int.reduceLE, Int.reduceTMod, Int.reduceTDiv, Int.reduceNeg, Int.reduceEq, Nat.reducePow, Int.reducePow, ne_eq, not_false_eq_true, Ent.of0, Ent.of1, Ent.of2, Ent.of3, V, bS, bA, bB, ca, cL, cP, gt, lk, bR, cq, cg, cb, cF, bZ, bZ.subCs, cQ, a4, bj, b0, aO, bw, a3, aD, bI, a9, az, a8, aW, bX, cT, cZ, an, aH, cD, cc, cn, cV, cU, ay, ak, ce, bt, zC, argS, a7, cI, c6, cR, aj, aC, aI, aV, bP, leC, bT, cm, cp, cM, cG, aX, aP, cK, ap, cd, bm, bm.viewCs, bf, bf.flatCs, ax, ax.LensOks, Value.oneCell', ↓reduceIte, ite_true, ite_false, if_true, if_false, Nat.reduceAdd, Nat.reduceSub, Nat.reduceMul, Nat.reduceEqDiff, Nat.reduceLT, Nat.reduceLeDiff, reduceCtorEq, Int.reduceToNat, forall_const, implies_true, bv, Ent.mk3, bE, bC, be, a6, bL, a5, br, bK, bu, bh, bH, cu, bJ, cS, rn, co, co.renCs, aN, aT, aR, aR.viewOks, aJ, bz, bz.flatBs, aG, aq, aY, au, aA, bo, bo.keysBs, av, ar, bk, bM, bF, bW, af, af.passKs, aM, aU, ae, ae.lendKs, cr, bU, bV, bG, setInn, am, cW, cO, aB, aZ, bY, bN, aK, aw, Glob.gl, aQ, cj, bn, bQ, bD, ah, cC, cN, cz, cY, bO, ai, ai.ptrOnlys, ag, aL, cJ, aF, bp, bg, cH, aE, bq, cB, Nat.reduceBEq, undef]
      refine S_draw [] 200 ?_
      simp (maxSteps := 4000000) -implicitDefEqProofs only [drS, robL, robC, reC, fixS, opSlots, AOp.reads, true_or, or_true, false_or, hli, InR, Int.cast_ofNat_Int, Int.natCast_one, Int.natCast_zero, Int.reduceAdd, Int.reduceSub, Int.reduceMul, Int.reduceLT, Int.reduceLE, Int.reduceTMod, Int.reduceTDiv, Int.reduceNeg, Int.reduceEq, Nat.reducePow, Int.reducePow, ne_eq, not_false_eq_true, Ent.of0, Ent.of1, Ent.of2, Ent.of3, V, bS, bA, bB, ca, cL, cP, gt, lk, bR, cq, cg, cb, cF, bZ, bZ.subCs, cQ, a4, bj, b0, aO, bw, a3, aD, bI, a9, az, a8, aW, bX, cT, cZ, an, aH, cD, cc, cn, cV, cU, ay, ak, ce, bt, zC, argS, a7, cI, c6, cR, aj, aC, aI, aV, bP, leC, bT, cm, cp, cM, cG, aX, aP, cK, ap, cd, bm, bm.viewCs, bf, bf.flatCs, ax, ax.LensOks, Value.oneCell', ↓reduceIte, ite_true, ite_false, if_true, if_false, Nat.reduceAdd, Nat.reduceSub, Nat.reduceMul, Nat.reduceEqDiff, Nat.reduceLT, Nat.reduceLeDiff, reduceCtorEq, Int.reduceToNat, forall_const, implies_true, bv, Ent.mk3, bE, bC, be, a6, bL, a5, br, bK, bu, bh, bH, cu, bJ, cS, rn, co, co.renCs, aN, aT, aR, aR.viewOks, aJ, bz, bz.flatBs, aG, aq, aY, au, aA, bo, bo.keysBs, av, ar, bk, bM, bF, bW, af, af.passKs, aM, aU, ae, ae.lendKs, cr, bU, bV, bG, setInn, am, cW, cO, aB, aZ, bY, bN, aK, aw, Glob.gl, aQ, cj, bn, bQ, bD, ah, cC, cN, cz, cY, bO, ai, ai.ptrOnlys, ag, aL, cJ, aF, bp, bg, cH, aE, bq, cB, Nat.reduceBEq, undef]
      refine ⟨by omega, S_run [] 400 ?_⟩
      simp (maxSteps := 4000000) -implicitDefEqProofs only [hnx, hsu, InR, Int.cast_ofNat_Int, Int.natCast_one, Int.natCast_zero, Int.reduceAdd, Int.reduceSub, Int.reduceMul, Int.reduceLT, Int.reduceLE, Int.reduceTMod, Int.reduceTDiv, Int.reduceNeg, Int.reduceEq, Nat.reducePow, Int.reducePow, ne_eq, not_false_eq_true, Ent.of0, Ent.of1, Ent.of2, Ent.of3, V, bS, bA, bB, ca, cL, cP, gt, lk, bR, cq, cg, cb, cF, bZ, bZ.subCs, cQ, a4, bj, b0, aO, bw, a3, aD, bI, a9, az, a8, aW, bX, cT, cZ, an, aH, cD, cc, cn, cV, cU, ay, ak, ce, bt, zC, argS, a7, cI, c6, cR, aj, aC, aI, aV, bP, leC, bT, cm, cp, cM, cG, aX, aP, cK, ap, cd, bm, bm.viewCs, bf, bf.flatCs, ax, ax.LensOks, Value.oneCell', ↓reduceIte, ite_true, ite_false, if_true, if_false, Nat.reduceAdd, Nat.reduceSub, Nat.reduceMul, Nat.reduceEqDiff, Nat.reduceLT, Nat.reduceLeDiff, reduceCtorEq, Int.reduceToNat, forall_const, implies_true, bv, Ent.mk3, bE, bC, be, a6, bL, a5, br, bK, bu, bh, bH, cu, bJ, cS, rn, co, co.renCs, aN, aT, aR, aR.viewOks, aJ, bz, bz.flatBs, aG, aq, aY, au, aA, bo, bo.keysBs, av, ar, bk, bM, bF, bW, af, af.passKs, aM, aU, ae, ae.lendKs, cr, bU, bV, bG, setInn, am, cW, cO, aB, aZ, bY, bN, aK, aw, Glob.gl, aQ, cj, bn, bQ, bD, ah, cC, cN, cz, cY, bO, ai, ai.ptrOnlys, ag, aL, cJ, aF, bp, bg, cH, aE, bq, cB, Nat.reduceBEq, undef]
      omega
    · have hi2 : ¬ ((i : Int) < (n : Int)) := by omega
      have hie : i = n := by omega
      subst hie
      delta D.c76l1
      simp (maxSteps := 4000000) -implicitDefEqProofs only [D.rv76, hi2, InR, Ent.of0, Ent.of1, Ent.of2, Ent.of3, V, bS, bA, bB, ca, cL, cP, gt, lk, bR, cq, cg, cb, cF, bZ, bZ.subCs, cQ, a4, bj, b0, aO, bw, a3, aD, bI, a9, az, a8, aW, bX, cT, cZ, an, aH, cD, cc, cn, cV, cU, ay, ak, ce, bt, zC, argS, a7, cI, c6, cR, aj, aC, aI, aV, bP, leC, bT, cm, cp, cM, cG, aX, aP, cK, ap, cd, bm, bm.viewCs, bf, bf.flatCs, ax, ax.LensOks, Value.oneCell', ↓reduceIte, ite_true, ite_false, if_true, if_false, Nat.reduceAdd, Nat.reduceSub, Nat.reduceMul, Nat.reduceEqDiff, Nat.reduceLT, Nat.reduceLeDiff, reduceCtorEq, Int.reduceToNat, forall_const, implies_true, bv, Ent.mk3, bE, bC, be, a6, bL, a5, br, bK, bu, bh, bH, cu, bJ, cS, rn, co, co.renCs, aN, aT, aR, aR.viewOks, aJ, bz, bz.flatBs, aG, aq, aY, au, aA, bo, bo.keysBs, av, ar, bk, bM, bF, bW, af, af.passKs, aM, aU, ae, ae.lendKs, cr, bU, bV, bG, setInn, am, cW, cO, aB, aZ, bY, bN, aK, aw, Glob.gl, aQ, cj, bn, bQ, bD, ah, cC, cN, cz, cY, bO, ai, ai.ptrOnlys, ag, aL, cJ, aF, bp, bg, cH, aE, bq, cB, Nat.reduceBEq, undef]
end Go.Proofs.Ytfgpbmjmoobcnaa
end
